/- Lemmas of this claim: EncS, RP, RI, RQ, AppW, RRh, RS. Conditions: as named. -/
import Derived.Deep.LoopGhost
import Derived.Test.YtnbclgbicnpmnaaGreatA06
import Derived.Test.YtnbclgbicnpmnaaGreatA09
import Derived.Test.YtnbclgbicnpmnaaGreatA10
import Derived.Test.YtnbclgbicnpmnaaGreatA14
namespace Go.Proofs.YtnbclgbicnpmnaaGreat
open Go.RowKit Go.Sort
set_option maxHeartbeats 0
set_option maxRecDepth 100000
set_option linter.all false
section
theorem Zu2{α:Type}(E:Enc α)(hz:E.z=1)(l:List α){i:Nat}(hi:i<l.length)(x:α)(u:Value)(hu:E.cells [x]=[u]):E.cells (l.set i x)=(E.cells l).set i u:=by
 have e0:l=l.take i++([l[i]]++l.drop (i+1)):=by simp
 have e1:l.set i x=l.take i++([x]++l.drop (i+1)):=by
  rw[Zjh,Zm4 hi];rfl
 have el:(E.cells (l.take i)).length=i:=by rw[E.len,hz,Zp];omega
 have ey:(E.cells [l[i]]).length=1:=by rw[E.len,hz];rfl
 obtain⟨y,hy⟩:∃ y,E.cells [l[i]]=[y]:=List.length_eq_one_iff.1 ey;have e2:E.cells l=E.cells (l.take i)++([y]++E.cells (l.drop (i+1))):=by
  rw[← hy,← E.app,← E.app,← e0]
 rw[e1,E.app,E.app,hu,e2,Ziz,Zm2 (by omega),el];simp
section
variable {α:Type} {E:Enc α} {w:World} {B g n c:Nat} {l:List α}
theorem Own.put(h:Own E w B (.slice (some ⟨g,0,none⟩) n c) l)(hz:E.z=1){i:Nat}(hi:i<l.length)(x:α){u:Value}(hu:E.cells [x]=[u]) :
 Own E (w.setCell ⟨g,i,none⟩ u) B (.slice (some ⟨g,0,none⟩) n c) (l.set i x):=by
 obtain⟨h1,h2⟩:=h;refine⟨by rw[E.len],?_⟩;rcases h2 with⟨h2,_⟩ | ⟨g',cap,cur,he,hb,hg,hn,hm,hs,ht⟩
 ·simp at h2
 simp only[Ye,Yd,Zly,Zls,Zlc]at he;obtain⟨rfl,he2,rfl⟩:=he;refine .inr ⟨g,c,cur.setIfInBounds i u,?_,hb,?_,?_,hm,by simpa using hs,?_⟩
 ·rw[Zf,← he2]
 ·simp[World.setCell,Zkb,hg]
 ·rw[Zf];exact hn
 rw[Zu2 E hz l hi x u hu,← ht,Zf];simp[List.take_set]
theorem Own.some_{v:Value}(h:Own E w B v l)(hl:0<l.length):∃ g c,v=.slice (some ⟨g,0,none⟩) l.length c∧B≤g∧g<w.heap.size∧l.length≤c∧c≤maxLen:=by
 obtain⟨h1,h2⟩:=h;rcases h2 with⟨_,h2⟩ | ⟨g',cap,cur,he,hb,hg,hn,hm,hs,ht⟩
 ·omega
 exact⟨g',cap,he,hb,(Zm3.1 hg).1,hn,hm⟩
theorem Own.at_(h:Own E w B (.slice (some ⟨g,0,none⟩) n c) l){j:Nat}{u:Value}(hu:(E.cells l)[j]?=some u):w.cell? ⟨g,j,none⟩=some u:=by
 have:=h.cells (g:=g) rfl j u hu;rw[Ox]at this;exact this
theorem Own.blk(h:Own E w B (.slice (some ⟨g,0,none⟩) n c) l):B≤g∧g<w.heap.size:=h.lt g rfl
theorem Own.thaw(h:Own E w B (.slice (some ⟨g,0,none⟩) n c) l)(j:Nat):w.frozen? ⟨g,j,none⟩=false:=by
 rcases h.2 with⟨h2,_⟩ | ⟨g',cap,cur,he,hb,hg,hn,hm,hs,ht⟩
 ·simp at h2
 simp only[Ye,Yd,Zly,Zls,Zlc]at he;obtain⟨rfl,he2,rfl⟩:=he;simp[World.frozen?,hg]
theorem Ic{w:World}{p q:Addr}(u:Value)(h:q.block≠p.block):(w.setCell p u).cell? q=w.cell? q:=Zku (Zji w p u q.block h)
end
theorem RdE.take{α:Type}{E:Enc α}{w:World}{S:Nat→Prop}{A:Option Addr}{n c:Nat}{l:List α}(h:RdE E w S (.slice A n c) l)(hz:E.z=1){i:Nat}(hi:i≤l.length):RdE E w S (.slice A i c) (l.take i):=by
 have ecl:E.cells (l.take i)=(E.cells l).take i:=by
  have e:E.cells l=E.cells (l.take i)++E.cells (l.drop i):=by rw[← E.app,List.take_append_drop]
  have el:(E.cells (l.take i)).length=i:=by rw[E.len,hz,Zp];omega
  conv=>rhs;rw[e]
  exact(List.take_left' el).symm
 have hl:(l.take i).length=i:=by rw[Zp];omega
 unfold RdE at h⊢;rw[ecl,hl];obtain⟨h1,A',c',hv,h2,h3,h4⟩:=h;cases hv
 rw[hz]at h1;refine⟨by rw[Zp,h1,hz];omega,A,c,rfl,by omega,h3,fun h0=>?_⟩;obtain⟨g,o,e,hS,hg,hc⟩:=h4 (by omega);refine⟨g,o,e,hS,hg,fun j u hu=>hc j u ?_⟩;rw[Yw]at hu;split at hu
 ·exact hu
 simp at hu
theorem RdE.drop{α:Type}{E:Enc α}{w:World}{S:Nat→Prop}{g o n c:Nat}{l:List α}(h:RdE E w S (.slice (some ⟨g,o,none⟩) n c) l)(hz:E.z=1){i m:Nat}(hi:i≤l.length)(hm:m=l.length-i){A2:Option Addr}{c2:Nat}(hA:0<m→A2=some ⟨g,o+i,none⟩)(hc1:m≤c2)(hc2:c2≤maxLen):RdE E w S (.slice A2 m c2) (l.drop i):=by
 have ecl:E.cells (l.drop i)=(E.cells l).drop i:=by
  have e:E.cells l=E.cells (l.take i)++E.cells (l.drop i):=by rw[← E.app,List.take_append_drop]
  have el:(E.cells (l.take i)).length=i:=by rw[E.len,hz,Zp];omega
  conv=>rhs;rw[e]
  exact(List.drop_left' el).symm
 have hl:(l.drop i).length=m:=by rw[Yz,hm]
 unfold RdE at h⊢;rw[ecl,hl];obtain⟨h1,A',c',hv,h2,h3,h4⟩:=h;cases hv
 rw[hz]at h1;refine⟨by rw[Yz,h1,hm,Zii,hz,Zii],A2,c2,rfl,hc1,hc2,fun h0=>?_⟩;obtain rfl:=hA h0;have h00:0<l.length:=by omega
 obtain⟨g',o',e,hS,hg,hc⟩:=h4 h00;cases e
 refine⟨g,o+i,rfl,hS,hg,fun j u hu=>?_⟩;rw[Yx]at hu;have:=hc (i+j) u hu
 rwa [← Zkx]at this
theorem ints_at{l:List Int}{j:Nat}{x:Int}(h:l[j]?=some x):(Wi.cells l)[j]?=some (.int .i64 x):=by
 show(l.map (Value.int .i64))[j]?=_;rw[Zn,h];rfl
end
theorem Ni{fn:Func}{t u v x:Tmp}(h:fn.results = #[.tmp t,.tmp u,.tmp v,.tmp x])(tmps:Array Value)(P:Program)(w:World) :
 (results fn tmps).run P w=.ok (.tuple #[tmps.getD t undef,tmps.getD u undef,tmps.getD v undef,tmps.getD x undef]) w:=by
 simp[results,h]
theorem Wp(w:World)(t:TypeId)(zs:List Int)(n:Nat)(hn:zs.length=n)(cs:Array Value)(hcs:cs=(zs.map (Value.int .i64)).toArray)(h18:n≤1000):RdE Wi (w.alloc (.cells cs t)) (fun k=>w.heap.size≤k) (.slice (some ⟨w.heap.size,0,none⟩) n n) zs:=by
 subst hn hcs;have h1:(w.alloc (.cells (zs.map (Value.int .i64)).toArray t)).heap[w.heap.size]?=some (.cells (zs.map (Value.int .i64)).toArray t):=Zlo w _;show Rd _ _ 1 _ _ (zs.map (Value.int .i64));refine⟨by simp,_,_,rfl,Yn _,by unfold maxLen;omega,fun _=>⟨_,_,rfl,Yn _,(Zm3.1 h1).1,fun j u hu=>?_⟩⟩;simp only[World.cell?,h1];rw[Zlj,← hu];simp
theorem Pq(c:Int):Bw c=true↔44032≤c∧c≤55203:=by simp[Bw]
def Dc(c:Int):Int :=
 if 4352≤c∧c≤4370 then 1 else if 4449≤c∧c≤4469 then 2 else if 4520≤c∧c≤4546 then 3 else if Bw c=false then 0 else if(c-44032)%28=0 then 4 else 5
theorem Bh(c:Int)(w:World):Calls Tryz.prog 262 #[.int .i64 c] w fun e w'=>e=.returned (.int .i64 (Dc c))∧w=w':=by
 go_enter Tryz.func262,Tryz.ntmps262;cases hs:Bw c
 ·have Hs:=Zlb hs;go_wp2_with (go_at_call 113;refine(Jz _ _).mono ?_;rintro e w' ⟨rfl,rfl⟩;rw[hs]);all_goals
   go_ret;refine⟨Ps ?_,rfl⟩;unfold Dc;rw[Hs.out];simp;try(repeat' split)
   all_goals(simp at *;try omega)
 obtain⟨hc1,hc2⟩:=(Pq c).1 hs;have Hs:=Zlb hs;go_wp2_with (go_at_call 113;refine(Jz _ _).mono ?_;rintro e w' ⟨rfl,rfl⟩;rw[hs]);all_goals
  go_ret;refine⟨Ps ?_,rfl⟩;unfold Dc;rw[Hs.out];simp;try(repeat' split)
  all_goals(simp at *;try omega)
def Lu(c:Int):Value:=if Bw c=true then .tuple #[.int .i64 ((c-44032)/588),.int .i64 ((c-44032)/28%21),.int .i64 ((c-44032)%28),.bool true]else .tuple #[.int .i64 0,.int .i64 0,.int .i64 0,.bool false]
theorem Zrb(c:Int)(w:World)(hs:Bw c=false):Calls Tryz.prog 270 #[.int .i64 c] w fun e w'=>e=.returned (Lu c)∧w=w':=by
 have Hv:=Zlb (show Lu c=.tuple #[.int .i64 0,.int .i64 0,.int .i64 0,.bool false] by unfold Lu;rw[Zm2 (by rw[hs];simp)]);go_enter Tryz.func270,Tryz.ntmps270;go_wp2_with fail;go_loopw [6] (fun o wr=>∃ i:Nat,i≤19∧o=.int .i64 (i:Int)∧w=wr) (fun o _=>19-(intOf o).toNat);case atStart=>exact⟨0,by omega,rfl,rfl⟩
 obtain⟨i,hi,rfl,rfl⟩:=hrel;by_cases hlt:i<19
 ·have hd_i:decide ((i:Int)<(19:Int))=true:=Yf;have i0_i:(0:Int)≤(i:Int):=by omega
  have i1_i:(i:Int)<(19:Int):=by omega
  go_wp2_with fail;go_loopw [7] (fun o wr=>∃ j:Nat,j≤21∧o=.int .i64 (j:Int)∧w=wr) (fun o _=>21-(intOf o).toNat);case atStart=>exact⟨0,by omega,rfl,rfl⟩
  obtain⟨j,hj,rfl,rfl⟩:=hrel;by_cases hlj:j<21
  ·have hd_j:decide ((j:Int)<(21:Int))=true:=Yf;have i0_j:(0:Int)≤(j:Int):=by omega
   have i1_j:(j:Int)<(21:Int):=by omega
   go_wp2_with (go_at_call 113;refine(Jz _ _).mono ?_;rintro e w' ⟨rfl,rfl⟩;rw[hs]);go_roundw;case rel=>exact⟨j+1,by omega,by go_num,by first|rfl|trivial⟩
   (simp[intOf];omega)
  have hd_j:decide ((j:Int)<(21:Int))=false:=Yg;go_wp2_with fail;go_roundw;case rel=>exact⟨i+1,by omega,by go_num,by first|rfl|trivial⟩
  (simp[intOf];omega)
 have hd_i:decide ((i:Int)<(19:Int))=false:=Yg;go_wp2_with fail;(((try simp only[Exit.inBlock,Exit.then]);refine Ys (Ni rfl _ _ _) rfl ?_))
 exact⟨by rw[Hv.out];rfl,rfl⟩
theorem Zue(c:Int)(w:World)(hs:Bw c=true):Calls Tryz.prog 270 #[.int .i64 c] w fun e w'=>e=.returned (Lu c)∧w=w':=by
 have Hv:=Zlb (show Lu c=.tuple #[.int .i64 ((c-44032)/588),.int .i64 ((c-44032)/28%21),.int .i64 ((c-44032)%28),.bool true] by unfold Lu;rw[Zm4 hs]);obtain⟨hc1,hc2⟩:=(Pq c).1 hs;go_enter Tryz.func270,Tryz.ntmps270;go_wp2_with fail;go_loopw [6] (fun o wr=>∃ i:Nat,i≤19∧o=.int .i64 (i:Int)∧Aside (21*(i:Int)≤(c-44032)/28)∧w=wr) (fun o _=>19-(intOf o).toNat);case atStart=>exact⟨0,by omega,rfl,by show _≤_;omega,rfl⟩
 obtain⟨i,hi,rfl,hq,rfl⟩:=hrel;have Hq:=Zlb hq.out;clear hq;by_cases hlt:i<19
 ·have hd_i:decide ((i:Int)<(19:Int))=true:=Yf;have i0_i:(0:Int)≤(i:Int):=by omega
  have i1_i:(i:Int)<(19:Int):=by omega
  go_wp2_with fail;go_loopw [7] (fun o wr=>∃ j:Nat,j≤21∧o=.int .i64 (j:Int)∧Aside (21*(i:Int)+j≤(c-44032)/28)∧w=wr) (fun o _=>21-(intOf o).toNat);case atStart=>exact⟨0,by omega,rfl,by have:=Hq.out;show _≤_;omega,rfl⟩
  obtain⟨j,hj,rfl,hqj,rfl⟩:=hrel;have Hqj:=Zlb hqj.out;clear hqj;by_cases hlj:j<21
  ·have hd_j:decide ((j:Int)<(21:Int))=true:=Yf;have i0_j:(0:Int)≤(j:Int):=by omega
   have i1_j:(j:Int)<(21:Int):=by omega
   have hqj:=Hqj.out;go_wp2_with (go_at_call 113;refine(Jz _ _).mono ?_;rintro e w' ⟨rfl,rfl⟩;rw[hs]);all_goals
    first
    | (go_roundw
       case rel=>exact⟨j+1,by omega,by go_num,by show _≤_;omega,by first|rfl|trivial⟩
       (simp[intOf];omega))
    | ((((try simp only[Exit.inBlock,Exit.then]);refine Ys (Ni rfl _ _ _) rfl ?_))
       refine⟨?_,rfl⟩;rw[Hv.out,show(c-44032)/588=(i:Int) by omega,show(c-44032)/28%21=(j:Int) by omega,show(c-44032)%28=c-44032-(21*(i:Int)+j)*28 by omega];rfl)
  have hd_j:decide ((j:Int)<(21:Int))=false:=Yg;go_wp2_with fail;go_roundw;case rel=>exact⟨i+1,by omega,by go_num,by have:=Hqj.out;show _≤_;omega,by first|rfl|trivial⟩
  (simp[intOf];omega)
 exfalso;have:=Hq.out;omega
theorem Lt(c:Int)(w:World):Calls Tryz.prog 270 #[.int .i64 c] w fun e w'=>e=.returned (Lu c)∧w=w':=by
 cases hs:Bw c
 ·exact Zrb c w hs
 exact Zue c w hs
def Bn(c:Int):List Int:=if Bw c=true then(if(c-44032)%28=0 then[4352+(c-44032)/588,4449+(c-44032)/28%21]else[4352+(c-44032)/588,4449+(c-44032)/28%21,4519+(c-44032)%28])else[]
def Zsv(c:Int)(w:World)(e:Ending)(w':World):Prop:=∃ v,e=.returned v∧RdE Wi w' (fun k=>w.heap.size≤k) v (Bn c)∧Ext w w'
theorem Ca(c:Int)(w:World):Calls Tryz.prog 261 #[.int .i64 c] w (Zsv c w):=by
 go_enter Tryz.func261,Tryz.ntmps261;cases hs:Bw c
 ·have hv:Lu c=.tuple #[.int .i64 0,.int .i64 0,.int .i64 0,.bool false]:=by unfold Lu;rw[Zm2 (by rw[hs];simp)]
  have Hl:=Zlb (show Bn c=[] by unfold Bn;rw[Zm2 (by rw[hs];simp)]);go_wp2_with (go_at_call 270;refine(Lt _ _).mono ?_;rintro e w' ⟨rfl,rfl⟩;rw[hv]);go_ret;refine⟨.slice none 0 0,rfl,?_,Yl _⟩;rw[Hl.out];exact Xx.nil _ _
 obtain⟨hc1,hc2⟩:=(Pq c).1 hs;have hv:Lu c=.tuple #[.int .i64 ((c-44032)/588),.int .i64 ((c-44032)/28%21),.int .i64 ((c-44032)%28),.bool true]:=by unfold Lu;rw[Zm4 hs]
 have Hsy:=Zlb hs;by_cases h0:(c-44032)%28=0
 ·have Hl:=Zlb (show Bn c=[4352+(c-44032)/588,4449+(c-44032)/28%21] by unfold Bn;rw[Zm4 Hsy.out,Zm4 h0]);have q1:((c-44032)%28==0)=true:=by simpa using h0
  go_wp2_with (go_at_call 270;refine(Lt _ _).mono ?_;rintro e w' ⟨rfl,rfl⟩;rw[hv]);go_ret;refine⟨.slice (some ⟨w.heap.size,0,none⟩) 2 2,rfl,?_,(Yl w).alloc _⟩;rw[Hl.out];exact Wp w _ _ 2 rfl _ rfl (by omega)
 have Hl:=Zlb (show Bn c=[4352+(c-44032)/588,4449+(c-44032)/28%21,4519+(c-44032)%28] by unfold Bn;rw[Zm4 Hsy.out,Zm2 h0]);have q1:((c-44032)%28==0)=false:=by simpa using h0
 go_wp2_with (go_at_call 270;refine(Lt _ _).mono ?_;rintro e w' ⟨rfl,rfl⟩;rw[hv]);go_ret;refine⟨.slice (some ⟨w.heap.size,0,none⟩) 3 3,rfl,?_,(Yl w).alloc _⟩;rw[Hl.out];exact Wp w _ _ 3 rfl _ rfl (by omega)
theorem Md{S:Nat→Prop}(T:Tbl)(c:Int)(w:World)(h:Xl w S T)(hne:(Xg T.dec c).length≠2) :
 Calls Tryz.prog 112 #[Vu T,.int .i64 c] w fun e w'=>e=.returned (.bool false)∧Ext w w':=by
 obtain⟨A9,C9,e9,hl9,hc9⟩:=h.dec.shape;have h9:=h.dec.ext ((Yl w).alloc (Xe T));obtain⟨n9,hn9⟩:=gnX (T.dec.length);rw[hn9]at e9 hl9;rw[e9]at h9;have Hn9:=Y4 hn9;have E9:=Y4 e9;have H9:=Y4 h9;unfold maxLen at hc9;clear hn9 e9 h9;have X0:=Y4 ((Yl w).alloc (Xe T));have H:=Y4 (h.up X0.o);have Hb0:=Y4 (Xm w T);clear h;have hfa:=Qv (S:=S) (c:=c) H9.o.2;obtain⟨FA,FC,ef,_,fc⟩:=hfa.shape;obtain⟨d,hd⟩:=gnX ((Xg T.dec c).length);rw[hd]at ef hne;have Hx:=Y4 (Yl (w.alloc (Xe T)));have b9:=(Hb0.o.ext Hx.o).at_ 9 (by omega);rw[show(Qw T)[9]?=some T.decV from rfl,E9.o]at b9;clear hfa Hx hd;have q1:(!((d:Int)==2))=true:=by simp;omega
 have q2:((d:Int)!=2)=true:=q1;have q3:((d:Int)==2)=false:=by simp;omega
 have Hne:=Y4 hne;clear hne;go_enter Tryz.func112,Tryz.ntmps112;go_wp2_with (first|(refine Xw rfl ?_)|(go_at_call 111;refine(Wz _ T.dec c _ H9.o).mono ?_;rintro e w1 ⟨rfl,hx1⟩));have HW:=Y4 (H.o.up hx1);have HD:=Y4 (H9.o.ext hx1);have hun:=Yb;refine Y8 (by kernel_rfl) (by kernel_rfl) ?_;repeat((with_reducible refine Yu ?_);intro K hK;go_simp;first|((with_reducible refine hK _ ?_);clear hK K)|(apply Exists.intro;refine⟨fun _=>?_,hK _ ?_⟩;(first|(go_at_call 147;exact Xy (Wk T _ _ (HW.o.up (⟨_,_,rfl⟩))))|(go_at_call 148;exact Xy (Xp T _ _ (HW.o.up (⟨_,_,rfl⟩))))|(go_at_call 111;exact Xy (Wz _ T.dec _ _ (HD.o.ext (⟨_,_,rfl⟩)))));clear hK K))
 (with_reducible refine Yt ?_)
 intro w2 hy;clear hun;go_wp2_with fail;go_ret;exact⟨rfl,X0.o.trans (hx1.trans hy)⟩
theorem Zsc{S:Nat→Prop}(T:Tbl)(hfin:Zt5 T)(hf:Few T):∀ (n:Nat) (c:Int) (w:World),Dep T.dec n c→Xl w S T →
 Calls Tryz.prog 112 #[Vu T,.int .i64 c] w fun e w'=>e=.returned (.bool (Ek T (n+1) c))∧Ext w w':=by
 intro n
 induction n with
 | zero =>
  intro c w hd h;have hd':Xg T.dec c=[]:=hd;rw[Fu (by rw[hd'];simp)];exact Md T c w h (by rw[hd'];simp)
 | succ n ih =>
  intro c w hd h;by_cases h2:(Xg T.dec c).length=2
  ·obtain⟨x,y,hxy⟩:∃ x y,Xg T.dec c=[x,y]:=by
    match hh:Xg T.dec c with
    | [x,y]=>exact⟨x,y,rfl⟩
    | []=>rw[hh]at h2;simp at h2
    | [_]=>rw[hh]at h2;simp at h2
    | _::_::_::_=>rw[hh]at h2;simp at h2
   refine Zvz T hfin hf (n+1) c x y w h hxy fun hne w' hx=>?_
   refine ih x w' ?_ (h.up hx);rcases hd with hd | ⟨x',r,hd,hd2⟩
   ·rw[hxy]at hd;simp at hd
   rw[hxy]at hd;simp only[Zib]at hd;rw[hd.1];exact hd2
  rw[Fu h2];exact Md T c w h h2
def Gt(T:Tbl)(c:Int):Bool:=Ek T 258 c
theorem J5{S:Nat→Prop}(T:Tbl)(hfin:Zt5 T)(hf:Few T)(c:Int)(w:World)(h:Xl w S T) :
 Calls Tryz.prog 112 #[Vu T,.int .i64 c] w fun e w'=>e=.returned (.bool (Gt T c))∧Ext w w' :=
 Zsc T hfin hf 257 c w (Zp6 hfin c) h
def Tj(T:Tbl)(c:Int):List Int:=if Bn c≠[]then Bn c else(Qf T.dec 257 [c]).getD []
theorem Zvj(c:Int):(Bn c).length≤3:=by
 unfold Bn;split
 ·split<;>simp
 simp
theorem Cf(T:Tbl)(c:Int):(Tj T c).length≤18:=by
 unfold Tj;split
 ·have:=Zvj c;omega
 cases h:Qf T.dec 257 [c]with
 | none=>simp
 | some r=>exact Oe _ _ _ _ (by simp) h
def Zpo(T:Tbl)(c:Int)(w:World)(e:Ending)(w':World):Prop:=∃ v,e=.returned v∧RdE Wi w' (fun k=>w.heap.size≤k) v (Tj T c)∧Ext w w'
theorem Zyg{S:Nat→Prop}(T:Tbl)(hf:Few T)(c:Int)(w:World)(h:Xl w S T):Calls Tryz.prog 247 #[Vu T,.int .i64 c] w (Zpo T c w):=by
 have X0:=Y4 ((Yl w).alloc (Xe T));have H:=Y4 (h.up X0.o);have Hb0:=Y4 (Xm w T);clear h;have Hf:=Y4 hf;clear hf;go_enter Tryz.func247,Tryz.ntmps247;by_cases h0:Bn c=[]
 ·have H0:=Y4 h0;go_wp2_with (first|(refine Xw rfl ?_)|(go_at_call 261;refine(Ca _ _).mono ?_;rintro e w1 ⟨v,rfl,hv,hx1⟩;rw[H0.o]at hv;obtain⟨A1,C1,rfl,_,_⟩:=hv.shape)|(refine Xz (Hb0.o.ext hx1) rfl ?_));cases hfull:Qf T.dec 257 [c]with
  | none =>
   have Hfull:=Y4 hfull;go_wp2_with (first|(refine Xz (Hb0.o.ext hx1) rfl ?_)|(go_at_call 146;refine(Bo T c _ (H.o.up hx1) Hf.o).mono ?_;rintro e w5 hp;unfold Jy at hp;rw[Hfull.o]at hp;obtain⟨rfl,hx5⟩:=hp));go_ret;refine⟨.slice none 0 0,rfl,?_,X0.o.trans (hx1.trans hx5)⟩;rw[show Tj T c=[] by unfold Tj;rw[Zm2 (fun h=>h H0.o),Hfull.o];rfl];exact Xx.nil _ _
  | some r =>
   have Hfull:=Y4 hfull;go_wp2_with (first|(refine Xz (Hb0.o.ext hx1) rfl ?_)|(go_at_call 146;refine(Bo T c _ (H.o.up hx1) Hf.o).mono ?_;rintro e w5 hp;unfold Jy at hp;rw[Hfull.o]at hp;obtain⟨v5,rfl,hv5,hx5⟩:=hp));go_ret;refine⟨v5,rfl,?_,X0.o.trans (hx1.trans hx5)⟩;rw[show Tj T c=r by unfold Tj;rw[Zm2 (fun h=>h H0.o),Hfull.o];rfl];exact Rd.mono hv5 fun k hk _=>Zm5 X0.o.size (Zm5 hx1.size hk)
 have H0:=Y4 h0;obtain⟨n,hn⟩:=gnX ((Bn c).length);have hp:0<n:=by rw[← hn];exact Zjm.2 h0
 have Hn:=Y4 hn;clear hn h0;have d1:decide ((0:Int)<(n:Int))=true:=Yf;have d2:decide (0<n)=true:=Yf hp;go_wp2_with (first|(refine Xw rfl ?_)|(go_at_call 261;refine(Ca _ _).mono ?_;rintro e w1 ⟨v,rfl,hv,hx1⟩;obtain⟨A1,C1,rfl,_,_⟩:=hv.shape;rw[Hn.o]));go_ret;refine⟨.slice A1 n C1,rfl,?_,X0.o.trans hx1⟩;rw[show Tj T c=Bn c from Zm4 H0.o,← Hn.o];exact Rd.mono hv fun k hk _=>Zm5 X0.o.size hk
theorem Zu9{S S':Nat→Prop}(v v':Value)(l l':List Int)(w:World)(h:Xx w S v l)(h':Xx w S' v' l'):Calls Tryz.prog 251 #[v,v'] w (Qy w):=by
 obtain⟨A,C,rfl,hlCC,hCC⟩:=h.shape;obtain⟨n,hnn⟩:=gnX ((l).length);have Hnn:=Y4 hnn;have Hh:=Y4 h;unfold maxLen at hCC;rw[hnn]at hlCC⊢;clear h hnn;obtain⟨B,D,rfl,hlCD,hCD⟩:=h'.shape;obtain⟨k,hnk⟩:=gnX ((l').length);have Hnk:=Y4 hnk;have Hh':=Y4 h';unfold maxLen at hCD;rw[hnk]at hlCD⊢;clear h' hnk;go_enter Tryz.func251,Tryz.ntmps251;by_cases hnk:n=k
 ·subst hnk;have d0:(!((n:Int)==(n:Int)))=false:=by simp
  go_wp2_with fail;go_loopw [13] (fun o wr=>∃ i:Nat,i≤n∧o=.int .i64 (i:Int)∧Ext w wr) (fun o _=>n-(intOf o).toNat);case atStart=>exact⟨0,by omega,rfl,xE⟩
  obtain⟨i,hi_i,rfl,hx⟩:=hrel;have Hx:=Y4 hx;clear hx;by_cases hlt:i<n
  ·obtain⟨hd_i,i0_i,i1_i⟩:=LTl i n;obtain⟨x,hs_x⟩:=geX (l:=(l)) (i:=i) (by have:=Hnn.o;omega);obtain⟨g_x,o_x,c_x,hvv,_,_,_,hgl_x,a0_x⟩:=(Hh.o.ext Hx.o).get hs_x;simp only[Ye]at hvv;obtain⟨rfl,-,rfl⟩:=hvv;have Hs_x:=Y4 hs_x;clear hs_x;obtain⟨y,hs_y⟩:=geX (l:=(l')) (i:=i) (by have:=Hnk.o;omega);obtain⟨g_y,o_y,c_y,hvv,_,_,_,hgl_y,a0_y⟩:=(Hh'.o.ext Hx.o).get hs_y;simp only[Ye]at hvv;obtain⟨rfl,-,rfl⟩:=hvv;have Hs_y:=Y4 hs_y;clear hs_y;have m0:=lat a0_x;have m1:=lat a0_y;go_wp2_with fail;refine Y8 (by kernel_rfl) (by kernel_rfl) ?_;repeat((with_reducible refine Yu ?_);intro K hK;go_simp;(with_reducible refine hK _ ?_);clear hK K)
   (with_reducible refine Yt ?_)
   intro w2 hy;go_wp2_with fail;all_goals
    have hx:=Hx.o
    first
    | (go_roundw
       case rel=>exact⟨i+1,by omega,by go_num,xE⟩
       (simp[intOf];omega))
    | (go_ret;exact⟨_,rfl,xE⟩)
  have hd_i:=GEl i n;go_wp2_with fail;all_goals
   have hx:=Hx.o
   first
   | (go_roundw
      case rel=>exact⟨i+1,by omega,by go_num,xE⟩
      (simp[intOf];omega))
   | (go_ret;exact⟨_,rfl,xE⟩)
 have d0:(!((n:Int)==(k:Int)))=true:=by simp;omega
 have d1:((n:Int)!=(k:Int))=true:=d0;have d2:(!(n==k))=true:=by simp;omega
 have d3:(n !=k)=true:=d2;go_wp2_with fail;all_goals(go_ret;exact⟨_,rfl,xE⟩)
section
section
variable {α:Type} {ops:Array Oper} {rest:List Oper} {o:Oper} {a:Act} {w:World} {Q:Exit→Act→World→Prop} {K:Act→World→Prop} {B:Nat} {S:Nat→Prop} {v x:Value} {l m:List α}
theorem Znr(E:Enc α)(s y:Operand)(t:TypeId)(ho:o.op=.call {callee:=.builtin .append,args:=#[s,y],argTypes:=#[t,t]})(ht:t=E.sl)(hs:a.eval s=v)(hown:Own E w B v l)
 (hx:a.eval y=x) (hr:RdE E w S x m) (h63:l.length+m.length≤maxLen) (hby:(l.length+m.length)*E.bytes≤140737488355328) (hB:B≤w.heap.size)
 (h:∀ A n c w',Grew E w B v (l++m) A n c w'→K (a.put o.dst (.slice A n c)) w'):o.wp Tryz.prog a w K Q:=by
 subst ht;refine Jd w s y E.sl ho B E.ty E.i E.zero E.z E.bytes E.und E.info E.hz E.hs E.hb E.hc E.pos v l.length (E.cells l) hs hown S x m.length (E.cells m) hx hr (E.one m) h63 hby hB ?_;intro v' w' ha;obtain⟨A,n,c,rfl,hg⟩:=Zvk hown ha;exact h A n c w' hg
theorem Mz(E:Enc α)(s y:Operand)(t:TypeId)(hgd:o.guard=none)(ho:o.op=.call {callee:=.builtin .append,args:=#[s,y],argTypes:=#[t,t]})(ht:t=E.sl)(hs:a.eval s=v)(hown:Own E w B v l)
 (hx:a.eval y=x) (hr:RdE E w S x m) (h63:l.length+m.length≤maxLen) (hby:(l.length+m.length)*E.bytes≤140737488355328) (hB:B≤w.heap.size)
 (h:∀ A n c w',Grew E w B v (l++m) A n c w'→wpList Tryz.prog ops Q rest (a.put o.dst (.slice A n c)) w'):wpList Tryz.prog ops Q (o::rest) a w :=
 Zj3 hgd fun _ hK=>Znr E s y t ho ht hs hown hx hr h63 hby hB fun A n c w' hg=>hK _ _ (h A n c w' hg)
end
end
theorem Wr{ops:Array Oper}{rest:List Oper}{dst:Option Nat}{x:Operand}{t:TypeId}{pos:String}{af:Array Edge}{gd:Option (Nat×Bool)}{a:Act}{w:World}{Q:Exit→Act→World→Prop}{b:Nat}{T:Tbl}(h:Jm w b T)
 (hw:Region.wanted {dst:=dst,op:=.load 34 x,type:=t,pos:=pos,after:=af,guard:=gd} (yielded ops a.tmps)=true) (hx:a.eval x=.pointer (some ⟨b,0,none⟩)) (hK:wpList Tryz.prog ops Q rest (a.put dst (Vu T)) w) :
 wpList Tryz.prog ops Q ({dst:=dst,op:=.load 34 x,type:=t,pos:=pos,after:=af,guard:=gd}::rest) a w:=by
 have hu:=L9;rw[Zlk]at hu;obtain⟨d,hu,hd⟩:=hu;show if _ then _ else _
 rw[Zm4 hw];exact .inl (wp_load_mid _ x rfl b 0 hx (Qw T) d h.range hu hd (by rw[Gy];rfl) hK)
def hcO(a b:Int):Option Int :=
 if Dc a=1∧Dc b=2 then some (wrap64 (44032+wrap64 (wrap64 (wrap64 (wrap64 (21*wrap64 (a-4352))+b)-4449)*28)))
 else if Dc a=4∧Dc b=3 then some (wrap64 (wrap64 (a+b)-4519))
 else none
def Zq1:Option Int→Value
 | some c=>.tuple #[.int .i64 c,.bool true]
 | none=>.tuple #[.int .i64 0,.bool false]
theorem Zqh(a b:Int)(w:World):Calls Tryz.prog 249 #[.int .i64 a,.int .i64 b] w fun e w'=>e=.returned (Zq1 (hcO a b))∧w=w':=by
 cases h1:(Dc a==1)
 ·cases h3:(Dc a==4)
  ·have Hc:=Y4 (show hcO a b=none by simp at h1 h3;unfold hcO;rw[Zm2 (fun h=>h1 h.1),Zm2 (fun h=>h3 h.1)]);go_enter Tryz.func249,Tryz.ntmps249;go_wp2_with (go_at_call 262;refine(Bh _ _).mono ?_;rintro e w' ⟨rfl,rfl⟩);go_ret2;exact⟨by rw[Hc.o];rfl,rfl⟩
  cases h4:(Dc b==3)
  ·have Hc:=Y4 (show hcO a b=none by simp at h1 h4;unfold hcO;rw[Zm2 (fun h=>h1 h.1),Zm2 (fun h=>h4 h.2)]);go_enter Tryz.func249,Tryz.ntmps249;go_wp2_with (go_at_call 262;refine(Bh _ _).mono ?_;rintro e w' ⟨rfl,rfl⟩);go_ret2;exact⟨by rw[Hc.o];rfl,rfl⟩
  have Hc:=Y4 (show hcO a b=some (wrap64 (wrap64 (a+b)-4519)) by simp at h1 h3 h4;unfold hcO;rw[Zm2 (fun h=>h1 h.1),Zm4 ⟨h3,h4⟩]);go_enter Tryz.func249,Tryz.ntmps249;go_wp2_with (go_at_call 262;refine(Bh _ _).mono ?_;rintro e w' ⟨rfl,rfl⟩);go_ret2;exact⟨by rw[Hc.o];rfl,rfl⟩
 cases h2:(Dc b==2)
 ·cases h3:(Dc a==4)
  ·have Hc:=Y4 (show hcO a b=none by simp at h2 h3;unfold hcO;rw[Zm2 (fun h=>h2 h.2),Zm2 (fun h=>h3 h.1)]);go_enter Tryz.func249,Tryz.ntmps249;go_wp2_with (go_at_call 262;refine(Bh _ _).mono ?_;rintro e w' ⟨rfl,rfl⟩);go_ret2;exact⟨by rw[Hc.o];rfl,rfl⟩
  simp at h1 h3;omega
 have Hc:=Y4 (show hcO a b=some (wrap64 (44032+wrap64 (wrap64 (wrap64 (wrap64 (21*wrap64 (a-4352))+b)-4449)*28))) by simp at h1 h2;unfold hcO;rw[Zm4 ⟨h1,h2⟩]);go_enter Tryz.func249,Tryz.ntmps249;go_wp2_with (go_at_call 262;refine(Bh _ _).mono ?_;rintro e w' ⟨rfl,rfl⟩);go_ret2;exact⟨by rw[Hc.o];rfl,rfl⟩
def Io(T:Tbl)(a b:Int):List Mp→Option Int
 | []=>none
 | m::r=>if m.to_=[a,b]∧Gt T m.fr=true then some m.fr else Io T a b r
def Ba(T:Tbl)(a b:Int):Option Int:=(hcO a b).or (Io T a b T.dec)
theorem Ai{T:Tbl}{a b:Int}{m:Mp}{r:List Mp}(h:¬ (m.to_=[a,b]∧Gt T m.fr=true)):Io T a b (m::r)=Io T a b r:=by rw[Io,Zm2 h]
theorem Qh{S:Nat→Prop}(T:Tbl)(hfin:Zt5 T)(hf:Few T)(a b:Int)(w:World)(h:Xl w S T):Calls Tryz.prog 227 #[Vu T,.int .i64 a,.int .i64 b] w fun e w'=>e=.returned (Zq1 (Ba T a b))∧Ext w w':=by
 obtain⟨A9,C9,e9,hl9,hc9⟩:=h.dec.shape;have h9:=h.dec.ext ((Yl w).alloc (Xe T));obtain⟨n9,hn9⟩:=gnX (T.dec.length);rw[hn9]at e9 hl9;rw[e9]at h9;have Hn9:=Y4 hn9;have E9:=Y4 e9;have H9:=Y4 h9;unfold maxLen at hc9;clear hn9 e9 h9;have X0:=Y4 ((Yl w).alloc (Xe T));have H:=Y4 (h.up X0.o);have Hb0:=Y4 (Xm w T);clear h;have Hf:=Y4 hf;have HF:=Y4 hfin;clear hf hfin;go_enter Tryz.func227,Tryz.ntmps227;cases hc:hcO a b with
 | some c =>
  have Hc:=Y4 hc;have e1:Zq1 (hcO a b)=.tuple #[.int .i64 c,.bool true]:=by rw[hc];rfl
  go_wp2_with (first|(refine Xw rfl ?_)|(go_at_call 249;refine(Zqh _ _ _).mono ?_;rintro e w' ⟨rfl,rfl⟩;rw[e1]));go_ret2;exact⟨by rw[show Ba T a b=some c by unfold Ba;rw[Hc.o];rfl];rfl,X0.o⟩
 | none =>
  have Hc:=Y4 hc;have e1:Zq1 (hcO a b)=.tuple #[.int .i64 0,.bool false]:=by rw[hc];rfl
  clear hc;have Hx0:=Y4 (Yl (w.alloc (Xe T)));have b9:=(Hb0.o.ext Hx0.o).at_ 9 (by omega);rw[show(Qw T)[9]?=some T.decV from rfl,E9.o]at b9;go_wp2_with (first|(refine Xw rfl ?_)|(go_at_call 249;refine(Zqh _ _ _).mono ?_;rintro e w' ⟨rfl,rfl⟩;rw[e1]));clear b9;go_loopw [23] (fun o wr=>∃ i:Nat,i≤n9∧o=.int .i64 (i:Int)∧Ba T a b=Io T a b (T.dec.drop i)∧Ext (w.alloc (Xe T)) wr) (fun o _=>n9-(intOf o).toNat);case atStart=>exact⟨0,by omega,rfl,by unfold Ba;rw[Hc.o];rfl,Hx0.o⟩
  clear Hx0;obtain⟨i,hi,rfl,hp,hx⟩:=hrel;have Hx:=Y4 hx;have Hp:=Y4 hp;clear hx hp;by_cases hlt:i<n9
  ·obtain⟨hd_i,i0_i,i1_i⟩:=LTl i n9;obtain⟨m,hs_m⟩:=geX (l:=(T.dec)) (i:=i) (by have:=Hn9.o;omega);obtain⟨g_m,o_m,c_m,hvv,_,_,_,hgl_m,a0_m,a1_m,_⟩:=(H9.o.ext Hx.o).get hs_m;simp only[Ye]at hvv;obtain⟨rfl,-,rfl⟩:=hvv;have ti_m:=H9.o.2 _ (Zy hs_m);obtain⟨A_m,C_m,tv_m,tl_m,tc_m⟩:=ti_m.shape;obtain⟨n_m,hn_m⟩:=gnX (m.to_.length);rw[tv_m]at a1_m ti_m;rw[hn_m]at a1_m tl_m;have Hn_m:=Y4 hn_m;unfold maxLen at tc_m;have Hs_m:=Y4 hs_m;have Ti_m:=Y4 ti_m;clear hs_m ti_m tv_m hn_m;have hbl:=(Hb0.o.ext Hx.o).lt;have Hd:=Y4 (show T.dec.drop i=m::T.dec.drop (i+1) from drop_at Hs_m.o);by_cases h2:n_m=2
   ·subst h2;obtain⟨x,y,exy⟩:∃ x y,m.to_=[x,y]:=by
     have h2:=Hn_m.o
     match hh:m.to_ with
     | [x,y]=>exact⟨x,y,rfl⟩
     | []=>rw[hh]at h2;simp at h2
     | [_]=>rw[hh]at h2;simp at h2
     | _::_::_::_=>rw[hh]at h2;simp at h2
    have t:=Ti_m.o;rw[exy]at t;have Hxy:=Y4 exy;clear exy;obtain⟨gg,oo,cc,hv0,_,_,_,_,u⟩:=(t.ext (Hx.o.alloc (.cells #[.int .i64 m.fr,.slice A_m 2 C_m] 106))).get (j:=0) rfl;obtain⟨gg',oo',cc',hv1,_,_,_,_,v⟩:=(t.ext (Hx.o.alloc (.cells #[.int .i64 m.fr,.slice A_m 2 C_m] 106))).get (j:=1) rfl;rw[hv0]at hv1;simp only[Ye,Yd,Zly,Zls,Zlc]at hv1;obtain⟨⟨rfl,rfl⟩,rfl⟩:=hv1;simp only[Ye]at hv0;obtain⟨rfl,-,rfl⟩:=hv0;rw[Zl3]at u;clear t;cases q1:(x==a)
    ·have Hno:=Y4 (show ¬ (m.to_=[a,b]∧Gt T m.fr=true) by rw[Hxy.o];simp at q1⊢;exact fun h=>absurd h q1);go_wp2_with fail;go_roundw;case rel=>exact⟨i+1,by omega,by go_num,by rw[Hp.o,Hd.o,Ai Hno.o],Hx.o.alloc _⟩
     (simp[intOf];omega)
    cases q2:(y==b)
    ·have Hno:=Y4 (show ¬ (m.to_=[a,b]∧Gt T m.fr=true) by rw[Hxy.o];simp at q2⊢;exact fun _ h=>absurd h q2);go_wp2_with fail;go_roundw;case rel=>exact⟨i+1,by omega,by go_num,by rw[Hp.o,Hd.o,Ai Hno.o],Hx.o.alloc _⟩
     (simp[intOf];omega)
    have Hyes:=Y4 (show m.to_=[a,b] by rw[Hxy.o];simp at q1 q2;rw[q1,q2]);cases q3:Gt T m.fr
    ·have Hno:=Y4 (show ¬ (m.to_=[a,b]∧Gt T m.fr=true) by rw[q3];simp);go_wp2_with (first|(refine Wr (Hb0.o.ext (Hx.o.alloc _)) (by go_simp) rfl ?_)|(go_at_call 112;refine(J5 T HF.o Hf.o _ _ (H.o.up (Hx.o.alloc _))).mono ?_;rintro e w5 ⟨rfl,hx5⟩));go_roundw;case rel=>exact⟨i+1,by omega,by go_num,by rw[Hp.o,Hd.o,Ai Hno.o],(Hx.o.alloc _).trans hx5⟩
     (simp[intOf];omega)
    have Hy:=Y4 q3;go_wp2_with (first|(refine Wr (Hb0.o.ext (Hx.o.alloc _)) (by go_simp) rfl ?_)|(go_at_call 112;refine(J5 T HF.o Hf.o _ _ (H.o.up (Hx.o.alloc _))).mono ?_;rintro e w5 ⟨rfl,hx5⟩;have hc5:=fun k=>hx5.cell (p:=⟨wr.heap.size,k,none⟩) (by simp)));go_ret2;exact⟨by rw[Hp.o,Hd.o,Io,Zm4 ⟨Hyes.o,Hy.o⟩];rfl,X0.o.trans ((Hx.o.alloc _).trans hx5)⟩
   have h2b:((n_m:Int)==2)=false:=by simp;omega
   have h2c:(n_m==2)=false:=by simp;omega
   have Hno:=Y4 (show ¬ (m.to_=[a,b]∧Gt T m.fr=true) from fun h=>h2 (by rw[← Hn_m.o,h.1];rfl));clear h2;go_wp2_with fail;go_roundw;case rel=>exact⟨i+1,by omega,by go_num,by rw[Hp.o,Hd.o,Ai Hno.o],Hx.o.alloc _⟩
   (simp[intOf];omega)
  have hd_i:=GEl i n9;go_wp2_with fail;go_ret2;refine⟨?_,X0.o.trans Hx.o⟩;rw[Hp.o,Zkq (by rw[Hn9.o];omega)];rfl
def Zpe(T:Tbl)(l:List Int)(w:World)(e:Ending)(w':World):Prop:=∃ v,e=.returned v∧RdE Wi w' (fun k=>w.heap.size≤k) v (Gb (Wl T.cls) l)∧Ext w w'
theorem Ip{S S':Nat→Prop}(T:Tbl)(v:Value)(l:List Int)(w:World)(h:Xl w S T)(hl:Xx w S' v l)(hll:l.length≤100000):Calls Tryz.prog 248 #[Vu T,v] w (Zpe T l w):=by
 obtain⟨A,C,rfl,hlCC,hCC⟩:=hl.shape;obtain⟨n,hnn⟩:=gnX ((l).length);have Hnn:=Y4 hnn;have Hhl:=Y4 hl;unfold maxLen at hCC;rw[hnn]at hlCC⊢;clear hl hnn;rw[Hnn.o]at hll;have X0:=Y4 ((Yl w).alloc (Xe T));have H:=Y4 (h.up X0.o);have Hb0:=Y4 (Xm w T);clear h;have HL:=Y4 (show Xx (w.alloc (Xe T)) S' (.slice A n C) l by have:=Hhl.o.ext X0.o;rwa [Hnn.o]at this);obtain⟨B,hB⟩:=gnX ((w.alloc (Xe T)).heap.size);have HB:=Y4 hB;clear hB;go_enter Tryz.func248,Tryz.ntmps248;go_wp2_with (first|(refine Xw rfl ?_)|(at_builtin;refine Xu Wi _ _ _ rfl rfl rfl rfl (Own.nil Wi _ B) rfl HL.o (by rw[Hnn.o];simp;omega) (by show 8≤1000;omega) (by have:=HB.o;omega) ?_;intro A1 n1 c1 w1 hg;have Hg:=Y4 hg;clear hg));have Hx1:=Y4 (Hg.o.ext (w.alloc (Xe T)) (Yl _) (by rw[HB.o];exact Yn _));have hn1:n1=n:=by rw[Hg.o.len,Zo,Hnn.o]
 subst hn1;have Ho1:=Y4 (show Own Wi w1 B (.slice A1 n1 c1) l by have:=Hg.o.own;rwa [Zo]at this);clear Hg;go_loopg [6] (O2 (Wl T.cls) l+1) (fun gk mv wr=>∃ (b:Bool) (cur:List Int),mv=.bool b∧Own Wi wr B (.slice A1 n1 c1) cur∧cur.length=n1∧Ext (w.alloc (Xe T)) wr∧((b=true∧Gb (Wl T.cls) cur=Gb (Wl T.cls) l∧gk=O2 (Wl T.cls) cur+1)∨(b=false∧cur=Gb (Wl T.cls) l∧gk=0)));case atStart=>exact⟨true,l,rfl,Ho1.o,Hnn.o,Hx1.o,.inl ⟨rfl,rfl,rfl⟩⟩
 clear Ho1 Hx1;obtain⟨b,cur,rfl,ho,hcn,hx,hst⟩:=hrel;have Hx:=Y4 hx;have Ho:=Y4 ho;have Hcn:=Y4 hcn;clear hx ho hcn;rcases hst with⟨rfl,heq,hgk⟩ | ⟨rfl,heq,rfl⟩
 ·have Heq:=Y4 heq;have Hgk:=Y4 hgk;clear heq hgk;rename World=>wo
  go_wp2_with fail;go_loopw [7,6] (fun o mv wr=>∃ (k:Nat) (b:Bool),k≤n1-1∧o=.int .i64 ((k+1:Nat):Int)∧mv=.bool b∧Own Wi wr B (.slice A1 n1 c1) (Zzq (Wl T.cls) cur k)∧(b=false→Zzq (Wl T.cls) cur k=cur)∧(b=true→O2 (Wl T.cls) (Zzq (Wl T.cls) cur k)<O2 (Wl T.cls) cur)∧Ext (w.alloc (Xe T)) wr) (fun o _ _=>n1+1-(intOf o).toNat);case atStart=>exact⟨0,false,by omega,rfl,rfl,Ho.o,fun _=>rfl,fun h=>absurd h (by decide),Hx.o⟩
  clear Ho Hx;obtain⟨k,b,hk,rfl,rfl,ho,hf,ht,hx⟩:=hrel;obtain⟨p,hp⟩:=gnX (Zzq (Wl T.cls) cur k);rw[hp]at ho hf ht;have hpl:p.length=n1:=by rw[← hp,Pw,Hcn.o]
  have Hx:=Y4 hx;have Ho:=Y4 ho;have Hf:=Y4 hf;have Ht:=Y4 ht;have Hp:=Y4 hp;have Hpl:=Y4 hpl;clear hx ho hf ht hp hpl;by_cases hlt:k+1<n1
  ·have hd:decide (((k+1:Nat):Int)<(n1:Int))=true:=Yf;have hd2:decide ((k:Int)+1<(n1:Int))=true:=Yf;obtain⟨g,c,e,hg1,hg2,hg3,hg4⟩:=Ho.o.some_ (by rw[Hpl.o];omega);simp only[Ye]at e;obtain⟨rfl,-,rfl⟩:=e;rw[Hpl.o]at hg3;unfold maxLen at hg4;obtain⟨x,hx0⟩:=geX (l:=p) (i:=k) (by rw[Hpl.o];omega);obtain⟨y,hy0⟩:=geX (l:=p) (i:=k+1) (by rw[Hpl.o];omega);have Hx0:=Y4 hx0;have Hy0:=Y4 hy0;have m0:=lat (Ho.o.at_ (ints_at hx0));have m1:=lat (Ho.o.at_ (ints_at hy0));clear hx0 hy0;have HW:=Y4 (H.o.up Hx.o);have hC:∀ w',(∃ p:Wf,w'=later wr p.n p.os)→Jm w' w.heap.size T:=fun w' ⟨p,e⟩=>by rw[e];exact(Hb0.o.ext Hx.o).ext (⟨_,_,rfl⟩)
   have e1:(((k+1:Nat):Int)-1)=(k:Int):=by omega
   have q1:IntKind.i64.wrap (((k+1:Nat):Int)-1)=(k:Int):=by rw[Yp _ (by omega)];omega
   have q2:IntKind.i64.wrap ((k:Int)+1-1)=(k:Int):=by rw[Yp _ (by omega)];omega
   have q8:IntKind.i64.wrap (k:Int)=(k:Int):=Yp _ (by omega);have q3:(0:Int)≤(k:Int):=by omega
   have q4:(k:Int)<(n1:Int):=by omega
   have q5:(0:Int)≤(k:Int)+1:=by omega
   have q6:(k:Int)+1<(n1:Int):=by omega
   have q7:k<n1:=by omega
   have hun:=Yb;go_wp2_with fail;refine Y8 (by kernel_rfl) (by kernel_rfl) ?_;repeat(first|((with_reducible refine Xk ?_ ?_ hC ?_);(focus(go_simp;done));rfl)|((with_reducible refine Yu ?_);intro K hK;go_simp;first|((with_reducible refine hK _ ?_);clear hK K)|(apply Exists.intro;refine⟨fun _=>?_,hK _ ?_⟩;(go_at_call 148;exact Xy (Xp T _ _ (HW.o.up (⟨_,_,rfl⟩))));clear hK K)))
   (with_reducible refine Yt ?_)
   intro w2 hy;clear hun;try simp only[Yc]
   have Hx2:=Y4 (Hx.o.trans hy);have Ho2:=Y4 (Ho.o.ext hy);clear hy m0 m1 HW hC;have c0:=Ho2.o.at_ (ints_at Hx0.o);have c1:=Ho2.o.at_ (ints_at Hy0.o);have t0:=Ho2.o.thaw k;have t1:=Ho2.o.thaw (k+1);have hgb:=Ho2.o.blk.2;have q9:IntKind.i64.wrap ((k:Int)+1+1)=((k+1+1:Nat):Int):=by rw[Yp _ (by omega)];omega
   by_cases hsw:0<Wl T.cls y∧Wl T.cls y<Wl T.cls x
   ·have d1:decide (0<Wl T.cls y)=true:=Yf hsw.1;have d2:decide (Wl T.cls y<Wl T.cls x)=true:=Yf hsw.2;have Hsw:=Y4 hsw;clear hsw;have Ho3:=Y4 ((Ho2.o.put rfl (i:=k) (by rw[Hpl.o];omega) y (u:=.int .i64 y) rfl).put rfl (i:=k+1) (by rw[Zf,Hpl.o];omega) x (u:=.int .i64 x) rfl);have Hsame:=Y4 (show Zzq (Wl T.cls) cur (k+1)=(p.set k y).set (k+1) x by rw[Zzq,Hp.o];exact Ztl (by rw[Zkj];exact Hx0.o) Hy0.o Hsw.o);have Hlt:=Y4 (show O2 (Wl T.cls) (Zzq (Wl T.cls) cur (k+1))<O2 (Wl T.cls) cur by
     rw[Zzq,Hp.o];have h1:=Zmt (f:=Wl T.cls) Hx0.o Hy0.o Hsw.o;cases b with
     | true=>have:=Ht.o rfl;omega
     | false=>rw[Hf.o rfl]at h1⊢;exact h1)
    go_wp2_with fail;go_region;all_goals
     go_wp2_with fail;go_roundw;case rel=>exact⟨k+1,true,by omega,by go_num,rfl,by rw[Hsame.o];exact Ho3.o,fun h=>absurd h (by decide),fun _=>Hlt.o,(Ya (Ya Hx2.o (by have:=HB.o;show _≤g;omega) _) (by have:=HB.o;show _≤g;omega) _).drew⟩
     (simp[intOf];omega)
   have Hsw:=Y4 hsw;have Hsame:=Y4 (show Zzq (Wl T.cls) cur (k+1)=p by rw[Zzq,Hp.o];exact Zms (by rw[Zkj];exact Hx0.o) Hy0.o hsw);by_cases d0:0<Wl T.cls y
   ·have d1:decide (0<Wl T.cls y)=true:=Yf d0;have d2:decide (Wl T.cls y<Wl T.cls x)=false:=Yg fun h=>hsw ⟨d0,h⟩
    clear hsw d0;go_wp2_with fail;go_roundw;case rel=>exact⟨k+1,b,by omega,by go_num,rfl,by rw[Hsame.o];exact Ho2.o,by rw[Hsame.o];exact Hf.o,by rw[Hsame.o];exact Ht.o,Hx2.o⟩
    (simp[intOf];omega)
   have d1:decide (0<Wl T.cls y)=false:=Yg d0;clear hsw d0;go_wp2_with fail;go_roundw;case rel=>exact⟨k+1,b,by omega,by go_num,rfl,by rw[Hsame.o];exact Ho2.o,by rw[Hsame.o];exact Hf.o,by rw[Hsame.o];exact Ht.o,Hx2.o⟩
   (simp[intOf];omega)
  have hd:decide (((k+1:Nat):Int)<(n1:Int))=false:=Yg;have hd2:decide ((k:Int)+1<(n1:Int))=false:=Yg;have hk2:k=cur.length-1:=by rw[Hcn.o];omega
  have Hk2:=Y4 (show p=Zxt (Wl T.cls) cur by rw[← Hp.o,hk2];rfl);clear hk2;go_wp2_with fail;cases b with
  | true =>
   go_roundg (O2 (Wl T.cls) p+1);case measure=>have:=Ht.o rfl;have:=Hgk.o;omega
   case rel =>
    refine⟨true,p,rfl,Ho.o,Hpl.o,Hx.o,.inl ⟨rfl,?_,rfl⟩⟩;rw[← Heq.o,Zrd (f:=Wl T.cls) (l:=cur) (by rw[← Hk2.o];exact Ht.o rfl),← Hk2.o]
  | false =>
   go_roundg 0;case measure=>have:=Hgk.o;omega
   case rel =>
    refine⟨false,p,rfl,Ho.o,Hpl.o,Hx.o,.inr ⟨rfl,?_,rfl⟩⟩;have h1:=Hf.o rfl;rw[← Heq.o,Zuk (f:=Wl T.cls) (l:=cur) (by rw[← Hk2.o];exact h1)];exact h1
 have Heq:=Y4 heq;clear heq;go_wp2_with fail;go_ret;refine⟨_,rfl,?_,X0.o.trans Hx.o⟩;rw[← Heq.o];have:=Ho.o.rd;rw[← Hcn.o]at this⊢;exact Rd.mono this fun k hk _=>Zm5 (by have:=X0.o.size;have:=HB.o;omega) hk
end Go.Proofs.YtnbclgbicnpmnaaGreat
