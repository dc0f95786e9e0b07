/- Lemmas of this claim: EncS, AppW, RP, RI, RQ, Gt, Gb, Gc, RRh, RS. Conditions: as named. -/
import Derived.Test.YtnbclgbicnpmnaaGreatA09
import Derived.Test.YtnbclgbicnpmnaaGreatA11
namespace Go.Proofs.YtnbclgbicnpmnaaGreat
open Go.RowKit Go.Sort Tryz
set_option maxHeartbeats 0
set_option maxRecDepth 100000
set_option linter.all false
section
theorem Zpr{α:Type}(E:Enc α)(hz:E.z=1)(l:List α){i:Nat}(hi:i<l.length)(x:α)(u:Value)(hu:E.cells [x]=[u]):E.cells (l.set i x)=(E.cells l).set i u:=by
 have e0:l=l.take i++([l[i]]++l.drop (i+1)):=by simp
 have e1:l.set i x=l.take i++([x]++l.drop (i+1)):=by
  rw[Zdp,Zgn hi];rfl
 have el:(E.cells (l.take i)).length=i:=by rw[E.len,hz,Zp];omega
 have ey:(E.cells [l[i]]).length=1:=by rw[E.len,hz];rfl
 obtain⟨y,hy⟩:∃ y,E.cells [l[i]]=[y]:=List.length_eq_one_iff.1 ey;have e2:E.cells l=E.cells (l.take i)++([y]++E.cells (l.drop (i+1))):=by
  rw[← hy,← E.app,← E.app,← e0]
 rw[e1,E.app,E.app,hu,e2,Zd6,Zgq (by omega),el];simp
section
variable {α:Type} {E:Enc α} {w:World} {B g n c:Nat} {l:List α}
theorem Own.put(h:Own E w B (.slice (some ⟨g,0,none⟩) n c) l)(hz:E.z=1){i:Nat}(hi:i<l.length)(x:α){u:Value}(hu:E.cells [x]=[u]) :
 Own E (w.setCell ⟨g,i,none⟩ u) B (.slice (some ⟨g,0,none⟩) n c) (l.set i x):=by
 obtain⟨h1,h2⟩:=h;refine⟨by rw[E.len],?_⟩;rcases h2 with⟨h2,_⟩ | ⟨g',cap,cur,he,hb,hg,hn,hm,hs,ht⟩
 ·simp at h2
 simp only[Yd,Yc,Zga,Zg0,Zfw]at he;obtain⟨rfl,he2,rfl⟩:=he;refine .inr ⟨g,c,cur.setIfInBounds i u,?_,hb,?_,?_,hm,by simpa using hs,?_⟩
 ·rw[Zf,← he2]
 ·simp[World.setCell,Zes,hg]
 ·rw[Zf];exact hn
 rw[Zpr E hz l hi x u hu,← ht,Zf];simp[List.take_set]
theorem Own.some_{v:Value}(h:Own E w B v l)(hl:0<l.length):∃ g c,v=.slice (some ⟨g,0,none⟩) l.length c∧B≤g∧g<w.heap.size∧l.length≤c∧c≤maxLen:=by
 obtain⟨h1,h2⟩:=h;rcases h2 with⟨_,h2⟩ | ⟨g',cap,cur,he,hb,hg,hn,hm,hs,ht⟩
 ·omega
 exact⟨g',cap,he,hb,(Zgk.1 hg).1,hn,hm⟩
theorem Own.at_(h:Own E w B (.slice (some ⟨g,0,none⟩) n c) l){j:Nat}{u:Value}(hu:(E.cells l)[j]?=some u):w.cell? ⟨g,j,none⟩=some u:=by
 have:=h.cells (g:=g) rfl j u hu;rw[Br]at this;exact this
theorem Own.blk(h:Own E w B (.slice (some ⟨g,0,none⟩) n c) l):B≤g∧g<w.heap.size:=h.lt g rfl
theorem Own.thaw(h:Own E w B (.slice (some ⟨g,0,none⟩) n c) l)(j:Nat):w.frozen? ⟨g,j,none⟩=false:=by
 rcases h.2 with⟨h2,_⟩ | ⟨g',cap,cur,he,hb,hg,hn,hm,hs,ht⟩
 ·simp at h2
 simp only[Yd,Yc,Zga,Zg0,Zfw]at he;obtain⟨rfl,he2,rfl⟩:=he;simp[World.frozen?,hg]
theorem Zxm{w:World}{p q:Addr}(u:Value)(h:q.block≠p.block):(w.setCell p u).cell? q=w.cell? q:=Zfc (Zds w p u q.block h)
end
theorem RdE.take{α:Type}{E:Enc α}{w:World}{S:Nat→Prop}{A:Option Addr}{n c:Nat}{l:List α}(h:RdE E w S (.slice A n c) l)(hz:E.z=1){i:Nat}(hi:i≤l.length):RdE E w S (.slice A i c) (l.take i):=by
 have ecl:E.cells (l.take i)=(E.cells l).take i:=by
  have e:E.cells l=E.cells (l.take i)++E.cells (l.drop i):=by rw[← E.app,Zdc]
  have el:(E.cells (l.take i)).length=i:=by rw[E.len,hz,Zp];omega
  conv=>rhs;rw[e]
  exact(List.take_left' el).symm
 have hl:(l.take i).length=i:=by rw[Zp];omega
 unfold RdE at h⊢;rw[ecl,hl];obtain⟨h1,A',c',hv,h2,h3,h4⟩:=h;cases hv
 rw[hz]at h1;refine⟨by rw[Zp,h1,hz];omega,A,c,rfl,by omega,h3,fun h0=>?_⟩;obtain⟨g,o,e,hS,hg,hc⟩:=h4 (by omega);refine⟨g,o,e,hS,hg,fun j u hu=>hc j u ?_⟩;rw[Yw]at hu;split at hu
 ·exact hu
 simp at hu
theorem RdE.drop{α:Type}{E:Enc α}{w:World}{S:Nat→Prop}{g o n c:Nat}{l:List α}(h:RdE E w S (.slice (some ⟨g,o,none⟩) n c) l)(hz:E.z=1){i m:Nat}(hi:i≤l.length)(hm:m=l.length-i){A2:Option Addr}{c2:Nat}(hA:0<m→A2=some ⟨g,o+i,none⟩)(hc1:m≤c2)(hc2:c2≤maxLen):RdE E w S (.slice A2 m c2) (l.drop i):=by
 have ecl:E.cells (l.drop i)=(E.cells l).drop i:=by
  have e:E.cells l=E.cells (l.take i)++E.cells (l.drop i):=by rw[← E.app,Zdc]
  have el:(E.cells (l.take i)).length=i:=by rw[E.len,hz,Zp];omega
  conv=>rhs;rw[e]
  exact(List.drop_left' el).symm
 have hl:(l.drop i).length=m:=by rw[Yz,hm]
 unfold RdE at h⊢;rw[ecl,hl];obtain⟨h1,A',c',hv,h2,h3,h4⟩:=h;cases hv
 rw[hz]at h1;refine⟨by rw[Yz,h1,hm,Zck,hz,Zck],A2,c2,rfl,hc1,hc2,fun h0=>?_⟩;obtain rfl:=hA h0;have h00:0<l.length:=by omega
 obtain⟨g',o',e,hS,hg,hc⟩:=h4 h00;cases e
 refine⟨g,o+i,rfl,hS,hg,fun j u hu=>?_⟩;rw[Yx]at hu;have:=hc (i+j) u hu
 rwa [← Zfh]at this
theorem ints_at{l:List Int}{j:Nat}{x:Int}(h:l[j]?=some x):(Ww.cells l)[j]?=some (.int .i64 x):=by
 show(l.map (Value.int .i64))[j]?=_;rw[Zn,h];rfl
end
section
section
variable {α:Type} {ops:Array Oper} {rest:List Oper} {o:Oper} {a:Act} {w:World} {Q:Exit→Act→World→Prop} {K:Act→World→Prop} {B:Nat} {S:Nat→Prop} {v x:Value} {l m:List α}
theorem Zoa(E:Enc α)(s y:Operand)(t:TypeId)(ho:o.op=.call {callee:=.builtin .append,args:=#[s,y],argTypes:=#[t,t]})(ht:t=E.sl)(hs:a.eval s=v)(hown:Own E w B v l)
 (hx:a.eval y=x) (hr:RdE E w S x m) (h63:l.length+m.length≤maxLen) (hby:(l.length+m.length)*E.bytes≤140737488355328) (hB:B≤w.heap.size)
 (h:∀ A n c w',Grew E w B v (l++m) A n c w'→K (a.put o.dst (.slice A n c)) w'):o.wp prog a w K Q:=by
 subst ht;refine Kf w s y E.sl ho B E.ty E.i E.zero E.z E.bytes E.und E.info E.hz E.hs E.hb E.hc E.pos v l.length (E.cells l) hs hown S x m.length (E.cells m) hx hr (E.one m) h63 hby hB ?_;intro v' w' ha;obtain⟨A,n,c,rfl,hg⟩:=Zrg hown ha;exact h A n c w' hg
theorem Pt(E:Enc α)(s y:Operand)(t:TypeId)(hgd:o.guard=none)(ho:o.op=.call {callee:=.builtin .append,args:=#[s,y],argTypes:=#[t,t]})(ht:t=E.sl)(hs:a.eval s=v)(hown:Own E w B v l)
 (hx:a.eval y=x) (hr:RdE E w S x m) (h63:l.length+m.length≤maxLen) (hby:(l.length+m.length)*E.bytes≤140737488355328) (hB:B≤w.heap.size)
 (h:∀ A n c w',Grew E w B v (l++m) A n c w'→wpList prog ops Q rest (a.put o.dst (.slice A n c)) w'):wpList prog ops Q (o::rest) a w :=
 Zdd hgd fun _ hK=>Zoa E s y t ho ht hs hown hx hr h63 hby hB fun A n c w' hg=>hK _ _ (h A n c w' hg)
theorem Zzt(E:Enc α){F:Prop}(s y:Operand)(t:TypeId)(hgd:o.guard=none)(ho:o.op=.call {callee:=.builtin .append,args:=#[s,y],argTypes:=#[t,t]})(ht:t=E.sl)(hs:a.eval s=v)(hown:Own E w B v l)
 (hx:a.eval y=x) (hr:RdE E w S x m) (h63:l.length+m.length≤maxLen) (hby:(l.length+m.length)*E.bytes≤140737488355328) (hB:B≤w.heap.size)
 (h:∀ A n c w',Grew E w B v (l++m) A n c w'→K (a.put o.dst (.slice A n c)) w') :
 if Region.wanted o (yielded ops a.tmps)=true then Oper.wp prog o a w K Q else F:=by
 have hw:Region.wanted o (yielded ops a.tmps)=true:=by simp[Region.wanted,hgd]
 rw[Zgn hw];exact Zoa E s y t ho ht hs hown hx hr h63 hby hB h
end
end
theorem Rj{fn:Func}{t u v x:Tmp}(h:fn.results = #[.tmp t,.tmp u,.tmp v,.tmp x])(tmps:Array Value)(P:Program)(w:World) :
 (results fn tmps).run P w=.ok (.tuple #[tmps.getD t undef,tmps.getD u undef,tmps.getD v undef,tmps.getD x undef]) w:=by
 simp[results,h]
theorem Wl(w:World)(t:TypeId)(zs:List Int)(n:Nat)(hn:zs.length=n)(cs:Array Value)(hcs:cs=(zs.map (Value.int .i64)).toArray)(h18:n≤1000):RdE Ww (w.alloc (.cells cs t)) (fun k=>w.heap.size≤k) (.slice (some ⟨w.heap.size,0,none⟩) n n) zs:=by
 subst hn hcs;have h1:(w.alloc (.cells (zs.map (Value.int .i64)).toArray t)).heap[w.heap.size]?=some (.cells (zs.map (Value.int .i64)).toArray t):=Zg3 w _;show Rd _ _ 1 _ _ (zs.map (Value.int .i64));refine⟨by simp,_,_,rfl,Ym _,by unfold maxLen;omega,fun _=>⟨_,_,rfl,Ym _,(Zgk.1 h1).1,fun j u hu=>?_⟩⟩;simp only[World.cell?,h1];rw[Zg7,← hu];simp
theorem Tm(c:Int):Ee c=true↔44032≤c∧c≤55203:=by simp[Ee]
def Ln(c:Int):Int :=
 if 4352≤c∧c≤4370 then 1 else if 4449≤c∧c≤4469 then 2 else if 4520≤c∧c≤4546 then 3 else if Ee c=false then 0 else if(c-44032)%28=0 then 4 else 5
theorem Dm(c:Int)(w:World):Calls prog 262 #[.int .i64 c] w fun e w'=>e=.returned (.int .i64 (Ln c))∧w=w':=by
 go_enter func262,ntmps262;cases hs:Ee c
 ·have Hs:=Zfy hs;go_wp2_with (go_at_call 113;refine(Ja _ _).mono ?_;rintro e w' ⟨rfl,rfl⟩;rw[hs]);all_goals
   go_ret;refine⟨Tp ?_,rfl⟩;unfold Ln;rw[Hs.out];simp;try(repeat' split)
   all_goals(simp at *;try omega)
 obtain⟨hc1,hc2⟩:=(Tm c).1 hs;have Hs:=Zfy hs;go_wp2_with (go_at_call 113;refine(Ja _ _).mono ?_;rintro e w' ⟨rfl,rfl⟩;rw[hs]);all_goals
  go_ret;refine⟨Tp ?_,rfl⟩;unfold Ln;rw[Hs.out];simp;try(repeat' split)
  all_goals(simp at *;try omega)
def Ot(c:Int):Value:=if Ee c=true then .tuple #[.int .i64 ((c-44032)/588),.int .i64 ((c-44032)/28%21),.int .i64 ((c-44032)%28),.bool true]else .tuple #[.int .i64 0,.int .i64 0,.int .i64 0,.bool false]
theorem Zly(c:Int)(w:World)(hs:Ee c=false):Calls prog 270 #[.int .i64 c] w fun e w'=>e=.returned (Ot c)∧w=w':=by
 have Hv:=Zfy (show Ot c=.tuple #[.int .i64 0,.int .i64 0,.int .i64 0,.bool false] by unfold Ot;rw[Zgq (by rw[hs];simp)]);go_enter func270,ntmps270;go_wp2_with fail;go_loopw [6] (fun o wr=>∃ i:Nat,i≤19∧o=.int .i64 (i:Int)∧w=wr) (fun o _=>19-(intOf o).toNat);case atStart=>exact⟨0,by omega,rfl,rfl⟩
 obtain⟨i,hi,rfl,rfl⟩:=hrel;by_cases hlt:i<19
 ·have hd_i:decide ((i:Int)<(19:Int))=true:=Ye;have i0_i:(0:Int)≤(i:Int):=by omega
  have i1_i:(i:Int)<(19:Int):=by omega
  go_wp2_with fail;go_loopw [7] (fun o wr=>∃ j:Nat,j≤21∧o=.int .i64 (j:Int)∧w=wr) (fun o _=>21-(intOf o).toNat);case atStart=>exact⟨0,by omega,rfl,rfl⟩
  obtain⟨j,hj,rfl,rfl⟩:=hrel;by_cases hlj:j<21
  ·have hd_j:decide ((j:Int)<(21:Int))=true:=Ye;have i0_j:(0:Int)≤(j:Int):=by omega
   have i1_j:(j:Int)<(21:Int):=by omega
   go_wp2_with (go_at_call 113;refine(Ja _ _).mono ?_;rintro e w' ⟨rfl,rfl⟩;rw[hs]);go_roundw;case rel=>exact⟨j+1,by omega,by go_num,by first|rfl|trivial⟩
   (simp[intOf];omega)
  have hd_j:decide ((j:Int)<(21:Int))=false:=Yf;go_wp2_with fail;go_roundw;case rel=>exact⟨i+1,by omega,by go_num,by first|rfl|trivial⟩
  (simp[intOf];omega)
 have hd_i:decide ((i:Int)<(19:Int))=false:=Yf;go_wp2_with fail;(((try simp only[Exit.inBlock,Exit.then]);refine Ys (Rj rfl _ _ _) rfl ?_))
 exact⟨by rw[Hv.out];rfl,rfl⟩
theorem Zpz(c:Int)(w:World)(hs:Ee c=true):Calls prog 270 #[.int .i64 c] w fun e w'=>e=.returned (Ot c)∧w=w':=by
 have Hv:=Zfy (show Ot c=.tuple #[.int .i64 ((c-44032)/588),.int .i64 ((c-44032)/28%21),.int .i64 ((c-44032)%28),.bool true] by unfold Ot;rw[Zgn hs]);obtain⟨hc1,hc2⟩:=(Tm c).1 hs;go_enter func270,ntmps270;go_wp2_with fail;go_loopw [6] (fun o wr=>∃ i:Nat,i≤19∧o=.int .i64 (i:Int)∧Aside (21*(i:Int)≤(c-44032)/28)∧w=wr) (fun o _=>19-(intOf o).toNat);case atStart=>exact⟨0,by omega,rfl,by show _≤_;omega,rfl⟩
 obtain⟨i,hi,rfl,hq,rfl⟩:=hrel;have Hq:=Zfy hq.out;clear hq;by_cases hlt:i<19
 ·have hd_i:decide ((i:Int)<(19:Int))=true:=Ye;have i0_i:(0:Int)≤(i:Int):=by omega
  have i1_i:(i:Int)<(19:Int):=by omega
  go_wp2_with fail;go_loopw [7] (fun o wr=>∃ j:Nat,j≤21∧o=.int .i64 (j:Int)∧Aside (21*(i:Int)+j≤(c-44032)/28)∧w=wr) (fun o _=>21-(intOf o).toNat);case atStart=>exact⟨0,by omega,rfl,by have:=Hq.out;show _≤_;omega,rfl⟩
  obtain⟨j,hj,rfl,hqj,rfl⟩:=hrel;have Hqj:=Zfy hqj.out;clear hqj;by_cases hlj:j<21
  ·have hd_j:decide ((j:Int)<(21:Int))=true:=Ye;have i0_j:(0:Int)≤(j:Int):=by omega
   have i1_j:(j:Int)<(21:Int):=by omega
   have hqj:=Hqj.out;go_wp2_with (go_at_call 113;refine(Ja _ _).mono ?_;rintro e w' ⟨rfl,rfl⟩;rw[hs]);all_goals
    first
    | (go_roundw
       case rel=>exact⟨j+1,by omega,by go_num,by show _≤_;omega,by first|rfl|trivial⟩
       (simp[intOf];omega))
    | ((((try simp only[Exit.inBlock,Exit.then]);refine Ys (Rj rfl _ _ _) rfl ?_))
       refine⟨?_,rfl⟩;rw[Hv.out,show(c-44032)/588=(i:Int) by omega,show(c-44032)/28%21=(j:Int) by omega,show(c-44032)%28=c-44032-(21*(i:Int)+j)*28 by omega];rfl)
  have hd_j:decide ((j:Int)<(21:Int))=false:=Yf;go_wp2_with fail;go_roundw;case rel=>exact⟨i+1,by omega,by go_num,by have:=Hqj.out;show _≤_;omega,by first|rfl|trivial⟩
  (simp[intOf];omega)
 exfalso;have:=Hq.out;omega
theorem Oq(c:Int)(w:World):Calls prog 270 #[.int .i64 c] w fun e w'=>e=.returned (Ot c)∧w=w':=by
 cases hs:Ee c
 ·exact Zly c w hs
 exact Zpz c w hs
def Dv(c:Int):List Int:=if Ee c=true then(if(c-44032)%28=0 then[4352+(c-44032)/588,4449+(c-44032)/28%21]else[4352+(c-44032)/588,4449+(c-44032)/28%21,4519+(c-44032)%28])else[]
def Zny(c:Int)(w:World)(e:Ending)(w':World):Prop:=∃ v,e=.returned v∧RdE Ww w' (fun k=>w.heap.size≤k) v (Dv c)∧Ext w w'
theorem Zwq(c:Int)(w:World):Calls prog 261 #[.int .i64 c] w (Zny c w):=by
 go_enter func261,ntmps261;cases hs:Ee c
 ·have hv:Ot c=.tuple #[.int .i64 0,.int .i64 0,.int .i64 0,.bool false]:=by unfold Ot;rw[Zgq (by rw[hs];simp)]
  have Hl:=Zfy (show Dv c=[] by unfold Dv;rw[Zgq (by rw[hs];simp)]);go_wp2_with (go_at_call 270;refine(Oq _ _).mono ?_;rintro e w' ⟨rfl,rfl⟩;rw[hv]);go_ret;refine⟨.slice none 0 0,rfl,?_,Yk _⟩;rw[Hl.out];exact Xw.nil _ _
 obtain⟨hc1,hc2⟩:=(Tm c).1 hs;have hv:Ot c=.tuple #[.int .i64 ((c-44032)/588),.int .i64 ((c-44032)/28%21),.int .i64 ((c-44032)%28),.bool true]:=by unfold Ot;rw[Zgn hs]
 have Hsy:=Zfy hs;by_cases h0:(c-44032)%28=0
 ·have Hl:=Zfy (show Dv c=[4352+(c-44032)/588,4449+(c-44032)/28%21] by unfold Dv;rw[Zgn Hsy.out,Zgn h0]);have q1:((c-44032)%28==0)=true:=by simpa using h0
  go_wp2_with (go_at_call 270;refine(Oq _ _).mono ?_;rintro e w' ⟨rfl,rfl⟩;rw[hv]);go_ret;refine⟨.slice (some ⟨w.heap.size,0,none⟩) 2 2,rfl,?_,(Yk w).alloc _⟩;rw[Hl.out];exact Wl w _ _ 2 rfl _ rfl (by omega)
 have Hl:=Zfy (show Dv c=[4352+(c-44032)/588,4449+(c-44032)/28%21,4519+(c-44032)%28] by unfold Dv;rw[Zgn Hsy.out,Zgq h0]);have q1:((c-44032)%28==0)=false:=by simpa using h0
 go_wp2_with (go_at_call 270;refine(Oq _ _).mono ?_;rintro e w' ⟨rfl,rfl⟩;rw[hv]);go_ret;refine⟨.slice (some ⟨w.heap.size,0,none⟩) 3 3,rfl,?_,(Yk w).alloc _⟩;rw[Hl.out];exact Wl w _ _ 3 rfl _ rfl (by omega)
theorem P7{S:Nat→Prop}(T:Tbl)(c:Int)(w:World)(h:Xg w S T)(hne:(Xb T.dec c).length≠2) :
 Calls prog 112 #[Vg T,.int .i64 c] w fun e w'=>e=.returned (.bool false)∧Ext w w':=by
 obtain⟨A9,C9,e9,hl9,hc9⟩:=h.dec.shape;have h9:=h.dec.ext ((Yk w).alloc (Wz T));obtain⟨n9,hn9⟩:=gnX (T.dec.length);rw[hn9]at e9 hl9;rw[e9]at h9;have Hn9:=Y8 hn9;have E9:=Y8 e9;have H9:=Y8 h9;unfold maxLen at hc9;clear hn9 e9 h9;obtain⟨X0,H,Hb0⟩:=tblX h;clear h;have hfa:=Qi (S:=S) (c:=c) H9.o.2;obtain⟨FA,FC,ef,_,fc⟩:=hfa.shape;obtain⟨d,hd⟩:=gnX ((Xb T.dec c).length);rw[hd]at ef hne;have Hx:=Y8 (Yk (w.alloc (Wz T)));have b9:=(Hb0.o.ext Hx.o).at_ 9 (by omega);rw[show(Qk T)[9]?=some T.decV from rfl,E9.o]at b9;clear hfa Hx hd;have q1:(!((d:Int)==2))=true:=by simp;omega
 have q2:((d:Int)!=2)=true:=q1;have q3:((d:Int)==2)=false:=by simp;omega
 have Hne:=Y8 hne;clear hne;go_enter func112,ntmps112;go_wp2_with (first|(refine Xv rfl ?_)|(go_at_call 111;refine(Wy _ T.dec c _ H9.o).mono ?_;rintro e w1 ⟨rfl,hx1⟩));have HW:=Y8 (H.o.up hx1);have HD:=Y8 (H9.o.ext hx1);have hun:=Ya;refine wreX ?_;repeat(refine(Yu ?_:);intro K hK;go_simp;first|(refine hK _ ?_;clear hK K)|(apply Exists.intro;refine⟨fun _=>?_,hK _ ?_⟩;(first|(go_at_call 147;exact Xx (Wi T _ _ (HW.o.up (⟨_,_,rfl⟩))))|(go_at_call 148;exact Xx (Xl T _ _ (HW.o.up (⟨_,_,rfl⟩))))|(go_at_call 111;exact Xx (Wy _ T.dec _ _ (HD.o.ext (⟨_,_,rfl⟩)))));clear hK K))
 refine Yt ?_;intro w2 hy;clear hun;go_wp2_with fail;go_ret;exact⟨rfl,X0.o.trans (hx1.trans hy)⟩
theorem Zna{S:Nat→Prop}(T:Tbl)(hfin:Zo0 T)(hf:Few T):∀ (n:Nat) (c:Int) (w:World),Dep T.dec n c→Xg w S T →
 Calls prog 112 #[Vg T,.int .i64 c] w fun e w'=>e=.returned (.bool (Fz T (n+1) c))∧Ext w w':=by
 intro n
 induction n with
 | zero =>
  intro c w hd h;have hd':Xb T.dec c=[]:=hd;rw[Md (by rw[hd'];simp)];exact P7 T c w h (by rw[hd'];simp)
 | succ n ih =>
  intro c w hd h;by_cases h2:(Xb T.dec c).length=2
  ·obtain⟨x,y,hxy⟩:∃ x y,Xb T.dec c=[x,y]:=by
    match hh:Xb T.dec c with
    | [x,y]=>exact⟨x,y,rfl⟩
    | []=>rw[hh]at h2;simp at h2
    | [_]=>rw[hh]at h2;simp at h2
    | _::_::_::_=>rw[hh]at h2;simp at h2
   refine Zs0 T hfin hf (n+1) c x y w h hxy fun hne w' hx=>?_
   refine ih x w' ?_ (h.up hx);rcases hd with hd | ⟨x',r,hd,hd2⟩
   ·rw[hxy]at hd;simp at hd
   rw[hxy]at hd;simp only[List.cons.injEq]at hd;rw[hd.1];exact hd2
  rw[Md h2];exact P7 T c w h h2
def Be(T:Tbl)(c:Int):Bool:=Fz T 258 c
theorem Uz{S:Nat→Prop}(T:Tbl)(hfin:Zo0 T)(hf:Few T)(c:Int)(w:World)(h:Xg w S T) :
 Calls prog 112 #[Vg T,.int .i64 c] w fun e w'=>e=.returned (.bool (Be T c))∧Ext w w' :=
 Zna T hfin hf 257 c w (Zjf hfin c) h
def Zyr(T:Tbl)(c:Int):List Int:=if Dv c≠[]then Dv c else(Jw T.dec 257 [c]).getD []
theorem Zrf(c:Int):(Dv c).length≤3:=by
 unfold Dv;split
 ·split<;>simp
 simp
theorem Zwu(T:Tbl)(c:Int):(Zyr T c).length≤18:=by
 unfold Zyr;split
 ·have:=Zrf c;omega
 cases h:Jw T.dec 257 [c]with
 | none=>simp
 | some r=>exact Sh _ _ _ _ (by simp) h
def Zk0(T:Tbl)(c:Int)(w:World)(e:Ending)(w':World):Prop:=∃ v,e=.returned v∧RdE Ww w' (fun k=>w.heap.size≤k) v (Zyr T c)∧Ext w w'
theorem Zv1{S:Nat→Prop}(T:Tbl)(hf:Few T)(c:Int)(w:World)(h:Xg w S T):Calls prog 247 #[Vg T,.int .i64 c] w (Zk0 T c w):=by
 obtain⟨X0,H,Hb0⟩:=tblX h;clear h;have Hf:=Y8 hf;clear hf;go_enter func247,ntmps247;by_cases h0:Dv c=[]
 ·have H0:=Y8 h0;go_wp2_with (first|(refine Xv rfl ?_)|(go_at_call 261;refine(Zwq _ _).mono ?_;rintro e w1 ⟨v,rfl,hv,hx1⟩;rw[H0.o]at hv;obtain⟨A1,C1,rfl,_,_⟩:=hv.shape)|(refine Xy (Hb0.o.ext hx1) rfl ?_));cases hfull:Jw T.dec 257 [c]with
  | none =>
   have Hfull:=Y8 hfull;go_wp2_with (first|(refine Xy (Hb0.o.ext hx1) rfl ?_)|(go_at_call 146;refine(Dw T c _ (H.o.up hx1) Hf.o).mono ?_;rintro e w5 hp;unfold J2 at hp;rw[Hfull.o]at hp;obtain⟨rfl,hx5⟩:=hp));go_ret;refine⟨.slice none 0 0,rfl,?_,X0.o.trans (hx1.trans hx5)⟩;rw[show Zyr T c=[] by unfold Zyr;rw[Zgq (fun h=>h H0.o),Hfull.o];rfl];exact Xw.nil _ _
  | some r =>
   have Hfull:=Y8 hfull;go_wp2_with (first|(refine Xy (Hb0.o.ext hx1) rfl ?_)|(go_at_call 146;refine(Dw T c _ (H.o.up hx1) Hf.o).mono ?_;rintro e w5 hp;unfold J2 at hp;rw[Hfull.o]at hp;obtain⟨v5,rfl,hv5,hx5⟩:=hp));go_ret;refine⟨v5,rfl,?_,X0.o.trans (hx1.trans hx5)⟩;rw[show Zyr T c=r by unfold Zyr;rw[Zgq (fun h=>h H0.o),Hfull.o];rfl];exact Rd.mono hv5 fun k hk _=>Zgo X0.o.size (Zgo hx1.size hk)
 have H0:=Y8 h0;obtain⟨n,hn⟩:=gnX ((Dv c).length);have hp:0<n:=by rw[← hn];exact Zdv.2 h0
 have Hn:=Y8 hn;clear hn h0;have d1:decide ((0:Int)<(n:Int))=true:=Ye;have d2:decide (0<n)=true:=Ye hp;go_wp2_with (first|(refine Xv rfl ?_)|(go_at_call 261;refine(Zwq _ _).mono ?_;rintro e w1 ⟨v,rfl,hv,hx1⟩;obtain⟨A1,C1,rfl,_,_⟩:=hv.shape;rw[Hn.o]));go_ret;refine⟨.slice A1 n C1,rfl,?_,X0.o.trans hx1⟩;rw[show Zyr T c=Dv c from Zgn H0.o,← Hn.o];exact Rd.mono hv fun k hk _=>Zgo X0.o.size hk
theorem Zpe{S S':Nat→Prop}(v v':Value)(l l':List Int)(w:World)(h:Xw w S v l)(h':Xw w S' v' l'):Calls prog 251 #[v,v'] w (Qm w):=by
 obtain⟨A,C,rfl,hlCC,hCC⟩:=h.shape;obtain⟨n,hnn⟩:=gnX ((l).length);have Hnn:=Y8 hnn;have Hh:=Y8 h;unfold maxLen at hCC;rw[hnn]at hlCC⊢;clear h hnn;obtain⟨B,D,rfl,hlCD,hCD⟩:=h'.shape;obtain⟨k,hnk⟩:=gnX ((l').length);have Hnk:=Y8 hnk;have Hh':=Y8 h';unfold maxLen at hCD;rw[hnk]at hlCD⊢;clear h' hnk;go_enter func251,ntmps251;by_cases hnk:n=k
 ·subst hnk;have d0:(!((n:Int)==(n:Int)))=false:=by simp
  go_wp2_with fail;go_loopw [13] (fun o wr=>∃ i:Nat,i≤n∧o=.int .i64 (i:Int)∧Ext w wr) (fun o _=>n-(intOf o).toNat);case atStart=>exact⟨0,by omega,rfl,xE⟩
  obtain⟨i,hi_i,rfl,hx⟩:=hrel;have Hx:=Y8 hx;clear hx;by_cases hlt:i<n
  ·obtain⟨hd_i,i0_i,i1_i⟩:=LTl i n;obtain⟨x,hs_x⟩:=geX (l:=(l)) (i:=i) (by have:=Hnn.o;omega);obtain⟨g_x,o_x,c_x,hvv,_,_,_,hgl_x,a0_x⟩:=(Hh.o.ext Hx.o).get hs_x;obtain⟨rfl,-,rfl⟩:=slcX hvv;clear hvv;have Hs_x:=Y8 hs_x;clear hs_x;obtain⟨y,hs_y⟩:=geX (l:=(l')) (i:=i) (by have:=Hnk.o;omega);obtain⟨g_y,o_y,c_y,hvv,_,_,_,hgl_y,a0_y⟩:=(Hh'.o.ext Hx.o).get hs_y;obtain⟨rfl,-,rfl⟩:=slcX hvv;clear hvv;have Hs_y:=Y8 hs_y;clear hs_y;have m0:=lat a0_x;have m1:=lat a0_y;go_wp2_with fail;refine wreX ?_;repeat(refine(Yu ?_:);intro K hK;go_simp;refine hK _ ?_;clear hK K)
   refine Yt ?_;intro w2 hy;go_wp2_with fail;all_goals
    have hx:=Hx.o
    first
    | (go_roundw
       case rel=>exact⟨i+1,by omega,by go_num,xE⟩
       (simp[intOf];omega))
    | (go_ret;exact⟨_,rfl,xE⟩)
  have hd_i:=GEl i n;go_wp2_with fail;all_goals
   have hx:=Hx.o
   first
   | (go_roundw
      case rel=>exact⟨i+1,by omega,by go_num,xE⟩
      (simp[intOf];omega))
   | (go_ret;exact⟨_,rfl,xE⟩)
 have d0:(!((n:Int)==(k:Int)))=true:=by simp;omega
 have d1:((n:Int)!=(k:Int))=true:=d0;have d2:(!(n==k))=true:=by simp;omega
 have d3:(n !=k)=true:=d2;go_wp2_with fail;all_goals(go_ret;exact⟨_,rfl,xE⟩)
theorem Au{ops:Array Oper}{rest:List Oper}{dst:Option Nat}{x:Operand}{t:TypeId}{pos:String}{af:Array Edge}{gd:Option (Nat×Bool)}{a:Act}{w:World}{Q:Exit→Act→World→Prop}{b:Nat}{T:Tbl}(h:Kn w b T)
 (hw:Region.wanted {dst:=dst,op:=.load 34 x,type:=t,pos:=pos,after:=af,guard:=gd} (yielded ops a.tmps)=true) (hx:a.eval x=.pointer (some ⟨b,0,none⟩)) (hK:wpList prog ops Q rest (a.put dst (Vg T)) w) :
 wpList prog ops Q ({dst:=dst,op:=.load 34 x,type:=t,pos:=pos,after:=af,guard:=gd}::rest) a w:=by
 have hu:=Pu;rw[Zg9]at hu;obtain⟨d,hu,hd⟩:=hu;show if _ then _ else _
 rw[Zgn hw];exact .inl (wp_load_mid _ x rfl b 0 hx (Qk T) d h.range hu hd (by rw[Bm];rfl) hK)
def Uq0(T:Tbl):Prop:=∀ m∈T.dec,Xb T.dec m.fr=m.to_
def Th(w:World)(e:Ending)(w':World):Prop:=e=.returned (.bool true)∧Ext w w'
def Fo:List Int:=[8,254,5,11,60,4,1]
structure Zh8(l:List Sp)(m:Int):Prop where
 len:l.length≤256
 in_:∀ s∈l,0≤s.fr∧s.to_=s.fr∧s.fr≤1114111∧Zzf s.fr=false∧1≤s.val∧s.val≤m
 lt:∀ (i:Nat) (x y:Sp),0<i→l[i]?=some x→l[i-1]?=some y→y.fr<x.fr
structure Zgs(l:List Mp)(k:Nat):Prop where
 len:l.length≤256
 in_:∀ m∈l,0≤m.fr∧m.fr≤1114111∧(Zzf m.fr=false∨((k:Int)==3)=true∧Zkw m.fr=true)∧1≤m.to_.length∧m.to_.length≤18
 lt:∀ (i:Nat) (x y:Mp),0<i→l[i]?=some x→l[i-1]?=some y→y.fr<x.fr
 scr:k=0→∀ m∈l,(∀ c∈m.to_,3≤c∧c≤60)∧∀ (i:Nat) (x y:Int),0<i→m.to_[i]?=some x→m.to_[i-1]?=some y→y<x
 sca:0<k→∀ m∈l,∀ c∈m.to_,Zw1 c=true
structure Lq(T:Tbl):Prop where
 sp:∀ (j:Nat) p z,(Zxl T)[j]?=some p→Fo[j]?=some z→Zh8 p.2 z
 mp:∀ (j:Nat) p,(Zy0 T)[j]?=some p→Zgs p.2 j
 xlen:T.exc.length≤256
 xin:∀ c∈T.exc,0≤c∧c≤1114111∧Zzf c=false∧Xb T.dec c≠[]
 xlt:∀ (i:Nat) (x y:Int),0<i→T.exc[i]?=some x→T.exc[i-1]?=some y→y<x
 cnt:(T.sta.filter fun s=>s.val==3).length=T.map.length
 mapS:∀ m∈T.map,Zo3 T m.fr=3∧∀ c∈m.to_,Zo3 T c=1
 dec2:∀ m∈T.dec,m.to_.length≤2∧∀ c∈m.to_,c≠46∧Ee c=false∧Zzh c=false
 fin:Zo0 T
 few:Few T
 uq:Uq0 T
 r8:∀ (i j:Nat) a b,j<i→T.dec[i]?=some a→T.dec[j]?=some b→Be T a.fr=true→Be T b.fr=true→a.to_≠b.to_
 r9:∀ m∈T.pro,Xb T.dec m.fr=[]∧(Wk T.ign m.fr==1)=false∧∀ c∈m.to_,Xb T.dec c=[]∧(Wk T.ign c==1)=false∧Ee c=false∧Xb T.pro c=[]
theorem Zsa(c:Int)(hc:Zzf c=false)(i:Nat)(h:i<6):∃ lo hi:Int,(∀ wx,(Instr.index 235 (.agg #[.int .i64 0,.int .i64 127,.int .i64 55296,.int .i64 57343,.int .i64 44032,.int .i64 55203,.int .i64 4352,.int .i64 4370,.int .i64 4449,.int .i64 4469,.int .i64 4520,.int .i64 4546]) (.int .i64 (i:Int))).run prog wx=.ok (.agg #[.int .i64 lo,.int .i64 hi]) wx)∧((decide (c≤hi)=true∧decide (lo≤c)=false)∨decide (c≤hi)=false):=by
 have key:∀ lo hi:Int,¬ (lo≤c∧c≤hi)→((decide (c≤hi)=true∧decide (lo≤c)=false)∨decide (c≤hi)=false):=fun lo hi hn=>by
  by_cases h1:c≤hi
  ·exact .inl ⟨Ye h1,Yf fun h2=>hn ⟨h2,h1⟩⟩
  exact .inr (Yf h1)
 simp only[Zzf,Ee,Zzh,Bool.or_eq_false_iff,Bool.and_eq_false_iff,Zg1]at hc;rcases(show i=0∨i=1∨i=2∨i=3∨i=4∨i=5 by omega)with rfl|rfl|rfl|rfl|rfl|rfl
 ·exact⟨0,127,fun _=>by kernel_rfl,key _ _ (by omega)⟩
 ·exact⟨55296,57343,fun _=>by kernel_rfl,key _ _ (by omega)⟩
 ·exact⟨44032,55203,fun _=>by kernel_rfl,key _ _ (by omega)⟩
 ·exact⟨4352,4370,fun _=>by kernel_rfl,key _ _ (by omega)⟩
 ·exact⟨4449,4469,fun _=>by kernel_rfl,key _ _ (by omega)⟩
 exact⟨4520,4546,fun _=>by kernel_rfl,key _ _ (by omega)⟩
theorem Zve(a b c:Int)(hb:b=a)(hc:Zzf a=false)(w:World):Calls prog 140 #[.agg #[.int .i64 a,.int .i64 b,.int .i64 c]] w (Th w):=by
 subst hb;have X0:=Y8 ((Yk w).alloc (.cells #[.int .i64 b,.int .i64 b,.int .i64 c] 99));have HC:=Y8 hc;clear hc;go_enter func140,ntmps140;go_wp2_with fail;go_loopw [12] (fun o wr=>∃ i:Nat,i≤6∧o=.int .i64 (i:Int)∧Ext (w.alloc (.cells #[.int .i64 b,.int .i64 b,.int .i64 c] 99)) wr) (fun o _=>6-(intOf o).toNat);case atStart=>exact⟨0,by omega,rfl,Yk _⟩
 obtain⟨i,hi_i,rfl,hx⟩:=hrel;have Hx:=Y8 hx;clear hx;have hb:=(Kx w #[.int .i64 b,.int .i64 b,.int .i64 c] 99 _ rfl).ext Hx.o
 have b0:=hb.at_ 0 _ rfl;have b1:=hb.at_ 1 _ rfl;have hbl:=hb.lt;clear hb;by_cases hlt:i<6
 ·have hd_i:decide ((i:Int)<(6:Int))=true:=Ye;have i0_i:(0:Int)≤(i:Int):=by omega
  have i1_i:(i:Int)<(6:Int):=by omega
  obtain⟨lo,up,hix,hq⟩:=Zsa b HC.o i hlt;rcases hq with⟨q1,q2⟩|q1
  ·go_wp2_with fail;all_goals
    have hx:=Hx.o
    first
    | (go_roundw
       case rel=>exact⟨i+1,by omega,by go_num,xE⟩
       (simp[intOf];omega))
    | (go_ret;exact⟨rfl,X0.o.trans xE⟩)
  go_wp2_with fail;all_goals
   have hx:=Hx.o
   first
   | (go_roundw
      case rel=>exact⟨i+1,by omega,by go_num,xE⟩
      (simp[intOf];omega))
   | (go_ret;exact⟨rfl,X0.o.trans xE⟩)
 have hd_i:decide ((i:Int)<(6:Int))=false:=Yf;go_wp2_with fail;all_goals
  have hx:=Hx.o
  first
  | (go_roundw
     case rel=>exact⟨i+1,by omega,by go_num,xE⟩
     (simp[intOf];omega))
  | (go_ret;exact⟨rfl,X0.o.trans xE⟩)
theorem Zxt{S:Nat→Prop}(v:Value)(l:List Sp)(z:Int)(w:World)(h:Vh w S v l)(ok:Zh8 l z):Calls prog 139 #[v,.int .i64 0,.int .i64 1114111] w (Th w):=by
 have OK:=Y8 ok;have hlen:=ok.len;obtain⟨A,C,rfl,hlCC,hCC⟩:=h.shape;obtain⟨n,hnn⟩:=gnX ((l).length);have Hnn:=Y8 hnn;have Hh:=Y8 h;unfold maxLen at hCC;rw[hnn]at hlCC⊢;clear h hnn;rw[Hnn.o]at hlen;clear ok;go_enter func139,ntmps139;have hb:decide ((256:Int)<(n:Int))=false:=Yf;go_wp2_with fail;go_loopw [14] (fun o wr=>∃ i:Nat,i≤n∧o=.int .i64 (i:Int)∧Ext w wr) (fun o _=>n-(intOf o).toNat);case atStart=>exact⟨0,by omega,rfl,Yk _⟩
 obtain⟨i,hi,rfl,hx⟩:=hrel;have Hx:=Y8 hx;clear hx;by_cases hlt:i<n
 ·have hd:=LTd i n;have i0:(0:Int)≤(i:Int):=by omega
  have i1:(i:Int)<(n:Int):=by omega
  obtain⟨x,hs⟩:=geX (l:=(l)) (i:=i) (by first|(rw[Hnn.o];exact hlt)|(have:=Hnn.o;omega));obtain⟨g,o,c',hvv,_,_,_,hgl,c0,c1,c2⟩:=(Hh.o.ext Hx.o).get hs;obtain⟨rfl,-,rfl⟩:=slcX hvv;clear hvv;have Hs:=Y8 hs;clear hs;obtain⟨r1,r2,r3,_,_,_⟩:=OK.o.in_ x (Zy Hs.o);obtain⟨fr,to_,val⟩:=x;simp only at r1 r2 r3 c0 c1 c2;subst r2;go_wp2_with fail;obtain⟨W,hW⟩:=gnX (wr.alloc (.cells #[.int .i64 to_,.int .i64 to_,.int .i64 val] 99));have m0:=lat (show W.cell? ⟨wr.heap.size,0,none⟩=some (.int .i64 to_) by(rw[← hW];clear hW;go_simp));have m1:=lat (show W.cell? ⟨wr.heap.size,1,none⟩=some (.int .i64 to_) by(rw[← hW];clear hW;go_simp));have hxw:Ext wr W:=by rw[← hW];exact(Yk _).alloc _
  rw[hW];clear hW;have q1:decide (to_<0)=false:=Yf;have q2:decide (to_<to_)=false:=Yf;have q3:decide (1114111<to_)=false:=Yf;clear r1 r3;rcases Zfs i with hi0|hi0
  ·have q6:decide ((0:Int)<(i:Int))=false:=Yf;have q7:decide (0<i)=false:=Yf;clear hi0;have hun:=Ya;refine wreX ?_;repeat(refine(Yu ?_:);intro K hK;go_simp;refine hK _ ?_;clear hK K)
   refine Yt ?_;intro w1 hy;clear hun;try simp only[Yb]
   go_wp2_with fail;all_goals
    have hx:=Hx.o
    first
    | (go_roundw
       case rel=>exact⟨i+1,by omega,by go_num,xE⟩
       (simp[intOf];omega))
    | (go_ret;exact⟨rfl,xE⟩)
  have q6:decide ((0:Int)<(i:Int))=true:=Ye;have q7:decide (0<i)=true:=Ye;obtain⟨y,hy⟩:=geX (l:=l) (i:=i-1) (by have:=Hnn.o;omega);have q8:decide (to_≤y.to_)=false:=Yf (by have h1:=OK.o.lt i _ y hi0 Hs.o hy;have h2:=(OK.o.in_ y (Zy hy)).2.1;simp only at h1;omega);obtain⟨g',o',c',hvv,_,_,_,_,_,d1,_⟩:=(Hh.o.ext Hx.o).get hy;simp only[Yd,Yc,Zga,Zg0,Zfw]at hvv;obtain⟨⟨rfl,rfl⟩,rfl⟩:=hvv;have m2:=lat ((hxw.cell (p:=⟨g,o+(i-1)*3+1,none⟩) hgl).trans d1);have w1:=Ve i hi0 (by omega);have w2:(1:Int)≤(i:Int):=by omega
  have w3:(0:Int)≤((i-1:Nat):Int):=by omega
  have w4:((i-1:Nat):Int)<(n:Int):=by omega
  clear hy hi0;have hun:=Ya;refine wreX ?_;repeat(refine(Yu ?_:);intro K hK;go_simp;refine hK _ ?_;clear hK K)
  refine Yt ?_;intro w1 hy;clear hun;try simp only[Yb]
  go_wp2_with fail;all_goals
   have hx:=Hx.o
   first
   | (go_roundw
      case rel=>exact⟨i+1,by omega,by go_num,xE⟩
      (simp[intOf];omega))
   | (go_ret;exact⟨rfl,xE⟩)
 have hd:=GEl i n;have hx:=Hx.o;go_wp2_with fail;all_goals
  have hx:=Hx.o
  first
  | (go_roundw
     case rel=>exact⟨i+1,by omega,by go_num,xE⟩
     (simp[intOf];omega))
  | (go_ret;exact⟨rfl,xE⟩)
theorem Zxx{S:Nat→Prop}(T:Tbl)(hg:Lq T)(w:World)(h:Xg w S T):Calls prog 107 #[Vg T] w (Th w):=by
 have G:=Y8 hg;clear hg;obtain⟨X0,H,Hb0⟩:=tblX h;clear h;go_enter func107,ntmps107;go_wp2_with (first|(refine Xv rfl ?_)|(refine Xy Hb0.o rfl ?_)|(go_at_call 137;refine(O0 T _ H.o).mono ?_;rintro e w1 ⟨g1,g2,rfl,hc,hc2,hx1⟩));have Hc:=Y8 hc;have Hc2:=Y8 hc2;have Hx1:=Y8 hx1;clear hc hx1 hc2;go_loopw [16] (fun o wr=>∃ i:Nat,i≤7∧o=.int .i64 (i:Int)∧Ext w1 wr) (fun o _=>7-(intOf o).toNat);case atStart=>exact⟨0,by omega,rfl,Yk _⟩
 obtain⟨k,hi_k,rfl,hx⟩:=hrel;have Hx:=Y8 hx;clear hx;have Hy:=Y8 (Hx1.o.trans Hx.o);by_cases hlt:k<7
 ·have hd_k:decide ((k:Int)<(7:Int))=true:=Ye;have i0_k:(0:Int)≤(k:Int):=by omega
  have i1_k:(k:Int)<(7:Int):=by omega
  obtain⟨p,hp⟩:=geX (l:=(Zxl T)) (i:=k) (by have:(Zxl T).length=7:=rfl;omega);have hrow:=Zp3 H.o p (Zy hp);have c0:=(Hc.o.ext Hx.o).at_ k p.1 (by simp[hp]);obtain⟨A1,C1,e1,hl1,hc1⟩:=hrow.shape;rw[e1]at c0 hrow;unfold maxLen at hc1;obtain⟨m,hm⟩:=gnX (p.2.length);have Hm:=Y8 hm;have Hp:=Y8 hp;have Hrow:=Y8 hrow;rw[hm]at c0 hl1;clear hrow hm hp e1;obtain⟨z,hz⟩:∃ z:Int,([8,254,5,11,60,4,1]:List Int)[k]?=some z:=⟨([8,254,5,11,60,4,1]:List Int)[k]'(by simpa using hlt),Zz _⟩;have Hcz:=Y8 (Hc2.o.at_ k (.int .i64 z) (by rw[Zn,hz];rfl));have OK:=Y8 (G.o.sp k p z Hp.o hz);go_wp2_with fail;have Hz:=Y8 Hx.o;have Hlt:=Y8 hlt;clear Hx Hy hlt hz;go_loopw [23] (fun o wr=>∃ i:Nat,i≤m∧o=.int .i64 (i:Int)∧Ext w1 wr) (fun o _=>m-(intOf o).toNat);case atStart=>exact⟨0,by omega,rfl,Hz.o⟩
  obtain⟨j,hi_j,rfl,hx⟩:=hrel;have Hx:=Y8 hx;clear hx;have Hy:=Y8 (Hx1.o.trans Hx.o);by_cases hlt:j<m
  ·obtain⟨hd_j,i0_j,i1_j⟩:=LTl j m;obtain⟨x,hs_x⟩:=geX (l:=(p.2)) (i:=j) (by have:=Hm.o;omega);obtain⟨g_x,o_x,c_x,hvv,_,_,_,hgl_x,a0_x,a1_x,a2_x⟩:=(Hrow.o.ext Hy.o).get hs_x;obtain⟨rfl,-,rfl⟩:=slcX hvv;clear hvv;have Hs_x:=Y8 hs_x;clear hs_x;have hkl:=Hlt.o;go_wp2_with fail;obtain⟨W,hW⟩:=gnX (wr.alloc (.cells #[.int .i64 x.fr,.int .i64 x.to_,.int .i64 x.val] 99));have m0:=lat (show W.cell? ⟨wr.heap.size,2,none⟩=some (.int .i64 x.val) by(rw[← hW];clear hW;go_simp));have hxw:Ext wr W:=by rw[← hW];exact(Yk _).alloc _
   have m1:=lat (((Hx.o.trans hxw).cell (p:=⟨g2,k,none⟩) Hc2.o.lt).trans Hcz.o);rw[hW];clear hW;obtain⟨_,_,_,_,r1,r2⟩:=OK.o.in_ x (Zy Hs_x.o);have q1:decide (x.val<0)=false:=Yf;have q2:decide (z<x.val)=false:=Yf;have q3:(x.val==0)=false:=by simp;omega
   clear r1 r2;have hun:=Ya;refine wreX ?_;repeat(refine(Yu ?_:);intro K hK;go_simp;refine hK _ ?_;clear hK K)
   refine Yt ?_;intro w9 hy9;clear hun;try simp only[Yb]
   go_wp2_with fail;all_goals
    have hx:=Hx.o
    first
    | (go_roundw
       case rel=>exact⟨j+1,by omega,by go_num,xE⟩
       (simp[intOf];omega))
    | (go_ret;exact⟨rfl,X0.o.trans (Hx1.o.trans xE)⟩)
  have hd_j:=GEl j m;have hlt2:=Hlt.o;go_wp2_with fail;all_goals
   have hx:=Hx.o
   first
   | (go_roundw
      case rel=>exact⟨k+1,by omega,by go_num,xE⟩
      (simp[intOf];omega))
   | (go_ret;exact⟨rfl,X0.o.trans (Hx1.o.trans xE)⟩)
 have hd_k:decide ((k:Int)<(7:Int))=false:=Yf;go_wp2_with fail;all_goals
  have hx:=Hx.o
  first
  | (go_roundw
     case rel=>exact⟨k+1,by omega,by go_num,xE⟩
     (simp[intOf];omega))
  | (go_ret;exact⟨rfl,X0.o.trans (Hx1.o.trans xE)⟩)
theorem Zu6{S:Nat→Prop}(T:Tbl)(hg:Lq T)(w:World)(h:Xg w S T):Calls prog 108 #[Vg T] w (Th w):=by
 have G:=Y8 hg;clear hg;obtain⟨X0,H,Hb0⟩:=tblX h;clear h;go_enter func108,ntmps108;go_wp2_with (first|(refine Xv rfl ?_)|(refine Xy Hb0.o rfl ?_)|(go_at_call 138;refine(Gd T _ H.o).mono ?_;rintro e w1 ⟨g1,rfl,hc,hx1⟩));have Hc:=Y8 hc;have Hx1:=Y8 hx1;clear hc hx1;go_loopw [14] (fun o wr=>∃ i:Nat,i≤4∧o=.int .i64 (i:Int)∧Ext w1 wr) (fun o _=>4-(intOf o).toNat);case atStart=>exact⟨0,by omega,rfl,Yk _⟩
 obtain⟨k,hi_k,rfl,hx⟩:=hrel;have Hx:=Y8 hx;clear hx;have Hy:=Y8 (Hx1.o.trans Hx.o);by_cases hlt:k<4
 ·have hd_k:decide ((k:Int)<(4:Int))=true:=Ye;have i0_k:(0:Int)≤(k:Int):=by omega
  have i1_k:(k:Int)<(4:Int):=by omega
  obtain⟨p,hp⟩:=geX (l:=(Zy0 T)) (i:=k) (by have:(Zy0 T).length=4:=rfl;omega);have hrow:=Zqh H.o p (Zy hp);have c0:=(Hc.o.ext Hx.o).at_ k p.1 (by simp[hp]);obtain⟨A1,C1,e1,hl1,hc1⟩:=hrow.shape;rw[e1]at c0 hrow;unfold maxLen at hc1;obtain⟨m,hm⟩:=gnX (p.2.length);have Hm:=Y8 hm;have Hp:=Y8 hp;have Hrow:=Y8 hrow;rw[hm]at c0 hl1;clear hrow hm hp e1;have OK:=Y8 (G.o.mp k p Hp.o);go_wp2_with fail;have Hz:=Y8 Hx.o;have Hlt:=Y8 hlt;clear Hx Hy hlt;go_loopw [21] (fun o wr=>∃ i:Nat,i≤m∧o=.int .i64 (i:Int)∧Ext w1 wr) (fun o _=>m-(intOf o).toNat);case atStart=>exact⟨0,by omega,rfl,Hz.o⟩
  obtain⟨j,hi_j,rfl,hx⟩:=hrel;have Hx:=Y8 hx;clear hx;have Hy:=Y8 (Hx1.o.trans Hx.o);by_cases hlt:j<m
  ·obtain⟨hd_j,i0_j,i1_j⟩:=LTl j m;obtain⟨x,hs_x⟩:=geX (l:=(p.2)) (i:=j) (by have:=Hm.o;omega);obtain⟨g_x,o_x,c_x,hvv,_,_,_,hgl_x,a0_x,a1_x,_⟩:=(Hrow.o.ext Hy.o).get hs_x;obtain⟨rfl,-,rfl⟩:=slcX hvv;clear hvv;have ti_x:=Hrow.o.2 _ (Zy hs_x);obtain⟨A_x,C_x,tv_x,tl_x,tc_x⟩:=ti_x.shape;obtain⟨n_x,hn_x⟩:=gnX (x.to_.length);rw[tv_x]at a1_x ti_x;rw[hn_x]at a1_x tl_x;have Hn_x:=Y8 hn_x;unfold maxLen at tc_x;have Hs_x:=Y8 hs_x;have Ti_x:=Y8 ti_x;clear hs_x ti_x tv_x hn_x;obtain⟨_,_,_,r1,r2⟩:=OK.o.in_ x (Zy Hs_x.o);rw[Hn_x.o]at r1 r2;have d1:decide ((n_x:Int)<(1:Int))=false:=Yf;have d2:decide ((18:Int)<(n_x:Int))=false:=Yf;have d3:¬ n_x=0:=by omega
   go_wp2_with fail;have Hza:=Y8 (Hx.o.alloc (.cells #[.int .i64 x.fr,.slice A_x n_x C_x] 106));have Hbx:=Y8 (Kx wr #[.int .i64 x.fr,.slice A_x n_x C_x] 106 _ rfl);have Hlj:=Y8 hlt;clear Hx Hy hlt d1 d2 d3 r1 r2;rename World=>wo
   go_loopw [38] (fun o wr=>∃ i:Nat,i≤n_x∧o=.int .i64 (i:Int)∧Ext (wo.alloc (.cells #[.int .i64 x.fr,.slice A_x n_x C_x] 106)) wr) (fun o _=>n_x-(intOf o).toNat);case atStart=>exact⟨0,by omega,rfl,Yk _⟩
   obtain⟨i,hi_i,rfl,hx⟩:=hrel;have Hx:=Y8 hx;clear hx;have Hw:=Y8 (Hza.o.trans Hx.o);have Hy:=Y8 (Hx1.o.trans (Hza.o.trans Hx.o));by_cases hlt:i<n_x
   ·obtain⟨hd_i,i0_i,i1_i⟩:=LTl i n_x;obtain⟨c,hs_c⟩:=geX (l:=(x.to_)) (i:=i) (by have:=Hn_x.o;omega);obtain⟨g_c,o_c,c_c,hvv,_,_,_,hgl_c,a0_c⟩:=(Ti_x.o.ext Hy.o).get hs_c;obtain⟨rfl,-,rfl⟩:=slcX hvv;clear hvv;have Hs_c:=Y8 hs_c;clear hs_c;have bx:=(Hbx.o.ext Hx.o).at_ 1 _ rfl;rcases Zfs i with hj0|hj0
    ·have q6:decide ((0:Int)<(i:Int))=false:=Yf;have q7:decide (0<i)=false:=Yf;clear hj0;rcases Zfs k with hk0|hk0
     ·have k1:((k:Int)==0)=true:=by simp;omega
      have k2:(k==0)=true:=by simp;omega
      have k3:decide (k=0)=true:=Ye hk0;have k4:decide ((0:Int)<(k:Int))=false:=Yf;have k5:decide (0<k)=false:=Yf;have hsc:=OK.o.scr hk0 x (Zy Hs_x.o);have hs1:=hsc.1 c (Zy Hs_c.o);have e1':decide (c<3)=false:=Yf;have e2':decide (60<c)=false:=Yf;skip;clear hk0 hsc hs1;go_wp2_with fail;all_goals
       have hx:=Hx.o
       first
       | (go_roundw
          case rel=>exact⟨i+1,by omega,by go_num,xE⟩
          (simp[intOf];omega))
       | (go_ret;exact⟨rfl,X0.o.trans (Hx1.o.trans (Hza.o.trans xE))⟩)
     have k1:((k:Int)==0)=false:=by simp;omega
     have k2:(k==0)=false:=by simp;omega
     have k3:decide (k=0)=false:=Yf;have k4:decide ((0:Int)<(k:Int))=true:=Ye;have k5:decide (0<k)=true:=Ye;have HS:=Y8 (OK.o.sca hk0 x (Zy Hs_x.o) c (Zy Hs_c.o));go_wp2_with (go_at_call 143;refine(Kq _ _).mono ?_;rintro e w' ⟨rfl,rfl⟩;rw[HS.o]);all_goals
      have hx:=Hx.o
      first
      | (go_roundw
         case rel=>exact⟨i+1,by omega,by go_num,xE⟩
         (simp[intOf];omega))
      | (go_ret;exact⟨rfl,X0.o.trans (Hx1.o.trans (Hza.o.trans xE))⟩)
    have q6:decide ((0:Int)<(i:Int))=true:=Ye;have q7:decide (0<i)=true:=Ye;obtain⟨y,hy⟩:∃ s,x.to_[i-1]?=some s:=⟨x.to_[i-1]'(by have:=Hn_x.o;omega),Zz _⟩;obtain⟨g',o',c',hvv,_,_,_,_,e1⟩:=(Ti_x.o.ext Hy.o).get hy;simp only[Yd,Yc,Zga,Zg0,Zfw]at hvv;obtain⟨⟨rfl,rfl⟩,rfl⟩:=hvv;have w1':=Ve i hj0 (by omega);have w2':(1:Int)≤(i:Int):=by omega
    have w3':(0:Int)≤((i-1:Nat):Int):=by omega
    have w4':((i-1:Nat):Int)<(n_x:Int):=by omega
    have Hye:=Y8 hy;have Hj0:=Y8 hj0;clear hy hj0;rcases Zfs k with hk0|hk0
    ·have k1:((k:Int)==0)=true:=by simp;omega
     have k2:(k==0)=true:=by simp;omega
     have k3:decide (k=0)=true:=Ye hk0;have k4:decide ((0:Int)<(k:Int))=false:=Yf;have k5:decide (0<k)=false:=Yf;have hsc:=OK.o.scr hk0 x (Zy Hs_x.o);have hs1:=hsc.1 c (Zy Hs_c.o);have e1':decide (c<3)=false:=Yf;have e2':decide (60<c)=false:=Yf;have e3':decide (c≤y)=false:=Yf (by have:=hsc.2 i c y Hj0.o Hs_c.o Hye.o;omega);clear hk0 hsc hs1;go_wp2_with fail;all_goals
      have hx:=Hx.o
      first
      | (go_roundw
         case rel=>exact⟨i+1,by omega,by go_num,xE⟩
         (simp[intOf];omega))
      | (go_ret;exact⟨rfl,X0.o.trans (Hx1.o.trans (Hza.o.trans xE))⟩)
    have k1:((k:Int)==0)=false:=by simp;omega
    have k2:(k==0)=false:=by simp;omega
    have k3:decide (k=0)=false:=Yf;have k4:decide ((0:Int)<(k:Int))=true:=Ye;have k5:decide (0<k)=true:=Ye;have HS:=Y8 (OK.o.sca hk0 x (Zy Hs_x.o) c (Zy Hs_c.o));go_wp2_with (go_at_call 143;refine(Kq _ _).mono ?_;rintro e w' ⟨rfl,rfl⟩;rw[HS.o]);all_goals
     have hx:=Hx.o
     first
     | (go_roundw
        case rel=>exact⟨i+1,by omega,by go_num,xE⟩
        (simp[intOf];omega))
     | (go_ret;exact⟨rfl,X0.o.trans (Hx1.o.trans (Hza.o.trans xE))⟩)
   have hd_i:=GEl i n_x;have hlj:=Hlj.o;have hx:=Hw.o;go_wp2_with fail;go_roundw;case rel=>exact⟨j+1,by omega,by go_num,xE⟩
   (simp[intOf];omega)
  have hd_j:=GEl j m;have hlt2:=Hlt.o;go_wp2_with fail;all_goals
   have hx:=Hx.o
   first
   | (go_roundw
      case rel=>exact⟨k+1,by omega,by go_num,xE⟩
      (simp[intOf];omega))
   | (go_ret;exact⟨rfl,X0.o.trans (Hx1.o.trans xE)⟩)
 have hd_k:decide ((k:Int)<(4:Int))=false:=Yf;go_wp2_with fail;all_goals
  have hx:=Hx.o
  first
  | (go_roundw
     case rel=>exact⟨k+1,by omega,by go_num,xE⟩
     (simp[intOf];omega))
  | (go_ret;exact⟨rfl,X0.o.trans (Hx1.o.trans xE)⟩)
theorem Zxg{l:List Sp}{i:Nat}{x:Sp}(h:l[i]?=some x):((l.take (i+1)).filter fun s=>s.val==3).length=((l.take i).filter fun s=>s.val==3).length+if x.val==3 then 1 else 0:=by
 rw[Za,h,Ze2,Ze1,Zs];cases hb:x.val==3<;>simp[List.filter,hb]
theorem Zya{S:Nat→Prop}(T:Tbl)(hg:Lq T)(w:World)(h:Xg w S T):Calls prog 109 #[Vg T] w (Th w):=by
 have G:=Y8 hg;have hlen:T.sta.length≤256:=(hg.sp 5 _ 4 rfl rfl).len;clear hg;obtain⟨A5,C5,e5,hl5,hc5⟩:=h.sta.shape;have h5:=h.sta.ext ((Yk w).alloc (Wz T));obtain⟨n5,hn5⟩:=gnX (T.sta.length);rw[hn5]at e5 hl5;rw[e5]at h5;have Hn5:=Y8 hn5;have E5:=Y8 e5;have H5:=Y8 h5;unfold maxLen at hc5;clear hn5 e5 h5;rw[Hn5.o]at hlen;obtain⟨A8,C8,e8,hl8,hc8⟩:=h.map.shape;have h8:=h.map.ext ((Yk w).alloc (Wz T));obtain⟨n8,hn8⟩:=gnX (T.map.length);rw[hn8]at e8 hl8;rw[e8]at h8;have Hn8:=Y8 hn8;have E8:=Y8 e8;have H8:=Y8 h8;unfold maxLen at hc8;clear hn8 e8 h8;obtain⟨X0,H,Hb0⟩:=tblX h;clear h;have Hx:=Y8 (Yk (w.alloc (Wz T)));have b5:=(Hb0.o.ext Hx.o).at_ 5 (by omega);rw[show(Qk T)[5]?=some T.staV from rfl,E5.o]at b5;go_enter func109,ntmps109;go_wp2_with (refine Xv rfl ?_);clear b5;go_loopw [14,3] (fun o y wr=>∃ i:Nat,i≤n5∧o=.int .i64 (i:Int)∧(∃ z:Nat,y=.int .i64 (z:Int)∧z≤i∧z=((T.sta.take i).filter fun s=>s.val==3).length)∧Ext (w.alloc (Wz T)) wr) (fun o _ _=>n5-(intOf o).toNat);case atStart=>exact⟨0,by omega,rfl,⟨0,rfl,by omega,by simp⟩,Yk _⟩
 clear Hx;obtain⟨i,hi_i,rfl,⟨z,rfl,hzi,hz⟩,hx⟩:=hrel;have Hx:=Y8 hx;have Hz:=Y8 hz;clear hx hz;by_cases hlt:i<n5
 ·obtain⟨hd_i,i0_i,i1_i⟩:=LTl i n5;obtain⟨x,hs_x⟩:=geX (l:=(T.sta)) (i:=i) (by have:=Hn5.o;omega);obtain⟨g_x,o_x,c_x,hvv,_,_,_,hgl_x,a0_x,a1_x,a2_x⟩:=(H5.o.ext Hx.o).get hs_x;obtain⟨rfl,-,rfl⟩:=slcX hvv;clear hvv;have Hs_x:=Y8 hs_x;clear hs_x;have r2:=((G.o.sp 5 _ 4 rfl rfl).in_ x (Zy Hs_x.o)).2.1;have Ht:=Y8 (Zxg Hs_x.o);obtain⟨fr,to_,val⟩:=x;simp only at r2 a0_x a1_x a2_x;subst r2;have p1:IntKind.i64.wrap (0+1)=1:=by rfl
  have p2:IntKind.i64.wrap 0=0:=by rfl
  have p3:IntKind.i64.wrap ((z:Int)+1)=((z+1:Nat):Int):=by rw[Yp _ (by omega)];omega
  have p4:to_-to_=0:=by omega
  cases hv:(val==3)
  ·go_wp2_with fail;have hx:=Hx.o;go_roundw;case rel=>exact⟨i+1,by omega,by go_num,⟨z,rfl,by omega,by rw[Ht.o,Hz.o];simp only;rw[hv];rfl⟩,xE⟩
   (simp[intOf];omega)
  go_wp2_with fail;have hx:=Hx.o;go_roundw;case rel=>exact⟨i+1,by omega,by go_num,⟨z+1,by first|rfl|go_num,by omega,by rw[Ht.o,Hz.o];simp only;rw[hv];rfl⟩,xE⟩
  (simp[intOf];omega)
 have hd_i:=GEl i n5;have b8:=(Hb0.o.ext Hx.o).at_ 8 (by omega);rw[show(Qk T)[8]?=some T.mapV from rfl,E8.o]at b8;have hzm:z=n8:=by
  rw[Hz.o,Zm (by rw[Hn5.o];omega),G.o.cnt,Hn8.o]
 have hz1:((z:Int)==(n8:Int))=true:=by simp[hzm]
 have hz2:(!((z:Int)==(n8:Int)))=false:=by rw[hz1];rfl
 have hz3:((z:Int)!=(n8:Int))=false:=hz2;have hz4:(z==n8)=true:=by simp[hzm]
 clear hzm;go_wp2_with fail;have Hx1:=Y8 Hx.o;clear Hx hz2 hz3 hz1 hz4 b8 hlt hd_i hi_i;go_loopw [38] (fun o wr=>∃ i:Nat,i≤n8∧o=.int .i64 (i:Int)∧Ext (w.alloc (Wz T)) wr) (fun o _=>n8-(intOf o).toNat);case atStart=>exact⟨0,by omega,rfl,Hx1.o⟩
 clear Hx1;obtain⟨k,hi_k,rfl,hx⟩:=hrel;have Hx:=Y8 hx;clear hx;by_cases hlt:k<n8
 ·obtain⟨hd_k,i0_k,i1_k⟩:=LTl k n8;obtain⟨m,hs_m⟩:=geX (l:=(T.map)) (i:=k) (by have:=Hn8.o;omega);obtain⟨g_m,o_m,c_m,hvv,_,_,_,hgl_m,a0_m,a1_m,_⟩:=(H8.o.ext Hx.o).get hs_m;obtain⟨rfl,-,rfl⟩:=slcX hvv;clear hvv;have ti_m:=H8.o.2 _ (Zy hs_m);obtain⟨A_m,C_m,tv_m,tl_m,tc_m⟩:=ti_m.shape;obtain⟨n_m,hn_m⟩:=gnX (m.to_.length);rw[tv_m]at a1_m ti_m;rw[hn_m]at a1_m tl_m;have Hn_m:=Y8 hn_m;unfold maxLen at tc_m;have Hs_m:=Y8 hs_m;have Ti_m:=Y8 ti_m;clear hs_m ti_m tv_m hn_m;have HS:=Y8 (G.o.mapS m (Zy Hs_m.o)).1;go_wp2_with (first|(refine Xy (Hb0.o.ext (have hx:=Hx.o;xE)) rfl ?_)|(go_at_call 144;refine(Qc T _ _ (H.o.up (have hx:=Hx.o;xE))).mono ?_;rintro e w1 ⟨rfl,hx1⟩;rw[HS.o];have hc1:=fun k=>hx1.cell (p:=⟨wr.heap.size,k,none⟩) (by simp)));have hx:=Hx.o;have Hxk:=Y8 (show Ext (w.alloc (Wz T)) w1 from xE);clear hx hx1 Hx hc1 HS;have Hkl:=Y8 hlt;clear hlt;go_loopw [50] (fun o wr=>∃ i:Nat,i≤n_m∧o=.int .i64 (i:Int)∧Ext (w.alloc (Wz T)) wr) (fun o _=>n_m-(intOf o).toNat);case atStart=>exact⟨0,by omega,rfl,Hxk.o⟩
  obtain⟨j,hi_j,rfl,hx⟩:=hrel;have Hx:=Y8 hx;clear hx;by_cases hlt:j<n_m
  ·obtain⟨hd_j,i0_j,i1_j⟩:=LTl j n_m;obtain⟨c,hs_c⟩:=geX (l:=(m.to_)) (i:=j) (by have:=Hn_m.o;omega);obtain⟨g_c,o_c,c_c,hvv,_,_,_,hgl_c,a0_c⟩:=(Ti_m.o.ext Hx.o).get hs_c;obtain⟨rfl,-,rfl⟩:=slcX hvv;clear hvv;have Hs_c:=Y8 hs_c;clear hs_c;have HS:=Y8 ((G.o.mapS m (Zy Hs_m.o)).2 c (Zy Hs_c.o));go_wp2_with (first|(refine Xy (Hb0.o.ext (have hx:=Hx.o;xE)) rfl ?_)|(go_at_call 144;refine(Qc T _ _ (H.o.up (have hx:=Hx.o;xE))).mono ?_;rintro e w1 ⟨rfl,hx1⟩;rw[HS.o]));all_goals
    have hx:=Hx.o
    first
    | (go_roundw
       case rel=>exact⟨j+1,by omega,by go_num,xE⟩
       (simp[intOf];omega))
    | (go_ret;exact⟨rfl,X0.o.trans xE⟩)
  have hd_j:=GEl j n_m;have hkl:=Hkl.o;go_wp2_with fail;all_goals
   have hx:=Hx.o
   first
   | (go_roundw
      case rel=>exact⟨k+1,by omega,by go_num,xE⟩
      (simp[intOf];omega))
   | (go_ret;exact⟨rfl,X0.o.trans xE⟩)
 have hd_k:=GEl k n8;go_wp2_with fail;all_goals
  have hx:=Hx.o
  first
  | (go_roundw
     case rel=>exact⟨k+1,by omega,by go_num,xE⟩
     (simp[intOf];omega))
  | (go_ret;exact⟨rfl,X0.o.trans xE⟩)
theorem Zyp{S:Nat→Prop}(T:Tbl)(hg:Lq T)(w:World)(h:Xg w S T):Calls prog 110 #[Vg T] w (Th w):=by
 have G:=Y8 hg;have Hf:=Y8 hg.few;clear hg;obtain⟨A9,C9,e9,hl9,hc9⟩:=h.dec.shape;have h9:=h.dec.ext ((Yk w).alloc (Wz T));obtain⟨n9,hn9⟩:=gnX (T.dec.length);rw[hn9]at e9 hl9;rw[e9]at h9;have Hn9:=Y8 hn9;have E9:=Y8 e9;have H9:=Y8 h9;unfold maxLen at hc9;clear hn9 e9 h9;obtain⟨X0,H,Hb0⟩:=tblX h;clear h;have Hx:=Y8 (Yk (w.alloc (Wz T)));have b9:=(Hb0.o.ext Hx.o).at_ 9 (by omega);rw[show(Qk T)[9]?=some T.decV from rfl,E9.o]at b9;go_enter func110,ntmps110;go_wp2_with (refine Xv rfl ?_);clear b9;go_loopw [14] (fun o wr=>∃ i:Nat,i≤n9∧o=.int .i64 (i:Int)∧Ext (w.alloc (Wz T)) wr) (fun o _=>n9-(intOf o).toNat);case atStart=>exact⟨0,by omega,rfl,Yk _⟩
 clear Hx;obtain⟨i,hi_i,rfl,hx⟩:=hrel;have Hx:=Y8 hx;clear hx;by_cases hlt:i<n9
 ·obtain⟨hd_i,i0_i,i1_i⟩:=LTl i n9;obtain⟨m,hs_m⟩:=geX (l:=(T.dec)) (i:=i) (by have:=Hn9.o;omega);obtain⟨g_m,o_m,c_m,hvv,_,_,_,hgl_m,a0_m,a1_m,_⟩:=(H9.o.ext Hx.o).get hs_m;obtain⟨rfl,-,rfl⟩:=slcX hvv;clear hvv;have ti_m:=H9.o.2 _ (Zy hs_m);obtain⟨A_m,C_m,tv_m,tl_m,tc_m⟩:=ti_m.shape;obtain⟨n_m,hn_m⟩:=gnX (m.to_.length);rw[tv_m]at a1_m ti_m;rw[hn_m]at a1_m tl_m;have Hn_m:=Y8 hn_m;unfold maxLen at tc_m;have Hs_m:=Y8 hs_m;have Ti_m:=Y8 ti_m;clear hs_m ti_m tv_m hn_m;have h2:=(G.o.dec2 m (Zy Hs_m.o)).1;rw[Hn_m.o]at h2;have d1:decide ((2:Int)<(n_m:Int))=false:=Yf;go_wp2_with fail;have Hxk:=Y8 (Hx.o.alloc (.cells #[.int .i64 m.fr,.slice A_m n_m C_m] 106));have Hkl:=Y8 hlt;clear Hx hlt d1 h2;go_loopw [25] (fun o wr=>∃ i:Nat,i≤n_m∧o=.int .i64 (i:Int)∧Ext (w.alloc (Wz T)) wr) (fun o _=>n_m-(intOf o).toNat);case atStart=>exact⟨0,by omega,rfl,Hxk.o⟩
  obtain⟨j,hi_j,rfl,hx⟩:=hrel;have Hx:=Y8 hx;clear hx;by_cases hlt:j<n_m
  ·obtain⟨hd_j,i0_j,i1_j⟩:=LTl j n_m;obtain⟨c,hs_c⟩:=geX (l:=(m.to_)) (i:=j) (by have:=Hn_m.o;omega);obtain⟨g_c,o_c,c_c,hvv,_,_,_,hgl_c,a0_c⟩:=(Ti_m.o.ext Hx.o).get hs_c;obtain⟨rfl,-,rfl⟩:=slcX hvv;clear hvv;have Hs_c:=Y8 hs_c;clear hs_c;obtain⟨r1,r2,r3⟩:=(G.o.dec2 m (Zy Hs_m.o)).2 c (Zy Hs_c.o);have q1:(c==46)=false:=by simp[r1]
   have HY:=Y8 r2;have HJ:=Y8 r3;clear r1 r2 r3;go_wp2_with (first|(go_at_call 113;refine(Ja _ _).mono ?_;rintro e w' ⟨rfl,rfl⟩;rw[HY.o])|(go_at_call 145;refine(Fr _ _).mono ?_;rintro e w' ⟨rfl,rfl⟩;rw[HJ.o]));all_goals
    have hx:=Hx.o
    first
    | (go_roundw
       case rel=>exact⟨j+1,by omega,by go_num,xE⟩
       (simp[intOf];omega))
    | (go_ret;exact⟨rfl,X0.o.trans xE⟩)
  have hd_j:=GEl j n_m;have hkl:=Hkl.o;go_wp2_with fail;all_goals
   have hx:=Hx.o
   first
   | (go_roundw
      case rel=>exact⟨i+1,by omega,by go_num,xE⟩
      (simp[intOf];omega))
   | (go_ret;exact⟨rfl,X0.o.trans xE⟩)
 have hd_i:=GEl i n9;have b9:=(Hb0.o.ext Hx.o).at_ 9 (by omega);rw[show(Qk T)[9]?=some T.decV from rfl,E9.o]at b9;go_wp2_with fail;have Hx1:=Y8 Hx.o;clear Hx hlt hd_i hi_i b9;go_loopw [44] (fun o wr=>∃ i:Nat,i≤n9∧o=.int .i64 (i:Int)∧Ext (w.alloc (Wz T)) wr) (fun o _=>n9-(intOf o).toNat);case atStart=>exact⟨0,by omega,rfl,Hx1.o⟩
 clear Hx1;obtain⟨k,hi_k,rfl,hx⟩:=hrel;have Hx:=Y8 hx;clear hx;by_cases hlt:k<n9
 ·obtain⟨hd_k,i0_k,i1_k⟩:=LTl k n9;obtain⟨m,hs_m⟩:=geX (l:=(T.dec)) (i:=k) (by have:=Hn9.o;omega);obtain⟨g_m,o_m,c_m,hvv,_,_,_,hgl_m,a0_m,a1_m,_⟩:=(H9.o.ext Hx.o).get hs_m;obtain⟨rfl,-,rfl⟩:=slcX hvv;clear hvv;have ti_m:=H9.o.2 _ (Zy hs_m);obtain⟨A_m,C_m,tv_m,tl_m,tc_m⟩:=ti_m.shape;obtain⟨n_m,hn_m⟩:=gnX (m.to_.length);rw[tv_m]at a1_m ti_m;rw[hn_m]at a1_m tl_m;have Hn_m:=Y8 hn_m;unfold maxLen at tc_m;have Hs_m:=Y8 hs_m;have Ti_m:=Y8 ti_m;clear hs_m ti_m tv_m hn_m;obtain⟨r,hfull⟩:=Zeh.1 (G.o.fin m (Zy Hs_m.o));have Hfull:=Y8 hfull;clear hfull;go_wp2_with (first|(refine Xy (Hb0.o.ext (have hx:=Hx.o;xE)) rfl ?_)|(go_at_call 146;refine(Dw T m.fr _ (H.o.up (have hx:=Hx.o;xE)) Hf.o).mono ?_;rintro e w5 hp;unfold J2 at hp;rw[Hfull.o]at hp;obtain⟨v5,rfl,hv5,hx5⟩:=hp));all_goals
   have hx:=Hx.o
   first
   | (go_roundw
      case rel=>exact⟨k+1,by omega,by go_num,xE⟩
      (simp[intOf];omega))
   | (go_ret;exact⟨rfl,X0.o.trans xE⟩)
 have hd_k:=GEl k n9;go_wp2_with fail;all_goals
  have hx:=Hx.o
  first
  | (go_roundw
     case rel=>exact⟨k+1,by omega,by go_num,xE⟩
     (simp[intOf];omega))
  | (go_ret;exact⟨rfl,X0.o.trans xE⟩)
theorem Wp{ops:Array Oper}{rest:List Oper}{dst:Option Nat}{x:Operand}{t:TypeId}{pos:String}{af:Array Edge}{gd:Option (Nat×Bool)}{a:Act}{w:World}{Q:Exit→Act→World→Prop}{b:Nat}{T:Tbl}(h:Kn w b T)
 (hw:Region.wanted {dst:=dst,op:=.load 34 x,type:=t,pos:=pos,after:=af,guard:=gd} (yielded ops a.tmps)=true) (hx:a.eval x=.pointer (some ⟨b,0,none⟩)) (hK:wpList prog ops Q rest (a.put dst (Vg T)) w) :
 wpList prog ops Q ({dst:=dst,op:=.load 34 x,type:=t,pos:=pos,after:=af,guard:=gd}::rest) a w:=by
 have hu:=Pu;rw[Zg9]at hu;obtain⟨d,hu,hd⟩:=hu;show if _ then _ else _
 rw[Zgn hw];exact .inl (wp_load_mid _ x rfl b 0 hx (Qk T) d h.range hu hd (by rw[Bm];rfl) hK)
def hcO(a b:Int):Option Int :=
 if Ln a=1∧Ln b=2 then some (wrap64 (44032+wrap64 (wrap64 (wrap64 (wrap64 (21*wrap64 (a-4352))+b)-4449)*28)))
 else if Ln a=4∧Ln b=3 then some (wrap64 (wrap64 (a+b)-4519))
 else none
def Zkq:Option Int→Value
 | some c=>.tuple #[.int .i64 c,.bool true]
 | none=>.tuple #[.int .i64 0,.bool false]
theorem Zky(a b:Int)(w:World):Calls prog 249 #[.int .i64 a,.int .i64 b] w fun e w'=>e=.returned (Zkq (hcO a b))∧w=w':=by
 cases h1:(Ln a==1)
 ·cases h3:(Ln a==4)
  ·have Hc:=Y8 (show hcO a b=none by simp at h1 h3;unfold hcO;rw[Zgq (fun h=>h1 h.1),Zgq (fun h=>h3 h.1)]);go_enter func249,ntmps249;go_wp2_with (go_at_call 262;refine(Dm _ _).mono ?_;rintro e w' ⟨rfl,rfl⟩);go_ret2;exact⟨by rw[Hc.o];rfl,rfl⟩
  cases h4:(Ln b==3)
  ·have Hc:=Y8 (show hcO a b=none by simp at h1 h4;unfold hcO;rw[Zgq (fun h=>h1 h.1),Zgq (fun h=>h4 h.2)]);go_enter func249,ntmps249;go_wp2_with (go_at_call 262;refine(Dm _ _).mono ?_;rintro e w' ⟨rfl,rfl⟩);go_ret2;exact⟨by rw[Hc.o];rfl,rfl⟩
  have Hc:=Y8 (show hcO a b=some (wrap64 (wrap64 (a+b)-4519)) by simp at h1 h3 h4;unfold hcO;rw[Zgq (fun h=>h1 h.1),Zgn ⟨h3,h4⟩]);go_enter func249,ntmps249;go_wp2_with (go_at_call 262;refine(Dm _ _).mono ?_;rintro e w' ⟨rfl,rfl⟩);go_ret2;exact⟨by rw[Hc.o];rfl,rfl⟩
 cases h2:(Ln b==2)
 ·cases h3:(Ln a==4)
  ·have Hc:=Y8 (show hcO a b=none by simp at h2 h3;unfold hcO;rw[Zgq (fun h=>h2 h.2),Zgq (fun h=>h3 h.1)]);go_enter func249,ntmps249;go_wp2_with (go_at_call 262;refine(Dm _ _).mono ?_;rintro e w' ⟨rfl,rfl⟩);go_ret2;exact⟨by rw[Hc.o];rfl,rfl⟩
  simp at h1 h3;omega
 have Hc:=Y8 (show hcO a b=some (wrap64 (44032+wrap64 (wrap64 (wrap64 (wrap64 (21*wrap64 (a-4352))+b)-4449)*28))) by simp at h1 h2;unfold hcO;rw[Zgn ⟨h1,h2⟩]);go_enter func249,ntmps249;go_wp2_with (go_at_call 262;refine(Dm _ _).mono ?_;rintro e w' ⟨rfl,rfl⟩);go_ret2;exact⟨by rw[Hc.o];rfl,rfl⟩
def Zy9(T:Tbl)(a b:Int):List Mp→Option Int
 | []=>none
 | m::r=>if m.to_=[a,b]∧Be T m.fr=true then some m.fr else Zy9 T a b r
def Df(T:Tbl)(a b:Int):Option Int:=(hcO a b).or (Zy9 T a b T.dec)
theorem Mx{T:Tbl}{a b:Int}{m:Mp}{r:List Mp}(h:¬ (m.to_=[a,b]∧Be T m.fr=true)):Zy9 T a b (m::r)=Zy9 T a b r:=by rw[Zy9,Zgq h]
theorem Jy{S:Nat→Prop}(T:Tbl)(hfin:Zo0 T)(hf:Few T)(a b:Int)(w:World)(h:Xg w S T):Calls prog 227 #[Vg T,.int .i64 a,.int .i64 b] w fun e w'=>e=.returned (Zkq (Df T a b))∧Ext w w':=by
 obtain⟨A9,C9,e9,hl9,hc9⟩:=h.dec.shape;have h9:=h.dec.ext ((Yk w).alloc (Wz T));obtain⟨n9,hn9⟩:=gnX (T.dec.length);rw[hn9]at e9 hl9;rw[e9]at h9;have Hn9:=Y8 hn9;have E9:=Y8 e9;have H9:=Y8 h9;unfold maxLen at hc9;clear hn9 e9 h9;obtain⟨X0,H,Hb0⟩:=tblX h;clear h;have Hf:=Y8 hf;have HF:=Y8 hfin;clear hf hfin;go_enter func227,ntmps227;cases hc:hcO a b with
 | some c =>
  have Hc:=Y8 hc;have e1:Zkq (hcO a b)=.tuple #[.int .i64 c,.bool true]:=by rw[hc];rfl
  go_wp2_with (first|(refine Xv rfl ?_)|(go_at_call 249;refine(Zky _ _ _).mono ?_;rintro e w' ⟨rfl,rfl⟩;rw[e1]));go_ret2;exact⟨by rw[show Df T a b=some c by unfold Df;rw[Hc.o];rfl];rfl,X0.o⟩
 | none =>
  have Hc:=Y8 hc;have e1:Zkq (hcO a b)=.tuple #[.int .i64 0,.bool false]:=by rw[hc];rfl
  clear hc;have Hx0:=Y8 (Yk (w.alloc (Wz T)));have b9:=(Hb0.o.ext Hx0.o).at_ 9 (by omega);rw[show(Qk T)[9]?=some T.decV from rfl,E9.o]at b9;go_wp2_with (first|(refine Xv rfl ?_)|(go_at_call 249;refine(Zky _ _ _).mono ?_;rintro e w' ⟨rfl,rfl⟩;rw[e1]));clear b9;go_loopw [23] (fun o wr=>∃ i:Nat,i≤n9∧o=.int .i64 (i:Int)∧Df T a b=Zy9 T a b (T.dec.drop i)∧Ext (w.alloc (Wz T)) wr) (fun o _=>n9-(intOf o).toNat);case atStart=>exact⟨0,by omega,rfl,by unfold Df;rw[Hc.o];rfl,Hx0.o⟩
  clear Hx0;obtain⟨i,hi,rfl,hp,hx⟩:=hrel;have Hx:=Y8 hx;have Hp:=Y8 hp;clear hx hp;by_cases hlt:i<n9
  ·obtain⟨hd_i,i0_i,i1_i⟩:=LTl i n9;obtain⟨m,hs_m⟩:=geX (l:=(T.dec)) (i:=i) (by have:=Hn9.o;omega);obtain⟨g_m,o_m,c_m,hvv,_,_,_,hgl_m,a0_m,a1_m,_⟩:=(H9.o.ext Hx.o).get hs_m;obtain⟨rfl,-,rfl⟩:=slcX hvv;clear hvv;have ti_m:=H9.o.2 _ (Zy hs_m);obtain⟨A_m,C_m,tv_m,tl_m,tc_m⟩:=ti_m.shape;obtain⟨n_m,hn_m⟩:=gnX (m.to_.length);rw[tv_m]at a1_m ti_m;rw[hn_m]at a1_m tl_m;have Hn_m:=Y8 hn_m;unfold maxLen at tc_m;have Hs_m:=Y8 hs_m;have Ti_m:=Y8 ti_m;clear hs_m ti_m tv_m hn_m;have hbl:=(Hb0.o.ext Hx.o).lt;have Hd:=Y8 (show T.dec.drop i=m::T.dec.drop (i+1) from drop_at Hs_m.o);by_cases h2:n_m=2
   ·subst h2;obtain⟨x,y,exy⟩:∃ x y,m.to_=[x,y]:=by
     have h2:=Hn_m.o
     match hh:m.to_ with
     | [x,y]=>exact⟨x,y,rfl⟩
     | []=>rw[hh]at h2;simp at h2
     | [_]=>rw[hh]at h2;simp at h2
     | _::_::_::_=>rw[hh]at h2;simp at h2
    have t:=Ti_m.o;rw[exy]at t;have Hxy:=Y8 exy;clear exy;obtain⟨gg,oo,cc,hv0,_,_,_,_,u⟩:=(t.ext (Hx.o.alloc (.cells #[.int .i64 m.fr,.slice A_m 2 C_m] 106))).get (j:=0) rfl;obtain⟨gg',oo',cc',hv1,_,_,_,_,v⟩:=(t.ext (Hx.o.alloc (.cells #[.int .i64 m.fr,.slice A_m 2 C_m] 106))).get (j:=1) rfl;rw[hv0]at hv1;simp only[Yd,Yc,Zga,Zg0,Zfw]at hv1;obtain⟨⟨rfl,rfl⟩,rfl⟩:=hv1;obtain⟨rfl,-,rfl⟩:=slcX hv0;clear hv0;rw[Zfu]at u;clear t;cases q1:(x==a)
    ·have Hno:=Y8 (show ¬ (m.to_=[a,b]∧Be T m.fr=true) by rw[Hxy.o];simp at q1⊢;exact fun h=>absurd h q1);go_wp2_with fail;go_roundw;case rel=>exact⟨i+1,by omega,by go_num,by rw[Hp.o,Hd.o,Mx Hno.o],Hx.o.alloc _⟩
     (simp[intOf];omega)
    cases q2:(y==b)
    ·have Hno:=Y8 (show ¬ (m.to_=[a,b]∧Be T m.fr=true) by rw[Hxy.o];simp at q2⊢;exact fun _ h=>absurd h q2);go_wp2_with fail;go_roundw;case rel=>exact⟨i+1,by omega,by go_num,by rw[Hp.o,Hd.o,Mx Hno.o],Hx.o.alloc _⟩
     (simp[intOf];omega)
    have Hyes:=Y8 (show m.to_=[a,b] by rw[Hxy.o];simp at q1 q2;rw[q1,q2]);cases q3:Be T m.fr
    ·have Hno:=Y8 (show ¬ (m.to_=[a,b]∧Be T m.fr=true) by rw[q3];simp);go_wp2_with (first|(refine Wp (Hb0.o.ext (Hx.o.alloc _)) (by go_simp) rfl ?_)|(go_at_call 112;refine(Uz T HF.o Hf.o _ _ (H.o.up (Hx.o.alloc _))).mono ?_;rintro e w5 ⟨rfl,hx5⟩));go_roundw;case rel=>exact⟨i+1,by omega,by go_num,by rw[Hp.o,Hd.o,Mx Hno.o],(Hx.o.alloc _).trans hx5⟩
     (simp[intOf];omega)
    have Hy:=Y8 q3;go_wp2_with (first|(refine Wp (Hb0.o.ext (Hx.o.alloc _)) (by go_simp) rfl ?_)|(go_at_call 112;refine(Uz T HF.o Hf.o _ _ (H.o.up (Hx.o.alloc _))).mono ?_;rintro e w5 ⟨rfl,hx5⟩;have hc5:=fun k=>hx5.cell (p:=⟨wr.heap.size,k,none⟩) (by simp)));go_ret2;exact⟨by rw[Hp.o,Hd.o,Zy9,Zgn ⟨Hyes.o,Hy.o⟩];rfl,X0.o.trans ((Hx.o.alloc _).trans hx5)⟩
   have h2b:((n_m:Int)==2)=false:=by simp;omega
   have h2c:(n_m==2)=false:=by simp;omega
   have Hno:=Y8 (show ¬ (m.to_=[a,b]∧Be T m.fr=true) from fun h=>h2 (by rw[← Hn_m.o,h.1];rfl));clear h2;go_wp2_with fail;go_roundw;case rel=>exact⟨i+1,by omega,by go_num,by rw[Hp.o,Hd.o,Mx Hno.o],Hx.o.alloc _⟩
   (simp[intOf];omega)
  have hd_i:=GEl i n9;go_wp2_with fail;go_ret2;refine⟨?_,X0.o.trans Hx.o⟩;rw[Hp.o,Zf0 (by rw[Hn9.o];omega)];rfl
def Zjx(T:Tbl)(l:List Int)(w:World)(e:Ending)(w':World):Prop:=∃ v,e=.returned v∧RdE Ww w' (fun k=>w.heap.size≤k) v (El (Wk T.cls) l)∧Ext w w'
theorem Zy8{S S':Nat→Prop}(T:Tbl)(v:Value)(l:List Int)(w:World)(h:Xg w S T)(hl:Xw w S' v l)(hll:l.length≤100000):Calls prog 248 #[Vg T,v] w (Zjx T l w):=by
 obtain⟨A,C,rfl,hlCC,hCC⟩:=hl.shape;obtain⟨n,hnn⟩:=gnX ((l).length);have Hnn:=Y8 hnn;have Hhl:=Y8 hl;unfold maxLen at hCC;rw[hnn]at hlCC⊢;clear hl hnn;rw[Hnn.o]at hll;obtain⟨X0,H,Hb0⟩:=tblX h;clear h;have HL:=intX Hhl Hnn X0;obtain⟨B,hB⟩:=gnX ((w.alloc (Wz T)).heap.size);have HB:=Y8 hB;clear hB;go_enter func248,ntmps248;go_wp2_with (first|(refine Xv rfl ?_)|(at_builtin;refine Xt Ww _ _ _ rfl rfl rfl rfl (Own.nil Ww _ B) rfl HL.o (by rw[Hnn.o];simp;omega) (by show 8≤1000;omega) (by have:=HB.o;omega) ?_;intro A1 n1 c1 w1 hg;have Hg:=Y8 hg;clear hg));have Hx1:=Y8 (Hg.o.ext (w.alloc (Wz T)) (Yk _) (by rw[HB.o];exact Ym _));have hn1:n1=n:=by rw[Hg.o.len,Zo,Hnn.o]
 subst hn1;have Ho1:=Y8 (show Own Ww w1 B (.slice A1 n1 c1) l by have:=Hg.o.own;rwa [Zo]at this);clear Hg;go_loopg [6] (Sf (Wk T.cls) l+1) (fun gk mv wr=>∃ (b:Bool) (cur:List Int),mv=.bool b∧Own Ww wr B (.slice A1 n1 c1) cur∧cur.length=n1∧Ext (w.alloc (Wz T)) wr∧((b=true∧El (Wk T.cls) cur=El (Wk T.cls) l∧gk=Sf (Wk T.cls) cur+1)∨(b=false∧cur=El (Wk T.cls) l∧gk=0)));case atStart=>exact⟨true,l,rfl,Ho1.o,Hnn.o,Hx1.o,.inl ⟨rfl,rfl,rfl⟩⟩
 clear Ho1 Hx1;obtain⟨b,cur,rfl,ho,hcn,hx,hst⟩:=hrel;have Hx:=Y8 hx;have Ho:=Y8 ho;have Hcn:=Y8 hcn;clear hx ho hcn;rcases hst with⟨rfl,heq,hgk⟩ | ⟨rfl,heq,rfl⟩
 ·have Heq:=Y8 heq;have Hgk:=Y8 hgk;clear heq hgk;rename World=>wo
  go_wp2_with fail;go_loopw [7,6] (fun o mv wr=>∃ (k:Nat) (b:Bool),k≤n1-1∧o=.int .i64 ((k+1:Nat):Int)∧mv=.bool b∧Own Ww wr B (.slice A1 n1 c1) (Zwd (Wk T.cls) cur k)∧(b=false→Zwd (Wk T.cls) cur k=cur)∧(b=true→Sf (Wk T.cls) (Zwd (Wk T.cls) cur k)<Sf (Wk T.cls) cur)∧Ext (w.alloc (Wz T)) wr) (fun o _ _=>n1+1-(intOf o).toNat);case atStart=>exact⟨0,false,by omega,rfl,rfl,Ho.o,fun _=>rfl,fun h=>absurd h (by decide),Hx.o⟩
  clear Ho Hx;obtain⟨k,b,hk,rfl,rfl,ho,hf,ht,hx⟩:=hrel;obtain⟨p,hp⟩:=gnX (Zwd (Wk T.cls) cur k);rw[hp]at ho hf ht;have hpl:p.length=n1:=by rw[← hp,Ts,Hcn.o]
  have Hx:=Y8 hx;have Ho:=Y8 ho;have Hf:=Y8 hf;have Ht:=Y8 ht;have Hp:=Y8 hp;have Hpl:=Y8 hpl;clear hx ho hf ht hp hpl;by_cases hlt:k+1<n1
  ·have hd:decide (((k+1:Nat):Int)<(n1:Int))=true:=Ye;have hd2:decide ((k:Int)+1<(n1:Int))=true:=Ye;obtain⟨g,c,e,hg1,hg2,hg3,hg4⟩:=Ho.o.some_ (by rw[Hpl.o];omega);obtain⟨rfl,-,rfl⟩:=slcX e;clear e;rw[Hpl.o]at hg3;unfold maxLen at hg4;obtain⟨x,hx0⟩:=geX (l:=p) (i:=k) (by rw[Hpl.o];omega);obtain⟨y,hy0⟩:=geX (l:=p) (i:=k+1) (by rw[Hpl.o];omega);have Hx0:=Y8 hx0;have Hy0:=Y8 hy0;have m0:=lat (Ho.o.at_ (ints_at hx0));have m1:=lat (Ho.o.at_ (ints_at hy0));clear hx0 hy0;have HW:=Y8 (H.o.up Hx.o);have hC:∀ w',(∃ p:Vt,w'=later wr p.n p.os)→Kn w' w.heap.size T:=fun w' ⟨p,e⟩=>by rw[e];exact(Hb0.o.ext Hx.o).ext (⟨_,_,rfl⟩)
   have e1:(((k+1:Nat):Int)-1)=(k:Int):=by omega
   have q1:IntKind.i64.wrap (((k+1:Nat):Int)-1)=(k:Int):=by rw[Yp _ (by omega)];omega
   have q2:IntKind.i64.wrap ((k:Int)+1-1)=(k:Int):=by rw[Yp _ (by omega)];omega
   have q8:IntKind.i64.wrap (k:Int)=(k:Int):=Yp _ (by omega);have q3:(0:Int)≤(k:Int):=by omega
   have q4:(k:Int)<(n1:Int):=by omega
   have q5:(0:Int)≤(k:Int)+1:=by omega
   have q6:(k:Int)+1<(n1:Int):=by omega
   have q7:k<n1:=by omega
   have hun:=Ya;go_wp2_with fail;refine wreX ?_;repeat(first|((with_reducible refine Xf ?_ ?_ hC ?_);(focus(go_simp;done));rfl)|(refine(Yu ?_:);intro K hK;go_simp;first|(refine hK _ ?_;clear hK K)|(apply Exists.intro;refine⟨fun _=>?_,hK _ ?_⟩;(go_at_call 148;exact Xx (Xl T _ _ (HW.o.up (⟨_,_,rfl⟩))));clear hK K)))
   refine Yt ?_;intro w2 hy;clear hun;try simp only[Yb]
   have Hx2:=Y8 (Hx.o.trans hy);have Ho2:=Y8 (Ho.o.ext hy);clear hy m0 m1 HW hC;have c0:=Ho2.o.at_ (ints_at Hx0.o);have c1:=Ho2.o.at_ (ints_at Hy0.o);have t0:=Ho2.o.thaw k;have t1:=Ho2.o.thaw (k+1);have hgb:=Ho2.o.blk.2;have q9:IntKind.i64.wrap ((k:Int)+1+1)=((k+1+1:Nat):Int):=by rw[Yp _ (by omega)];omega
   by_cases hsw:0<Wk T.cls y∧Wk T.cls y<Wk T.cls x
   ·have d1:decide (0<Wk T.cls y)=true:=Ye hsw.1;have d2:decide (Wk T.cls y<Wk T.cls x)=true:=Ye hsw.2;have Hsw:=Y8 hsw;clear hsw;have Ho3:=Y8 ((Ho2.o.put rfl (i:=k) (by rw[Hpl.o];omega) y (u:=.int .i64 y) rfl).put rfl (i:=k+1) (by rw[Zf,Hpl.o];omega) x (u:=.int .i64 x) rfl);have Hsame:=Y8 (show Zwd (Wk T.cls) cur (k+1)=(p.set k y).set (k+1) x by rw[Zwd,Hp.o];exact Zou (by rw[Zdq];exact Hx0.o) Hy0.o Hsw.o);have Hlt:=Y8 (show Sf (Wk T.cls) (Zwd (Wk T.cls) cur (k+1))<Sf (Wk T.cls) cur by
     rw[Zwd,Hp.o];have h1:=Zhb (f:=Wk T.cls) Hx0.o Hy0.o Hsw.o;cases b with
     | true=>have:=Ht.o rfl;omega
     | false=>rw[Hf.o rfl]at h1⊢;exact h1)
    go_wp2_with fail;go_region;all_goals
     go_wp2_with fail;go_roundw;case rel=>exact⟨k+1,true,by omega,by go_num,rfl,by rw[Hsame.o];exact Ho3.o,fun h=>absurd h (by decide),fun _=>Hlt.o,(Y0 (Y0 Hx2.o (by have:=HB.o;show _≤g;omega) _) (by have:=HB.o;show _≤g;omega) _).drew⟩
     (simp[intOf];omega)
   have Hsw:=Y8 hsw;have Hsame:=Y8 (show Zwd (Wk T.cls) cur (k+1)=p by rw[Zwd,Hp.o];exact Zha (by rw[Zdq];exact Hx0.o) Hy0.o hsw);by_cases d0:0<Wk T.cls y
   ·have d1:decide (0<Wk T.cls y)=true:=Ye d0;have d2:decide (Wk T.cls y<Wk T.cls x)=false:=Yf fun h=>hsw ⟨d0,h⟩
    clear hsw d0;go_wp2_with fail;go_roundw;case rel=>exact⟨k+1,b,by omega,by go_num,rfl,by rw[Hsame.o];exact Ho2.o,by rw[Hsame.o];exact Hf.o,by rw[Hsame.o];exact Ht.o,Hx2.o⟩
    (simp[intOf];omega)
   have d1:decide (0<Wk T.cls y)=false:=Yf d0;clear hsw d0;go_wp2_with fail;go_roundw;case rel=>exact⟨k+1,b,by omega,by go_num,rfl,by rw[Hsame.o];exact Ho2.o,by rw[Hsame.o];exact Hf.o,by rw[Hsame.o];exact Ht.o,Hx2.o⟩
   (simp[intOf];omega)
  have hd:decide (((k+1:Nat):Int)<(n1:Int))=false:=Yf;have hd2:decide ((k:Int)+1<(n1:Int))=false:=Yf;have hk2:k=cur.length-1:=by rw[Hcn.o];omega
  have Hk2:=Y8 (show p=Zuh (Wk T.cls) cur by rw[← Hp.o,hk2];rfl);clear hk2;go_wp2_with fail;cases b with
  | true =>
   go_roundg (Sf (Wk T.cls) p+1);case measure=>have:=Ht.o rfl;have:=Hgk.o;omega
   case rel =>
    refine⟨true,p,rfl,Ho.o,Hpl.o,Hx.o,.inl ⟨rfl,?_,rfl⟩⟩;rw[← Heq.o,Zm8 (f:=Wk T.cls) (l:=cur) (by rw[← Hk2.o];exact Ht.o rfl),← Hk2.o]
  | false =>
   go_roundg 0;case measure=>have:=Hgk.o;omega
   case rel =>
    refine⟨false,p,rfl,Ho.o,Hpl.o,Hx.o,.inr ⟨rfl,?_,rfl⟩⟩;have h1:=Hf.o rfl;rw[← Heq.o,Zq4 (f:=Wk T.cls) (l:=cur) (by rw[← Hk2.o];exact h1)];exact h1
 have Heq:=Y8 heq;clear heq;go_wp2_with fail;go_ret;refine⟨_,rfl,?_,X0.o.trans Hx.o⟩;rw[← Heq.o];have:=Ho.o.rd;rw[← Hcn.o]at this⊢;exact Rd.mono this fun k hk _=>Zgo (by have:=X0.o.size;have:=HB.o;omega) hk
