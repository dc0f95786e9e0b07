/- Lemmas of this claim: RP, RI, RQ, RRh, RS. Conditions: as named. -/
import Derived.Deep.LoopGhost
import Derived.Test.YtnbclgbicnpmnaaGreatA08
namespace Go.Proofs.YtnbclgbicnpmnaaGreat
open Go.RowKit Go.Sort Tryz
set_option maxHeartbeats 0
set_option maxRecDepth 100000
set_option linter.all false
theorem Pt{fn:Func}{t u v x:Tmp}(h:fn.results = #[.tmp t,.tmp u,.tmp v,.tmp x])(tmps:Array Value)(P:Program)(w:World) :
 (results fn tmps).run P w=.ok (.tuple #[tmps.getD t undef,tmps.getD u undef,tmps.getD v undef,tmps.getD x undef]) w:=by
 simp[results,h]
theorem Wn(w:World)(t:TypeId)(zs:List Int)(n:Nat)(hn:zs.length=n)(cs:Array Value)(hcs:cs=(zs.map (Value.int .i64)).toArray)(h18:n≤1000):RdE Wb (w.alloc (.cells cs t)) (fun k=>w.heap.size≤k) (.slice (some ⟨w.heap.size,0,none⟩) n n) zs:=by
 subst hn hcs;have h1:(w.alloc (.cells (zs.map (Value.int .i64)).toArray t)).heap[w.heap.size]?=some (.cells (zs.map (Value.int .i64)).toArray t):=Zjc w _;show Rd _ _ 1 _ _ (zs.map (Value.int .i64));refine⟨by simp,_,_,rfl,Yn _,by unfold maxLen;omega,fun _=>⟨_,_,rfl,Yn _,(Zjz.1 h1).1,fun j u hu=>?_⟩⟩;simp only[World.cell?,h1];rw[Zjd,← hu];simp
theorem Rh(c:Int):Bh c=true↔44032≤c∧c≤55203:=by simp[Bh]
def Fr(c:Int):Int :=
 if 4352≤c∧c≤4370 then 1 else if 4449≤c∧c≤4469 then 2 else if 4520≤c∧c≤4546 then 3 else if Bh c=false then 0 else if(c-44032)%28=0 then 4 else 5
theorem Er(c:Int)(w:World):Calls prog 262 #[.int .i64 c] w fun e w'=>e=.returned (.int .i64 (Fr c))∧w=w':=by
 go_enter func262,ntmps262;cases hs:Bh c
 ·have Hs:=Zj7 hs;go_wp2_with (go_at_call 113;refine(Jl _ _).mono ?_;rintro e w' ⟨rfl,rfl⟩;rw[hs]);all_goals
   go_ret;refine⟨Rm ?_,rfl⟩;unfold Fr;rw[Hs.out];simp;try(repeat' split)
   all_goals(simp at *;try omega)
 obtain⟨hc1,hc2⟩:=(Rh c).1 hs;have Hs:=Zj7 hs;go_wp2_with (go_at_call 113;refine(Jl _ _).mono ?_;rintro e w' ⟨rfl,rfl⟩;rw[hs]);all_goals
  go_ret;refine⟨Rm ?_,rfl⟩;unfold Fr;rw[Hs.out];simp;try(repeat' split)
  all_goals(simp at *;try omega)
def Mr(c:Int):Value:=if Bh c=true then .tuple #[.int .i64 ((c-44032)/588),.int .i64 ((c-44032)/28%21),.int .i64 ((c-44032)%28),.bool true]else .tuple #[.int .i64 0,.int .i64 0,.int .i64 0,.bool false]
theorem Zpa(c:Int)(w:World)(hs:Bh c=false):Calls prog 270 #[.int .i64 c] w fun e w'=>e=.returned (Mr c)∧w=w':=by
 have Hv:=Zj7 (show Mr c=.tuple #[.int .i64 0,.int .i64 0,.int .i64 0,.bool false] by unfold Mr;rw[Zk9 (by rw[hs];simp)]);go_enter func270,ntmps270;go_wp2_with fail;go_loopw [6] (fun o wr=>∃ i:Nat,i≤19∧o=.int .i64 (i:Int)∧w=wr) (fun o _=>19-(intOf o).toNat);case atStart=>exact⟨0,by omega,rfl,rfl⟩
 obtain⟨i,hi,rfl,rfl⟩:=hrel;by_cases hlt:i<19
 ·have hd_i:decide ((i:Int)<(19:Int))=true:=Yf;have i0_i:(0:Int)≤(i:Int):=by omega
  have i1_i:(i:Int)<(19:Int):=by omega
  go_wp2_with fail;go_loopw [7] (fun o wr=>∃ j:Nat,j≤21∧o=.int .i64 (j:Int)∧w=wr) (fun o _=>21-(intOf o).toNat);case atStart=>exact⟨0,by omega,rfl,rfl⟩
  obtain⟨j,hj,rfl,rfl⟩:=hrel;by_cases hlj:j<21
  ·have hd_j:decide ((j:Int)<(21:Int))=true:=Yf;have i0_j:(0:Int)≤(j:Int):=by omega
   have i1_j:(j:Int)<(21:Int):=by omega
   go_wp2_with (go_at_call 113;refine(Jl _ _).mono ?_;rintro e w' ⟨rfl,rfl⟩;rw[hs]);go_roundw;case rel=>exact⟨j+1,by omega,by go_num,by first|rfl|trivial⟩
   (simp[intOf];omega)
  have hd_j:decide ((j:Int)<(21:Int))=false:=Yg;go_wp2_with fail;go_roundw;case rel=>exact⟨i+1,by omega,by go_num,by first|rfl|trivial⟩
  (simp[intOf];omega)
 have hd_i:decide ((i:Int)<(19:Int))=false:=Yg;go_wp2_with fail;(((try simp only[Exit.inBlock,Exit.then]);refine Ys (Pt rfl _ _ _) rfl ?_))
 exact⟨by rw[Hv.out];rfl,rfl⟩
theorem Zsm(c:Int)(w:World)(hs:Bh c=true):Calls prog 270 #[.int .i64 c] w fun e w'=>e=.returned (Mr c)∧w=w':=by
 have Hv:=Zj7 (show Mr c=.tuple #[.int .i64 ((c-44032)/588),.int .i64 ((c-44032)/28%21),.int .i64 ((c-44032)%28),.bool true] by unfold Mr;rw[Zjx hs]);obtain⟨hc1,hc2⟩:=(Rh c).1 hs;go_enter func270,ntmps270;go_wp2_with fail;go_loopw [6] (fun o wr=>∃ i:Nat,i≤19∧o=.int .i64 (i:Int)∧Aside (21*(i:Int)≤(c-44032)/28)∧w=wr) (fun o _=>19-(intOf o).toNat);case atStart=>exact⟨0,by omega,rfl,by show _≤_;omega,rfl⟩
 obtain⟨i,hi,rfl,hq,rfl⟩:=hrel;have Hq:=Zj7 hq.out;clear hq;by_cases hlt:i<19
 ·have hd_i:decide ((i:Int)<(19:Int))=true:=Yf;have i0_i:(0:Int)≤(i:Int):=by omega
  have i1_i:(i:Int)<(19:Int):=by omega
  go_wp2_with fail;go_loopw [7] (fun o wr=>∃ j:Nat,j≤21∧o=.int .i64 (j:Int)∧Aside (21*(i:Int)+j≤(c-44032)/28)∧w=wr) (fun o _=>21-(intOf o).toNat);case atStart=>exact⟨0,by omega,rfl,by have:=Hq.out;show _≤_;omega,rfl⟩
  obtain⟨j,hj,rfl,hqj,rfl⟩:=hrel;have Hqj:=Zj7 hqj.out;clear hqj;by_cases hlj:j<21
  ·have hd_j:decide ((j:Int)<(21:Int))=true:=Yf;have i0_j:(0:Int)≤(j:Int):=by omega
   have i1_j:(j:Int)<(21:Int):=by omega
   have hqj:=Hqj.out;go_wp2_with (go_at_call 113;refine(Jl _ _).mono ?_;rintro e w' ⟨rfl,rfl⟩;rw[hs]);all_goals
    first
    | (go_roundw
       case rel=>exact⟨j+1,by omega,by go_num,by show _≤_;omega,by first|rfl|trivial⟩
       (simp[intOf];omega))
    | ((((try simp only[Exit.inBlock,Exit.then]);refine Ys (Pt rfl _ _ _) rfl ?_))
       refine⟨?_,rfl⟩;rw[Hv.out,show(c-44032)/588=(i:Int) by omega,show(c-44032)/28%21=(j:Int) by omega,show(c-44032)%28=c-44032-(21*(i:Int)+j)*28 by omega];rfl)
  have hd_j:decide ((j:Int)<(21:Int))=false:=Yg;go_wp2_with fail;go_roundw;case rel=>exact⟨i+1,by omega,by go_num,by have:=Hqj.out;show _≤_;omega,by first|rfl|trivial⟩
  (simp[intOf];omega)
 exfalso;have:=Hq.out;omega
theorem Mq(c:Int)(w:World):Calls prog 270 #[.int .i64 c] w fun e w'=>e=.returned (Mr c)∧w=w':=by
 cases hs:Bh c
 ·exact Zpa c w hs
 exact Zsm c w hs
def Ex(c:Int):List Int:=if Bh c=true then(if(c-44032)%28=0 then[4352+(c-44032)/588,4449+(c-44032)/28%21]else[4352+(c-44032)/588,4449+(c-44032)/28%21,4519+(c-44032)%28])else[]
def Zqy(c:Int)(w:World)(e:Ending)(w':World):Prop:=∃ v,e=.returned v∧RdE Wb w' (fun k=>w.heap.size≤k) v (Ex c)∧Ext w w'
theorem Zyh(c:Int)(w:World):Calls prog 261 #[.int .i64 c] w (Zqy c w):=by
 go_enter func261,ntmps261;cases hs:Bh c
 ·have hv:Mr c=.tuple #[.int .i64 0,.int .i64 0,.int .i64 0,.bool false]:=by unfold Mr;rw[Zk9 (by rw[hs];simp)]
  have Hl:=Zj7 (show Ex c=[] by unfold Ex;rw[Zk9 (by rw[hs];simp)]);go_wp2_with (go_at_call 270;refine(Mq _ _).mono ?_;rintro e w' ⟨rfl,rfl⟩;rw[hv]);go_ret;refine⟨.slice none 0 0,rfl,?_,Yl _⟩;rw[Hl.out];exact Xx.nil _ _
 obtain⟨hc1,hc2⟩:=(Rh c).1 hs;have hv:Mr c=.tuple #[.int .i64 ((c-44032)/588),.int .i64 ((c-44032)/28%21),.int .i64 ((c-44032)%28),.bool true]:=by unfold Mr;rw[Zjx hs]
 have Hsy:=Zj7 hs;by_cases h0:(c-44032)%28=0
 ·have Hl:=Zj7 (show Ex c=[4352+(c-44032)/588,4449+(c-44032)/28%21] by unfold Ex;rw[Zjx Hsy.out,Zjx h0]);have q1:((c-44032)%28==0)=true:=by simpa using h0
  go_wp2_with (go_at_call 270;refine(Mq _ _).mono ?_;rintro e w' ⟨rfl,rfl⟩;rw[hv]);go_ret;refine⟨.slice (some ⟨w.heap.size,0,none⟩) 2 2,rfl,?_,(Yl w).alloc _⟩;rw[Hl.out];exact Wn w _ _ 2 rfl _ rfl (by omega)
 have Hl:=Zj7 (show Ex c=[4352+(c-44032)/588,4449+(c-44032)/28%21,4519+(c-44032)%28] by unfold Ex;rw[Zjx Hsy.out,Zk9 h0]);have q1:((c-44032)%28==0)=false:=by simpa using h0
 go_wp2_with (go_at_call 270;refine(Mq _ _).mono ?_;rintro e w' ⟨rfl,rfl⟩;rw[hv]);go_ret;refine⟨.slice (some ⟨w.heap.size,0,none⟩) 3 3,rfl,?_,(Yl w).alloc _⟩;rw[Hl.out];exact Wn w _ _ 3 rfl _ rfl (by omega)
theorem Ol{S:Nat→Prop}(T:Tbl)(c:Int)(w:World)(h:Xk w S T)(hne:(Xf T.dec c).length≠2) :
 Calls prog 112 #[Vn T,.int .i64 c] w fun e w'=>e=.returned (.bool false)∧Ext w w':=by
 obtain⟨A9,C9,e9,hl9,hc9⟩:=h.dec.shape;have h9:=h.dec.ext ((Yl w).alloc (Wx T));obtain⟨n9,hn9⟩:=gnX (T.dec.length);rw[hn9]at e9 hl9;rw[e9]at h9;have Hn9:=Y4 hn9;have E9:=Y4 e9;have H9:=Y4 h9;unfold maxLen at hc9;clear hn9 e9 h9;have X0:=Y4 ((Yl w).alloc (Wx T));have H:=Y4 (h.up X0.o);have Hb0:=Y4 (Xm w T);clear h;have hfa:=Qh (S:=S) (c:=c) H9.o.2;obtain⟨FA,FC,ef,_,fc⟩:=hfa.shape;obtain⟨d,hd⟩:=gnX ((Xf T.dec c).length);rw[hd]at ef hne;have Hx:=Y4 (Yl (w.alloc (Wx T)));have b9:=(Hb0.o.ext Hx.o).at_ 9 (by omega);rw[show(Qj T)[9]?=some T.decV from rfl,E9.o]at b9;clear hfa Hx hd;have q1:(!((d:Int)==2))=true:=by simp;omega
 have q2:((d:Int)!=2)=true:=q1;have q3:((d:Int)==2)=false:=by simp;omega
 have Hne:=Y4 hne;clear hne;go_enter func112,ntmps112;go_wp2_with (first|(refine Xw rfl ?_)|(go_at_call 111;refine(Ww _ T.dec c _ H9.o).mono ?_;rintro e w1 ⟨rfl,hx1⟩));have HW:=Y4 (H.o.up hx1);have HD:=Y4 (H9.o.ext hx1);have hun:=Yb;refine Y8 (by kernel_rfl) (by kernel_rfl) ?_;repeat((with_reducible refine Yu ?_);intro K hK;go_simp;first|((with_reducible refine hK _ ?_);clear hK K)|(apply Exists.intro;refine⟨fun _=>?_,hK _ ?_⟩;(first|(go_at_call 147;exact Xy (Wj T _ _ (HW.o.up (⟨_,_,rfl⟩))))|(go_at_call 148;exact Xy (Xo T _ _ (HW.o.up (⟨_,_,rfl⟩))))|(go_at_call 111;exact Xy (Ww _ T.dec _ _ (HD.o.ext (⟨_,_,rfl⟩)))));clear hK K))
 (with_reducible refine Yt ?_)
 intro w2 hy;clear hun;go_wp2_with fail;go_ret;exact⟨rfl,X0.o.trans (hx1.trans hy)⟩
theorem Zqf{S:Nat→Prop}(T:Tbl)(hfin:Zr2 T)(hf:Few T):∀ (n:Nat) (c:Int) (w:World),Dep T.dec n c→Xk w S T →
 Calls prog 112 #[Vn T,.int .i64 c] w fun e w'=>e=.returned (.bool (Dv T (n+1) c))∧Ext w w':=by
 intro n
 induction n with
 | zero =>
  intro c w hd h;have hd':Xf T.dec c=[]:=hd;rw[Lt (by rw[hd'];simp)];exact Ol T c w h (by rw[hd'];simp)
 | succ n ih =>
  intro c w hd h;by_cases h2:(Xf T.dec c).length=2
  ·obtain⟨x,y,hxy⟩:∃ x y,Xf T.dec c=[x,y]:=by
    match hh:Xf T.dec c with
    | [x,y]=>exact⟨x,y,rfl⟩
    | []=>rw[hh]at h2;simp at h2
    | [_]=>rw[hh]at h2;simp at h2
    | _::_::_::_=>rw[hh]at h2;simp at h2
   refine Zu1 T hfin hf (n+1) c x y w h hxy fun hne w' hx=>?_
   refine ih x w' ?_ (h.up hx);rcases hd with hd | ⟨x',r,hd,hd2⟩
   ·rw[hxy]at hd;simp at hd
   rw[hxy]at hd;simp only[Zfx]at hd;rw[hd.1];exact hd2
  rw[Lt h2];exact Ol T c w h h2
def Gf(T:Tbl)(c:Int):Bool:=Dv T 258 c
theorem Kn{S:Nat→Prop}(T:Tbl)(hfin:Zr2 T)(hf:Few T)(c:Int)(w:World)(h:Xk w S T) :
 Calls prog 112 #[Vn T,.int .i64 c] w fun e w'=>e=.returned (.bool (Gf T c))∧Ext w w' :=
 Zqf T hfin hf 257 c w (Zmy hfin c) h
def Cg(T:Tbl)(c:Int):List Int:=if Ex c≠[]then Ex c else(Q4 T.dec 257 [c]).getD []
theorem Zts(c:Int):(Ex c).length≤3:=by
 unfold Ex;split
 ·split<;>simp
 simp
theorem Zyk(T:Tbl)(c:Int):(Cg T c).length≤18:=by
 unfold Cg;split
 ·have:=Zts c;omega
 cases h:Q4 T.dec 257 [c]with
 | none=>simp
 | some r=>exact P9 _ _ _ _ (by simp) h
def Znn(T:Tbl)(c:Int)(w:World)(e:Ending)(w':World):Prop:=∃ v,e=.returned v∧RdE Wb w' (fun k=>w.heap.size≤k) v (Cg T c)∧Ext w w'
theorem Zwv{S:Nat→Prop}(T:Tbl)(hf:Few T)(c:Int)(w:World)(h:Xk w S T):Calls prog 247 #[Vn T,.int .i64 c] w (Znn T c w):=by
 have X0:=Y4 ((Yl w).alloc (Wx T));have H:=Y4 (h.up X0.o);have Hb0:=Y4 (Xm w T);clear h;have Hf:=Y4 hf;clear hf;go_enter func247,ntmps247;by_cases h0:Ex c=[]
 ·have H0:=Y4 h0;go_wp2_with (first|(refine Xw rfl ?_)|(go_at_call 261;refine(Zyh _ _).mono ?_;rintro e w1 ⟨v,rfl,hv,hx1⟩;rw[H0.o]at hv;obtain⟨A1,C1,rfl,_,_⟩:=hv.shape)|(refine Xz (Hb0.o.ext hx1) rfl ?_));cases hfull:Q4 T.dec 257 [c]with
  | none =>
   have Hfull:=Y4 hfull;go_wp2_with (first|(refine Xz (Hb0.o.ext hx1) rfl ?_)|(go_at_call 146;refine(Ey T c _ (H.o.up hx1) Hf.o).mono ?_;rintro e w5 hp;unfold Jj at hp;rw[Hfull.o]at hp;obtain⟨rfl,hx5⟩:=hp));go_ret;refine⟨.slice none 0 0,rfl,?_,X0.o.trans (hx1.trans hx5)⟩;rw[show Cg T c=[] by unfold Cg;rw[Zk9 (fun h=>h H0.o),Hfull.o];rfl];exact Xx.nil _ _
  | some r =>
   have Hfull:=Y4 hfull;go_wp2_with (first|(refine Xz (Hb0.o.ext hx1) rfl ?_)|(go_at_call 146;refine(Ey T c _ (H.o.up hx1) Hf.o).mono ?_;rintro e w5 hp;unfold Jj at hp;rw[Hfull.o]at hp;obtain⟨v5,rfl,hv5,hx5⟩:=hp));go_ret;refine⟨v5,rfl,?_,X0.o.trans (hx1.trans hx5)⟩;rw[show Cg T c=r by unfold Cg;rw[Zk9 (fun h=>h H0.o),Hfull.o];rfl];exact Rd.mono hv5 fun k hk _=>Zjw X0.o.size (Zjw hx1.size hk)
 have H0:=Y4 h0;obtain⟨n,hn⟩:=gnX ((Ex c).length);have hp:0<n:=by rw[← hn];exact Zh2.2 h0
 have Hn:=Y4 hn;clear hn h0;have d1:decide ((0:Int)<(n:Int))=true:=Yf;have d2:decide (0<n)=true:=Yf hp;go_wp2_with (first|(refine Xw rfl ?_)|(go_at_call 261;refine(Zyh _ _).mono ?_;rintro e w1 ⟨v,rfl,hv,hx1⟩;obtain⟨A1,C1,rfl,_,_⟩:=hv.shape;rw[Hn.o]));go_ret;refine⟨.slice A1 n C1,rfl,?_,X0.o.trans hx1⟩;rw[show Cg T c=Ex c from Zjx H0.o,← Hn.o];exact Rd.mono hv fun k hk _=>Zjw X0.o.size hk
theorem Zs5{S S':Nat→Prop}(v v':Value)(l l':List Int)(w:World)(h:Xx w S v l)(h':Xx w S' v' l'):Calls prog 251 #[v,v'] w (Ql w):=by
 obtain⟨A,C,rfl,hlCC,hCC⟩:=h.shape;obtain⟨n,hnn⟩:=gnX ((l).length);have Hnn:=Y4 hnn;have Hh:=Y4 h;unfold maxLen at hCC;rw[hnn]at hlCC⊢;clear h hnn;obtain⟨B,D,rfl,hlCD,hCD⟩:=h'.shape;obtain⟨k,hnk⟩:=gnX ((l').length);have Hnk:=Y4 hnk;have Hh':=Y4 h';unfold maxLen at hCD;rw[hnk]at hlCD⊢;clear h' hnk;go_enter func251,ntmps251;by_cases hnk:n=k
 ·subst hnk;have d0:(!((n:Int)==(n:Int)))=false:=by simp
  go_wp2_with fail;go_loopw [13] (fun o wr=>∃ i:Nat,i≤n∧o=.int .i64 (i:Int)∧Ext w wr) (fun o _=>n-(intOf o).toNat);case atStart=>exact⟨0,by omega,rfl,xE⟩
  obtain⟨i,hi_i,rfl,hx⟩:=hrel;have Hx:=Y4 hx;clear hx;by_cases hlt:i<n
  ·obtain⟨hd_i,i0_i,i1_i⟩:=LTl i n;obtain⟨x,hs_x⟩:=geX (l:=(l)) (i:=i) (by have:=Hnn.o;omega);obtain⟨g_x,o_x,c_x,hvv,_,_,_,hgl_x,a0_x⟩:=(Hh.o.ext Hx.o).get hs_x;simp only[Ye]at hvv;obtain⟨rfl,-,rfl⟩:=hvv;have Hs_x:=Y4 hs_x;clear hs_x;obtain⟨y,hs_y⟩:=geX (l:=(l')) (i:=i) (by have:=Hnk.o;omega);obtain⟨g_y,o_y,c_y,hvv,_,_,_,hgl_y,a0_y⟩:=(Hh'.o.ext Hx.o).get hs_y;simp only[Ye]at hvv;obtain⟨rfl,-,rfl⟩:=hvv;have Hs_y:=Y4 hs_y;clear hs_y;have m0:=lat a0_x;have m1:=lat a0_y;go_wp2_with fail;refine Y8 (by kernel_rfl) (by kernel_rfl) ?_;repeat((with_reducible refine Yu ?_);intro K hK;go_simp;(with_reducible refine hK _ ?_);clear hK K)
   (with_reducible refine Yt ?_)
   intro w2 hy;go_wp2_with fail;all_goals
    have hx:=Hx.o
    first
    | (go_roundw
       case rel=>exact⟨i+1,by omega,by go_num,xE⟩
       (simp[intOf];omega))
    | (go_ret;exact⟨_,rfl,xE⟩)
  have hd_i:=GEl i n;go_wp2_with fail;all_goals
   have hx:=Hx.o
   first
   | (go_roundw
      case rel=>exact⟨i+1,by omega,by go_num,xE⟩
      (simp[intOf];omega))
   | (go_ret;exact⟨_,rfl,xE⟩)
 have d0:(!((n:Int)==(k:Int)))=true:=by simp;omega
 have d1:((n:Int)!=(k:Int))=true:=d0;have d2:(!(n==k))=true:=by simp;omega
 have d3:(n !=k)=true:=d2;go_wp2_with fail;all_goals(go_ret;exact⟨_,rfl,xE⟩)
theorem Wo{ops:Array Oper}{rest:List Oper}{dst:Option Nat}{x:Operand}{t:TypeId}{pos:String}{af:Array Edge}{gd:Option (Nat×Bool)}{a:Act}{w:World}{Q:Exit→Act→World→Prop}{b:Nat}{T:Tbl}(h:J4 w b T)
 (hw:Region.wanted {dst:=dst,op:=.load 34 x,type:=t,pos:=pos,after:=af,guard:=gd} (yielded ops a.tmps)=true) (hx:a.eval x=.pointer (some ⟨b,0,none⟩)) (hK:wpList prog ops Q rest (a.put dst (Vn T)) w) :
 wpList prog ops Q ({dst:=dst,op:=.load 34 x,type:=t,pos:=pos,after:=af,guard:=gd}::rest) a w:=by
 have hu:=Nl;rw[Zjl]at hu;obtain⟨d,hu,hd⟩:=hu;show if _ then _ else _
 rw[Zjx hw];exact .inl (wp_load_mid _ x rfl b 0 hx (Qj T) d h.range hu hd (by rw[Gn];rfl) hK)
def hcO(a b:Int):Option Int :=
 if Fr a=1∧Fr b=2 then some (wrap64 (44032+wrap64 (wrap64 (wrap64 (wrap64 (21*wrap64 (a-4352))+b)-4449)*28)))
 else if Fr a=4∧Fr b=3 then some (wrap64 (wrap64 (a+b)-4519))
 else none
def Zo1:Option Int→Value
 | some c=>.tuple #[.int .i64 c,.bool true]
 | none=>.tuple #[.int .i64 0,.bool false]
theorem Zog(a b:Int)(w:World):Calls prog 249 #[.int .i64 a,.int .i64 b] w fun e w'=>e=.returned (Zo1 (hcO a b))∧w=w':=by
 cases h1:(Fr a==1)
 ·cases h3:(Fr a==4)
  ·have Hc:=Y4 (show hcO a b=none by simp at h1 h3;unfold hcO;rw[Zk9 (fun h=>h1 h.1),Zk9 (fun h=>h3 h.1)]);go_enter func249,ntmps249;go_wp2_with (go_at_call 262;refine(Er _ _).mono ?_;rintro e w' ⟨rfl,rfl⟩);go_ret2;exact⟨by rw[Hc.o];rfl,rfl⟩
  cases h4:(Fr b==3)
  ·have Hc:=Y4 (show hcO a b=none by simp at h1 h4;unfold hcO;rw[Zk9 (fun h=>h1 h.1),Zk9 (fun h=>h4 h.2)]);go_enter func249,ntmps249;go_wp2_with (go_at_call 262;refine(Er _ _).mono ?_;rintro e w' ⟨rfl,rfl⟩);go_ret2;exact⟨by rw[Hc.o];rfl,rfl⟩
  have Hc:=Y4 (show hcO a b=some (wrap64 (wrap64 (a+b)-4519)) by simp at h1 h3 h4;unfold hcO;rw[Zk9 (fun h=>h1 h.1),Zjx ⟨h3,h4⟩]);go_enter func249,ntmps249;go_wp2_with (go_at_call 262;refine(Er _ _).mono ?_;rintro e w' ⟨rfl,rfl⟩);go_ret2;exact⟨by rw[Hc.o];rfl,rfl⟩
 cases h2:(Fr b==2)
 ·cases h3:(Fr a==4)
  ·have Hc:=Y4 (show hcO a b=none by simp at h2 h3;unfold hcO;rw[Zk9 (fun h=>h2 h.2),Zk9 (fun h=>h3 h.1)]);go_enter func249,ntmps249;go_wp2_with (go_at_call 262;refine(Er _ _).mono ?_;rintro e w' ⟨rfl,rfl⟩);go_ret2;exact⟨by rw[Hc.o];rfl,rfl⟩
  simp at h1 h3;omega
 have Hc:=Y4 (show hcO a b=some (wrap64 (44032+wrap64 (wrap64 (wrap64 (wrap64 (21*wrap64 (a-4352))+b)-4449)*28))) by simp at h1 h2;unfold hcO;rw[Zjx ⟨h1,h2⟩]);go_enter func249,ntmps249;go_wp2_with (go_at_call 262;refine(Er _ _).mono ?_;rintro e w' ⟨rfl,rfl⟩);go_ret2;exact⟨by rw[Hc.o];rfl,rfl⟩
def Zzk(T:Tbl)(a b:Int):List Mp→Option Int
 | []=>none
 | m::r=>if m.to_=[a,b]∧Gf T m.fr=true then some m.fr else Zzk T a b r
def Ek(T:Tbl)(a b:Int):Option Int:=(hcO a b).or (Zzk T a b T.dec)
theorem Fd{T:Tbl}{a b:Int}{m:Mp}{r:List Mp}(h:¬ (m.to_=[a,b]∧Gf T m.fr=true)):Zzk T a b (m::r)=Zzk T a b r:=by rw[Zzk,Zk9 h]
theorem Qa{S:Nat→Prop}(T:Tbl)(hfin:Zr2 T)(hf:Few T)(a b:Int)(w:World)(h:Xk w S T):Calls prog 227 #[Vn T,.int .i64 a,.int .i64 b] w fun e w'=>e=.returned (Zo1 (Ek T a b))∧Ext w w':=by
 obtain⟨A9,C9,e9,hl9,hc9⟩:=h.dec.shape;have h9:=h.dec.ext ((Yl w).alloc (Wx T));obtain⟨n9,hn9⟩:=gnX (T.dec.length);rw[hn9]at e9 hl9;rw[e9]at h9;have Hn9:=Y4 hn9;have E9:=Y4 e9;have H9:=Y4 h9;unfold maxLen at hc9;clear hn9 e9 h9;have X0:=Y4 ((Yl w).alloc (Wx T));have H:=Y4 (h.up X0.o);have Hb0:=Y4 (Xm w T);clear h;have Hf:=Y4 hf;have HF:=Y4 hfin;clear hf hfin;go_enter func227,ntmps227;cases hc:hcO a b with
 | some c =>
  have Hc:=Y4 hc;have e1:Zo1 (hcO a b)=.tuple #[.int .i64 c,.bool true]:=by rw[hc];rfl
  go_wp2_with (first|(refine Xw rfl ?_)|(go_at_call 249;refine(Zog _ _ _).mono ?_;rintro e w' ⟨rfl,rfl⟩;rw[e1]));go_ret2;exact⟨by rw[show Ek T a b=some c by unfold Ek;rw[Hc.o];rfl];rfl,X0.o⟩
 | none =>
  have Hc:=Y4 hc;have e1:Zo1 (hcO a b)=.tuple #[.int .i64 0,.bool false]:=by rw[hc];rfl
  clear hc;have Hx0:=Y4 (Yl (w.alloc (Wx T)));have b9:=(Hb0.o.ext Hx0.o).at_ 9 (by omega);rw[show(Qj T)[9]?=some T.decV from rfl,E9.o]at b9;go_wp2_with (first|(refine Xw rfl ?_)|(go_at_call 249;refine(Zog _ _ _).mono ?_;rintro e w' ⟨rfl,rfl⟩;rw[e1]));clear b9;go_loopw [23] (fun o wr=>∃ i:Nat,i≤n9∧o=.int .i64 (i:Int)∧Ek T a b=Zzk T a b (T.dec.drop i)∧Ext (w.alloc (Wx T)) wr) (fun o _=>n9-(intOf o).toNat);case atStart=>exact⟨0,by omega,rfl,by unfold Ek;rw[Hc.o];rfl,Hx0.o⟩
  clear Hx0;obtain⟨i,hi,rfl,hp,hx⟩:=hrel;have Hx:=Y4 hx;have Hp:=Y4 hp;clear hx hp;by_cases hlt:i<n9
  ·obtain⟨hd_i,i0_i,i1_i⟩:=LTl i n9;obtain⟨m,hs_m⟩:=geX (l:=(T.dec)) (i:=i) (by have:=Hn9.o;omega);obtain⟨g_m,o_m,c_m,hvv,_,_,_,hgl_m,a0_m,a1_m,_⟩:=(H9.o.ext Hx.o).get hs_m;simp only[Ye]at hvv;obtain⟨rfl,-,rfl⟩:=hvv;have ti_m:=H9.o.2 _ (Zy hs_m);obtain⟨A_m,C_m,tv_m,tl_m,tc_m⟩:=ti_m.shape;obtain⟨n_m,hn_m⟩:=gnX (m.to_.length);rw[tv_m]at a1_m ti_m;rw[hn_m]at a1_m tl_m;have Hn_m:=Y4 hn_m;unfold maxLen at tc_m;have Hs_m:=Y4 hs_m;have Ti_m:=Y4 ti_m;clear hs_m ti_m tv_m hn_m;have hbl:=(Hb0.o.ext Hx.o).lt;have Hd:=Y4 (show T.dec.drop i=m::T.dec.drop (i+1) from drop_at Hs_m.o);by_cases h2:n_m=2
   ·subst h2;obtain⟨x,y,exy⟩:∃ x y,m.to_=[x,y]:=by
     have h2:=Hn_m.o
     match hh:m.to_ with
     | [x,y]=>exact⟨x,y,rfl⟩
     | []=>rw[hh]at h2;simp at h2
     | [_]=>rw[hh]at h2;simp at h2
     | _::_::_::_=>rw[hh]at h2;simp at h2
    have t:=Ti_m.o;rw[exy]at t;have Hxy:=Y4 exy;clear exy;obtain⟨gg,oo,cc,hv0,_,_,_,_,u⟩:=(t.ext (Hx.o.alloc (.cells #[.int .i64 m.fr,.slice A_m 2 C_m] 106))).get (j:=0) rfl;obtain⟨gg',oo',cc',hv1,_,_,_,_,v⟩:=(t.ext (Hx.o.alloc (.cells #[.int .i64 m.fr,.slice A_m 2 C_m] 106))).get (j:=1) rfl;rw[hv0]at hv1;simp only[Ye,Yd,Zjp,Zjj,Zj6]at hv1;obtain⟨⟨rfl,rfl⟩,rfl⟩:=hv1;simp only[Ye]at hv0;obtain⟨rfl,-,rfl⟩:=hv0;rw[Zix]at u;clear t;cases q1:(x==a)
    ·have Hno:=Y4 (show ¬ (m.to_=[a,b]∧Gf T m.fr=true) by rw[Hxy.o];simp at q1⊢;exact fun h=>absurd h q1);go_wp2_with fail;go_roundw;case rel=>exact⟨i+1,by omega,by go_num,by rw[Hp.o,Hd.o,Fd Hno.o],Hx.o.alloc _⟩
     (simp[intOf];omega)
    cases q2:(y==b)
    ·have Hno:=Y4 (show ¬ (m.to_=[a,b]∧Gf T m.fr=true) by rw[Hxy.o];simp at q2⊢;exact fun _ h=>absurd h q2);go_wp2_with fail;go_roundw;case rel=>exact⟨i+1,by omega,by go_num,by rw[Hp.o,Hd.o,Fd Hno.o],Hx.o.alloc _⟩
     (simp[intOf];omega)
    have Hyes:=Y4 (show m.to_=[a,b] by rw[Hxy.o];simp at q1 q2;rw[q1,q2]);cases q3:Gf T m.fr
    ·have Hno:=Y4 (show ¬ (m.to_=[a,b]∧Gf T m.fr=true) by rw[q3];simp);go_wp2_with (first|(refine Wo (Hb0.o.ext (Hx.o.alloc _)) (by go_simp) rfl ?_)|(go_at_call 112;refine(Kn T HF.o Hf.o _ _ (H.o.up (Hx.o.alloc _))).mono ?_;rintro e w5 ⟨rfl,hx5⟩));go_roundw;case rel=>exact⟨i+1,by omega,by go_num,by rw[Hp.o,Hd.o,Fd Hno.o],(Hx.o.alloc _).trans hx5⟩
     (simp[intOf];omega)
    have Hy:=Y4 q3;go_wp2_with (first|(refine Wo (Hb0.o.ext (Hx.o.alloc _)) (by go_simp) rfl ?_)|(go_at_call 112;refine(Kn T HF.o Hf.o _ _ (H.o.up (Hx.o.alloc _))).mono ?_;rintro e w5 ⟨rfl,hx5⟩;have hc5:=fun k=>hx5.cell (p:=⟨wr.heap.size,k,none⟩) (by simp)));go_ret2;exact⟨by rw[Hp.o,Hd.o,Zzk,Zjx ⟨Hyes.o,Hy.o⟩];rfl,X0.o.trans ((Hx.o.alloc _).trans hx5)⟩
   have h2b:((n_m:Int)==2)=false:=by simp;omega
   have h2c:(n_m==2)=false:=by simp;omega
   have Hno:=Y4 (show ¬ (m.to_=[a,b]∧Gf T m.fr=true) from fun h=>h2 (by rw[← Hn_m.o,h.1];rfl));clear h2;go_wp2_with fail;go_roundw;case rel=>exact⟨i+1,by omega,by go_num,by rw[Hp.o,Hd.o,Fd Hno.o],Hx.o.alloc _⟩
   (simp[intOf];omega)
  have hd_i:=GEl i n9;go_wp2_with fail;go_ret2;refine⟨?_,X0.o.trans Hx.o⟩;rw[Hp.o,Zim (by rw[Hn9.o];omega)];rfl
def Znc(T:Tbl)(l:List Int)(w:World)(e:Ending)(w':World):Prop:=∃ v,e=.returned v∧RdE Wb w' (fun k=>w.heap.size≤k) v (Bp (Wk T.cls) l)∧Ext w w'
theorem Zzl{S S':Nat→Prop}(T:Tbl)(v:Value)(l:List Int)(w:World)(h:Xk w S T)(hl:Xx w S' v l)(hll:l.length≤100000):Calls prog 248 #[Vn T,v] w (Znc T l w):=by
 obtain⟨A,C,rfl,hlCC,hCC⟩:=hl.shape;obtain⟨n,hnn⟩:=gnX ((l).length);have Hnn:=Y4 hnn;have Hhl:=Y4 hl;unfold maxLen at hCC;rw[hnn]at hlCC⊢;clear hl hnn;rw[Hnn.o]at hll;have X0:=Y4 ((Yl w).alloc (Wx T));have H:=Y4 (h.up X0.o);have Hb0:=Y4 (Xm w T);clear h;have HL:=Y4 (show Xx (w.alloc (Wx T)) S' (.slice A n C) l by have:=Hhl.o.ext X0.o;rwa [Hnn.o]at this);obtain⟨B,hB⟩:=gnX ((w.alloc (Wx T)).heap.size);have HB:=Y4 hB;clear hB;go_enter func248,ntmps248;go_wp2_with (first|(refine Xw rfl ?_)|(at_builtin;refine Xt Wb _ _ _ rfl rfl rfl rfl (Own.nil Wb _ B) rfl HL.o (by rw[Hnn.o];simp;omega) (by show 8≤1000;omega) (by have:=HB.o;omega) ?_;intro A1 n1 c1 w1 hg;have Hg:=Y4 hg;clear hg));have Hx1:=Y4 (Hg.o.ext (w.alloc (Wx T)) (Yl _) (by rw[HB.o];exact Yn _));have hn1:n1=n:=by rw[Hg.o.len,Zo,Hnn.o]
 subst hn1;have Ho1:=Y4 (show Own Wb w1 B (.slice A1 n1 c1) l by have:=Hg.o.own;rwa [Zo]at this);clear Hg;go_loopg [6] (Rx (Wk T.cls) l+1) (fun gk mv wr=>∃ (b:Bool) (cur:List Int),mv=.bool b∧Own Wb wr B (.slice A1 n1 c1) cur∧cur.length=n1∧Ext (w.alloc (Wx T)) wr∧((b=true∧Bp (Wk T.cls) cur=Bp (Wk T.cls) l∧gk=Rx (Wk T.cls) cur+1)∨(b=false∧cur=Bp (Wk T.cls) l∧gk=0)));case atStart=>exact⟨true,l,rfl,Ho1.o,Hnn.o,Hx1.o,.inl ⟨rfl,rfl,rfl⟩⟩
 clear Ho1 Hx1;obtain⟨b,cur,rfl,ho,hcn,hx,hst⟩:=hrel;have Hx:=Y4 hx;have Ho:=Y4 ho;have Hcn:=Y4 hcn;clear hx ho hcn;rcases hst with⟨rfl,heq,hgk⟩ | ⟨rfl,heq,rfl⟩
 ·have Heq:=Y4 heq;have Hgk:=Y4 hgk;clear heq hgk;rename World=>wo
  go_wp2_with fail;go_loopw [7,6] (fun o mv wr=>∃ (k:Nat) (b:Bool),k≤n1-1∧o=.int .i64 ((k+1:Nat):Int)∧mv=.bool b∧Own Wb wr B (.slice A1 n1 c1) (Zy3 (Wk T.cls) cur k)∧(b=false→Zy3 (Wk T.cls) cur k=cur)∧(b=true→Rx (Wk T.cls) (Zy3 (Wk T.cls) cur k)<Rx (Wk T.cls) cur)∧Ext (w.alloc (Wx T)) wr) (fun o _ _=>n1+1-(intOf o).toNat);case atStart=>exact⟨0,false,by omega,rfl,rfl,Ho.o,fun _=>rfl,fun h=>absurd h (by decide),Hx.o⟩
  clear Ho Hx;obtain⟨k,b,hk,rfl,rfl,ho,hf,ht,hx⟩:=hrel;obtain⟨p,hp⟩:=gnX (Zy3 (Wk T.cls) cur k);rw[hp]at ho hf ht;have hpl:p.length=n1:=by rw[← hp,Ro,Hcn.o]
  have Hx:=Y4 hx;have Ho:=Y4 ho;have Hf:=Y4 hf;have Ht:=Y4 ht;have Hp:=Y4 hp;have Hpl:=Y4 hpl;clear hx ho hf ht hp hpl;by_cases hlt:k+1<n1
  ·have hd:decide (((k+1:Nat):Int)<(n1:Int))=true:=Yf;have hd2:decide ((k:Int)+1<(n1:Int))=true:=Yf;obtain⟨g,c,e,hg1,hg2,hg3,hg4⟩:=Ho.o.some_ (by rw[Hpl.o];omega);simp only[Ye]at e;obtain⟨rfl,-,rfl⟩:=e;rw[Hpl.o]at hg3;unfold maxLen at hg4;obtain⟨x,hx0⟩:=geX (l:=p) (i:=k) (by rw[Hpl.o];omega);obtain⟨y,hy0⟩:=geX (l:=p) (i:=k+1) (by rw[Hpl.o];omega);have Hx0:=Y4 hx0;have Hy0:=Y4 hy0;have m0:=lat (Ho.o.at_ (ints_at hx0));have m1:=lat (Ho.o.at_ (ints_at hy0));clear hx0 hy0;have HW:=Y4 (H.o.up Hx.o);have hC:∀ w',(∃ p:Vz,w'=later wr p.n p.os)→J4 w' w.heap.size T:=fun w' ⟨p,e⟩=>by rw[e];exact(Hb0.o.ext Hx.o).ext (⟨_,_,rfl⟩)
   have e1:(((k+1:Nat):Int)-1)=(k:Int):=by omega
   have q1:IntKind.i64.wrap (((k+1:Nat):Int)-1)=(k:Int):=by rw[Yp _ (by omega)];omega
   have q2:IntKind.i64.wrap ((k:Int)+1-1)=(k:Int):=by rw[Yp _ (by omega)];omega
   have q8:IntKind.i64.wrap (k:Int)=(k:Int):=Yp _ (by omega);have q3:(0:Int)≤(k:Int):=by omega
   have q4:(k:Int)<(n1:Int):=by omega
   have q5:(0:Int)≤(k:Int)+1:=by omega
   have q6:(k:Int)+1<(n1:Int):=by omega
   have q7:k<n1:=by omega
   have hun:=Yb;go_wp2_with fail;refine Y8 (by kernel_rfl) (by kernel_rfl) ?_;repeat(first|((with_reducible refine Xi ?_ ?_ hC ?_);(focus(go_simp;done));rfl)|((with_reducible refine Yu ?_);intro K hK;go_simp;first|((with_reducible refine hK _ ?_);clear hK K)|(apply Exists.intro;refine⟨fun _=>?_,hK _ ?_⟩;(go_at_call 148;exact Xy (Xo T _ _ (HW.o.up (⟨_,_,rfl⟩))));clear hK K)))
   (with_reducible refine Yt ?_)
   intro w2 hy;clear hun;try simp only[Yc]
   have Hx2:=Y4 (Hx.o.trans hy);have Ho2:=Y4 (Ho.o.ext hy);clear hy m0 m1 HW hC;have c0:=Ho2.o.at_ (ints_at Hx0.o);have c1:=Ho2.o.at_ (ints_at Hy0.o);have t0:=Ho2.o.thaw k;have t1:=Ho2.o.thaw (k+1);have hgb:=Ho2.o.blk.2;have q9:IntKind.i64.wrap ((k:Int)+1+1)=((k+1+1:Nat):Int):=by rw[Yp _ (by omega)];omega
   by_cases hsw:0<Wk T.cls y∧Wk T.cls y<Wk T.cls x
   ·have d1:decide (0<Wk T.cls y)=true:=Yf hsw.1;have d2:decide (Wk T.cls y<Wk T.cls x)=true:=Yf hsw.2;have Hsw:=Y4 hsw;clear hsw;have Ho3:=Y4 ((Ho2.o.put rfl (i:=k) (by rw[Hpl.o];omega) y (u:=.int .i64 y) rfl).put rfl (i:=k+1) (by rw[Zf,Hpl.o];omega) x (u:=.int .i64 x) rfl);have Hsame:=Y4 (show Zy3 (Wk T.cls) cur (k+1)=(p.set k y).set (k+1) x by rw[Zy3,Hp.o];exact Zro (by rw[Zic];exact Hx0.o) Hy0.o Hsw.o);have Hlt:=Y4 (show Rx (Wk T.cls) (Zy3 (Wk T.cls) cur (k+1))<Rx (Wk T.cls) cur by
     rw[Zy3,Hp.o];have h1:=Zko (f:=Wk T.cls) Hx0.o Hy0.o Hsw.o;cases b with
     | true=>have:=Ht.o rfl;omega
     | false=>rw[Hf.o rfl]at h1⊢;exact h1)
    go_wp2_with fail;go_region;all_goals
     go_wp2_with fail;go_roundw;case rel=>exact⟨k+1,true,by omega,by go_num,rfl,by rw[Hsame.o];exact Ho3.o,fun h=>absurd h (by decide),fun _=>Hlt.o,(Ya (Ya Hx2.o (by have:=HB.o;show _≤g;omega) _) (by have:=HB.o;show _≤g;omega) _).drew⟩
     (simp[intOf];omega)
   have Hsw:=Y4 hsw;have Hsame:=Y4 (show Zy3 (Wk T.cls) cur (k+1)=p by rw[Zy3,Hp.o];exact Zkn (by rw[Zic];exact Hx0.o) Hy0.o hsw);by_cases d0:0<Wk T.cls y
   ·have d1:decide (0<Wk T.cls y)=true:=Yf d0;have d2:decide (Wk T.cls y<Wk T.cls x)=false:=Yg fun h=>hsw ⟨d0,h⟩
    clear hsw d0;go_wp2_with fail;go_roundw;case rel=>exact⟨k+1,b,by omega,by go_num,rfl,by rw[Hsame.o];exact Ho2.o,by rw[Hsame.o];exact Hf.o,by rw[Hsame.o];exact Ht.o,Hx2.o⟩
    (simp[intOf];omega)
   have d1:decide (0<Wk T.cls y)=false:=Yg d0;clear hsw d0;go_wp2_with fail;go_roundw;case rel=>exact⟨k+1,b,by omega,by go_num,rfl,by rw[Hsame.o];exact Ho2.o,by rw[Hsame.o];exact Hf.o,by rw[Hsame.o];exact Ht.o,Hx2.o⟩
   (simp[intOf];omega)
  have hd:decide (((k+1:Nat):Int)<(n1:Int))=false:=Yg;have hd2:decide ((k:Int)+1<(n1:Int))=false:=Yg;have hk2:k=cur.length-1:=by rw[Hcn.o];omega
  have Hk2:=Y4 (show p=Zw0 (Wk T.cls) cur by rw[← Hp.o,hk2];rfl);clear hk2;go_wp2_with fail;cases b with
  | true =>
   go_roundg (Rx (Wk T.cls) p+1);case measure=>have:=Ht.o rfl;have:=Hgk.o;omega
   case rel =>
    refine⟨true,p,rfl,Ho.o,Hpl.o,Hx.o,.inl ⟨rfl,?_,rfl⟩⟩;rw[← Heq.o,Zpd (f:=Wk T.cls) (l:=cur) (by rw[← Hk2.o];exact Ht.o rfl),← Hk2.o]
  | false =>
   go_roundg 0;case measure=>have:=Hgk.o;omega
   case rel =>
    refine⟨false,p,rfl,Ho.o,Hpl.o,Hx.o,.inr ⟨rfl,?_,rfl⟩⟩;have h1:=Hf.o rfl;rw[← Heq.o,Zst (f:=Wk T.cls) (l:=cur) (by rw[← Hk2.o];exact h1)];exact h1
 have Heq:=Y4 heq;clear heq;go_wp2_with fail;go_ret;refine⟨_,rfl,?_,X0.o.trans Hx.o⟩;rw[← Heq.o];have:=Ho.o.rd;rw[← Hcn.o]at this⊢;exact Rd.mono this fun k hk _=>Zjw (by have:=X0.o.size;have:=HB.o;omega) hk
