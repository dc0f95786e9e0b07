/- Lemmas of this claim: RP, RI, RQ, RRh, RS. Conditions: as named. -/
import Derived.Deep.LoopGhost
import Derived.Test.YtnbclgbicnpmnaaGreatA06
import Derived.Test.YtnbclgbicnpmnaaGreatA08
import Derived.Test.YtnbclgbicnpmnaaGreatA09
namespace Go.Proofs.YtnbclgbicnpmnaaGreat
open Go.RowKit Go.Sort
set_option maxHeartbeats 0
set_option maxRecDepth 100000
set_option linter.all false
theorem Oy{fn:Func}{t u v x:Tmp}(h:fn.results = #[.tmp t,.tmp u,.tmp v,.tmp x])(tmps:Array Value)(P:Program)(w:World) :
 (results fn tmps).run P w=.ok (.tuple #[tmps.getD t undef,tmps.getD u undef,tmps.getD v undef,tmps.getD x undef]) w:=by
 simp[results,h]
theorem Wr(w:World)(t:TypeId)(zs:List Int)(n:Nat)(hn:zs.length=n)(cs:Array Value)(hcs:cs=(zs.map (Value.int .i64)).toArray)(h18:n≤1000):RdE Wk (w.alloc (.cells cs t)) (fun k=>w.heap.size≤k) (.slice (some ⟨w.heap.size,0,none⟩) n n) zs:=by
 subst hn hcs;have h1:(w.alloc (.cells (zs.map (Value.int .i64)).toArray t)).heap[w.heap.size]?=some (.cells (zs.map (Value.int .i64)).toArray t):=Zl2 w _;show Rd _ _ 1 _ _ (zs.map (Value.int .i64));refine⟨by simp,_,_,rfl,Yp _,by unfold maxLen;omega,fun _=>⟨_,_,rfl,Yp _,(Zln.1 h1).1,fun j u hu=>?_⟩⟩;simp only[World.cell?,h1];rw[Zle,← hu];simp
theorem P5(c:Int):Bu c=true↔44032≤c∧c≤55203:=by simp[Bu]
def Aw(c:Int):Int :=
 if 4352≤c∧c≤4370 then 1 else if 4449≤c∧c≤4469 then 2 else if 4520≤c∧c≤4546 then 3 else if Bu c=false then 0 else if(c-44032)%28=0 then 4 else 5
theorem Bg(c:Int)(w:World):Calls Tryz.prog 262 #[.int .i64 c] w fun e w'=>e=.returned (.int .i64 (Aw c))∧w=w':=by
 go_enter Tryz.func262,Tryz.ntmps262;cases hs:Bu c
 ·have Hs:=Zkx hs;go_wp2_with (go_at_call 113;refine(Jv _ _).mono ?_;rintro e w' ⟨rfl,rfl⟩;rw[hs]);all_goals
   go_ret;refine⟨Pc ?_,rfl⟩;unfold Aw;rw[Hs.out];simp;try(repeat' split)
   all_goals(simp at *;try omega)
 obtain⟨hc1,hc2⟩:=(P5 c).1 hs;have Hs:=Zkx hs;go_wp2_with (go_at_call 113;refine(Jv _ _).mono ?_;rintro e w' ⟨rfl,rfl⟩;rw[hs]);all_goals
  go_ret;refine⟨Pc ?_,rfl⟩;unfold Aw;rw[Hs.out];simp;try(repeat' split)
  all_goals(simp at *;try omega)
def Ll(c:Int):Value:=if Bu c=true then .tuple #[.int .i64 ((c-44032)/588),.int .i64 ((c-44032)/28%21),.int .i64 ((c-44032)%28),.bool true]else .tuple #[.int .i64 0,.int .i64 0,.int .i64 0,.bool false]
theorem Zqf(c:Int)(w:World)(hs:Bu c=false):Calls Tryz.prog 270 #[.int .i64 c] w fun e w'=>e=.returned (Ll c)∧w=w':=by
 have Hv:=Zkx (show Ll c=.tuple #[.int .i64 0,.int .i64 0,.int .i64 0,.bool false] by unfold Ll;rw[Zlq (by rw[hs];simp)]);go_enter Tryz.func270,Tryz.ntmps270;go_wp2_with fail;go_loopw [6] (fun o wr=>∃ i:Nat,i≤19∧o=.int .i64 (i:Int)∧w=wr) (fun o _=>19-(intOf o).toNat);case atStart=>exact⟨0,by omega,rfl,rfl⟩
 obtain⟨i,hi,rfl,rfl⟩:=hrel;by_cases hlt:i<19
 ·have hd_i:decide ((i:Int)<(19:Int))=true:=Yh;have i0_i:(0:Int)≤(i:Int):=by omega
  have i1_i:(i:Int)<(19:Int):=by omega
  go_wp2_with fail;go_loopw [7] (fun o wr=>∃ j:Nat,j≤21∧o=.int .i64 (j:Int)∧w=wr) (fun o _=>21-(intOf o).toNat);case atStart=>exact⟨0,by omega,rfl,rfl⟩
  obtain⟨j,hj,rfl,rfl⟩:=hrel;by_cases hlj:j<21
  ·have hd_j:decide ((j:Int)<(21:Int))=true:=Yh;have i0_j:(0:Int)≤(j:Int):=by omega
   have i1_j:(j:Int)<(21:Int):=by omega
   go_wp2_with (go_at_call 113;refine(Jv _ _).mono ?_;rintro e w' ⟨rfl,rfl⟩;rw[hs]);go_roundw;case rel=>exact⟨j+1,by omega,by go_num,by first|rfl|trivial⟩
   (simp[intOf];omega)
  have hd_j:decide ((j:Int)<(21:Int))=false:=Yi;go_wp2_with fail;go_roundw;case rel=>exact⟨i+1,by omega,by go_num,by first|rfl|trivial⟩
  (simp[intOf];omega)
 have hd_i:decide ((i:Int)<(19:Int))=false:=Yi;go_wp2_with fail;(((try simp only[Exit.inBlock,Exit.then]);refine Yu (Oy rfl _ _ _) rfl ?_))
 exact⟨by rw[Hv.out];rfl,rfl⟩
theorem Ztl(c:Int)(w:World)(hs:Bu c=true):Calls Tryz.prog 270 #[.int .i64 c] w fun e w'=>e=.returned (Ll c)∧w=w':=by
 have Hv:=Zkx (show Ll c=.tuple #[.int .i64 ((c-44032)/588),.int .i64 ((c-44032)/28%21),.int .i64 ((c-44032)%28),.bool true] by unfold Ll;rw[Zlm hs]);obtain⟨hc1,hc2⟩:=(P5 c).1 hs;go_enter Tryz.func270,Tryz.ntmps270;go_wp2_with fail;go_loopw [6] (fun o wr=>∃ i:Nat,i≤19∧o=.int .i64 (i:Int)∧Aside (21*(i:Int)≤(c-44032)/28)∧w=wr) (fun o _=>19-(intOf o).toNat);case atStart=>exact⟨0,by omega,rfl,by show _≤_;omega,rfl⟩
 obtain⟨i,hi,rfl,hq,rfl⟩:=hrel;have Hq:=Zkx hq.out;clear hq;by_cases hlt:i<19
 ·have hd_i:decide ((i:Int)<(19:Int))=true:=Yh;have i0_i:(0:Int)≤(i:Int):=by omega
  have i1_i:(i:Int)<(19:Int):=by omega
  go_wp2_with fail;go_loopw [7] (fun o wr=>∃ j:Nat,j≤21∧o=.int .i64 (j:Int)∧Aside (21*(i:Int)+j≤(c-44032)/28)∧w=wr) (fun o _=>21-(intOf o).toNat);case atStart=>exact⟨0,by omega,rfl,by have:=Hq.out;show _≤_;omega,rfl⟩
  obtain⟨j,hj,rfl,hqj,rfl⟩:=hrel;have Hqj:=Zkx hqj.out;clear hqj;by_cases hlj:j<21
  ·have hd_j:decide ((j:Int)<(21:Int))=true:=Yh;have i0_j:(0:Int)≤(j:Int):=by omega
   have i1_j:(j:Int)<(21:Int):=by omega
   have hqj:=Hqj.out;go_wp2_with (go_at_call 113;refine(Jv _ _).mono ?_;rintro e w' ⟨rfl,rfl⟩;rw[hs]);all_goals
    first
    | (go_roundw
       case rel=>exact⟨j+1,by omega,by go_num,by show _≤_;omega,by first|rfl|trivial⟩
       (simp[intOf];omega))
    | ((((try simp only[Exit.inBlock,Exit.then]);refine Yu (Oy rfl _ _ _) rfl ?_))
       refine⟨?_,rfl⟩;rw[Hv.out,show(c-44032)/588=(i:Int) by omega,show(c-44032)/28%21=(j:Int) by omega,show(c-44032)%28=c-44032-(21*(i:Int)+j)*28 by omega];rfl)
  have hd_j:decide ((j:Int)<(21:Int))=false:=Yi;go_wp2_with fail;go_roundw;case rel=>exact⟨i+1,by omega,by go_num,by have:=Hqj.out;show _≤_;omega,by first|rfl|trivial⟩
  (simp[intOf];omega)
 exfalso;have:=Hq.out;omega
theorem Lk(c:Int)(w:World):Calls Tryz.prog 270 #[.int .i64 c] w fun e w'=>e=.returned (Ll c)∧w=w':=by
 cases hs:Bu c
 ·exact Zqf c w hs
 exact Ztl c w hs
def Bl(c:Int):List Int:=if Bu c=true then(if(c-44032)%28=0 then[4352+(c-44032)/588,4449+(c-44032)/28%21]else[4352+(c-44032)/588,4449+(c-44032)/28%21,4519+(c-44032)%28])else[]
def Zrz(c:Int)(w:World)(e:Ending)(w':World):Prop:=∃ v,e=.returned v∧RdE Wk w' (fun k=>w.heap.size≤k) v (Bl c)∧Ext w w'
theorem Zyz(c:Int)(w:World):Calls Tryz.prog 261 #[.int .i64 c] w (Zrz c w):=by
 go_enter Tryz.func261,Tryz.ntmps261;cases hs:Bu c
 ·have hv:Ll c=.tuple #[.int .i64 0,.int .i64 0,.int .i64 0,.bool false]:=by unfold Ll;rw[Zlq (by rw[hs];simp)]
  have Hl:=Zkx (show Bl c=[] by unfold Bl;rw[Zlq (by rw[hs];simp)]);go_wp2_with (go_at_call 270;refine(Lk _ _).mono ?_;rintro e w' ⟨rfl,rfl⟩;rw[hv]);go_ret;refine⟨.slice none 0 0,rfl,?_,Yn _⟩;rw[Hl.out];exact Xy.nil _ _
 obtain⟨hc1,hc2⟩:=(P5 c).1 hs;have hv:Ll c=.tuple #[.int .i64 ((c-44032)/588),.int .i64 ((c-44032)/28%21),.int .i64 ((c-44032)%28),.bool true]:=by unfold Ll;rw[Zlm hs]
 have Hsy:=Zkx hs;by_cases h0:(c-44032)%28=0
 ·have Hl:=Zkx (show Bl c=[4352+(c-44032)/588,4449+(c-44032)/28%21] by unfold Bl;rw[Zlm Hsy.out,Zlm h0]);have q1:((c-44032)%28==0)=true:=by simpa using h0
  go_wp2_with (go_at_call 270;refine(Lk _ _).mono ?_;rintro e w' ⟨rfl,rfl⟩;rw[hv]);go_ret;refine⟨.slice (some ⟨w.heap.size,0,none⟩) 2 2,rfl,?_,(Yn w).alloc _⟩;rw[Hl.out];exact Wr w _ _ 2 rfl _ rfl (by omega)
 have Hl:=Zkx (show Bl c=[4352+(c-44032)/588,4449+(c-44032)/28%21,4519+(c-44032)%28] by unfold Bl;rw[Zlm Hsy.out,Zlq h0]);have q1:((c-44032)%28==0)=false:=by simpa using h0
 go_wp2_with (go_at_call 270;refine(Lk _ _).mono ?_;rintro e w' ⟨rfl,rfl⟩;rw[hv]);go_ret;refine⟨.slice (some ⟨w.heap.size,0,none⟩) 3 3,rfl,?_,(Yn w).alloc _⟩;rw[Hl.out];exact Wr w _ _ 3 rfl _ rfl (by omega)
theorem Np{S:Nat→Prop}(T:Tbl)(c:Int)(w:World)(h:Xn w S T)(hne:(Xg T.dec c).length≠2) :
 Calls Tryz.prog 112 #[Vt T,.int .i64 c] w fun e w'=>e=.returned (.bool false)∧Ext w w':=by
 obtain⟨A9,C9,e9,hl9,hc9⟩:=h.dec.shape;have h9:=h.dec.ext ((Yn w).alloc (Xe T));obtain⟨n9,hn9⟩:=gnX (T.dec.length);rw[hn9]at e9 hl9;rw[e9]at h9;have Hn9:=Ya hn9;have E9:=Ya e9;have H9:=Ya h9;unfold maxLen at hc9;clear hn9 e9 h9;have X0:=Ya ((Yn w).alloc (Xe T));have H:=Ya (h.up X0.o);have Hb0:=Ya (Xo w T);clear h;have hfa:=Qt (S:=S) (c:=c) H9.o.2;obtain⟨FA,FC,ef,_,fc⟩:=hfa.shape;obtain⟨d,hd⟩:=gnX ((Xg T.dec c).length);rw[hd]at ef hne;have Hx:=Ya (Yn (w.alloc (Xe T)));have b9:=(Hb0.o.ext Hx.o).at_ 9 (by omega);rw[show(Qu T)[9]?=some T.decV from rfl,E9.o]at b9;clear hfa Hx hd;have q1:(!((d:Int)==2))=true:=by simp;omega
 have q2:((d:Int)!=2)=true:=q1;have q3:((d:Int)==2)=false:=by simp;omega
 have Hne:=Ya hne;clear hne;go_enter Tryz.func112,Tryz.ntmps112;go_wp2_with (first|(refine Xx rfl ?_)|(go_at_call 111;refine(Xc _ T.dec c _ H9.o).mono ?_;rintro e w1 ⟨rfl,hx1⟩));have HW:=Ya (H.o.up hx1);have HD:=Ya (H9.o.ext hx1);have hun:=Yd;refine Y0 (by kernel_rfl) (by kernel_rfl) ?_;repeat((with_reducible refine Yw ?_);intro K hK;go_simp;first|((with_reducible refine hK _ ?_);clear hK K)|(apply Exists.intro;refine⟨fun _=>?_,hK _ ?_⟩;(first|(go_at_call 147;exact Y8 (Wo T _ _ (HW.o.up (⟨_,_,rfl⟩))))|(go_at_call 148;exact Y8 (Xq T _ _ (HW.o.up (⟨_,_,rfl⟩))))|(go_at_call 111;exact Y8 (Xc _ T.dec _ _ (HD.o.ext (⟨_,_,rfl⟩)))));clear hK K))
 (with_reducible refine Yv ?_)
 intro w2 hy;clear hun;go_wp2_with fail;go_ret;exact⟨rfl,X0.o.trans (hx1.trans hy)⟩
theorem Zrh{S:Nat→Prop}(T:Tbl)(hfin:Zs2 T)(hf:Few T):∀ (n:Nat) (c:Int) (w:World),Dep T.dec n c→Xn w S T →
 Calls Tryz.prog 112 #[Vt T,.int .i64 c] w fun e w'=>e=.returned (.bool (Eg T (n+1) c))∧Ext w w':=by
 intro n
 induction n with
 | zero =>
  intro c w hd h;have hd':Xg T.dec c=[]:=hd;rw[Fm (by rw[hd'];simp)];exact Np T c w h (by rw[hd'];simp)
 | succ n ih =>
  intro c w hd h;by_cases h2:(Xg T.dec c).length=2
  ·obtain⟨x,y,hxy⟩:∃ x y,Xg T.dec c=[x,y]:=by
    match hh:Xg T.dec c with
    | [x,y]=>exact⟨x,y,rfl⟩
    | []=>rw[hh]at h2;simp at h2
    | [_]=>rw[hh]at h2;simp at h2
    | _::_::_::_=>rw[hh]at h2;simp at h2
   refine Zv0 T hfin hf (n+1) c x y w h hxy fun hne w' hx=>?_
   refine ih x w' ?_ (h.up hx);rcases hd with hd | ⟨x',r,hd,hd2⟩
   ·rw[hxy]at hd;simp at hd
   rw[hxy]at hd;simp only[Zhu]at hd;rw[hd.1];exact hd2
  rw[Fm h2];exact Np T c w h h2
def Gr(T:Tbl)(c:Int):Bool:=Eg T 258 c
theorem Kw{S:Nat→Prop}(T:Tbl)(hfin:Zs2 T)(hf:Few T)(c:Int)(w:World)(h:Xn w S T) :
 Calls Tryz.prog 112 #[Vt T,.int .i64 c] w fun e w'=>e=.returned (.bool (Gr T c))∧Ext w w' :=
 Zrh T hfin hf 257 c w (Zo1 hfin c) h
def I4(T:Tbl)(c:Int):List Int:=if Bl c≠[]then Bl c else(Qh T.dec 257 [c]).getD []
theorem Zur(c:Int):(Bl c).length≤3:=by
 unfold Bl;split
 ·split<;>simp
 simp
theorem Zz7(T:Tbl)(c:Int):(I4 T c).length≤18:=by
 unfold I4;split
 ·have:=Zur c;omega
 cases h:Qh T.dec 257 [c]with
 | none=>simp
 | some r=>exact Pq _ _ _ _ (by simp) h
def Zot(T:Tbl)(c:Int)(w:World)(e:Ending)(w':World):Prop:=∃ v,e=.returned v∧RdE Wk w' (fun k=>w.heap.size≤k) v (I4 T c)∧Ext w w'
theorem Zxm{S:Nat→Prop}(T:Tbl)(hf:Few T)(c:Int)(w:World)(h:Xn w S T):Calls Tryz.prog 247 #[Vt T,.int .i64 c] w (Zot T c w):=by
 have X0:=Ya ((Yn w).alloc (Xe T));have H:=Ya (h.up X0.o);have Hb0:=Ya (Xo w T);clear h;have Hf:=Ya hf;clear hf;go_enter Tryz.func247,Tryz.ntmps247;by_cases h0:Bl c=[]
 ·have H0:=Ya h0;go_wp2_with (first|(refine Xx rfl ?_)|(go_at_call 261;refine(Zyz _ _).mono ?_;rintro e w1 ⟨v,rfl,hv,hx1⟩;rw[H0.o]at hv;obtain⟨A1,C1,rfl,_,_⟩:=hv.shape)|(refine Y4 (Hb0.o.ext hx1) rfl ?_));cases hfull:Qh T.dec 257 [c]with
  | none =>
   have Hfull:=Ya hfull;go_wp2_with (first|(refine Y4 (Hb0.o.ext hx1) rfl ?_)|(go_at_call 146;refine(Bm T c _ (H.o.up hx1) Hf.o).mono ?_;rintro e w5 hp;unfold Js at hp;rw[Hfull.o]at hp;obtain⟨rfl,hx5⟩:=hp));go_ret;refine⟨.slice none 0 0,rfl,?_,X0.o.trans (hx1.trans hx5)⟩;rw[show I4 T c=[] by unfold I4;rw[Zlq (fun h=>h H0.o),Hfull.o];rfl];exact Xy.nil _ _
  | some r =>
   have Hfull:=Ya hfull;go_wp2_with (first|(refine Y4 (Hb0.o.ext hx1) rfl ?_)|(go_at_call 146;refine(Bm T c _ (H.o.up hx1) Hf.o).mono ?_;rintro e w5 hp;unfold Js at hp;rw[Hfull.o]at hp;obtain⟨v5,rfl,hv5,hx5⟩:=hp));go_ret;refine⟨v5,rfl,?_,X0.o.trans (hx1.trans hx5)⟩;rw[show I4 T c=r by unfold I4;rw[Zlq (fun h=>h H0.o),Hfull.o];rfl];exact Rd.mono hv5 fun k hk _=>Zlo X0.o.size (Zlo hx1.size hk)
 have H0:=Ya h0;obtain⟨n,hn⟩:=gnX ((Bl c).length);have hp:0<n:=by rw[← hn];exact Zj7.2 h0
 have Hn:=Ya hn;clear hn h0;have d1:decide ((0:Int)<(n:Int))=true:=Yh;have d2:decide (0<n)=true:=Yh hp;go_wp2_with (first|(refine Xx rfl ?_)|(go_at_call 261;refine(Zyz _ _).mono ?_;rintro e w1 ⟨v,rfl,hv,hx1⟩;obtain⟨A1,C1,rfl,_,_⟩:=hv.shape;rw[Hn.o]));go_ret;refine⟨.slice A1 n C1,rfl,?_,X0.o.trans hx1⟩;rw[show I4 T c=Bl c from Zlm H0.o,← Hn.o];exact Rd.mono hv fun k hk _=>Zlo X0.o.size hk
theorem Zt6{S S':Nat→Prop}(v v':Value)(l l':List Int)(w:World)(h:Xy w S v l)(h':Xy w S' v' l'):Calls Tryz.prog 251 #[v,v'] w (V0 w):=by
 obtain⟨A,C,rfl,hlCC,hCC⟩:=h.shape;obtain⟨n,hnn⟩:=gnX ((l).length);have Hnn:=Ya hnn;have Hh:=Ya h;unfold maxLen at hCC;rw[hnn]at hlCC⊢;clear h hnn;obtain⟨B,D,rfl,hlCD,hCD⟩:=h'.shape;obtain⟨k,hnk⟩:=gnX ((l').length);have Hnk:=Ya hnk;have Hh':=Ya h';unfold maxLen at hCD;rw[hnk]at hlCD⊢;clear h' hnk;go_enter Tryz.func251,Tryz.ntmps251;by_cases hnk:n=k
 ·subst hnk;have d0:(!((n:Int)==(n:Int)))=false:=by simp
  go_wp2_with fail;go_loopw [13] (fun o wr=>∃ i:Nat,i≤n∧o=.int .i64 (i:Int)∧Ext w wr) (fun o _=>n-(intOf o).toNat);case atStart=>exact⟨0,by omega,rfl,xE⟩
  obtain⟨i,hi_i,rfl,hx⟩:=hrel;have Hx:=Ya hx;clear hx;by_cases hlt:i<n
  ·obtain⟨hd_i,i0_i,i1_i⟩:=LTl i n;obtain⟨x,hs_x⟩:=geX (l:=(l)) (i:=i) (by have:=Hnn.o;omega);obtain⟨g_x,o_x,c_x,hvv,_,_,_,hgl_x,a0_x⟩:=(Hh.o.ext Hx.o).get hs_x;simp only[Yg]at hvv;obtain⟨rfl,-,rfl⟩:=hvv;have Hs_x:=Ya hs_x;clear hs_x;obtain⟨y,hs_y⟩:=geX (l:=(l')) (i:=i) (by have:=Hnk.o;omega);obtain⟨g_y,o_y,c_y,hvv,_,_,_,hgl_y,a0_y⟩:=(Hh'.o.ext Hx.o).get hs_y;simp only[Yg]at hvv;obtain⟨rfl,-,rfl⟩:=hvv;have Hs_y:=Ya hs_y;clear hs_y;have m0:=lat a0_x;have m1:=lat a0_y;go_wp2_with fail;refine Y0 (by kernel_rfl) (by kernel_rfl) ?_;repeat((with_reducible refine Yw ?_);intro K hK;go_simp;(with_reducible refine hK _ ?_);clear hK K)
   (with_reducible refine Yv ?_)
   intro w2 hy;go_wp2_with fail;all_goals
    have hx:=Hx.o
    first
    | (go_roundw
       case rel=>exact⟨i+1,by omega,by go_num,xE⟩
       (simp[intOf];omega))
    | (go_ret;exact⟨_,rfl,xE⟩)
  have hd_i:=GEl i n;go_wp2_with fail;all_goals
   have hx:=Hx.o
   first
   | (go_roundw
      case rel=>exact⟨i+1,by omega,by go_num,xE⟩
      (simp[intOf];omega))
   | (go_ret;exact⟨_,rfl,xE⟩)
 have d0:(!((n:Int)==(k:Int)))=true:=by simp;omega
 have d1:((n:Int)!=(k:Int))=true:=d0;have d2:(!(n==k))=true:=by simp;omega
 have d3:(n !=k)=true:=d2;go_wp2_with fail;all_goals(go_ret;exact⟨_,rfl,xE⟩)
theorem Wt{ops:Array Oper}{rest:List Oper}{dst:Option Nat}{x:Operand}{t:TypeId}{pos:String}{af:Array Edge}{gd:Option (Nat×Bool)}{a:Act}{w:World}{Q:Exit→Act→World→Prop}{b:Nat}{T:Tbl}(h:Jd w b T)
 (hw:Region.wanted {dst:=dst,op:=.load 34 x,type:=t,pos:=pos,after:=af,guard:=gd} (yielded ops a.tmps)=true) (hx:a.eval x=.pointer (some ⟨b,0,none⟩)) (hK:wpList Tryz.prog ops Q rest (a.put dst (Vt T)) w) :
 wpList Tryz.prog ops Q ({dst:=dst,op:=.load 34 x,type:=t,pos:=pos,after:=af,guard:=gd}::rest) a w:=by
 have hu:=Mm;rw[Zl0]at hu;obtain⟨d,hu,hd⟩:=hu;show if _ then _ else _
 rw[Zlm hw];exact .inl (Zhf _ x rfl b 0 hx (Qu T) d h.range hu hd (by rw[Gx];rfl) hK)
def hcO(a b:Int):Option Int :=
 if Aw a=1∧Aw b=2 then some (wrap64 (44032+wrap64 (wrap64 (wrap64 (wrap64 (21*wrap64 (a-4352))+b)-4449)*28)))
 else if Aw a=4∧Aw b=3 then some (wrap64 (wrap64 (a+b)-4519))
 else none
def Zpd:Option Int→Value
 | some c=>.tuple #[.int .i64 c,.bool true]
 | none=>.tuple #[.int .i64 0,.bool false]
theorem Zpl(a b:Int)(w:World):Calls Tryz.prog 249 #[.int .i64 a,.int .i64 b] w fun e w'=>e=.returned (Zpd (hcO a b))∧w=w':=by
 cases h1:(Aw a==1)
 ·cases h3:(Aw a==4)
  ·have Hc:=Ya (show hcO a b=none by simp at h1 h3;unfold hcO;rw[Zlq (fun h=>h1 h.1),Zlq (fun h=>h3 h.1)]);go_enter Tryz.func249,Tryz.ntmps249;go_wp2_with (go_at_call 262;refine(Bg _ _).mono ?_;rintro e w' ⟨rfl,rfl⟩);go_ret2;exact⟨by rw[Hc.o];rfl,rfl⟩
  cases h4:(Aw b==3)
  ·have Hc:=Ya (show hcO a b=none by simp at h1 h4;unfold hcO;rw[Zlq (fun h=>h1 h.1),Zlq (fun h=>h4 h.2)]);go_enter Tryz.func249,Tryz.ntmps249;go_wp2_with (go_at_call 262;refine(Bg _ _).mono ?_;rintro e w' ⟨rfl,rfl⟩);go_ret2;exact⟨by rw[Hc.o];rfl,rfl⟩
  have Hc:=Ya (show hcO a b=some (wrap64 (wrap64 (a+b)-4519)) by simp at h1 h3 h4;unfold hcO;rw[Zlq (fun h=>h1 h.1),Zlm ⟨h3,h4⟩]);go_enter Tryz.func249,Tryz.ntmps249;go_wp2_with (go_at_call 262;refine(Bg _ _).mono ?_;rintro e w' ⟨rfl,rfl⟩);go_ret2;exact⟨by rw[Hc.o];rfl,rfl⟩
 cases h2:(Aw b==2)
 ·cases h3:(Aw a==4)
  ·have Hc:=Ya (show hcO a b=none by simp at h2 h3;unfold hcO;rw[Zlq (fun h=>h2 h.2),Zlq (fun h=>h3 h.1)]);go_enter Tryz.func249,Tryz.ntmps249;go_wp2_with (go_at_call 262;refine(Bg _ _).mono ?_;rintro e w' ⟨rfl,rfl⟩);go_ret2;exact⟨by rw[Hc.o];rfl,rfl⟩
  simp at h1 h3;omega
 have Hc:=Ya (show hcO a b=some (wrap64 (44032+wrap64 (wrap64 (wrap64 (wrap64 (21*wrap64 (a-4352))+b)-4449)*28))) by simp at h1 h2;unfold hcO;rw[Zlm ⟨h1,h2⟩]);go_enter Tryz.func249,Tryz.ntmps249;go_wp2_with (go_at_call 262;refine(Bg _ _).mono ?_;rintro e w' ⟨rfl,rfl⟩);go_ret2;exact⟨by rw[Hc.o];rfl,rfl⟩
def Cc(T:Tbl)(a b:Int):List Mp→Option Int
 | []=>none
 | m::r=>if m.to_=[a,b]∧Gr T m.fr=true then some m.fr else Cc T a b r
def Bb(T:Tbl)(a b:Int):Option Int:=(hcO a b).or (Cc T a b T.dec)
theorem Fz{T:Tbl}{a b:Int}{m:Mp}{r:List Mp}(h:¬ (m.to_=[a,b]∧Gr T m.fr=true)):Cc T a b (m::r)=Cc T a b r:=by rw[Cc,Zlq h]
theorem Qj{S:Nat→Prop}(T:Tbl)(hfin:Zs2 T)(hf:Few T)(a b:Int)(w:World)(h:Xn w S T):Calls Tryz.prog 227 #[Vt T,.int .i64 a,.int .i64 b] w fun e w'=>e=.returned (Zpd (Bb T a b))∧Ext w w':=by
 obtain⟨A9,C9,e9,hl9,hc9⟩:=h.dec.shape;have h9:=h.dec.ext ((Yn w).alloc (Xe T));obtain⟨n9,hn9⟩:=gnX (T.dec.length);rw[hn9]at e9 hl9;rw[e9]at h9;have Hn9:=Ya hn9;have E9:=Ya e9;have H9:=Ya h9;unfold maxLen at hc9;clear hn9 e9 h9;have X0:=Ya ((Yn w).alloc (Xe T));have H:=Ya (h.up X0.o);have Hb0:=Ya (Xo w T);clear h;have Hf:=Ya hf;have HF:=Ya hfin;clear hf hfin;go_enter Tryz.func227,Tryz.ntmps227;cases hc:hcO a b with
 | some c =>
  have Hc:=Ya hc;have e1:Zpd (hcO a b)=.tuple #[.int .i64 c,.bool true]:=by rw[hc];rfl
  go_wp2_with (first|(refine Xx rfl ?_)|(go_at_call 249;refine(Zpl _ _ _).mono ?_;rintro e w' ⟨rfl,rfl⟩;rw[e1]));go_ret2;exact⟨by rw[show Bb T a b=some c by unfold Bb;rw[Hc.o];rfl];rfl,X0.o⟩
 | none =>
  have Hc:=Ya hc;have e1:Zpd (hcO a b)=.tuple #[.int .i64 0,.bool false]:=by rw[hc];rfl
  clear hc;have Hx0:=Ya (Yn (w.alloc (Xe T)));have b9:=(Hb0.o.ext Hx0.o).at_ 9 (by omega);rw[show(Qu T)[9]?=some T.decV from rfl,E9.o]at b9;go_wp2_with (first|(refine Xx rfl ?_)|(go_at_call 249;refine(Zpl _ _ _).mono ?_;rintro e w' ⟨rfl,rfl⟩;rw[e1]));clear b9;go_loopw [23] (fun o wr=>∃ i:Nat,i≤n9∧o=.int .i64 (i:Int)∧Bb T a b=Cc T a b (T.dec.drop i)∧Ext (w.alloc (Xe T)) wr) (fun o _=>n9-(intOf o).toNat);case atStart=>exact⟨0,by omega,rfl,by unfold Bb;rw[Hc.o];rfl,Hx0.o⟩
  clear Hx0;obtain⟨i,hi,rfl,hp,hx⟩:=hrel;have Hx:=Ya hx;have Hp:=Ya hp;clear hx hp;by_cases hlt:i<n9
  ·obtain⟨hd_i,i0_i,i1_i⟩:=LTl i n9;obtain⟨m,hs_m⟩:=geX (l:=(T.dec)) (i:=i) (by have:=Hn9.o;omega);obtain⟨g_m,o_m,c_m,hvv,_,_,_,hgl_m,a0_m,a1_m,_⟩:=(H9.o.ext Hx.o).get hs_m;simp only[Yg]at hvv;obtain⟨rfl,-,rfl⟩:=hvv;have ti_m:=H9.o.2 _ (Zy hs_m);obtain⟨A_m,C_m,tv_m,tl_m,tc_m⟩:=ti_m.shape;obtain⟨n_m,hn_m⟩:=gnX (m.to_.length);rw[tv_m]at a1_m ti_m;rw[hn_m]at a1_m tl_m;have Hn_m:=Ya hn_m;unfold maxLen at tc_m;have Hs_m:=Ya hs_m;have Ti_m:=Ya ti_m;clear hs_m ti_m tv_m hn_m;have hbl:=(Hb0.o.ext Hx.o).lt;have Hd:=Ya (show T.dec.drop i=m::T.dec.drop (i+1) from drop_at Hs_m.o);by_cases h2:n_m=2
   ·subst h2;obtain⟨x,y,exy⟩:∃ x y,m.to_=[x,y]:=by
     have h2:=Hn_m.o
     match hh:m.to_ with
     | [x,y]=>exact⟨x,y,rfl⟩
     | []=>rw[hh]at h2;simp at h2
     | [_]=>rw[hh]at h2;simp at h2
     | _::_::_::_=>rw[hh]at h2;simp at h2
    have t:=Ti_m.o;rw[exy]at t;have Hxy:=Ya exy;clear exy;obtain⟨gg,oo,cc,hv0,_,_,_,_,u⟩:=(t.ext (Hx.o.alloc (.cells #[.int .i64 m.fr,.slice A_m 2 C_m] 106))).get (j:=0) rfl;obtain⟨gg',oo',cc',hv1,_,_,_,_,v⟩:=(t.ext (Hx.o.alloc (.cells #[.int .i64 m.fr,.slice A_m 2 C_m] 106))).get (j:=1) rfl;rw[hv0]at hv1;simp only[Yg,Yf,Zlh,Zlc,Zky]at hv1;obtain⟨⟨rfl,rfl⟩,rfl⟩:=hv1;simp only[Yg]at hv0;obtain⟨rfl,-,rfl⟩:=hv0;rw[Zkt]at u;clear t;cases q1:(x==a)
    ·have Hno:=Ya (show ¬ (m.to_=[a,b]∧Gr T m.fr=true) by rw[Hxy.o];simp at q1⊢;exact fun h=>absurd h q1);go_wp2_with fail;go_roundw;case rel=>exact⟨i+1,by omega,by go_num,by rw[Hp.o,Hd.o,Fz Hno.o],Hx.o.alloc _⟩
     (simp[intOf];omega)
    cases q2:(y==b)
    ·have Hno:=Ya (show ¬ (m.to_=[a,b]∧Gr T m.fr=true) by rw[Hxy.o];simp at q2⊢;exact fun _ h=>absurd h q2);go_wp2_with fail;go_roundw;case rel=>exact⟨i+1,by omega,by go_num,by rw[Hp.o,Hd.o,Fz Hno.o],Hx.o.alloc _⟩
     (simp[intOf];omega)
    have Hyes:=Ya (show m.to_=[a,b] by rw[Hxy.o];simp at q1 q2;rw[q1,q2]);cases q3:Gr T m.fr
    ·have Hno:=Ya (show ¬ (m.to_=[a,b]∧Gr T m.fr=true) by rw[q3];simp);go_wp2_with (first|(refine Wt (Hb0.o.ext (Hx.o.alloc _)) (by go_simp) rfl ?_)|(go_at_call 112;refine(Kw T HF.o Hf.o _ _ (H.o.up (Hx.o.alloc _))).mono ?_;rintro e w5 ⟨rfl,hx5⟩));go_roundw;case rel=>exact⟨i+1,by omega,by go_num,by rw[Hp.o,Hd.o,Fz Hno.o],(Hx.o.alloc _).trans hx5⟩
     (simp[intOf];omega)
    have Hy:=Ya q3;go_wp2_with (first|(refine Wt (Hb0.o.ext (Hx.o.alloc _)) (by go_simp) rfl ?_)|(go_at_call 112;refine(Kw T HF.o Hf.o _ _ (H.o.up (Hx.o.alloc _))).mono ?_;rintro e w5 ⟨rfl,hx5⟩;have hc5:=fun k=>hx5.cell (p:=⟨wr.heap.size,k,none⟩) (by simp)));go_ret2;exact⟨by rw[Hp.o,Hd.o,Cc,Zlm ⟨Hyes.o,Hy.o⟩];rfl,X0.o.trans ((Hx.o.alloc _).trans hx5)⟩
   have h2b:((n_m:Int)==2)=false:=by simp;omega
   have h2c:(n_m==2)=false:=by simp;omega
   have Hno:=Ya (show ¬ (m.to_=[a,b]∧Gr T m.fr=true) from fun h=>h2 (by rw[← Hn_m.o,h.1];rfl));clear h2;go_wp2_with fail;go_roundw;case rel=>exact⟨i+1,by omega,by go_num,by rw[Hp.o,Hd.o,Fz Hno.o],Hx.o.alloc _⟩
   (simp[intOf];omega)
  have hd_i:=GEl i n9;go_wp2_with fail;go_ret2;refine⟨?_,X0.o.trans Hx.o⟩;rw[Hp.o,Zkk (by rw[Hn9.o];omega)];rfl
def Zoj(T:Tbl)(l:List Int)(w:World)(e:Ending)(w':World):Prop:=∃ v,e=.returned v∧RdE Wk w' (fun k=>w.heap.size≤k) v (Gb (Wp T.cls) l)∧Ext w w'
theorem Ce{S S':Nat→Prop}(T:Tbl)(v:Value)(l:List Int)(w:World)(h:Xn w S T)(hl:Xy w S' v l)(hll:l.length≤100000):Calls Tryz.prog 248 #[Vt T,v] w (Zoj T l w):=by
 obtain⟨A,C,rfl,hlCC,hCC⟩:=hl.shape;obtain⟨n,hnn⟩:=gnX ((l).length);have Hnn:=Ya hnn;have Hhl:=Ya hl;unfold maxLen at hCC;rw[hnn]at hlCC⊢;clear hl hnn;rw[Hnn.o]at hll;have X0:=Ya ((Yn w).alloc (Xe T));have H:=Ya (h.up X0.o);have Hb0:=Ya (Xo w T);clear h;have HL:=Ya (show Xy (w.alloc (Xe T)) S' (.slice A n C) l by have:=Hhl.o.ext X0.o;rwa [Hnn.o]at this);obtain⟨B,hB⟩:=gnX ((w.alloc (Xe T)).heap.size);have HB:=Ya hB;clear hB;go_enter Tryz.func248,Tryz.ntmps248;go_wp2_with (first|(refine Xx rfl ?_)|(at_builtin;refine Xu Wk _ _ _ rfl rfl rfl rfl (Own.nil Wk _ B) rfl HL.o (by rw[Hnn.o];simp;omega) (by show 8≤1000;omega) (by have:=HB.o;omega) ?_;intro A1 n1 c1 w1 hg;have Hg:=Ya hg;clear hg));have Hx1:=Ya (Hg.o.ext (w.alloc (Xe T)) (Yn _) (by rw[HB.o];exact Yp _));have hn1:n1=n:=by rw[Hg.o.len,Zo,Hnn.o]
 subst hn1;have Ho1:=Ya (show Own Wk w1 B (.slice A1 n1 c1) l by have:=Hg.o.own;rwa [Zo]at this);clear Hg;go_loopg [6] (Pn (Wp T.cls) l+1) (fun gk mv wr=>∃ (b:Bool) (cur:List Int),mv=.bool b∧Own Wk wr B (.slice A1 n1 c1) cur∧cur.length=n1∧Ext (w.alloc (Xe T)) wr∧((b=true∧Gb (Wp T.cls) cur=Gb (Wp T.cls) l∧gk=Pn (Wp T.cls) cur+1)∨(b=false∧cur=Gb (Wp T.cls) l∧gk=0)));case atStart=>exact⟨true,l,rfl,Ho1.o,Hnn.o,Hx1.o,.inl ⟨rfl,rfl,rfl⟩⟩
 clear Ho1 Hx1;obtain⟨b,cur,rfl,ho,hcn,hx,hst⟩:=hrel;have Hx:=Ya hx;have Ho:=Ya ho;have Hcn:=Ya hcn;clear hx ho hcn;rcases hst with⟨rfl,heq,hgk⟩ | ⟨rfl,heq,rfl⟩
 ·have Heq:=Ya heq;have Hgk:=Ya hgk;clear heq hgk;rename World=>wo
  go_wp2_with fail;go_loopw [7,6] (fun o mv wr=>∃ (k:Nat) (b:Bool),k≤n1-1∧o=.int .i64 ((k+1:Nat):Int)∧mv=.bool b∧Own Wk wr B (.slice A1 n1 c1) (Zym (Wp T.cls) cur k)∧(b=false→Zym (Wp T.cls) cur k=cur)∧(b=true→Pn (Wp T.cls) (Zym (Wp T.cls) cur k)<Pn (Wp T.cls) cur)∧Ext (w.alloc (Xe T)) wr) (fun o _ _=>n1+1-(intOf o).toNat);case atStart=>exact⟨0,false,by omega,rfl,rfl,Ho.o,fun _=>rfl,fun h=>absurd h (by decide),Hx.o⟩
  clear Ho Hx;obtain⟨k,b,hk,rfl,rfl,ho,hf,ht,hx⟩:=hrel;obtain⟨p,hp⟩:=gnX (Zym (Wp T.cls) cur k);rw[hp]at ho hf ht;have hpl:p.length=n1:=by rw[← hp,Pg,Hcn.o]
  have Hx:=Ya hx;have Ho:=Ya ho;have Hf:=Ya hf;have Ht:=Ya ht;have Hp:=Ya hp;have Hpl:=Ya hpl;clear hx ho hf ht hp hpl;by_cases hlt:k+1<n1
  ·have hd:decide (((k+1:Nat):Int)<(n1:Int))=true:=Yh;have hd2:decide ((k:Int)+1<(n1:Int))=true:=Yh;obtain⟨g,c,e,hg1,hg2,hg3,hg4⟩:=Ho.o.some_ (by rw[Hpl.o];omega);simp only[Yg]at e;obtain⟨rfl,-,rfl⟩:=e;rw[Hpl.o]at hg3;unfold maxLen at hg4;obtain⟨x,hx0⟩:=geX (l:=p) (i:=k) (by rw[Hpl.o];omega);obtain⟨y,hy0⟩:=geX (l:=p) (i:=k+1) (by rw[Hpl.o];omega);have Hx0:=Ya hx0;have Hy0:=Ya hy0;have m0:=lat (Ho.o.at_ (ints_at hx0));have m1:=lat (Ho.o.at_ (ints_at hy0));clear hx0 hy0;have HW:=Ya (H.o.up Hx.o);have hC:∀ w',(∃ p:Wi,w'=later wr p.n p.os)→Jd w' w.heap.size T:=fun w' ⟨p,e⟩=>by rw[e];exact(Hb0.o.ext Hx.o).ext (⟨_,_,rfl⟩)
   have e1:(((k+1:Nat):Int)-1)=(k:Int):=by omega
   have q1:IntKind.i64.wrap (((k+1:Nat):Int)-1)=(k:Int):=by rw[Yr _ (by omega)];omega
   have q2:IntKind.i64.wrap ((k:Int)+1-1)=(k:Int):=by rw[Yr _ (by omega)];omega
   have q8:IntKind.i64.wrap (k:Int)=(k:Int):=Yr _ (by omega);have q3:(0:Int)≤(k:Int):=by omega
   have q4:(k:Int)<(n1:Int):=by omega
   have q5:(0:Int)≤(k:Int)+1:=by omega
   have q6:(k:Int)+1<(n1:Int):=by omega
   have q7:k<n1:=by omega
   have hun:=Yd;go_wp2_with fail;refine Y0 (by kernel_rfl) (by kernel_rfl) ?_;repeat(first|((with_reducible refine Xm ?_ ?_ hC ?_);(focus(go_simp;done));rfl)|((with_reducible refine Yw ?_);intro K hK;go_simp;first|((with_reducible refine hK _ ?_);clear hK K)|(apply Exists.intro;refine⟨fun _=>?_,hK _ ?_⟩;(go_at_call 148;exact Y8 (Xq T _ _ (HW.o.up (⟨_,_,rfl⟩))));clear hK K)))
   (with_reducible refine Yv ?_)
   intro w2 hy;clear hun;try simp only[Ye]
   have Hx2:=Ya (Hx.o.trans hy);have Ho2:=Ya (Ho.o.ext hy);clear hy m0 m1 HW hC;have c0:=Ho2.o.at_ (ints_at Hx0.o);have c1:=Ho2.o.at_ (ints_at Hy0.o);have t0:=Ho2.o.thaw k;have t1:=Ho2.o.thaw (k+1);have hgb:=Ho2.o.blk.2;have q9:IntKind.i64.wrap ((k:Int)+1+1)=((k+1+1:Nat):Int):=by rw[Yr _ (by omega)];omega
   by_cases hsw:0<Wp T.cls y∧Wp T.cls y<Wp T.cls x
   ·have d1:decide (0<Wp T.cls y)=true:=Yh hsw.1;have d2:decide (Wp T.cls y<Wp T.cls x)=true:=Yh hsw.2;have Hsw:=Ya hsw;clear hsw;have Ho3:=Ya ((Ho2.o.put rfl (i:=k) (by rw[Hpl.o];omega) y (u:=.int .i64 y) rfl).put rfl (i:=k+1) (by rw[Zf,Hpl.o];omega) x (u:=.int .i64 x) rfl);have Hsame:=Ya (show Zym (Wp T.cls) cur (k+1)=(p.set k y).set (k+1) x by rw[Zym,Hp.o];exact Zsp (by rw[Zkd];exact Hx0.o) Hy0.o Hsw.o);have Hlt:=Ya (show Pn (Wp T.cls) (Zym (Wp T.cls) cur (k+1))<Pn (Wp T.cls) cur by
     rw[Zym,Hp.o];have h1:=Zm1 (f:=Wp T.cls) Hx0.o Hy0.o Hsw.o;cases b with
     | true=>have:=Ht.o rfl;omega
     | false=>rw[Hf.o rfl]at h1⊢;exact h1)
    go_wp2_with fail;go_region;all_goals
     go_wp2_with fail;go_roundw;case rel=>exact⟨k+1,true,by omega,by go_num,rfl,by rw[Hsame.o];exact Ho3.o,fun h=>absurd h (by decide),fun _=>Hlt.o,(Yc (Yc Hx2.o (by have:=HB.o;show _≤g;omega) _) (by have:=HB.o;show _≤g;omega) _).drew⟩
     (simp[intOf];omega)
   have Hsw:=Ya hsw;have Hsame:=Ya (show Zym (Wp T.cls) cur (k+1)=p by rw[Zym,Hp.o];exact Zm2 (by rw[Zkd];exact Hx0.o) Hy0.o hsw);by_cases d0:0<Wp T.cls y
   ·have d1:decide (0<Wp T.cls y)=true:=Yh d0;have d2:decide (Wp T.cls y<Wp T.cls x)=false:=Yi fun h=>hsw ⟨d0,h⟩
    clear hsw d0;go_wp2_with fail;go_roundw;case rel=>exact⟨k+1,b,by omega,by go_num,rfl,by rw[Hsame.o];exact Ho2.o,by rw[Hsame.o];exact Hf.o,by rw[Hsame.o];exact Ht.o,Hx2.o⟩
    (simp[intOf];omega)
   have d1:decide (0<Wp T.cls y)=false:=Yi d0;clear hsw d0;go_wp2_with fail;go_roundw;case rel=>exact⟨k+1,b,by omega,by go_num,rfl,by rw[Hsame.o];exact Ho2.o,by rw[Hsame.o];exact Hf.o,by rw[Hsame.o];exact Ht.o,Hx2.o⟩
   (simp[intOf];omega)
  have hd:decide (((k+1:Nat):Int)<(n1:Int))=false:=Yi;have hd2:decide ((k:Int)+1<(n1:Int))=false:=Yi;have hk2:k=cur.length-1:=by rw[Hcn.o];omega
  have Hk2:=Ya (show p=Zwy (Wp T.cls) cur by rw[← Hp.o,hk2];rfl);clear hk2;go_wp2_with fail;cases b with
  | true =>
   go_roundg (Pn (Wp T.cls) p+1);case measure=>have:=Ht.o rfl;have:=Hgk.o;omega
   case rel =>
    refine⟨true,p,rfl,Ho.o,Hpl.o,Hx.o,.inl ⟨rfl,?_,rfl⟩⟩;rw[← Heq.o,Zqh (f:=Wp T.cls) (l:=cur) (by rw[← Hk2.o];exact Ht.o rfl),← Hk2.o]
  | false =>
   go_roundg 0;case measure=>have:=Hgk.o;omega
   case rel =>
    refine⟨false,p,rfl,Ho.o,Hpl.o,Hx.o,.inr ⟨rfl,?_,rfl⟩⟩;have h1:=Hf.o rfl;rw[← Heq.o,Ztr (f:=Wp T.cls) (l:=cur) (by rw[← Hk2.o];exact h1)];exact h1
 have Heq:=Ya heq;clear heq;go_wp2_with fail;go_ret;refine⟨_,rfl,?_,X0.o.trans Hx.o⟩;rw[← Heq.o];have:=Ho.o.rd;rw[← Hcn.o]at this⊢;exact Rd.mono this fun k hk _=>Zlo (by have:=X0.o.size;have:=HB.o;omega) hk
end Go.Proofs.YtnbclgbicnpmnaaGreat
