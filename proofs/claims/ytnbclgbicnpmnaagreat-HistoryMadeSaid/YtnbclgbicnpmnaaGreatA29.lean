/- Lemmas of this claim. Conditions: as named. -/
import Derived.Deep.RegionLaw
import Derived.Deep.DeepCutAuto
import Derived.Deep.RegionHeld3
import Derived.WalkMore
import Derived.Test.YtnbclgbicnpmnaaGreatA02
import Derived.Test.YtnbclgbicnpmnaaGreatA03
import Derived.Test.YtnbclgbicnpmnaaGreatA08
import Derived.Test.YtnbclgbicnpmnaaGreatA09
import Derived.Test.YtnbclgbicnpmnaaGreatA16
import Derived.Test.YtnbclgbicnpmnaaGreatA28
namespace Go.Proofs.YtnbclgbicnpmnaaGreat
open Go.RowKit Go.Sort
set_option maxHeartbeats 0
set_option maxRecDepth 100000
set_option linter.all false
theorem Uk:(Tryz.prog.info? 99).map (fun i=>(i.zero,i.size,i.bytes))=some (some (.agg #[.int .i64 0,.int .i64 0,.int .i64 0]),3,24):=by kernel_rfl
theorem Zs3:Tryz.prog.underlying 31=some (.slice 99):=by kernel_rfl
theorem Zn3(l:List Sp):∀ u∈Vw l,u.oneCell'=true:=by
 induction l with
 | nil=>simp[Vw]
 | cons n r ih =>
  intro u hu;rw[Vw,Zj]at hu;rcases hu with hu|hu
  ·simp only[Mm,Zg,Zh,Zkh]at hu;rcases hu with rfl|rfl|rfl<;>rfl
  exact ih u hu
noncomputable def spE:Enc Sp where
 ty:=99
 sl:=31
 z:=3
 bytes:=24
 cells l:=Vw l
 app a b:=Gz a b
 len l:=Ag l
 one l:=Zn3 l
 und:=Zs3
 i:=Classical.choose (Zlf Uk)
 zero:=.agg #[.int .i64 0,.int .i64 0,.int .i64 0]
 info:=(Yq (Zlf Uk)).1
 hz:=(Yq (Zlf Uk)).2.1
 hs:=(Yq (Zlf Uk)).2.2.1
 hb:=(Yq (Zlf Uk)).2.2.2
 hc:=rfl
 pos:=by omega
theorem Ul:(Tryz.prog.info? 106).map (fun i=>(i.zero,i.size,i.bytes))=some (some (.agg #[.int .i64 0,.slice none 0 0]),2,32):=by kernel_rfl
theorem Zs2:Tryz.prog.underlying 32=some (.slice 106):=by kernel_rfl
abbrev MpS:={m:Mp // m.tv.oneCell'=true}
def Zmr(l:List MpS):List Value:=Vx (l.map Subtype.val)
theorem Zqk(l:List MpS):∀ u∈Zmr l,u.oneCell'=true:=by
 induction l with
 | nil=>simp[Zmr,Vx]
 | cons o r ih =>
  intro u hu;obtain⟨o,ho⟩:=o;simp only[Zmr,Zku,Vx,Zj]at hu;rcases hu with hu|hu
  ·simp only[Lh,Zg,Zh,Zkh]at hu;rcases hu with rfl|rfl
   ·rfl
   exact ho
  exact ih u hu
noncomputable def mpE:Enc MpS where
 ty:=106
 sl:=32
 z:=2
 bytes:=32
 cells l:=Zmr l
 app a b:=by simp[Zmr,Uf]
 len l:=by simp[Zmr,Aw]
 one l:=Zqk l
 und:=Zs2
 i:=Classical.choose (Zlf Ul)
 zero:=.agg #[.int .i64 0,.slice none 0 0]
 info:=(Yq (Zlf Ul)).1
 hz:=(Yq (Zlf Ul)).2.1
 hs:=(Yq (Zlf Ul)).2.2.1
 hb:=(Yq (Zlf Ul)).2.2.2
 hc:=rfl
 pos:=by omega
theorem Lv:(Tryz.prog.info? 109).map (fun i=>(i.zero,i.size,i.bytes))=some (some (.agg #[.string ⟨#[]⟩,.string ⟨#[]⟩,.string ⟨#[]⟩]),3,48):=by kernel_rfl
theorem Zmy:Tryz.prog.underlying 49=some (.slice 109):=by kernel_rfl
noncomputable def nmE:Enc Nm where
 ty:=109
 sl:=49
 z:=3
 bytes:=48
 cells l:=Wl l
 app a b:=Ue a b
 len l:=Av l
 one l:=Tj l
 und:=Zmy
 i:=Classical.choose (Zlf Lv)
 zero:=.agg #[.string ⟨#[]⟩,.string ⟨#[]⟩,.string ⟨#[]⟩]
 info:=(Yq (Zlf Lv)).1
 hz:=(Yq (Zlf Lv)).2.1
 hs:=(Yq (Zlf Lv)).2.2.1
 hb:=(Yq (Zlf Lv)).2.2.2
 hc:=rfl
 pos:=by omega
structure Zz9 where
 kind:Int
 cl:Int
 n:Int
 text:ByteArray
def Zmg(a:Zz9):List Value:=[.int .i64 a.kind,.int .i64 a.cl,.int .i64 a.n,.string a.text]
def Kf:List Zz9→List Value
 | []=>[]
 | s::r=>Zmg s++Kf r
theorem Ra:∀ l:List Zz9,(Kf l).length=l.length*4
 | []=>rfl
 | n::r=>by rw[Kf,Zs,Ra r];simp[Zmg];omega
theorem De:∀ a b:List Zz9,Kf (a++b)=Kf a++Kf b
 | [],_=>rfl
 | n::r,b=>by simp[Kf,De r b]
theorem Zyv:∀ {l:List Zz9} {j:Nat} {s:Zz9},l[j]?=some s→(Kf l)[j*4]?=some (.int .i64 s.kind)∧(Kf l)[j*4+1]?=some (.int .i64 s.cl)∧(Kf l)[j*4+2]?=some (.int .i64 s.n)∧(Kf l)[j*4+3]?=some (.string s.text)
 | m::r,0,n,h=>by
  simp only[Zx,Yf]at h;subst h;simp[Kf,Zmg]
 | m::r,j+1,n,h=>by
  obtain⟨h1,h2,h3,h4⟩:=Zyv (l:=r) (j:=j) (s:=n) (by simpa using h);have hm:(Zmg m).length=4:=rfl;have e:∀ k,(Kf (m::r))[(j+1)*4+k]?=(Kf r)[j*4+k]?:=fun k=>by
   rw[Kf,Zd (by omega),hm];congr 1;omega
  refine⟨?_,?_,?_,?_⟩
  ·have:=e 0;simp only[Zko]at this;rw[this,h1]
  ·rw[e 1,h2]
  ·rw[e 2,h3]
  rw[e 3,h4]
theorem Zre(l:List Zz9):∀ u∈Kf l,u.oneCell'=true:=by
 induction l with
 | nil=>simp[Kf]
 | cons n r ih =>
  intro u hu;rw[Kf,Zj]at hu;rcases hu with hu|hu
  ·simp only[Zmg,Zg,Zh,Zkh]at hu;rcases hu with rfl|rfl|rfl|rfl<;>rfl
  exact ih u hu
theorem Ez:(Tryz.prog.info? 78).map (fun i=>(i.zero,i.size,i.bytes))=some (some (.agg #[.int .i64 0,.int .i64 0,.int .i64 0,.string ⟨#[]⟩]),4,40):=by kernel_rfl
theorem Zpp:Tryz.prog.underlying 39=some (.slice 78):=by kernel_rfl
noncomputable def Zxi:Enc Zz9 where
 ty:=78
 sl:=39
 z:=4
 bytes:=40
 cells l:=Kf l
 app a b:=De a b
 len l:=Ra l
 one l:=Zre l
 und:=Zpp
 i:=Classical.choose (Zlf Ez)
 zero:=.agg #[.int .i64 0,.int .i64 0,.int .i64 0,.string ⟨#[]⟩]
 info:=(Yq (Zlf Ez)).1
 hz:=(Yq (Zlf Ez)).2.1
 hs:=(Yq (Zlf Ez)).2.2.1
 hb:=(Yq (Zlf Ez)).2.2.2
 hc:=rfl
 pos:=by omega
def Kw:List Int:=[173,183,769,776,803,837,885,945,946,947,1072,1488,1523,1576,1577,1632,1776,2381,7680,7681,7682,7683,7684,8204,8205,12539,19968,128512]
def Zri(w:World)(e:Ending)(w':World):Prop:=∃ v,e=.returned v∧RdE Wh w' (fun k=>w.heap.size≤k) v Kw∧Ext w w'
theorem Zy0(w:World):Calls Tryz.prog 43 #[] w (Zri w):=by
 go_enter Tryz.func43,Tryz.ntmps43;go_wp2_with fail;go_ret;exact⟨_,rfl,Wm w 3 Kw 28 rfl _ rfl (by omega),(Yn w).alloc _⟩
def Zos(l:List Int)(B b:Nat)(w:World)(e:Ending)(w':World):Prop:=∃ c:Int,c∈l∧e=.returned (.int .i64 c)∧Wa B b w w'
theorem Jl{R:Nat→Prop}(B b:Nat)(v:Value)(l:List Int)(w:World)(hs:Src B w b)(hv:RdE Wh w R v l)(hR:¬ R b)(hl1:1≤l.length)(hl2:l.length≤1000):Calls Tryz.prog 45 #[.pointer (some ⟨b,0,none⟩),v] w (Zos l B b w):=by
 obtain⟨A,C,rfl,hlC,hC⟩:=hv.shape;obtain⟨n,hn⟩:=gnX (l.length);have Hs:=Ya (Wa.start hs);have HV:=Ya hv;rw[hn]at hlC hl1 hl2⊢;have Hn:=Ya hn;clear hs hv hn;go_enter Tryz.func45,Tryz.ntmps45;go_wp2_with fail;refine(Xf b 3 (by omega) (by omega) _ B Hs.o.src).mono ?_;rintro e w1 ⟨v,hv,rfl,h1⟩;have H1:=Ya (Hs.o.trans h1);have HV1:=Ya (Rd.chg HV.o h1.chg (fun k hk e=>hR (e▸hk)));clear h1;by_cases hv0:0<v
 ·have d1:decide ((0:Int)<(v:Int))=true:=Yh (by omega);obtain⟨z,hz⟩:=geX (l:=l) (i:=0) (by rw[Hn.o];omega);obtain⟨g,o,c,hvv,_,_,_,hg,cz⟩:=Xz.get (show Xz w1 R _ l from HV1.o) hz;have Hz:=Ya hz;clear hz;rw[Hn.o]at hvv;simp only[Yg]at hvv;obtain⟨rfl,-,rfl⟩:=hvv;rw[Zko]at cz;have n0:(0:Int)<(n:Int):=by omega
  have n1:0<n:=by omega
  go_wp2_with fail;go_ret;exact⟨_,Zy Hz.o,rfl,H1.o⟩
 have d1:decide ((0:Int)<(v:Int))=false:=Yi (by omega);go_wp2_with fail;refine(Xf b (n:Int) (by omega) (by omega) _ B H1.o.src).mono ?_;rintro e w2 ⟨q,hq,rfl,h2⟩;have H2:=Ya (H1.o.trans h2);have hq2:q<n:=by omega
 obtain⟨z,hz⟩:=geX (l:=l) (i:=q) (by rw[Hn.o];omega);obtain⟨g,o,c,hvv,_,_,_,hg,cz⟩:=Xz.get (show Xz w2 R _ l from Rd.chg HV1.o h2.chg (fun k hk e=>hR (e▸hk))) hz;have Hz:=Ya hz;clear hz;rw[Hn.o]at hvv;simp only[Yg]at hvv;obtain⟨rfl,-,rfl⟩:=hvv;have q0:(0:Int)≤(q:Int):=by omega
 go_wp2_with fail;go_ret;exact⟨_,Zy Hz.o,rfl,H2.o⟩
theorem Zp4(w:World)(a b c:Int)(t:TypeId)(g:Nat)(hg:w.heap.size=g):RdE spE (w.alloc (.cells #[.int .i64 a,.int .i64 b,.int .i64 c] t)) (fun _=>True) (.slice (some ⟨g,0,none⟩) 1 1) [⟨a,b,c⟩]:=by
 subst hg;exact V0 w #[.int .i64 a,.int .i64 b,.int .i64 c] t 3 rfl
theorem Gj{α:Type}{l:List α}{j:Nat}{x:α}(h:l[j]?=some x):l.set j x=l:=by
 obtain⟨h1,h2⟩:=Zr.1 h;rw[← h2];exact List.set_getElem_self h1
def Zox(b j:Nat)(cs:List Value)(l0:List Sp)(x:Sp)(S:Nat→Prop)(w:World)(e:Ending)(w':World):Prop :=
 ∃ (u:Value) (l:List Sp),e=.returned (.tuple #[])∧Xs w' b (cs.set j u)∧Vs w' (fun k=>S k∨w.heap.size≤k) u l∧((0<x.val∧l=l0++[x])∨(¬ 0<x.val∧l=l0))∧Chg (· = b) w w'
theorem add_any{S:Nat→Prop}(b j:Nat)(cs:List Value)(u:Value)(l:List Sp)(fr to_ val z:Int)(w:World)(hb:Xs w b cs)(hj:cs[j]?=some u)(hu:Vs w S u l)(_:¬ S b)(hl:l.length≤100000) :
 Calls Tryz.prog 46 #[.pointer (some ⟨b,j,none⟩),.agg #[.int .i64 fr,.int .i64 to_,.int .i64 val],.int .i64 z] w (Zox b j cs l ⟨fr,to_,z⟩ S w):=by
 have HB:=Ya hb;have HU:=Ya hu;have Hj:=Ya hj;have hjl:=(Zr.1 hj).1;clear hb hu hj;by_cases hz:0<z
 ·have d1:decide (0<z)=true:=Yh hz;go_enter Tryz.func46,Tryz.ntmps46;go_upto_region 3 with fail;have hx0:=(Yn w).alloc (.cells #[.int .i64 fr,.int .i64 to_,.int .i64 z] 99);have k0:(w.alloc (.cells #[.int .i64 fr,.int .i64 to_,.int .i64 z] 99)).cell? ⟨w.heap.size,0,none⟩=some (.int .i64 fr):=by go_simp
  have k1:(w.alloc (.cells #[.int .i64 fr,.int .i64 to_,.int .i64 z] 99)).cell? ⟨w.heap.size,1,none⟩=some (.int .i64 to_):=by go_simp
  have k2:(w.alloc (.cells #[.int .i64 fr,.int .i64 to_,.int .i64 z] 99)).cell? ⟨w.heap.size,2,none⟩=some (.int .i64 z):=by go_simp
  have hlt0:w.heap.size<(w.alloc (.cells #[.int .i64 fr,.int .i64 to_,.int .i64 z] 99)).heap.size:=by simp
  obtain⟨W0,hW0⟩:=gnX (w.alloc (.cells #[.int .i64 fr,.int .i64 to_,.int .i64 z] 99));rw[hW0]at hx0 k0 k1 k2 hlt0;rw[hW0];clear hW0;obtain⟨A,C,rfl,hlC,hC⟩:=HU.o.shape;obtain⟨n,hn⟩:=gnX (l.length);have HW:=Ya (show Vs w S (.slice A n C) l by have:=HU.o;rwa [hn]at this);rw[hn]at Hj hl;have Hn:=Ya hn;have hB0:=HB.o.ext hx0;have b0:W0.cell? ⟨b,j,none⟩=some (.slice A n C):=by rw[hB0.at_ j hjl];exact Hj.o
  have bf:=hB0.fz;have b0':(W0.alloc (.cells #[.int .i64 fr,.int .i64 to_,.int .i64 z] 99)).cell? ⟨b,j,none⟩=some (.slice A n C):=by rw[(hB0.ext ((Yn _).alloc _)).at_ j hjl];exact Hj.o
  have HX0:=Ya hx0;have HB0:=Ya hB0;clear hx0 hB0 HU hn;go_region_law (first
   | ((refine Vm spE (Operand.const (Value.slice none 0 0)) (.tmp 13) 31 (by rfl) (by rfl) (by rfl) (by rfl) (Own.nil spE _ W0.heap.size) (by rfl) (show RdE spE W0.drew S (.slice A n C) l from HW.o.ext HX0.o.drew) (by rw[Hn.o];show 0+n≤_;omega) (by show 24≤1000;omega) (by simp) ?_);intro A5 n5 c5 w5 hg5;have X5:=Ya (hg5.ext w HX0.o.drew HX0.o.size);have B5:=Ya (HB.o.ext X5.o);have X05:=Ya (show Ext W0 w5 from hg5.ext W0 (Yn _).drew (Yp _));have G5:=Ya hg5;have k0':=(X05.o.cell (p:=⟨w.heap.size,0,none⟩) hlt0).trans k0;have k1':=(X05.o.cell (p:=⟨w.heap.size,1,none⟩) hlt0).trans k1;have k2':=(X05.o.cell (p:=⟨w.heap.size,2,none⟩) hlt0).trans k2;clear hg5)
   | ((refine Vm spE (Operand.const (Value.slice none 0 0)) (.tmp 13) 31 (by rfl) (by rfl) (by rfl) (by rfl) (Own.nil spE _ W0.heap.size) (by rfl) (show RdE spE (W0.alloc (.cells #[.int .i64 fr,.int .i64 to_,.int .i64 z] 99)).drew S (.slice A n C) l from HW.o.ext (HX0.o.alloc _).drew) (by rw[Hn.o];show 0+n≤_;omega) (by show 24≤1000;omega) (by simp) ?_);intro A5 n5 c5 w5 hg5;have X5:=Ya (hg5.ext w (HX0.o.alloc _).drew HX0.o.size);have B5:=Ya (HB.o.ext X5.o);have s5:W0.heap.size≤w5.heap.size:=(by have:=hg5.chg.size;simp at this;omega);have L5:=Ya (show RdE spE w5 (fun _=>True) (.slice (some ⟨W0.heap.size,0,none⟩) 1 1) [⟨fr,to_,z⟩] from Rd.chg (S:=fun _=>True) (RdE.ext (Zp4 W0 fr to_ z 99 _ rfl) (Yn _).drew) hg5.chg (fun k _ e=>by cases e));have G5:=Ya hg5;clear hg5)
   | ((refine Vm spE (.tmp 14) (.tmp 16) 31 (by rfl) (by rfl) (by rfl) (by rfl) (G5.o.own.ext ((Yn _).alloc _)) (by rfl) (Zp4 w5 fr to_ z 99 _ rfl) (by rw[Zo,Hn.o];show n+1≤_;omega) (by show 24≤1000;omega) (by have:=X05.o.size;simp;omega) ?_);intro A6 n6 c6 w6 hg6;have X6:=Ya (hg6.ext w (X5.o.alloc _) HX0.o.size);have B6:=Ya (HB.o.ext X6.o);have G6:=Ya hg6;have b6:=B6.o.at_ j hjl;have bf6:=B6.o.fz;rw[Hj.o]at b6;clear hg6)
   | ((refine Vm spE (.tmp 14) (.tmp 16) 31 (by rfl) (by rfl) (by rfl) (by rfl) G5.o.own (by rfl) L5.o (by rw[Zo,Hn.o];show n+1≤_;omega) (by show 24≤1000;omega) s5 ?_);intro A6 n6 c6 w6 hg6;have X6:=Ya (hg6.ext w X5.o HX0.o.size);have B6:=Ya (HB.o.ext X6.o);have G6:=Ya hg6;have b6:=B6.o.at_ j hjl;have bf6:=B6.o.fz;rw[Hj.o]at b6;clear hg6))
  all_goals
   go_wp2_with fail;refine Yu (v:=.tuple #[]) (by simp[results,Tryz.results46,go_sem]) rfl ⟨.slice A6 n6 c6,[]++l++[⟨fr,to_,z⟩],rfl,?_,?_,?_,?_⟩
   ·exact B6.o.set hjl _
   ·have h1:Vs w6 (fun k=>W0.heap.size≤k) (.slice A6 n6 c6) ([]++l++[⟨fr,to_,z⟩]):=G6.o.own.rd;have hbl:=HB.o.lt;have hws:=HX0.o.size;exact Rd.mono (Rd.chg h1 ((Chg.refl (· = b) w6).setCell (p:=⟨b,j,none⟩) (.inl rfl) _) (fun k hk e=>by omega)) fun k hk _=>.inr (by omega)
   ·exact .inl ⟨Zjg d1,by rw[Zo]⟩
   exact(X6.o.chg (· = b)).setCell (p:=⟨b,j,none⟩) (.inl rfl) _
 have d1:decide (0<z)=false:=Yi hz;go_enter Tryz.func46,Tryz.ntmps46;go_wp2_with fail;refine Yu (v:=.tuple #[]) (by simp[results,Tryz.results46,go_sem]) rfl ⟨u,l,rfl,?_,?_,.inr ⟨Zi5 d1,rfl⟩,(Chg.refl _ _).alloc _⟩
 ·rw[Gj Hj.o];exact HB.o.ext ((Yn _).alloc _)
 exact Rd.mono (HU.o.ext ((Yn _).alloc _)) fun k hk _=>.inl hk
section
structure Fh(w0 w:World)(B b s:Nat)(cs:List Value)(dv:Value)(dec:List MpS)(ev:Value)(exc:List Int):Prop where
 src:Src B w s
 chg:Chg (fun k=>k=b∨k=s) w0 w
 box:Xs w b ((cs.set 9 dv).set 10 ev)
 dOwn:Own mpE w w0.heap.size dv dec
 eOwn:Own Wh w w0.heap.size ev exc
 dis:∀ k,dv.ownBlock=some k→ev.ownBlock≠some k
 tos:∀ m∈dec,Xz w (fun k=>w0.heap.size≤k∧dv.ownBlock≠some k∧ev.ownBlock≠some k) m.1.tv m.1.to_∧m.1.to_.length≤2
 bs:b≠s
 bl:b<w0.heap.size
 sl:s<w0.heap.size
 bB:B≤b
section
variable {w0 w w':World} {B b s:Nat} {cs:List Value} {dv ev:Value} {dec:List MpS} {exc:List Int}
theorem Fh.to(h:Fh w0 w B b s cs dv dec ev exc)(t:Wa B s w w'):Fh w0 w' B b s cs dv dec ev exc :=
 have hsl:=h.sl
 ⟨t.src,h.chg.thenB t.chg (fun k _ e=>.inr e),h.box.chg t.chg h.bs,h.dOwn.chg t.chg (fun k hk e=>by have:=(h.dOwn.lt k hk).1;omega),h.eOwn.chg t.chg (fun k hk e=>by have:=(h.eOwn.lt k hk).1;omega),h.dis,
   fun m hm=>⟨(h.tos m hm).1.chg t.chg (fun k hk e=>by have:=hk.1;omega),(h.tos m hm).2⟩,h.bs,h.bl,h.sl,h.bB⟩
theorem Fh.ext(h:Fh w0 w B b s cs dv dec ev exc)(x:Ext w w'):Fh w0 w' B b s cs dv dec ev exc :=
 ⟨h.src.ext x,h.chg.trans (x.chg _),h.box.ext x,h.dOwn.ext x,h.eOwn.ext x,h.dis,fun m hm=>⟨(h.tos m hm).1.ext x,(h.tos m hm).2⟩,h.bs,h.bl,h.sl,h.bB⟩
theorem Fh.growE{A:Option Addr}{n c:Nat}{x:Int}{o:Obj}(h:Fh w0 w B b s cs dv dec ev exc)(h10:10<cs.length)(hg:Grew Wh (w.alloc o) w0.heap.size ev (exc++[x]) A n c w') :
 Fh w0 (w'.setCell ⟨b,10,none⟩ (.slice A n c)) B b s cs dv dec (.slice A n c) (exc++[x]):=by
 have hsl:=h.sl;have hbl:=h.bl;have hlt:∀ k,ev.ownBlock=some k→w0.heap.size≤k:=fun k hk=>(h.eOwn.lt k hk).1
 have hat:∀ k,(Value.slice A n c).ownBlock=some k→ev.ownBlock=some k∨k=(w.alloc o).heap.size:=fun k hk=>by
  rcases hg.at_ with h1|h1
  ·exact .inl (by rw[← h1];exact hk)
  rw[hk]at h1;exact .inr (Zlc h1)
 have hd:∀ k,dv.ownBlock=some k→¬ (Value.slice A n c).ownBlock=some k:=fun k h1 h2=>by
  rcases hat k h2 with h3|h3
  ·exact h.dis k h1 h3
  have:=(h.dOwn.lt k h1).2;simp at h3;omega
 refine⟨?_,?_,?_,?_,?_,?_,?_,h.bs,hbl,hsl,h.bB⟩
 ·exact(((h.src.alloc o).chg hg.chg (fun e=>by have:=hlt s e;omega) (fun k hk e=>by have:=hlt k e;have:=h.src.ge;omega))).setCell h.bB (by show b≠s;exact h.bs) _
 ·exact((h.chg.alloc o).thenB hg.chg (fun k hk e=>by have:=hlt k e;omega)).setCell (.inl (.inl rfl)) _
 ·have h1:=(h.box.ext ((Yn _).alloc o)).chg hg.chg (fun e=>by have:=hlt b e;omega);have h2:=h1.set (j:=10) (by simp;omega) (.slice A n c)
  rwa [Zhk]at h2
 ·exact(((h.dOwn.ext ((Yn _).alloc o)).chg hg.chg (fun k h1 h2=>h.dis k h1 h2))).far (fun e=>by have:=(h.dOwn.lt b e).1;omega) _
 ·exact hg.own.far (fun e=>by have:=(hg.own.lt b e).1;omega) _
 ·exact fun k h1 h2=>hd k h1 h2
 intro m hm;obtain⟨h1,h2⟩:=h.tos m hm;refine⟨?_,h2⟩;have h3:Xz (w.alloc o) (fun k=>(w0.heap.size≤k∧dv.ownBlock≠some k∧ev.ownBlock≠some k)∧k<w.heap.size) m.1.tv m.1.to_:=(Rd.mono h1 fun k hk hl=>⟨hk,hl⟩).ext ((Yn _).alloc o)
 have h4:=(h3.chg hg.chg (fun k hk e=>hk.1.2.2 e)).chg ((Chg.refl (· = b) w').setCell (p:=⟨b,10,none⟩) (.inl rfl) (.slice A n c)) (fun k hk e=>by have:=hk.1.1;omega);exact Rd.mono h4 fun k hk _=>⟨hk.1.1,hk.1.2.1,fun e=>by
  rcases hat k e with h5|h5
  ·exact hk.1.2.2 h5
  have:=hk.2;simp at h5;omega⟩
theorem Fh.growD{A:Option Addr}{n c:Nat}{m:MpS}{o:Obj}(h:Fh w0 w B b s cs dv dec ev exc)(h10:10<cs.length)(hm:Xz w (fun k=>w0.heap.size≤k∧dv.ownBlock≠some k∧ev.ownBlock≠some k) m.1.tv m.1.to_)(hm2:m.1.to_.length≤2)
 (hg:Grew mpE (w.alloc o) w0.heap.size dv (dec++[m]) A n c w'):Fh w0 (w'.setCell ⟨b,9,none⟩ (.slice A n c)) B b s cs (.slice A n c) (dec++[m]) ev exc:=by
 have hsl:=h.sl;have hbl:=h.bl;have hlt:∀ k,dv.ownBlock=some k→w0.heap.size≤k:=fun k hk=>(h.dOwn.lt k hk).1
 have hat:∀ k,(Value.slice A n c).ownBlock=some k→dv.ownBlock=some k∨k=(w.alloc o).heap.size:=fun k hk=>by
  rcases hg.at_ with h1|h1
  ·exact .inl (by rw[← h1];exact hk)
  rw[hk]at h1;exact .inr (Zlc h1)
 refine⟨?_,?_,?_,?_,?_,?_,?_,h.bs,hbl,hsl,h.bB⟩
 ·exact(((h.src.alloc o).chg hg.chg (fun e=>by have:=hlt s e;omega) (fun k hk e=>by have:=hlt k e;have:=h.src.ge;omega))).setCell h.bB (by show b≠s;exact h.bs) _
 ·exact((h.chg.alloc o).thenB hg.chg (fun k hk e=>by have:=hlt k e;omega)).setCell (.inl (.inl rfl)) _
 ·have h1:=(h.box.ext ((Yn _).alloc o)).chg hg.chg (fun e=>by have:=hlt b e;omega);have h2:=h1.set (j:=9) (by simp;omega) (.slice A n c)
  rwa [List.set_comm _ _ (by omega),Zhk]at h2
 ·exact hg.own.far (fun e=>by have:=(hg.own.lt b e).1;omega) _
 ·exact(((h.eOwn.ext ((Yn _).alloc o)).chg hg.chg (fun k h1 h2=>h.dis k h2 h1))).far (fun e=>by have:=(h.eOwn.lt b e).1;omega) _
 ·intro k h1 h2;rcases hat k h1 with h3|h3
  ·exact h.dis k h3 h2
  have:=(h.eOwn.lt k h2).2;simp at h3;omega
 intro q hq;have key:∀ {v:Value} {l:List Int},Xz w (fun k=>w0.heap.size≤k∧dv.ownBlock≠some k∧ev.ownBlock≠some k) v l→Xz (w'.setCell ⟨b,9,none⟩ (.slice A n c)) (fun k=>w0.heap.size≤k∧(Value.slice A n c).ownBlock≠some k∧ev.ownBlock≠some k) v l:=by
  intro v l h1;have h3:Xz (w.alloc o) (fun k=>(w0.heap.size≤k∧dv.ownBlock≠some k∧ev.ownBlock≠some k)∧k<w.heap.size) v l:=Xz.ext (Rd.mono h1 fun k hk hl=>⟨hk,hl⟩) ((Yn _).alloc o);have h4:=(h3.chg hg.chg (fun k hk e=>hk.1.2.1 e)).chg ((Chg.refl (· = b) w').setCell (p:=⟨b,9,none⟩) (.inl rfl) (.slice A n c)) (fun k hk e=>by have:=hk.1.1;omega);exact Rd.mono h4 fun k hk _=>⟨hk.1.1,fun e=>by
   rcases hat k e with h5|h5
   ·exact hk.1.2.1 h5
   have:=hk.2;simp at h5;omega,hk.1.2.2⟩
 rcases Zj.1 hq with hq|hq
 ·exact⟨key (h.tos q hq).1,(h.tos q hq).2⟩
 rw[Zi.1 hq];exact⟨key hm,hm2⟩
end
structure Nl(B s:Nat)(wI w:World)(mb:Nat)(fr:Int)(tv:Value)(to_:List Int):Prop where
 t:Wa B s wI w
 box:Xs w mb [.int .i64 fr,tv]
 own:Own Wh w wI.heap.size tv to_
 ne:tv.ownBlock≠some mb
 lo:wI.heap.size≤mb
 l1:1≤to_.length
 l2:to_.length≤2
 sl:s<wI.heap.size
section
variable {wI w w':World} {B s mb:Nat} {fr:Int} {tv:Value} {to_:List Int}
theorem Nl.next(h:Nl B s wI w mb fr tv to_)(t:Wa B s w w'):Nl B s wI w' mb fr tv to_ :=
 have hsl:=h.sl;have hlo:=h.lo
 ⟨h.t.trans t,h.box.chg t.chg (by omega),h.own.chg t.chg (fun k hk e=>by have:=(h.own.lt k hk).1;omega),h.ne,h.lo,h.l1,h.l2,h.sl⟩
theorem Nl.ext(h:Nl B s wI w mb fr tv to_)(x:Ext w w'):Nl B s wI w' mb fr tv to_:=⟨h.t.ext x,h.box.ext x,h.own.ext x,h.ne,h.lo,h.l1,h.l2,h.sl⟩
theorem Nl.ge(h:Nl B s wI w mb fr tv to_):B≤s:=h.t.src.ge
theorem Nl.put{g n c:Nat}{to_:List Int}(h:Nl B s wI w mb fr (.slice (some ⟨g,0,none⟩) n c) to_){j:Nat}(hj:j<to_.length)(x:Int):Nl B s wI (w.setCell ⟨g,j,none⟩ (.int .i64 x)) mb fr (.slice (some ⟨g,0,none⟩) n c) (to_.set j x) :=
 have hsl:=h.sl;have hg:=(h.own.lt g rfl).1;have hBs:=h.ge
 ⟨h.t.setCell hg (by show g≠s;omega) (by show B≤g;omega) _,h.box.far (fun e=>h.ne (by rw[e];rfl)) _,h.own.put rfl hj x rfl,h.ne,h.lo,by rw[Zf];exact h.l1,by rw[Zf];exact h.l2,h.sl⟩
theorem Nl.grow{w5:World}{o:Obj}{x:Int}{A:Option Addr}{n c:Nat}(h:Nl B s wI w mb fr tv to_)(h1:to_.length=1)(hg:Grew Wh (w.alloc o) wI.heap.size tv (to_++[x]) A n c w5):Nl B s wI (w5.setCell ⟨mb,1,none⟩ (.slice A n c)) mb fr (.slice A n c) (to_++[x]):=by
 have hsl:=h.sl;have hlo:=h.lo;have hBs:=h.ge;have hlt:∀ k,tv.ownBlock=some k→wI.heap.size≤k:=fun k hk=>(h.own.lt k hk).1
 have hne:(Value.slice A n c).ownBlock≠some mb:=fun e=>by
  rcases hg.at_ with h2|h2
  ·exact h.ne (by rw[← h2];exact e)
  rw[e]at h2;have:=h.box.lt;simp at h2;omega
 refine⟨⟨?_,?_⟩,?_,?_,hne,hlo,by simp,by simp[h1],hsl⟩
 ·exact((h.t.src.alloc o).chg hg.chg (fun e=>by have:=hlt s e;omega) (fun k hk e=>by have:=hlt k e;omega)).setCell (by show B≤mb;omega) (by show mb≠s;omega) _
 ·exact((h.t.chg.alloc o).thenB hg.chg (fun k hk e=>by have:=hlt k e;omega)).setCell (.inr hlo) _
 ·exact((h.box.ext ((Yn _).alloc o)).chg hg.chg (fun e=>h.ne e)).set (j:=1) (by simp) _
 exact hg.own.far hne _
end
end
structure OpF(w:World)(b:Nat)(o:Opn):Prop where
 c0:w.cell? ⟨b,0,none⟩=some (.int .i64 o.cl)
 c1:w.cell? ⟨b,1,none⟩=some (.int .i64 o.op)
 c2:w.cell? ⟨b,2,none⟩=some (.int .i64 o.ttl)
 c3:w.cell? ⟨b,3,none⟩=some o.nv
 c22:w.cell? ⟨b,22,none⟩=some (.int .i64 o.res.tick)
theorem K5.f{w:World}{b:Nat}{o:Opn}(h:K5 w b 0 o):OpF w b o :=
 ⟨(h.2 0 (by omega)),(h.2 1 (by omega)),(h.2 2 (by omega)),(h.2 3 (by omega)),(h.2 22 (by omega))⟩
theorem Zqj{w:World}{S:Nat→Prop}{v:Value}{l:List Nat}(h:Vh w S v l){j i:Nat}(hj:l[j]?=some i) :
 ∃ g o c,v=.slice (some ⟨g,o,none⟩) l.length c∧S g∧g<w.heap.size∧w.cell? ⟨g,o+j,none⟩=some (.int .i64 (i:Int)):=by
 obtain⟨g,o,c,h1,h2,h3,h4,h5,h6⟩:=Rd.at_ h (Zr.1 hj).1;exact⟨g,o,c,h1,h4,h5,h6 j _ (by rw[Zn,hj];rfl)⟩
end Go.Proofs.YtnbclgbicnpmnaaGreat
