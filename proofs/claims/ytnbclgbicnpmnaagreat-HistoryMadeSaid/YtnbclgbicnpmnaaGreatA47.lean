/- Lemmas of this claim. Conditions: as named. -/
import Derived.Deep.DeepCutAuto
import Derived.Deep.RegionHeld3
import Derived.WalkMore
import Derived.Test.YtnbclgbicnpmnaaGreatA02
import Derived.Test.YtnbclgbicnpmnaaGreatA03
import Derived.Test.YtnbclgbicnpmnaaGreatA07
import Derived.Test.YtnbclgbicnpmnaaGreatA15
import Derived.Test.YtnbclgbicnpmnaaGreatA29
import Derived.Test.YtnbclgbicnpmnaaGreatA44
import Derived.Test.YtnbclgbicnpmnaaGreatA45
import Derived.Test.YtnbclgbicnpmnaaGreatA46
namespace Go.Proofs.YtnbclgbicnpmnaaGreat
open Go.RowKit Go.Sort
set_option maxHeartbeats 0
set_option maxRecDepth 100000
set_option linter.all false
def Zru(w:World)(e:Ending)(w':World):Prop:=∃ cl cp:Int,1≤cl∧cl≤4∧1≤cp∧cp≤6∧e=.returned (.agg #[.int .i64 cl,.int .i64 cp])∧Ext w w'
theorem Zr3(a:Option Addr)(len cap:Nat)(w:World)(hrow:Kg w a len):Calls Tryz.prog 11 #[.slice a len cap] w (Zru w):=by
 obtain⟨A,hA⟩:=gnX (w.heap.size);have hx0:Ext w (w.alloc (.cells #[.int .i64 0,.int .i64 0] 37)):=(Yn w).alloc _;have hsrc:=Gy (cap:=cap) hrow hx0;have c0:((w.alloc (.cells #[.int .i64 0,.int .i64 0] 37)).alloc (.cells #[.slice a len cap,.int .i64 0] 165)).cell? ⟨w.heap.size,0,none⟩=some (.int .i64 0):=by go_simp
 have c1:((w.alloc (.cells #[.int .i64 0,.int .i64 0] 37)).alloc (.cells #[.slice a len cap,.int .i64 0] 165)).cell? ⟨w.heap.size,1,none⟩=some (.int .i64 0):=by go_simp
 have cf:∀ i,((w.alloc (.cells #[.int .i64 0,.int .i64 0] 37)).alloc (.cells #[.slice a len cap,.int .i64 0] 165)).frozen? ⟨w.heap.size,i,none⟩=false:=fun i=>by go_simp
 have hs:((w.alloc (.cells #[.int .i64 0,.int .i64 0] 37)).alloc (.cells #[.slice a len cap,.int .i64 0] 165)).heap.size=w.heap.size+2:=by simp
 have e1:(w.alloc (.cells #[.int .i64 0,.int .i64 0] 37)).heap.size=w.heap.size+1:=by simp
 rw[e1]at hsrc;have hx:Ext w ((w.alloc (.cells #[.int .i64 0,.int .i64 0] 37)).alloc (.cells #[.slice a len cap,.int .i64 0] 165)):=hx0.alloc _;have Hs:=Ya (And.intro hsrc (And.intro c0 (And.intro c1 (And.intro cf (And.intro hs hx)))));clear hsrc c0 c1 cf hs e1 hx hx0 hrow;go_enter Tryz.func11,Tryz.ntmps11;go_wp2_with fail;refine(Pi _ _ _ _).mono ?_;rintro e w0 ⟨rfl,rfl⟩;obtain⟨hsrc,c0,c1,cf,hs,hx⟩:=Hs.o;rw[hA]at c0 c1 cf hs hsrc;have Hx:=Ya hx;have Hsrc:=Ya hsrc;have HA:=Ya hA;obtain⟨W,hW⟩:=gnX ((w.alloc (.cells #[.int .i64 0,.int .i64 0] 37)).alloc (.cells #[.slice a len cap,.int .i64 0] 165));rw[hW]at c0 c1 cf hs Hx Hsrc;clear hx hsrc Hs;go_wp2_with fail;refine(next_any _ _ (by omega) (by omega) _ _ Hsrc.o).mono ?_;rintro e w2 ⟨x,hx,rfl,hsrc2,hc2,hz2⟩;have c0:=(hc2.cell (p:=⟨A,0,none⟩) (by simp only;omega) (by simp only;omega)).trans c0;have c1:=(hc2.cell (p:=⟨A,1,none⟩) (by simp only;omega) (by simp only;omega)).trans c1;have cf:=fun i=>(hc2.frozen (p:=⟨A,i,none⟩) (by simp only;omega) (by simp only;omega)).trans (cf i)
 have Hx2:=Ya (Hx.o.chg_new hc2 fun i hi=>by have:=HA.o;omega);have Hsrc2:=Ya hsrc2;have hz:A+2≤w2.heap.size:=by omega
 have p0:(0:Int)≤(x:Int):=by omega
 clear hsrc2 hc2 hz2 Hsrc Hx hW hs hA;go_wp2_with fail;refine(next_any _ _ (by omega) (by omega) _ _ Hsrc2.o).mono ?_;rintro e w3 ⟨y,hy,rfl,hsrc3,hc3,hz3⟩;have c0:=(hc3.cell (p:=⟨A,0,none⟩) (by simp only;omega) (by simp only;omega)).trans c0;have c1:=(hc3.cell (p:=⟨A,1,none⟩) (by simp only;omega) (by simp only;omega)).trans c1;have cf:=fun i=>(hc3.frozen (p:=⟨A,i,none⟩) (by simp only;omega) (by simp only;omega)).trans (cf i)
 have Hx3:=Ya (Hx2.o.chg_new hc3 fun i hi=>by have:=HA.o;omega);have p1:(0:Int)≤(y:Int):=by omega
 have hz:A+2≤w3.heap.size:=by omega
 clear hsrc3 hc3 hz3 Hsrc2 Hx2;go_wp2_with fail;refine Yu (v:=.agg #[.int .i64 (1+(x:Int)),.int .i64 (1+(y:Int))]) (by simp[results,Tryz.results11,go_sem, *]) rfl ⟨1+(x:Int),1+(y:Int),by omega,by omega,by omega,by omega,rfl,?_⟩;(repeat refine Yc ?_ (by have:=HA.o;simp only;omega) _)
 exact Hx3.o
theorem Zwe{cl cap:Int}(hc:V5 cl cap=0)(w:World):Calls Tryz.prog 29 #[.agg #[.int .i64 cl,.int .i64 cap]] w fun e w'=>∃ b,e=.returned (.tuple #[.pointer (some ⟨b,0,none⟩),.int .i64 0])∧Vj w' (fun _=>False) b cl cap []∧w.heap.size≤b∧Ext w w' :=
 (Zsx cl cap w).mono fun e w' h=>by
   rcases h with⟨h0,_⟩ | ⟨_,h1⟩
   ·rw[hc]at h0;simp at h0
   exact h1
theorem Zr2{cl cap:Int}(h1:1≤cl)(h2:cl≤4)(h3:1≤cap)(h4:cap≤6):V5 cl cap=0:=by unfold V5;rw[Zlk (by omega)]
theorem Zsv(a b:Opn)(w:World):Calls Tryz.prog 20 #[opV a,opV b] w fun e w'=>e=.returned (.bool (Di a b))∧Ext w w':=by
 unfold opV Di;cases h1:decide (0≤a.ans)<;>cases h2:decide (a.ans<b.begun)
 all_goals
  go_enter Tryz.func20,Tryz.ntmps20;go_wp2_with fail;go_ret;exact⟨rfl,((Yn w).alloc _).alloc _⟩
def Kn(os:List Opn):Nat→Int→Int
 | 0,_=>-1
 | i+1,c=>match os[i]? with|some o=>if o.cl=c then(i:Int)else Kn os i c|none=>Kn os i c
theorem Bv(os:List Opn){i:Nat}{o:Opn}(h:os[i]?=some o)(c:Int):Kn os (i+1) c=if o.cl=c then(i:Int)else Kn os i c:=by
 show(match os[i]? with|some o=>if o.cl=c then(i:Int)else Kn os i c|none=>Kn os i c)=_;rw[h]
theorem Ts(os:List Opn)(c:Int):∀ i,i≤os.length→(Kn os i c = -1∧Je os i c=none)∨∃ (k:Nat) (o:Opn),k<i∧Kn os i c=k∧os[k]?=some o∧Je os i c=some o.ans
 | 0,_=>.inl ⟨rfl,rfl⟩
 | i+1,hi=>by
  obtain⟨o,ho⟩:=geX (l:=os) (i:=i) (by omega);rw[Bv os ho,Ax os ho];by_cases hc:o.cl=c
  ·rw[Zlg hc,Zlg hc];exact .inr ⟨i,o,by omega,rfl,ho,rfl⟩
  rw[Zlk hc,Zlk hc];rcases Ts os c i (by omega)with h | ⟨k,p,h1,h2⟩
  ·exact .inl h
  exact .inr ⟨k,p,by omega,h2⟩
theorem K5.cl{w:World}{b p:Nat}{o:Opn}(h:K5 w b p o):w.cell? ⟨b,p+0,none⟩=some (.int .i64 o.cl):=h.2 0 (by omega)
theorem Ztm{cl:Int}{os:List Opn}{i:Nat}{o:Opn}(h:os[i]?=some o)(hc:Vn cl o=false):Au cl os i=false:=by
 unfold Au;rw[h];simp[hc]
theorem Ztk{cl:Int}{os:List Opn}{i:Nat}{o:Opn}(h:os[i]?=some o)(hd:o.dec≠-1)(hc:seenD os i o.dec=true):Au cl os i=false:=by
 unfold Au;rw[h];simp[hc,hd]
theorem Zqf{cl:Int}{os:List Opn}{i:Nat}{o:Opn}(h:os[i]?=some o)(hc:I0 os i o=true):Au cl os i=false:=by
 unfold Au;rw[h];simp[hc]
theorem Ztl{cl:Int}{os:List Opn}{i:Nat}{o:Opn}(h:os[i]?=some o)(hc:Vn cl o=true)(hb:I0 os i o=false)(hd:o.dec≠-1→seenD os i o.dec=false):Au cl os i = !Gf os i o:=by
 unfold Au;rw[h];by_cases hq:o.dec = -1
 ·simp[hc,hb,hq]
 simp[hc,hb,hd hq]
theorem Zw0{os:List Opn}{j:Nat}{p:Opn}(h:os[j]?=some p){d:Int}(h0:d≠-1→seenD os j d=false)(hne:(p.dec == -1)=true∨(p.dec==d)=false):d≠-1→seenD os (j+1) d=false:=by
 intro hd;cases h3:seenD os (j+1) d with
 | false=>rfl
 | true =>
  rcases(Og os h d).1 h3 with e|e
  ·rcases hne with hne|hne
   ·have h4:p.dec = -1:=by simpa using hne
    exact absurd (e.trans h4) hd
   have h4:p.dec≠d:=by simpa using hne
   exact absurd e.symm h4
  rw[h0 hd]at e;cases e
theorem Zsr{os:List Opn}{i j:Nat}{p:Opn}{d:Int}(h:os[j]?=some p)(hj:j<i)(hb:(p.dec==d)=true):seenD os i d=true:=by
 unfold seenD;rw[Zk7];exact⟨p,Zy (i:=j) (by rw[Zi9 hj];exact h),hb⟩
theorem Zqe{cl:Int}{os:List Opn}{i j:Nat}{o p:Opn}(h:os[i]?=some o)(hp:os[j]?=some p)(hj:j<i)(h1:(p.dec == -1)=false)(h2:(p.dec==o.dec)=true):Au cl os i=false :=
 Ztk h (fun e=>by rw[e]at h2;rw[h2]at h1;cases h1) (Zsr hp hj h2)
theorem Zwy{os:List Opn}{j:Nat}{p:Opn}(h:os[j]?=some p){c:Int}(hb:(p.cl==c)=true):Kn os (j+1) c=(j:Int):=by
 rw[Bv os h,Zlg (by simpa using hb)]
theorem Ca{os:List Opn}{j:Nat}{p:Opn}(h:os[j]?=some p){c:Int}(hb:(p.cl==c)=false):Kn os (j+1) c=Kn os j c:=by
 rw[Bv os h,Zlk (by simpa using hb)]
theorem Zqd{cl:Int}{os:List Opn}{i:Nat}{o:Opn}(h:os[i]?=some o)(hc:Vn cl o=true)(hd:o.dec≠-1→seenD os i o.dec=false):Au cl os i=(!I0 os i o&&!Gf os i o):=by
 cases hb:I0 os i o
 ·rw[Ztl h hc hb hd];simp
 rw[Zqf h hb];simp
theorem Zv3(os:List Opn)(o:Opn):I0 os 0 o=false:=by unfold I0;split<;>simp
theorem Zwv(os:List Opn)(o:Opn):Gf os 0 o=false:=rfl
theorem Zo1{os:List Opn}{i:Nat}{o p:Opn}(h0:0<i)(hp:os[i-1]?=some p):I0 os i o = !decide (p.begun<o.begun):=by
 unfold I0;rw[hp];cases h:decide (p.begun<o.begun)<;>simp_all
theorem Zww{os:List Opn}{i:Nat}{o:Opn}(h:Je os i o.cl=none):Gf os i o=false:=by unfold Gf;rw[h]
theorem Ou{os:List Opn}{i:Nat}{o:Opn}{a:Int}(h:Je os i o.cl=some a):Gf os i o=(a == -1||!decide (a<o.begun)):=by
 unfold Gf;rw[h];show(a == -1||decide (o.begun≤a))=(a == -1||!decide (a<o.begun));congr 1;by_cases h:a<o.begun
 ·rw[Yh h,Yi (by omega)];rfl
 rw[Yi h,Yh (by omega)];rfl
theorem Zt8{S:Nat→Prop}(cl cp:Int)(v:Value)(os:List Opn)(i:Nat)(w:World)(ho:Vk w S v os)(hi:i<os.length) :
 Calls Tryz.prog 92 #[.agg #[.int .i64 cl,.int .i64 cp],v,.int .i64 (i:Int)] w fun e w'=>e=.returned (.bool (Au cl os i))∧Ext w w':=by
 obtain⟨n,hnn⟩:=gnX (os.length);obtain⟨o,hoi⟩:∃ o,os[i]?=some o:=⟨os[i]'hi,Zz _⟩;obtain⟨g,p,C,rfl,hc1,hc2,_,hA,hN⟩:=ho.get hoi;rw[hnn]at hi hc1⊢;unfold maxLen at hc2;obtain⟨nA,nC,hnv⟩:=hN.shape;have hone:o.nv.oneCell'=true:=by rw[hnv];rfl
 have Ho:=Ya (ho.ext ((Yn w).alloc (.cells #[.int .i64 cl,.int .i64 cp] 37)));have HA1:=Ya (hA.ext ((Yn w).alloc (.cells #[.int .i64 cl,.int .i64 cp] 37)));have Hoi:=Ya hoi;have Hnn:=Ya hnn;have i0:(0:Int)≤(i:Int):=by omega
 have i1:(i:Int)<(n:Int):=by omega
 have i2:(i:Int)≤(C:Int):=by omega
 have i3:i≤C:=by omega
 clear ho hA hN hnv hoi hnn;go_enter Tryz.func92,Tryz.ntmps92;go_upto_region 1 with fail;obtain⟨W0,hW0⟩:=gnX (w.alloc (.cells #[.int .i64 cl,.int .i64 cp] 37));have hc0:=Zhe _ _ 0 #[.int .i64 cl,.int .i64 cp] 37 (0,0) (Zl8 w _);replace hc0:(w.alloc (.cells #[.int .i64 cl,.int .i64 cp] 37)).cell? ⟨w.heap.size,0,none⟩=some (.int .i64 cl):=hc0;rw[hW0]at hc0;have hx0:Ext w W0:=by rw[← hW0];exact(Yn w).alloc _
 have hs0:w.heap.size<W0.heap.size:=by rw[← hW0];simp
 rw[hW0]at Ho HA1⊢;obtain⟨fb,hfb⟩:=gnX (w.heap.size);rw[hfb]at hc0 hs0⊢;clear hW0 hfb;go_upto_region 2 with(first|(refine Xl HA1.o rfl ?_)|(refine Wo rfl rfl rfl hone ?_));have hNw:=K9 W0 o;have hx1:=(Yn W0).alloc (opO o);obtain⟨W1,hW1⟩:=gnX (W0.alloc (opO o));obtain⟨bo,hbo⟩:=gnX (W0.heap.size);rw[hW1,hbo]at hNw;rw[hW1]at hx1;rw[hW1,hbo];have q0:W1.cell? ⟨fb,0,none⟩=some (.int .i64 cl):=(hx1.cell (p:=⟨fb,0,none⟩) hs0).trans hc0;have HN:=Ya hNw;have HX1:=Ya (hx0.trans hx1);have Ho1:=Ya (Ho.o.ext hx1);have q1:=hNw.cl;have q2:=hNw.begun;have q3:=hNw.dec;have q4:=hNw.ans;rw[Zl0]at q1 q2 q3 q4;clear hc0 hx0 hs0 hNw hx1 hW1 hbo Ho HA1;simp only[Act.put,Zv,Zu,Zt];go_cut [58] (fun z wq=>z=.bool (!Vn cl o)∧Ext W1 wq);case first =>
  by_cases h1:o.cl<0
  ·have d1:decide (o.cl<0)=true:=Yh h1;have Hc:=Ya (show Vn cl o=false by simp[Vn,h1]);clear h1;(go_wp2_with fail;go_meet;exact⟨by rw[Hc.o];rfl,Yn _⟩)
  have d1:decide (o.cl<0)=false:=Yi h1;by_cases h2:cl≤o.cl
  ·have d2:decide (cl≤o.cl)=true:=Yh h2;have Hc:=Ya (show Vn cl o=false by simp[Vn,h2]);clear h1 h2;(go_wp2_with fail;go_meet;exact⟨by rw[Hc.o];rfl,Yn _⟩)
  have d2:decide (cl≤o.cl)=false:=Yi h2;by_cases h3:o.begun<0
  ·have d3:decide (o.begun<0)=true:=Yh h3;have Hc:=Ya (show Vn cl o=false by simp[Vn,h3]);clear h1 h2 h3;(go_wp2_with fail;go_meet;exact⟨by rw[Hc.o];rfl,Yn _⟩)
  have d3:decide (o.begun<0)=false:=Yi h3;by_cases h4:o.dec = -1
  ·have d4:(o.dec == -1)=true:=by simp[h4]
   have d4n:(o.dec != -1)=false:=by simp[h4]
   by_cases h5:o.ans = -1
   ·have d5:(o.ans == -1)=true:=by simp[h5]
    have d5n:(o.ans != -1)=false:=by simp[h5]
    have Hc:=Ya (show Vn cl o=true by simp[Vn,h1,h2,h3,h4,h5]<;>omega);clear h1 h2 h3 h4 h5;(go_wp2_with fail;go_meet;exact⟨by rw[Hc.o];rfl,Yn _⟩)
   have d5:(o.ans == -1)=false:=by simp[h5]
   have d5n:(o.ans != -1)=true:=by simp[h5]
   have Hc:=Ya (show Vn cl o=false by simp[Vn,h4,h5]);clear h1 h2 h3 h4 h5;(go_wp2_with fail;go_meet;exact⟨by rw[Hc.o];rfl,Yn _⟩)
  have d4:(o.dec == -1)=false:=by simp[h4]
  have d4n:(o.dec != -1)=true:=by simp[h4]
  by_cases h5:o.dec≤o.begun
  ·have d5:decide (o.dec≤o.begun)=true:=Yh h5;have Hc:=Ya (show Vn cl o=false by simp[Vn,h4]<;>omega);clear h1 h2 h3 h4 h5;(go_wp2_with fail;go_meet;exact⟨by rw[Hc.o];rfl,Yn _⟩)
  have d5:decide (o.dec≤o.begun)=false:=Yi h5;by_cases h6:o.ans = -1
  ·have d6:(o.ans == -1)=true:=by simp[h6]
   have d6n:(o.ans != -1)=false:=by simp[h6]
   have Hc:=Ya (show Vn cl o=true by simp[Vn,h1,h2,h3,h4,h6]<;>omega);clear h1 h2 h3 h4 h5 h6;(go_wp2_with fail;go_meet;exact⟨by rw[Hc.o];rfl,Yn _⟩)
  have d6:(o.ans == -1)=false:=by simp[h6]
  have d6n:(o.ans != -1)=true:=by simp[h6]
  by_cases h7:o.ans≤o.dec
  ·have d7:decide (o.ans≤o.dec)=true:=Yh h7;have Hc:=Ya (show Vn cl o=false by simp[Vn,h4,h6]<;>omega);clear h1 h2 h3 h4 h5 h6 h7;(go_wp2_with fail;go_meet;exact⟨by rw[Hc.o];rfl,Yn _⟩)
  have d7:decide (o.ans≤o.dec)=false:=Yi h7;have Hc:=Ya (show Vn cl o=true by simp[Vn,h1,h2,h3,h4,h6]<;>omega);clear h1 h2 h3 h4 h5 h6 h7;(go_wp2_with fail;go_meet;exact⟨by rw[Hc.o];rfl,Yn _⟩)
 obtain⟨rfl,hxq⟩:=hcut;rename World=>wq
 have HXq:=Ya hxq;have HNq:=Ya (HN.o.ext hxq);have Hoq:=Ya (Ho1.o.ext hxq);have Hw:=Ya (HX1.o.trans hxq);clear hxq q0 q1 q2 q3 q4 HN Ho1;obtain⟨zz,hzz⟩:=gnX ((!Vn cl o));rw[hzz];cases zz
 rotate_left
 ·have Hc:=Ya (show Vn cl o=false by simpa using hzz);clear hzz;go_wp2_with fail;go_ret;exact⟨by rw[Ztm Hoi.o Hc.o];rfl,Hw.o⟩
 have Hc:=Ya (show Vn cl o=true by simpa using hzz);clear hzz;go_wp2_with fail;go_loopw [63,8] (fun x y wr=>∃ j:Nat,j≤i∧x=.int .i64 (j:Int)∧y=.int .i64 (Kn os j o.cl)∧(o.dec≠-1→seenD os j o.dec=false)∧Ext wq wr) (fun x _ _=>i-(intOf x).toNat);case atStart=>exact⟨0,by omega,rfl,rfl,fun _=>rfl,Yn _⟩
 obtain⟨j,hj,rfl,rfl,hse,hx⟩:=hrel;rename World=>wr
 have Hse:=Ya hse;have Hx:=Ya hx;have HNr:=Ya (HNq.o.ext hx);clear hse hx;by_cases hlt:j<i
 ·obtain⟨hd_j,i0_j,i1_j⟩:=LTl j i (by omega);obtain⟨p2,hp2⟩:=geX (l:=os) (i:=j) (by rw[Hnn.o];omega);obtain⟨g2,a2,c2,hv2,_,_,_,hA2,hN2⟩:=(Hoq.o.ext Hx.o).get hp2;rw[Hnn.o]at hv2;simp only[Yg,Yf,Zld,Zl2,Zks]at hv2;obtain⟨⟨rfl,rfl⟩,rfl⟩:=hv2;obtain⟨nA2,nC2,hnv2⟩:=hN2.shape;have hone2:p2.nv.oneCell'=true:=by rw[hnv2];rfl
  have HA2:=Ya hA2;have Hp2:=Ya hp2;clear hA2 hN2 hnv2 hp2;go_upto_region 8 with(first|(refine Xl HA2.o rfl ?_)|(refine Wo rfl rfl rfl hone2 ?_));have hNw:=K9 wr p2;have hx1:=(Yn wr).alloc (opO p2);obtain⟨W2,hW2⟩:=gnX (wr.alloc (opO p2));obtain⟨b2,hb2⟩:=gnX (wr.heap.size);rw[hW2,hb2]at hNw;rw[hW2]at hx1;rw[hW2,hb2];have hN1:=HNr.o.ext hx1;have q1:=hN1.cl;have q3:=hN1.dec;have r1:=hNw.cl;have r3:=hNw.dec;rw[Zl0]at q1 q3 r1 r3;have X2:=Ya (Hx.o.trans hx1);clear hW2 hb2 hNw hx1 hN1;cases b1:(p2.dec == -1)<;>cases b2:(p2.dec==o.dec)<;>cases b3:(p2.cl==o.cl)
  all_goals
   have b1n:(p2.dec != -1) = !(p2.dec == -1):=rfl;rw[b1]at b1n;have B1:=Ya b1;have B2:=Ya b2;have B3:=Ya b3;go_wp2_with fail
   first
   | (go_roundw
      case rel=>exact⟨j+1,by omega,by go_num,(by first|rw[Zwy Hp2.o B3.o]|rw[Ca Hp2.o B3.o]),Zw0 Hp2.o Hse.o (by first|exact .inl B1.o|exact .inr B2.o),X2.o⟩
      (simp[intOf];omega))
   | (go_ret
      exact⟨by rw[Zqe Hoi.o Hp2.o hlt B1.o B2.o];rfl,Hw.o.trans X2.o⟩)
 have hd_j:=GEl j i (by omega);obtain rfl:j=i:=by omega
 have Hok2:=Ya (Zqd Hoi.o Hc.o Hse.o);have q12:=HNr.o.begun;rw[Zl0]at q12;have l12:=lat q12;clear q12;rcases Zkq j with h0|h0
 ·subst h0;have li:Kn os 0 o.cl = -1:=rfl;rw[li];go_upto_region 13 with fail;have hun:=Yd;refine Y0 (by kernel_rfl) (by kernel_rfl) ?_;repeat((with_reducible refine Yw ?_);intro K hK;go_simp;(with_reducible refine hK _ ?_);clear hK K)
  (with_reducible refine Yv ?_)
  intro w9 hy9;clear hun;try simp only[Ye]
  go_wp2_with fail;go_ret;exact⟨Q2 (by rw[Hok2.o,Zv3,Zwv];rfl),(Hw.o.trans Hx.o).trans hy9⟩
 have LI:=Ya (Ts os o.cl j (by rw[Hnn.o];omega));obtain⟨p1,hp1⟩:=geX (l:=os) (i:=j-1) (by rw[Hnn.o];omega);obtain⟨g1,a1,c1',hv1,_,_,_,hA1,_⟩:=(Hoq.o.ext Hx.o).get hp1;rw[Hnn.o]at hv1;simp only[Yg,Yf,Zld,Zl2,Zks]at hv1;obtain⟨⟨rfl,rfl⟩,rfl⟩:=hv1;have l1:=lat hA1.begun;have u0:((j:Int)==0)=false:=by simp;omega
 have u1:=Vu j h0 (by omega);have u2:(0:Int)≤((j-1:Nat):Int):=by omega
 have u3:((j-1:Nat):Int)<(n:Int):=by omega
 have Hbg:=Ya (Zo1 (o:=o) h0 hp1);clear hA1 hp1 h0;cases hb:decide (p1.begun<o.begun)
 ·have Hb:=Ya hb;go_upto_region 13 with fail;have hun:=Yd;refine Y0 (by kernel_rfl) (by kernel_rfl) ?_;repeat((with_reducible refine Yw ?_);intro K hK;go_simp;(with_reducible refine hK _ ?_);clear hK K)
  (with_reducible refine Yv ?_)
  intro w9 hy9;clear hun;try simp only[Ye]
  go_wp2_with fail;go_ret;exact⟨Q2 (by rw[Hok2.o,Hbg.o,Hb.o];rfl),(Hw.o.trans Hx.o).trans hy9⟩
 have Hb:=Ya hb;rcases LI.o with⟨li,la⟩ | ⟨k,qo,hk,li,hqo,la⟩
 ·rw[li];have La:=Ya la;clear la li;go_upto_region 13 with fail;have hun:=Yd;refine Y0 (by kernel_rfl) (by kernel_rfl) ?_;repeat((with_reducible refine Yw ?_);intro K hK;go_simp;(with_reducible refine hK _ ?_);clear hK K)
  (with_reducible refine Yv ?_)
  intro w9 hy9;clear hun;try simp only[Ye]
  go_wp2_with fail;go_ret;exact⟨Q2 (by rw[Hok2.o,Hbg.o,Hb.o,Zww La.o];rfl),(Hw.o.trans Hx.o).trans hy9⟩
 rw[li];obtain⟨g3,a3,c3',hv3,_,_,_,hA3,_⟩:=(Hoq.o.ext Hx.o).get hqo;rw[Hnn.o]at hv3;simp only[Yg,Yf,Zld,Zl2,Zks]at hv3;obtain⟨⟨rfl,rfl⟩,rfl⟩:=hv3;have l3:=lat hA3.ans;have v0:decide ((k:Int)<0)=false:=Yi (by omega);have v1:(0:Int)≤(k:Int):=by omega
 have v2:(k:Int)<(n:Int):=by omega
 have La:=Ya la;clear la li hqo hA3 hk;cases ha:(qo.ans == -1)
 ·have han:(qo.ans != -1)=true:=by rw[bne,ha];rfl
  have Ha:=Ya ha;go_upto_region 13 with fail;have hun:=Yd;refine Y0 (by kernel_rfl) (by kernel_rfl) ?_;repeat((with_reducible refine Yw ?_);intro K hK;go_simp;(with_reducible refine hK _ ?_);clear hK K)
  (with_reducible refine Yv ?_)
  intro w9 hy9;clear hun;try simp only[Ye]
  go_wp2_with fail;go_ret;exact⟨Q2 (by rw[Hok2.o,Hbg.o,Hb.o,Ou La.o,Ha.o];simp),(Hw.o.trans Hx.o).trans hy9⟩
 have han:(qo.ans != -1)=false:=by rw[bne,ha];rfl
 have Ha:=Ya ha;go_upto_region 13 with fail;have hun:=Yd;refine Y0 (by kernel_rfl) (by kernel_rfl) ?_;repeat((with_reducible refine Yw ?_);intro K hK;go_simp;(with_reducible refine hK _ ?_);clear hK K)
 (with_reducible refine Yv ?_)
 intro w9 hy9;clear hun;try simp only[Ye]
 go_wp2_with fail;go_ret;exact⟨Q2 (by rw[Hok2.o,Hbg.o,Hb.o,Ou La.o,Ha.o];rfl),(Hw.o.trans Hx.o).trans hy9⟩
theorem Nn{ops:Array Oper}{S:World→Prop}{Q:Act→Prop}{l:List Oper}{dst:Option Nat}{x:Operand}{t:TypeId}{pos:String}{af:Array Edge}{gd:Option (Nat×Bool)}{a:Act}{b p:Nat}{r:Ad}
 (hw:Region.wanted {dst:=dst,op:=.load 53 x,type:=t,pos:=pos,after:=af,guard:=gd} (yielded ops a.tmps)=true) (hx:a.eval x=.pointer (some ⟨b,p,none⟩)) (hS:∀ w',S w'→w'.rangeAt b p (Bp r))
 (hK:Jb Tryz.prog ops S Q l (a.put dst (Wu r))):Jb Tryz.prog ops S Q ({dst:=dst,op:=.load 53 x,type:=t,pos:=pos,after:=af,guard:=gd}::l) a:=by
 refine⟨Wu r,.inl ⟨hw,fun w' hc=>?_⟩,hK⟩;unfold execOp;simp only[hx,Zjt,Td (hS w' hc),Zki,Zjs]
theorem Rp{ops:Array Oper}{S:World→Prop}{Q:Act→Prop}{l:List Oper}{dst:Option Nat}{x y:Operand}{t s:TypeId}{pos:String}{af:Array Edge}{gd:Option (Nat×Bool)}{a:Act}{r1 r2:Ad}
 (hw:Region.wanted {dst:=dst,op:=.binOp .neq 53 x y s,type:=t,pos:=pos,after:=af,guard:=gd} (yielded ops a.tmps)=true) (hx:a.eval x=Wu r1) (hy:a.eval y=Wu r2)
 (hK:Jb Tryz.prog ops S Q l (a.put dst (.bool (!Jd r1 r2)))):Jb Tryz.prog ops S Q ({dst:=dst,op:=.binOp .neq 53 x y s,type:=t,pos:=pos,after:=af,guard:=gd}::l) a:=by
 refine⟨_,.inl ⟨hw,fun w' _=>?_⟩,hK⟩;unfold execOp;simp only[hx,hy,Zjt,Dr,J7,Zki,Zjs]
def Tr(st:RSt):Int:=if st.2.2=true then -9223372036854775808 else st.2.1
theorem Iw{st:RSt}{o:Opn}(hb:o.bad.e=0)(hf : -9223372036854775808≤o.res.tick):o.res.tick<Kj st o↔o.res.tick<Tr st:=by
 unfold Kj Tr;cases h:st.2.2
 ·simp
 simp[hb];omega
theorem step_bad(cl cp:Int)(st:RSt){o:Opn}(hb:o.bad.e≠0):Qv cl cp st o=(if Jd o.res o.bad then 0 else 26,st):=by
 obtain⟨a,b,c⟩:=st;unfold Qv Kx Kj Qm;simp[hb]
theorem Zsi(cl cp:Int)(st:RSt){o:Opn}(hb:o.bad.e=0)(hf : -9223372036854775808≤o.res.tick)(ht:o.res.tick<Tr st):(Qv cl cp st o).1=3:=by
 have h1:=(Iw (st:=st) hb hf).2 ht;unfold Qv Kx;rw[Zlk (by omega),Zlg h1]
theorem Zn5(cl cp:Int)(st:RSt){o:Opn}(hb:o.bad.e=0)(hf : -9223372036854775808≤o.res.tick)(ht:¬ o.res.tick<Tr st):Qv cl cp st o=(if Jd (doR cl cp st.1 o.cl o.op o.ttl o.res.tick o.ns) o.res then 0 else 26,(doL cl cp st.1 o.cl o.op o.ttl o.res.tick o.ns,o.res.tick,false)):=by
 have h1:=fun h=>ht ((Iw (st:=st) hb hf).1 h)
 have h2:Qm st o=false:=by unfold Qm;cases h:st.2.2<;>simp[hb]
 unfold Qv Kx;rw[Zlk (by omega),Zlk h1,h2]
structure Ic(w:World)(b:Nat)(cl cp:Int)(os:List Opn)(ord:List Nat)(k:Nat)(st:RSt)(wr:World):Prop where
 rep:Vj wr (fun j=>b<j) b cl cp st.1
 is:st=stO cl cp os (ord.take k) ([],0,true)
 few:st.1.length≤16*k
 oks:∀ j,j<k→∀ i o,ord[j]?=some i→os[i]?=some o→(Qv cl cp (stO cl cp os (ord.take j) ([],0,true)) o).1=0
 ext:Ext w wr
 lo:w.heap.size≤b
theorem Ic.next{w wr w':World}{b:Nat}{cl cp:Int}{os:List Opn}{ord:List Nat}{k i:Nat}{st st':RSt}{o:Opn}(h:Ic w b cl cp os ord k st wr)(hi:ord[k]?=some i)(ho:os[i]?=some o)(hs:Qv cl cp st o=(0,st'))(hr:Vj w' (fun j=>b<j) b cl cp st'.1)(hx:Ext w w'):Ic w b cl cp os ord (k+1) st' w' where
 rep:=hr
 is:=by rw[Rs hi ho,← h.is,hs]
 few:=by have h1:=Rr (cl:=cl) (cp:=cp) (st:=st) (o:=o);rw[hs]at h1;have h2:=h.few;simp only at h1;omega
 oks:=fun j hj i' o' h1 h2=>by
  by_cases ej:j=k
  ·subst ej;have e1:i'=i:=by rw[hi]at h1;exact(Zlc h1).symm
   subst e1;have e2:o'=o:=by rw[ho]at h2;exact(Zlc h2).symm
   subst e2;rw[← h.is,hs]
  exact h.oks j (by omega) i' o' h1 h2
 ext:=hx
 lo:=h.lo
def Zvh(cl cp:Int)(os:List Opn)(ord:List Nat)(w:World)(e:Ending)(w':World):Prop :=
 Ext w w'∧((Ii cl cp os ord ([],0,true)=none∧e=.returned (.tuple #[.int .i64 (-1),.int .i64 0])) ∨
  ∃ (k i:Nat) (c:Int),Ii cl cp os ord ([],0,true)=some (i,c)∧ord[k]?=some i∧c≠0∧e=.returned (.tuple #[.int .i64 (k:Int),.int .i64 c]))
theorem Ic.hit{w wr w':World}{b:Nat}{cl cp:Int}{os:List Opn}{ord:List Nat}{k i:Nat}{st:RSt}{o:Opn}{c:Int}{e:Ending}(h:Ic w b cl cp os ord k st wr)(hm:∀ i∈ord,∃ o,os[i]?=some o)(hi:ord[k]?=some i)(ho:os[i]?=some o)(hc:(Qv cl cp st o).1=c)(h0:c≠0)(he:e=.returned (.tuple #[.int .i64 (k:Int),.int .i64 c]))(hx:Ext w w'):Zvh cl cp os ord w e w':=by
 have h1:=Rv h.oks hm hi ho (by rw[← h.is,hc];exact h0);rw[← h.is,hc]at h1;exact⟨hx,.inr ⟨k,i,c,h1,hi,h0,he⟩⟩
theorem Zn1{S T:Nat→Prop}(cl cp:Int)(vo vl:Value)(os:List Opn)(ord:List Nat)(w:World)(hc:V5 cl cp=0)(ho:Vk w S vo os)(hf:∀ o∈os,-9223372036854775808≤o.res.tick)(hl:Vh w T vl ord)(hlen:ord.length≤4096)(hm:∀ i∈ord,∃ o,os[i]?=some o) :
 Calls Tryz.prog 93 #[.agg #[.int .i64 cl,.int .i64 cp],vo,vl] w (Zvh cl cp os ord w):=by
 obtain⟨A,C,rfl⟩:=ho.shape;obtain⟨A2,C2,rfl⟩:=hl.shape;have X0:=Ya ((Yn w).alloc (.cells #[.int .i64 cl,.int .i64 cp] 37));obtain⟨n,hnn⟩:=gnX (os.length);obtain⟨q,hqq⟩:=gnX (ord.length);have Hnn:=Ya hnn;have Hqq:=Ya hqq;have Ho:=Ya (ho.mono (T:=fun k=>k<w.heap.size) fun k _ hk=>hk);have Hl:=Ya hl;have Hf:=Ya hf;have Hm:=Ya hm;rw[hnn];rw[hqq]at hlen⊢;clear hnn hqq ho hl hf hm;go_enter Tryz.func93,Tryz.ntmps93;go_wp2_with fail;refine(Zwe hc _).mono ?_;rintro x w1 ⟨b,rfl,hR,hlo,hx1⟩;have hI:Ic w b cl cp os ord 0 ([],0,true) w1:=⟨hR.low (fun _ h=>h.elim) (fun h=>by omega),rfl,by simp,fun j hj=>by omega,X0.o.trans hx1,Zlh X0.o.size hlo⟩;have HI:=Ya hI;clear hR hlo hx1 hI;go_wp2_with fail;go_loopw [21,10] (fun o u wr=>∃ (k:Nat) (st:RSt),k≤q∧o=.int .i64 (k:Int)∧u=.int .i64 (Tr st)∧Ic w b cl cp os ord k st wr) (fun o _ _=>q-(intOf o).toNat);case atStart=>exact⟨0,_,by omega,rfl,rfl,HI.o⟩
 obtain⟨k,st,hkq,rfl,rfl,hI⟩:=hrel;rename World=>wr
 have HI2:=Ya hI;clear hI HI;by_cases hkl:k<q
 ·obtain⟨hd_k,i0_k,i1_k⟩:=LTl k q (by omega);obtain⟨i,hi⟩:=geX (l:=ord) (i:=k) (by rw[Hqq.o];exact hkl);obtain⟨o,hoi⟩:=Hm.o i (Zy hi);have xw:=HI2.o.ext;obtain⟨g2,p2,c2',hv2,l1,l2,_,hg2,hcell⟩:=(show Vh wr T _ ord from Rd.ext Hl.o xw).get hi;obtain⟨g,p,c,hv,hc1,hc2,hgS,hA,hN⟩:=(Ho.o.ext xw).get hoi;simp only[Yg]at hv hv2;obtain⟨rfl,_,rfl⟩:=hv;obtain⟨rfl,_,rfl⟩:=hv2;rw[Hnn.o]at hc1;rw[Hqq.o]at l1;have hin:i<n:=by rw[← Hnn.o];exact(Zr.1 hoi).1
  have q1:(0:Int)≤(i:Int):=by omega
  have q2:(i:Int)<(n:Int):=by omega
  have hC:C≤9223372036854775807:=by unfold maxLen at hc2;omega
  have hC2:C2≤9223372036854775807:=by unfold maxLen at l2;omega
  obtain⟨nA,nC,hnv⟩:=hN.shape;have hone:o.nv.oneCell'=true:=by rw[hnv];rfl
  have Hi:=Ya hi;have Hoi:=Ya hoi;have HA:=Ya hA;have HN:=Ya hN;have Hft:=Ya (Hf.o o (Zy hoi));clear hi hoi hA hN hnv;go_upto_region 7 with(first|(refine Xl HA.o rfl ?_)|(refine Wo rfl rfl rfl hone ?_));have hN1:=K9 wr o;have xA:Ext wr (wr.alloc (opO o)):=(Yn wr).alloc _;obtain⟨e,he⟩:=gnX (wr.heap.size);obtain⟨W1,hW1⟩:=gnX (wr.alloc (opO o));rw[hW1]at hN1 xA⊢;rw[he]at hN1⊢;have hbe:b<e:=by rw[← he];exact HI2.o.rep.lt
  have HN1:=Ya hN1;have XA:=Ya (xw.trans xA);have MA:=Ya (HI2.o.rep.ext xA);have NA:=Ya (Rd.ext HN.o xA);have kr:W1.rangeAt e 15 (Bp o.res):=by have:=hN1.resR;rwa [Zl0]at this
  have kb:W1.rangeAt e 4 (Bp o.bad):=by have:=hN1.badR;rwa [Zl0]at this
  have f4:W1.cell? ⟨e,4,none⟩=some (.int .i64 o.bad.e):=hN1.2 4 (by omega);have f22:W1.cell? ⟨e,22,none⟩=some (.int .i64 o.res.tick):=hN1.2 22 (by omega);clear hN1 xA hW1 he hcell xw;by_cases hb:o.bad.e=0
  ·have hbq:(o.bad.e !=0)=false:=by simp[hb]
   have Hb:=Ya hb;clear hb;by_cases ht:o.res.tick<Tr st
   ·have hd:decide (o.res.tick<Tr st)=true:=Yh ht;have HS:=Ya (Zsi cl cp st Hb.o Hft.o ht);clear ht;go_wp2_with fail;go_ret2;exact HI2.o.hit Hm.o Hi.o Hoi.o HS.o (by decide) rfl XA.o
   have hd:decide (o.res.tick<Tr st)=false:=Yi ht;have HS:=Ya (Zn5 cl cp st Hb.o Hft.o ht);clear ht;have hfew:=HI2.o.few;go_upto_region 13 with fail;have hel:e<W1.heap.size:=HN1.o.1;have HE4:=Ya (show ¬ e=b by omega);refine Zlb (S:=fun w'=>OpF w' e o∧w'.rangeAt e 15 (Bp o.res)) (by kernel_rfl) ?_ (fun hHeld=>?_)
   ·refine⟨(HN1.o.ext (Yn _).drew).f,?_⟩;have:=(HN1.o.ext (Yn _).drew).resR
    rwa [Zl0]at this
   have MD:=Ya (MA.o.ext (Yn W1).drew);have OD:=Ya (HN1.o.ext (Yn W1).drew);have ND:=Ya (Rd.ext NA.o (Yn W1).drew);have XD:=Ya (XA.o.drew);obtain⟨Wd,hWd⟩:=gnX (W1.drew);rw[hWd]at MD OD ND XD hHeld;rw[hWd];clear hWd MA HN1 NA XA kr kb f4 f22 hel;refine Xy [0,1,2,3,4,5,6,7,8,9,10,11,13,14] 2 (by rfl) (by kernel_rfl) (by kernel_rfl) (fun _ _ d _ _ h=>by cases d<;>exact h) hHeld ?_;simp only[Z1,Z2,Z3,Zw,Zx];repeat(first|((with_reducible refine Nn (by kernel_rfl) rfl (fun _ h=>h.2) ?_);(try simp only[Act.put,Zv,Zu,Zt]))|(refine Xw (v:=?_) (by kernel_rfl) ?_ ?_;rotate_left;(focus((intro wT hST;obtain⟨⟨h0,h1,h2,h3,h22⟩,hR⟩:=hST;go_simp);(first|done|(with_reducible rfl))));(try simp only[Act.put,Zv,Zu,Zt])))
   refine Xv ?_;clear hHeld;refine Zli (rs:=[12]) (by kernel_rfl) (by simp) ?_;refine Yt (o:=_) rfl (fun K hK=>?_) Ys;go_simp;refine(Zq8 (S:=fun j=>j<w.heap.size) b cl cp o.cl o.op o.ttl o.res.tick st.1 o.nv o.ns _ MD.o (by omega) ND.o (by have:=HI2.o.lo;omega)).mono ?_;rintro x w4 ⟨rfl,hM4,hC4⟩;have M4:=Ya hM4;have O4:=Ya (OD.o.chg hC4 HE4.o);have X4:=Ya (XD.o.chg_new hC4 (fun j hj=>by rw[hj];exact HI2.o.lo));obtain⟨R,hR⟩:=gnX (doR cl cp st.1 o.cl o.op o.ttl o.res.tick o.ns);have HS2:=HS.o;rw[hR]at HS2⊢;have HS:=Ya HS2;clear hM4 hC4 hR HS2 MD OD ND XD;refine hK.out _ _ ?_ (fun hHeld=>?_)
   ·refine⟨O4.o.f,?_⟩;have:=O4.o.resR
    rwa [Zl0]at this
   clear hK K;try simp only[Act.put,Zv,Zu,Zt]
   refine Xy [15] 0 (by rfl) (by kernel_rfl) (by kernel_rfl) (fun _ _ d _ _ h=>by cases d<;>exact h) hHeld ?_;simp only[Z1,Z2,Z3,Zw,Zx];refine Rp (by kernel_rfl) rfl rfl ?_;(try simp only[Act.put,Zv,Zu,Zt])
   refine Xv ?_;clear hHeld;refine Zl6 (by kernel_rfl) ?_ _;cases hq:Jd R o.res with
   | false =>
    have HS:=Ya (show(Qv cl cp st o).1=26 by rw[HS.o,hq];rfl);go_wp2_with fail;go_ret2;exact HI2.o.hit Hm.o Hi.o Hoi.o HS.o (by decide) rfl X4.o
   | true =>
    have HS:=Ya (show Qv cl cp st o=(0,(doL cl cp st.1 o.cl o.op o.ttl o.res.tick o.ns,o.res.tick,false)) by rw[HS.o,hq];rfl);go_wp2_with fail;go_roundw;case rel=>exact⟨k+1,_,by omega,by go_num,rfl,HI2.o.next Hi.o Hoi.o HS.o M4.o X4.o⟩
    (simp[intOf];omega)
  have hbq:(o.bad.e !=0)=true:=by simp[hb]
  cases hq:Jd o.res o.bad with
  | false =>
   have HS:=Ya (show(Qv cl cp st o).1=26 by rw[step_bad cl cp st hb,hq];rfl);clear hb;go_wp2_with (first|(refine Wc kr rfl ?_)|(refine Wc kb rfl ?_)|(refine Q9 rfl rfl ?_;rw[hq]));go_ret2;exact HI2.o.hit Hm.o Hi.o Hoi.o HS.o (by decide) rfl XA.o
  | true =>
   have HS:=Ya (show Qv cl cp st o=(0,st) by rw[step_bad cl cp st hb,hq];rfl);clear hb;go_wp2_with (first|(refine Wc kr rfl ?_)|(refine Wc kb rfl ?_)|(refine Q9 rfl rfl ?_;rw[hq]));go_roundw;case rel=>exact⟨k+1,st,by omega,by go_num,rfl,HI2.o.next Hi.o Hoi.o HS.o MA.o XA.o⟩
   (simp[intOf];omega)
 have hd_k:=GEl k q (by omega);have HE:=Ya (show Ii cl cp os ord ([],0,true)=none from Rw (fun j hj=>HI2.o.oks j (by rw[Hqq.o]at hj;omega)) Hm.o);go_wp2_with fail;go_ret2;exact⟨HI2.o.ext,.inl ⟨HE.o,rfl⟩⟩
end Go.Proofs.YtnbclgbicnpmnaaGreat
