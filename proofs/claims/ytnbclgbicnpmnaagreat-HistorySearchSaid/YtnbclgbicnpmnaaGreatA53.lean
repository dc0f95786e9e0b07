/- Lemmas of this claim: Chd, HSs, Fit, Ex32, Aw32, Law32s. Conditions: as named. -/
import Derived.Test.YtnbclgbicnpmnaaGreatA10
import Derived.Test.YtnbclgbicnpmnaaGreatA16
import Derived.Test.YtnbclgbicnpmnaaGreatA22
import Derived.Test.YtnbclgbicnpmnaaGreatA24
import Derived.Test.YtnbclgbicnpmnaaGreatA48
import Derived.Test.YtnbclgbicnpmnaaGreatA50
import Derived.Test.YtnbclgbicnpmnaaGreatA52
namespace Go.Proofs.YtnbclgbicnpmnaaGreat
open Go.RowKit Go.Sort
set_option maxHeartbeats 0
set_option maxRecDepth 100000
set_option linter.all false
def Zp9(w:World)(e:Ending)(w':World):Prop:=∃ (v:Value) (os:List OpS),e=.returned v∧Vy w' (fun _=>True) v (os.map Subtype.val)∧Mj os∧Ext w w'
theorem Ik(v:Value)(os:List OpS)(how at_ x:Int)(w:World)(h:Vy w (fun _=>True) v (os.map Subtype.val))(hf:Mj os):Calls Tryz.prog 18 #[v,.int .i64 how,.int .i64 at_,.int .i64 x] w (Zp9 w):=by
 obtain⟨A,C,rfl⟩:=h.shape;obtain⟨n,hn⟩:=gnX (os.length);have Hn:=Ya hn;have Hrd:=Ya (show RdE opE w (fun _=>True) (.slice A n C) os from by have h1:=h.1;rw[Zq]at h1;rw[← hn];exact h1);have Hnm:=Ya (show ∀ o∈os,Wf w (fun j=>j<w.heap.size) o.1.nv o.1.ns from fun o ho=>Rd.mono (h.2 o.1 (Zld.2 ⟨o,ho,rfl⟩)) fun _ _ hl=>hl);have Hf:=Ya hf;have h4:n≤4096:=by rw[← hn];exact hf.1
 rw[Zq,hn];clear h hf hn;go_enter Tryz.func18,Tryz.ntmps18;go_upto_region 2 with(at_builtin;refine Je opE _ _ _ rfl rfl rfl rfl (Own.nil opE w w.heap.size) rfl Hrd.o (by rw[Hn.o];show 0+n≤maxLen;unfold maxLen;omega) (by rw[Hn.o];show(0+n)*232≤_;omega) (Yp _) ?_;intro A1 n1 c1 w1 hg1);have X1:=Ya (hg1.ext w (Yn _) (Yp _));have O1:=Ya (show Kb w1 w.heap.size (.slice A1 n1 c1) os from⟨by have:=hg1.own;rwa [Zo]at this,fun o ho=>Rd.ext (Hnm.o o ho) X1.o⟩);have en:n=n1:=by have:=hg1.len;rw[Zo]at this;rw[this];exact Hn.o.symm
 subst en;clear hg1 Hrd Hnm;by_cases h0:n=0
 ·have e0:((n:Int)==0)=true:=by simp[h0]
  have e00:(n==0)=true:=by simp[h0]
  clear h0;go_wp2_with fail;go_ret;exact⟨_,os,rfl,O1.o.opsAt,Hf.o,X1.o⟩
 have e0:((n:Int)==0)=false:=by simp;omega
 have e00:(n==0)=false:=by simp;omega
 obtain⟨g,c',hv,hHg,hgl,hnc,hcm⟩:=O1.o.own.some_ (by rw[Hn.o];omega);rw[Hn.o]at hv hnc;simp only[Yg,Zlc]at hv;obtain⟨rfl,rfl⟩:=hv;have HG:=Ya hHg;obtain⟨kb0,kb1⟩:=Vh at_ (n:Int) (by omega);obtain⟨k,hk⟩:∃ k:Nat,Qi at_ (n:Int)=(k:Int):=⟨(Qi at_ (n:Int)).toNat,by omega⟩;rw[hk]at kb0 kb1;have HK:=Ya hk;have hkn:k<n:=by omega
 obtain⟨o,ho⟩:=geX (l:=os) (i:=k) (by rw[Hn.o];exact hkn);have Ho:=Ya ho;have Fo:=Ya (Hf.o.2 o (Zy ho));have hOc:∀ f v,(opC o.1)[f]?=some v→w1.cell? ⟨g,k*23+f,none⟩=some v:=fun f v hv=>by
  have h23:f<23:=by have:=(Zr.1 hv).1;rw[Qg]at this;exact this
  have e:(opE.cells os)[k*23+f]?=some v:=by
   show(Um (os.map Subtype.val))[k*23+f]?=_;rw[Lo (o:=o.1) (by rw[Zn,ho];rfl) f h23,hv]
  exact Own.at_ O1.o.own e
 have fz:∀ j,w1.frozen? ⟨g,j,none⟩=false:=fun j=>Own.thaw O1.o.own j
 obtain⟨hw0,hw1⟩:=Vh how 9 (by omega);clear hk ho h0 hHg;rcases(show Qi how 9=0∨Qi how 9=1∨Qi how 9=2∨Qi how 9=3∨Qi how 9=4∨Qi how 9=5∨Qi how 9=6∨Qi how 9=7∨Qi how 9=8 by omega)with hh|hh|hh|hh|hh|hh|hh|hh|hh;all_goals
  have HH:=Ya hh;clear hh hw0 hw1
 ·have c:=hOc 13 _ rfl;obtain⟨p,hp⟩:=gnX (Qi x 80);have hb:=Vh x 80 (by omega);rw[hp]at hb;have HV:=Ya hp;have r1:IntKind.i64.wrap (p-1)=p-1:=Yr _ (by omega);clear hp;go_wp2_with (go_at_call 23;refine(pick_any _ _ (by omega) (by omega) _).mono ?_;rintro e w' ⟨rfl,rfl⟩;first|rw[HK.o]|rw[HH.o]|rw[HV.o]);go_ret;refine⟨_,os.set k ⟨{o.1 with dec:=p-1},o.2⟩,rfl,(O1.o.set (z:=k) (f:=13) (o:=o) (o':=⟨{o.1 with dec:=p-1},o.2⟩) (vs:=[.int .i64 (p-1)]) Ho.o (by show 13+1≤23;omega) rfl (O1.o.nms o (Zy Ho.o))).opsAt,Hf.o.set k ⟨Fo.o.1,(by show I64 (p-1);unfold I64;omega),Fo.o.2.2⟩,Yc X1.o HG.o _⟩
 ·have c:=hOc 14 _ rfl;obtain⟨p,hp⟩:=gnX (Qi x 90);have hb:=Vh x 90 (by omega);rw[hp]at hb;have HV:=Ya hp;have r1:IntKind.i64.wrap (p-1)=p-1:=Yr _ (by omega);clear hp;go_wp2_with (go_at_call 23;refine(pick_any _ _ (by omega) (by omega) _).mono ?_;rintro e w' ⟨rfl,rfl⟩;first|rw[HK.o]|rw[HH.o]|rw[HV.o]);go_ret;refine⟨_,os.set k ⟨{o.1 with ans:=p-1},o.2⟩,rfl,(O1.o.set (z:=k) (f:=14) (o:=o) (o':=⟨{o.1 with ans:=p-1},o.2⟩) (vs:=[.int .i64 (p-1)]) Ho.o (by show 14+1≤23;omega) rfl (O1.o.nms o (Zy Ho.o))).opsAt,Hf.o.set k Fo.o,Yc X1.o HG.o _⟩
 ·have c:=hOc 12 _ rfl;obtain⟨p,hp⟩:=gnX (Qi x 80);have hb:=Vh x 80 (by omega);rw[hp]at hb;have HV:=Ya hp;have r1:IntKind.i64.wrap (p-1)=p-1:=Yr _ (by omega);clear hp;go_wp2_with (go_at_call 23;refine(pick_any _ _ (by omega) (by omega) _).mono ?_;rintro e w' ⟨rfl,rfl⟩;first|rw[HK.o]|rw[HH.o]|rw[HV.o]);go_ret;refine⟨_,os.set k ⟨{o.1 with begun:=p-1},o.2⟩,rfl,(O1.o.set (z:=k) (f:=12) (o:=o) (o':=⟨{o.1 with begun:=p-1},o.2⟩) (vs:=[.int .i64 (p-1)]) Ho.o (by show 12+1≤23;omega) rfl (O1.o.nms o (Zy Ho.o))).opsAt,Hf.o.set k Fo.o,Yc X1.o HG.o _⟩
 ·have c:w1.cell? ⟨g,k*23,none⟩=some (.int .i64 o.1.cl):=hOc 0 _ rfl;obtain⟨p,hp⟩:=gnX (Qi x 6);have hb:=Vh x 6 (by omega);rw[hp]at hb;have HV:=Ya hp;have r1:IntKind.i64.wrap (p-1)=p-1:=Yr _ (by omega);clear hp;go_wp2_with (go_at_call 23;refine(pick_any _ _ (by omega) (by omega) _).mono ?_;rintro e w' ⟨rfl,rfl⟩;first|rw[HK.o]|rw[HH.o]|rw[HV.o]);go_ret;refine⟨_,os.set k ⟨{o.1 with cl:=p-1},o.2⟩,rfl,(O1.o.set (z:=k) (f:=0) (o:=o) (o':=⟨{o.1 with cl:=p-1},o.2⟩) (vs:=[.int .i64 (p-1)]) Ho.o (by show 0+1≤23;omega) rfl (O1.o.nms o (Zy Ho.o))).opsAt,Hf.o.set k ⟨(by show I64 (p-1);unfold I64;omega),Fo.o.2⟩,Yc X1.o HG.o _⟩
 ·have c:=hOc 22 _ rfl;have c':w1.cell? ⟨g,k*23+15+7,none⟩=some (.int .i64 o.1.res.tick):=c;obtain⟨p,hp⟩:=gnX (Qi x 30);have hb:=Vh x 30 (by omega);rw[hp]at hb;have HV:=Ya hp;have r1:IntKind.i64.wrap (p-1)=p-1:=Yr _ (by omega);clear hp;go_wp2_with (go_at_call 23;refine(pick_any _ _ (by omega) (by omega) _).mono ?_;rintro e w' ⟨rfl,rfl⟩;first|rw[HK.o]|rw[HH.o]|rw[HV.o]);go_ret;refine⟨_,os.set k ⟨{o.1 with res:={o.1.res with tick:=p} },o.2⟩,rfl,(O1.o.set (z:=k) (f:=22) (o:=o) (o':=⟨{o.1 with res:={o.1.res with tick:=p} },o.2⟩) (vs:=[.int .i64 p]) Ho.o (by show 22+1≤23;omega) rfl (O1.o.nms o (Zy Ho.o))).opsAt,Hf.o.set k ⟨Fo.o.1,Fo.o.2.1,(by show -9223372036854775808≤p;omega),Fo.o.2.2.2⟩,Yc X1.o HG.o _⟩
 ·have c:=hOc 15 _ rfl;obtain⟨p,hp⟩:=gnX (Qi x 29);have hb:=Vh x 29 (by omega);rw[hp]at hb;have HV:=Ya hp;have r1:IntKind.i64.wrap (p-1)=p-1:=Yr _ (by omega);clear hp;go_wp2_with (go_at_call 23;refine(pick_any _ _ (by omega) (by omega) _).mono ?_;rintro e w' ⟨rfl,rfl⟩;first|rw[HK.o]|rw[HH.o]|rw[HV.o]);go_ret;refine⟨_,os.set k ⟨{o.1 with res:={o.1.res with e:=p} },o.2⟩,rfl,(O1.o.set (z:=k) (f:=15) (o:=o) (o':=⟨{o.1 with res:={o.1.res with e:=p} },o.2⟩) (vs:=[.int .i64 p]) Ho.o (by show 15+1≤23;omega) rfl (O1.o.nms o (Zy Ho.o))).opsAt,Hf.o.set k Fo.o,Yc X1.o HG.o _⟩
 ·have c:=hOc 1 _ rfl;obtain⟨p,hp⟩:=gnX (Qi x 9);have hb:=Vh x 9 (by omega);rw[hp]at hb;have HV:=Ya hp;have r1:IntKind.i64.wrap (p-1)=p-1:=Yr _ (by omega);clear hp;go_wp2_with (go_at_call 23;refine(pick_any _ _ (by omega) (by omega) _).mono ?_;rintro e w' ⟨rfl,rfl⟩;first|rw[HK.o]|rw[HH.o]|rw[HV.o]);go_ret;refine⟨_,os.set k ⟨{o.1 with op:=p},o.2⟩,rfl,(O1.o.set (z:=k) (f:=1) (o:=o) (o':=⟨{o.1 with op:=p},o.2⟩) (vs:=[.int .i64 p]) Ho.o (by show 1+1≤23;omega) rfl (O1.o.nms o (Zy Ho.o))).opsAt,Hf.o.set k Fo.o,Yc X1.o HG.o _⟩
 ·have HV:=HK;have i0:(0:Int)≤(k:Int):=by omega
  obtain⟨k1,hk1⟩:=gnX (k+1);have r1:IntKind.i64.wrap ((k:Int)+1)=(k1:Int):=by rw[Yr _ (by omega)];omega
  have i1:(0:Int)≤(k1:Int):=by omega
  have i2:(k1:Int)≤(n:Int):=by omega
  have i3:(n:Int)≤(c1:Int):=by omega
  have i4:(k:Int)≤(c1:Int):=by omega
  have i5:(k1:Int)≤(c1:Int):=by omega
  have i6:k≤c1:=by omega
  have i7:k1≤n:=by omega
  unfold maxLen at hcm;clear hOc fz;have hk1n:k+1≤n:=by omega
  by_cases hCk:c1=k1
  ·have cI:∀ x y:Option Addr,(if c1=k1 then x else y)=x:=fun x y=>Zlm hCk
   have D2:=Ya (show RdE opE w1 (fun _=>True) (.slice (some ⟨g,0,none⟩) (n-k1) (c1-k1)) (os.drop k1) from RdE.dropG (Rd.mono O1.o.own.rd fun _ _ _=>trivial) (by rw[Hn.o];exact i7) (by rw[Hn.o]) (fun h=>by omega) (by omega) (by unfold maxLen;omega));clear hCk;go_upto_region 23 with(go_at_call 23;refine(pick_any _ _ (by omega) (by omega) _).mono ?_;rintro e w' ⟨rfl,rfl⟩;first|rw[HK.o]|rw[HH.o]|rw[HV.o]);refine Xs 7 9 (by kernel_rfl) (by omega) (by kernel_rfl) (by kernel_rfl) (by kernel_rfl) ?_;simp only[Z4,Z5,Z6,Z7];repeat((with_reducible refine Yw ?_);intro K hK;go_simp;(with_reducible refine hK _ ?_);clear hK K)
   (with_reducible refine Yv ?_)
   intro w9 hy9;have O9:=Ya (O1.o.ext hy9);have Y9:=Ya (X1.o.trans hy9);have R9:=Ya (RdE.ext D2.o hy9);have T9:=Ya (Own.takeG O9.o.own (i:=k) (by rw[Hn.o];omega));clear hy9;go_wp2_with (at_builtin;refine Je opE _ _ _ rfl rfl rfl rfl T9.o rfl R9.o (by rw[Zp,Z8,Hn.o];unfold maxLen;omega) (by rw[Zp,Z8,Hn.o];show(_:Nat)*232≤_;omega) Y9.o.size ?_;intro A3 n3 c3 w3 hg3);have X3:=Ya (hg3.ext w Y9.o (Yp _));have O3:=Ya (show Kb w3 w.heap.size (.slice A3 n3 c3) (os.take k++os.drop k1) from⟨hg3.own,fun q hq=>Rd.chg (O9.o.nms q (by
    rcases Zj.1 hq with h1|h1
    ·exact Zjr h1
    exact Zjq h1)) hg3.chg fun i hi e=>by have:=HG.o;have e2:g=i:=Zlj e;omega⟩)
   clear hg3;go_wp2_with fail;go_ret;exact⟨_,_,rfl,O3.o.opsAt,by have:=Hf.o.cut k;rwa [hk1]at this,X3.o⟩
  have cI:∀ x y:Option Addr,(if c1=k1 then x else y)=y:=fun x y=>Zlq hCk
  have D2:=Ya (show RdE opE w1 (fun _=>True) (.slice (some ⟨g,k1*23,none⟩) (n-k1) (c1-k1)) (os.drop k1) from RdE.dropG (Rd.mono O1.o.own.rd fun _ _ _=>trivial) (by rw[Hn.o];exact i7) (by rw[Hn.o]) (fun h=>by rw[Zle];rfl) (by omega) (by unfold maxLen;omega));clear hCk;go_upto_region 23 with(go_at_call 23;refine(pick_any _ _ (by omega) (by omega) _).mono ?_;rintro e w' ⟨rfl,rfl⟩;first|rw[HK.o]|rw[HH.o]|rw[HV.o]);refine Xs 7 9 (by kernel_rfl) (by omega) (by kernel_rfl) (by kernel_rfl) (by kernel_rfl) ?_;simp only[Z4,Z5,Z6,Z7];repeat((with_reducible refine Yw ?_);intro K hK;go_simp;(with_reducible refine hK _ ?_);clear hK K)
  (with_reducible refine Yv ?_)
  intro w9 hy9;have O9:=Ya (O1.o.ext hy9);have Y9:=Ya (X1.o.trans hy9);have R9:=Ya (RdE.ext D2.o hy9);have T9:=Ya (Own.takeG O9.o.own (i:=k) (by rw[Hn.o];omega));clear hy9;go_wp2_with (at_builtin;refine Je opE _ _ _ rfl rfl rfl rfl T9.o rfl R9.o (by rw[Zp,Z8,Hn.o];unfold maxLen;omega) (by rw[Zp,Z8,Hn.o];show(_:Nat)*232≤_;omega) Y9.o.size ?_;intro A3 n3 c3 w3 hg3);have X3:=Ya (hg3.ext w Y9.o (Yp _));have O3:=Ya (show Kb w3 w.heap.size (.slice A3 n3 c3) (os.take k++os.drop k1) from⟨hg3.own,fun q hq=>Rd.chg (O9.o.nms q (by
   rcases Zj.1 hq with h1|h1
   ·exact Zjr h1
   exact Zjq h1)) hg3.chg fun i hi e=>by have:=HG.o;have e2:g=i:=Zlj e;omega⟩)
  clear hg3;go_wp2_with fail;go_ret;exact⟨_,_,rfl,O3.o.opsAt,by have:=Hf.o.cut k;rwa [hk1]at this,X3.o⟩
 obtain⟨jb0,jb1⟩:=Vh x (n:Int) (by omega);obtain⟨j,hj⟩:∃ j:Nat,Qi x (n:Int)=(j:Int):=⟨(Qi x (n:Int)).toNat,by omega⟩;rw[hj]at jb0 jb1;have HV:=Ya hj;have hjn:j<n:=by omega
 have i0:(0:Int)≤(k:Int):=by omega
 clear hj;obtain⟨oj,hoj⟩:=geX (l:=os) (i:=j) (by rw[Hn.o];exact hjn);have Hoj:=Ya hoj;clear hOc fz hoj;go_upto_region 7 with(go_at_call 23;refine(pick_any _ _ (by omega) (by omega) _).mono ?_;rintro e w' ⟨rfl,rfl⟩;first|rw[HK.o]|rw[HH.o]|rw[HV.o]);have Od:=Ya (O1.o.ext (Yn w1).drew);have Xd:=Ya X1.o.drew;refine Zli (S:=fun _=>True) (by kernel_rfl) trivial (fun hHeld=>?_);obtain⟨Wd,hWd⟩:=gnX (w1.drew);rw[hWd]at Od Xd;rw[hWd];clear hWd;have O2:=Ya (Od.o.put Hoj.o (o':=o) (Od.o.nms o (Zy Ho.o)));have cj:Chg (· = g) Wd (Wd.setCells g (j*23) (opC o.1)):=Xp (S:=(· = g)) (.inl rfl) (Chg.refl _ _);have ck:Chg (· = g) (Wd.setCells g (j*23) (opC o.1)) ((Wd.setCells g (j*23) (opC o.1)).setCells g (k*23) (opC oj.1)):=Xp (S:=(· = g)) (.inl rfl) (Chg.refl _ _);have O3:=Ya (O2.o.put (z:=k) (o:=o) (by
  by_cases e:j=k
  ·rw[e,Zc (by rw[Hn.o];exact hkn)]
  rw[Zb e];exact Ho.o) (o':=oj) (Rd.chg (Od.o.nms oj (Zy Hoj.o)) cj fun i hi e=>by have:=HG.o;omega))
 have X3:=Ya ((Xd.o.chg_new cj fun i e=>by rw[e];exact HG.o).chg_new ck fun i e=>by rw[e];exact HG.o);have T1:=Ya (Od.o.there (z:=j) (f:=0) (m:=23) (by rw[Hn.o];exact hjn) (by omega));have T2:=Ya (O2.o.there (z:=k) (f:=0) (m:=23) (by rw[Zf,Hn.o];exact hkn) (by omega));clear cj ck;obtain⟨W2,hW2⟩:=gnX (Wd.setCells g (j*23) (opC o.1));rw[hW2]at O3 X3 T2;obtain⟨W3,hW3⟩:=gnX (W2.setCells g (k*23) (opC oj.1));rw[hW3]at O3 X3;have HW2:=Ya hW2;have HW3:=Ya hW3;clear hW2 hW3 O2;have Rk:=Ya (Od.o.range Ho.o);have Rj:=Ya (Od.o.range Hoj.o);refine Xz [0,1,2,3,4,5,6,8,9,10] 6 (by rfl) (by kernel_rfl) (by kernel_rfl) (fun _ _ d _ _ h=>by cases d<;>exact h) hHeld ?_;simp only[Z1,Z2,Z3,Zw,Zx];repeat(refine Xw (v:=?_) (by kernel_rfl) ?_ ?_;rotate_left;(focus((intro wT hST;(try obtain⟨hS1,hS2⟩:=hST);go_simp);(first|done|(with_reducible rfl))));(try simp only[Act.put,Zv,Zu,Zt]))
 refine Xv ?_;refine Zlp (rs:=[7,11]) (by kernel_rfl) (by simp) ?_;refine Yt (o:=_) rfl (fun K hK=>?_) (Yt (o:=_) rfl (fun K hK=>?_) Ys)
 ·refine Kf (o:=o.1) (b:=g) (p:=k*23) rfl (Operand.tmp 34) rfl rfl Rk.o ?_;refine hK.out _ _ trivial (fun hHeld=>?_);clear hK K;try simp only[Act.put,Zv,Zu,Zt]
  refine Zlp (rs:=[11]) (by kernel_rfl) (by simp) ?_;refine Yt (o:=_) rfl (fun K hK=>?_) Ys;refine Kf (o:=oj.1) (b:=g) (p:=j*23) rfl (Operand.tmp 38) rfl rfl Rj.o ?_;refine hK.out _ _ trivial (fun hHeld=>?_);clear hK K;try simp only[Act.put,Zv,Zu,Zt]
  refine Xz [12] 3 (by rfl) (by kernel_rfl) (by kernel_rfl) (fun _ _ d _ _ h=>by cases d<;>exact h) hHeld ?_;simp only[Z1,Z2,Z3,Zw,Zx];repeat(refine Xw (v:=?_) (by kernel_rfl) ?_ ?_;rotate_left;(focus((intro wT hST;(try obtain⟨hS1,hS2⟩:=hST);go_simp);(first|done|(with_reducible rfl))));(try simp only[Act.put,Zv,Zu,Zt]))
  refine Xv ?_;refine Zlp (rs:=[13]) (by kernel_rfl) (by simp) ?_;refine Yt (o:=_) rfl (fun K hK=>?_) Ys;refine Vr rfl _ _ _ rfl g (j*23) (opC o.1).toArray rfl rfl T1.o (by rw[Jx];rfl) (Tx o) ?_;rw[show Wd.setCells g (j*23) (opC o.1).toArray.toList=W2 from HW2.o];refine hK.out _ _ trivial (fun hHeld=>?_);clear hK K;try simp only[Act.put,Zv,Zu,Zt]
  refine Xz [14] 1 (by rfl) (by kernel_rfl) (by kernel_rfl) (fun _ _ d _ _ h=>by cases d<;>exact h) hHeld ?_;simp only[Z1,Z2,Z3,Zw,Zx];repeat(refine Xw (v:=?_) (by kernel_rfl) ?_ ?_;rotate_left;(focus((intro wT hST;(try obtain⟨hS1,hS2⟩:=hST);go_simp);(first|done|(with_reducible rfl))));(try simp only[Act.put,Zv,Zu,Zt]))
  refine Xv ?_;refine Zlp (rs:=[15]) (by kernel_rfl) (by simp) ?_;refine Yt (o:=_) rfl (fun K hK=>?_) Ys;refine Vr rfl _ _ _ rfl g (k*23) (opC oj.1).toArray rfl rfl T2.o (by rw[Jx];rfl) (Tx oj) ?_;rw[show W2.setCells g (k*23) (opC oj.1).toArray.toList=W3 from HW3.o];refine hK.out _ _ trivial (fun hHeld=>?_);clear hHeld hK K;refine Zlb (by kernel_rfl) ?_ _;go_wp2_with fail;go_ret;exact⟨_,_,rfl,O3.o.opsAt,(Hf.o.set j Fo.o).set k (Hf.o.2 oj (Zy Hoj.o)),X3.o⟩
 refine Kf (o:=oj.1) (b:=g) (p:=j*23) rfl (Operand.tmp 38) rfl rfl Rj.o ?_;refine hK.out _ _ trivial (fun hHeld=>?_);clear hK K;try simp only[Act.put,Zv,Zu,Zt]
 refine Zlp (rs:=[7]) (by kernel_rfl) (by simp) ?_;refine Yt (o:=_) rfl (fun K hK=>?_) Ys;refine Kf (o:=o.1) (b:=g) (p:=k*23) rfl (Operand.tmp 34) rfl rfl Rk.o ?_;refine hK.out _ _ trivial (fun hHeld=>?_);clear hK K;try simp only[Act.put,Zv,Zu,Zt]
 refine Xz [12] 3 (by rfl) (by kernel_rfl) (by kernel_rfl) (fun _ _ d _ _ h=>by cases d<;>exact h) hHeld ?_;simp only[Z1,Z2,Z3,Zw,Zx];repeat(refine Xw (v:=?_) (by kernel_rfl) ?_ ?_;rotate_left;(focus((intro wT hST;(try obtain⟨hS1,hS2⟩:=hST);go_simp);(first|done|(with_reducible rfl))));(try simp only[Act.put,Zv,Zu,Zt]))
 refine Xv ?_;refine Zlp (rs:=[13]) (by kernel_rfl) (by simp) ?_;refine Yt (o:=_) rfl (fun K hK=>?_) Ys;refine Vr rfl _ _ _ rfl g (j*23) (opC o.1).toArray rfl rfl T1.o (by rw[Jx];rfl) (Tx o) ?_;rw[show Wd.setCells g (j*23) (opC o.1).toArray.toList=W2 from HW2.o];refine hK.out _ _ trivial (fun hHeld=>?_);clear hK K;try simp only[Act.put,Zv,Zu,Zt]
 refine Xz [14] 1 (by rfl) (by kernel_rfl) (by kernel_rfl) (fun _ _ d _ _ h=>by cases d<;>exact h) hHeld ?_;simp only[Z1,Z2,Z3,Zw,Zx];repeat(refine Xw (v:=?_) (by kernel_rfl) ?_ ?_;rotate_left;(focus((intro wT hST;(try obtain⟨hS1,hS2⟩:=hST);go_simp);(first|done|(with_reducible rfl))));(try simp only[Act.put,Zv,Zu,Zt]))
 refine Xv ?_;refine Zlp (rs:=[15]) (by kernel_rfl) (by simp) ?_;refine Yt (o:=_) rfl (fun K hK=>?_) Ys;refine Vr rfl _ _ _ rfl g (k*23) (opC oj.1).toArray rfl rfl T2.o (by rw[Jx];rfl) (Tx oj) ?_;rw[show W2.setCells g (k*23) (opC oj.1).toArray.toList=W3 from HW3.o];refine hK.out _ _ trivial (fun hHeld=>?_);clear hHeld hK K;refine Zlb (by kernel_rfl) ?_ _;go_wp2_with fail;go_ret;exact⟨_,_,rfl,O3.o.opsAt,(Hf.o.set j Fo.o).set k (Hf.o.2 oj (Zy Hoj.o)),X3.o⟩
theorem Tf(cl cp:Int)(os:List Opn)(rec:Nat→List Nat→Sx)(hr:∀ l o,(rec l o).found=true→(rec l o).broken=false):∀ (c:List Nat) (left:Nat) (ord:List Nat),(J9 cl cp os rec c left ord).found=true→(J9 cl cp os rec c left ord).broken=false
 | [],_,_=>fun _=>rfl
 | i::c,left,ord=>by
  rw[J9];split
  ·exact Tf cl cp os rec hr c left ord
  split
  ·intro h;cases h
  split
  ·exact Tf cl cp os rec hr c (left-1) ord
  split
  ·split
   ·exact hr _ _
   exact Tf cl cp os rec hr c _ ord
  exact Tf cl cp os rec hr c (left-1) ord
theorem Zpm(cl cp:Int)(os:List Opn):∀ (d left:Nat) (ord:List Nat),(Qn cl cp os d left ord).found=true→(Qn cl cp os d left ord).broken=false
 | 0,_,_=>fun _=>rfl
 | d+1,left,ord=>Tf cl cp os _ (fun l o=>Zpm cl cp os d l o) _ left ord
theorem Lb{S:Nat→Prop}(cl cp budget:Int)(v:Value)(os:List Opn)(w:World)(ho:Vy w S v os)(hf:∀ o∈os,-9223372036854775808≤o.res.tick) :
 Calls Tryz.prog 25 #[.agg #[.int .i64 cl,.int .i64 cp],v,.int .i64 budget] w (Vp os cl cp budget w):=by
 obtain⟨A,C,rfl⟩:=ho.shape;have X0:=Ya ((Yn w).alloc (.cells #[.int .i64 cl,.int .i64 cp] 37));have F0:=Ya (Xr.new w #[.int .i64 cl,.int .i64 cp] 37);obtain⟨n,hnn⟩:=gnX (os.length);have Hnn:=Ya hnn;have Ho:=Ya (ho.mono (T:=fun k=>k<w.heap.size) fun k _ hk=>hk);have Hf:=Ya hf;rw[hnn];clear ho hnn hf;obtain⟨ch,hch⟩:=gnX ((Vl cl cp os).2);have Hch:=Ya hch;go_enter Tryz.func25,Tryz.ntmps25;go_wp2_with fail;refine(Zq0 cl cp _ os _ (by have:=Ho.o.ext X0.o;rwa [Hnn.o]at this)).mono ?_;rintro x w1 ⟨rfl,hx1⟩;rw[hch];have FB:=Ya (F0.o.ext hx1);have Hx1:=Ya (X0.o.trans hx1);obtain⟨fb,hfb⟩:=gnX (w.heap.size);rw[hfb]at FB;rw[hfb];have Hfb:=Ya hfb;clear hx1 hfb hch;by_cases hc0:ch=0
 ·have hcz:(ch !=0)=false:=by simp[hc0]
  obtain⟨hcf,hlen⟩:=Fp (show(Vl cl cp os).2=0 by rw[Hch.o];exact hc0);rw[Hnn.o]at hlen;have Hcf:=Ya hcf;have Hc0:=Ya hc0;clear hc0 hcf;go_wp2_with fail;go_loopw [26] (fun o wr=>∃ i:Nat,i≤n∧o=.int .i64 (i:Int)∧Ext w1 wr∧∀ j o,j<i→os[j]?=some o→(o.ans == -1)=false) (fun o _=>n-(intOf o).toNat);case atStart=>exact⟨0,by omega,rfl,Yn _,fun j _ hj=>by omega⟩
  obtain⟨i,hi,rfl,hx,hno⟩:=hrel;rename World=>wr
  have Hx:=Ya hx;have Hno:=Ya hno;clear hx hno;by_cases hin:i<n
  ·obtain⟨hd_i,i0_i,i1_i⟩:=LTl i n;obtain⟨o,hoi⟩:=geX (l:=os) (i:=i) (by rw[Hnn.o];exact hin);obtain⟨g,p,c,hv,_,hc2,_,hA,hN⟩:=(Ho.o.ext (Hx1.o.trans Hx.o)).get hoi;rw[Hnn.o]at hv;simp only[Yg]at hv;obtain⟨rfl,-,rfl⟩:=hv;unfold maxLen at hc2;obtain⟨nA,nC,hnv⟩:=hN.shape;have hone:o.nv.oneCell'=true:=by rw[hnv];rfl
   have HA:=Ya hA;have Hoi:=Ya hoi;have hNa:=(Un wr o).ans;clear hA hN hnv hoi;cases ha:(o.ans == -1)with
   | true =>
    have HR:=Ya (show Wm cl cp os budget=([],0,26) by
     unfold Wm;rw[Zlq (by rw[Hch.o,Hc0.o];simp),Zlm (by rw[Zkr];exact⟨o,Zy Hoi.o,ha⟩)])
    go_wp2_with (first|(refine Xh HA.o rfl ?_)|(refine Wl rfl rfl rfl hone ?_));go_ret3;unfold Vp;rw[HR.o];exact⟨_,rfl,Qv _ _,(Hx1.o.trans Hx.o).alloc _⟩
   | false =>
    have Ha:=Ya ha;go_wp2_with (first|(refine Xh HA.o rfl ?_)|(refine Wl rfl rfl rfl hone ?_));go_roundw;case rel=>exact⟨i+1,by omega,by go_num,Hx.o.alloc _,fun j q hj hq=>by
     by_cases e:j=i
     ·rw[e,Hoi.o]at hq;rw[← Zlj hq];exact Ha.o
     exact Hno.o j q (by omega) hq⟩
    case measure=>(simp[intOf];omega)
  have hd_i:=GEl i n;obtain rfl:i=n:=by omega
  have Han:=Ya (show(os.any fun o=>o.ans == -1)=false by
   cases h:(os.any fun o=>o.ans == -1)with
   | false=>rfl
   | true =>
    rw[Zkr]at h;obtain⟨o,hm,h2⟩:=h;obtain⟨j,hj,hje⟩:=Zj5.1 hm;rw[Hno.o j o (by rw[Hnn.o]at hj;exact hj) (by rw[Zz hj,hje])]at h2;cases h2)
  have Hx2:=Ya (Hx1.o.trans Hx.o);have FB2:=Ya (FB.o.ext Hx.o);clear Hno Hx FB;by_cases hb1:budget<1
  ·have d1:decide (budget<1)=true:=by simpa using hb1
   have HR:=Ya (show Wm cl cp os budget=([],0,3) by unfold Wm;rw[Zlq (by rw[Hch.o,Hc0.o];simp),Zlq (by rw[Han.o];simp),Zlm (.inl hb1)]);go_wp2_with fail;go_ret3;unfold Vp;rw[HR.o];exact⟨_,rfl,Qv _ _,Hx2.o⟩
  have d1:decide (budget<1)=false:=by simpa using hb1
  by_cases hb2:1048576<budget
  ·have d2:decide (1048576<budget)=true:=by simpa using hb2
   have HR:=Ya (show Wm cl cp os budget=([],0,3) by unfold Wm;rw[Zlq (by rw[Hch.o,Hc0.o];simp),Zlq (by rw[Han.o];simp),Zlm (.inr hb2)]);go_wp2_with fail;go_ret3;unfold Vp;rw[HR.o];exact⟨_,rfl,Qv _ _,Hx2.o⟩
  have d2:decide (1048576<budget)=false:=by simpa using hb2
  have HR:=Ya (show Wm cl cp os budget=if(Qn cl cp os os.length budget.toNat []).broken=true then([],0,28)else if(Qn cl cp os os.length budget.toNat []).found=true then((Qn cl cp os os.length budget.toNat []).ord,budget-(Qn cl cp os os.length budget.toNat []).left,0)else([],budget-(Qn cl cp os os.length budget.toNat []).left,23) by
   unfold Wm;rw[Zlq (by rw[Hch.o,Hc0.o];simp),Zlq (by rw[Han.o];simp),Zlq (by omega)])
  have c0:=FB2.o.at_ 0 (by simp);have c1:=FB2.o.at_ 1 (by simp);simp only[Zx,Zw]at c0 c1;have HB:=Ya (And.intro hb1 hb2);clear hb1 hb2;go_upto_region 13 with fail;have NB:=Ya (Xr.new wr #[.int .i64 cl,.int .i64 cp,.slice A i C,.int .i64 budget,.int .i64 0,.slice none 0 0] 122);have xn:=(Yn wr).alloc (.cells #[.int .i64 cl,.int .i64 cp,.slice A i C,.int .i64 budget,.int .i64 0,.slice none 0 0] 122);have hsz:(wr.alloc (.cells #[.int .i64 cl,.int .i64 cp,.slice A i C,.int .i64 budget,.int .i64 0,.slice none 0 0] 122)).heap.size=wr.heap.size+1:=by simp
  obtain⟨sb,hsb⟩:=gnX (wr.heap.size);obtain⟨W2,hW2⟩:=gnX (wr.alloc (.cells #[.int .i64 cl,.int .i64 cp,.slice A i C,.int .i64 budget,.int .i64 0,.slice none 0 0] 122));have hws:w.heap.size≤sb:=by rw[← hsb];exact Hx2.o.size
  rw[hsb,hW2]at NB;rw[hsb,hW2]at hsz;rw[hW2]at xn;rw[hW2];try rw[hsb]
  have H2:=Ya (show El W2 sb (sb+1) cl cp (.slice A i C) budget 0 (.slice none 0 0) [] from⟨NB.o,Own.nil _ _ _,by omega,by omega⟩);have O2:=Ya (show Vy W2 (fun k=>k<w.heap.size) (.slice A i C) os by have:=Ho.o.ext (Hx2.o.trans xn);rwa [Hnn.o]at this);have X2:=Ya (Hx2.o.trans xn);clear hW2 hsb NB xn c0 c1 FB2;go_wp2_with fail;refine(Zyh (S:=fun k=>k<w.heap.size) sb (sb+1) cl cp (.slice A i C) budget os Hcf.o Hf.o (by rw[Hnn.o];exact hlen) (by have:=HB.o;omega) (by have:=HB.o;omega) (fun k hk=>by omega) os.length budget.toNat [] _ 0 _ H2.o O2.o (by have:=HB.o;omega) (by have:=HB.o;omega) (by simp) (fun k hk=>by cases hk)).mono ?_;rintro e w3 ⟨v3,rfl,h3,c3⟩;have X3:=Ya (X2.o.chg_new c3 fun k hk=>by rcases hk with hk|hk<;>omega);have FBn:=Zpm cl cp os os.length budget.toNat [];have LFn:=Pu cl cp os os.length budget.toNat [];obtain⟨⟨fd,bk,lf,rd⟩,hsx⟩:∃ x,Qn cl cp os os.length budget.toNat []=x:=⟨_,rfl⟩;have HR2:=HR.o;rw[hsx]at HR2 h3 FBn LFn;rw[hsx];have HR:=Ya HR2;clear HR2 hsx c3 H2 O2 X2;cases fd with
  | true =>
   obtain rfl:bk=false:=FBn rfl;have h3:El w3 sb (sb+1) cl cp (.slice A i C) budget (budget-lf) v3 rd:=h3;have l4:=lat (h3.c 4 rfl);have l5:=lat (h3.c 5 rfl);have H3:=Ya h3;obtain⟨A3,C3,rfl,_,_⟩:=h3.row.shape;clear h3;go_upto_region 15 with fail;have hun:=Yd;refine Y0 (by kernel_rfl) (by kernel_rfl) ?_;repeat((with_reducible refine Yw ?_);intro K hK;go_simp;(with_reducible refine hK _ ?_);clear hK K)
   (with_reducible refine Yv ?_)
   intro w9 hy9;clear hun;try simp only[Ye]
   go_wp2_with fail;go_ret3;unfold Vp;rw[HR.o];exact⟨_,rfl,Rd.mono ((H3.o.ext hy9).nats) (fun k hk _=>by have hk:sb+1≤k:=hk;omega),X3.o.trans hy9⟩
  | false =>
   cases bk with
   | true =>
    have h3:El w3 sb (sb+1) cl cp (.slice A i C) budget (budget+1) v3 []:=h3;have s4:=h3.c 4 rfl;have d3:decide (budget<budget+1)=true:=Yh;go_wp2_with fail;go_ret3;unfold Vp;rw[HR.o];exact⟨_,rfl,Qv _ _,X3.o⟩
   | false =>
    have h3:El w3 sb (sb+1) cl cp (.slice A i C) budget (budget-lf) v3 []:=h3;have s4:=h3.c 4 rfl;have l4:=lat s4;have d3:decide (budget<budget-(lf:Int))=false:=Yi;go_upto_region 18 with fail;have hun:=Yd;refine Y0 (by kernel_rfl) (by kernel_rfl) ?_;repeat((with_reducible refine Yw ?_);intro K hK;go_simp;(with_reducible refine hK _ ?_);clear hK K)
    (with_reducible refine Yv ?_)
    intro w9 hy9;clear hun;try simp only[Ye]
    go_wp2_with fail;go_ret3;unfold Vp;rw[HR.o];exact⟨_,rfl,Qv _ _,X3.o.trans hy9⟩
 have hcz:(ch !=0)=true:=by simp[hc0]
 have HR:=Ya (show Wm cl cp os budget=([],0,ch) by unfold Wm;rw[Zlm (by rw[Hch.o];exact hc0),Hch.o]);clear hc0;go_wp2_with fail;go_ret3;unfold Vp;rw[HR.o];exact⟨_,rfl,Qv _ _,Hx1.o⟩
theorem Mj.fits{os:List OpS}(h:Mj os):∀ o∈os.map Subtype.val,o.fits:=fun o ho=>by
 obtain⟨x,hx,rfl⟩:=Zld.1 ho;exact⟨(h.2 x hx).1,(h.2 x hx).2.1⟩
theorem Mj.ticks{os:List OpS}(h:Mj os):∀ o∈os.map Subtype.val,-9223372036854775808≤o.res.tick:=fun o ho=>by
 obtain⟨x,hx,rfl⟩:=Zld.1 ho;exact(h.2 x hx).2.2.1
theorem Mj.keys{os:List OpS}(h:Mj os):Ir (os.map Subtype.val):=fun o ho n hn=>by
 obtain⟨x,hx,rfl⟩:=Zld.1 ho;have:=(h.2 x hx).2.2.2 n hn;unfold maxLen;omega
def nmA:Nm:=⟨⟨#[97]⟩,⟨#[97]⟩,⟨#[97]⟩⟩
def Zlz:Rc:=⟨0,0,⟨#[]⟩,0⟩
def exL(nv:Value):List Opn:=[⟨0,1,5,nv,[nmA],⟨0,0,⟨#[]⟩,Zlz,0⟩,0,9,12,⟨24,0,⟨#[97]⟩,Zlz,0⟩⟩,⟨1,1,5,nv,[nmA],⟨0,0,⟨#[]⟩,Zlz,0⟩,1,5,11,⟨0,-1,⟨#[]⟩,Zlz,0⟩⟩]
theorem Zpc(nv:Value):Cf (exL nv)=[1,0]:=by
 refine(Zy6.unique ⟨Zke.2 ⟨fun j hj=>by rw[Zi.1 hj];rfl,List.pairwise_singleton _ _⟩,fun i=>?_⟩ (Pj (exL nv))).symm
 match i with
 | 0=>exact⟨fun _=>rfl,fun _=>by simp⟩
 | 1=>exact⟨fun _=>rfl,fun _=>by simp⟩
 | i+2=>exact⟨fun h=>by simp at h,fun h=>by have h2:Zv2 (exL nv) (i+2)=false:=rfl;rw[h2]at h;simp at h⟩
theorem Zna(nv:Value):Wm 2 1 (exL nv) 50=([1,0],3,0):=by kernel_rfl
theorem Zne(nv:Value):(Ny 2 1 (exL nv)).2=0:=by
 unfold Ny;rw[Zpc]
 kernel_rfl
theorem I3(w:World):Calls Tryz.prog 55 #[] w fun e w'=>e=.returned (.slice (some ⟨w.heap.size+1,0,none⟩) 2 2)∧w'=(w.alloc (.cells #[.string ⟨#[97]⟩,.string ⟨#[97]⟩,.string ⟨#[97]⟩] 109)).alloc (.cells (Um (exL (.slice (some ⟨w.heap.size,0,none⟩) 1 1))).toArray 55):=by
 go_enter Tryz.func55,Tryz.ntmps55;go_wp2_with fail;go_ret;exact⟨rfl,rfl⟩
theorem Znp(w:World)(l:List Opn)(t:TypeId)(b:Nat)(hb:w.heap[b]?=some (.cells (Um l).toArray t))(S:Nat→Prop)(hS:S b)(hl:l.length≤1000)(hn:∀ o∈l,Wf w S o.nv o.ns):Vy w S (.slice (some ⟨b,0,none⟩) l.length l.length) l:=by
 refine⟨⟨Gv l,_,_,rfl,Yp _,by unfold maxLen;omega,fun _=>⟨b,0,rfl,hS,(Zln.1 hb).1,fun j u hu=>?_⟩⟩,hn⟩;simp only[World.cell?,hb];rw[Zle,← hu];simp
theorem Znt(w:World)(b:Nat)(t:TypeId)(hb:w.heap[b]?=some (.cells #[.string ⟨#[97]⟩,.string ⟨#[97]⟩,.string ⟨#[97]⟩] t))(S:Nat→Prop)(hS:S b):Wf w S (.slice (some ⟨b,0,none⟩) 1 1) [nmA]:=by
 refine⟨rfl,_,_,rfl,Yp _,by unfold maxLen;omega,fun _=>⟨b,0,rfl,hS,(Zln.1 hb).1,fun j u hu=>?_⟩⟩;simp only[World.cell?,hb];rw[Zle,← hu];simp[Wq,nmA];rfl
theorem Pv(nv:Value):(∀ o∈exL nv,o.fits)∧Ir (exL nv):=by
 unfold exL Ir;refine⟨fun o ho=>?_,fun o ho n hn=>?_⟩
 ·simp only[Zg,Zh,Zkl]at ho;rcases ho with rfl|rfl<;>exact⟨by unfold I64;simp;done,by unfold I64;simp;done⟩
 simp only[Zg,Zh,Zkl]at ho;rcases ho with rfl|rfl<;>(rw[Zi.1 hn];exact Zlo (show nmA.k.size≤1 from Yp _) (by unfold maxLen;omega))
theorem Zmj(w:World):Vy ((w.alloc (.cells #[.string ⟨#[97]⟩,.string ⟨#[97]⟩,.string ⟨#[97]⟩] 109)).alloc (.cells (Um (exL (.slice (some ⟨w.heap.size,0,none⟩) 1 1))).toArray 55)) (fun k=>w.heap.size≤k) (.slice (some ⟨w.heap.size+1,0,none⟩) 2 2) (exL (.slice (some ⟨w.heap.size,0,none⟩) 1 1)):=by
 refine Znp _ (exL _) 55 (w.heap.size+1) ?_ _ (Zji _) (by simp[exL]) (fun o ho=>?_)
 ·have:=Zl2 (w.alloc (.cells #[.string ⟨#[97]⟩,.string ⟨#[97]⟩,.string ⟨#[97]⟩] 109)) (.cells (Um (exL (.slice (some ⟨w.heap.size,0,none⟩) 1 1))).toArray 55)
  rwa [show(w.alloc (.cells #[.string ⟨#[97]⟩,.string ⟨#[97]⟩,.string ⟨#[97]⟩] 109)).heap.size=w.heap.size+1 by simp]at this
 have hb:((w.alloc (.cells #[.string ⟨#[97]⟩,.string ⟨#[97]⟩,.string ⟨#[97]⟩] 109)).alloc (.cells (Um (exL (.slice (some ⟨w.heap.size,0,none⟩) 1 1))).toArray 55)).heap[w.heap.size]?=some (.cells #[.string ⟨#[97]⟩,.string ⟨#[97]⟩,.string ⟨#[97]⟩] 109):=by
  rw[Zim _ _ _ (by simp)];exact Zl2 w _
 have:=Znt _ w.heap.size _ hb (fun k=>w.heap.size≤k) (Yp _);simp only[exL,Zg,Zh,Zkl]at ho;rcases ho with rfl|rfl<;>exact this
theorem P2(va vb:Value)(l:List Nat)(S T:Nat→Prop)(w:World)(ha:Vg w S va l)(hb:Vg w T vb l)(hl:l.length≤1000000) :
 Calls Tryz.prog 26 #[va,vb] w fun e w'=>e=.returned (.bool true)∧Ext w w':=by
 obtain⟨n,hln⟩:=gnX (l.length);have Ha:=Ya ha;have Hb:=Ya hb;have Hln:=Ya hln;obtain⟨_,A,ca,rfl,ha1,ha2,_⟩:=ha;obtain⟨_,B,cb,rfl,hb1,hb2,_⟩:=hb;unfold maxLen at ha2 hb2;rw[hln]at ha1 hb1 hl⊢;clear hln;go_enter Tryz.func26,Tryz.ntmps26;go_wp2_with fail;go_loopw [13] (fun o wr=>∃ i:Nat,i≤n∧o=.int .i64 (i:Int)∧Ext w wr) (fun o _=>n-(intOf o).toNat);case atStart=>exact⟨0,by omega,rfl,Yn _⟩
 obtain⟨i,hi,rfl,hx⟩:=hrel;by_cases hin:i<n
 ·have hd:decide ((i:Int)<(n:Int))=true:=by simpa using hin
  obtain⟨x,hxx⟩:∃ x,l[i]?=some x:=⟨l[i]'(by have:=Hln.o;omega),by simp⟩;obtain⟨ga,oa,c1,e1,_,_,_,hc1⟩:=Vg.get (Ha.o.ext hx) hxx;obtain⟨gb,ob,c2,e2,_,_,_,hc2⟩:=Vg.get (Hb.o.ext hx) hxx;rw[Hln.o]at e1 e2;simp only[Yg]at e1 e2;obtain⟨rfl,_,rfl⟩:=e1;obtain⟨rfl,_,rfl⟩:=e2;obtain⟨_,d1⟩:=hc1;obtain⟨_,d2⟩:=hc2;have i0:(0:Int)≤(i:Int):=by omega
  have i1:(i:Int)<(n:Int):=by omega
  have Hx:=Ya hx;clear hx hxx;go_wp2_with fail;go_quiet (fail);go_wp2_with fail;go_roundw;case rel=>exact⟨i+1,by omega,by go_num,Hx.o.drewN _⟩
  simp[intOf];omega
 have hd:decide ((i:Int)<(n:Int))=false:=by simp;omega
 go_wp2_with fail;go_ret;exact⟨rfl,hx⟩
theorem Gi(w:World):Calls Tryz.prog 55 #[] w fun e w'=>∃ v nv,e=.returned v∧Vy w' (fun k=>w.heap.size≤k) v (exL nv)∧Ext w w':=by
 refine(I3 w).mono ?_;rintro e w' ⟨rfl,rfl⟩;exact⟨_,_,rfl,Zmj w,((Yn w).alloc _).alloc _⟩
theorem Zyp(w:World)(t:TypeId):Vg (w.alloc (.cells #[.int .i64 1,.int .i64 0] t)) (fun _=>True) (.slice (some ⟨w.heap.size,0,none⟩) 2 2) [1,0]:=by
 have h1:(w.alloc (.cells #[.int .i64 1,.int .i64 0] t)).heap[w.heap.size]?=some (.cells #[.int .i64 1,.int .i64 0] t):=Zl2 w _;refine⟨rfl,_,_,rfl,Yp _,by unfold maxLen;omega,fun _=>⟨w.heap.size,0,rfl,trivial,(Zln.1 h1).1,fun j u hu=>?_⟩⟩;simp only[World.cell?,h1];rw[Zle,← hu];simp[Zyr]
theorem Im(w:World):Calls Tryz.prog 21 #[] w fun e w'=>e=.returned (.bool true)∧Ext w w':=by
 go_enter Tryz.func21,Tryz.ntmps21;go_wp2_with fail;go_upto_region 2 with fail;refine Zli (S:=fun w'=>w'.cell? ⟨w.heap.size,0,none⟩=some (.int .i64 2)∧w'.cell? ⟨w.heap.size,1,none⟩=some (.int .i64 1)) (by kernel_rfl) ?_ (fun hHeld=>?_)
 ·exact⟨by go_simp,by go_simp⟩
 refine Zkh (i:=0) (oi:=_) (v:=?_) rfl (by kernel_rfl) (by kernel_rfl) (by kernel_rfl) (fun _ _ _ h=>h) (Or.inl ⟨by rfl,?_⟩) (by assumption) ?_;rotate_left;(focus((intro w hSw;(try dsimp only at hSw);go_simp);(first|done|(with_reducible rfl))));(try simp only[Act.put]);(try simp only[Zv]);refine Zlp (rs:=[1]) (by kernel_rfl) (by simp) ?_;refine Yt (o:=_) rfl (fun K hK=>?_) Ys;go_simp;have c0:(w.alloc (.cells #[.int .i64 2,.int .i64 1] 37)).drew.cell? ⟨w.heap.size,0,none⟩=some (.int .i64 2):=by go_simp
 have c1:(w.alloc (.cells #[.int .i64 2,.int .i64 1] 37)).drew.cell? ⟨w.heap.size,1,none⟩=some (.int .i64 1):=by go_simp
 have hb:w.heap.size<(w.alloc (.cells #[.int .i64 2,.int .i64 1] 37)).drew.heap.size:=by simp[World.drew]
 have X0:Ext w (w.alloc (.cells #[.int .i64 2,.int .i64 1] 37)).drew:=((Yn w).alloc _).drew;refine(Gi _).mono ?_;rintro x w2 ⟨v2,nv2,rfl,ho2,hx2⟩;replace c0:=(hx2.cell (p:=⟨w.heap.size,0,none⟩) hb).trans c0;replace c1:=(hx2.cell (p:=⟨w.heap.size,1,none⟩) hb).trans c1;replace hb:=Zlr hb hx2.size;have Ho2:=Ya ho2;have X2:=Ya (X0.trans hx2);clear ho2 hx2 X0;go_simp;refine hK.out _ _ ⟨c0,c1⟩ (fun hHeld=>?_);clear hK K;try simp only[Act.put,Zv,Zu,Zt]
 refine Zlp (rs:=[2]) (by kernel_rfl) (by simp) ?_;refine Yt (o:=_) rfl (fun K hK=>?_) Ys;go_simp;refine(Du 2 1 50 _ _ _ Ho2.o (Pv nv2).1 (Pv nv2).2).mono ?_;rintro x w3 ⟨v3,rfl,hn3,hx3⟩;rw[Zna]at hn3⊢;replace c0:=(hx3.cell (p:=⟨w.heap.size,0,none⟩) hb).trans c0;replace c1:=(hx3.cell (p:=⟨w.heap.size,1,none⟩) hb).trans c1;replace hb:=Zlr hb hx3.size;have Hn3:=Ya hn3;have X3:=Ya (X2.o.trans hx3);clear hn3 hx3;go_simp;refine hK.out _ _ ⟨c0,c1⟩ (fun hHeld=>?_);clear hK K;try simp only[Act.put,Zv,Zu,Zt]
 refine Xz [3,4,5,6,7,8,9] 0 (by rfl) (by kernel_rfl) (by kernel_rfl) (fun _ _ d _ _ h=>by cases d<;>exact h) (by assumption) ?_;simp only[Z1,Z2,Z3,Zw,Zx];repeat(refine Xw (v:=?_) (by kernel_rfl) ?_ ?_;rotate_left;(focus((intro w hSw;(try dsimp only at hSw);go_simp);(first|done|(with_reducible rfl))));(try simp only[Act.put]);(try simp only[Zv]))
 refine Xv ?_;refine Zlb (by kernel_rfl) ?_ _;go_simp;clear hHeld;go_upto_region 3 with fail;refine Zli (S:=fun w'=>w'.cell? ⟨w.heap.size,0,none⟩=some (.int .i64 2)∧w'.cell? ⟨w.heap.size,1,none⟩=some (.int .i64 1)) (by kernel_rfl) ?_ (fun hHeld=>?_)
 ·exact⟨by go_simp,by go_simp⟩
 refine Zkh (i:=0) (oi:=_) (v:=?_) rfl (by kernel_rfl) (by kernel_rfl) (by kernel_rfl) (fun _ _ _ h=>h) (Or.inl ⟨by rfl,?_⟩) (by assumption) ?_;rotate_left;(focus((intro w hSw;(try dsimp only at hSw);go_simp);(first|done|(with_reducible rfl))));(try simp only[Act.put]);(try simp only[Zv]);refine Zlp (rs:=[1]) (by kernel_rfl) (by simp) ?_;refine Yt (o:=_) rfl (fun K hK=>?_) Ys;go_simp;refine(Gi _).mono ?_;rintro x w4 ⟨v4,nv4,rfl,ho4,hx4⟩;replace c0:=(hx4.cell (p:=⟨w.heap.size,0,none⟩) hb).trans c0;replace c1:=(hx4.cell (p:=⟨w.heap.size,1,none⟩) hb).trans c1;replace hb:=Zlr hb hx4.size;have Ho4:=Ya ho4;have Hn4:=Ya (Hn3.o.ext (Yj (Yn w3).drew hx4));have X4:=Ya (X3.o.trans (Yj (Yn w3).drew hx4));clear ho4 hx4;go_simp;refine hK.out _ _ ⟨c0,c1⟩ (fun hHeld=>?_);clear hK K;try simp only[Act.put,Zv,Zu,Zt]
 refine Zlp (rs:=[2]) (by kernel_rfl) (by simp) ?_;refine Yt (o:=_) rfl (fun K hK=>?_) Ys;go_simp;refine(Zwq 2 1 _ _ _ Ho4.o (Pv nv4).1 (Pv nv4).2).mono ?_;rintro x w5 ⟨rfl,hx5⟩;rw[Zne];replace c0:=(hx5.cell (p:=⟨w.heap.size,0,none⟩) hb).trans c0;replace c1:=(hx5.cell (p:=⟨w.heap.size,1,none⟩) hb).trans c1;have Hn5:=Ya (Hn4.o.ext hx5);have X5:=Ya (X4.o.trans hx5);clear hx5;go_simp;refine hK.out _ _ ⟨c0,c1⟩ (fun hHeld=>?_);clear hK K;try simp only[Act.put,Zv,Zu,Zt]
 refine Xz [3,4,5,6,7] 0 (by rfl) (by kernel_rfl) (by kernel_rfl) (fun _ _ d _ _ h=>by cases d<;>exact h) (by assumption) ?_;simp only[Z1,Z2,Z3,Zw,Zx];repeat(refine Xw (v:=?_) (by kernel_rfl) ?_ ?_;rotate_left;(focus((intro w hSw;(try dsimp only at hSw);go_simp);(first|done|(with_reducible rfl))));(try simp only[Act.put]);(try simp only[Zv]))
 refine Xv ?_;refine Zlb (by kernel_rfl) ?_ _;go_simp;clear hHeld c0 c1;go_wp2_with fail;refine(P2 v3 _ [1,0] _ _ _ (Hn5.o.ext ((Yn _).alloc _)) (Zyp _ _) (by simp)).mono ?_;rintro x w6 ⟨rfl,hx6⟩;have X6:=Ya (X5.o.trans (((Yn w5).alloc _).trans hx6));clear hx6;go_wp2_with fail;refine(Gi _).mono ?_;rintro x w7 ⟨v7,nv7,rfl,ho7,hx7⟩;have Ho7:=Ya ho7;have X7:=Ya (X6.o.trans hx7);clear ho7 hx7;go_wp2_with fail;refine(Tu _ _ _ Ho7.o (by simp[exL])).mono ?_;rintro x w8 ⟨v8,rfl,hn8,hx8⟩;rw[Zpc]at hn8;have Hn8:=Ya hn8;have X8:=Ya (X7.o.trans hx8);clear hn8 hx8;go_wp2_with fail;refine(P2 v8 _ [1,0] _ _ _ (Hn8.o.ext ((Yn _).alloc _)) (Zyp _ _) (by simp)).mono ?_;rintro x w9 ⟨rfl,hx9⟩;have X9:=Ya (X8.o.trans (((Yn w8).alloc _).trans hx9));clear hx9;go_wp2_with fail;go_ret;exact⟨rfl,X9.o⟩
theorem Zv9(cl cp:Int)(os:List Opn)(k:Nat):∀ (d left:Nat) (ord:List Nat),ord.length+d≤k→(Qn cl cp os d left ord).ord.length≤2*k
 | 0,_,ord,h=>by show ord.length≤_;omega
 | d+1,left,ord,h=>by
  have hr:∀ l (o:List Nat),o.length≤ord.length+1→(Qn cl cp os d l o).ord.length≤2*k:=fun l o ho=>Zv9 cl cp os k d l o (by omega)
  show(J9 cl cp os (Qn cl cp os d) (List.range os.length) left ord).ord.length≤2*k;have h2:∀ (c:List Nat) (left:Nat),(J9 cl cp os (Qn cl cp os d) c left ord).ord.length≤2*k:=by
   intro c
   induction c with
   | nil=>intro left;show ord.length≤_;omega
   | cons i c ih =>
    intro left;rw[J9];split
    ·exact ih left
    split
    ·show ord.length≤_;omega
    split
    ·exact ih (left-1)
    split
    ·split
     ·exact hr _ _ (by rw[Zs];exact Yp _)
     exact ih _
    exact ih (left-1)
  exact h2 _ left
theorem Zwl(cl cp:Int)(os:List Opn)(b:Int)(h:os.length≤4096):(Wm cl cp os b).1.length≤1000000:=by
 have h1:=Zv9 cl cp os os.length os.length b.toNat [] (by simp);unfold Wm;(repeat' split)<;>first|(show(0:Nat)≤_;omega)|(show(Qn cl cp os os.length b.toNat []).ord.length≤_;omega)
theorem Zwz{w:World}{S:Nat→Prop}{A:Option Addr}{n C:Nat}{os:List OpS}(h:Vy w S (.slice A n C) (os.map Subtype.val)){k:Nat}(hk:k≤os.length):Vy w S (.slice A k C) ((os.take k).map Subtype.val):=by
 have hl:((os.take k).map Subtype.val).length=k:=by rw[Zq,Zp];omega
 refine⟨?_,fun o ho=>h.2 o (by rw[List.map_take]at ho;exact Zjr ho)⟩;obtain⟨h1,A',c',hv,h2,h3,h4⟩:=h.1;cases hv
 rw[Zq]at h2 h4;refine⟨Gv _,A,C,by rw[hl],by rw[hl];omega,h3,fun h0=>?_⟩;obtain⟨g,o,e,hS,hg,hc⟩:=h4 (by omega);refine⟨g,o,e,hS,hg,fun j u hu=>hc j u ?_⟩;have e2:=Qs ((os.take k).map Subtype.val) ((os.drop k).map Subtype.val);rw[← Z9,Zjc]at e2;rw[e2,Ze (Zr.1 hu).1];exact hu
theorem Mj.take{os:List OpS}(h:Mj os)(k:Nat):Mj (os.take k):=⟨by rw[Zp];have:=h.1;omega,fun o ho=>h.2 o (Zjr ho)⟩
namespace historySearch
theorem walk(a0:Option Addr)(len0 cap0:Nat)(z0:List Int)(a1:Option Addr)(len1 cap1:Nat)(z1:List Int)(a2:Option Addr)(len2 cap2:Nat)(z2:List Int)(a3 a4 a5 a6:Int)(w:World)
 (w0:IsRow .i64 w a0 len0 cap0 z0) (w1:IsRow .i64 w a1 len1 cap1 z1) (w2:IsRow .i64 w a2 len2 cap2 z2) (_:I64 a3) (_:I64 a4) (_:I64 a5) (_:I64 a6) :
 Calls Tryz.prog 5 #[.slice a0 len0 cap0,.slice a1 len1 cap1,.slice a2 len2 cap2,.int .i64 a3,.int .i64 a4,.int .i64 a5,.int .i64 a6] w fun e w'=>e=.returned (.bool true)∧Below w.heap.size w w':=by
 have R0:=Ya (Km.of_row w0);have R1:=Ya (Km.of_row w1);have R2:=Ya (Km.of_row w2);clear w0 w1 w2;go_enter Tryz.func5,Tryz.ntmps5;go_wp2_with fail;refine(Znh _ _ _ _ _ _ _ _ _ true _ R0.o R1.o R2.o).mono ?_;rintro e wa ⟨cl,cp,v,os,rfl,ho,hf,hxa⟩;obtain⟨A,C,rfl⟩:=ho.shape;obtain⟨n,hn⟩:=gnX ((os.map Subtype.val).length);rw[hn];have Hn:=Ya (show os.length=n by rw[← hn,Zq]);have Oa:=Ya ho;have F:=Ya hf;have hn4:n≤4096:=by rw[← hn,Zq];exact hf.1
 obtain⟨_,A',C',hv,hnC,hCm,_⟩:=ho.1;simp only[Yg]at hv;obtain⟨-,-,rfl⟩:=hv;rw[hn]at hnC;unfold maxLen at hCm;clear ho hf;go_upto_if 39 with fail;have CB:=Ya (Xr.new wa #[.int .i64 cl,.int .i64 cp] 37);have xa:=(Yn wa).alloc (.cells #[.int .i64 cl,.int .i64 cp] 37);have Oa:=Ya (by have h:=Oa.o.ext xa;rwa [hn]at h);have Xa:=Ya (hxa.trans xa);obtain⟨cb,hcb⟩:=gnX (wa.heap.size);obtain⟨W1,hW1⟩:=gnX (wa.alloc (.cells #[.int .i64 cl,.int .i64 cp] 37));rw[hcb,hW1]at CB;rw[hW1]at Oa Xa;rw[hW1,hcb];clear hW1 hcb xa hxa hn;go_cut [16] (fun o wx=>wx=W1∧∃ os':List OpS,Vy W1 (fun _=>True) o (os'.map Subtype.val)∧Mj os');case first =>
  by_cases h6:6<n
  ·have d1:decide ((6:Int)<(n:Int))=true:=Yh;have c1:(6:Int)≤(C:Int):=by omega
   have c2:6≤C:=by omega
   go_wp2_with fail;go_meet;exact⟨by trivial,os.take 6,Zwz Oa.o (by rw[Hn.o];omega),F.o.take 6⟩
  have d1:decide ((6:Int)<(n:Int))=false:=Yi;go_wp2_with fail;go_meet;exact⟨by trivial,os,Oa.o,F.o⟩
 obtain⟨rfl,o1,ho1,hf1⟩:=hcut;rename World=>W1
 clear Oa F Hn hn4 hnC hCm;obtain⟨A1,C1,rfl⟩:=ho1.shape;obtain⟨n1,hn1⟩:=gnX ((o1.map Subtype.val).length);have O1:=Ya ho1;have F1:=Ya hf1;rw[hn1]at O1⊢;obtain⟨q,hq⟩:=gnX (Qi a3 3);have HH:=Ya hq;clear ho1 hf1 hn1 hq;go_upto_if 44 with(go_at_call 23;refine(pick_any _ _ (by omega) (by omega) _).mono ?_;rintro e w' ⟨rfl,rfl⟩;first|rw[HH.o]|rw[HB.o]);go_cut [16] (fun o wx=>Ext W1 wx∧∃ os':List OpS,Vy wx (fun _=>True) o (os'.map Subtype.val)∧Mj os');case first =>
  cases h0:(q==0)
  ·go_wp2_with fail;go_meet;exact⟨Yn _,o1,O1.o,F1.o⟩
  go_wp2_with fail;refine(Ik _ o1 _ _ _ _ O1.o F1.o).mono ?_;rintro e wb ⟨vx,ox,rfl,hox,hfx,hxb⟩;have Ox:=Ya hox;have Fx:=Ya hfx;have Xb:=Ya hxb;clear hox hfx hxb;go_wp2_with fail;go_meet;exact⟨Xb.o,ox,Ox.o,Fx.o⟩
 obtain⟨hx2,o2,ho2,hf2⟩:=hcut;rename World=>w2
 have X2:=Ya (Xa.o.trans hx2);have C2:=Ya (CB.o.ext hx2);have O2:=Ya ho2;have F2:=Ya hf2;have F2l:=Ya (show(o2.map Subtype.val).length≤4096 by rw[Zq];exact hf2.1);obtain⟨A2,C2',rfl⟩:=ho2.shape;obtain⟨n2,hn2⟩:=gnX ((o2.map Subtype.val).length);rw[hn2]at O2⊢;clear ho2 hf2 hx2 O1 F1 HH Xa CB hn2;obtain⟨q,hq⟩:=gnX (Qi a6 400);have hqb:=Vh a6 400 (by omega);rw[hq]at hqb;have HB:=Ya hq;have rq:IntKind.i64.wrap (1+q)=1+q:=Yr _ (by omega);obtain⟨⟨s1,s2,s3⟩,hs⟩:∃ p,Wm cl cp (o2.map Subtype.val) (1+q)=p:=⟨_,rfl⟩;have hsl:=Zwl cl cp (o2.map Subtype.val) (1+q) F2l.o;rw[hs]at hsl;have Hs:=Ya hs;clear hq hs;go_upto_region 7 with(go_at_call 23;refine(pick_any _ _ (by omega) (by omega) _).mono ?_;rintro e w' ⟨rfl,rfl⟩;first|rw[HH.o]|rw[HB.o]);have c0:=C2.o.at_ 0 (by simp);have c1:=C2.o.at_ 1 (by simp);simp only[Zx,Zw]at c0 c1;go_wp2_with fail;refine((Du cl cp (1+q) _ _ _ O2.o F2.o.fits F2.o.keys)).mono ?_;rintro e w3 ⟨v3,rfl,hnv,hx⟩;have X3:=Ya (X2.o.trans hx);have C3:=Ya (C2.o.ext hx);have O3:=Ya (O2.o.ext hx);clear c0 c1;rw[Hs.o]at hnv⊢;have N3:=Ya hnv;clear hnv;have c0:=C3.o.at_ 0 (by simp);have c1:=C3.o.at_ 1 (by simp);simp only[Zx,Zw]at c0 c1;go_wp2_with fail;refine((Lb cl cp (1+q) _ _ _ O3.o F2.o.ticks)).mono ?_;rintro e w4 ⟨v4,rfl,hnv,hx⟩;have X4:=Ya (X3.o.trans hx);have C4:=Ya (C3.o.ext hx);have O4:=Ya (O3.o.ext hx);clear c0 c1;rw[Hs.o]at hnv⊢;have N4:=Ya hnv;have N3:=Ya (N3.o.ext hx);clear hnv hx;have c0:=C4.o.at_ 0 (by simp);have c1:=C4.o.at_ 1 (by simp);simp only[Zx,Zw]at c0 c1;go_wp2_with fail;refine((Du cl cp _ _ _ _ O4.o F2.o.fits F2.o.keys)).mono ?_;rintro e w5 ⟨v5,rfl,hnv,hx⟩;have X5:=Ya (X4.o.trans hx);have C5:=Ya (C4.o.ext hx);have O5:=Ya (O4.o.ext hx);clear c0 c1;clear hnv;have N4:=Ya (N4.o.ext hx);have N3:=Ya (N3.o.ext hx);clear hx;have c0:=C5.o.at_ 0 (by simp);have c1:=C5.o.at_ 1 (by simp);simp only[Zx,Zw]at c0 c1;go_wp2_with fail;refine((Lb cl cp _ _ _ _ O5.o F2.o.ticks)).mono ?_;rintro e w6 ⟨v6,rfl,hnv,hx⟩;have X6:=Ya (X5.o.trans hx);have C6:=Ya (C5.o.ext hx);have O6:=Ya (O5.o.ext hx);clear c0 c1;clear hnv;have N4:=Ya (N4.o.ext hx);have N3:=Ya (N3.o.ext hx);clear hx;have q1:(s2==s2)=true:=by simp
 have q2:(s3==s3)=true:=by simp
 go_wp2_with fail;refine(Im _).mono ?_;rintro e w7 ⟨rfl,hx⟩;have N4:=Ya (N4.o.ext hx);have N3:=Ya (N3.o.ext hx);have X7:=Ya (X6.o.trans hx);clear hx;go_wp2_with fail;refine(P2 _ _ s1 _ _ _ N3.o N4.o hsl).mono ?_;rintro e w8 ⟨rfl,hx⟩;have X8:=Ya (X7.o.trans hx);clear hx;go_wp2_with fail;go_ret;exact⟨rfl,X8.o.below⟩
end historySearch
end Go.Proofs.YtnbclgbicnpmnaaGreat
