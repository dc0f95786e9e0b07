/- Lemmas of this claim: Mk, Kt. Conditions: as named. -/
import Derived.Test.YtnbclgbicnpmnaaGreatA17
import Derived.Test.YtnbclgbicnpmnaaGreatA18
import Derived.Test.YtnbclgbicnpmnaaGreatA24
import Derived.Test.YtnbclgbicnpmnaaGreatA28
import Derived.Test.YtnbclgbicnpmnaaGreatA34
import Derived.Test.YtnbclgbicnpmnaaGreatA38
namespace Go.Proofs.YtnbclgbicnpmnaaGreat
open Go.RowKit Go.Sort
set_option maxHeartbeats 0
set_option maxRecDepth 100000
set_option linter.all false
theorem Ext.alloc_box{w:World}{T:Tbl}{a b:Array Value}{t t2:TypeId}(h:Ext w ((w.alloc (Xe T)).alloc (.cells a t))):Ext w ((w.alloc (Xe T)).alloc (.cells b t2)):=((Yn w).alloc _).alloc _
def sliceLen:Value→Nat | .slice _ n _=>n|_=>0
theorem Znu{w:World}{v:Value}{l:List Nm}{c j n:Nat}{u:Value}(h:Rd w (fun k=>c<k∧n≤k) 3 v l.length (Wq l)):Rd (w.setCell ⟨c,j,none⟩ u) (fun k=>c<k∧n≤k) 3 v l.length (Wq l):=Rd.chg h ((Chg.refl (· = c) w).setCell (p:=⟨c,j,none⟩) (.inl rfl) u) (fun k hk e=>by omega)
def Zrx(w:World)(e:Ending)(w':World):Prop:=∃ (nv av:Value) (ns:List Nm) (r:Ay),e=.returned (.tuple #[nv,av,Wy r])∧Wf w' (fun k=>w.heap.size≤k) nv ns∧(r.e=0→1≤ns.length∧ns.length≤16∧KS ns)∧(nv.oneCell'=true∧0≤r.tick)∧Ext w w'
theorem Zpf(w:World)(a u k:ByteArray)(t:TypeId)(g:Nat)(hg:w.heap.size=g):RdE nmE (w.alloc (.cells #[.string a,.string u,.string k] t)) (fun _=>True) (.slice (some ⟨g,0,none⟩) 1 1) [⟨a,u,k⟩]:=by
 subst hg;exact Va w #[.string a,.string u,.string k] t 3 rfl
theorem Zqv{S R:Nat→Prop}(T:Tbl)(hf:Few T)(hu:Uq T)(v:Value)(l:List ByteArray)(w:World)(h:Xn w S T)(hl:RdE Q8 w R v l):Calls Tryz.prog 171 #[Vt T,v] w (Zrx w):=by
 obtain⟨A,C,rfl,hlC,hC⟩:=hl.shape;obtain⟨n,hn⟩:=gnX (l.length);have HL0:=Ya hl;rw[hn]at hlC⊢;have Hnn:=Ya hn;clear hl hn;have X0:=Ya ((Yn w).alloc (Xe T));have H:=Ya (h.up X0.o);have Hb0:=Ya (Xo w T);clear h;have Hf:=Ya hf;have Hu:=Ya hu;clear hf hu;have hz0:=De (w.alloc (Xe T));obtain⟨rb,hrb⟩:=gnX ((w.alloc (Xe T)).heap.size);have hrb2:w.heap.size+1=rb:=by rw[← hrb];simp
 rw[hrb]at hz0;have hx0:=X0.o.alloc (.cells #[.int .i64 0,.int .i64 0,.string ⟨#[]⟩,.int .i64 0,.int .i64 0,.string ⟨#[]⟩,.int .i64 0,.int .i64 0] 53);have h01:=(Yn (w.alloc (Xe T))).alloc (.cells #[.int .i64 0,.int .i64 0,.string ⟨#[]⟩,.int .i64 0,.int .i64 0,.string ⟨#[]⟩,.int .i64 0,.int .i64 0] 53);by_cases hn0:n=0
 ·subst hn0;go_enter Tryz.func171,Tryz.ntmps171;go_wp2_with (first|(refine Xx rfl ?_));refine Yu (v:=.tuple #[.slice none 0 0,.slice none 0 0,Wy ⟨10,(-1),⟨#[]⟩,default,0⟩]) (by simp[results,Tryz.results171,go_sem,Wy,Qz, *]) rfl ⟨.slice none 0 0,.slice none 0 0,[],⟨10,(-1),⟨#[]⟩,default,0⟩,rfl,Rd.nil _ _ _,fun h=>absurd h (by decide),⟨rfl,Zkc _⟩,?_⟩;exact hx0.alloc_box
 have e0:((n:Int)==0)=false:=by simp;omega
 have e00:(n==0)=false:=by simp;omega
 have e000:¬ (n:Int)=0:=by omega
 by_cases h16:16<n
 ·have e1:decide ((16:Int)<(n:Int))=true:=Yh;go_enter Tryz.func171,Tryz.ntmps171;go_wp2_with (first|(refine Xx rfl ?_));refine Yu (v:=.tuple #[.slice none 0 0,.slice none 0 0,Wy ⟨7,(-1),⟨#[]⟩,default,0⟩]) (by simp[results,Tryz.results171,go_sem,Wy,Qz, *]) rfl ⟨.slice none 0 0,.slice none 0 0,[],⟨7,(-1),⟨#[]⟩,default,0⟩,rfl,Rd.nil _ _ _,fun h=>absurd h (by decide),⟨rfl,Zkc _⟩,?_⟩;exact hx0.alloc_box
 have e1:decide ((16:Int)<(n:Int))=false:=Yi;go_enter Tryz.func171,Tryz.ntmps171;go_wp2_with (first|(refine Xx rfl ?_));obtain⟨W0,hW0⟩:=gnX ((w.alloc (Xe T)).alloc (.cells #[.int .i64 0,.int .i64 0,.string ⟨#[]⟩,.int .i64 0,.int .i64 0,.string ⟨#[]⟩,.int .i64 0,.int .i64 0] 53));rw[hW0]at hz0 hx0 h01;rw[hW0];have HZ0:=Ya hz0;have HX0:=Ya hx0;have H1:=Ya (H.o.up h01);have Hb1:=Ya (Hb0.o.ext h01);have hrw:w.heap.size≤rb:=by omega
 have Hrw:=Ya hrw;have HL:=Ya (HL0.o.ext HX0.o);obtain⟨B,hB⟩:=gnX (W0.heap.size);have HB:=Ya hB;have HwB:=Ya (show w.heap.size≤B by rw[← hB];exact hx0.size);clear hz0 hx0 h01 hW0 hrw hB HL0 X0 H Hb0 hrb hrb2;go_loopw [28,7] (fun o u wr=>∃ (i:Nat) (L:List Nm),i≤n∧o=.int .i64 (i:Int)∧Own nmE wr B u L∧L.length=i∧Ext W0 wr∧KS L) (fun o _ _=>n-(intOf o).toNat);case atStart=>exact⟨0,[],by omega,rfl,Own.nil _ _ _,rfl,Yn _,KS.nil⟩
 obtain⟨i,L,hi,rfl,ho,hLn,hx,hKS⟩:=hrel;have HKS:=Ya hKS;clear hKS;obtain⟨A1,C1,rfl,hlC1,hC1⟩:=ho.shape;try rw[hLn]at ho
 try rw[hLn]
 rw[hLn]at hlC1;have Hx:=Ya hx;have Ho:=Ya ho;have HLn:=Ya hLn;have hBw:B≤wr.heap.size:=by rw[← HB.o];exact hx.size
 have HBw:=Ya hBw;clear hx ho hLn;by_cases hlt:i<n
 ·obtain⟨hd_i,i0_i,i1_i⟩:=LTl i n;obtain⟨x,hx0⟩:=geX (l:=l) (i:=i) (by rw[Hnn.o];exact hlt);obtain⟨g,o,c,hv,_,_,_,hg,c0⟩:=strs_get (HL.o.ext Hx.o) hx0;rw[Hnn.o]at hv;simp only[Yg]at hv;obtain⟨rfl,-,rfl⟩:=hv;clear hx0;go_wp2_with (refine Y4 (Hb1.o.ext Hx.o) rfl ?_);refine(Zvd T Hf.o Hu.o x _ (H1.o.up Hx.o)).mono ?_;rintro e w2 ⟨a,u,k,z,rfl,ha,hu2,hk,hx2⟩;have Hx2:=Ya (Hx.o.trans hx2);have Ho2:=Ya (Ho.o.ext hx2);have hB2:B≤w2.heap.size:=Zlo HBw.o hx2.size;clear hx2 c0;by_cases hz:z=0
  ·subst hz;go_wp2_with (at_builtin;(refine Xu nmE _ _ _ rfl rfl rfl rfl (Ho2.o.ext (((Yn _).alloc _).alloc _)) rfl (Zpf _ a u k _ _ (by first|rfl|simp)) (by rw[HLn.o];show _+1≤_;omega) (by show 48≤1000;omega) (by simp;omega) ?_;intro A5 n5 c5 w5 hg5;have Hx5:=Ya (hg5.ext W0 ((Hx2.o.alloc _).alloc _) (by rw[HB.o];exact Yp _));have Hg5:=Ya hg5;clear hg5));go_roundw;case rel=>exact⟨i+1,_,by omega,by go_num,Hg5.o.own,by rw[Zs,HLn.o];rfl,Hx5.o,HKS.o.snoc hk⟩
   (simp[intOf];omega)
  have hzb:(!(z==0))=true:=by simp[hz]
  have hzc:(z !=0)=true:=hzb;have hzd:(z==0)=false:=by simp[hz]
  have hzH:=Ya hz;clear hz;obtain⟨y0,y1,y2,y3,y4,y5,y6,y7,yf,yl⟩:=HZ0.o.ext (Hx2.o.alloc (.cells #[.string a,.string u,.string k] 109));go_wp2_with fail;refine Yu (v:=.tuple #[.slice none 0 0,.slice none 0 0,Wy ⟨z,(i:Int),⟨#[]⟩,default,0⟩]) (by simp[results,Tryz.results171,go_sem,Wy,Qz, *]) rfl ⟨.slice none 0 0,.slice none 0 0,[],⟨z,(i:Int),⟨#[]⟩,default,0⟩,rfl,Rd.nil _ _ _,fun h=>absurd h hzH.o,⟨rfl,Zkc _⟩,?_⟩;(repeat refine Yc ?_ Hrw.o _)
  exact HX0.o.trans (Hx2.o.alloc _)
 have hd_i:=GEl i n;obtain rfl:i=n:=by omega
 obtain⟨B2,hB2⟩:=gnX (wr.heap.size);have HB2:=Ya hB2;have HrB:=Ya (show rb<B2 by rw[← hB2];exact(HZ0.o.ext Hx.o).lt);have HwB2:=Ya (show w.heap.size≤B2 by rw[← hB2];exact Zlo HwB.o hBw);have HN:=Ya (show Wf wr (fun k=>B≤k) (.slice A1 L.length C1) L from by have:=Ho.o;rw[← HLn.o]at this;exact this.rd);have hXW:=HX0.o.trans Hx.o;have HXW:=Ya hXW;have HZ1:=Ya (HZ0.o.ext Hx.o);unfold maxLen at hC1;clear hB2 hBw HBw Ho Hx HB Hb1 H1 HZ0 HX0 hXW;go_wp2_with fail;go_loopw [12,13] (fun u v wr2=>∃ (out:List Nm) (av:List Int),Own nmE wr2 B2 u out∧Own Wk wr2 B2 v av∧(∀ k,u.ownBlock=some k→v.ownBlock≠some k)∧Gn L (Cw out)=out.length∧out.length≤i∧av.length=out.length∧Ext wr wr2∧KS out) (fun u _ _=>i-sliceLen u);case atStart=>exact⟨[],[],Own.nil _ _ _,Own.nil _ _ _,(by intro k h;cases h),Ii L,by simp,rfl,Yn _,KS.nil⟩
 rename World=>wq
 obtain⟨out,av,hou,hav,hne,hch,hol,hal,hx,hKo⟩:=hrel;have HKo:=Ya hKo;clear hKo;obtain⟨A2,C2,rfl,hlC2,hC2⟩:=hou.shape;obtain⟨A3,C3,rfl,hlC3,hC3⟩:=hav.shape;obtain⟨m,hm⟩:=gnX (out.length);rw[hal]at hav hlC3 hne⊢;rw[hm]at hou hlC2 hol hch hav hlC3 hne⊢;have Hm:=Ya hm;have Hal:=Ya (hal.trans hm);have Hou:=Ya hou;have Hav:=Ya hav;have Hne:=Ya hne;have Hch:=Ya hch;have Hx:=Ya hx;have hBw2:B2≤wq.heap.size:=by rw[← HB2.o];exact hx.size
 have HBw2:=Ya hBw2;unfold maxLen at hC2;clear hal hm hou hav hne hch hx hBw2;by_cases hlt:m<i
 ·obtain⟨hd_m,i0_m,i1_m⟩:=LTl m i;go_wp2_with fail;obtain⟨o9,ho9⟩:=gnX (Cw out);have Ho9:=Ya ho9;clear ho9;go_loopw [56,14] (fun o z wx=>∃ (j:Nat) (Z:Int),j≤i∧o=.int .i64 (j:Int)∧z=.int .i64 Z∧Sel L o9 j Z∧Ext wq wx) (fun o _ _=>i-(intOf o).toNat);case atStart=>exact⟨0,-1,by omega,rfl,rfl,Sel.start _ _,Yn _⟩
  rename World=>wi
  obtain⟨j,Z,hj,rfl,rfl,hsel,hxi⟩:=hrel;have Hsel:=Ya hsel;have Hxi:=Ya hxi;clear hxi;by_cases hji:j<i
  ·obtain⟨hd_j,i0_j,i1_j⟩:=LTl j i;obtain⟨nm,hnm⟩:=geX (l:=L) (i:=j) (by rw[HLn.o];exact hji);obtain⟨g,o,c,hv,_,_,_,hg,hcell⟩:=(HN.o.ext (Hx.o.trans Hxi.o)).get (j:=j) (by rw[HLn.o];exact hji);rw[HLn.o]at hv;simp only[Yg]at hv;obtain⟨rfl,-,rfl⟩:=hv;obtain⟨q0,q1,q2⟩:=hcell j nm hnm;have hzc:=Hsel.o.at_;go_wp2_with fail;have q9:(wi.alloc (.cells #[.string nm.a,.string nm.u,.string nm.k] 109)).cell? ⟨wi.heap.size,2,none⟩=some (.string nm.k):=by go_simp
   have m9:=lat q9;have Hnm:=Ya hnm;clear q0 q1 q2 q9 hsel hnm;rcases Zkv m with hm0|hm0
   ·have hob:Behind o9 nm=true:=by
     have h1:out=[]:=Zl6 (by rw[Hm.o];exact hm0);rw[← Ho9.o,h1];rfl
    have Hb:=Ya hob;have k1:((m:Int)==0)=true:=by simp;omega
    have k2:(m==0)=true:=by simp;omega
    clear hob hm0;rcases hzc with rfl | ⟨k,mk,rfl,hk,hmk⟩
    ·clear hcell;have hun:=Yd;refine Y0 (by kernel_rfl) (by kernel_rfl) ?_;repeat((with_reducible refine Yw ?_);intro K hK;go_simp;(with_reducible refine hK _ ?_);clear hK K)
     (with_reducible refine Yv ?_)
     intro w9 hy9;clear hun;try simp only[Ye]
     go_wp2_with fail;go_roundw;case rel=>exact⟨j+1,_,by omega,by go_num,rfl,(Hsel.o.first Hnm.o Hb.o),(Hxi.o.alloc _).trans hy9⟩
     (simp[intOf];omega)
    have z1:decide ((k:Int)<0)=false:=Yi;have z2:(0:Int)≤(k:Int):=by omega
    have z3:(k:Int)<(i:Int):=by omega
    have z4:k<i:=by omega
    obtain⟨p0,p1,p2⟩:=hcell k mk hmk;have m8:=lat (((((Yn wi).alloc (.cells #[.string nm.a,.string nm.u,.string nm.k] 109))).cell (p:=⟨g,o+k*3+2,none⟩) hg).trans p2);have Hmk:=Ya hmk;clear p0 p1 p2 hcell hmk;by_cases hl:kb nm.k<kb mk.k
    ·have l1:=Sh hl;have Hl:=Ya hl;clear hl;have hun:=Yd;refine Y0 (by kernel_rfl) (by kernel_rfl) ?_;repeat((with_reducible refine Yw ?_);intro K hK;go_simp;(with_reducible refine hK _ ?_);clear hK K)
     (with_reducible refine Yv ?_)
     intro w9 hy9;clear hun;try simp only[Ye]
     go_wp2_with fail;go_roundw;case rel=>exact⟨j+1,_,by omega,by go_num,rfl,(Hsel.o.less Hmk.o Hnm.o Hb.o Hl.o),(Hxi.o.alloc _).trans hy9⟩
     (simp[intOf];omega)
    have l1:=N0 hl;have Hl:=Ya hl;clear hl;have hun:=Yd;refine Y0 (by kernel_rfl) (by kernel_rfl) ?_;repeat((with_reducible refine Yw ?_);intro K hK;go_simp;(with_reducible refine hK _ ?_);clear hK K)
    (with_reducible refine Yv ?_)
    intro w9 hy9;clear hun;try simp only[Ye]
    go_wp2_with fail;go_roundw;case rel=>exact⟨j+1,_,by omega,by go_num,rfl,(Hsel.o.keep Hmk.o Hnm.o Hl.o),(Hxi.o.alloc _).trans hy9⟩
    (simp[intOf];omega)
   have k1:((m:Int)==0)=false:=by simp;omega
   have k2:(m==0)=false:=by simp;omega
   have k3:¬ (m:Int)=0:=by omega
   obtain⟨r,hr⟩:=gnX (m-1);obtain⟨y,hy⟩:=geX (l:=out) (i:=r) (by rw[Hm.o];omega);have hlk:Cw out=some (kb y.k):=Zqz (by rw[Hm.o,hr];exact hy);have r1:IntKind.i64.wrap ((m:Int)-1)=(r:Int):=by rw[Yr _ (by omega)];omega
   have r2:(0:Int)≤(r:Int):=by omega
   have r3:(r:Int)<(m:Int):=by omega
   have r4:r<m:=by omega
   have HO:=Ya (show Wf wi (fun k=>B2≤k) (.slice A2 out.length C2) out from by have:=Hou.o.ext Hxi.o;rw[← Hm.o]at this;exact this.rd);obtain⟨g2,o2,c2,hv2,_,_,_,hg2,hcell2⟩:=HO.o.get (j:=r) (by rw[Hm.o];exact r4);rw[Hm.o]at hv2;simp only[Yg]at hv2;obtain⟨rfl,-,rfl⟩:=hv2;obtain⟨p0,p1,p2⟩:=hcell2 r y hy;have m7:=lat (((((Yn wi).alloc (.cells #[.string nm.a,.string nm.u,.string nm.k] 109))).cell (p:=⟨g2,o2+r*3+2,none⟩) hg2).trans p2);have hoy:o9=some (kb y.k):=by rw[← Ho9.o,hlk]
   clear p0 p1 p2 hcell2 hr hy hlk;by_cases hbe:kb y.k<kb nm.k
   ·obtain⟨l2,l3⟩:=Zo3 hbe;have Hb:=Ya (show Behind o9 nm=true by rw[hoy];simp[Behind,hbe]);clear hbe hoy;rcases hzc with rfl | ⟨k,mk,rfl,hk,hmk⟩
    ·clear hcell;have hun:=Yd;refine Y0 (by kernel_rfl) (by kernel_rfl) ?_;repeat((with_reducible refine Yw ?_);intro K hK;go_simp;(with_reducible refine hK _ ?_);clear hK K)
     (with_reducible refine Yv ?_)
     intro w9 hy9;clear hun;try simp only[Ye]
     go_wp2_with fail;go_roundw;case rel=>exact⟨j+1,_,by omega,by go_num,rfl,(Hsel.o.first Hnm.o Hb.o),(Hxi.o.alloc _).trans hy9⟩
     (simp[intOf];omega)
    have z1:decide ((k:Int)<0)=false:=Yi;have z2:(0:Int)≤(k:Int):=by omega
    have z3:(k:Int)<(i:Int):=by omega
    have z4:k<i:=by omega
    obtain⟨p0,p1,p2⟩:=hcell k mk hmk;have m8:=lat (((((Yn wi).alloc (.cells #[.string nm.a,.string nm.u,.string nm.k] 109))).cell (p:=⟨g,o+k*3+2,none⟩) hg).trans p2);have Hmk:=Ya hmk;clear p0 p1 p2 hcell hmk;by_cases hl:kb nm.k<kb mk.k
    ·have l1:=Sh hl;have Hl:=Ya hl;clear hl;have hun:=Yd;refine Y0 (by kernel_rfl) (by kernel_rfl) ?_;repeat((with_reducible refine Yw ?_);intro K hK;go_simp;(with_reducible refine hK _ ?_);clear hK K)
     (with_reducible refine Yv ?_)
     intro w9 hy9;clear hun;try simp only[Ye]
     go_wp2_with fail;go_roundw;case rel=>exact⟨j+1,_,by omega,by go_num,rfl,(Hsel.o.less Hmk.o Hnm.o Hb.o Hl.o),(Hxi.o.alloc _).trans hy9⟩
     (simp[intOf];omega)
    have l1:=N0 hl;have Hl:=Ya hl;clear hl;have hun:=Yd;refine Y0 (by kernel_rfl) (by kernel_rfl) ?_;repeat((with_reducible refine Yw ?_);intro K hK;go_simp;(with_reducible refine hK _ ?_);clear hK K)
    (with_reducible refine Yv ?_)
    intro w9 hy9;clear hun;try simp only[Ye]
    go_wp2_with fail;go_roundw;case rel=>exact⟨j+1,_,by omega,by go_num,rfl,(Hsel.o.keep Hmk.o Hnm.o Hl.o),(Hxi.o.alloc _).trans hy9⟩
    (simp[intOf];omega)
   have l2:=Zr2 hbe;have Hb:=Ya (show Behind o9 nm=false by rw[hoy];simp[Behind,hbe]);clear hbe hoy hcell hzc;have hun:=Yd;refine Y0 (by kernel_rfl) (by kernel_rfl) ?_;repeat((with_reducible refine Yw ?_);intro K hK;go_simp;(with_reducible refine hK _ ?_);clear hK K)
   (with_reducible refine Yv ?_)
   intro w9 hy9;clear hun;try simp only[Ye]
   go_wp2_with fail;go_roundw;case rel=>exact⟨j+1,_,by omega,by go_num,rfl,(Hsel.o.skip Hnm.o Hb.o),(Hxi.o.alloc _).trans hy9⟩
   (simp[intOf];omega)
  have hd_j:=GEl j i;obtain rfl:j=i:=by omega
  have hseln:Sel L o9 L.length Z:=by rw[HLn.o];exact hsel
  obtain⟨k,mk,rfl,hk,hmk,hbk,hmin,hfirst⟩:=hseln.found (by rw[← Ho9.o,Hch.o,HLn.o];exact hlt);rw[HLn.o]at hk;have Hmk:=Ya hmk;have Hbk:=Ya hbk;have Hmin:=Ya hmin;have Hfirst:=Ya hfirst;obtain⟨K1,hK1⟩:=gnX (k+1);have r1:IntKind.i64.wrap ((k:Int)+1)=(K1:Int):=by rw[Yr _ (by omega)];omega
  clear hseln hsel hmk hbk hmin hfirst Hsel;go_wp2_with fail;go_loopw [17] (fun o wx=>∃ q:Nat,K1≤q∧q≤j∧o=.int .i64 (q:Int)∧(∀ p x,k<p→p<q→L[p]?=some x→x.k≠mk.k)∧Ext wi wx) (fun o _=>j-(intOf o).toNat);case atStart=>exact⟨K1,by omega,by omega,rfl,fun p x h1 h2=>by omega,Yn _⟩
  rename World=>w4
  obtain⟨q,hq1,hq2,rfl,htw,hx4⟩:=hrel;have Htw:=Ya htw;have HX4:=Ya (Hxi.o.trans hx4);have HXi4:=Ya hx4;clear htw hx4;by_cases hqj:q<j
  ·obtain⟨hd_q,i0_q,i1_q⟩:=LTl q j;obtain⟨nq,hnq⟩:=geX (l:=L) (i:=q) (by rw[HLn.o];exact hqj);obtain⟨g,o,c,hv,_,_,_,hg,hcell⟩:=(HN.o.ext (Hx.o.trans HX4.o)).get (j:=q) (by rw[HLn.o];exact hqj);rw[HLn.o]at hv;simp only[Yg]at hv;obtain⟨rfl,-,rfl⟩:=hv;obtain⟨q0,q1,q2⟩:=hcell q nq hnq;obtain⟨p0,p1,p2⟩:=hcell k mk Hmk.o;have m1:=lat q2;have m2:=lat p2;have z2:(0:Int)≤(k:Int):=by omega
   have z3:(k:Int)<(j:Int):=by omega
   have Hnq:=Ya hnq;clear p0 p1 q1 hcell hnq;cases heq:(nq.k.toList==mk.k.toList)
   ·have heq2:¬ nq.k.toList=mk.k.toList:=by simpa using heq
    have hne2:nq.k≠mk.k:=fun e=>heq2 (by rw[e])
    have Hne2:=Ya hne2;clear hne2 q0;go_wp2_with fail;have hun:=Yd;refine Y0 (by kernel_rfl) (by kernel_rfl) ?_;repeat((with_reducible refine Yw ?_);intro K hK;go_simp;(with_reducible refine hK _ ?_);clear hK K)
    (with_reducible refine Yv ?_)
    intro w9 hy9;clear hun;try simp only[Ye]
    go_wp2_with fail;go_roundw;case rel =>
     refine⟨q+1,by omega,by omega,by go_num,fun p x h1 h2 h3=>?_,HXi4.o.trans hy9⟩;rcases(show p<q∨p=q by omega)with h4|rfl
     ·exact Htw.o p x h1 h4 h3
     rw[Hnq.o]at h3;cases h3;exact Hne2.o
    case measure=>(simp[intOf];omega)
   have heq2:nq.k.toList=mk.k.toList:=by simpa using heq
   clear heq2;go_wp2_with fail;have hun:=Yd;refine Y0 (by kernel_rfl) (by kernel_rfl) ?_;repeat((with_reducible refine Yw ?_);intro K hK;go_simp;(with_reducible refine hK _ ?_);clear hK K)
   (with_reducible refine Yv ?_)
   intro w9 hy9;clear hun;try simp only[Ye]
   have q0':=(hy9.cell (p:=⟨g,o+q*3,none⟩) hg).trans q0;have HX9:=Ya (HX4.o.trans hy9);clear q0 q2 p2 m1 m2 hy9;obtain⟨y0,y1,y2,y3,y4,y5,y6,y7,yf,yl⟩:=HZ1.o.ext (Hx.o.trans HX9.o);go_wp2_with fail;go_region;all_goals
    go_wp2_with fail;refine Yu (v:=.tuple #[.slice none 0 0,.slice none 0 0,Wy ⟨22,(q:Int),nq.a,default,0⟩]) (by simp[results,Tryz.results171,go_sem,Wy,Qz, *]) rfl ⟨.slice none 0 0,.slice none 0 0,[],⟨22,(q:Int),nq.a,default,0⟩,rfl,Rd.nil _ _ _,fun h=>absurd h (show ¬ (22:Int)=0 by decide),⟨rfl,Zkc _⟩,?_⟩;(first|refine Yk ?_|refine Yl ?_ _|skip)
    (repeat refine Yc ?_ Hrw.o _)
    first|exact HXW.o.trans (Hx.o.trans HX9.o)|exact(HXW.o.trans (Hx.o.trans HX9.o)).drew|exact(HXW.o.trans (Hx.o.trans HX9.o)).drewN _
  have hd_q:=GEl q j;obtain rfl:q=j:=by omega
  obtain⟨g,o,c,hv,_,_,_,hg,hcell⟩:=(HN.o.ext (Hx.o.trans HX4.o)).get (j:=k) (by rw[HLn.o];exact hk);rw[HLn.o]at hv;simp only[Yg]at hv;obtain⟨rfl,-,rfl⟩:=hv;obtain⟨p0,p1,p2⟩:=hcell k mk Hmk.o;have z2:(0:Int)≤(k:Int):=by omega
  have z3:(k:Int)<(q:Int):=by omega
  have V4:=Ya (Hou.o.ext HX4.o);have U4:=Ya (Hav.o.ext HX4.o);have hB4:B2≤w4.heap.size:=Zlo HBw2.o HX4.o.size;clear hcell;go_wp2_with (first|(at_builtin;(refine Xu nmE _ _ _ rfl rfl rfl rfl (V4.o.ext ((Yn _).alloc _)) rfl (Zpf w4 mk.a mk.u mk.k _ _ rfl) (by rw[Hm.o];show m+1≤_;omega) (by show 48≤1000;omega) (by simp;omega) ?_;intro A5 n5 c5 w5 hg5;have H5:=Ya hg5;have X5:=Ya (hg5.ext wr ((Hx.o.trans HX4.o).alloc _) (by rw[HB2.o];exact Yp _));have U5:=Ya ((U4.o.ext ((Yn _).alloc _)).chg hg5.chg (fun kk h1 h2=>Hne.o kk h2 h1));have hB5:B2≤w5.heap.size:=(by rw[← HB2.o];exact X5.o.size);clear hg5))|(at_builtin;(refine Xu Wk _ _ _ rfl rfl rfl rfl (U5.o.ext ((Yn _).alloc _)) rfl (Ww w5 (k:Int) _ _ rfl) (by rw[Hal.o];show m+1≤_;omega) (by show 8≤1000;omega) (by simp;omega) ?_;intro A6 n6 c6 w6 hg6;have H6:=Ya hg6;have X6:=Ya (hg6.ext wr (X5.o.alloc _) (by rw[HB2.o];exact Yp _));clear hg6)));go_roundw;case rel =>
   have hlt5:∀ kk,(Value.slice A5 n5 c5).ownBlock=some kk→kk<w5.heap.size:=fun kk h=>(H5.o.own.lt kk h).2
   have hn56:∀ kk,(Value.slice A5 n5 c5).ownBlock=some kk→(Value.slice A3 m C3).ownBlock≠some kk:=by
    intro kk h1 h2;rcases H5.o.at_ with h|h
    ·exact Hne.o kk ((show(Value.slice A5 n5 c5).ownBlock=(Value.slice A2 m C2).ownBlock from h).symm.trans h1) h2
    rw[h1]at h;have h3:=(U4.o.lt kk h2).2;simp at h;omega
   have hst:=Ih Hmk.o Hbk.o Hmin.o (fun p x h1 h2=>by
    rcases Zj2 p k with h|h|h
    ·exact absurd h2 (Hfirst.o p x h h1)
    ·exact h
    exact absurd h2 (Htw.o p x h (by have:=(Zr.1 h1).1;rw[HLn.o]at this;exact this) h1))
   refine⟨out++[mk],av++[(k:Int)],(H5.o.own.ext ((Yn _).alloc _)).chg H6.o.chg (fun kk h1 h2=>hn56 kk h1 h2),H6.o.own,fun kk h1 h2=>?_,by rw[Zxb,hst,← Ho9.o,Hch.o,Zs,Hm.o];rfl,by rw[Zs,Hm.o];show m+1≤_;omega,by simp[Hm.o,Hal.o],X6.o,HKo.o.snoc (HKS.o _ (Zy Hmk.o))⟩;rcases H6.o.at_ with h|h
   ·exact hn56 kk h1 ((show(Value.slice A6 n6 c6).ownBlock=(Value.slice A3 m C3).ownBlock from h).symm.trans h2)
   have h3:=hlt5 kk h1;rw[h2]at h;simp at h;omega
  case measure =>
   have e5:n5=m+1:=by rw[H5.o.len,Zs,Hm.o];rfl
   simp only[sliceLen];omega
 have hd_m:=GEl m i;obtain⟨y0,y1,y2,y3,y4,y5,y6,y7,yf,yl⟩:=HZ1.o.ext Hx.o;go_wp2_with fail;refine Yu (v:=.tuple #[.slice A2 m C2,.slice A3 m C3,Wy ⟨0,-1,⟨#[]⟩,default,0⟩]) (by simp[results,Tryz.results171,go_sem,Wy,Qz, *]) rfl ⟨.slice A2 m C2,.slice A3 m C3,out,⟨0,-1,⟨#[]⟩,default,0⟩,rfl,?_,fun _=>⟨by rw[Hm.o];omega,by rw[Hm.o];omega,HKo.o⟩,⟨rfl,Zkc _⟩,?_⟩
 ·have h9:Wf wq (fun k=>B2≤k) (.slice A2 m C2) out:=by have:=Hou.o;exact this.rd
  have h8:Wf wq (fun k=>rb<k∧w.heap.size≤k) (.slice A2 m C2) out:=Rd.mono h9 fun k hk _=>by have:=HwB2.o;have:=HrB.o;omega
  refine Rd.mono (S:=fun k=>rb<k∧w.heap.size≤k) ?_ fun _ hk _=>hk.2
  (repeat refine Znu ?_)
  exact h8
 (repeat refine Yc ?_ Hrw.o _)
 exact HXW.o.trans Hx.o
structure Oj(w wx:World)(b:Nat)(v:Value)(l:List Zzd):Prop where
 src:Src w.heap.size wx b
 ext:Ext w wx
 own:Own Zxw wx (b+1) v l
theorem Oj.next{w w1 w2:World}{b B:Nat}{v:Value}{l:List Zzd}(h:Oj w w1 b v l)(hb:w.heap.size=b)(t:We w.heap.size B w1 w2)(hB:B=b:=by rfl):Oj w w2 b v l:=by
 subst hB;exact⟨t.src,h.ext.chg_new t.chg (fun i hi=>by omega),h.own.chg t.chg (fun k hk e=>by have:=(h.own.lt k hk).1;omega)⟩
theorem Oj.grow{w w1 w5:World}{b:Nat}{v:Value}{l l':List Zzd}{o:Obj}{A:Option Addr}{n c:Nat}(h:Oj w w1 b v l)(hb:w.heap.size=b)(hg:Grew Zxw (w1.alloc o) (b+1) v l' A n c w5):Oj w w5 b (.slice A n c) l':=by
 have hlt:∀ k,v.ownBlock=some k→b+1≤k:=fun k hk=>(h.own.lt k hk).1
 exact⟨(h.src.alloc o).chg hg.chg (fun e=>by have:=hlt b e;omega) (fun k hk e=>by have:=hlt k e;omega),(h.ext.alloc o).chg_new hg.chg (fun i hi=>by have:=hlt i hi;omega),hg.own⟩
theorem Ft(w:World)(a b c:Int)(s:ByteArray)(t:TypeId)(g:Nat)(hg:w.heap.size=g):RdE Zxw (w.alloc (.cells #[.int .i64 a,.int .i64 b,.int .i64 c,.string s] t)) (fun _=>True) (.slice (some ⟨g,0,none⟩) 1 1) [⟨a,b,c,s⟩]:=by
 subst hg;exact Va w #[.int .i64 a,.int .i64 b,.int .i64 c,.string s] t 4 rfl
def Zxy(w:World)(e:Ending)(w':World):Prop:=∃ (v:Value) (l:List Zzd),e=.returned v∧RdE Zxw w' (fun k=>w.heap.size≤k) v l∧l.length≤65∧Ext w w'
theorem Cz(a:Option Addr)(len cap:Nat)(w:World)(hrow:Km w a len):Calls Tryz.prog 12 #[.slice a len cap] w (Zxy w):=by
 obtain⟨b,hb⟩:=gnX (w.heap.size);have Hbw:=Ya hb;have S0:=Ya (show Oj w (w.alloc (.cells #[.slice a len cap,.int .i64 0] 165)) b (.slice none 0 0) [] from⟨by have:=Ug (cap:=cap) hrow (Yn w);rw[← hb];exact this,(Yn w).alloc _,Own.nil _ _ _⟩);clear hrow;go_enter Tryz.func12,Tryz.ntmps12;go_wp2_with fail;refine(Pr _ _ _ _).mono ?_;rintro e w0 ⟨rfl,rfl⟩;obtain⟨W0,hW0⟩:=gnX (w.alloc (.cells #[.slice a len cap,.int .i64 0] 165));rw[hW0]at S0⊢;rw[hb];clear hW0;go_wp2_with fail;go_loopw [4] (fun u wr=>∃ l:List Zzd,l.length≤65∧Oj w wr b u l) (fun u _=>100-sliceLen u);case atStart=>exact⟨[],by simp,S0.o⟩
 clear S0;obtain⟨l,hl,hS⟩:=hrel;obtain⟨A,C,rfl,hlC,hC⟩:=hS.own.shape;obtain⟨m,hm⟩:=gnX (l.length);rw[hm]at hS hlC hl⊢;have Hm:=Ya hm;have S1:=Ya hS;clear hS hm;unfold maxLen at hC;go_wp2_with fail;refine(Zue b _ _ S1.o.src).mono ?_;rintro e w1 ⟨⟨q,rfl⟩,hs,hc⟩;have S9:=Ya (S1.o.next Hbw.o ⟨hs,hc⟩);clear hs hc;cases q with
 | false =>
  go_wp2_with fail;go_ret;exact⟨_,l,rfl,by rw[← Hm.o];exact Rd.mono (show RdE Zxw w1 (fun k=>b+1≤k) (.slice A l.length C) l by have:=S9.o.own.rd;rw[Hm.o];exact this) fun k hk _=>by have:=Hbw.o;omega,by rw[Hm.o];exact hl,S9.o.ext⟩
 | true =>
  by_cases h60:m<60
  ·have d1:decide ((m:Int)<60)=true:=Yh;go_wp2_with fail;refine(Xi b 8 (by omega) (by omega) _ _ S9.o.src).mono ?_;rintro e w2 ⟨v,hv,rfl,h⟩;have S2:=Ya (S9.o.next Hbw.o h);clear h;by_cases hv0:v=0
   ·subst hv0;go_wp2_with fail;refine(Xi b 4 (by omega) (by omega) _ _ S2.o.src).mono ?_;rintro e w3 ⟨v3,hv3,rfl,h⟩;have S3:=Ya (S2.o.next Hbw.o h);clear h;go_wp2_with fail;refine(Ld _ b _ S3.o.src).mono ?_;rintro e w4 ⟨t,rfl,ht,h⟩;have S4:=Ya (S3.o.next Hbw.o h);clear h;go_wp2_with (at_builtin;refine Xu Zxw _ _ _ rfl rfl rfl rfl (S4.o.own.ext ((Yn _).alloc _)) rfl (Ft _ 1 (v3:Int) 0 t _ _ rfl) (by rw[Hm.o];show _+1≤_;omega) (by show 40≤1000;omega) (by have:=S4.o.src.lt;simp;omega) ?_;intro A5 n5 c5 w5 hg5;have S5:=Ya (S4.o.grow Hbw.o hg5);have N5:=Ya hg5.len;clear hg5);go_roundw;case rel=>exact⟨_,by rw[Zs,Hm.o];show m+1≤65;omega,S5.o⟩
    case measure =>
     have e5:=N5.o;rw[Zs,Hm.o]at e5;simp only[Zl,Zk]at e5;simp only[sliceLen];omega
   have f0:((v:Int)==0)=false:=by simp;omega
   have f0n:(v==0)=false:=by simp;omega
   have f0p:¬ (v:Int)=0:=by omega
   by_cases hv1:v=1
   ·subst hv1;go_wp2_with fail;refine(Xi b 4 (by omega) (by omega) _ _ S2.o.src).mono ?_;rintro e w3 ⟨v3,hv3,rfl,h⟩;have S3:=Ya (S2.o.next Hbw.o h);clear h;go_wp2_with fail;refine(Ld _ b _ S3.o.src).mono ?_;rintro e w4 ⟨t,rfl,ht,h⟩;have S4:=Ya (S3.o.next Hbw.o h);clear h;go_wp2_with (at_builtin;refine Xu Zxw _ _ _ rfl rfl rfl rfl (S4.o.own.ext ((Yn _).alloc _)) rfl (Ft _ 1 (v3:Int) 0 t _ _ rfl) (by rw[Hm.o];show _+1≤_;omega) (by show 40≤1000;omega) (by have:=S4.o.src.lt;simp;omega) ?_;intro A5 n5 c5 w5 hg5;have S5:=Ya (S4.o.grow Hbw.o hg5);have N5:=Ya hg5.len;clear hg5);go_roundw;case rel=>exact⟨_,by rw[Zs,Hm.o];show m+1≤65;omega,S5.o⟩
    case measure =>
     have e5:=N5.o;rw[Zs,Hm.o]at e5;simp only[Zl,Zk]at e5;simp only[sliceLen];omega
   have f1:((v:Int)==1)=false:=by simp;omega
   have f1n:(v==1)=false:=by simp;omega
   have f1p:¬ (v:Int)=1:=by omega
   by_cases hv2:v=2
   ·subst hv2;go_wp2_with fail;refine(Xi b 12 (by omega) (by omega) _ _ S2.o.src).mono ?_;rintro e w3 ⟨v3,hv3,rfl,h⟩;have S3:=Ya (S2.o.next Hbw.o h);clear h;obtain⟨t3,ht3⟩:∃ t:Int,(v3:Int)-1=t:=⟨_,rfl⟩;have r3:IntKind.i64.wrap ((v3:Int)-1)=t3:=by rw[Yr _ (by omega)];exact ht3
    go_wp2_with (at_builtin;refine Xu Zxw _ _ _ rfl rfl rfl rfl (S3.o.own.ext ((Yn _).alloc _)) rfl (Ft _ 3 0 t3 ⟨#[]⟩ _ _ rfl) (by rw[Hm.o];show _+1≤_;omega) (by show 40≤1000;omega) (by have:=S3.o.src.lt;simp;omega) ?_;intro A5 n5 c5 w5 hg5;have S5:=Ya (S3.o.grow Hbw.o hg5);have N5:=Ya hg5.len;clear hg5);go_roundw;case rel=>exact⟨_,by rw[Zs,Hm.o];show m+1≤65;omega,S5.o⟩
    case measure =>
     have e5:=N5.o;rw[Zs,Hm.o]at e5;simp only[Zl,Zk]at e5;simp only[sliceLen];omega
   have f2:((v:Int)==2)=false:=by simp;omega
   have f2n:(v==2)=false:=by simp;omega
   have f2p:¬ (v:Int)=2:=by omega
   by_cases hv3:v=3
   ·subst hv3;go_wp2_with fail;refine(Xi b 4 (by omega) (by omega) _ _ S2.o.src).mono ?_;rintro e w3 ⟨v3,hv3,rfl,h⟩;have S3:=Ya (S2.o.next Hbw.o h);clear h;obtain⟨t3,ht3⟩:∃ t:Int,1+(v3:Int)=t:=⟨_,rfl⟩;have r3:IntKind.i64.wrap (1+(v3:Int))=t3:=by rw[Yr _ (by omega)];exact ht3
    go_wp2_with fail;refine(Xi b 7 (by omega) (by omega) _ _ S3.o.src).mono ?_;rintro e w4 ⟨v4,hv4,rfl,h⟩;have S4:=Ya (S3.o.next Hbw.o h);clear h;obtain⟨t4,ht4⟩:∃ t:Int,(v4:Int)-1=t:=⟨_,rfl⟩;have r4:IntKind.i64.wrap ((v4:Int)-1)=t4:=by rw[Yr _ (by omega)];exact ht4
    go_wp2_with fail;refine(Xi b 2 (by omega) (by omega) _ _ S4.o.src).mono ?_;rintro e w6 ⟨v6,hv6,rfl,h⟩;have S6:=Ya (S4.o.next Hbw.o h);clear h;obtain⟨t6,ht6⟩:∃ t:Int,1073741824*(v6:Int)=t:=⟨_,rfl⟩;have r6:IntKind.i64.wrap (1073741824*(v6:Int))=t6:=by rw[Yr _ (by omega)];exact ht6
    go_wp2_with (at_builtin;refine Xu Zxw _ _ _ rfl rfl rfl rfl (S6.o.own.ext ((Yn _).alloc _)) rfl (Ft _ t3 t4 t6 ⟨#[81,85,69,82,89,32,97]⟩ _ _ rfl) (by rw[Hm.o];show _+1≤_;omega) (by show 40≤1000;omega) (by have:=S6.o.src.lt;simp;omega) ?_;intro A5 n5 c5 w5 hg5;have S5:=Ya (S6.o.grow Hbw.o hg5);have N5:=Ya hg5.len;clear hg5);go_roundw;case rel=>exact⟨_,by rw[Zs,Hm.o];show m+1≤65;omega,S5.o⟩
    case measure =>
     have e5:=N5.o;rw[Zs,Hm.o]at e5;simp only[Zl,Zk]at e5;simp only[sliceLen];omega
   have f3:((v:Int)==3)=false:=by simp;omega
   have f3n:(v==3)=false:=by simp;omega
   have f3p:¬ (v:Int)=3:=by omega
   clear hv0 hv1 hv2 hv3;go_wp2_with fail;refine(Xi b 4 (by omega) (by omega) _ _ S2.o.src).mono ?_;rintro e w3 ⟨v3,hv3,rfl,h⟩;have S3:=Ya (S2.o.next Hbw.o h);clear h;go_wp2_with fail;refine(Xi b 6 (by omega) (by omega) _ _ S3.o.src).mono ?_;rintro e w4 ⟨v4,hv4,rfl,h⟩;have S4:=Ya (S3.o.next Hbw.o h);clear h;obtain⟨k0,hk0⟩:=gnX (1+v4);have r4:IntKind.i64.wrap (1+(v4:Int))=(k0:Int):=by rw[Yr _ (by omega)];omega
   have hk1:1≤k0:=by omega
   have hk6:k0≤6:=by omega
   clear hk0 hv4;go_wp2_with fail;go_loopw [6,4] (fun o u wx=>∃ (k:Nat) (l2:List Zzd),o=.int .i64 (k:Int)∧l2.length+k=m+k0∧Oj w wx b u l2) (fun o _ _=>(intOf o).toNat);case atStart=>exact⟨k0,l,rfl,by rw[Hm.o],S4.o⟩
   rename World=>wi
   obtain⟨k,l2,rfl,hk,hS⟩:=hrel;obtain⟨A2,C2,rfl,hlC2,hC2⟩:=hS.own.shape;obtain⟨m2,hm2⟩:=gnX (l2.length);rw[hm2]at hS hlC2 hk⊢;have Hm2:=Ya hm2;have S7:=Ya hS;clear hS hm2;unfold maxLen at hC2;by_cases hk2:0<k
   ·have d2:decide ((0:Int)<(k:Int))=true:=Yh;obtain⟨p,hp⟩:=gnX (k-1);have r2:IntKind.i64.wrap ((k:Int)-1)=(p:Int):=by rw[Yr _ (by omega)];omega
    go_wp2_with (at_builtin;refine Xu Zxw _ _ _ rfl rfl rfl rfl (S7.o.own.ext ((Yn _).alloc _)) rfl (Ft _ 2 (v3:Int) 0 ⟨#[]⟩ _ _ rfl) (by rw[Hm2.o];show _+1≤_;omega) (by show 40≤1000;omega) (by have:=S7.o.src.lt;simp;omega) ?_;intro A5 n5 c5 w5 hg5;have S5:=Ya (S7.o.grow Hbw.o hg5);clear hg5);go_roundw;case rel=>exact⟨p,_,rfl,by rw[Zs,Hm2.o];show m2+1+p=_;omega,S5.o⟩
    (simp[intOf];omega)
   obtain rfl:k=0:=by omega
   go_wp2_with fail;go_roundw;case rel=>exact⟨l2,by rw[Hm2.o];omega,S7.o⟩
   case measure =>
    simp only[sliceLen];omega
  have d1:decide ((m:Int)<60)=false:=Yi;go_wp2_with fail;go_ret;exact⟨_,l,rfl,by rw[← Hm.o];exact Rd.mono (show RdE Zxw w1 (fun k=>b+1≤k) (.slice A l.length C) l by have:=S9.o.own.rd;rw[Hm.o];exact this) fun k hk _=>by have:=Hbw.o;omega,by rw[Hm.o];exact hl,S9.o.ext⟩
end Go.Proofs.YtnbclgbicnpmnaaGreat
