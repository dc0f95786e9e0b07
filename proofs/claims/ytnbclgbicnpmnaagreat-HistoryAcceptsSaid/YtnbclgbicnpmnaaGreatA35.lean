/- Lemmas of this claim: Mk. Conditions: as named. -/
import Derived.Test.YtnbclgbicnpmnaaGreatA16
import Derived.Test.YtnbclgbicnpmnaaGreatA19
import Derived.Test.YtnbclgbicnpmnaaGreatA23
import Derived.Test.YtnbclgbicnpmnaaGreatA28
import Derived.Test.YtnbclgbicnpmnaaGreatA34
namespace Go.Proofs.YtnbclgbicnpmnaaGreat
open Go.RowKit Go.Sort
set_option maxHeartbeats 0
set_option maxRecDepth 100000
set_option linter.all false
theorem Ext.alloc_box{w:World}{T:Tbl}{a b:Array Value}{t t2:TypeId}(h:Ext w ((w.alloc (Xe T)).alloc (.cells a t))):Ext w ((w.alloc (Xe T)).alloc (.cells b t2)):=((Yl w).alloc _).alloc _
def sliceLen:Value→Nat | .slice _ n _=>n|_=>0
theorem Zon{w:World}{v:Value}{l:List Nm}{c j n:Nat}{u:Value}(h:Rd w (fun k=>c<k∧n≤k) 3 v l.length (Wo l)):Rd (w.setCell ⟨c,j,none⟩ u) (fun k=>c<k∧n≤k) 3 v l.length (Wo l):=Rd.chg h ((Chg.refl (· = c) w).setCell (p:=⟨c,j,none⟩) (.inl rfl) u) (fun k hk e=>by omega)
def Zst(N:Nat)(w:World)(e:Ending)(w':World):Prop:=∃ (nv av:Value) (ns:List Nm) (r:Ac),e=.returned (.tuple #[nv,av,Wm r])∧Vo w' (fun k=>w.heap.size≤k) nv ns∧(r.e=0→ns.length=N∧1≤ns.length∧ns.length≤16∧KG ns∧srt ns=true)∧(nv.oneCell'=true∧0≤r.tick)∧Ext w w'
theorem Zqc(w:World)(a u k:ByteArray)(t:TypeId)(g:Nat)(hg:w.heap.size=g):RdE nmE (w.alloc (.cells #[.string a,.string u,.string k] t)) (fun _=>True) (.slice (some ⟨g,0,none⟩) 1 1) [⟨a,u,k⟩]:=by
 subst hg;exact Qu w #[.string a,.string u,.string k] t 3 rfl
theorem Zro{S R:Nat→Prop}(T:Tbl)(hf:Few T)(hu:Uq T)(v:Value)(l:List ByteArray)(w:World)(h:Xl w S T)(hl:RdE Q6 w R v l):Calls Tryz.prog 171 #[Vu T,v] w (Zst l.length w):=by
 obtain⟨A,C,rfl,hlC,hC⟩:=hl.shape;obtain⟨n,hn⟩:=gnX (l.length);have HL0:=Y4 hl;rw[hn]at hlC⊢;have Hnn:=Y4 hn;clear hl hn;have X0:=Y4 ((Yl w).alloc (Xe T));have H:=Y4 (h.up X0.o);have Hb0:=Y4 (Xm w T);clear h;have Hf:=Y4 hf;have Hu:=Y4 hu;clear hf hu;have hz0:=Nd (w.alloc (Xe T));obtain⟨rb,hrb⟩:=gnX ((w.alloc (Xe T)).heap.size);have hrb2:w.heap.size+1=rb:=by rw[← hrb];simp
 rw[hrb]at hz0;have hx0:=X0.o.alloc (.cells #[.int .i64 0,.int .i64 0,.string ⟨#[]⟩,.int .i64 0,.int .i64 0,.string ⟨#[]⟩,.int .i64 0,.int .i64 0] 53);have h01:=(Yl (w.alloc (Xe T))).alloc (.cells #[.int .i64 0,.int .i64 0,.string ⟨#[]⟩,.int .i64 0,.int .i64 0,.string ⟨#[]⟩,.int .i64 0,.int .i64 0] 53);by_cases hn0:n=0
 ·subst hn0;go_enter Tryz.func171,Tryz.ntmps171;go_wp2_with (first|(refine Xw rfl ?_));refine Ys (v:=.tuple #[.slice none 0 0,.slice none 0 0,Wm ⟨10,(-1),⟨#[]⟩,default,0⟩]) (by simp[results,Tryz.results171,go_sem,Wm,Qr, *]) rfl ⟨.slice none 0 0,.slice none 0 0,[],⟨10,(-1),⟨#[]⟩,default,0⟩,rfl,Rd.nil _ _ _,fun h=>absurd h (by decide),⟨rfl,Zl7 _⟩,?_⟩;exact hx0.alloc_box
 have e0:((n:Int)==0)=false:=by simp;omega
 have e00:(n==0)=false:=by simp;omega
 have e000:¬ (n:Int)=0:=by omega
 by_cases h16:16<n
 ·have e1:decide ((16:Int)<(n:Int))=true:=Yf;go_enter Tryz.func171,Tryz.ntmps171;go_wp2_with (first|(refine Xw rfl ?_));refine Ys (v:=.tuple #[.slice none 0 0,.slice none 0 0,Wm ⟨7,(-1),⟨#[]⟩,default,0⟩]) (by simp[results,Tryz.results171,go_sem,Wm,Qr, *]) rfl ⟨.slice none 0 0,.slice none 0 0,[],⟨7,(-1),⟨#[]⟩,default,0⟩,rfl,Rd.nil _ _ _,fun h=>absurd h (by decide),⟨rfl,Zl7 _⟩,?_⟩;exact hx0.alloc_box
 have e1:decide ((16:Int)<(n:Int))=false:=Yg;go_enter Tryz.func171,Tryz.ntmps171;go_wp2_with (first|(refine Xw rfl ?_));obtain⟨W0,hW0⟩:=gnX ((w.alloc (Xe T)).alloc (.cells #[.int .i64 0,.int .i64 0,.string ⟨#[]⟩,.int .i64 0,.int .i64 0,.string ⟨#[]⟩,.int .i64 0,.int .i64 0] 53));rw[hW0]at hz0 hx0 h01;rw[hW0];have HZ0:=Y4 hz0;have HX0:=Y4 hx0;have H1:=Y4 (H.o.up h01);have Hb1:=Y4 (Hb0.o.ext h01);have hrw:w.heap.size≤rb:=by omega
 have Hrw:=Y4 hrw;have HL:=Y4 (HL0.o.ext HX0.o);obtain⟨B,hB⟩:=gnX (W0.heap.size);have HB:=Y4 hB;have HwB:=Y4 (show w.heap.size≤B by rw[← hB];exact hx0.size);clear hz0 hx0 h01 hW0 hrw hB HL0 X0 H Hb0 hrb hrb2;go_loopw [28,7] (fun o u wr=>∃ (i:Nat) (L:List Nm),i≤n∧o=.int .i64 (i:Int)∧Own nmE wr B u L∧L.length=i∧Ext W0 wr∧KG L) (fun o _ _=>n-(intOf o).toNat);case atStart=>exact⟨0,[],by omega,rfl,Own.nil _ _ _,rfl,Yl _,KG.nil⟩
 obtain⟨i,L,hi,rfl,ho,hLn,hx,hKS⟩:=hrel;have HKS:=Y4 hKS;clear hKS;obtain⟨A1,C1,rfl,hlC1,hC1⟩:=ho.shape;try rw[hLn]at ho
 try rw[hLn]
 rw[hLn]at hlC1;have Hx:=Y4 hx;have Ho:=Y4 ho;have HLn:=Y4 hLn;have hBw:B≤wr.heap.size:=by rw[← HB.o];exact hx.size
 have HBw:=Y4 hBw;clear hx ho hLn;by_cases hlt:i<n
 ·obtain⟨hd_i,i0_i,i1_i⟩:=LTl i n;obtain⟨x,hx0⟩:=geX (l:=l) (i:=i) (by rw[Hnn.o];exact hlt);obtain⟨g,o,c,hv,_,_,_,hg,c0⟩:=strs_get (HL.o.ext Hx.o) hx0;rw[Hnn.o]at hv;simp only[Ye]at hv;obtain⟨rfl,-,rfl⟩:=hv;clear hx0;go_wp2_with (refine Xz (Hb1.o.ext Hx.o) rfl ?_);refine(Zw6 T Hf.o Hu.o x _ (H1.o.up Hx.o)).mono ?_;rintro e w2 ⟨a,u,k,z,rfl,ha,hu2,hk,hgd,hx2⟩;have Hx2:=Y4 (Hx.o.trans hx2);have Ho2:=Y4 (Ho.o.ext hx2);have hB2:B≤w2.heap.size:=Zm5 HBw.o hx2.size;have Hgd:=Y4 (show z=0→Q4 ⟨a,u,k⟩=true from fun h=>by obtain⟨p,q⟩:=hgd h;simp[Q4,p,q]);clear hx2 c0 hgd;by_cases hz:z=0
  ·subst hz;go_wp2_with (at_builtin;(refine Xu nmE _ _ _ rfl rfl rfl rfl (Ho2.o.ext (((Yl _).alloc _).alloc _)) rfl (Zqc _ a u k _ _ (by first|rfl|simp)) (by rw[HLn.o];show _+1≤_;omega) (by show 48≤1000;omega) (by simp;omega) ?_;intro A5 n5 c5 w5 hg5;have Hx5:=Y4 (hg5.ext W0 ((Hx2.o.alloc _).alloc _) (by rw[HB.o];exact Yn _));have Hg5:=Y4 hg5;clear hg5));go_roundw;case rel=>exact⟨i+1,_,by omega,by go_num,Hg5.o.own,by rw[Zs,HLn.o];rfl,Hx5.o,HKS.o.snoc hk (Hgd.o (by first|exact True.intro|rfl))⟩
   (simp[intOf];omega)
  have hzb:(!(z==0))=true:=by simp[hz]
  have hzc:(z !=0)=true:=hzb;have hzd:(z==0)=false:=by simp[hz]
  have hzH:=Y4 hz;clear hz;obtain⟨y0,y1,y2,y3,y4,y5,y6,y7,yf,yl⟩:=HZ0.o.ext (Hx2.o.alloc (.cells #[.string a,.string u,.string k] 109));go_wp2_with fail;refine Ys (v:=.tuple #[.slice none 0 0,.slice none 0 0,Wm ⟨z,(i:Int),⟨#[]⟩,default,0⟩]) (by simp[results,Tryz.results171,go_sem,Wm,Qr, *]) rfl ⟨.slice none 0 0,.slice none 0 0,[],⟨z,(i:Int),⟨#[]⟩,default,0⟩,rfl,Rd.nil _ _ _,fun h=>absurd h hzH.o,⟨rfl,Zl7 _⟩,?_⟩;(repeat refine Ya ?_ Hrw.o _)
  exact HX0.o.trans (Hx2.o.alloc _)
 have hd_i:=GEl i n;obtain rfl:i=n:=by omega
 obtain⟨B2,hB2⟩:=gnX (wr.heap.size);have HB2:=Y4 hB2;have HrB:=Y4 (show rb<B2 by rw[← hB2];exact(HZ0.o.ext Hx.o).lt);have HwB2:=Y4 (show w.heap.size≤B2 by rw[← hB2];exact Zm5 HwB.o hBw);have HN:=Y4 (show Vo wr (fun k=>B≤k) (.slice A1 L.length C1) L from by have:=Ho.o;rw[← HLn.o]at this;exact this.rd);have hXW:=HX0.o.trans Hx.o;have HXW:=Y4 hXW;have HZ1:=Y4 (HZ0.o.ext Hx.o);unfold maxLen at hC1;clear hB2 hBw HBw Ho Hx HB Hb1 H1 HZ0 HX0 hXW;go_wp2_with fail;go_loopw [12,13] (fun u v wr2=>∃ (out:List Nm) (av:List Int),Own nmE wr2 B2 u out∧Own Wi wr2 B2 v av∧(∀ k,u.ownBlock=some k→v.ownBlock≠some k)∧Gr L (Db out)=out.length∧out.length≤i∧av.length=out.length∧Ext wr wr2∧KG out∧srt out=true) (fun u _ _=>i-sliceLen u);case atStart=>exact⟨[],[],Own.nil _ _ _,Own.nil _ _ _,(by intro k h;cases h),Tv L,by simp,rfl,Yl _,KG.nil,rfl⟩
 rename World=>wq
 obtain⟨out,av,hou,hav,hne,hch,hol,hal,hx,hKo⟩:=hrel;have HKo:=Y4 hKo;clear hKo;obtain⟨A2,C2,rfl,hlC2,hC2⟩:=hou.shape;obtain⟨A3,C3,rfl,hlC3,hC3⟩:=hav.shape;obtain⟨m,hm⟩:=gnX (out.length);rw[hal]at hav hlC3 hne⊢;rw[hm]at hou hlC2 hol hch hav hlC3 hne⊢;have Hm:=Y4 hm;have Hal:=Y4 (hal.trans hm);have Hou:=Y4 hou;have Hav:=Y4 hav;have Hne:=Y4 hne;have Hch:=Y4 hch;have Hx:=Y4 hx;have hBw2:B2≤wq.heap.size:=by rw[← HB2.o];exact hx.size
 have HBw2:=Y4 hBw2;unfold maxLen at hC2;clear hal hm hou hav hne hch hx hBw2;by_cases hlt:m<i
 ·obtain⟨hd_m,i0_m,i1_m⟩:=LTl m i;go_wp2_with fail;obtain⟨o9,ho9⟩:=gnX (Db out);have Ho9:=Y4 ho9;clear ho9;go_loopw [56,14] (fun o z wx=>∃ (j:Nat) (Z:Int),j≤i∧o=.int .i64 (j:Int)∧z=.int .i64 Z∧Sel L o9 j Z∧Ext wq wx) (fun o _ _=>i-(intOf o).toNat);case atStart=>exact⟨0,-1,by omega,rfl,rfl,Sel.start _ _,Yl _⟩
  rename World=>wi
  obtain⟨j,Z,hj,rfl,rfl,hsel,hxi⟩:=hrel;have Hsel:=Y4 hsel;have Hxi:=Y4 hxi;clear hxi;by_cases hji:j<i
  ·obtain⟨hd_j,i0_j,i1_j⟩:=LTl j i;obtain⟨nm,hnm⟩:=geX (l:=L) (i:=j) (by rw[HLn.o];exact hji);obtain⟨g,o,c,hv,_,_,_,hg,hcell⟩:=(HN.o.ext (Hx.o.trans Hxi.o)).get (j:=j) (by rw[HLn.o];exact hji);rw[HLn.o]at hv;simp only[Ye]at hv;obtain⟨rfl,-,rfl⟩:=hv;obtain⟨q0,q1,q2⟩:=hcell j nm hnm;have hzc:=Hsel.o.at_;go_wp2_with fail;have q9:(wi.alloc (.cells #[.string nm.a,.string nm.u,.string nm.k] 109)).cell? ⟨wi.heap.size,2,none⟩=some (.string nm.k):=by go_simp
   have m9:=lat q9;have Hnm:=Y4 hnm;clear q0 q1 q2 q9 hsel hnm;rcases Zle m with hm0|hm0
   ·have hob:Behind o9 nm=true:=by
     have h1:out=[]:=Zll (by rw[Hm.o];exact hm0);rw[← Ho9.o,h1];rfl
    have Hb:=Y4 hob;have k1:((m:Int)==0)=true:=by simp;omega
    have k2:(m==0)=true:=by simp;omega
    clear hob hm0;rcases hzc with rfl | ⟨k,mk,rfl,hk,hmk⟩
    ·clear hcell;have hun:=Yb;refine Y8 (by kernel_rfl) (by kernel_rfl) ?_;repeat((with_reducible refine Yu ?_);intro K hK;go_simp;(with_reducible refine hK _ ?_);clear hK K)
     (with_reducible refine Yt ?_)
     intro w9 hy9;clear hun;try simp only[Yc]
     go_wp2_with fail;go_roundw;case rel=>exact⟨j+1,_,by omega,by go_num,rfl,(Hsel.o.first Hnm.o Hb.o),(Hxi.o.alloc _).trans hy9⟩
     (simp[intOf];omega)
    have z1:decide ((k:Int)<0)=false:=Yg;have z2:(0:Int)≤(k:Int):=by omega
    have z3:(k:Int)<(i:Int):=by omega
    have z4:k<i:=by omega
    obtain⟨p0,p1,p2⟩:=hcell k mk hmk;have m8:=lat (((((Yl wi).alloc (.cells #[.string nm.a,.string nm.u,.string nm.k] 109))).cell (p:=⟨g,o+k*3+2,none⟩) hg).trans p2);have Hmk:=Y4 hmk;clear p0 p1 p2 hcell hmk;by_cases hl:kb nm.k<kb mk.k
    ·have l1:=Ro hl;have Hl:=Y4 hl;clear hl;have hun:=Yb;refine Y8 (by kernel_rfl) (by kernel_rfl) ?_;repeat((with_reducible refine Yu ?_);intro K hK;go_simp;(with_reducible refine hK _ ?_);clear hK K)
     (with_reducible refine Yt ?_)
     intro w9 hy9;clear hun;try simp only[Yc]
     go_wp2_with fail;go_roundw;case rel=>exact⟨j+1,_,by omega,by go_num,rfl,(Hsel.o.less Hmk.o Hnm.o Hb.o Hl.o),(Hxi.o.alloc _).trans hy9⟩
     (simp[intOf];omega)
    have l1:=Nr hl;have Hl:=Y4 hl;clear hl;have hun:=Yb;refine Y8 (by kernel_rfl) (by kernel_rfl) ?_;repeat((with_reducible refine Yu ?_);intro K hK;go_simp;(with_reducible refine hK _ ?_);clear hK K)
    (with_reducible refine Yt ?_)
    intro w9 hy9;clear hun;try simp only[Yc]
    go_wp2_with fail;go_roundw;case rel=>exact⟨j+1,_,by omega,by go_num,rfl,(Hsel.o.keep Hmk.o Hnm.o Hl.o),(Hxi.o.alloc _).trans hy9⟩
    (simp[intOf];omega)
   have k1:((m:Int)==0)=false:=by simp;omega
   have k2:(m==0)=false:=by simp;omega
   have k3:¬ (m:Int)=0:=by omega
   obtain⟨r,hr⟩:=gnX (m-1);obtain⟨y,hy⟩:=geX (l:=out) (i:=r) (by rw[Hm.o];omega);have hlk:Db out=some (kb y.k):=Zrt (by rw[Hm.o,hr];exact hy);have r1:IntKind.i64.wrap ((m:Int)-1)=(r:Int):=by rw[Yp _ (by omega)];omega
   have r2:(0:Int)≤(r:Int):=by omega
   have r3:(r:Int)<(m:Int):=by omega
   have r4:r<m:=by omega
   have HO:=Y4 (show Vo wi (fun k=>B2≤k) (.slice A2 out.length C2) out from by have:=Hou.o.ext Hxi.o;rw[← Hm.o]at this;exact this.rd);obtain⟨g2,o2,c2,hv2,_,_,_,hg2,hcell2⟩:=HO.o.get (j:=r) (by rw[Hm.o];exact r4);rw[Hm.o]at hv2;simp only[Ye]at hv2;obtain⟨rfl,-,rfl⟩:=hv2;obtain⟨p0,p1,p2⟩:=hcell2 r y hy;have m7:=lat (((((Yl wi).alloc (.cells #[.string nm.a,.string nm.u,.string nm.k] 109))).cell (p:=⟨g2,o2+r*3+2,none⟩) hg2).trans p2);have hoy:o9=some (kb y.k):=by rw[← Ho9.o,hlk]
   clear p0 p1 p2 hcell2 hr hy hlk;by_cases hbe:kb y.k<kb nm.k
   ·obtain⟨l2,l3⟩:=Zp9 hbe;have Hb:=Y4 (show Behind o9 nm=true by rw[hoy];simp[Behind,hbe]);clear hbe hoy;rcases hzc with rfl | ⟨k,mk,rfl,hk,hmk⟩
    ·clear hcell;have hun:=Yb;refine Y8 (by kernel_rfl) (by kernel_rfl) ?_;repeat((with_reducible refine Yu ?_);intro K hK;go_simp;(with_reducible refine hK _ ?_);clear hK K)
     (with_reducible refine Yt ?_)
     intro w9 hy9;clear hun;try simp only[Yc]
     go_wp2_with fail;go_roundw;case rel=>exact⟨j+1,_,by omega,by go_num,rfl,(Hsel.o.first Hnm.o Hb.o),(Hxi.o.alloc _).trans hy9⟩
     (simp[intOf];omega)
    have z1:decide ((k:Int)<0)=false:=Yg;have z2:(0:Int)≤(k:Int):=by omega
    have z3:(k:Int)<(i:Int):=by omega
    have z4:k<i:=by omega
    obtain⟨p0,p1,p2⟩:=hcell k mk hmk;have m8:=lat (((((Yl wi).alloc (.cells #[.string nm.a,.string nm.u,.string nm.k] 109))).cell (p:=⟨g,o+k*3+2,none⟩) hg).trans p2);have Hmk:=Y4 hmk;clear p0 p1 p2 hcell hmk;by_cases hl:kb nm.k<kb mk.k
    ·have l1:=Ro hl;have Hl:=Y4 hl;clear hl;have hun:=Yb;refine Y8 (by kernel_rfl) (by kernel_rfl) ?_;repeat((with_reducible refine Yu ?_);intro K hK;go_simp;(with_reducible refine hK _ ?_);clear hK K)
     (with_reducible refine Yt ?_)
     intro w9 hy9;clear hun;try simp only[Yc]
     go_wp2_with fail;go_roundw;case rel=>exact⟨j+1,_,by omega,by go_num,rfl,(Hsel.o.less Hmk.o Hnm.o Hb.o Hl.o),(Hxi.o.alloc _).trans hy9⟩
     (simp[intOf];omega)
    have l1:=Nr hl;have Hl:=Y4 hl;clear hl;have hun:=Yb;refine Y8 (by kernel_rfl) (by kernel_rfl) ?_;repeat((with_reducible refine Yu ?_);intro K hK;go_simp;(with_reducible refine hK _ ?_);clear hK K)
    (with_reducible refine Yt ?_)
    intro w9 hy9;clear hun;try simp only[Yc]
    go_wp2_with fail;go_roundw;case rel=>exact⟨j+1,_,by omega,by go_num,rfl,(Hsel.o.keep Hmk.o Hnm.o Hl.o),(Hxi.o.alloc _).trans hy9⟩
    (simp[intOf];omega)
   have l2:=Zs7 hbe;have Hb:=Y4 (show Behind o9 nm=false by rw[hoy];simp[Behind,hbe]);clear hbe hoy hcell hzc;have hun:=Yb;refine Y8 (by kernel_rfl) (by kernel_rfl) ?_;repeat((with_reducible refine Yu ?_);intro K hK;go_simp;(with_reducible refine hK _ ?_);clear hK K)
   (with_reducible refine Yt ?_)
   intro w9 hy9;clear hun;try simp only[Yc]
   go_wp2_with fail;go_roundw;case rel=>exact⟨j+1,_,by omega,by go_num,rfl,(Hsel.o.skip Hnm.o Hb.o),(Hxi.o.alloc _).trans hy9⟩
   (simp[intOf];omega)
  have hd_j:=GEl j i;obtain rfl:j=i:=by omega
  have hseln:Sel L o9 L.length Z:=by rw[HLn.o];exact hsel
  obtain⟨k,mk,rfl,hk,hmk,hbk,hmin,hfirst⟩:=hseln.found (by rw[← Ho9.o,Hch.o,HLn.o];exact hlt);rw[HLn.o]at hk;have Hmk:=Y4 hmk;have Hbk:=Y4 hbk;have Hmin:=Y4 hmin;have Hfirst:=Y4 hfirst;obtain⟨K1,hK1⟩:=gnX (k+1);have r1:IntKind.i64.wrap ((k:Int)+1)=(K1:Int):=by rw[Yp _ (by omega)];omega
  clear hseln hsel hmk hbk hmin hfirst Hsel;go_wp2_with fail;go_loopw [17] (fun o wx=>∃ q:Nat,K1≤q∧q≤j∧o=.int .i64 (q:Int)∧(∀ p x,k<p→p<q→L[p]?=some x→x.k≠mk.k)∧Ext wi wx) (fun o _=>j-(intOf o).toNat);case atStart=>exact⟨K1,by omega,by omega,rfl,fun p x h1 h2=>by omega,Yl _⟩
  rename World=>w4
  obtain⟨q,hq1,hq2,rfl,htw,hx4⟩:=hrel;have Htw:=Y4 htw;have HX4:=Y4 (Hxi.o.trans hx4);have HXi4:=Y4 hx4;clear htw hx4;by_cases hqj:q<j
  ·obtain⟨hd_q,i0_q,i1_q⟩:=LTl q j;obtain⟨nq,hnq⟩:=geX (l:=L) (i:=q) (by rw[HLn.o];exact hqj);obtain⟨g,o,c,hv,_,_,_,hg,hcell⟩:=(HN.o.ext (Hx.o.trans HX4.o)).get (j:=q) (by rw[HLn.o];exact hqj);rw[HLn.o]at hv;simp only[Ye]at hv;obtain⟨rfl,-,rfl⟩:=hv;obtain⟨q0,q1,q2⟩:=hcell q nq hnq;obtain⟨p0,p1,p2⟩:=hcell k mk Hmk.o;have m1:=lat q2;have m2:=lat p2;have z2:(0:Int)≤(k:Int):=by omega
   have z3:(k:Int)<(j:Int):=by omega
   have Hnq:=Y4 hnq;clear p0 p1 q1 hcell hnq;cases heq:(nq.k.toList==mk.k.toList)
   ·have heq2:¬ nq.k.toList=mk.k.toList:=by simpa using heq
    have hne2:nq.k≠mk.k:=fun e=>heq2 (by rw[e])
    have Hne2:=Y4 hne2;clear hne2 q0;go_wp2_with fail;have hun:=Yb;refine Y8 (by kernel_rfl) (by kernel_rfl) ?_;repeat((with_reducible refine Yu ?_);intro K hK;go_simp;(with_reducible refine hK _ ?_);clear hK K)
    (with_reducible refine Yt ?_)
    intro w9 hy9;clear hun;try simp only[Yc]
    go_wp2_with fail;go_roundw;case rel =>
     refine⟨q+1,by omega,by omega,by go_num,fun p x h1 h2 h3=>?_,HXi4.o.trans hy9⟩;rcases(show p<q∨p=q by omega)with h4|rfl
     ·exact Htw.o p x h1 h4 h3
     rw[Hnq.o]at h3;cases h3;exact Hne2.o
    case measure=>(simp[intOf];omega)
   have heq2:nq.k.toList=mk.k.toList:=by simpa using heq
   clear heq2;go_wp2_with fail;have hun:=Yb;refine Y8 (by kernel_rfl) (by kernel_rfl) ?_;repeat((with_reducible refine Yu ?_);intro K hK;go_simp;(with_reducible refine hK _ ?_);clear hK K)
   (with_reducible refine Yt ?_)
   intro w9 hy9;clear hun;try simp only[Yc]
   have q0':=(hy9.cell (p:=⟨g,o+q*3,none⟩) hg).trans q0;have HX9:=Y4 (HX4.o.trans hy9);clear q0 q2 p2 m1 m2 hy9;obtain⟨y0,y1,y2,y3,y4,y5,y6,y7,yf,yl⟩:=HZ1.o.ext (Hx.o.trans HX9.o);go_wp2_with fail;go_region;all_goals
    go_wp2_with fail;refine Ys (v:=.tuple #[.slice none 0 0,.slice none 0 0,Wm ⟨22,(q:Int),nq.a,default,0⟩]) (by simp[results,Tryz.results171,go_sem,Wm,Qr, *]) rfl ⟨.slice none 0 0,.slice none 0 0,[],⟨22,(q:Int),nq.a,default,0⟩,rfl,Rd.nil _ _ _,fun h=>absurd h (show ¬ (22:Int)=0 by decide),⟨rfl,Zl7 _⟩,?_⟩;(first|refine Yi ?_|refine Yj ?_ _|skip)
    (repeat refine Ya ?_ Hrw.o _)
    first|exact HXW.o.trans (Hx.o.trans HX9.o)|exact(HXW.o.trans (Hx.o.trans HX9.o)).drew|exact(HXW.o.trans (Hx.o.trans HX9.o)).drewN _
  have hd_q:=GEl q j;obtain rfl:q=j:=by omega
  obtain⟨g,o,c,hv,_,_,_,hg,hcell⟩:=(HN.o.ext (Hx.o.trans HX4.o)).get (j:=k) (by rw[HLn.o];exact hk);rw[HLn.o]at hv;simp only[Ye]at hv;obtain⟨rfl,-,rfl⟩:=hv;obtain⟨p0,p1,p2⟩:=hcell k mk Hmk.o;have z2:(0:Int)≤(k:Int):=by omega
  have z3:(k:Int)<(q:Int):=by omega
  have V4:=Y4 (Hou.o.ext HX4.o);have U4:=Y4 (Hav.o.ext HX4.o);have hB4:B2≤w4.heap.size:=Zm5 HBw2.o HX4.o.size;clear hcell;go_wp2_with (first|(at_builtin;(refine Xu nmE _ _ _ rfl rfl rfl rfl (V4.o.ext ((Yl _).alloc _)) rfl (Zqc w4 mk.a mk.u mk.k _ _ rfl) (by rw[Hm.o];show m+1≤_;omega) (by show 48≤1000;omega) (by simp;omega) ?_;intro A5 n5 c5 w5 hg5;have H5:=Y4 hg5;have X5:=Y4 (hg5.ext wr ((Hx.o.trans HX4.o).alloc _) (by rw[HB2.o];exact Yn _));have U5:=Y4 ((U4.o.ext ((Yl _).alloc _)).chg hg5.chg (fun kk h1 h2=>Hne.o kk h2 h1));have hB5:B2≤w5.heap.size:=(by rw[← HB2.o];exact X5.o.size);clear hg5))|(at_builtin;(refine Xu Wi _ _ _ rfl rfl rfl rfl (U5.o.ext ((Yl _).alloc _)) rfl (Wv w5 (k:Int) _ _ rfl) (by rw[Hal.o];show m+1≤_;omega) (by show 8≤1000;omega) (by simp;omega) ?_;intro A6 n6 c6 w6 hg6;have H6:=Y4 hg6;have X6:=Y4 (hg6.ext wr (X5.o.alloc _) (by rw[HB2.o];exact Yn _));clear hg6)));go_roundw;case rel =>
   have hlt5:∀ kk,(Value.slice A5 n5 c5).ownBlock=some kk→kk<w5.heap.size:=fun kk h=>(H5.o.own.lt kk h).2
   have hn56:∀ kk,(Value.slice A5 n5 c5).ownBlock=some kk→(Value.slice A3 m C3).ownBlock≠some kk:=by
    intro kk h1 h2;rcases H5.o.at_ with h|h
    ·exact Hne.o kk ((show(Value.slice A5 n5 c5).ownBlock=(Value.slice A2 m C2).ownBlock from h).symm.trans h1) h2
    rw[h1]at h;have h3:=(U4.o.lt kk h2).2;simp at h;omega
   have hst:=Tu Hmk.o Hbk.o Hmin.o (fun p x h1 h2=>by
    rcases Zke p k with h|h|h
    ·exact absurd h2 (Hfirst.o p x h h1)
    ·exact h
    exact absurd h2 (Htw.o p x h (by have:=(Zr.1 h1).1;rw[HLn.o]at this;exact this) h1))
   refine⟨out++[mk],av++[(k:Int)],(H5.o.own.ext ((Yl _).alloc _)).chg H6.o.chg (fun kk h1 h2=>hn56 kk h1 h2),H6.o.own,fun kk h1 h2=>?_,by rw[Zy5,hst,← Ho9.o,Hch.o,Zs,Hm.o];rfl,by rw[Zs,Hm.o];show m+1≤_;omega,by simp[Hm.o,Hal.o],X6.o,HKo.o.1.snoc (HKS.o.1 _ (Zy Hmk.o)) (Zjn.1 HKS.o.2 _ (Zy Hmk.o)),Zzd HKo.o.2 (by rw[Ho9.o];exact Hbk.o)⟩;rcases H6.o.at_ with h|h
   ·exact hn56 kk h1 ((show(Value.slice A6 n6 c6).ownBlock=(Value.slice A3 m C3).ownBlock from h).symm.trans h2)
   have h3:=hlt5 kk h1;rw[h2]at h;simp at h;omega
  case measure =>
   have e5:n5=m+1:=by rw[H5.o.len,Zs,Hm.o];rfl
   simp only[sliceLen];omega
 have hd_m:=GEl m i;obtain⟨y0,y1,y2,y3,y4,y5,y6,y7,yf,yl⟩:=HZ1.o.ext Hx.o;go_wp2_with fail;refine Ys (v:=.tuple #[.slice A2 m C2,.slice A3 m C3,Wm ⟨0,-1,⟨#[]⟩,default,0⟩]) (by simp[results,Tryz.results171,go_sem,Wm,Qr, *]) rfl ⟨.slice A2 m C2,.slice A3 m C3,out,⟨0,-1,⟨#[]⟩,default,0⟩,rfl,?_,fun _=>⟨by rw[Hm.o];omega,by rw[Hm.o];omega,by rw[Hm.o];omega,HKo.o⟩,⟨rfl,Zl7 _⟩,?_⟩
 ·have h9:Vo wq (fun k=>B2≤k) (.slice A2 m C2) out:=by have:=Hou.o;exact this.rd
  have h8:Vo wq (fun k=>rb<k∧w.heap.size≤k) (.slice A2 m C2) out:=Rd.mono h9 fun k hk _=>by have:=HwB2.o;have:=HrB.o;omega
  refine Rd.mono (S:=fun k=>rb<k∧w.heap.size≤k) ?_ fun _ hk _=>hk.2
  (repeat refine Zon ?_)
  exact h8
 (repeat refine Ya ?_ Hrw.o _)
 exact HXW.o.trans Hx.o
end Go.Proofs.YtnbclgbicnpmnaaGreat
