/- Lemmas of this claim: RX, RX2. Conditions: as named. -/
import Derived.Test.YtnbclgbicnpmnaaGreatA28
import Derived.Test.YtnbclgbicnpmnaaGreatA29
namespace Go.Proofs.YtnbclgbicnpmnaaGreat
open Go.RowKit Go.Sort
set_option maxHeartbeats 0
set_option maxRecDepth 100000
set_option linter.all false
def Zwq(n:Nat)(w:World)(e:Ending)(w':World):Prop:=∃ z:Int,e=.returned (.int .i64 z)∧-1≤z∧z<n∧Ext w w'
theorem Zy7{S S':Nat→Prop}(T:Tbl)(hf:Few T)(hu:Uq T)(v:Value)(l:List Int)(j:Nat)(w:World)(h:Xl w S T)(hl:Xx w S' v l)(hj:j<l.length):Calls Tryz.prog 264 #[Vu T,v,.int .i64 (j:Int)] w (Zwq l.length w):=by
 obtain⟨A,C,rfl,hlCC,hCC⟩:=hl.shape;obtain⟨n,hnn⟩:=gnX ((l).length);have Hnn:=Y4 hnn;have Hhl:=Y4 hl;unfold maxLen at hCC;rw[hnn]at hlCC⊢;clear hl hnn;have X0:=Y4 ((Yl w).alloc (Xe T));have H:=Y4 (h.up X0.o);have Hb0:=Y4 (Xm w T);clear h;have HL:=Y4 (show Xx (w.alloc (Xe T)) S' (.slice A n C) l by have:=Hhl.o.ext X0.o;rwa [Hnn.o]at this);have Hf:=Y4 hf;have Hu:=Y4 hu;clear hf hu;rw[Hnn.o]at hj;have d0:decide ((j:Int)<0)=false:=Yg;have d1:decide ((n:Int)≤(j:Int))=false:=Yg;have d1n:¬ n≤j:=by omega
 go_enter Tryz.func264,Tryz.ntmps264;go_wp2_with (first|(refine Xw rfl ?_)|(refine Wr Hb0.o (by go_simp) rfl ?_));refine(Vk T Hf.o Hu.o _ l _ H.o HL.o).mono ?_;rintro e w1 ⟨x,rfl,_,hx1⟩;have Hx1:=Y4 hx1;clear hx1;by_cases h0:x=0
 ·subst h0;go_wp2_with fail;go_loopw [8,7] (fun o u wr=>∃ (k:Nat) (z:Int),k≤j∧o=.int .i64 (k:Int)∧u=.int .i64 z∧-1≤z∧z<n∧Ext (w.alloc (Xe T)) wr) (fun o _ _=>j-(intOf o).toNat);case atStart=>exact⟨0,-1,by omega,rfl,rfl,by omega,by omega,Hx1.o⟩
  clear Hx1;obtain⟨k,z,hk,rfl,rfl,hz1,hz2,hx⟩:=hrel;have Hx:=Y4 hx;clear hx;by_cases hlt:k<j
  ·have hd:=LTd k j;have i0:(0:Int)≤(k:Int):=by omega
   have i1:(k:Int)<(n:Int):=by omega
   have hkn:k<n:=by omega
   obtain⟨c,hs_c⟩:=geX (l:=(l)) (i:=k) (by have:=Hnn.o;omega);obtain⟨g_c,o_c,c_c,hvv,_,_,_,hgl_c,a0_c⟩:=(HL.o.ext Hx.o).get hs_c;simp only[Ye]at hvv;obtain⟨rfl,-,rfl⟩:=hvv;have Hs_c:=Y4 hs_c;clear hs_c;have m0:=lat a0_c;have HW:=Y4 (H.o.up Hx.o);have hC:∀ w',(∃ p:Wf,w'=later wr p.n p.os)→Jm w' w.heap.size T:=fun w' ⟨p,e⟩=>by rw[e];exact(Hb0.o.ext Hx.o).ext (⟨_,_,rfl⟩)
   cases hz:(Wl T.joi c==5)
   all_goals
    have hun:=Yb;go_wp2_with fail;refine Y8 (by kernel_rfl) (by kernel_rfl) ?_;repeat(first|((with_reducible refine Xk ?_ ?_ hC ?_);(focus(go_simp;done));rfl)|((with_reducible refine Yu ?_);intro K hK;go_simp;first|((with_reducible refine hK _ ?_);clear hK K)|(apply Exists.intro;refine⟨fun _=>?_,hK _ ?_⟩;(first|(go_at_call 266;exact Xy (Vj T _ _ (HW.o.up (⟨_,_,rfl⟩))))|(go_at_call 148;exact Xy (Xp T _ _ (HW.o.up (⟨_,_,rfl⟩)))));clear hK K)))
    (with_reducible refine Yt ?_)
    intro w2 hy;clear hun;try simp only[Yc]
    have Hx2:=Y4 (Hx.o.trans hy);clear hy HW hC m0;go_wp2_with fail;go_roundw;case rel=>first|exact⟨k+1,(k:Int),by omega,by go_num,rfl,by omega,by omega,Hx2.o⟩|exact⟨k+1,z,by omega,by go_num,rfl,hz1,hz2,Hx2.o⟩
    (simp[intOf];omega)
  have hd:=GEl k j;go_wp2_with fail;go_ret;exact⟨z,rfl,hz1,hz2,X0.o.trans Hx.o⟩
 have h0b:(!(x==0))=true:=by simp[h0]
 have h0c:(x !=0)=true:=h0b;have h0d:(x==0)=false:=by simp[h0]
 have h0H:=Y4 h0;clear h0;go_wp2_with fail;go_ret;exact⟨-1,rfl,by omega,by omega,X0.o.trans Hx1.o⟩
theorem Ig{S S':Nat→Prop}(T:Tbl)(hf:Few T)(hu:Uq T)(v:Value)(l:List Int)(j:Nat)(w:World)(h:Xl w S T)(hl:Xx w S' v l)(hj:j<l.length)(hb:l.length≤100000):Calls Tryz.prog 265 #[Vu T,v,.int .i64 (j:Int)] w (Zwq l.length w):=by
 obtain⟨A,C,rfl,hlCC,hCC⟩:=hl.shape;obtain⟨n,hnn⟩:=gnX ((l).length);have Hnn:=Y4 hnn;have Hhl:=Y4 hl;unfold maxLen at hCC;rw[hnn]at hlCC⊢;clear hl hnn;have X0:=Y4 ((Yl w).alloc (Xe T));have H:=Y4 (h.up X0.o);have Hb0:=Y4 (Xm w T);clear h;have HL:=Y4 (show Xx (w.alloc (Xe T)) S' (.slice A n C) l by have:=Hhl.o.ext X0.o;rwa [Hnn.o]at this);have Hf:=Y4 hf;have Hu:=Y4 hu;clear hf hu;rw[Hnn.o]at hj hb;have d0:decide ((j:Int)<0)=false:=Yg;have d1:decide ((n:Int)≤(j:Int))=false:=Yg;have d1n:¬ n≤j:=by omega
 have r1:=Vs n (by omega) (by omega);go_enter Tryz.func265,Tryz.ntmps265;go_wp2_with (first|(refine Xw rfl ?_)|(refine Wr Hb0.o (by go_simp) rfl ?_));refine(Vk T Hf.o Hu.o _ l _ H.o HL.o).mono ?_;rintro e w1 ⟨x,rfl,_,hx1⟩;have Hx1:=Y4 hx1;clear hx1;by_cases h0:x=0
 ·subst h0;go_wp2_with fail;clear r1;go_loopw [8,7] (fun o u wr=>∃ (k:Nat) (z:Int),j≤k∧k<n∧o=.int .i64 (k:Int)∧u=.int .i64 z∧-1≤z∧z<n∧Ext (w.alloc (Xe T)) wr) (fun o _ _=>(intOf o).toNat);case atStart=>exact⟨n-1,-1,by omega,by omega,rfl,rfl,by omega,by omega,Hx1.o⟩
  clear Hx1;obtain⟨k,z,hk,hkn,rfl,rfl,hz1,hz2,hx⟩:=hrel;have Hx:=Y4 hx;clear hx;by_cases hlt:j<k
  ·have hd:=LTd j k;have i0:(0:Int)≤(k:Int):=by omega
   have i1:(k:Int)<(n:Int):=by omega
   have r2:=Vs k (by omega) (by omega);obtain⟨c,hs_c⟩:=geX (l:=(l)) (i:=k) (by have:=Hnn.o;omega);obtain⟨g_c,o_c,c_c,hvv,_,_,_,hgl_c,a0_c⟩:=(HL.o.ext Hx.o).get hs_c;simp only[Ye]at hvv;obtain⟨rfl,-,rfl⟩:=hvv;have Hs_c:=Y4 hs_c;clear hs_c;have m0:=lat a0_c;have HW:=Y4 (H.o.up Hx.o);have hC:∀ w',(∃ p:Wf,w'=later wr p.n p.os)→Jm w' w.heap.size T:=fun w' ⟨p,e⟩=>by rw[e];exact(Hb0.o.ext Hx.o).ext (⟨_,_,rfl⟩)
   cases hz:(Wl T.joi c==5)
   all_goals
    have hun:=Yb;go_wp2_with fail;refine Y8 (by kernel_rfl) (by kernel_rfl) ?_;repeat(first|((with_reducible refine Xk ?_ ?_ hC ?_);(focus(go_simp;done));rfl)|((with_reducible refine Yu ?_);intro K hK;go_simp;first|((with_reducible refine hK _ ?_);clear hK K)|(apply Exists.intro;refine⟨fun _=>?_,hK _ ?_⟩;(first|(go_at_call 266;exact Xy (Vj T _ _ (HW.o.up (⟨_,_,rfl⟩))))|(go_at_call 148;exact Xy (Xp T _ _ (HW.o.up (⟨_,_,rfl⟩)))));clear hK K)))
    (with_reducible refine Yt ?_)
    intro w2 hy;clear hun;try simp only[Yc]
    have Hx2:=Y4 (Hx.o.trans hy);clear hy HW hC m0;go_wp2_with fail;go_roundw;case rel=>first|exact⟨k-1,(k:Int),by omega,by omega,by first|rfl|go_num,rfl,by omega,by omega,Hx2.o⟩|exact⟨k-1,z,by omega,by omega,by first|rfl|go_num,rfl,hz1,hz2,Hx2.o⟩
    first|(simp[intOf];done)|(simp[intOf];omega)
  have hd:=GEl j k;go_wp2_with fail;go_ret;exact⟨z,rfl,hz1,hz2,X0.o.trans Hx.o⟩
 have h0b:(!(x==0))=true:=by simp[h0]
 have h0c:(x !=0)=true:=h0b;have h0d:(x==0)=false:=by simp[h0]
 have h0H:=Y4 h0;clear h0;go_wp2_with fail;go_ret;exact⟨-1,rfl,by omega,by omega,X0.o.trans Hx1.o⟩
theorem Gf{S S':Nat→Prop}(T:Tbl)(hf:Few T)(hu:Uq T)(v:Value)(l:List Int)(j:Nat)(w:World)(h:Xl w S T)(hl:Xx w S' v l)(hj:j<l.length)(hb:l.length≤100000):Calls Tryz.prog 253 #[Vu T,v,.int .i64 (j:Int)] w (Qy w):=by
 obtain⟨A,C,rfl,hlCC,hCC⟩:=hl.shape;obtain⟨n,hnn⟩:=gnX ((l).length);have Hnn:=Y4 hnn;have Hhl:=Y4 hl;unfold maxLen at hCC;rw[hnn]at hlCC⊢;clear hl hnn;have X0:=Y4 ((Yl w).alloc (Xe T));have H:=Y4 (h.up X0.o);have Hb0:=Y4 (Xm w T);clear h;have HL:=Y4 (show Xx (w.alloc (Xe T)) S' (.slice A n C) l by have:=Hhl.o.ext X0.o;rwa [Hnn.o]at this);have Hf:=Y4 hf;have Hu:=Y4 hu;clear hf hu;rw[Hnn.o]at hj hb;have d0:decide ((j:Int)<0)=false:=Yg;have d1:decide ((n:Int)≤(j:Int))=false:=Yg;have d1n:¬ n≤j:=by omega
 go_enter Tryz.func253,Tryz.ntmps253;go_wp2_with (first|(refine Xw rfl ?_)|(refine Wr Hb0.o (by go_simp) rfl ?_));refine(Vk T Hf.o Hu.o _ l _ H.o HL.o).mono ?_;rintro e w1 ⟨x,rfl,_,hx1⟩;have Hx:=Y4 hx1;clear hx1;by_cases h0:x=0
 ·subst h0;have i0:(0:Int)≤(j:Int):=by omega
  have i1:(j:Int)<(n:Int):=by omega
  obtain⟨c,hs_c⟩:=geX (l:=(l)) (i:=j) (by have:=Hnn.o;omega);obtain⟨g_c,o_c,c_c,hvv,_,_,_,hgl_c,a0_c⟩:=(HL.o.ext Hx.o).get hs_c;simp only[Ye]at hvv;obtain⟨rfl,-,rfl⟩:=hvv;have Hs_c:=Y4 hs_c;clear hs_c;have m0:=lat a0_c;have HW:=Y4 (H.o.up Hx.o);have hC:∀ w',(∃ p:Wf,w'=later w1 p.n p.os)→Jm w' w.heap.size T:=fun w' ⟨p,e⟩=>by rw[e];exact(Hb0.o.ext Hx.o).ext (⟨_,_,rfl⟩)
  go_wp2_with fail;go_cut [50] from 25 to 50 (fun o wx=>∃ q:Bool,o=.bool q∧Ext w1 wx)
  case first =>
   rename_i J1 K1 hJ hM;cases c1:(c !=8204)
   rotate_left
   ·cases c2:(c !=8205)
    ·by_cases hj0:0<j
     ·have k0:decide ((0:Int)<(j:Int))=true:=Yf;have k1:decide (0<j)=true:=Yf hj0;have r1:=Vs j (by omega) (by omega);obtain⟨jp,hjp⟩:=gnX (j-1);rw[hjp]at r1;have i2:(0:Int)≤(jp:Int):=by omega
      have i3:(jp:Int)<(n:Int):=by omega
      have i4:jp<n:=by omega
      obtain⟨y,hy0⟩:=geX (l:=l) (i:=jp) (by rw[Hnn.o];omega);obtain⟨g3,o3,c3,hv3,_,_,_,_,cy⟩:=(HL.o.ext Hx.o).get hy0;simp only[Ye,Yd,Zly,Zls,Zlc]at hv3;obtain⟨⟨rfl,rfl⟩,-,rfl⟩:=hv3;have m1:=lat cy;clear hjp;have hun:=Yb;refine Y8 (by kernel_rfl) (by kernel_rfl) ?_;repeat(first|((with_reducible refine Xk ?_ ?_ hC ?_);(focus(go_simp;done));rfl)|((with_reducible refine Yu ?_);intro K hK;go_simp;first|((with_reducible refine hK _ ?_);clear hK K)|(apply Exists.intro;refine⟨fun _=>?_,hK _ ?_⟩;(first|(go_at_call 266;exact Xy (Vj T _ _ (HW.o.up (⟨_,_,rfl⟩))))|(go_at_call 148;exact Xy (Xp T _ _ (HW.o.up (⟨_,_,rfl⟩)))));clear hK K)))
      (with_reducible refine Yt ?_)
      intro w2 hy;clear hun;try simp only[Yc]
      first|refine hM _ _ (hJ _ _ ?_)|(go_simp;refine hM _ _ (hJ _ _ ?_))|refine hJ _ _ ?_
      (repeat apply Exists.intro)
      exact⟨⟨_,rfl,hy⟩,rfl⟩
     have k0:decide ((0:Int)<(j:Int))=false:=Yg;have k1:decide (0<j)=false:=Yg hj0;have hun:=Yb;refine Y8 (by kernel_rfl) (by kernel_rfl) ?_;repeat(first|((with_reducible refine Xk ?_ ?_ hC ?_);(focus(go_simp;done));rfl)|((with_reducible refine Yu ?_);intro K hK;go_simp;first|((with_reducible refine hK _ ?_);clear hK K)|(apply Exists.intro;refine⟨fun _=>?_,hK _ ?_⟩;(first|(go_at_call 266;exact Xy (Vj T _ _ (HW.o.up (⟨_,_,rfl⟩))))|(go_at_call 148;exact Xy (Xp T _ _ (HW.o.up (⟨_,_,rfl⟩)))));clear hK K)))
     (with_reducible refine Yt ?_)
     intro w2 hy;clear hun;try simp only[Yc]
     first|refine hM _ _ (hJ _ _ ?_)|(go_simp;refine hM _ _ (hJ _ _ ?_))|refine hJ _ _ ?_
     (repeat apply Exists.intro)
     exact⟨⟨_,rfl,hy⟩,rfl⟩
    by_cases hj0:0<j
    ·have k0:decide ((0:Int)<(j:Int))=true:=Yf;have k1:decide (0<j)=true:=Yf hj0;have r1:=Vs j (by omega) (by omega);obtain⟨jp,hjp⟩:=gnX (j-1);rw[hjp]at r1;have i2:(0:Int)≤(jp:Int):=by omega
     have i3:(jp:Int)<(n:Int):=by omega
     have i4:jp<n:=by omega
     obtain⟨y,hy0⟩:=geX (l:=l) (i:=jp) (by rw[Hnn.o];omega);obtain⟨g3,o3,c3,hv3,_,_,_,_,cy⟩:=(HL.o.ext Hx.o).get hy0;simp only[Ye,Yd,Zly,Zls,Zlc]at hv3;obtain⟨⟨rfl,rfl⟩,-,rfl⟩:=hv3;have m1:=lat cy;clear hjp;have hun:=Yb;refine Y8 (by kernel_rfl) (by kernel_rfl) ?_;repeat(first|((with_reducible refine Xk ?_ ?_ hC ?_);(focus(go_simp;done));rfl)|((with_reducible refine Yu ?_);intro K hK;go_simp;first|((with_reducible refine hK _ ?_);clear hK K)|(apply Exists.intro;refine⟨fun _=>?_,hK _ ?_⟩;(first|(go_at_call 266;exact Xy (Vj T _ _ (HW.o.up (⟨_,_,rfl⟩))))|(go_at_call 148;exact Xy (Xp T _ _ (HW.o.up (⟨_,_,rfl⟩)))));clear hK K)))
     (with_reducible refine Yt ?_)
     intro w2 hy;clear hun;try simp only[Yc]
     first|refine hM _ _ (hJ _ _ ?_)|(go_simp;refine hM _ _ (hJ _ _ ?_))|refine hJ _ _ ?_
     (repeat apply Exists.intro)
     exact⟨⟨_,rfl,hy⟩,rfl⟩
    have k0:decide ((0:Int)<(j:Int))=false:=Yg;have k1:decide (0<j)=false:=Yg hj0;have hun:=Yb;refine Y8 (by kernel_rfl) (by kernel_rfl) ?_;repeat(first|((with_reducible refine Xk ?_ ?_ hC ?_);(focus(go_simp;done));rfl)|((with_reducible refine Yu ?_);intro K hK;go_simp;first|((with_reducible refine hK _ ?_);clear hK K)|(apply Exists.intro;refine⟨fun _=>?_,hK _ ?_⟩;(first|(go_at_call 266;exact Xy (Vj T _ _ (HW.o.up (⟨_,_,rfl⟩))))|(go_at_call 148;exact Xy (Xp T _ _ (HW.o.up (⟨_,_,rfl⟩)))));clear hK K)))
    (with_reducible refine Yt ?_)
    intro w2 hy;clear hun;try simp only[Yc]
    first|refine hM _ _ (hJ _ _ ?_)|(go_simp;refine hM _ _ (hJ _ _ ?_))|refine hJ _ _ ?_
    (repeat apply Exists.intro)
    exact⟨⟨_,rfl,hy⟩,rfl⟩
   by_cases hj0:0<j
   ·have k0:decide ((0:Int)<(j:Int))=true:=Yf;have k1:decide (0<j)=true:=Yf hj0;have r1:=Vs j (by omega) (by omega);obtain⟨jp,hjp⟩:=gnX (j-1);rw[hjp]at r1;have i2:(0:Int)≤(jp:Int):=by omega
    have i3:(jp:Int)<(n:Int):=by omega
    have i4:jp<n:=by omega
    obtain⟨y,hy0⟩:=geX (l:=l) (i:=jp) (by rw[Hnn.o];omega);obtain⟨g3,o3,c3,hv3,_,_,_,_,cy⟩:=(HL.o.ext Hx.o).get hy0;simp only[Ye,Yd,Zly,Zls,Zlc]at hv3;obtain⟨⟨rfl,rfl⟩,-,rfl⟩:=hv3;have m1:=lat cy;clear hjp;have hun:=Yb;refine Y8 (by kernel_rfl) (by kernel_rfl) ?_;repeat(first|((with_reducible refine Xk ?_ ?_ hC ?_);(focus(go_simp;done));rfl)|((with_reducible refine Yu ?_);intro K hK;go_simp;first|((with_reducible refine hK _ ?_);clear hK K)|(apply Exists.intro;refine⟨fun _=>?_,hK _ ?_⟩;(first|(go_at_call 266;exact Xy (Vj T _ _ (HW.o.up (⟨_,_,rfl⟩))))|(go_at_call 148;exact Xy (Xp T _ _ (HW.o.up (⟨_,_,rfl⟩)))));clear hK K)))
    (with_reducible refine Yt ?_)
    intro w2 hy;clear hun;try simp only[Yc]
    first|refine hM _ _ (hJ _ _ ?_)|(go_simp;refine hM _ _ (hJ _ _ ?_))|refine hJ _ _ ?_
    (repeat apply Exists.intro)
    exact⟨⟨_,rfl,hy⟩,rfl⟩
   have k0:decide ((0:Int)<(j:Int))=false:=Yg;have k1:decide (0<j)=false:=Yg hj0;have hun:=Yb;refine Y8 (by kernel_rfl) (by kernel_rfl) ?_;repeat(first|((with_reducible refine Xk ?_ ?_ hC ?_);(focus(go_simp;done));rfl)|((with_reducible refine Yu ?_);intro K hK;go_simp;first|((with_reducible refine hK _ ?_);clear hK K)|(apply Exists.intro;refine⟨fun _=>?_,hK _ ?_⟩;(first|(go_at_call 266;exact Xy (Vj T _ _ (HW.o.up (⟨_,_,rfl⟩))))|(go_at_call 148;exact Xy (Xp T _ _ (HW.o.up (⟨_,_,rfl⟩)))));clear hK K)))
   (with_reducible refine Yt ?_)
   intro w2 hy;clear hun;try simp only[Yc]
   first|refine hM _ _ (hJ _ _ ?_)|(go_simp;refine hM _ _ (hJ _ _ ?_))|refine hJ _ _ ?_
   (repeat apply Exists.intro)
   exact⟨⟨_,rfl,hy⟩,rfl⟩
  obtain⟨q,rfl,hxq⟩:=hcut;have Hxq:=Y4 (Hx.o.trans hxq);clear hxq HW hC m0;cases q with
  | true =>
   go_wp2_with fail;go_ret;exact⟨_,rfl,X0.o.trans Hxq.o⟩
  | false =>
   have z0:(wc).cell? ⟨w.heap.size,0,none⟩=some T.catV:=(Hb0.o.ext Hxq.o).at_ 0 (by omega);have z1:(wc).cell? ⟨w.heap.size,1,none⟩=some T.clsV:=(Hb0.o.ext Hxq.o).at_ 1 (by omega);have z2:(wc).cell? ⟨w.heap.size,2,none⟩=some T.joiV:=(Hb0.o.ext Hxq.o).at_ 2 (by omega);have z3:(wc).cell? ⟨w.heap.size,3,none⟩=some T.bidV:=(Hb0.o.ext Hxq.o).at_ 3 (by omega);have z4:(wc).cell? ⟨w.heap.size,4,none⟩=some T.scrV:=(Hb0.o.ext Hxq.o).at_ 4 (by omega);have z5:(wc).cell? ⟨w.heap.size,5,none⟩=some T.staV:=(Hb0.o.ext Hxq.o).at_ 5 (by omega);have z6:(wc).cell? ⟨w.heap.size,6,none⟩=some T.ignV:=(Hb0.o.ext Hxq.o).at_ 6 (by omega);have z7:(wc).cell? ⟨w.heap.size,7,none⟩=some T.extV:=(Hb0.o.ext Hxq.o).at_ 7 (by omega);have z8:(wc).cell? ⟨w.heap.size,8,none⟩=some T.mapV:=(Hb0.o.ext Hxq.o).at_ 8 (by omega);have z9:(wc).cell? ⟨w.heap.size,9,none⟩=some T.decV:=(Hb0.o.ext Hxq.o).at_ 9 (by omega);have z10:(wc).cell? ⟨w.heap.size,10,none⟩=some T.excV:=(Hb0.o.ext Hxq.o).at_ 10 (by omega);have z11:(wc).cell? ⟨w.heap.size,11,none⟩=some T.proV:=(Hb0.o.ext Hxq.o).at_ 11 (by omega);go_wp2_with fail;go_cut [7,8] from 51 to 58 (fun o u wx=>∃ a b:Int,o=.int .i64 a∧u=.int .i64 b∧-1≤a∧a<n∧-1≤b∧b<n∧Ext wc wx)
   case first =>
    rename_i J1 K1 hJ hM;have hxq:=Hxq.o;have hbl:=(Hb0.o.ext hxq).lt;have hjl:j<l.length:=by rw[Hnn.o];exact hj
    have hjb:l.length≤100000:=by rw[Hnn.o];exact hb
    have Hjl:=Y4 hjl;have Hjb:=Y4 hjb;clear hjl hjb;go_region_with (first|(go_at_call 264;refine(Zy7 T Hf.o Hu.o _ l j _ (H.o.up xE) (HL.o.ext xE) Hjl.o).mono ?_;rintro e w5 ⟨a,rfl,ha1,ha2,hx5⟩;have hq:=fun i=>hx5.cell (p:=⟨w.heap.size,i,none⟩) (by first|exact hbl|(simp;exact hbl)|(have:=hx6.size;simp at this⊢;omega)))|(go_at_call 265;refine(Ig T Hf.o Hu.o _ l j _ (H.o.up xE) (HL.o.ext xE) Hjl.o Hjb.o).mono ?_;rintro e w6 ⟨b,rfl,hb1,hb2,hx6⟩;have hq2:=fun i=>hx6.cell (p:=⟨w.heap.size,i,none⟩) (by first|exact hbl|(simp;exact hbl)|(have:=hx5.size;simp at this⊢;omega))));all_goals
     rw[Hnn.o]at ha2 hb2;go_simp;refine hM _ _ (hJ _ _ ?_);(repeat apply Exists.intro)
     exact⟨⟨a,b,rfl,rfl,ha1,ha2,hb1,hb2,xE⟩,rfl⟩
   obtain⟨a,b,rfl,rfl,ha1,ha2,hb1,hb2,hxc⟩:=hcut;have Hxd:=Y4 (Hxq.o.trans hxc);clear hxc z0 z1 z2 z3 z4 z5 z6 z7 z8 z9 z10 z11 a0_c;rename World=>wd
   obtain⟨g4,o4,c4,hv4,_,_,_,_,cj⟩:=(HL.o.ext Hxd.o).get Hs_c.o;simp only[Ye,Yd,Zly,Zls,Zlc]at hv4;obtain⟨⟨rfl,rfl⟩,-,rfl⟩:=hv4;by_cases ha0:a<0
   ·have e1:decide (a<0)=true:=Yf ha0;cases c5:(c==8205)
    all_goals
     go_wp2_with fail;go_ret;exact⟨_,rfl,X0.o.trans Hxd.o⟩
   have e1:decide (a<0)=false:=Yg ha0;by_cases hb0:b<0
   ·have e2:decide (b<0)=true:=Yf hb0;cases c5:(c==8205)
    all_goals
     go_wp2_with fail;go_ret;exact⟨_,rfl,X0.o.trans Hxd.o⟩
   have e2:decide (b<0)=false:=Yg hb0;obtain⟨p,rfl⟩:∃ p:Nat,a=(p:Int):=⟨a.toNat,by omega⟩;obtain⟨r,rfl⟩:∃ r:Nat,b=(r:Int):=⟨b.toNat,by omega⟩;cases c5:(c==8205)
   rotate_left
   ·go_wp2_with fail;go_ret;exact⟨_,rfl,X0.o.trans Hxd.o⟩
   go_wp2_with fail;have p0:(0:Int)≤(p:Int):=by omega
   have r0:(0:Int)≤(r:Int):=by omega
   have pn:p<n:=by omega
   have rn:r<n:=by omega
   obtain⟨yp,hyp⟩:=geX (l:=l) (i:=p) (by rw[Hnn.o];omega);obtain⟨yr,hyr⟩:=geX (l:=l) (i:=r) (by rw[Hnn.o];omega);obtain⟨g5,o5,c5',hv5,_,_,_,_,cp⟩:=(HL.o.ext Hxd.o).get hyp;simp only[Ye,Yd,Zly,Zls,Zlc]at hv5;obtain⟨⟨rfl,rfl⟩,-,rfl⟩:=hv5;obtain⟨g6,o6,c6,hv6,_,_,_,_,cr⟩:=(HL.o.ext Hxd.o).get hyr;simp only[Ye,Yd,Zly,Zls,Zlc]at hv6;obtain⟨⟨rfl,rfl⟩,-,rfl⟩:=hv6;have mp:=lat cp;have mr:=lat cr;have HW:=Y4 (H.o.up Hxd.o);have hC:∀ w',(∃ p:Wf,w'=later wd p.n p.os)→Jm w' w.heap.size T:=fun w' ⟨p,e⟩=>by rw[e];exact(Hb0.o.ext Hxd.o).ext (⟨_,_,rfl⟩)
   have hun:=Yb;refine Y8 (by kernel_rfl) (by kernel_rfl) ?_;repeat(first|((with_reducible refine Xk ?_ ?_ hC ?_);(focus(go_simp;done));rfl)|((with_reducible refine Yu ?_);intro K hK;go_simp;first|((with_reducible refine hK _ ?_);clear hK K)|(apply Exists.intro;refine⟨fun _=>?_,hK _ ?_⟩;(first|(go_at_call 266;exact Xy (Vj T _ _ (HW.o.up (⟨_,_,rfl⟩))))|(go_at_call 148;exact Xy (Xp T _ _ (HW.o.up (⟨_,_,rfl⟩)))));clear hK K)))
   (with_reducible refine Yt ?_)
   intro w2 hy;clear hun;try simp only[Yc]
   have Hx2:=Y4 (Hxd.o.trans hy);clear hy HW hC mp mr cp cr;go_wp2_with fail;all_goals
    go_ret;exact⟨_,rfl,X0.o.trans Hx2.o⟩
 have h0b:(!(x==0))=true:=by simp[h0]
 have h0c:(x !=0)=true:=h0b;have h0d:(x==0)=false:=by simp[h0]
 have h0H:=Y4 h0;clear h0;go_wp2_with fail;go_ret;exact⟨_,rfl,X0.o.trans Hx.o⟩
end Go.Proofs.YtnbclgbicnpmnaaGreat
