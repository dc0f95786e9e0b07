/- Lemmas of this claim. Conditions: as named. -/
import Derived.Test.YtnbclgbicnpmnaaGreatA14
import Derived.Test.YtnbclgbicnpmnaaGreatA18
namespace Go.Proofs.YtnbclgbicnpmnaaGreat
open Go.RowKit Go.Sort
set_option maxHeartbeats 0
set_option maxRecDepth 100000
set_option linter.all false
theorem Zzn{S:Nat→Prop}(T:Tbl)(hg:Af T)(w:World)(h:Xi w S T):Calls Tryz.prog 107 #[Vr T] w (Re w):=by
 have G:=Ya hg;clear hg;have X0:=Ya ((Yn w).alloc (Wx T));have H:=Ya (h.up X0.o);have Hb0:=Ya (Xn w T);clear h;go_enter Tryz.func107,Tryz.ntmps107;go_wp2_with (first|(refine Xx rfl ?_)|(refine Y4 Hb0.o rfl ?_)|(go_at_call 137;refine(Ml T _ H.o).mono ?_;rintro e w1 ⟨g1,g2,rfl,hc,hc2,hx1⟩));have Hc:=Ya hc;have Hc2:=Ya hc2;have Hx1:=Ya hx1;clear hc hx1 hc2;go_loopw [16] (fun o wr=>∃ i:Nat,i≤7∧o=.int .i64 (i:Int)∧Ext w1 wr) (fun o _=>7-(intOf o).toNat);case atStart=>exact⟨0,by omega,rfl,Yn _⟩
 obtain⟨k,hi_k,rfl,hx⟩:=hrel;have Hx:=Ya hx;clear hx;have Hy:=Ya (Hx1.o.trans Hx.o);by_cases hlt:k<7
 ·have hd_k:decide ((k:Int)<(7:Int))=true:=Yh (by omega);have i0_k:(0:Int)≤(k:Int):=(by omega);have i1_k:(k:Int)<(7:Int):=(by omega);obtain⟨p,hp⟩:=geX (l:=(Zzd T)) (i:=k) (by have:(Zzd T).length=7:=rfl;omega);have hrow:=Zsm H.o p (Zy hp);have c0:=(Hc.o.ext Hx.o).at_ k p.1 (by simp[hp]);obtain⟨A1,C1,e1,hl1,hc1⟩:=hrow.shape;rw[e1]at c0 hrow;unfold maxLen at hc1;obtain⟨m,hm⟩:=gnX (p.2.length);have Hm:=Ya hm;have Hp:=Ya hp;have Hrow:=Ya hrow;rw[hm]at c0 hl1;clear hrow hm hp e1;obtain⟨z,hz⟩:∃ z:Int,([8,254,5,11,60,4,1]:List Int)[k]?=some z:=⟨([8,254,5,11,60,4,1]:List Int)[k]'(by simpa using hlt),Zz _⟩;have Hcz:=Ya (Hc2.o.at_ k (.int .i64 z) (by rw[Zn,hz];rfl));have OK:=Ya (G.o.sp k p z Hp.o hz);go_wp2_with fail;have Hz:=Ya Hx.o;have Hlt:=Ya hlt;clear Hx Hy hlt hz;go_loopw [23] (fun o wr=>∃ i:Nat,i≤m∧o=.int .i64 (i:Int)∧Ext w1 wr) (fun o _=>m-(intOf o).toNat);case atStart=>exact⟨0,by omega,rfl,Hz.o⟩
  obtain⟨j,hi_j,rfl,hx⟩:=hrel;have Hx:=Ya hx;clear hx;have Hy:=Ya (Hx1.o.trans Hx.o);by_cases hlt:j<m
  ·obtain⟨hd_j,i0_j,i1_j⟩:=LTl j m (by omega);obtain⟨x,hs_x⟩:=geX (l:=(p.2)) (i:=j) (by have:=Hm.o;omega);obtain⟨g_x,o_x,c_x,hvv,_,_,_,hgl_x,a0_x,a1_x,a2_x⟩:=(Hrow.o.ext Hy.o).get hs_x;simp only[Yg]at hvv;obtain⟨rfl,-,rfl⟩:=hvv;have Hs_x:=Ya hs_x;clear hs_x;have hkl:=Hlt.o;go_wp2_with fail;obtain⟨W,hW⟩:=gnX (wr.alloc (.cells #[.int .i64 x.fr,.int .i64 x.to_,.int .i64 x.val] 99));have m0:=lat (show W.cell? ⟨wr.heap.size,2,none⟩=some (.int .i64 x.val) by(rw[← hW];clear hW;go_simp));have hxw:Ext wr W:=by rw[← hW];exact(Yn _).alloc _
   have m1:=lat (((Hx.o.trans hxw).cell (p:=⟨g2,k,none⟩) Hc2.o.lt).trans Hcz.o);rw[hW];clear hW;obtain⟨_,_,_,_,r1,r2⟩:=OK.o.in_ x (Zy Hs_x.o);have q1:decide (x.val<0)=false:=Yi (by omega);have q2:decide (z<x.val)=false:=Yi (by omega);have q3:(x.val==0)=false:=by simp;omega
   clear r1 r2;have hun:=Yd;refine Y0 (by kernel_rfl) (by kernel_rfl) ?_;repeat((with_reducible refine Yw ?_);intro K hK;go_simp;(with_reducible refine hK _ ?_);clear hK K)
   (with_reducible refine Yv ?_)
   intro w9 hy9;clear hun;try simp only[Ye]
   go_wp2_with fail;all_goals
    have hx:=Hx.o
    first
    | (go_roundw
       case rel=>exact⟨j+1,by omega,by go_num,(by repeat' first|exact Yn _|assumption|apply Ym|apply Yl|apply Yk|(refine Yj ?_ (by assumption)))⟩
       (simp[intOf];omega))
    | (go_ret;exact⟨rfl,X0.o.trans (Hx1.o.trans (by repeat' first|exact Yn _|assumption|apply Ym|apply Yl|apply Yk|(refine Yj ?_ (by assumption))))⟩)
  have hd_j:=GEl j m (by omega);have hlt2:=Hlt.o;go_wp2_with fail;all_goals
   have hx:=Hx.o
   first
   | (go_roundw
      case rel=>exact⟨k+1,by omega,by go_num,(by repeat' first|exact Yn _|assumption|apply Ym|apply Yl|apply Yk|(refine Yj ?_ (by assumption)))⟩
      (simp[intOf];omega))
   | (go_ret;exact⟨rfl,X0.o.trans (Hx1.o.trans (by repeat' first|exact Yn _|assumption|apply Ym|apply Yl|apply Yk|(refine Yj ?_ (by assumption))))⟩)
 have hd_k:decide ((k:Int)<(7:Int))=false:=Yi (by omega);go_wp2_with fail;all_goals
  have hx:=Hx.o
  first
  | (go_roundw
     case rel=>exact⟨k+1,by omega,by go_num,(by repeat' first|exact Yn _|assumption|apply Ym|apply Yl|apply Yk|(refine Yj ?_ (by assumption)))⟩
     (simp[intOf];omega))
  | (go_ret;exact⟨rfl,X0.o.trans (Hx1.o.trans (by repeat' first|exact Yn _|assumption|apply Ym|apply Yl|apply Yk|(refine Yj ?_ (by assumption))))⟩)
theorem Zw2{S:Nat→Prop}(T:Tbl)(hg:Af T)(w:World)(h:Xi w S T):Calls Tryz.prog 108 #[Vr T] w (Re w):=by
 have G:=Ya hg;clear hg;have X0:=Ya ((Yn w).alloc (Wx T));have H:=Ya (h.up X0.o);have Hb0:=Ya (Xn w T);clear h;go_enter Tryz.func108,Tryz.ntmps108;go_wp2_with (first|(refine Xx rfl ?_)|(refine Y4 Hb0.o rfl ?_)|(go_at_call 138;refine(Ug T _ H.o).mono ?_;rintro e w1 ⟨g1,rfl,hc,hx1⟩));have Hc:=Ya hc;have Hx1:=Ya hx1;clear hc hx1;go_loopw [14] (fun o wr=>∃ i:Nat,i≤4∧o=.int .i64 (i:Int)∧Ext w1 wr) (fun o _=>4-(intOf o).toNat);case atStart=>exact⟨0,by omega,rfl,Yn _⟩
 obtain⟨k,hi_k,rfl,hx⟩:=hrel;have Hx:=Ya hx;clear hx;have Hy:=Ya (Hx1.o.trans Hx.o);by_cases hlt:k<4
 ·have hd_k:decide ((k:Int)<(4:Int))=true:=Yh (by omega);have i0_k:(0:Int)≤(k:Int):=(by omega);have i1_k:(k:Int)<(4:Int):=(by omega);obtain⟨p,hp⟩:=geX (l:=(Zzw T)) (i:=k) (by have:(Zzw T).length=4:=rfl;omega);have hrow:=Ztu H.o p (Zy hp);have c0:=(Hc.o.ext Hx.o).at_ k p.1 (by simp[hp]);obtain⟨A1,C1,e1,hl1,hc1⟩:=hrow.shape;rw[e1]at c0 hrow;unfold maxLen at hc1;obtain⟨m,hm⟩:=gnX (p.2.length);have Hm:=Ya hm;have Hp:=Ya hp;have Hrow:=Ya hrow;rw[hm]at c0 hl1;clear hrow hm hp e1;have OK:=Ya (G.o.mp k p Hp.o);go_wp2_with fail;have Hz:=Ya Hx.o;have Hlt:=Ya hlt;clear Hx Hy hlt;go_loopw [21] (fun o wr=>∃ i:Nat,i≤m∧o=.int .i64 (i:Int)∧Ext w1 wr) (fun o _=>m-(intOf o).toNat);case atStart=>exact⟨0,by omega,rfl,Hz.o⟩
  obtain⟨j,hi_j,rfl,hx⟩:=hrel;have Hx:=Ya hx;clear hx;have Hy:=Ya (Hx1.o.trans Hx.o);by_cases hlt:j<m
  ·obtain⟨hd_j,i0_j,i1_j⟩:=LTl j m (by omega);obtain⟨x,hs_x⟩:=geX (l:=(p.2)) (i:=j) (by have:=Hm.o;omega);obtain⟨g_x,o_x,c_x,hvv,_,_,_,hgl_x,a0_x,a1_x,_⟩:=(Hrow.o.ext Hy.o).get hs_x;simp only[Yg]at hvv;obtain⟨rfl,-,rfl⟩:=hvv;have ti_x:=Hrow.o.2 _ (Zy hs_x);obtain⟨A_x,C_x,tv_x,tl_x,tc_x⟩:=ti_x.shape;obtain⟨n_x,hn_x⟩:=gnX (x.to_.length);rw[tv_x]at a1_x ti_x;rw[hn_x]at a1_x tl_x;have Hn_x:=Ya hn_x;unfold maxLen at tc_x;have Hs_x:=Ya hs_x;have Ti_x:=Ya ti_x;clear hs_x ti_x tv_x hn_x;obtain⟨_,_,_,r1,r2⟩:=OK.o.in_ x (Zy Hs_x.o);rw[Hn_x.o]at r1 r2;have d1:decide ((n_x:Int)<(1:Int))=false:=Yi (by omega);have d2:decide ((18:Int)<(n_x:Int))=false:=Yi (by omega);have d3:¬ n_x=0:=by omega
   go_wp2_with fail;have Hza:=Ya (Hx.o.alloc (.cells #[.int .i64 x.fr,.slice A_x n_x C_x] 106));have Hbx:=Ya (Jh wr #[.int .i64 x.fr,.slice A_x n_x C_x] 106 _ rfl);have Hlj:=Ya hlt;clear Hx Hy hlt d1 d2 d3 r1 r2;rename World=>wo
   go_loopw [38] (fun o wr=>∃ i:Nat,i≤n_x∧o=.int .i64 (i:Int)∧Ext (wo.alloc (.cells #[.int .i64 x.fr,.slice A_x n_x C_x] 106)) wr) (fun o _=>n_x-(intOf o).toNat);case atStart=>exact⟨0,by omega,rfl,Yn _⟩
   obtain⟨i,hi_i,rfl,hx⟩:=hrel;have Hx:=Ya hx;clear hx;have Hw:=Ya (Hza.o.trans Hx.o);have Hy:=Ya (Hx1.o.trans (Hza.o.trans Hx.o));by_cases hlt:i<n_x
   ·obtain⟨hd_i,i0_i,i1_i⟩:=LTl i n_x (by omega);obtain⟨c,hs_c⟩:=geX (l:=(x.to_)) (i:=i) (by have:=Hn_x.o;omega);obtain⟨g_c,o_c,c_c,hvv,_,_,_,hgl_c,a0_c⟩:=(Ti_x.o.ext Hy.o).get hs_c;simp only[Yg]at hvv;obtain⟨rfl,-,rfl⟩:=hvv;have Hs_c:=Ya hs_c;clear hs_c;have bx:=(Hbx.o.ext Hx.o).at_ 1 _ rfl;rcases Zkq i with hj0|hj0
    ·have q6:decide ((0:Int)<(i:Int))=false:=Yi (by omega);have q7:decide (0<i)=false:=Yi (by omega);clear hj0;rcases Zkq k with hk0|hk0
     ·have k1:((k:Int)==0)=true:=by simp;omega
      have k2:(k==0)=true:=by simp;omega
      have k3:decide (k=0)=true:=Yh hk0;have k4:decide ((0:Int)<(k:Int))=false:=Yi (by omega);have k5:decide (0<k)=false:=Yi (by omega);have hsc:=OK.o.scr hk0 x (Zy Hs_x.o);have hs1:=hsc.1 c (Zy Hs_c.o);have e1':decide (c<3)=false:=Yi (by omega);have e2':decide (60<c)=false:=Yi (by omega);skip;clear hk0 hsc hs1;go_wp2_with fail;all_goals
       have hx:=Hx.o
       first
       | (go_roundw
          case rel=>exact⟨i+1,by omega,by go_num,(by repeat' first|exact Yn _|assumption|apply Ym|apply Yl|apply Yk|(refine Yj ?_ (by assumption)))⟩
          (simp[intOf];omega))
       | (go_ret;exact⟨rfl,X0.o.trans (Hx1.o.trans (Hza.o.trans (by repeat' first|exact Yn _|assumption|apply Ym|apply Yl|apply Yk|(refine Yj ?_ (by assumption)))))⟩)
     have k1:((k:Int)==0)=false:=by simp;omega
     have k2:(k==0)=false:=by simp;omega
     have k3:decide (k=0)=false:=Yi (by omega);have k4:decide ((0:Int)<(k:Int))=true:=Yh (by omega);have k5:decide (0<k)=true:=Yh (by omega);have HS:=Ya (OK.o.sca hk0 x (Zy Hs_x.o) c (Zy Hs_c.o));go_wp2_with (go_at_call 143;refine(Jc _ _).mono ?_;rintro e w' ⟨rfl,rfl⟩;rw[HS.o]);all_goals
      have hx:=Hx.o
      first
      | (go_roundw
         case rel=>exact⟨i+1,by omega,by go_num,(by repeat' first|exact Yn _|assumption|apply Ym|apply Yl|apply Yk|(refine Yj ?_ (by assumption)))⟩
         (simp[intOf];omega))
      | (go_ret;exact⟨rfl,X0.o.trans (Hx1.o.trans (Hza.o.trans (by repeat' first|exact Yn _|assumption|apply Ym|apply Yl|apply Yk|(refine Yj ?_ (by assumption)))))⟩)
    have q6:decide ((0:Int)<(i:Int))=true:=Yh (by omega);have q7:decide (0<i)=true:=Yh (by omega);obtain⟨y,hy⟩:∃ s,x.to_[i-1]?=some s:=⟨x.to_[i-1]'(by have:=Hn_x.o;omega),Zz _⟩;obtain⟨g',o',c',hvv,_,_,_,_,e1⟩:=(Ti_x.o.ext Hy.o).get hy;simp only[Yg,Yf,Zld,Zl2,Zks]at hvv;obtain⟨⟨rfl,rfl⟩,rfl⟩:=hvv;have w1':=Vu i hj0 (by omega);have w2':(1:Int)≤(i:Int):=by omega
    have w3':(0:Int)≤((i-1:Nat):Int):=by omega
    have w4':((i-1:Nat):Int)<(n_x:Int):=by omega
    have Hye:=Ya hy;have Hj0:=Ya hj0;clear hy hj0;rcases Zkq k with hk0|hk0
    ·have k1:((k:Int)==0)=true:=by simp;omega
     have k2:(k==0)=true:=by simp;omega
     have k3:decide (k=0)=true:=Yh hk0;have k4:decide ((0:Int)<(k:Int))=false:=Yi (by omega);have k5:decide (0<k)=false:=Yi (by omega);have hsc:=OK.o.scr hk0 x (Zy Hs_x.o);have hs1:=hsc.1 c (Zy Hs_c.o);have e1':decide (c<3)=false:=Yi (by omega);have e2':decide (60<c)=false:=Yi (by omega);have e3':decide (c≤y)=false:=Yi (by have:=hsc.2 i c y Hj0.o Hs_c.o Hye.o;omega);clear hk0 hsc hs1;go_wp2_with fail;all_goals
      have hx:=Hx.o
      first
      | (go_roundw
         case rel=>exact⟨i+1,by omega,by go_num,(by repeat' first|exact Yn _|assumption|apply Ym|apply Yl|apply Yk|(refine Yj ?_ (by assumption)))⟩
         (simp[intOf];omega))
      | (go_ret;exact⟨rfl,X0.o.trans (Hx1.o.trans (Hza.o.trans (by repeat' first|exact Yn _|assumption|apply Ym|apply Yl|apply Yk|(refine Yj ?_ (by assumption)))))⟩)
    have k1:((k:Int)==0)=false:=by simp;omega
    have k2:(k==0)=false:=by simp;omega
    have k3:decide (k=0)=false:=Yi (by omega);have k4:decide ((0:Int)<(k:Int))=true:=Yh (by omega);have k5:decide (0<k)=true:=Yh (by omega);have HS:=Ya (OK.o.sca hk0 x (Zy Hs_x.o) c (Zy Hs_c.o));go_wp2_with (go_at_call 143;refine(Jc _ _).mono ?_;rintro e w' ⟨rfl,rfl⟩;rw[HS.o]);all_goals
     have hx:=Hx.o
     first
     | (go_roundw
        case rel=>exact⟨i+1,by omega,by go_num,(by repeat' first|exact Yn _|assumption|apply Ym|apply Yl|apply Yk|(refine Yj ?_ (by assumption)))⟩
        (simp[intOf];omega))
     | (go_ret;exact⟨rfl,X0.o.trans (Hx1.o.trans (Hza.o.trans (by repeat' first|exact Yn _|assumption|apply Ym|apply Yl|apply Yk|(refine Yj ?_ (by assumption)))))⟩)
   have hd_i:=GEl i n_x (by omega);have hlj:=Hlj.o;have hx:=Hw.o;go_wp2_with fail;go_roundw;case rel=>exact⟨j+1,by omega,by go_num,(by repeat' first|exact Yn _|assumption|apply Ym|apply Yl|apply Yk|(refine Yj ?_ (by assumption)))⟩
   (simp[intOf];omega)
  have hd_j:=GEl j m (by omega);have hlt2:=Hlt.o;go_wp2_with fail;all_goals
   have hx:=Hx.o
   first
   | (go_roundw
      case rel=>exact⟨k+1,by omega,by go_num,(by repeat' first|exact Yn _|assumption|apply Ym|apply Yl|apply Yk|(refine Yj ?_ (by assumption)))⟩
      (simp[intOf];omega))
   | (go_ret;exact⟨rfl,X0.o.trans (Hx1.o.trans (by repeat' first|exact Yn _|assumption|apply Ym|apply Yl|apply Yk|(refine Yj ?_ (by assumption))))⟩)
 have hd_k:decide ((k:Int)<(4:Int))=false:=Yi (by omega);go_wp2_with fail;all_goals
  have hx:=Hx.o
  first
  | (go_roundw
     case rel=>exact⟨k+1,by omega,by go_num,(by repeat' first|exact Yn _|assumption|apply Ym|apply Yl|apply Yk|(refine Yj ?_ (by assumption)))⟩
     (simp[intOf];omega))
  | (go_ret;exact⟨rfl,X0.o.trans (Hx1.o.trans (by repeat' first|exact Yn _|assumption|apply Ym|apply Yl|apply Yk|(refine Yj ?_ (by assumption))))⟩)
theorem Dy{S:Nat→Prop}(T:Tbl)(hg:Af T)(w:World)(h:Xi w S T):Calls Tryz.prog 75 #[Vr T] w fun e w'=>e=.returned (.int .i64 0)∧Ext w w':=by
 obtain⟨A9,C9,e9,hl9,hc9⟩:=h.dec.shape;have h9:=h.dec.ext ((Yn w).alloc (Wx T));obtain⟨n9,hn9⟩:=gnX (T.dec.length);rw[hn9]at e9 hl9;rw[e9]at h9;have Hn9:=Ya hn9;have E9:=Ya e9;have H9:=Ya h9;unfold maxLen at hc9;clear hn9 e9 h9;obtain⟨A10,C10,e10,hl10,hc10⟩:=h.exc.shape;have h10:=h.exc.ext ((Yn w).alloc (Wx T));obtain⟨n10,hn10⟩:=gnX (T.exc.length);rw[hn10]at e10 hl10;rw[e10]at h10;have Hn10:=Ya hn10;have E10:=Ya e10;have H10:=Ya h10;unfold maxLen at hc10;clear hn10 e10 h10;obtain⟨A11,C11,e11,hl11,hc11⟩:=h.pro.shape;have h11:=h.pro.ext ((Yn w).alloc (Wx T));obtain⟨n11,hn11⟩:=gnX (T.pro.length);rw[hn11]at e11 hl11;rw[e11]at h11;have Hn11:=Ya hn11;have E11:=Ya e11;have H11:=Ya h11;unfold maxLen at hc11;clear hn11 e11 h11;have X0:=Ya ((Yn w).alloc (Wx T));have H:=Ya (h.up X0.o);have Hb0:=Ya (Xn w T);clear h;have G:=Ya hg;have Hf:=Ya hg.few;have Hu:=Ya hg.uq;have HF:=Ya hg.fin;clear hg;have Hx_0:=Ya (Yn (w.alloc (Wx T)));go_enter Tryz.func75,Tryz.ntmps75;go_wp2_with (first|(refine Xx rfl ?_)|(refine Y4 Hb0.o rfl ?_));refine(Zw3 T G.o _ H.o).mono ?_;rintro e w1 ⟨rfl,hx1⟩;have Hx_w1:=Ya (Hx_0.o.trans hx1);clear hx1;go_wp2_with (refine Y4 (Hb0.o.ext Hx_w1.o) rfl ?_);refine(Zzo T G.o _ (H.o.up Hx_w1.o)).mono ?_;rintro e w2 ⟨rfl,hx2⟩;have Hx_w2:=Ya (Hx_w1.o.trans hx2);clear hx2;go_wp2_with (refine Y4 (Hb0.o.ext Hx_w2.o) rfl ?_);refine(Zzn T G.o _ (H.o.up Hx_w2.o)).mono ?_;rintro e w3 ⟨rfl,hx3⟩;have Hx_w3:=Ya (Hx_w2.o.trans hx3);clear hx3;go_wp2_with (refine Y4 (Hb0.o.ext Hx_w3.o) rfl ?_);refine(Zw2 T G.o _ (H.o.up Hx_w3.o)).mono ?_;rintro e w4 ⟨rfl,hx4⟩;have Hx_w4:=Ya (Hx_w3.o.trans hx4);clear hx4;go_wp2_with (refine Y4 (Hb0.o.ext Hx_w4.o) rfl ?_);refine(Zzx T G.o _ (H.o.up Hx_w4.o)).mono ?_;rintro e w5 ⟨rfl,hx5⟩;have Hx_w5:=Ya (Hx_w4.o.trans hx5);clear hx5;go_wp2_with (refine Y4 (Hb0.o.ext Hx_w5.o) rfl ?_);refine(Cj T G.o _ (H.o.up Hx_w5.o)).mono ?_;rintro e w6 ⟨rfl,hx6⟩;have Hx:=Ya (Hx_w5.o.trans hx6);clear hx6 Hx_0 Hx_w1 Hx_w2 Hx_w3 Hx_w4 Hx_w5;have b10:=(Hb0.o.ext Hx.o).at_ 10 (by omega);rw[show(Qs T)[10]?=some T.excV from rfl,E10.o]at b10;go_wp2_with fail;clear b10;have Hx1:=Ya Hx.o;clear Hx;go_loopw [40] (fun o wr=>∃ i:Nat,i≤n10∧o=.int .i64 (i:Int)∧Ext (w.alloc (Wx T)) wr) (fun o _=>n10-(intOf o).toNat);case atStart=>exact⟨0,by omega,rfl,Hx1.o⟩
 clear Hx1;obtain⟨i,hi_i,rfl,hx⟩:=hrel;have Hx:=Ya hx;clear hx;by_cases hlt:i<n10
 ·obtain⟨hd_i,i0_i,i1_i⟩:=LTl i n10 (by omega);obtain⟨x,hs_x⟩:=geX (l:=(T.exc)) (i:=i) (by have:=Hn10.o;omega);obtain⟨g_x,o_x,c_x,hvv,_,_,_,hgl_x,a0_x⟩:=(H10.o.ext Hx.o).get hs_x;simp only[Yg]at hvv;obtain⟨rfl,-,rfl⟩:=hvv;have Hs_x:=Ya hs_x;clear hs_x;have b9:=(Hb0.o.ext Hx.o).at_ 9 (by omega);rw[show(Qs T)[9]?=some T.decV from rfl,E9.o]at b9;obtain⟨FA,FC,ef,fl,fc⟩:=(Qr (S:=S) (c:=x) H9.o.2).shape;obtain⟨d,hd⟩:=gnX ((Xe T.dec x).length);have hd0:0<d:=by rw[← hd];exact Ziy.2 (G.o.xin x (Zy Hs_x.o)).2.2.2
  rw[hd]at ef;have d1:((d:Int)==0)=false:=by simp;omega
  have d2:(d==0)=false:=by simp;omega
  have d3:¬ d=0:=by omega
  clear hd;go_wp2_with (go_at_call 111;refine(Ww _ T.dec x _ (H9.o.ext Hx.o)).mono ?_;rintro e w7 ⟨rfl,hx7⟩);have hx:=Hx.o;go_roundw;case rel=>exact⟨i+1,by omega,by go_num,(by repeat' first|exact Yn _|assumption|apply Ym|apply Yl|apply Yk|(refine Yj ?_ (by assumption)))⟩
  (simp[intOf];omega)
 have hd_i:=GEl i n10 (by omega);have b9:=(Hb0.o.ext Hx.o).at_ 9 (by omega);rw[show(Qs T)[9]?=some T.decV from rfl,E9.o]at b9;go_wp2_with fail;have Hx1:=Ya Hx.o;clear Hx hlt hd_i hi_i b9;go_loopw [54] (fun o wr=>∃ i:Nat,i≤n9∧o=.int .i64 (i:Int)∧Ext (w.alloc (Wx T)) wr) (fun o _=>n9-(intOf o).toNat);case atStart=>exact⟨0,by omega,rfl,Hx1.o⟩
 clear Hx1;obtain⟨i,hi_i,rfl,hx⟩:=hrel;have Hx:=Ya hx;clear hx;by_cases hlt:i<n9
 ·obtain⟨hd_i,i0_i,i1_i⟩:=LTl i n9 (by omega);obtain⟨a,hs_a⟩:=geX (l:=(T.dec)) (i:=i) (by have:=Hn9.o;omega);obtain⟨g_a,o_a,c_a,hvv,_,_,_,hgl_a,a0_a,a1_a,_⟩:=(H9.o.ext Hx.o).get hs_a;simp only[Yg]at hvv;obtain⟨rfl,-,rfl⟩:=hvv;have ti_a:=H9.o.2 _ (Zy hs_a);obtain⟨A_a,C_a,tv_a,tl_a,tc_a⟩:=ti_a.shape;obtain⟨n_a,hn_a⟩:=gnX (a.to_.length);rw[tv_a]at a1_a ti_a;rw[hn_a]at a1_a tl_a;have Hn_a:=Ya hn_a;unfold maxLen at tc_a;have Hs_a:=Ya hs_a;have Ti_a:=Ya ti_a;clear hs_a ti_a tv_a hn_a;have b9:=(Hb0.o.ext Hx.o).at_ 9 (by omega);rw[show(Qs T)[9]?=some T.decV from rfl,E9.o]at b9;have hbl:=(Hb0.o.ext Hx.o).lt;have hic:i≤C9:=by omega
  have hic2:(i:Int)≤(C9:Int):=by omega
  go_wp2_with fail;have Hxa:=Ya (Hx.o.alloc (.cells #[.int .i64 a.fr,.slice A_a n_a C_a] 106));have Hba:=Ya (Jh wr #[.int .i64 a.fr,.slice A_a n_a C_a] 106 _ rfl);have Hlt:=Ya hlt;clear Hx hlt b9 hbl a0_a a1_a hgl_a;rename World=>wo
  go_loopw [64] (fun o wr=>∃ j:Nat,j≤i∧o=.int .i64 (j:Int)∧Ext (wo.alloc (.cells #[.int .i64 a.fr,.slice A_a n_a C_a] 106)) wr) (fun o _=>i-(intOf o).toNat);case atStart=>exact⟨0,by omega,rfl,Yn _⟩
  obtain⟨j,hi_j,rfl,hx⟩:=hrel;have Hx:=Ya hx;clear hx;have Hy:=Ya (Hxa.o.trans Hx.o);have hi9:=Hlt.o;by_cases hlt:j<i
  ·obtain⟨hd_j,i0_j,i1_j⟩:=LTl j i (by omega);obtain⟨b,hs_b⟩:=geX (l:=(T.dec)) (i:=j) (by have:=Hn9.o;omega);obtain⟨g_b,o_b,c_b,hvv,_,_,_,hgl_b,a0_b,a1_b,_⟩:=(H9.o.ext Hy.o).get hs_b;simp only[Yg,Yf,Zld,Zl2,Zks]at hvv;obtain⟨⟨rfl,rfl⟩,-,rfl⟩:=hvv;have ti_b:=H9.o.2 _ (Zy hs_b);obtain⟨A_b,C_b,tv_b,tl_b,tc_b⟩:=ti_b.shape;obtain⟨n_b,hn_b⟩:=gnX (b.to_.length);rw[tv_b]at a1_b ti_b;rw[hn_b]at a1_b tl_b;have Hn_b:=Ya hn_b;unfold maxLen at tc_b;have Hs_b:=Ya hs_b;have Ti_b:=Ya ti_b;clear hs_b ti_b tv_b hn_b;go_wp2_with fail;obtain⟨W,hW⟩:=gnX (wr.alloc (.cells #[.int .i64 b.fr,.slice A_b n_b C_b] 106));have hxw:Ext wr W:=by rw[← hW];exact(Yn _).alloc _
   have hbn:=Jh wr #[.int .i64 b.fr,.slice A_b n_b C_b] 106 _ rfl;rw[hW]at hbn;have m0:=lat (hbn.at_ 0 _ rfl);have m1:=lat (hbn.at_ 1 _ rfl);have hba:=Hba.o.ext (Hx.o.trans hxw);have m2:=lat (hba.at_ 0 _ rfl);have m3:=lat (hba.at_ 1 _ rfl);have Hz:=Ya (Hy.o.trans hxw);have HW:=Ya (H.o.up Hz.o);have hC:∀ w',(∃ p:Wf,w'=later W p.n p.os)→Ja w' w.heap.size T:=fun w' ⟨p,e⟩=>by rw[e];exact(Hb0.o.ext Hz.o).ext (⟨_,_,rfl⟩)
   rw[hW];clear hW hbn hba;cases ca:Gh T a.fr
   ·have hun:=Yd;refine Y0 (by kernel_rfl) (by kernel_rfl) ?_;repeat(first|((with_reducible refine Xh ?_ ?_ hC ?_);(focus(go_simp;done));rfl)|((with_reducible refine Yw ?_);intro K hK;go_simp;first|((with_reducible refine hK _ ?_);clear hK K)|(apply Exists.intro;refine⟨fun _=>?_,hK _ ?_⟩;(go_at_call 112;exact Y8 (Kr T HF.o Hf.o _ _ (HW.o.up (⟨_,_,rfl⟩))));clear hK K)))
    (with_reducible refine Yv ?_)
    intro w9 hy9;clear hun;try simp only[Ye]
    go_wp2_with fail;have hx:=Hx.o;go_roundw;case rel=>exact⟨j+1,by omega,by go_num,(hx.trans hxw).trans hy9⟩
    (simp[intOf];omega)
   cases cb:Gh T b.fr
   ·have hun:=Yd;refine Y0 (by kernel_rfl) (by kernel_rfl) ?_;repeat(first|((with_reducible refine Xh ?_ ?_ hC ?_);(focus(go_simp;done));rfl)|((with_reducible refine Yw ?_);intro K hK;go_simp;first|((with_reducible refine hK _ ?_);clear hK K)|(apply Exists.intro;refine⟨fun _=>?_,hK _ ?_⟩;(go_at_call 112;exact Y8 (Kr T HF.o Hf.o _ _ (HW.o.up (⟨_,_,rfl⟩))));clear hK K)))
    (with_reducible refine Yv ?_)
    intro w9 hy9;clear hun;try simp only[Ye]
    go_wp2_with fail;have hx:=Hx.o;go_roundw;case rel=>exact⟨j+1,by omega,by go_num,(hx.trans hxw).trans hy9⟩
    (simp[intOf];omega)
   have hne:=G.o.r8 i j a b hlt Hs_a.o Hs_b.o ca cb;have Hne:=Ya hne;clear hne;obtain⟨xa,ya,ea⟩:∃ x y,a.to_=[x,y]:=by
    have h2:a.to_.length=2:=by
     rw[← Hu.o a (Zy Hs_a.o)];refine Zjo fun hn=>?_
     have:=F6 (n:=258) hn;unfold Gh at ca;rw[this]at ca;exact absurd ca (by simp)
    match hh:a.to_ with
    | [x,y]=>exact⟨x,y,rfl⟩
    | []=>rw[hh]at h2;simp at h2
    | [_]=>rw[hh]at h2;simp at h2
    | _::_::_::_=>rw[hh]at h2;simp at h2
   have ta:=Ti_a.o;rw[ea]at ta;obtain⟨gga,ooa,cca,hv0,_,_,_,_,ua⟩:=(ta.ext Hz.o).get (j:=0) rfl;obtain⟨gg',oo',cc',hv1,_,_,_,_,va⟩:=(ta.ext Hz.o).get (j:=1) rfl;rw[hv0]at hv1;simp only[Yg,Yf,Zld,Zl2,Zks]at hv1;obtain⟨⟨rfl,rfl⟩,rfl⟩:=hv1;simp only[Yg]at hv0;obtain⟨rfl,-,rfl⟩:=hv0;have hn2a:n_a=2:=by rw[← Hn_a.o,ea];rfl
   have hp0a:0<n_a:=by omega
   have hp1a:1<n_a:=by omega
   have hp2a:(0:Int)<(n_a:Int):=by omega
   have hp3a:(1:Int)<(n_a:Int):=by omega
   clear hn2a;rw[Zko]at ua;have Ma:=lat ua;have Na:=lat va;clear ta ua va;obtain⟨xb,yb,eb⟩:∃ x y,b.to_=[x,y]:=by
    have h2:b.to_.length=2:=by
     rw[← Hu.o b (Zy Hs_b.o)];refine Zjo fun hn=>?_
     have:=F6 (n:=258) hn;unfold Gh at cb;rw[this]at cb;exact absurd cb (by simp)
    match hh:b.to_ with
    | [x,y]=>exact⟨x,y,rfl⟩
    | []=>rw[hh]at h2;simp at h2
    | [_]=>rw[hh]at h2;simp at h2
    | _::_::_::_=>rw[hh]at h2;simp at h2
   have tb:=Ti_b.o;rw[eb]at tb;obtain⟨ggb,oob,ccb,hv0,_,_,_,_,ub⟩:=(tb.ext Hz.o).get (j:=0) rfl;obtain⟨gg',oo',cc',hv1,_,_,_,_,vb⟩:=(tb.ext Hz.o).get (j:=1) rfl;rw[hv0]at hv1;simp only[Yg,Yf,Zld,Zl2,Zks]at hv1;obtain⟨⟨rfl,rfl⟩,rfl⟩:=hv1;simp only[Yg]at hv0;obtain⟨rfl,-,rfl⟩:=hv0;have hn2b:n_b=2:=by rw[← Hn_b.o,eb];rfl
   have hp0b:0<n_b:=by omega
   have hp1b:1<n_b:=by omega
   have hp2b:(0:Int)<(n_b:Int):=by omega
   have hp3b:(1:Int)<(n_b:Int):=by omega
   clear hn2b;rw[Zko]at ub;have Mb:=lat ub;have Nb:=lat vb;clear tb ub vb;cases e0:(xa==xb)
   ·have hun:=Yd;refine Y0 (by kernel_rfl) (by kernel_rfl) ?_;repeat(first|((with_reducible refine Xh ?_ ?_ hC ?_);(focus(go_simp;done));rfl)|((with_reducible refine Yw ?_);intro K hK;go_simp;first|((with_reducible refine hK _ ?_);clear hK K)|(apply Exists.intro;refine⟨fun _=>?_,hK _ ?_⟩;(go_at_call 112;exact Y8 (Kr T HF.o Hf.o _ _ (HW.o.up (⟨_,_,rfl⟩))));clear hK K)))
    (with_reducible refine Yv ?_)
    intro w9 hy9;clear hun;try simp only[Ye]
    go_wp2_with fail;have hx:=Hx.o;go_roundw;case rel=>exact⟨j+1,by omega,by go_num,(hx.trans hxw).trans hy9⟩
    (simp[intOf];omega)
   cases e1:(ya==yb)
   ·have hun:=Yd;refine Y0 (by kernel_rfl) (by kernel_rfl) ?_;repeat(first|((with_reducible refine Xh ?_ ?_ hC ?_);(focus(go_simp;done));rfl)|((with_reducible refine Yw ?_);intro K hK;go_simp;first|((with_reducible refine hK _ ?_);clear hK K)|(apply Exists.intro;refine⟨fun _=>?_,hK _ ?_⟩;(go_at_call 112;exact Y8 (Kr T HF.o Hf.o _ _ (HW.o.up (⟨_,_,rfl⟩))));clear hK K)))
    (with_reducible refine Yv ?_)
    intro w9 hy9;clear hun;try simp only[Ye]
    go_wp2_with fail;have hx:=Hx.o;go_roundw;case rel=>exact⟨j+1,by omega,by go_num,(hx.trans hxw).trans hy9⟩
    (simp[intOf];omega)
   exact absurd (by rw[ea,eb,eq_of_beq e0,eq_of_beq e1]) Hne.o
  have hd_j:=GEl j i (by omega);have hx:=Hy.o;go_wp2_with fail;go_roundw;case rel=>exact⟨i+1,by omega,by go_num,hx⟩
  (simp[intOf];omega)
 have hd_i:=GEl i n9 (by omega);have b11:=(Hb0.o.ext Hx.o).at_ 11 (by omega);rw[show(Qs T)[11]?=some T.proV from rfl,E11.o]at b11;go_wp2_with fail;have Hx1:=Ya Hx.o;clear Hx hlt hd_i hi_i b11;go_loopw [105] (fun o wr=>∃ i:Nat,i≤n11∧o=.int .i64 (i:Int)∧Ext (w.alloc (Wx T)) wr) (fun o _=>n11-(intOf o).toNat);case atStart=>exact⟨0,by omega,rfl,Hx1.o⟩
 clear Hx1;obtain⟨i,hi_i,rfl,hx⟩:=hrel;have Hx:=Ya hx;clear hx;by_cases hlt:i<n11
 ·obtain⟨hd_i,i0_i,i1_i⟩:=LTl i n11 (by omega);obtain⟨a,hs_a⟩:=geX (l:=(T.pro)) (i:=i) (by have:=Hn11.o;omega);obtain⟨g_a,o_a,c_a,hvv,_,_,_,hgl_a,a0_a,a1_a,_⟩:=(H11.o.ext Hx.o).get hs_a;simp only[Yg]at hvv;obtain⟨rfl,-,rfl⟩:=hvv;have ti_a:=H11.o.2 _ (Zy hs_a);obtain⟨A_a,C_a,tv_a,tl_a,tc_a⟩:=ti_a.shape;obtain⟨n_a,hn_a⟩:=gnX (a.to_.length);rw[tv_a]at a1_a ti_a;rw[hn_a]at a1_a tl_a;have Hn_a:=Ya hn_a;unfold maxLen at tc_a;have Hs_a:=Ya hs_a;have Ti_a:=Ya ti_a;clear hs_a ti_a tv_a hn_a;have b9:=(Hb0.o.ext Hx.o).at_ 9 (by omega);rw[show(Qs T)[9]?=some T.decV from rfl,E9.o]at b9;have hbl:=(Hb0.o.ext Hx.o).lt;obtain⟨FA,FC,ef,fl,fc⟩:=(Qr (S:=S) (c:=a.fr) H9.o.2).shape;obtain⟨hfe,qa,hto⟩:=G.o.r9 a (Zy Hs_a.o);have Hto:=Ya hto;have HA:=Ya hfe;have q1:(Xe T.dec a.fr).length=0:=by rw[hfe];rfl
  rw[q1]at ef;clear hfe q1 hto;go_wp2_with (first|(go_at_call 111;refine(Ww _ T.dec _ _ (H9.o.ext (Hx.o.alloc _))).mono ?_;rintro e w7 ⟨rfl,hx7⟩;have hc7:=fun k=>hx7.cell (p:=⟨wr.heap.size,k,none⟩) (by simp))|(refine Ef (Hb0.o.ext ((Hx.o.alloc _).trans hx7)) (by go_simp) rfl ?_)|(go_at_call 87;refine(V6 T _ _ (H.o.up ((Hx.o.alloc _).trans hx7))).mono ?_;rintro e w8 ⟨rfl,hx8⟩;rw[qa];have hc8:=fun k=>hx8.cell (p:=⟨wr.heap.size,k,none⟩) (by have:=hx7.size;simp at this;show wr.heap.size<_;omega)));clear qa;have Hxk:=Ya (((Hx.o.alloc _).trans hx7).trans hx8);have Hlt:=Ya hlt;clear Hx hx7 hx8 hc7 hc8 hlt hbl b9 ef fl fc;go_loopw [125] (fun o wr=>∃ i:Nat,i≤n_a∧o=.int .i64 (i:Int)∧Ext (w.alloc (Wx T)) wr) (fun o _=>n_a-(intOf o).toNat);case atStart=>exact⟨0,by omega,rfl,Hxk.o⟩
  obtain⟨j,hi_j,rfl,hx⟩:=hrel;have Hx:=Ya hx;clear hx;by_cases hlt:j<n_a
  ·obtain⟨hd_j,i0_j,i1_j⟩:=LTl j n_a (by omega);obtain⟨c,hs_c⟩:=geX (l:=(a.to_)) (i:=j) (by have:=Hn_a.o;omega);obtain⟨g_c,o_c,c_c,hvv,_,_,_,hgl_c,a0_c⟩:=(Ti_a.o.ext Hx.o).get hs_c;simp only[Yg]at hvv;obtain⟨rfl,-,rfl⟩:=hvv;have Hs_c:=Ya hs_c;clear hs_c;have b9:=(Hb0.o.ext Hx.o).at_ 9 (by omega);rw[show(Qs T)[9]?=some T.decV from rfl,E9.o]at b9;obtain⟨FA',FC',ef,fl,fc⟩:=(Qr (S:=S) (c:=c) H9.o.2).shape;obtain⟨hfe,qi,qy,hpe⟩:=Hto.o c (Zy Hs_c.o);have HA':=Ya hfe;rw[show(Xe T.dec c).length=0 by rw[hfe];rfl]at ef;clear hfe;have A7:=fun(w9:World) (hx9:Ext wr w9)=>Hb0.o.ext (Hx.o.trans hx9)
   obtain⟨GA,GC,eg,gl,gc⟩:=(Qr (S:=S) (c:=c) H11.o.2).shape;have HP:=Ya hpe;rw[show(Xe T.pro c).length=0 by rw[hpe];rfl]at eg;clear hpe;go_wp2_with (first|(go_at_call 111;refine(Ww _ T.dec _ _ (H9.o.ext Hx.o)).mono ?_;rintro e w7 ⟨rfl,hx7⟩)|(refine Ef (A7 _ hx7) (by go_simp) rfl ?_));refine(V6 T _ _ (H.o.up (Hx.o.trans hx7))).mono ?_;rintro e w8 ⟨rfl,hx8⟩;rw[qi];go_wp2_with fail;refine(Js _ _).mono ?_;rintro e w' ⟨rfl,rfl⟩;rw[qy];have c11:=(A7 _ (hx7.trans hx8)).at_ 11 (by omega);rw[show(Qs T)[11]?=some T.proV from rfl,E11.o]at c11;go_wp2_with fail;refine(Ww _ T.pro _ _ (H11.o.ext ((Hx.o.trans hx7).trans hx8))).mono ?_;rintro e w9 ⟨rfl,hx9⟩;go_wp2_with fail;go_roundw;case rel=>exact⟨j+1,by omega,by go_num,((Hx.o.trans hx7).trans hx8).trans hx9⟩
   (simp[intOf];omega)
  have hd_j:=GEl j n_a (by omega);have hlo:=Hlt.o;go_wp2_with fail;go_roundw;case rel=>exact⟨i+1,by omega,by go_num,Hx.o⟩
  (simp[intOf];omega)
 have hd_i:=GEl i n11 (by omega);go_wp2_with fail;all_goals
  have hx:=Hx.o
  first
  | (go_roundw
     case rel=>exact⟨i+1,by omega,by go_num,(by repeat' first|exact Yn _|assumption|apply Ym|apply Yl|apply Yk|(refine Yj ?_ (by assumption)))⟩
     (simp[intOf];omega))
  | (go_ret;exact⟨rfl,X0.o.trans (by repeat' first|exact Yn _|assumption|apply Ym|apply Yl|apply Yk|(refine Yj ?_ (by assumption)))⟩)
end Go.Proofs.YtnbclgbicnpmnaaGreat
