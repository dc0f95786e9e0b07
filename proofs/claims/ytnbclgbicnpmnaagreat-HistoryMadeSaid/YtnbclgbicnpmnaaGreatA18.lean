/- Lemmas of this claim. Conditions: as named. -/
import Derived.Test.YtnbclgbicnpmnaaGreatA14
namespace Go.Proofs.YtnbclgbicnpmnaaGreat
open Go.RowKit Go.Sort
set_option maxHeartbeats 0
set_option maxRecDepth 100000
set_option linter.all false
theorem Zw3{S:Nat→Prop}(T:Tbl)(hg:Af T)(w:World)(h:Xi w S T):Calls Tryz.prog 105 #[Vr T] w (Re w):=by
 have G:=Ya hg;have hx3:=hg.xlen;clear hg;obtain⟨A3,C3,he3,hl3,hc3⟩:=h.exc.shape;unfold maxLen at hc3;have X0:=Ya ((Yn w).alloc (Wx T));have H:=Ya (h.up X0.o);have Hb0:=Ya (Xn w T);clear h;go_enter Tryz.func105,Tryz.ntmps105;go_wp2_with (first|(refine Xx rfl ?_)|(refine Y4 Hb0.o rfl ?_)|(go_at_call 137;refine(Ml T _ H.o).mono ?_;rintro e w1 ⟨g1,g2,rfl,hc,hc2,hx1⟩));have Hc:=Ya hc;have Hx1:=Ya hx1;clear hc hx1 hc2;go_loopw [17] (fun o wr=>∃ i:Nat,i≤7∧o=.int .i64 (i:Int)∧Ext w1 wr) (fun o _=>7-(intOf o).toNat);case atStart=>exact⟨0,by omega,rfl,Yn _⟩
 obtain⟨i,hi,rfl,hx⟩:=hrel;have Hx:=Ya hx;clear hx;by_cases hlt:i<7
 ·have hd:decide ((i:Int)<(7:Int))=true:=Yh (by omega);have i0:(0:Int)≤(i:Int):=by omega
  have i1:(i:Int)<(7:Int):=by omega
  have H:=Ya (H.o.up Hx1.o);obtain⟨p,hp⟩:=geX (l:=(Zzd T)) (i:=i) (by have:(Zzd T).length=7:=rfl;omega);have hrow:=Zsm H.o p (Zy hp);have c0:=(Hc.o.ext Hx.o).at_ i p.1 (by simp[hp]);obtain⟨A1,C1,e1,hl1,hc1⟩:=hrow.shape;rw[e1]at c0 hrow;unfold maxLen at hc1;obtain⟨m,hm⟩:=gnX (p.2.length);have Hm:=Ya hm;have Hp:=Ya hp;have Hrow:=Ya hrow;rw[hm]at c0 hl1;clear hrow hm hp e1;have hml:m≤256:=by
   obtain⟨z,hz⟩:=geX (l:=Dm) (i:=i) (by show i<7;exact hlt);have:=(G.o.sp i p z Hp.o hz).len;rw[Hm.o]at this;exact this
  have d1:decide ((256:Int)<(m:Int))=false:=Yi (by omega);go_wp2_with fail;go_roundw;case rel=>exact⟨i+1,by omega,by go_num,Hx.o⟩
  simp[intOf];omega
 have hd:decide ((i:Int)<(7:Int))=false:=Yi (by omega);have Hx1:=Ya (Hx1.o.trans Hx.o);clear Hx Hc;go_wp2_with (first|(refine Y4 (Hb0.o.ext Hx1.o) rfl ?_)|(go_at_call 138;refine(Ug T _ (H.o.up Hx1.o)).mono ?_;rintro e w2 ⟨g3,rfl,hc,hx2⟩));have Hc:=Ya hc;have Hx2:=Ya (Hx1.o.trans hx2);clear hc hx2 Hx1;go_loopw [29] (fun o wr=>∃ i:Nat,i≤4∧o=.int .i64 (i:Int)∧Ext w2 wr) (fun o _=>4-(intOf o).toNat);case atStart=>exact⟨0,by omega,rfl,Yn _⟩
 clear hlt hd hi;obtain⟨i,hi,rfl,hx⟩:=hrel;have Hx:=Ya hx;clear hx;by_cases hlt:i<4
 ·have hd:decide ((i:Int)<(4:Int))=true:=Yh (by omega);have i0:(0:Int)≤(i:Int):=by omega
  have i1:(i:Int)<(4:Int):=by omega
  have H:=Ya (H.o.up Hx2.o);obtain⟨p,hp⟩:=geX (l:=(Zzw T)) (i:=i) (by have:(Zzw T).length=4:=rfl;omega);have hrow:=Ztu H.o p (Zy hp);have c0:=(Hc.o.ext Hx.o).at_ i p.1 (by simp[hp]);obtain⟨A1,C1,e1,hl1,hc1⟩:=hrow.shape;rw[e1]at c0 hrow;unfold maxLen at hc1;obtain⟨m,hm⟩:=gnX (p.2.length);have Hm:=Ya hm;have Hp:=Ya hp;have Hrow:=Ya hrow;rw[hm]at c0 hl1;clear hrow hm hp e1;have hml:m≤256:=by
   have:=(G.o.mp i p Hp.o).len;rw[Hm.o]at this;exact this
  have d1:decide ((256:Int)<(m:Int))=false:=Yi (by omega);go_wp2_with fail;go_roundw;case rel=>exact⟨i+1,by omega,by go_num,Hx.o⟩
  simp[intOf];omega
 have hd:decide ((i:Int)<(4:Int))=false:=Yi (by omega);have b10:=(Hb0.o.ext (Hx2.o.trans Hx.o)).at_ 10 (by omega);rw[show(Qs T)[10]?=some T.excV from rfl,he3]at b10;have d3:decide ((T.exc.length:Int)≤256)=true:=Yh (by omega);go_wp2_with fail;go_ret;exact⟨rfl,(X0.o.trans Hx2.o).trans Hx.o⟩
theorem Zzo{S:Nat→Prop}(T:Tbl)(hg:Af T)(w:World)(h:Xi w S T):Calls Tryz.prog 106 #[Vr T] w (Re w):=by
 have G:=Ya hg;clear hg;obtain⟨A10,C10,e10,hl10,hc10⟩:=h.exc.shape;have h10:=h.exc.ext ((Yn w).alloc (Wx T));obtain⟨n10,hn10⟩:=gnX (T.exc.length);rw[hn10]at e10 hl10;rw[e10]at h10;have Hn10:=Ya hn10;have E10:=Ya e10;have H10:=Ya h10;unfold maxLen at hc10;clear hn10 e10 h10;have X0:=Ya ((Yn w).alloc (Wx T));have H:=Ya (h.up X0.o);have Hb0:=Ya (Xn w T);clear h;go_enter Tryz.func106,Tryz.ntmps106;go_wp2_with (first|(refine Xx rfl ?_)|(refine Y4 Hb0.o rfl ?_)|(go_at_call 137;refine(Ml T _ H.o).mono ?_;rintro e w1 ⟨g1,g2,rfl,hc,hc2,hx1⟩));have Hc:=Ya hc;have Hx1:=Ya hx1;clear hc hx1 hc2;go_loopw [23] (fun o wr=>∃ i:Nat,i≤7∧o=.int .i64 (i:Int)∧Ext w1 wr) (fun o _=>7-(intOf o).toNat);case atStart=>exact⟨0,by omega,rfl,Yn _⟩
 obtain⟨i,hi_i,rfl,hx⟩:=hrel;have Hx:=Ya hx;clear hx;have Hy:=Ya (Hx1.o.trans Hx.o);by_cases hlt:i<7
 ·have hd_i:decide ((i:Int)<(7:Int))=true:=Yh (by omega);have i0_i:(0:Int)≤(i:Int):=(by omega);have i1_i:(i:Int)<(7:Int):=(by omega);obtain⟨p,hp⟩:=geX (l:=(Zzd T)) (i:=i) (by have:(Zzd T).length=7:=rfl;omega);have hrow:=Zsm H.o p (Zy hp);have c0:=(Hc.o.ext Hx.o).at_ i p.1 (by simp[hp]);obtain⟨A1,C1,e1,hl1,hc1⟩:=hrow.shape;rw[e1]at c0 hrow;unfold maxLen at hc1;obtain⟨m,hm⟩:=gnX (p.2.length);have Hm:=Ya hm;have Hp:=Ya hp;have Hrow:=Ya hrow;rw[hm]at c0 hl1;clear hrow hm hp e1;obtain⟨z,hz⟩:=geX (l:=Dm) (i:=i) (by show i<7;exact hlt);have OK:=Ya (G.o.sp i p z Hp.o hz);clear hz;go_wp2_with (go_at_call 139;refine(Zzm _ p.2 z _ (by have:=Hrow.o.ext Hy.o;rw[Hm.o]at this;exact this) OK.o).mono ?_;rintro e w2 ⟨rfl,hx2⟩);have Hz:=Ya (Hx.o.trans hx2);have Hlt:=Ya hlt;clear Hx hx2 Hy hlt;go_loopw [32] (fun o wr=>∃ i:Nat,i≤m∧o=.int .i64 (i:Int)∧Ext w1 wr) (fun o _=>m-(intOf o).toNat);case atStart=>exact⟨0,by omega,rfl,Hz.o⟩
  obtain⟨j,hi_j,rfl,hx⟩:=hrel;have Hx:=Ya hx;clear hx;have Hy:=Ya (Hx1.o.trans Hx.o);by_cases hlt:j<m
  ·obtain⟨hd_j,i0_j,i1_j⟩:=LTl j m (by omega);obtain⟨x,hs_x⟩:=geX (l:=(p.2)) (i:=j) (by have:=Hm.o;omega);obtain⟨g_x,o_x,c_x,hvv,_,_,_,hgl_x,a0_x,a1_x,a2_x⟩:=(Hrow.o.ext Hy.o).get hs_x;simp only[Yg]at hvv;obtain⟨rfl,-,rfl⟩:=hvv;have Hs_x:=Ya hs_x;clear hs_x;obtain⟨_,r2,_,r4,_,_⟩:=OK.o.in_ x (Zy Hs_x.o);have R2:=Ya r2;have R4:=Ya r4;clear r2 r4;go_wp2_with (go_at_call 140;refine(Zxe _ _ _ R2.o R4.o _).mono ?_;rintro e w3 ⟨rfl,hx3⟩);all_goals
    have hx:=Hx.o
    first
    | (go_roundw
       case rel=>exact⟨j+1,by omega,by go_num,(by repeat' first|exact Yn _|assumption|apply Ym|apply Yl|apply Yk|(refine Yj ?_ (by assumption)))⟩
       (simp[intOf];omega))
    | (go_ret;exact⟨rfl,X0.o.trans (Hx1.o.trans (by repeat' first|exact Yn _|assumption|apply Ym|apply Yl|apply Yk|(refine Yj ?_ (by assumption))))⟩)
  have hd_j:=GEl j m (by omega);have hlt2:=Hlt.o;go_wp2_with fail;all_goals
   have hx:=Hx.o
   first
   | (go_roundw
      case rel=>exact⟨i+1,by omega,by go_num,(by repeat' first|exact Yn _|assumption|apply Ym|apply Yl|apply Yk|(refine Yj ?_ (by assumption)))⟩
      (simp[intOf];omega))
   | (go_ret;exact⟨rfl,X0.o.trans (Hx1.o.trans (by repeat' first|exact Yn _|assumption|apply Ym|apply Yl|apply Yk|(refine Yj ?_ (by assumption))))⟩)
 have hd_i:decide ((i:Int)<(7:Int))=false:=Yi (by omega);go_wp2_with (first|(refine Y4 (Hb0.o.ext Hy.o) rfl ?_)|(go_at_call 138;refine(Ug T _ (H.o.up Hy.o)).mono ?_;rintro e w2 ⟨g3,rfl,hc,hx2⟩));have Hx1:=Ya (Hy.o.trans hx2);have Hc:=Ya hc;clear hc hx2 Hx Hy hlt hd_i hi_i;go_loopw [45] (fun o wr=>∃ i:Nat,i≤4∧o=.int .i64 (i:Int)∧Ext w2 wr) (fun o _=>4-(intOf o).toNat);case atStart=>exact⟨0,by omega,rfl,Yn _⟩
 obtain⟨k,hi_k,rfl,hx⟩:=hrel;have Hx:=Ya hx;clear hx;have Hy:=Ya (Hx1.o.trans Hx.o);by_cases hlt:k<4
 ·have hd_k:decide ((k:Int)<(4:Int))=true:=Yh (by omega);have i0_k:(0:Int)≤(k:Int):=(by omega);have i1_k:(k:Int)<(4:Int):=(by omega);obtain⟨p,hp⟩:=geX (l:=(Zzw T)) (i:=k) (by have:(Zzw T).length=4:=rfl;omega);have hrow:=Ztu H.o p (Zy hp);have c0:=(Hc.o.ext Hx.o).at_ k p.1 (by simp[hp]);obtain⟨A1,C1,e1,hl1,hc1⟩:=hrow.shape;rw[e1]at c0 hrow;unfold maxLen at hc1;obtain⟨m,hm⟩:=gnX (p.2.length);have Hm:=Ya hm;have Hp:=Ya hp;have Hrow:=Ya hrow;rw[hm]at c0 hl1;clear hrow hm hp e1;have OK:=Ya (G.o.mp k p Hp.o);go_wp2_with fail;have Hz:=Ya Hx.o;have Hlt:=Ya hlt;clear Hx Hy hlt;go_loopw [52] (fun o wr=>∃ i:Nat,i≤m∧o=.int .i64 (i:Int)∧Ext w2 wr) (fun o _=>m-(intOf o).toNat);case atStart=>exact⟨0,by omega,rfl,Hz.o⟩
  obtain⟨j,hi_j,rfl,hx⟩:=hrel;have Hx:=Ya hx;clear hx;have Hy:=Ya (Hx1.o.trans Hx.o);by_cases hlt:j<m
  ·obtain⟨hd_j,i0_j,i1_j⟩:=LTl j m (by omega);obtain⟨x,hs_x⟩:=geX (l:=(p.2)) (i:=j) (by have:=Hm.o;omega);obtain⟨g_x,o_x,c_x,hvv,_,_,_,hgl_x,a0_x,a1_x,_⟩:=(Hrow.o.ext Hy.o).get hs_x;simp only[Yg]at hvv;obtain⟨rfl,-,rfl⟩:=hvv;have ti_x:=Hrow.o.2 _ (Zy hs_x);obtain⟨A_x,C_x,tv_x,tl_x,tc_x⟩:=ti_x.shape;obtain⟨n_x,hn_x⟩:=gnX (x.to_.length);rw[tv_x]at a1_x ti_x;rw[hn_x]at a1_x tl_x;have Hn_x:=Ya hn_x;unfold maxLen at tc_x;have Hs_x:=Ya hs_x;have Ti_x:=Ya ti_x;clear hs_x ti_x tv_x hn_x;go_wp2_with fail;obtain⟨W,hW⟩:=gnX (wr.alloc (.cells #[.int .i64 x.fr,.slice A_x n_x C_x] 106));have m0:=lat (show W.cell? ⟨wr.heap.size,0,none⟩=some (.int .i64 x.fr) by(rw[← hW];clear hW;go_simp));have hxw:Ext wr W:=by rw[← hW];exact(Yn _).alloc _
   rw[hW];clear hW;obtain⟨r1,r2,r3,_,_⟩:=OK.o.in_ x (Zy Hs_x.o);have q1:decide (x.fr<0)=false:=Yi (by omega);have q2:decide (1114111<x.fr)=false:=Yi (by omega);have R3:=Ya r3;clear r1 r2 r3;rcases Zkq j with hj0|hj0
   ·have q6:decide ((0:Int)<(j:Int))=false:=Yi (by omega);have q7:decide (0<j)=false:=Yi (by omega);clear hj0;rcases R3.o with q8 | ⟨q9,q10⟩
    ·have hun:=Yd;refine Y0 (by kernel_rfl) (by kernel_rfl) ?_;repeat((with_reducible refine Yw ?_);intro K hK;go_simp;first|((with_reducible refine hK _ ?_);clear hK K)|(apply Exists.intro;refine⟨fun _=>?_,hK _ ?_⟩;(first|(go_at_call 141;exact Xt (Ub _ _))|(go_at_call 142;exact Xt (Bu _ _)));clear hK K))
     (with_reducible refine Yv ?_)
     intro w9 hy9;clear hun;try simp only[Ye]
     go_wp2_with fail;all_goals
      have hx:=Hx.o
      first
      | (go_roundw
         case rel=>exact⟨j+1,by omega,by go_num,(by repeat' first|exact Yn _|assumption|apply Ym|apply Yl|apply Yk|(refine Yj ?_ (by assumption)))⟩
         (simp[intOf];omega))
      | (go_ret;exact⟨rfl,X0.o.trans (Hx1.o.trans (by repeat' first|exact Yn _|assumption|apply Ym|apply Yl|apply Yk|(refine Yj ?_ (by assumption))))⟩)
    cases q8:Ij x.fr
    ·have hun:=Yd;refine Y0 (by kernel_rfl) (by kernel_rfl) ?_;repeat((with_reducible refine Yw ?_);intro K hK;go_simp;first|((with_reducible refine hK _ ?_);clear hK K)|(apply Exists.intro;refine⟨fun _=>?_,hK _ ?_⟩;(first|(go_at_call 141;exact Xt (Ub _ _))|(go_at_call 142;exact Xt (Bu _ _)));clear hK K))
     (with_reducible refine Yv ?_)
     intro w9 hy9;clear hun;try simp only[Ye]
     go_wp2_with fail;all_goals
      have hx:=Hx.o
      first
      | (go_roundw
         case rel=>exact⟨j+1,by omega,by go_num,(by repeat' first|exact Yn _|assumption|apply Ym|apply Yl|apply Yk|(refine Yj ?_ (by assumption)))⟩
         (simp[intOf];omega))
      | (go_ret;exact⟨rfl,X0.o.trans (Hx1.o.trans (by repeat' first|exact Yn _|assumption|apply Ym|apply Yl|apply Yk|(refine Yj ?_ (by assumption))))⟩)
    have hun:=Yd;refine Y0 (by kernel_rfl) (by kernel_rfl) ?_;repeat((with_reducible refine Yw ?_);intro K hK;go_simp;first|((with_reducible refine hK _ ?_);clear hK K)|(apply Exists.intro;refine⟨fun _=>?_,hK _ ?_⟩;(first|(go_at_call 141;exact Xt (Ub _ _))|(go_at_call 142;exact Xt (Bu _ _)));clear hK K))
    (with_reducible refine Yv ?_)
    intro w9 hy9;clear hun;try simp only[Ye]
    go_wp2_with fail;all_goals
     have hx:=Hx.o
     first
     | (go_roundw
        case rel=>exact⟨j+1,by omega,by go_num,(by repeat' first|exact Yn _|assumption|apply Ym|apply Yl|apply Yk|(refine Yj ?_ (by assumption)))⟩
        (simp[intOf];omega))
     | (go_ret;exact⟨rfl,X0.o.trans (Hx1.o.trans (by repeat' first|exact Yn _|assumption|apply Ym|apply Yl|apply Yk|(refine Yj ?_ (by assumption))))⟩)
   have q6:decide ((0:Int)<(j:Int))=true:=Yh (by omega);have q7:decide (0<j)=true:=Yh (by omega);obtain⟨y,hy⟩:∃ s,p.2[j-1]?=some s:=⟨p.2[j-1]'(by have:=Hm.o;omega),Zz _⟩;have q5:decide (x.fr≤y.fr)=false:=Yi (by have h1:=OK.o.lt j x y hj0 Hs_x.o hy;omega);obtain⟨g',o',c',hvv,_,_,_,_,d1,_⟩:=(Hrow.o.ext Hy.o).get hy;simp only[Yg,Yf,Zld,Zl2,Zks]at hvv;obtain⟨⟨rfl,rfl⟩,rfl⟩:=hvv;have m2:=lat ((hxw.cell (p:=⟨g_x,o_x+(j-1)*2,none⟩) hgl_x).trans d1);have w1':=Vu j hj0 (by omega);have w2':(1:Int)≤(j:Int):=by omega
   have w3':(0:Int)≤((j-1:Nat):Int):=by omega
   have w4':((j-1:Nat):Int)<(m:Int):=by omega
   clear hy hj0;rcases R3.o with q8 | ⟨q9,q10⟩
   ·have hun:=Yd;refine Y0 (by kernel_rfl) (by kernel_rfl) ?_;repeat((with_reducible refine Yw ?_);intro K hK;go_simp;first|((with_reducible refine hK _ ?_);clear hK K)|(apply Exists.intro;refine⟨fun _=>?_,hK _ ?_⟩;(first|(go_at_call 141;exact Xt (Ub _ _))|(go_at_call 142;exact Xt (Bu _ _)));clear hK K))
    (with_reducible refine Yv ?_)
    intro w9 hy9;clear hun;try simp only[Ye]
    go_wp2_with fail;all_goals
     have hx:=Hx.o
     first
     | (go_roundw
        case rel=>exact⟨j+1,by omega,by go_num,(by repeat' first|exact Yn _|assumption|apply Ym|apply Yl|apply Yk|(refine Yj ?_ (by assumption)))⟩
        (simp[intOf];omega))
     | (go_ret;exact⟨rfl,X0.o.trans (Hx1.o.trans (by repeat' first|exact Yn _|assumption|apply Ym|apply Yl|apply Yk|(refine Yj ?_ (by assumption))))⟩)
   cases q8:Ij x.fr
   ·have hun:=Yd;refine Y0 (by kernel_rfl) (by kernel_rfl) ?_;repeat((with_reducible refine Yw ?_);intro K hK;go_simp;first|((with_reducible refine hK _ ?_);clear hK K)|(apply Exists.intro;refine⟨fun _=>?_,hK _ ?_⟩;(first|(go_at_call 141;exact Xt (Ub _ _))|(go_at_call 142;exact Xt (Bu _ _)));clear hK K))
    (with_reducible refine Yv ?_)
    intro w9 hy9;clear hun;try simp only[Ye]
    go_wp2_with fail;all_goals
     have hx:=Hx.o
     first
     | (go_roundw
        case rel=>exact⟨j+1,by omega,by go_num,(by repeat' first|exact Yn _|assumption|apply Ym|apply Yl|apply Yk|(refine Yj ?_ (by assumption)))⟩
        (simp[intOf];omega))
     | (go_ret;exact⟨rfl,X0.o.trans (Hx1.o.trans (by repeat' first|exact Yn _|assumption|apply Ym|apply Yl|apply Yk|(refine Yj ?_ (by assumption))))⟩)
   have hun:=Yd;refine Y0 (by kernel_rfl) (by kernel_rfl) ?_;repeat((with_reducible refine Yw ?_);intro K hK;go_simp;first|((with_reducible refine hK _ ?_);clear hK K)|(apply Exists.intro;refine⟨fun _=>?_,hK _ ?_⟩;(first|(go_at_call 141;exact Xt (Ub _ _))|(go_at_call 142;exact Xt (Bu _ _)));clear hK K))
   (with_reducible refine Yv ?_)
   intro w9 hy9;clear hun;try simp only[Ye]
   go_wp2_with fail;all_goals
    have hx:=Hx.o
    first
    | (go_roundw
       case rel=>exact⟨j+1,by omega,by go_num,(by repeat' first|exact Yn _|assumption|apply Ym|apply Yl|apply Yk|(refine Yj ?_ (by assumption)))⟩
       (simp[intOf];omega))
    | (go_ret;exact⟨rfl,X0.o.trans (Hx1.o.trans (by repeat' first|exact Yn _|assumption|apply Ym|apply Yl|apply Yk|(refine Yj ?_ (by assumption))))⟩)
  have hd_j:=GEl j m (by omega);have hlt2:=Hlt.o;go_wp2_with fail;all_goals
   have hx:=Hx.o
   first
   | (go_roundw
      case rel=>exact⟨k+1,by omega,by go_num,(by repeat' first|exact Yn _|assumption|apply Ym|apply Yl|apply Yk|(refine Yj ?_ (by assumption)))⟩
      (simp[intOf];omega))
   | (go_ret;exact⟨rfl,X0.o.trans (Hx1.o.trans (by repeat' first|exact Yn _|assumption|apply Ym|apply Yl|apply Yk|(refine Yj ?_ (by assumption))))⟩)
 have hd_k:decide ((k:Int)<(4:Int))=false:=Yi (by omega);have b10:=(Hb0.o.ext Hy.o).at_ 10 (by omega);rw[show(Qs T)[10]?=some T.excV from rfl,E10.o]at b10;go_wp2_with fail;have Hz:=Ya Hx.o;clear Hx Hy hlt hd_k hi_k b10;go_loopw [100] (fun o wr=>∃ i:Nat,i≤n10∧o=.int .i64 (i:Int)∧Ext w2 wr) (fun o _=>n10-(intOf o).toNat);case atStart=>exact⟨0,by omega,rfl,Hz.o⟩
 obtain⟨j,hi_j,rfl,hx⟩:=hrel;have Hx:=Ya hx;clear hx;have Hy:=Ya (Hx1.o.trans Hx.o);by_cases hlt:j<n10
 ·obtain⟨hd_j,i0_j,i1_j⟩:=LTl j n10 (by omega);obtain⟨x,hs_x⟩:=geX (l:=(T.exc)) (i:=j) (by have:=Hn10.o;omega);obtain⟨g_x,o_x,c_x,hvv,_,_,_,hgl_x,a0_x⟩:=(H10.o.ext Hy.o).get hs_x;simp only[Yg]at hvv;obtain⟨rfl,-,rfl⟩:=hvv;have Hs_x:=Ya hs_x;clear hs_x;have b10:=(Hb0.o.ext Hy.o).at_ 10 (by omega);rw[show(Qs T)[10]?=some T.excV from rfl,E10.o]at b10;obtain⟨r1,r2,r3,_⟩:=G.o.xin x (Zy Hs_x.o);have q1:decide (x<0)=false:=Yi (by omega);have q2:decide (1114111<x)=false:=Yi (by omega);have R3:=Ya r3;clear r1 r2 r3;rcases Zkq j with hj0|hj0
  ·have q6:decide ((0:Int)<(j:Int))=false:=Yi (by omega);have q7:decide (0<j)=false:=Yi (by omega);clear hj0;go_wp2_with (go_at_call 141;refine(Ub _ _).mono ?_;rintro e w' ⟨rfl,rfl⟩;rw[R3.o]);all_goals
    have hx:=Hx.o
    first
    | (go_roundw
       case rel=>exact⟨j+1,by omega,by go_num,(by repeat' first|exact Yn _|assumption|apply Ym|apply Yl|apply Yk|(refine Yj ?_ (by assumption)))⟩
       (simp[intOf];omega))
    | (go_ret;exact⟨rfl,X0.o.trans (Hx1.o.trans (by repeat' first|exact Yn _|assumption|apply Ym|apply Yl|apply Yk|(refine Yj ?_ (by assumption))))⟩)
  have q6:decide ((0:Int)<(j:Int))=true:=Yh (by omega);have q7:decide (0<j)=true:=Yh (by omega);obtain⟨y,hy⟩:∃ s,T.exc[j-1]?=some s:=⟨T.exc[j-1]'(by have:=Hn10.o;omega),Zz _⟩;have q5:decide (x≤y)=false:=Yi (by have h1:=G.o.xlt j x y hj0 Hs_x.o hy;omega);obtain⟨g',o',c',hvv,_,_,_,_,d1⟩:=(H10.o.ext Hy.o).get hy;simp only[Yg,Yf,Zld,Zl2,Zks]at hvv;obtain⟨⟨rfl,rfl⟩,-,rfl⟩:=hvv;have w1':=Vu j hj0 (by omega);have w2':(1:Int)≤(j:Int):=by omega
  have w3':(0:Int)≤((j-1:Nat):Int):=by omega
  have w4':((j-1:Nat):Int)<(n10:Int):=by omega
  clear hy;go_wp2_with (go_at_call 141;refine(Ub _ _).mono ?_;rintro e w' ⟨rfl,rfl⟩;rw[R3.o]);all_goals
   have hx:=Hx.o
   first
   | (go_roundw
      case rel=>exact⟨j+1,by omega,by go_num,(by repeat' first|exact Yn _|assumption|apply Ym|apply Yl|apply Yk|(refine Yj ?_ (by assumption)))⟩
      (simp[intOf];omega))
   | (go_ret;exact⟨rfl,X0.o.trans (Hx1.o.trans (by repeat' first|exact Yn _|assumption|apply Ym|apply Yl|apply Yk|(refine Yj ?_ (by assumption))))⟩)
 have hd_j:=GEl j n10 (by omega);go_wp2_with fail;all_goals
  have hx:=Hx.o
  first
  | (go_roundw
     case rel=>exact⟨j+1,by omega,by go_num,(by repeat' first|exact Yn _|assumption|apply Ym|apply Yl|apply Yk|(refine Yj ?_ (by assumption)))⟩
     (simp[intOf];omega))
  | (go_ret;exact⟨rfl,X0.o.trans (Hx1.o.trans (by repeat' first|exact Yn _|assumption|apply Ym|apply Yl|apply Yk|(refine Yj ?_ (by assumption))))⟩)
end Go.Proofs.YtnbclgbicnpmnaaGreat
