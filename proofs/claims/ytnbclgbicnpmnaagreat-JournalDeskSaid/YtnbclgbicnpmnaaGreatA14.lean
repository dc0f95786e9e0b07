/- Lemmas of this claim: Ga, Gd, RL, RR, RT. Conditions: as named. -/
import Derived.Test.YtnbclgbicnpmnaaGreatA12
namespace Go.Proofs.YtnbclgbicnpmnaaGreat
open Go.RowKit Go.Sort Tryz
set_option maxHeartbeats 0
set_option maxRecDepth 100000
set_option linter.all false
theorem Zu7{S:Nat→Prop}(T:Tbl)(hg:Lq T)(w:World)(h:Xg w S T):Calls prog 105 #[Vg T] w (Th w):=by
 have G:=Y8 hg;have hx3:=hg.xlen;clear hg;obtain⟨A3,C3,he3,hl3,hc3⟩:=h.exc.shape;unfold maxLen at hc3;obtain⟨X0,H,Hb0⟩:=tblX h;clear h;go_enter func105,ntmps105;go_wp2_with (first|(refine Xv rfl ?_)|(refine Xy Hb0.o rfl ?_)|(go_at_call 137;refine(O0 T _ H.o).mono ?_;rintro e w1 ⟨g1,g2,rfl,hc,hc2,hx1⟩));have Hc:=Y8 hc;have Hx1:=Y8 hx1;clear hc hx1 hc2;go_loopw [17] (fun o wr=>∃ i:Nat,i≤7∧o=.int .i64 (i:Int)∧Ext w1 wr) (fun o _=>7-(intOf o).toNat);case atStart=>exact⟨0,by omega,rfl,Yk _⟩
 obtain⟨i,hi,rfl,hx⟩:=hrel;have Hx:=Y8 hx;clear hx;by_cases hlt:i<7
 ·have hd:decide ((i:Int)<(7:Int))=true:=Ye;have i0:(0:Int)≤(i:Int):=by omega
  have i1:(i:Int)<(7:Int):=by omega
  have H:=Y8 (H.o.up Hx1.o);obtain⟨p,hp⟩:=geX (l:=(Zxl T)) (i:=i) (by have:(Zxl T).length=7:=rfl;omega);have hrow:=Zp3 H.o p (Zy hp);have c0:=(Hc.o.ext Hx.o).at_ i p.1 (by simp[hp]);obtain⟨A1,C1,e1,hl1,hc1⟩:=hrow.shape;rw[e1]at c0 hrow;unfold maxLen at hc1;obtain⟨m,hm⟩:=gnX (p.2.length);have Hm:=Y8 hm;have Hp:=Y8 hp;have Hrow:=Y8 hrow;rw[hm]at c0 hl1;clear hrow hm hp e1;have hml:m≤256:=by
   obtain⟨z,hz⟩:=geX (l:=Fo) (i:=i) (by show i<7;exact hlt);have:=(G.o.sp i p z Hp.o hz).len;rw[Hm.o]at this;exact this
  have d1:decide ((256:Int)<(m:Int))=false:=Yf;go_wp2_with fail;go_roundw;case rel=>exact⟨i+1,by omega,by go_num,Hx.o⟩
  simp[intOf];omega
 have hd:decide ((i:Int)<(7:Int))=false:=Yf;have Hx1:=Y8 (Hx1.o.trans Hx.o);clear Hx Hc;go_wp2_with (first|(refine Xy (Hb0.o.ext Hx1.o) rfl ?_)|(go_at_call 138;refine(Gd T _ (H.o.up Hx1.o)).mono ?_;rintro e w2 ⟨g3,rfl,hc,hx2⟩));have Hc:=Y8 hc;have Hx2:=Y8 (Hx1.o.trans hx2);clear hc hx2 Hx1;go_loopw [29] (fun o wr=>∃ i:Nat,i≤4∧o=.int .i64 (i:Int)∧Ext w2 wr) (fun o _=>4-(intOf o).toNat);case atStart=>exact⟨0,by omega,rfl,Yk _⟩
 clear hlt hd hi;obtain⟨i,hi,rfl,hx⟩:=hrel;have Hx:=Y8 hx;clear hx;by_cases hlt:i<4
 ·have hd:decide ((i:Int)<(4:Int))=true:=Ye;have i0:(0:Int)≤(i:Int):=by omega
  have i1:(i:Int)<(4:Int):=by omega
  have H:=Y8 (H.o.up Hx2.o);obtain⟨p,hp⟩:=geX (l:=(Zy0 T)) (i:=i) (by have:(Zy0 T).length=4:=rfl;omega);have hrow:=Zqh H.o p (Zy hp);have c0:=(Hc.o.ext Hx.o).at_ i p.1 (by simp[hp]);obtain⟨A1,C1,e1,hl1,hc1⟩:=hrow.shape;rw[e1]at c0 hrow;unfold maxLen at hc1;obtain⟨m,hm⟩:=gnX (p.2.length);have Hm:=Y8 hm;have Hp:=Y8 hp;have Hrow:=Y8 hrow;rw[hm]at c0 hl1;clear hrow hm hp e1;have hml:m≤256:=by
   have:=(G.o.mp i p Hp.o).len;rw[Hm.o]at this;exact this
  have d1:decide ((256:Int)<(m:Int))=false:=Yf;go_wp2_with fail;go_roundw;case rel=>exact⟨i+1,by omega,by go_num,Hx.o⟩
  simp[intOf];omega
 have hd:decide ((i:Int)<(4:Int))=false:=Yf;have b10:=(Hb0.o.ext (Hx2.o.trans Hx.o)).at_ 10 (by omega);rw[show(Qk T)[10]?=some T.excV from rfl,he3]at b10;have d3:decide ((T.exc.length:Int)≤256)=true:=Ye;go_wp2_with fail;go_ret;exact⟨rfl,(X0.o.trans Hx2.o).trans Hx.o⟩
theorem Zxy{S:Nat→Prop}(T:Tbl)(hg:Lq T)(w:World)(h:Xg w S T):Calls prog 106 #[Vg T] w (Th w):=by
 have G:=Y8 hg;clear hg;obtain⟨A10,C10,e10,hl10,hc10⟩:=h.exc.shape;have h10:=h.exc.ext ((Yk w).alloc (Wz T));obtain⟨n10,hn10⟩:=gnX (T.exc.length);rw[hn10]at e10 hl10;rw[e10]at h10;have Hn10:=Y8 hn10;have E10:=Y8 e10;have H10:=Y8 h10;unfold maxLen at hc10;clear hn10 e10 h10;obtain⟨X0,H,Hb0⟩:=tblX h;clear h;go_enter func106,ntmps106;go_wp2_with (first|(refine Xv rfl ?_)|(refine Xy Hb0.o rfl ?_)|(go_at_call 137;refine(O0 T _ H.o).mono ?_;rintro e w1 ⟨g1,g2,rfl,hc,hc2,hx1⟩));have Hc:=Y8 hc;have Hx1:=Y8 hx1;clear hc hx1 hc2;go_loopw [23] (fun o wr=>∃ i:Nat,i≤7∧o=.int .i64 (i:Int)∧Ext w1 wr) (fun o _=>7-(intOf o).toNat);case atStart=>exact⟨0,by omega,rfl,Yk _⟩
 obtain⟨i,hi_i,rfl,hx⟩:=hrel;have Hx:=Y8 hx;clear hx;have Hy:=Y8 (Hx1.o.trans Hx.o);by_cases hlt:i<7
 ·have hd_i:decide ((i:Int)<(7:Int))=true:=Ye;have i0_i:(0:Int)≤(i:Int):=by omega
  have i1_i:(i:Int)<(7:Int):=by omega
  obtain⟨p,hp⟩:=geX (l:=(Zxl T)) (i:=i) (by have:(Zxl T).length=7:=rfl;omega);have hrow:=Zp3 H.o p (Zy hp);have c0:=(Hc.o.ext Hx.o).at_ i p.1 (by simp[hp]);obtain⟨A1,C1,e1,hl1,hc1⟩:=hrow.shape;rw[e1]at c0 hrow;unfold maxLen at hc1;obtain⟨m,hm⟩:=gnX (p.2.length);have Hm:=Y8 hm;have Hp:=Y8 hp;have Hrow:=Y8 hrow;rw[hm]at c0 hl1;clear hrow hm hp e1;obtain⟨z,hz⟩:=geX (l:=Fo) (i:=i) (by show i<7;exact hlt);have OK:=Y8 (G.o.sp i p z Hp.o hz);clear hz;go_wp2_with (go_at_call 139;refine(Zxt _ p.2 z _ (by have:=Hrow.o.ext Hy.o;rw[Hm.o]at this;exact this) OK.o).mono ?_;rintro e w2 ⟨rfl,hx2⟩);have Hz:=Y8 (Hx.o.trans hx2);have Hlt:=Y8 hlt;clear Hx hx2 Hy hlt;go_loopw [32] (fun o wr=>∃ i:Nat,i≤m∧o=.int .i64 (i:Int)∧Ext w1 wr) (fun o _=>m-(intOf o).toNat);case atStart=>exact⟨0,by omega,rfl,Hz.o⟩
  obtain⟨j,hi_j,rfl,hx⟩:=hrel;have Hx:=Y8 hx;clear hx;have Hy:=Y8 (Hx1.o.trans Hx.o);by_cases hlt:j<m
  ·obtain⟨hd_j,i0_j,i1_j⟩:=LTl j m;obtain⟨x,hs_x⟩:=geX (l:=(p.2)) (i:=j) (by have:=Hm.o;omega);obtain⟨g_x,o_x,c_x,hvv,_,_,_,hgl_x,a0_x,a1_x,a2_x⟩:=(Hrow.o.ext Hy.o).get hs_x;obtain⟨rfl,-,rfl⟩:=slcX hvv;clear hvv;have Hs_x:=Y8 hs_x;clear hs_x;obtain⟨_,r2,_,r4,_,_⟩:=OK.o.in_ x (Zy Hs_x.o);have R2:=Y8 r2;have R4:=Y8 r4;clear r2 r4;go_wp2_with (go_at_call 140;refine(Zve _ _ _ R2.o R4.o _).mono ?_;rintro e w3 ⟨rfl,hx3⟩);all_goals
    have hx:=Hx.o
    first
    | (go_roundw
       case rel=>exact⟨j+1,by omega,by go_num,xE⟩
       (simp[intOf];omega))
    | (go_ret;exact⟨rfl,X0.o.trans (Hx1.o.trans xE)⟩)
  have hd_j:=GEl j m;have hlt2:=Hlt.o;go_wp2_with fail;all_goals
   have hx:=Hx.o
   first
   | (go_roundw
      case rel=>exact⟨i+1,by omega,by go_num,xE⟩
      (simp[intOf];omega))
   | (go_ret;exact⟨rfl,X0.o.trans (Hx1.o.trans xE)⟩)
 have hd_i:decide ((i:Int)<(7:Int))=false:=Yf;go_wp2_with (first|(refine Xy (Hb0.o.ext Hy.o) rfl ?_)|(go_at_call 138;refine(Gd T _ (H.o.up Hy.o)).mono ?_;rintro e w2 ⟨g3,rfl,hc,hx2⟩));have Hx1:=Y8 (Hy.o.trans hx2);have Hc:=Y8 hc;clear hc hx2 Hx Hy hlt hd_i hi_i;go_loopw [45] (fun o wr=>∃ i:Nat,i≤4∧o=.int .i64 (i:Int)∧Ext w2 wr) (fun o _=>4-(intOf o).toNat);case atStart=>exact⟨0,by omega,rfl,Yk _⟩
 obtain⟨k,hi_k,rfl,hx⟩:=hrel;have Hx:=Y8 hx;clear hx;have Hy:=Y8 (Hx1.o.trans Hx.o);by_cases hlt:k<4
 ·have hd_k:decide ((k:Int)<(4:Int))=true:=Ye;have i0_k:(0:Int)≤(k:Int):=by omega
  have i1_k:(k:Int)<(4:Int):=by omega
  obtain⟨p,hp⟩:=geX (l:=(Zy0 T)) (i:=k) (by have:(Zy0 T).length=4:=rfl;omega);have hrow:=Zqh H.o p (Zy hp);have c0:=(Hc.o.ext Hx.o).at_ k p.1 (by simp[hp]);obtain⟨A1,C1,e1,hl1,hc1⟩:=hrow.shape;rw[e1]at c0 hrow;unfold maxLen at hc1;obtain⟨m,hm⟩:=gnX (p.2.length);have Hm:=Y8 hm;have Hp:=Y8 hp;have Hrow:=Y8 hrow;rw[hm]at c0 hl1;clear hrow hm hp e1;have OK:=Y8 (G.o.mp k p Hp.o);go_wp2_with fail;have Hz:=Y8 Hx.o;have Hlt:=Y8 hlt;clear Hx Hy hlt;go_loopw [52] (fun o wr=>∃ i:Nat,i≤m∧o=.int .i64 (i:Int)∧Ext w2 wr) (fun o _=>m-(intOf o).toNat);case atStart=>exact⟨0,by omega,rfl,Hz.o⟩
  obtain⟨j,hi_j,rfl,hx⟩:=hrel;have Hx:=Y8 hx;clear hx;have Hy:=Y8 (Hx1.o.trans Hx.o);by_cases hlt:j<m
  ·obtain⟨hd_j,i0_j,i1_j⟩:=LTl j m;obtain⟨x,hs_x⟩:=geX (l:=(p.2)) (i:=j) (by have:=Hm.o;omega);obtain⟨g_x,o_x,c_x,hvv,_,_,_,hgl_x,a0_x,a1_x,_⟩:=(Hrow.o.ext Hy.o).get hs_x;obtain⟨rfl,-,rfl⟩:=slcX hvv;clear hvv;have ti_x:=Hrow.o.2 _ (Zy hs_x);obtain⟨A_x,C_x,tv_x,tl_x,tc_x⟩:=ti_x.shape;obtain⟨n_x,hn_x⟩:=gnX (x.to_.length);rw[tv_x]at a1_x ti_x;rw[hn_x]at a1_x tl_x;have Hn_x:=Y8 hn_x;unfold maxLen at tc_x;have Hs_x:=Y8 hs_x;have Ti_x:=Y8 ti_x;clear hs_x ti_x tv_x hn_x;go_wp2_with fail;obtain⟨W,hW⟩:=gnX (wr.alloc (.cells #[.int .i64 x.fr,.slice A_x n_x C_x] 106));have m0:=lat (show W.cell? ⟨wr.heap.size,0,none⟩=some (.int .i64 x.fr) by(rw[← hW];clear hW;go_simp));have hxw:Ext wr W:=by rw[← hW];exact(Yk _).alloc _
   rw[hW];clear hW;obtain⟨r1,r2,r3,_,_⟩:=OK.o.in_ x (Zy Hs_x.o);have q1:decide (x.fr<0)=false:=Yf;have q2:decide (1114111<x.fr)=false:=Yf;have R3:=Y8 r3;clear r1 r2 r3;rcases Zfs j with hj0|hj0
   ·have q6:decide ((0:Int)<(j:Int))=false:=Yf;have q7:decide (0<j)=false:=Yf;clear hj0;rcases R3.o with q8 | ⟨q9,q10⟩
    ·have hun:=Ya;refine wreX ?_;repeat(refine(Yu ?_:);intro K hK;go_simp;first|(refine hK _ ?_;clear hK K)|(apply Exists.intro;refine⟨fun _=>?_,hK _ ?_⟩;(first|(go_at_call 141;exact Xq (Ga _ _))|(go_at_call 142;exact Xq (En _ _)));clear hK K))
     refine Yt ?_;intro w9 hy9;clear hun;try simp only[Yb]
     go_wp2_with fail;all_goals
      have hx:=Hx.o
      first
      | (go_roundw
         case rel=>exact⟨j+1,by omega,by go_num,xE⟩
         (simp[intOf];omega))
      | (go_ret;exact⟨rfl,X0.o.trans (Hx1.o.trans xE)⟩)
    cases q8:Zzf x.fr
    ·have hun:=Ya;refine wreX ?_;repeat(refine(Yu ?_:);intro K hK;go_simp;first|(refine hK _ ?_;clear hK K)|(apply Exists.intro;refine⟨fun _=>?_,hK _ ?_⟩;(first|(go_at_call 141;exact Xq (Ga _ _))|(go_at_call 142;exact Xq (En _ _)));clear hK K))
     refine Yt ?_;intro w9 hy9;clear hun;try simp only[Yb]
     go_wp2_with fail;all_goals
      have hx:=Hx.o
      first
      | (go_roundw
         case rel=>exact⟨j+1,by omega,by go_num,xE⟩
         (simp[intOf];omega))
      | (go_ret;exact⟨rfl,X0.o.trans (Hx1.o.trans xE)⟩)
    have hun:=Ya;refine wreX ?_;repeat(refine(Yu ?_:);intro K hK;go_simp;first|(refine hK _ ?_;clear hK K)|(apply Exists.intro;refine⟨fun _=>?_,hK _ ?_⟩;(first|(go_at_call 141;exact Xq (Ga _ _))|(go_at_call 142;exact Xq (En _ _)));clear hK K))
    refine Yt ?_;intro w9 hy9;clear hun;try simp only[Yb]
    go_wp2_with fail;all_goals
     have hx:=Hx.o
     first
     | (go_roundw
        case rel=>exact⟨j+1,by omega,by go_num,xE⟩
        (simp[intOf];omega))
     | (go_ret;exact⟨rfl,X0.o.trans (Hx1.o.trans xE)⟩)
   have q6:decide ((0:Int)<(j:Int))=true:=Ye;have q7:decide (0<j)=true:=Ye;obtain⟨y,hy⟩:∃ s,p.2[j-1]?=some s:=⟨p.2[j-1]'(by have:=Hm.o;omega),Zz _⟩;have q5:decide (x.fr≤y.fr)=false:=Yf (by have h1:=OK.o.lt j x y hj0 Hs_x.o hy;omega);obtain⟨g',o',c',hvv,_,_,_,_,d1,_⟩:=(Hrow.o.ext Hy.o).get hy;simp only[Yd,Yc,Zga,Zg0,Zfw]at hvv;obtain⟨⟨rfl,rfl⟩,rfl⟩:=hvv;have m2:=lat ((hxw.cell (p:=⟨g_x,o_x+(j-1)*2,none⟩) hgl_x).trans d1);have w1':=Ve j hj0 (by omega);have w2':(1:Int)≤(j:Int):=by omega
   have w3':(0:Int)≤((j-1:Nat):Int):=by omega
   have w4':((j-1:Nat):Int)<(m:Int):=by omega
   clear hy hj0;rcases R3.o with q8 | ⟨q9,q10⟩
   ·have hun:=Ya;refine wreX ?_;repeat(refine(Yu ?_:);intro K hK;go_simp;first|(refine hK _ ?_;clear hK K)|(apply Exists.intro;refine⟨fun _=>?_,hK _ ?_⟩;(first|(go_at_call 141;exact Xq (Ga _ _))|(go_at_call 142;exact Xq (En _ _)));clear hK K))
    refine Yt ?_;intro w9 hy9;clear hun;try simp only[Yb]
    go_wp2_with fail;all_goals
     have hx:=Hx.o
     first
     | (go_roundw
        case rel=>exact⟨j+1,by omega,by go_num,xE⟩
        (simp[intOf];omega))
     | (go_ret;exact⟨rfl,X0.o.trans (Hx1.o.trans xE)⟩)
   cases q8:Zzf x.fr
   ·have hun:=Ya;refine wreX ?_;repeat(refine(Yu ?_:);intro K hK;go_simp;first|(refine hK _ ?_;clear hK K)|(apply Exists.intro;refine⟨fun _=>?_,hK _ ?_⟩;(first|(go_at_call 141;exact Xq (Ga _ _))|(go_at_call 142;exact Xq (En _ _)));clear hK K))
    refine Yt ?_;intro w9 hy9;clear hun;try simp only[Yb]
    go_wp2_with fail;all_goals
     have hx:=Hx.o
     first
     | (go_roundw
        case rel=>exact⟨j+1,by omega,by go_num,xE⟩
        (simp[intOf];omega))
     | (go_ret;exact⟨rfl,X0.o.trans (Hx1.o.trans xE)⟩)
   have hun:=Ya;refine wreX ?_;repeat(refine(Yu ?_:);intro K hK;go_simp;first|(refine hK _ ?_;clear hK K)|(apply Exists.intro;refine⟨fun _=>?_,hK _ ?_⟩;(first|(go_at_call 141;exact Xq (Ga _ _))|(go_at_call 142;exact Xq (En _ _)));clear hK K))
   refine Yt ?_;intro w9 hy9;clear hun;try simp only[Yb]
   go_wp2_with fail;all_goals
    have hx:=Hx.o
    first
    | (go_roundw
       case rel=>exact⟨j+1,by omega,by go_num,xE⟩
       (simp[intOf];omega))
    | (go_ret;exact⟨rfl,X0.o.trans (Hx1.o.trans xE)⟩)
  have hd_j:=GEl j m;have hlt2:=Hlt.o;go_wp2_with fail;all_goals
   have hx:=Hx.o
   first
   | (go_roundw
      case rel=>exact⟨k+1,by omega,by go_num,xE⟩
      (simp[intOf];omega))
   | (go_ret;exact⟨rfl,X0.o.trans (Hx1.o.trans xE)⟩)
 have hd_k:decide ((k:Int)<(4:Int))=false:=Yf;have b10:=(Hb0.o.ext Hy.o).at_ 10 (by omega);rw[show(Qk T)[10]?=some T.excV from rfl,E10.o]at b10;go_wp2_with fail;have Hz:=Y8 Hx.o;clear Hx Hy hlt hd_k hi_k b10;go_loopw [100] (fun o wr=>∃ i:Nat,i≤n10∧o=.int .i64 (i:Int)∧Ext w2 wr) (fun o _=>n10-(intOf o).toNat);case atStart=>exact⟨0,by omega,rfl,Hz.o⟩
 obtain⟨j,hi_j,rfl,hx⟩:=hrel;have Hx:=Y8 hx;clear hx;have Hy:=Y8 (Hx1.o.trans Hx.o);by_cases hlt:j<n10
 ·obtain⟨hd_j,i0_j,i1_j⟩:=LTl j n10;obtain⟨x,hs_x⟩:=geX (l:=(T.exc)) (i:=j) (by have:=Hn10.o;omega);obtain⟨g_x,o_x,c_x,hvv,_,_,_,hgl_x,a0_x⟩:=(H10.o.ext Hy.o).get hs_x;obtain⟨rfl,-,rfl⟩:=slcX hvv;clear hvv;have Hs_x:=Y8 hs_x;clear hs_x;have b10:=(Hb0.o.ext Hy.o).at_ 10 (by omega);rw[show(Qk T)[10]?=some T.excV from rfl,E10.o]at b10;obtain⟨r1,r2,r3,_⟩:=G.o.xin x (Zy Hs_x.o);have q1:decide (x<0)=false:=Yf;have q2:decide (1114111<x)=false:=Yf;have R3:=Y8 r3;clear r1 r2 r3;rcases Zfs j with hj0|hj0
  ·have q6:decide ((0:Int)<(j:Int))=false:=Yf;have q7:decide (0<j)=false:=Yf;clear hj0;go_wp2_with (go_at_call 141;refine(Ga _ _).mono ?_;rintro e w' ⟨rfl,rfl⟩;rw[R3.o]);all_goals
    have hx:=Hx.o
    first
    | (go_roundw
       case rel=>exact⟨j+1,by omega,by go_num,xE⟩
       (simp[intOf];omega))
    | (go_ret;exact⟨rfl,X0.o.trans (Hx1.o.trans xE)⟩)
  have q6:decide ((0:Int)<(j:Int))=true:=Ye;have q7:decide (0<j)=true:=Ye;obtain⟨y,hy⟩:∃ s,T.exc[j-1]?=some s:=⟨T.exc[j-1]'(by have:=Hn10.o;omega),Zz _⟩;have q5:decide (x≤y)=false:=Yf (by have h1:=G.o.xlt j x y hj0 Hs_x.o hy;omega);obtain⟨g',o',c',hvv,_,_,_,_,d1⟩:=(H10.o.ext Hy.o).get hy;simp only[Yd,Yc,Zga,Zg0,Zfw]at hvv;obtain⟨⟨rfl,rfl⟩,-,rfl⟩:=hvv;have w1':=Ve j hj0 (by omega);have w2':(1:Int)≤(j:Int):=by omega
  have w3':(0:Int)≤((j-1:Nat):Int):=by omega
  have w4':((j-1:Nat):Int)<(n10:Int):=by omega
  clear hy;go_wp2_with (go_at_call 141;refine(Ga _ _).mono ?_;rintro e w' ⟨rfl,rfl⟩;rw[R3.o]);all_goals
   have hx:=Hx.o
   first
   | (go_roundw
      case rel=>exact⟨j+1,by omega,by go_num,xE⟩
      (simp[intOf];omega))
   | (go_ret;exact⟨rfl,X0.o.trans (Hx1.o.trans xE)⟩)
 have hd_j:=GEl j n10;go_wp2_with fail;all_goals
  have hx:=Hx.o
  first
  | (go_roundw
     case rel=>exact⟨j+1,by omega,by go_num,xE⟩
     (simp[intOf];omega))
  | (go_ret;exact⟨rfl,X0.o.trans (Hx1.o.trans xE)⟩)
theorem Af{S:Nat→Prop}(T:Tbl)(hg:Lq T)(w:World)(h:Xg w S T):Calls prog 75 #[Vg T] w fun e w'=>e=.returned (.int .i64 0)∧Ext w w':=by
 obtain⟨A9,C9,e9,hl9,hc9⟩:=h.dec.shape;have h9:=h.dec.ext ((Yk w).alloc (Wz T));obtain⟨n9,hn9⟩:=gnX (T.dec.length);rw[hn9]at e9 hl9;rw[e9]at h9;have Hn9:=Y8 hn9;have E9:=Y8 e9;have H9:=Y8 h9;unfold maxLen at hc9;clear hn9 e9 h9;obtain⟨A10,C10,e10,hl10,hc10⟩:=h.exc.shape;have h10:=h.exc.ext ((Yk w).alloc (Wz T));obtain⟨n10,hn10⟩:=gnX (T.exc.length);rw[hn10]at e10 hl10;rw[e10]at h10;have Hn10:=Y8 hn10;have E10:=Y8 e10;have H10:=Y8 h10;unfold maxLen at hc10;clear hn10 e10 h10;obtain⟨A11,C11,e11,hl11,hc11⟩:=h.pro.shape;have h11:=h.pro.ext ((Yk w).alloc (Wz T));obtain⟨n11,hn11⟩:=gnX (T.pro.length);rw[hn11]at e11 hl11;rw[e11]at h11;have Hn11:=Y8 hn11;have E11:=Y8 e11;have H11:=Y8 h11;unfold maxLen at hc11;clear hn11 e11 h11;obtain⟨X0,H,Hb0⟩:=tblX h;clear h;have G:=Y8 hg;have Hf:=Y8 hg.few;have Hu:=Y8 hg.uq;have HF:=Y8 hg.fin;clear hg;have Hx_0:=Y8 (Yk (w.alloc (Wz T)));go_enter func75,ntmps75;go_wp2_with (first|(refine Xv rfl ?_)|(refine Xy Hb0.o rfl ?_));refine(Zu7 T G.o _ H.o).mono ?_;rintro e w1 ⟨rfl,hx1⟩;have Hx_w1:=Y8 (Hx_0.o.trans hx1);clear hx1;go_wp2_with (refine Xy (Hb0.o.ext Hx_w1.o) rfl ?_);refine(Zxy T G.o _ (H.o.up Hx_w1.o)).mono ?_;rintro e w2 ⟨rfl,hx2⟩;have Hx_w2:=Y8 (Hx_w1.o.trans hx2);clear hx2;go_wp2_with (refine Xy (Hb0.o.ext Hx_w2.o) rfl ?_);refine(Zxx T G.o _ (H.o.up Hx_w2.o)).mono ?_;rintro e w3 ⟨rfl,hx3⟩;have Hx_w3:=Y8 (Hx_w2.o.trans hx3);clear hx3;go_wp2_with (refine Xy (Hb0.o.ext Hx_w3.o) rfl ?_);refine(Zu6 T G.o _ (H.o.up Hx_w3.o)).mono ?_;rintro e w4 ⟨rfl,hx4⟩;have Hx_w4:=Y8 (Hx_w3.o.trans hx4);clear hx4;go_wp2_with (refine Xy (Hb0.o.ext Hx_w4.o) rfl ?_);refine(Zya T G.o _ (H.o.up Hx_w4.o)).mono ?_;rintro e w5 ⟨rfl,hx5⟩;have Hx_w5:=Y8 (Hx_w4.o.trans hx5);clear hx5;go_wp2_with (refine Xy (Hb0.o.ext Hx_w5.o) rfl ?_);refine(Zyp T G.o _ (H.o.up Hx_w5.o)).mono ?_;rintro e w6 ⟨rfl,hx6⟩;have Hx:=Y8 (Hx_w5.o.trans hx6);clear hx6 Hx_0 Hx_w1 Hx_w2 Hx_w3 Hx_w4 Hx_w5;have b10:=(Hb0.o.ext Hx.o).at_ 10 (by omega);rw[show(Qk T)[10]?=some T.excV from rfl,E10.o]at b10;go_wp2_with fail;clear b10;have Hx1:=Y8 Hx.o;clear Hx;go_loopw [40] (fun o wr=>∃ i:Nat,i≤n10∧o=.int .i64 (i:Int)∧Ext (w.alloc (Wz T)) wr) (fun o _=>n10-(intOf o).toNat);case atStart=>exact⟨0,by omega,rfl,Hx1.o⟩
 clear Hx1;obtain⟨i,hi_i,rfl,hx⟩:=hrel;have Hx:=Y8 hx;clear hx;by_cases hlt:i<n10
 ·obtain⟨hd_i,i0_i,i1_i⟩:=LTl i n10;obtain⟨x,hs_x⟩:=geX (l:=(T.exc)) (i:=i) (by have:=Hn10.o;omega);obtain⟨g_x,o_x,c_x,hvv,_,_,_,hgl_x,a0_x⟩:=(H10.o.ext Hx.o).get hs_x;obtain⟨rfl,-,rfl⟩:=slcX hvv;clear hvv;have Hs_x:=Y8 hs_x;clear hs_x;have b9:=(Hb0.o.ext Hx.o).at_ 9 (by omega);rw[show(Qk T)[9]?=some T.decV from rfl,E9.o]at b9;obtain⟨FA,FC,ef,fl,fc⟩:=(Qi (S:=S) (c:=x) H9.o.2).shape;obtain⟨d,hd⟩:=gnX ((Xb T.dec x).length);have hd0:0<d:=by rw[← hd];exact Zdv.2 (G.o.xin x (Zy Hs_x.o)).2.2.2
  rw[hd]at ef;have d1:((d:Int)==0)=false:=by simp;omega
  have d2:(d==0)=false:=by simp;omega
  have d3:¬ d=0:=by omega
  clear hd;go_wp2_with (go_at_call 111;refine(Wy _ T.dec x _ (H9.o.ext Hx.o)).mono ?_;rintro e w7 ⟨rfl,hx7⟩);have hx:=Hx.o;go_roundw;case rel=>exact⟨i+1,by omega,by go_num,xE⟩
  (simp[intOf];omega)
 have hd_i:=GEl i n10;have b9:=(Hb0.o.ext Hx.o).at_ 9 (by omega);rw[show(Qk T)[9]?=some T.decV from rfl,E9.o]at b9;go_wp2_with fail;have Hx1:=Y8 Hx.o;clear Hx hlt hd_i hi_i b9;go_loopw [54] (fun o wr=>∃ i:Nat,i≤n9∧o=.int .i64 (i:Int)∧Ext (w.alloc (Wz T)) wr) (fun o _=>n9-(intOf o).toNat);case atStart=>exact⟨0,by omega,rfl,Hx1.o⟩
 clear Hx1;obtain⟨i,hi_i,rfl,hx⟩:=hrel;have Hx:=Y8 hx;clear hx;by_cases hlt:i<n9
 ·obtain⟨hd_i,i0_i,i1_i⟩:=LTl i n9;obtain⟨a,hs_a⟩:=geX (l:=(T.dec)) (i:=i) (by have:=Hn9.o;omega);obtain⟨g_a,o_a,c_a,hvv,_,_,_,hgl_a,a0_a,a1_a,_⟩:=(H9.o.ext Hx.o).get hs_a;obtain⟨rfl,-,rfl⟩:=slcX hvv;clear hvv;have ti_a:=H9.o.2 _ (Zy hs_a);obtain⟨A_a,C_a,tv_a,tl_a,tc_a⟩:=ti_a.shape;obtain⟨n_a,hn_a⟩:=gnX (a.to_.length);rw[tv_a]at a1_a ti_a;rw[hn_a]at a1_a tl_a;have Hn_a:=Y8 hn_a;unfold maxLen at tc_a;have Hs_a:=Y8 hs_a;have Ti_a:=Y8 ti_a;clear hs_a ti_a tv_a hn_a;have b9:=(Hb0.o.ext Hx.o).at_ 9 (by omega);rw[show(Qk T)[9]?=some T.decV from rfl,E9.o]at b9;have hbl:=(Hb0.o.ext Hx.o).lt;have hic:i≤C9:=by omega
  have hic2:(i:Int)≤(C9:Int):=by omega
  go_wp2_with fail;have Hxa:=Y8 (Hx.o.alloc (.cells #[.int .i64 a.fr,.slice A_a n_a C_a] 106));have Hba:=Y8 (Kx wr #[.int .i64 a.fr,.slice A_a n_a C_a] 106 _ rfl);have Hlt:=Y8 hlt;clear Hx hlt b9 hbl a0_a a1_a hgl_a;rename World=>wo
  go_loopw [64] (fun o wr=>∃ j:Nat,j≤i∧o=.int .i64 (j:Int)∧Ext (wo.alloc (.cells #[.int .i64 a.fr,.slice A_a n_a C_a] 106)) wr) (fun o _=>i-(intOf o).toNat);case atStart=>exact⟨0,by omega,rfl,Yk _⟩
  obtain⟨j,hi_j,rfl,hx⟩:=hrel;have Hx:=Y8 hx;clear hx;have Hy:=Y8 (Hxa.o.trans Hx.o);have hi9:=Hlt.o;by_cases hlt:j<i
  ·obtain⟨hd_j,i0_j,i1_j⟩:=LTl j i;obtain⟨b,hs_b⟩:=geX (l:=(T.dec)) (i:=j) (by have:=Hn9.o;omega);obtain⟨g_b,o_b,c_b,hvv,_,_,_,hgl_b,a0_b,a1_b,_⟩:=(H9.o.ext Hy.o).get hs_b;simp only[Yd,Yc,Zga,Zg0,Zfw]at hvv;obtain⟨⟨rfl,rfl⟩,-,rfl⟩:=hvv;have ti_b:=H9.o.2 _ (Zy hs_b);obtain⟨A_b,C_b,tv_b,tl_b,tc_b⟩:=ti_b.shape;obtain⟨n_b,hn_b⟩:=gnX (b.to_.length);rw[tv_b]at a1_b ti_b;rw[hn_b]at a1_b tl_b;have Hn_b:=Y8 hn_b;unfold maxLen at tc_b;have Hs_b:=Y8 hs_b;have Ti_b:=Y8 ti_b;clear hs_b ti_b tv_b hn_b;go_wp2_with fail;obtain⟨W,hW⟩:=gnX (wr.alloc (.cells #[.int .i64 b.fr,.slice A_b n_b C_b] 106));have hxw:Ext wr W:=by rw[← hW];exact(Yk _).alloc _
   have hbn:=Kx wr #[.int .i64 b.fr,.slice A_b n_b C_b] 106 _ rfl;rw[hW]at hbn;have m0:=lat (hbn.at_ 0 _ rfl);have m1:=lat (hbn.at_ 1 _ rfl);have hba:=Hba.o.ext (Hx.o.trans hxw);have m2:=lat (hba.at_ 0 _ rfl);have m3:=lat (hba.at_ 1 _ rfl);have Hz:=Y8 (Hy.o.trans hxw);have HW:=Y8 (H.o.up Hz.o);have hC:∀ w',(∃ p:Vt,w'=later W p.n p.os)→Kn w' w.heap.size T:=fun w' ⟨p,e⟩=>by rw[e];exact(Hb0.o.ext Hz.o).ext (⟨_,_,rfl⟩)
   rw[hW];clear hW hbn hba;cases ca:Be T a.fr
   ·have hun:=Ya;refine wreX ?_;repeat(first|((with_reducible refine Xf ?_ ?_ hC ?_);(focus(go_simp;done));rfl)|(refine(Yu ?_:);intro K hK;go_simp;first|(refine hK _ ?_;clear hK K)|(apply Exists.intro;refine⟨fun _=>?_,hK _ ?_⟩;(go_at_call 112;exact Xx (Uz T HF.o Hf.o _ _ (HW.o.up (⟨_,_,rfl⟩))));clear hK K)))
    refine Yt ?_;intro w9 hy9;clear hun;try simp only[Yb]
    go_wp2_with fail;have hx:=Hx.o;go_roundw;case rel=>exact⟨j+1,by omega,by go_num,(hx.trans hxw).trans hy9⟩
    (simp[intOf];omega)
   cases cb:Be T b.fr
   ·have hun:=Ya;refine wreX ?_;repeat(first|((with_reducible refine Xf ?_ ?_ hC ?_);(focus(go_simp;done));rfl)|(refine(Yu ?_:);intro K hK;go_simp;first|(refine hK _ ?_;clear hK K)|(apply Exists.intro;refine⟨fun _=>?_,hK _ ?_⟩;(go_at_call 112;exact Xx (Uz T HF.o Hf.o _ _ (HW.o.up (⟨_,_,rfl⟩))));clear hK K)))
    refine Yt ?_;intro w9 hy9;clear hun;try simp only[Yb]
    go_wp2_with fail;have hx:=Hx.o;go_roundw;case rel=>exact⟨j+1,by omega,by go_num,(hx.trans hxw).trans hy9⟩
    (simp[intOf];omega)
   have hne:=G.o.r8 i j a b hlt Hs_a.o Hs_b.o ca cb;have Hne:=Y8 hne;clear hne;obtain⟨xa,ya,ea⟩:∃ x y,a.to_=[x,y]:=by
    have h2:a.to_.length=2:=by
     rw[← Hu.o a (Zy Hs_a.o)];refine Zfo fun hn=>?_
     have:=Md (n:=258) hn;unfold Be at ca;rw[this]at ca;exact absurd ca (by simp)
    match hh:a.to_ with
    | [x,y]=>exact⟨x,y,rfl⟩
    | []=>rw[hh]at h2;simp at h2
    | [_]=>rw[hh]at h2;simp at h2
    | _::_::_::_=>rw[hh]at h2;simp at h2
   have ta:=Ti_a.o;rw[ea]at ta;obtain⟨gga,ooa,cca,hv0,_,_,_,_,ua⟩:=(ta.ext Hz.o).get (j:=0) rfl;obtain⟨gg',oo',cc',hv1,_,_,_,_,va⟩:=(ta.ext Hz.o).get (j:=1) rfl;rw[hv0]at hv1;simp only[Yd,Yc,Zga,Zg0,Zfw]at hv1;obtain⟨⟨rfl,rfl⟩,rfl⟩:=hv1;obtain⟨rfl,-,rfl⟩:=slcX hv0;clear hv0;have hn2a:n_a=2:=by rw[← Hn_a.o,ea];rfl
   have hp0a:0<n_a:=by omega
   have hp1a:1<n_a:=by omega
   have hp2a:(0:Int)<(n_a:Int):=by omega
   have hp3a:(1:Int)<(n_a:Int):=by omega
   clear hn2a;rw[Zfu]at ua;have Ma:=lat ua;have Na:=lat va;clear ta ua va;obtain⟨xb,yb,eb⟩:∃ x y,b.to_=[x,y]:=by
    have h2:b.to_.length=2:=by
     rw[← Hu.o b (Zy Hs_b.o)];refine Zfo fun hn=>?_
     have:=Md (n:=258) hn;unfold Be at cb;rw[this]at cb;exact absurd cb (by simp)
    match hh:b.to_ with
    | [x,y]=>exact⟨x,y,rfl⟩
    | []=>rw[hh]at h2;simp at h2
    | [_]=>rw[hh]at h2;simp at h2
    | _::_::_::_=>rw[hh]at h2;simp at h2
   have tb:=Ti_b.o;rw[eb]at tb;obtain⟨ggb,oob,ccb,hv0,_,_,_,_,ub⟩:=(tb.ext Hz.o).get (j:=0) rfl;obtain⟨gg',oo',cc',hv1,_,_,_,_,vb⟩:=(tb.ext Hz.o).get (j:=1) rfl;rw[hv0]at hv1;simp only[Yd,Yc,Zga,Zg0,Zfw]at hv1;obtain⟨⟨rfl,rfl⟩,rfl⟩:=hv1;obtain⟨rfl,-,rfl⟩:=slcX hv0;clear hv0;have hn2b:n_b=2:=by rw[← Hn_b.o,eb];rfl
   have hp0b:0<n_b:=by omega
   have hp1b:1<n_b:=by omega
   have hp2b:(0:Int)<(n_b:Int):=by omega
   have hp3b:(1:Int)<(n_b:Int):=by omega
   clear hn2b;rw[Zfu]at ub;have Mb:=lat ub;have Nb:=lat vb;clear tb ub vb;cases e0:(xa==xb)
   ·have hun:=Ya;refine wreX ?_;repeat(first|((with_reducible refine Xf ?_ ?_ hC ?_);(focus(go_simp;done));rfl)|(refine(Yu ?_:);intro K hK;go_simp;first|(refine hK _ ?_;clear hK K)|(apply Exists.intro;refine⟨fun _=>?_,hK _ ?_⟩;(go_at_call 112;exact Xx (Uz T HF.o Hf.o _ _ (HW.o.up (⟨_,_,rfl⟩))));clear hK K)))
    refine Yt ?_;intro w9 hy9;clear hun;try simp only[Yb]
    go_wp2_with fail;have hx:=Hx.o;go_roundw;case rel=>exact⟨j+1,by omega,by go_num,(hx.trans hxw).trans hy9⟩
    (simp[intOf];omega)
   cases e1:(ya==yb)
   ·have hun:=Ya;refine wreX ?_;repeat(first|((with_reducible refine Xf ?_ ?_ hC ?_);(focus(go_simp;done));rfl)|(refine(Yu ?_:);intro K hK;go_simp;first|(refine hK _ ?_;clear hK K)|(apply Exists.intro;refine⟨fun _=>?_,hK _ ?_⟩;(go_at_call 112;exact Xx (Uz T HF.o Hf.o _ _ (HW.o.up (⟨_,_,rfl⟩))));clear hK K)))
    refine Yt ?_;intro w9 hy9;clear hun;try simp only[Yb]
    go_wp2_with fail;have hx:=Hx.o;go_roundw;case rel=>exact⟨j+1,by omega,by go_num,(hx.trans hxw).trans hy9⟩
    (simp[intOf];omega)
   exact absurd (by rw[ea,eb,eq_of_beq e0,eq_of_beq e1]) Hne.o
  have hd_j:=GEl j i;have hx:=Hy.o;go_wp2_with fail;go_roundw;case rel=>exact⟨i+1,by omega,by go_num,hx⟩
  (simp[intOf];omega)
 have hd_i:=GEl i n9;have b11:=(Hb0.o.ext Hx.o).at_ 11 (by omega);rw[show(Qk T)[11]?=some T.proV from rfl,E11.o]at b11;go_wp2_with fail;have Hx1:=Y8 Hx.o;clear Hx hlt hd_i hi_i b11;go_loopw [105] (fun o wr=>∃ i:Nat,i≤n11∧o=.int .i64 (i:Int)∧Ext (w.alloc (Wz T)) wr) (fun o _=>n11-(intOf o).toNat);case atStart=>exact⟨0,by omega,rfl,Hx1.o⟩
 clear Hx1;obtain⟨i,hi_i,rfl,hx⟩:=hrel;have Hx:=Y8 hx;clear hx;by_cases hlt:i<n11
 ·obtain⟨hd_i,i0_i,i1_i⟩:=LTl i n11;obtain⟨a,hs_a⟩:=geX (l:=(T.pro)) (i:=i) (by have:=Hn11.o;omega);obtain⟨g_a,o_a,c_a,hvv,_,_,_,hgl_a,a0_a,a1_a,_⟩:=(H11.o.ext Hx.o).get hs_a;obtain⟨rfl,-,rfl⟩:=slcX hvv;clear hvv;have ti_a:=H11.o.2 _ (Zy hs_a);obtain⟨A_a,C_a,tv_a,tl_a,tc_a⟩:=ti_a.shape;obtain⟨n_a,hn_a⟩:=gnX (a.to_.length);rw[tv_a]at a1_a ti_a;rw[hn_a]at a1_a tl_a;have Hn_a:=Y8 hn_a;unfold maxLen at tc_a;have Hs_a:=Y8 hs_a;have Ti_a:=Y8 ti_a;clear hs_a ti_a tv_a hn_a;have b9:=(Hb0.o.ext Hx.o).at_ 9 (by omega);rw[show(Qk T)[9]?=some T.decV from rfl,E9.o]at b9;have hbl:=(Hb0.o.ext Hx.o).lt;obtain⟨FA,FC,ef,fl,fc⟩:=(Qi (S:=S) (c:=a.fr) H9.o.2).shape;obtain⟨hfe,qa,hto⟩:=G.o.r9 a (Zy Hs_a.o);have Hto:=Y8 hto;have HA:=Y8 hfe;have q1:(Xb T.dec a.fr).length=0:=by rw[hfe];rfl
  rw[q1]at ef;clear hfe q1 hto;go_wp2_with (first|(go_at_call 111;refine(Wy _ T.dec _ _ (H9.o.ext (Hx.o.alloc _))).mono ?_;rintro e w7 ⟨rfl,hx7⟩;have hc7:=fun k=>hx7.cell (p:=⟨wr.heap.size,k,none⟩) (by simp))|(refine Au (Hb0.o.ext ((Hx.o.alloc _).trans hx7)) (by go_simp) rfl ?_)|(go_at_call 87;refine(Qx T _ _ (H.o.up ((Hx.o.alloc _).trans hx7))).mono ?_;rintro e w8 ⟨rfl,hx8⟩;rw[qa];have hc8:=fun k=>hx8.cell (p:=⟨wr.heap.size,k,none⟩) (by have:=hx7.size;simp at this;show wr.heap.size<_;omega)));clear qa;have Hxk:=Y8 (((Hx.o.alloc _).trans hx7).trans hx8);have Hlt:=Y8 hlt;clear Hx hx7 hx8 hc7 hc8 hlt hbl b9 ef fl fc;go_loopw [125] (fun o wr=>∃ i:Nat,i≤n_a∧o=.int .i64 (i:Int)∧Ext (w.alloc (Wz T)) wr) (fun o _=>n_a-(intOf o).toNat);case atStart=>exact⟨0,by omega,rfl,Hxk.o⟩
  obtain⟨j,hi_j,rfl,hx⟩:=hrel;have Hx:=Y8 hx;clear hx;by_cases hlt:j<n_a
  ·obtain⟨hd_j,i0_j,i1_j⟩:=LTl j n_a;obtain⟨c,hs_c⟩:=geX (l:=(a.to_)) (i:=j) (by have:=Hn_a.o;omega);obtain⟨g_c,o_c,c_c,hvv,_,_,_,hgl_c,a0_c⟩:=(Ti_a.o.ext Hx.o).get hs_c;obtain⟨rfl,-,rfl⟩:=slcX hvv;clear hvv;have Hs_c:=Y8 hs_c;clear hs_c;have b9:=(Hb0.o.ext Hx.o).at_ 9 (by omega);rw[show(Qk T)[9]?=some T.decV from rfl,E9.o]at b9;obtain⟨FA',FC',ef,fl,fc⟩:=(Qi (S:=S) (c:=c) H9.o.2).shape;obtain⟨hfe,qi,qy,hpe⟩:=Hto.o c (Zy Hs_c.o);have HA':=Y8 hfe;rw[show(Xb T.dec c).length=0 by rw[hfe];rfl]at ef;clear hfe;have A7:=fun(w9:World) (hx9:Ext wr w9)=>Hb0.o.ext (Hx.o.trans hx9)
   obtain⟨GA,GC,eg,gl,gc⟩:=(Qi (S:=S) (c:=c) H11.o.2).shape;have HP:=Y8 hpe;rw[show(Xb T.pro c).length=0 by rw[hpe];rfl]at eg;clear hpe;go_wp2_with (first|(go_at_call 111;refine(Wy _ T.dec _ _ (H9.o.ext Hx.o)).mono ?_;rintro e w7 ⟨rfl,hx7⟩)|(refine Au (A7 _ hx7) (by go_simp) rfl ?_));refine(Qx T _ _ (H.o.up (Hx.o.trans hx7))).mono ?_;rintro e w8 ⟨rfl,hx8⟩;rw[qi];go_wp2_with fail;refine(Ja _ _).mono ?_;rintro e w' ⟨rfl,rfl⟩;rw[qy];have c11:=(A7 _ (hx7.trans hx8)).at_ 11 (by omega);rw[show(Qk T)[11]?=some T.proV from rfl,E11.o]at c11;go_wp2_with fail;refine(Wy _ T.pro _ _ (H11.o.ext ((Hx.o.trans hx7).trans hx8))).mono ?_;rintro e w9 ⟨rfl,hx9⟩;go_wp2_with fail;go_roundw;case rel=>exact⟨j+1,by omega,by go_num,((Hx.o.trans hx7).trans hx8).trans hx9⟩
   (simp[intOf];omega)
  have hd_j:=GEl j n_a;have hlo:=Hlt.o;go_wp2_with fail;go_roundw;case rel=>exact⟨i+1,by omega,by go_num,Hx.o⟩
  (simp[intOf];omega)
 have hd_i:=GEl i n11;go_wp2_with fail;all_goals
  have hx:=Hx.o
  first
  | (go_roundw
     case rel=>exact⟨i+1,by omega,by go_num,xE⟩
     (simp[intOf];omega))
  | (go_ret;exact⟨rfl,X0.o.trans xE⟩)
def Uq(T:Tbl):Prop:=Lq T
def Zkf(T:Tbl)(w:World)(e:Ending)(w':World):Prop:=∃ n:Int,e=.returned (.int .i64 n)∧(n=0→Zo0 T)∧Ext w w'
theorem check_any{S:Nat→Prop}(T:Tbl)(_:Few T)(hu:Uq T)(w:World)(h:Xg w S T):Calls prog 75 #[Vg T] w (Zkf T w) :=
 (Af T hu w h).mono fun _ _ ⟨e,x⟩=>⟨0,e,fun _=>Lq.fin hu,x⟩
def Zth(T:Tbl)(l:List Int)(w:World)(e:Ending)(w':World):Prop:=∃ n:Int,e=.returned (.int .i64 n)∧(n=0→Zo0 T∧l.length≤4096∧∀ c∈l,Zw1 c=true)∧Ext w w'
theorem Zss{S S':Nat→Prop}(T:Tbl)(hf:Few T)(hu:Uq T)(v:Value)(l:List Int)(w:World)(h:Xg w S T)(hl:Xw w S' v l):Calls prog 237 #[Vg T,v] w (Zth T l w):=by
 obtain⟨A,C,rfl,hlCC,hCC⟩:=hl.shape;obtain⟨k,hnk⟩:=gnX ((l).length);have Hnk:=Y8 hnk;have Hhl:=Y8 hl;unfold maxLen at hCC;rw[hnk]at hlCC⊢;clear hl hnk;obtain⟨X0,H,Hb0⟩:=tblX h;clear h;have HL:=Y8 (Hhl.o.ext X0.o);have Hf:=Y8 hf;have Hu:=Y8 hu;clear hf hu;go_enter func237,ntmps237;go_wp2_with (first|(refine Xv rfl ?_)|(refine Xy Hb0.o rfl ?_));refine(check_any T Hf.o Hu.o _ H.o).mono ?_;rintro e w1 ⟨n,rfl,hfin,hx1⟩;have Hx1:=Y8 hx1;clear hx1;by_cases h0:n=0
 ·subst h0;have HF:=Y8 (hfin rfl);clear hfin;by_cases hbig:k≤4096
  ·have d1:decide ((4096:Int)<(k:Int))=false:=Yf;go_wp2_with fail;go_loopw [15] (fun o wr=>∃ i:Nat,i≤k∧o=.int .i64 (i:Int)∧(∀ c∈l.take i,Zw1 c=true)∧Ext (w.alloc (Wz T)) wr) (fun o _=>k-(intOf o).toNat);case atStart=>exact⟨0,by omega,rfl,by simp,Hx1.o⟩
   obtain⟨i,hi,rfl,ha,hx⟩:=hrel;have Hx:=Y8 hx;have Ha:=Y8 ha;clear hx ha Hx1;by_cases hlt:i<k
   ·obtain⟨hd_i,i0_i,i1_i⟩:=LTl i k;obtain⟨x,hs_x⟩:=geX (l:=(l)) (i:=i) (by have:=Hnk.o;omega);obtain⟨g_x,o_x,c_x,hvv,_,_,_,hgl_x,a0_x⟩:=(HL.o.ext Hx.o).get hs_x;obtain⟨rfl,-,rfl⟩:=slcX hvv;clear hvv;have Hs_x:=Y8 hs_x;clear hs_x;cases hs:Zw1 x
    ·go_wp2_with (go_at_call 143;refine(Kq _ _).mono ?_;rintro e w' ⟨rfl,rfl⟩);go_ret;exact⟨3,rfl,fun h=>absurd h (by decide),X0.o.trans Hx.o⟩
    have Hsx:=Y8 hs;go_wp2_with (go_at_call 143;refine(Kq _ _).mono ?_;rintro e w' ⟨rfl,rfl⟩);go_roundw;case rel =>
     refine⟨i+1,by omega,by go_num,?_,Hx.o⟩;rw[Wq Hs_x.o];intro c hc;rcases Zj.1 hc with h1|h1
     ·exact Ha.o c h1
     rw[Zi.1 h1];exact Hsx.o
    case measure=>(simp[intOf];omega)
   have hd_i:=GEl i k;go_wp2_with fail;go_ret;refine⟨0,rfl,fun _=>⟨HF.o,by rw[Hnk.o];exact hbig,?_⟩,X0.o.trans Hx.o⟩;have:=Ha.o
   rwa [Zm (by rw[Hnk.o];omega)]at this
  have d1:decide ((4096:Int)<(k:Int))=true:=Ye;go_wp2_with fail;go_ret;exact⟨7,rfl,fun h=>absurd h (by decide),X0.o.trans Hx1.o⟩
 have h0b:(!(n==0))=true:=by simp[h0]
 have h0c:(n !=0)=true:=h0b;clear h0 hfin;go_wp2_with fail;go_ret;exact⟨2,rfl,fun h=>absurd h (by decide),X0.o.trans Hx1.o⟩
theorem V0{S S':Nat→Prop}(T:Tbl)(hf:Few T)(hu:Uq T)(v:Value)(l:List Int)(w:World)(h:Xg w S T)(hl:Xw w S' v l):Calls prog 217 #[Vg T,v] w (Zth T l w):=by
 obtain⟨A,C,rfl,hlCC,hCC⟩:=hl.shape;obtain⟨k,hnk⟩:=gnX ((l).length);have Hnk:=Y8 hnk;have Hhl:=Y8 hl;unfold maxLen at hCC;rw[hnk]at hlCC⊢;clear hl hnk;obtain⟨X0,H,Hb0⟩:=tblX h;clear h;have HL:=Y8 (show Xw (w.alloc (Wz T)) S' (.slice A k C) l by have:=Hhl.o.ext X0.o;rwa [Hnk.o]at this);have Hf:=Y8 hf;have Hu:=Y8 hu;clear hf hu;go_enter func217,ntmps217;go_wp2_with (first|(refine Xv rfl ?_)|(refine Xy Hb0.o rfl ?_));refine(Zss T Hf.o Hu.o _ l _ H.o HL.o).mono ?_;rintro e w1 ⟨n,rfl,hfin,hx1⟩;go_wp2_with fail;go_ret;exact⟨n,rfl,hfin,X0.o.trans hx1⟩
def Zgv(T:Tbl)(l:List Int):List Int:=El (Wk T.cls) (l.flatMap (Zyr T))
theorem Zn7(T:Tbl)(l:List Int):(l.flatMap (Zyr T)).length≤l.length*18:=by
 induction l with
 | nil=>simp
 | cons c r ih=>rw[Ze7,Zs,Zl];have:=Zwu T c;omega
def Zjy(T:Tbl)(l:List Int)(w:World)(e:Ending)(w':World):Prop:=∃ (v:Value) (r:List Int) (x:Int),e=.returned (.tuple #[v,.int .i64 x])∧RdE Ww w' (fun k=>w.heap.size≤k) v r∧r.length≤4096∧(x=0→r=Zgv T l∧Zo0 T)∧Ext w w'
theorem Zy6{S S':Nat→Prop}(T:Tbl)(hf:Few T)(hu:Uq T)(v:Value)(l:List Int)(w:World)(h:Xg w S T)(hl:Xw w S' v l):Calls prog 226 #[Vg T,v] w (Zjy T l w):=by
 obtain⟨A,C,rfl,hlCC,hCC⟩:=hl.shape;obtain⟨n,hnn⟩:=gnX ((l).length);have Hnn:=Y8 hnn;have Hhl:=Y8 hl;unfold maxLen at hCC;rw[hnn]at hlCC⊢;clear hl hnn;obtain⟨X0,H,Hb0⟩:=tblX h;clear h;have HL:=intX Hhl Hnn X0;have Hf:=Y8 hf;have Hu:=Y8 hu;obtain⟨B,hB⟩:=gnX ((w.alloc (Wz T)).heap.size);have HB:=Y8 hB;clear hf hu hB;go_enter func226,ntmps226;go_wp2_with (first|(refine Xv rfl ?_)|(refine Xy Hb0.o rfl ?_));refine(Zss T Hf.o Hu.o _ l _ H.o HL.o).mono ?_;rintro e w1 ⟨x,rfl,hacc,hx1⟩;have Hx1:=Y8 hx1;clear hx1;by_cases h0:x=0
 ·subst h0;obtain⟨hfin,hl4,_⟩:=hacc rfl;rw[Hnn.o]at hl4;have HF:=Y8 hfin;clear hfin hacc;go_wp2_with fail;go_loopw [18,7] (fun o u wr=>∃ i:Nat,i≤n∧o=.int .i64 (i:Int)∧Own Ww wr B u ((l.take i).flatMap (Zyr T))∧Ext (w.alloc (Wz T)) wr) (fun o _ _=>n-(intOf o).toNat);case atStart=>exact⟨0,by omega,rfl,Own.nil _ _ _,Hx1.o⟩
  clear Hx1;obtain⟨i,hi,rfl,ho,hx⟩:=hrel;obtain⟨p,hp⟩:=gnX ((l.take i).flatMap (Zyr T));rw[hp]at ho;have hpl:p.length≤i*18:=by rw[← hp];exact Zgo (Zn7 T _) (Zgi _ (by rw[Zp];omega))
  have hi18:i*18≤4096*18:=Zgi _ (by omega);obtain⟨A2,C2,rfl,hlC2,hC2⟩:=ho.shape;obtain⟨m,hm⟩:=gnX (p.length);have hoI:Own Ww wr B (.slice A2 m C2) p:=by rw[← hm];exact ho
  rw[hm]at hlC2 hpl⊢;have Hx:=Y8 hx;have Ho:=Y8 hoI;have Hm:=Y8 hm;have Hp:=Y8 hp;have hBw:B≤wr.heap.size:=by rw[← HB.o];exact hx.size
  unfold maxLen at hC2;clear hx ho hoI hm hp;by_cases hlt:i<n
  ·obtain⟨hd_i,i0_i,i1_i⟩:=LTl i n;obtain⟨c,hs_c⟩:=geX (l:=(l)) (i:=i) (by have:=Hnn.o;omega);obtain⟨g_c,o_c,c_c,hvv,_,_,_,hgl_c,a0_c⟩:=(HL.o.ext Hx.o).get hs_c;obtain⟨rfl,-,rfl⟩:=slcX hvv;clear hvv;have Hs_c:=Y8 hs_c;clear hs_c;have hel:=Zwu T c;go_wp2_with (refine Xy (Hb0.o.ext Hx.o) rfl ?_);refine(Zv1 T Hf.o c _ (H.o.up Hx.o)).mono ?_;rintro e w2 ⟨u,rfl,hu2,hx2⟩;obtain⟨A3,C3,rfl,_,_⟩:=hu2.shape;obtain⟨k,hk⟩:=gnX ((Zyr T c).length);have Hu2:=Y8 (show RdE Ww w2 (fun j=>wr.heap.size≤j) (.slice A3 k C3) (Zyr T c) by rw[← hk];exact hu2);rw[hk]at hel⊢;have Hk:=Y8 hk;have Hx2:=Y8 hx2;clear hk hu2 hx2;go_wp2_with (at_builtin;refine Xt Ww _ _ _ rfl rfl rfl rfl (Ho.o.ext Hx2.o) rfl Hu2.o (by rw[Hm.o,Hk.o];omega) (by show 8≤1000;omega) (Zgo hBw Hx2.o.size) ?_;intro A5 n5 c5 w5 hg5;have Hx5:=Y8 (hg5.ext (w.alloc (Wz T)) (Hx.o.trans Hx2.o) (by rw[HB.o];exact Ym _));have Hg5:=Y8 hg5;clear hg5);go_roundw;case rel =>
    refine⟨i+1,by omega,by go_num,?_,Hx5.o⟩;rw[Wq Hs_c.o,List.flatMap_append,Hp.o,Ze7,List.flatMap_nil,Zf4];exact Hg5.o.own
   case measure=>(simp[intOf];omega)
  have hd_i:=GEl i n;have hpe:p=l.flatMap (Zyr T):=by rw[← Hp.o,Zm (by rw[Hnn.o];omega)]
  have Hpe:=Y8 hpe;clear hpe;by_cases hbig:4096<m
  ·have d1:decide ((4096:Int)<(m:Int))=true:=Ye;go_wp2_with fail;go_ret2;exact⟨_,[],7,rfl,Xw.nil _ _,Zgf _,fun h=>absurd h (by decide),X0.o.trans Hx.o⟩
  have d1:decide ((4096:Int)<(m:Int))=false:=Yf;go_wp2_with (refine Xy (Hb0.o.ext Hx.o) rfl ?_);refine(Zy8 T _ p _ (H.o.up Hx.o) (show Xw wr _ (.slice A2 m C2) p by have:=Ho.o.rd;rw[← Hm.o]at this⊢;exact this) (by rw[Hm.o];omega)).mono ?_;rintro e w2 ⟨u,rfl,hu2,hx2⟩;go_wp2_with fail;go_ret2;refine⟨u,_,0,rfl,Rd.mono hu2 fun k hk _=>Zgo (X0.o.trans Hx.o).size hk,by rw[Zq5,Hm.o];omega,fun _=>⟨by rw[Hpe.o];rfl,HF.o⟩,X0.o.trans (Hx.o.trans hx2)⟩
 have d2:(!(x==0))=true:=by simp[h0]
 have d3:(x !=0)=true:=d2;have H0:=Y8 h0;clear h0 hacc;go_wp2_with fail;go_ret2;exact⟨_,[],x,rfl,Xw.nil _ _,Zgf _,fun h=>absurd h H0.o,X0.o.trans Hx1.o⟩
