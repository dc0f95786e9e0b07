/- Lemmas of this claim. Conditions: as named. -/
import Derived.Test.YtnbclgbicnpmnaaGreatA22
import Derived.Test.YtnbclgbicnpmnaaGreatA25
namespace Go.Proofs.YtnbclgbicnpmnaaGreat
open Go.RowKit Go.Sort
set_option maxHeartbeats 0
set_option maxRecDepth 100000
set_option linter.all false
theorem Zqu{S S':Nat→Prop}(T:Tbl)(v:Value)(l:List Int)(w:World)(h:Xi w S T)(hl:Xz w S' v l):Calls Tryz.prog 267 #[Vr T,v] w (V3 w):=by
 obtain⟨A,C,rfl,hlCC,hCC⟩:=hl.shape;obtain⟨n,hnn⟩:=gnX ((l).length);have Hnn:=Ya hnn;have Hhl:=Ya hl;unfold maxLen at hCC;rw[hnn]at hlCC⊢;clear hl hnn;have X0:=Ya ((Yn w).alloc (Wx T));have H:=Ya (h.up X0.o);have Hb0:=Ya (Xn w T);clear h;have HL:=Ya (show Xz (w.alloc (Wx T)) S' (.slice A n C) l by have:=Hhl.o.ext X0.o;rwa [Hnn.o]at this);go_enter Tryz.func267,Tryz.ntmps267;go_wp2_with (refine Xx rfl ?_);go_loopw [10] (fun o wr=>∃ i:Nat,i≤n∧o=.int .i64 (i:Int)∧Ext (w.alloc (Wx T)) wr) (fun o _=>n-(intOf o).toNat);case atStart=>exact⟨0,by omega,rfl,Yn _⟩
 obtain⟨i,hi_i,rfl,hx⟩:=hrel;have Hx:=Ya hx;clear hx;by_cases hlt:i<n
 ·obtain⟨hd_i,i0_i,i1_i⟩:=LTl i n (by omega);obtain⟨x,hs_x⟩:=geX (l:=(l)) (i:=i) (by have:=Hnn.o;omega);obtain⟨g_x,o_x,c_x,hvv,_,_,_,hgl_x,a0_x⟩:=(HL.o.ext Hx.o).get hs_x;simp only[Yg]at hvv;obtain⟨rfl,-,rfl⟩:=hvv;have Hs_x:=Ya hs_x;clear hs_x;go_wp2_with (refine Y4 (Hb0.o.ext Hx.o) rfl ?_);refine(Oh T _ _ (H.o.up Hx.o)).mono ?_;rintro e w1 ⟨v1,rfl,hx1⟩;go_wp2_with fail;all_goals
   have hx:=Hx.o
   first
   | (go_roundw
      case rel=>exact⟨i+1,by omega,by go_num,(by repeat' first|exact Yn _|assumption|apply Ym|apply Yl|apply Yk|(refine Yj ?_ (by assumption)))⟩
      (simp[intOf];omega))
   | (go_ret;exact⟨_,rfl,X0.o.trans (by repeat' first|exact Yn _|assumption|apply Ym|apply Yl|apply Yk|(refine Yj ?_ (by assumption)))⟩)
 have hd_i:=GEl i n (by omega);go_wp2_with fail;all_goals
  have hx:=Hx.o
  first
  | (go_roundw
     case rel=>exact⟨i+1,by omega,by go_num,(by repeat' first|exact Yn _|assumption|apply Ym|apply Yl|apply Yk|(refine Yj ?_ (by assumption)))⟩
     (simp[intOf];omega))
  | (go_ret;exact⟨_,rfl,X0.o.trans (by repeat' first|exact Yn _|assumption|apply Ym|apply Yl|apply Yk|(refine Yj ?_ (by assumption)))⟩)
theorem last_any{S S':Nat→Prop}(T:Tbl)(v:Value)(l:List Int)(w:World)(h:Xi w S T)(hl:Xz w S' v l):Calls Tryz.prog 256 #[Vr T,v] w (Uv w):=by
 obtain⟨A,C,rfl,hlCC,hCC⟩:=hl.shape;obtain⟨n,hnn⟩:=gnX ((l).length);have Hnn:=Ya hnn;have Hhl:=Ya hl;unfold maxLen at hCC;rw[hnn]at hlCC⊢;clear hl hnn;have X0:=Ya ((Yn w).alloc (Wx T));have H:=Ya (h.up X0.o);have Hb0:=Ya (Xn w T);clear h;have HL:=Ya (show Xz (w.alloc (Wx T)) S' (.slice A n C) l by have:=Hhl.o.ext X0.o;rwa [Hnn.o]at this);go_enter Tryz.func256,Tryz.ntmps256;go_wp2_with (refine Xx rfl ?_);go_loopw [11,5] (fun o k wr=>∃ (i:Nat) (z:Int),i≤n∧o=.int .i64 (i:Int)∧k=.int .i64 z∧Ext (w.alloc (Wx T)) wr) (fun o _ _=>n-(intOf o).toNat);case atStart=>exact⟨0,-1,by omega,rfl,rfl,Yn _⟩
 obtain⟨i,z,hi,rfl,rfl,hx⟩:=hrel;have Hx:=Ya hx;clear hx;by_cases hlt:i<n
 ·obtain⟨hd_i,i0_i,i1_i⟩:=LTl i n (by omega);obtain⟨x,hs_x⟩:=geX (l:=(l)) (i:=i) (by have:=Hnn.o;omega);obtain⟨g_x,o_x,c_x,hvv,_,_,_,hgl_x,a0_x⟩:=(HL.o.ext Hx.o).get hs_x;simp only[Yg]at hvv;obtain⟨rfl,-,rfl⟩:=hvv;have Hs_x:=Ya hs_x;clear hs_x;go_wp2_with (refine Y4 (Hb0.o.ext Hx.o) rfl ?_);refine(Pt T _ _ (H.o.up Hx.o)).mono ?_;rintro e w1 ⟨v1,rfl,hx1⟩;go_wp2_with fail;all_goals
   go_roundw;case rel=>exact⟨i+1,_,by omega,by go_num,rfl,Hx.o.trans hx1⟩
   (simp[intOf];omega)
 have hd_i:=GEl i n (by omega);go_wp2_with fail;go_ret;exact⟨z,rfl,X0.o.trans Hx.o⟩
theorem Ut{S S' S'':Nat→Prop}(T:Tbl)(v:Value)(l:List Int)(u:Value)(cl:List Int)(w:World)(h:Xi w S T)(hl:Xz w S' v l)(hc:Xz w S'' u cl):Calls Tryz.prog 255 #[Vr T,v,u] w (V3 w):=by
 obtain⟨A,C,rfl,hlCC,hCC⟩:=hl.shape;obtain⟨n,hnn⟩:=gnX ((l).length);have Hnn:=Ya hnn;have Hhl:=Ya hl;unfold maxLen at hCC;rw[hnn]at hlCC⊢;clear hl hnn;obtain⟨D,E,rfl,hlCE,hCE⟩:=hc.shape;obtain⟨k,hnk⟩:=gnX ((cl).length);have Hnk:=Ya hnk;have Hhc:=Ya hc;unfold maxLen at hCE;rw[hnk]at hlCE⊢;clear hc hnk;have X0:=Ya ((Yn w).alloc (Wx T));have H:=Ya (h.up X0.o);have Hb0:=Ya (Xn w T);clear h;have HL:=Ya (show Xz (w.alloc (Wx T)) S' (.slice A n C) l by have:=Hhl.o.ext X0.o;rwa [Hnn.o]at this);have HC:=Ya (show Xz (w.alloc (Wx T)) S'' (.slice D k E) cl by have:=Hhc.o.ext X0.o;rwa [Hnk.o]at this);go_enter Tryz.func255,Tryz.ntmps255;go_wp2_with (refine Xx rfl ?_);go_loopw [13] (fun o wr=>∃ i:Nat,i≤n∧o=.int .i64 (i:Int)∧Ext (w.alloc (Wx T)) wr) (fun o _=>n-(intOf o).toNat);case atStart=>exact⟨0,by omega,rfl,Yn _⟩
 obtain⟨i,hi_i,rfl,hx⟩:=hrel;have Hx:=Ya hx;clear hx;by_cases hlt:i<n
 ·obtain⟨hd_i,i0_i,i1_i⟩:=LTl i n (by omega);obtain⟨x,hs_x⟩:=geX (l:=(l)) (i:=i) (by have:=Hnn.o;omega);obtain⟨g_x,o_x,c_x,hvv,_,_,_,hgl_x,a0_x⟩:=(HL.o.ext Hx.o).get hs_x;simp only[Yg]at hvv;obtain⟨rfl,-,rfl⟩:=hvv;have Hs_x:=Ya hs_x;clear hs_x;go_wp2_with fail;have Hlt:=Ya hlt;have Hx1:=Ya Hx.o;clear Hx hlt a0_x hgl_x;go_loopw [19] (fun o wr=>∃ i:Nat,i≤k∧o=.int .i64 (i:Int)∧Ext (w.alloc (Wx T)) wr) (fun o _=>k-(intOf o).toNat);case atStart=>exact⟨0,by omega,rfl,Hx1.o⟩
  clear Hx1;obtain⟨j,hi_j,rfl,hx⟩:=hrel;have Hx:=Ya hx;clear hx;by_cases hlt:j<k
  ·obtain⟨hd_j,i0_j,i1_j⟩:=LTl j k (by omega);obtain⟨y,hs_y⟩:=geX (l:=(cl)) (i:=j) (by have:=Hnk.o;omega);obtain⟨g_y,o_y,c_y,hvv,_,_,_,hgl_y,a0_y⟩:=(HC.o.ext Hx.o).get hs_y;simp only[Yg]at hvv;obtain⟨rfl,-,rfl⟩:=hvv;have Hs_y:=Ya hs_y;clear hs_y;go_wp2_with (refine Y4 (Hb0.o.ext Hx.o) rfl ?_);refine(Pt T _ _ (H.o.up Hx.o)).mono ?_;rintro e w1 ⟨v1,rfl,hx1⟩;go_wp2_with fail;all_goals
    have hx:=Hx.o
    first
    | (go_roundw
       case rel=>exact⟨j+1,by omega,by go_num,(by repeat' first|exact Yn _|assumption|apply Ym|apply Yl|apply Yk|(refine Yj ?_ (by assumption)))⟩
       (simp[intOf];omega))
    | (go_ret;exact⟨_,rfl,X0.o.trans (by repeat' first|exact Yn _|assumption|apply Ym|apply Yl|apply Yk|(refine Yj ?_ (by assumption)))⟩)
  have hd_j:=GEl j k (by omega);have hlo:=Hlt.o;go_wp2_with fail;go_roundw;case rel=>exact⟨i+1,by omega,by go_num,Hx.o⟩
  (simp[intOf];omega)
 have hd_i:=GEl i n (by omega);go_wp2_with fail;all_goals
  have hx:=Hx.o
  first
  | (go_roundw
     case rel=>exact⟨i+1,by omega,by go_num,(by repeat' first|exact Yn _|assumption|apply Ym|apply Yl|apply Yk|(refine Yj ?_ (by assumption)))⟩
     (simp[intOf];omega))
  | (go_ret;exact⟨_,rfl,X0.o.trans (by repeat' first|exact Yn _|assumption|apply Ym|apply Yl|apply Yk|(refine Yj ?_ (by assumption)))⟩)
theorem Zn2{S S':Nat→Prop}(T:Tbl)(hf:Few T)(hu:Uq T)(v:Value)(l:List Int)(w:World)(h:Xi w S T)(hl:Xz w S' v l):Calls Tryz.prog 235 #[Vr T,v] w (V3 w):=by
 obtain⟨A,C,rfl,hlCC,hCC⟩:=hl.shape;obtain⟨n,hnn⟩:=gnX ((l).length);have Hnn:=Ya hnn;have Hhl:=Ya hl;unfold maxLen at hCC;rw[hnn]at hlCC⊢;clear hl hnn;have X0:=Ya ((Yn w).alloc (Wx T));have H:=Ya (h.up X0.o);have Hb0:=Ya (Xn w T);clear h;have HL:=Ya (show Xz (w.alloc (Wx T)) S' (.slice A n C) l by have:=Hhl.o.ext X0.o;rwa [Hnn.o]at this);have Hf:=Ya hf;have Hu:=Ya hu;clear hf hu;go_enter Tryz.func235,Tryz.ntmps235;go_wp2_with (first|(refine Xx rfl ?_)|(refine Y4 Hb0.o rfl ?_));refine(Vg T Hf.o Hu.o _ l _ H.o HL.o).mono ?_;rintro e w0 ⟨x,rfl,_,hx0⟩;by_cases h0:x=0
 ·subst h0;go_wp2_with (first|(refine Wn (Hb0.o.ext hx0) (by go_simp) rfl ?_)|(go_at_call 255;refine(Ut T _ l _ [1,2,3] _ (H.o.up (by repeat' first|exact Yn _|assumption|apply Ym|apply Yl|apply Yk|(refine Yj ?_ (by assumption)))) (HL.o.ext (by repeat' first|exact Yn _|assumption|apply Ym|apply Yl|apply Yk|(refine Yj ?_ (by assumption)))) (Wm _ _ [1,2,3] 3 rfl _ rfl (by omega))).mono ?_;rintro e w1 ⟨v1,rfl,hx1⟩));go_ret;exact⟨_,rfl,X0.o.trans (by repeat' first|exact Yn _|assumption|apply Ym|apply Yl|apply Yk|(refine Yj ?_ (by assumption)))⟩
 have h0b:(!(x==0))=true:=by simp[h0]
 have h0c:(x !=0)=true:=h0b;have h0d:(x==0)=false:=by simp[h0]
 have h0H:=Ya h0;clear h0;go_wp2_with fail;go_ret;exact⟨_,rfl,X0.o.trans hx0⟩
theorem Zq9{S S':Nat→Prop}(T:Tbl)(hf:Few T)(hu:Uq T)(v:Value)(l:List Int)(w:World)(h:Xi w S T)(hl:Xz w S' v l):Calls Tryz.prog 236 #[Vr T,v] w (Ea w):=by
 obtain⟨A,C,rfl,hlCC,hCC⟩:=hl.shape;obtain⟨n,hnn⟩:=gnX ((l).length);have Hnn:=Ya hnn;have Hhl:=Ya hl;unfold maxLen at hCC;rw[hnn]at hlCC⊢;clear hl hnn;have X0:=Ya ((Yn w).alloc (Wx T));have H:=Ya (h.up X0.o);have Hb0:=Ya (Xn w T);clear h;have HL:=Ya (show Xz (w.alloc (Wx T)) S' (.slice A n C) l by have:=Hhl.o.ext X0.o;rwa [Hnn.o]at this);have Hf:=Ya hf;have Hu:=Ya hu;clear hf hu;go_enter Tryz.func236,Tryz.ntmps236;go_wp2_with (first|(refine Xx rfl ?_)|(refine Y4 Hb0.o rfl ?_));refine(Vg T Hf.o Hu.o _ l _ H.o HL.o).mono ?_;rintro e w0 ⟨x,rfl,_,hx0⟩;by_cases h0:x=0
 ·subst h0;by_cases hn0:n=0
  ·have hn1:((n:Int)==0)=true:=by simp[hn0]
   have hn2:(n==0)=true:=by simp[hn0]
   go_wp2_with fail;go_ret2;exact⟨_,_,rfl,X0.o.trans hx0⟩
  have hn1:((n:Int)==0)=false:=by simp;omega
  have hn2:(n==0)=false:=by simp;omega
  have hn3:0<n:=by omega
  have i0:(0:Int)<(n:Int):=by omega
  go_wp2_with (refine Y4 (Hb0.o.ext hx0) rfl ?_);refine(last_any T _ l _ (H.o.up hx0) (HL.o.ext hx0)).mono ?_;rintro e w2 ⟨z,rfl,hx2⟩;have Hx:=Ya (hx0.trans hx2);have hlt:0<n:=hn3;obtain⟨c,hs_c⟩:=geX (l:=(l)) (i:=0) (by have:=Hnn.o;omega);obtain⟨g_c,o_c,c_c,hvv,_,_,_,hgl_c,a0_c⟩:=(HL.o.ext Hx.o).get hs_c;simp only[Yg]at hvv;obtain⟨rfl,-,rfl⟩:=hvv;have Hs_c:=Ya hs_c;clear hs_c;clear hx0 hx2;rw[Zko]at a0_c;have z0:(w2).cell? ⟨w.heap.size,0,none⟩=some T.catV:=(Hb0.o.ext Hx.o).at_ 0 (by omega);have z1:(w2).cell? ⟨w.heap.size,1,none⟩=some T.clsV:=(Hb0.o.ext Hx.o).at_ 1 (by omega);have z2:(w2).cell? ⟨w.heap.size,2,none⟩=some T.joiV:=(Hb0.o.ext Hx.o).at_ 2 (by omega);have z3:(w2).cell? ⟨w.heap.size,3,none⟩=some T.bidV:=(Hb0.o.ext Hx.o).at_ 3 (by omega);have z4:(w2).cell? ⟨w.heap.size,4,none⟩=some T.scrV:=(Hb0.o.ext Hx.o).at_ 4 (by omega);have z5:(w2).cell? ⟨w.heap.size,5,none⟩=some T.staV:=(Hb0.o.ext Hx.o).at_ 5 (by omega);have z6:(w2).cell? ⟨w.heap.size,6,none⟩=some T.ignV:=(Hb0.o.ext Hx.o).at_ 6 (by omega);have z7:(w2).cell? ⟨w.heap.size,7,none⟩=some T.extV:=(Hb0.o.ext Hx.o).at_ 7 (by omega);have z8:(w2).cell? ⟨w.heap.size,8,none⟩=some T.mapV:=(Hb0.o.ext Hx.o).at_ 8 (by omega);have z9:(w2).cell? ⟨w.heap.size,9,none⟩=some T.decV:=(Hb0.o.ext Hx.o).at_ 9 (by omega);have z10:(w2).cell? ⟨w.heap.size,10,none⟩=some T.excV:=(Hb0.o.ext Hx.o).at_ 10 (by omega);have z11:(w2).cell? ⟨w.heap.size,11,none⟩=some T.proV:=(Hb0.o.ext Hx.o).at_ 11 (by omega);go_wp2_with fail;go_cut [26] from 22 to 26 (fun o wx=>∃ b:Int,o=.int .i64 b∧Ext w2 wx)
  case first =>
   rename_i J1 K1 hJ hM;go_region_with (go_at_call 257;refine(Pt T _ _ (H.o.up (have hx:=Hx.o;(by repeat' first|exact Yn _|assumption|apply Ym|apply Yl|apply Yk|(refine Yj ?_ (by assumption)))))).mono ?_;rintro e w3 ⟨b,rfl,hx3⟩);all_goals
    go_simp;refine hM _ _ (hJ _ _ ?_);(repeat apply Exists.intro)
    exact⟨⟨b,rfl,by first|exact hx3|exact(Yn _).drew.trans hx3|exact((Yn _).drewN _).trans hx3⟩,rfl⟩
  obtain⟨b,rfl,hxb⟩:=hcut;have hx:=Hx.o.trans hxb;clear z0 z1 z2 z3 z4 z5 z6 z7 z8 z9 z10 z11 a0_c hxb;by_cases b1:b=1
  ·subst b1;go_wp2_with (refine Y4 (Hb0.o.ext hx) rfl ?_);refine(Ut T _ l _ [0,11] _ (H.o.up (by repeat' first|exact Yn _|assumption|apply Ym|apply Yl|apply Yk|(refine Yj ?_ (by assumption)))) (HL.o.ext (by repeat' first|exact Yn _|assumption|apply Ym|apply Yl|apply Yk|(refine Yj ?_ (by assumption)))) (Wm _ _ [0,11] 2 rfl _ rfl (by omega))).mono ?_;rintro e w4 ⟨b4,rfl,hx4⟩;have hx':Ext (w.alloc (Wx T)) w4:=(by repeat' first|exact Yn _|assumption|apply Ym|apply Yl|apply Yk|(refine Yj ?_ (by assumption)));cases b4 with
   | true =>
    go_wp2_with fail;go_ret2;exact⟨_,_,rfl,X0.o.trans hx'⟩
   | false =>
    clear hx4;go_upto_region 10 with fail;go_cut [35] from 36 to 49 (fun o wx=>∃ q:Bool,o=.bool q∧wx=w4)
    case first =>
     cases a1:(z !=1)<;>cases a2:(z !=2)<;>cases a4:(z !=4)<;>cases a3:(z !=3)
     all_goals
      go_wp2_with fail;go_meet;exact⟨_,rfl,rfl⟩
    obtain⟨q,rfl,rfl⟩:=hcut;cases q with
    | true =>
     go_wp2_with fail;go_ret2;exact⟨_,_,rfl,X0.o.trans hx'⟩
    | false =>
     go_wp2_with (refine Y4 (Hb0.o.ext hx') rfl ?_);clear hx;refine(Ut T _ l _ [4] _ (H.o.up (by repeat' first|exact Yn _|assumption|apply Ym|apply Yl|apply Yk|(refine Yj ?_ (by assumption)))) (HL.o.ext (by repeat' first|exact Yn _|assumption|apply Ym|apply Yl|apply Yk|(refine Yj ?_ (by assumption)))) (Wm _ _ [4] 1 rfl _ rfl (by omega))).mono ?_;rintro e w5 ⟨b5,rfl,hx5⟩;have hx'':Ext (w.alloc (Wx T)) w5:=(by repeat' first|exact Yn _|assumption|apply Ym|apply Yl|apply Yk|(refine Yj ?_ (by assumption)));clear hx' hx5;cases b5 with
     | false =>
      go_wp2_with fail;go_ret2;exact⟨_,_,rfl,X0.o.trans hx''⟩
     | true =>
      go_wp2_with (refine Wn (Hb0.o.ext hx'') (by go_simp) rfl ?_);refine(Ut T _ l _ [3] _ (H.o.up (by repeat' first|exact Yn _|assumption|apply Ym|apply Yl|apply Yk|(refine Yj ?_ (by assumption)))) (HL.o.ext (by repeat' first|exact Yn _|assumption|apply Ym|apply Yl|apply Yk|(refine Yj ?_ (by assumption)))) (Wm _ _ [3] 1 rfl _ rfl (by omega))).mono ?_;rintro e w6 ⟨b6,rfl,hx6⟩;have hx3':Ext (w.alloc (Wx T)) w6:=(by repeat' first|exact Yn _|assumption|apply Ym|apply Yl|apply Yk|(refine Yj ?_ (by assumption)));clear hx'' hx6;go_wp2_with fail;all_goals
       go_ret2;exact⟨_,_,rfl,X0.o.trans hx3'⟩
  have b1b:(b==1)=false:=by simp[b1]
  by_cases b2:b=2
  ·subst b2;go_wp2_with (refine Y4 (Hb0.o.ext hx) rfl ?_);refine(Ut T _ l _ [0,11] _ (H.o.up (by repeat' first|exact Yn _|assumption|apply Ym|apply Yl|apply Yk|(refine Yj ?_ (by assumption)))) (HL.o.ext (by repeat' first|exact Yn _|assumption|apply Ym|apply Yl|apply Yk|(refine Yj ?_ (by assumption)))) (Wm _ _ [0,11] 2 rfl _ rfl (by omega))).mono ?_;rintro e w4 ⟨b4,rfl,hx4⟩;have hx':Ext (w.alloc (Wx T)) w4:=(by repeat' first|exact Yn _|assumption|apply Ym|apply Yl|apply Yk|(refine Yj ?_ (by assumption)));cases b4 with
   | true =>
    go_wp2_with fail;go_ret2;exact⟨_,_,rfl,X0.o.trans hx'⟩
   | false =>
    clear hx4;go_upto_region 10 with fail;go_cut [35] from 36 to 49 (fun o wx=>∃ q:Bool,o=.bool q∧wx=w4)
    case first =>
     cases a1:(z !=1)<;>cases a2:(z !=2)<;>cases a4:(z !=4)<;>cases a3:(z !=3)
     all_goals
      go_wp2_with fail;go_meet;exact⟨_,rfl,rfl⟩
    obtain⟨q,rfl,rfl⟩:=hcut;cases q with
    | true =>
     go_wp2_with fail;go_ret2;exact⟨_,_,rfl,X0.o.trans hx'⟩
    | false =>
     go_wp2_with (refine Y4 (Hb0.o.ext hx') rfl ?_);clear hx;refine(Ut T _ l _ [4] _ (H.o.up (by repeat' first|exact Yn _|assumption|apply Ym|apply Yl|apply Yk|(refine Yj ?_ (by assumption)))) (HL.o.ext (by repeat' first|exact Yn _|assumption|apply Ym|apply Yl|apply Yk|(refine Yj ?_ (by assumption)))) (Wm _ _ [4] 1 rfl _ rfl (by omega))).mono ?_;rintro e w5 ⟨b5,rfl,hx5⟩;have hx'':Ext (w.alloc (Wx T)) w5:=(by repeat' first|exact Yn _|assumption|apply Ym|apply Yl|apply Yk|(refine Yj ?_ (by assumption)));clear hx' hx5;cases b5 with
     | false =>
      go_wp2_with fail;go_ret2;exact⟨_,_,rfl,X0.o.trans hx''⟩
     | true =>
      go_wp2_with (refine Wn (Hb0.o.ext hx'') (by go_simp) rfl ?_);refine(Ut T _ l _ [3] _ (H.o.up (by repeat' first|exact Yn _|assumption|apply Ym|apply Yl|apply Yk|(refine Yj ?_ (by assumption)))) (HL.o.ext (by repeat' first|exact Yn _|assumption|apply Ym|apply Yl|apply Yk|(refine Yj ?_ (by assumption)))) (Wm _ _ [3] 1 rfl _ rfl (by omega))).mono ?_;rintro e w6 ⟨b6,rfl,hx6⟩;have hx3':Ext (w.alloc (Wx T)) w6:=(by repeat' first|exact Yn _|assumption|apply Ym|apply Yl|apply Yk|(refine Yj ?_ (by assumption)));clear hx'' hx6;go_wp2_with fail;all_goals
       go_ret2;exact⟨_,_,rfl,X0.o.trans hx3'⟩
  have b2b:(b==2)=false:=by simp[b2]
  by_cases b3:b=0
  ·subst b3;go_wp2_with (refine Y4 (Hb0.o.ext hx) rfl ?_);refine(Ut T _ l _ [1,2,3,11] _ (H.o.up (by repeat' first|exact Yn _|assumption|apply Ym|apply Yl|apply Yk|(refine Yj ?_ (by assumption)))) (HL.o.ext (by repeat' first|exact Yn _|assumption|apply Ym|apply Yl|apply Yk|(refine Yj ?_ (by assumption)))) (Wm _ _ [1,2,3,11] 4 rfl _ rfl (by omega))).mono ?_;rintro e w4 ⟨b4,rfl,hx4⟩;have hx':Ext (w.alloc (Wx T)) w4:=(by repeat' first|exact Yn _|assumption|apply Ym|apply Yl|apply Yk|(refine Yj ?_ (by assumption)));clear hx4 hx;go_wp2_with fail;all_goals
    go_ret2;exact⟨_,_,rfl,X0.o.trans hx'⟩
  have b3b:(b==0)=false:=by simp[b3]
  go_wp2_with fail;go_ret2;exact⟨_,_,rfl,X0.o.trans hx⟩
 have h0b:(!(x==0))=true:=by simp[h0]
 have h0c:(x !=0)=true:=h0b;have h0d:(x==0)=false:=by simp[h0]
 have h0H:=Ya h0;clear h0;go_wp2_with fail;go_ret2;exact⟨_,_,rfl,X0.o.trans hx0⟩
theorem Ci{S:Nat→Prop}(v:Value)(l:List Int)(w:World)(h:Xz w S v l):Calls Tryz.prog 231 #[v] w (V3 w):=by
 obtain⟨A,C,rfl,hlCC,hCC⟩:=h.shape;obtain⟨n,hnn⟩:=gnX ((l).length);have Hnn:=Ya hnn;have Hh:=Ya h;unfold maxLen at hCC;rw[hnn]at hlCC⊢;clear h hnn;have HI:=Ya (show Xz w S (.slice A n C) l by have:=Hh.o;rwa [Hnn.o]at this);go_enter Tryz.func231,Tryz.ntmps231;go_wp2_with (go_at_call 252;refine(Zph _ l _ _ (HI.o.ext (by repeat' first|exact Yn _|assumption|apply Ym|apply Yl|apply Yk|(refine Yj ?_ (by assumption))))).mono ?_;rintro e w1 ⟨v1,rfl,hx1⟩);all_goals
  go_ret;exact⟨_,rfl,(by repeat' first|exact Yn _|assumption|apply Ym|apply Yl|apply Yk|(refine Yj ?_ (by assumption)))⟩
theorem Zxa{S:Nat→Prop}(T:Tbl)(hf:Few T)(hu:Uq T)(v:Value)(ls:List (List Int))(w:World)(h:Xi w S T)(hl:Zxn w v ls):Calls Tryz.prog 216 #[Vr T,v] w (Ea w):=by
 obtain⟨A,C,rfl,hlC,hC⟩:=hl.shape;obtain⟨n,hnn⟩:=gnX (ls.length);have Hh:=Ya hl;rw[hnn]at hlC⊢;have Hnn:=Ya hnn;unfold maxLen at hC;clear hl hnn;have X0:=Ya ((Yn w).alloc (Wx T));have H:=Ya (h.up X0.o);have Hb0:=Ya (Xn w T);clear h;have Hf:=Ya hf;have Hu:=Ya hu;clear hf hu;go_enter Tryz.func216,Tryz.ntmps216;go_wp2_with (refine Xx rfl ?_);go_loopw [16,6] (fun o b wr=>∃ (i:Nat) (q:Bool),i≤n∧o=.int .i64 (i:Int)∧b=.bool q∧Ext (w.alloc (Wx T)) wr) (fun o _ _=>n-(intOf o).toNat);case atStart=>exact⟨0,false,by omega,rfl,rfl,Yn _⟩
 obtain⟨i,q,hi,rfl,rfl,hx⟩:=hrel;have Hx:=Ya hx;clear hx;by_cases hlt:i<n
 ·obtain⟨hd_i,i0_i,i1_i⟩:=LTl i n (by omega);obtain⟨x,hx0⟩:=geX (l:=ls) (i:=i) (by rw[Hnn.o];exact hlt);obtain⟨g,o,c,u,hv,_,_,hg,c0,hxu⟩:=(Hh.o.ext X0.o).get hx0;simp only[Yg]at hv;obtain⟨rfl,-,rfl⟩:=hv;replace c0:=(Hx.o.cell (p:=⟨g,o+i,none⟩) hg).trans c0;have Hxu:=Ya hxu;have Hx0:=Ya hx0;clear hxu hx0;go_wp2_with (refine Y4 (Hb0.o.ext Hx.o) rfl ?_);refine(Vg T Hf.o Hu.o _ x _ (H.o.up Hx.o) (Hxu.o.ext Hx.o)).mono ?_;rintro e w1 ⟨y,rfl,_,hx1⟩;have Hx1:=Ya (Hx.o.trans hx1);clear hx1;by_cases h0:y=0
  ·subst h0;cases q with
   | true =>
    go_wp2_with fail;go_roundw;case rel=>exact⟨i+1,true,by omega,by go_num,rfl,Hx1.o⟩
    (simp[intOf];omega)
   | false =>
    go_wp2_with (refine Wn (Hb0.o.ext Hx1.o) (by go_simp) rfl ?_);refine(Zn2 T Hf.o Hu.o _ x _ (H.o.up Hx1.o) (Hxu.o.ext Hx1.o)).mono ?_;rintro e w2 ⟨q2,rfl,hx2⟩;go_wp2_with fail;go_roundw;case rel=>exact⟨i+1,q2,by omega,by go_num,rfl,Hx1.o.trans hx2⟩
    (simp[intOf];omega)
  have h0b:(!(y==0))=true:=by simp[h0]
  have h0c:(y !=0)=true:=h0b;have h0d:(y==0)=false:=by simp[h0]
  have h0H:=Ya h0;clear h0;go_wp2_with fail;go_ret2;exact⟨_,_,rfl,X0.o.trans Hx1.o⟩
 have hd_i:=GEl i n (by omega);go_wp2_with fail;have Hx1:=Ya Hx.o;clear Hx hlt hi hd_i;go_loopw [37] (fun o wr=>∃ i:Nat,i≤n∧o=.int .i64 (i:Int)∧Ext (w.alloc (Wx T)) wr) (fun o _=>n-(intOf o).toNat);case atStart=>exact⟨0,by omega,rfl,Hx1.o⟩
 clear Hx1;obtain⟨i,hi_i,rfl,hx⟩:=hrel;have Hx:=Ya hx;clear hx;by_cases hlt:i<n
 ·obtain⟨hd_i,i0_i,i1_i⟩:=LTl i n (by omega);obtain⟨x,hx0⟩:=geX (l:=ls) (i:=i) (by rw[Hnn.o];exact hlt);obtain⟨g,o,c,u,hv,_,_,hg,c0,hxu⟩:=(Hh.o.ext X0.o).get hx0;simp only[Yg]at hv;obtain⟨rfl,-,rfl⟩:=hv;replace c0:=(Hx.o.cell (p:=⟨g,o+i,none⟩) hg).trans c0;have Hxu:=Ya hxu;have Hx0:=Ya hx0;clear hxu hx0;go_wp2_with (refine Y4 (Hb0.o.ext Hx.o) rfl ?_);refine(Zq9 T Hf.o Hu.o _ x _ (H.o.up Hx.o) (Hxu.o.ext Hx.o)).mono ?_;rintro e w1 ⟨y,z,rfl,hx1⟩;cases q
  ·go_wp2_with fail;go_roundw;case rel=>exact⟨i+1,by omega,by go_num,Hx.o.trans hx1⟩
   (simp[intOf];omega)
  go_wp2_with fail;all_goals
   first
   | (go_roundw
      case rel=>exact⟨i+1,by omega,by go_num,Hx.o.trans hx1⟩
      (simp[intOf];omega))
   | (go_ret2;exact⟨_,_,rfl,X0.o.trans (Hx.o.trans hx1)⟩)
 have hd_i:=GEl i n (by omega);go_wp2_with fail;go_ret2;exact⟨_,_,rfl,X0.o.trans Hx.o⟩
theorem Gg{S S':Nat→Prop}(T:Tbl)(hf:Few T)(hu:Uq T)(v:Value)(l:List Int)(j:Nat)(w:World)(h:Xi w S T)(hl:Xz w S' v l)(hj:j<l.length)(hb:l.length≤100000):Calls Tryz.prog 254 #[Vr T,v,.int .i64 (j:Int)] w (V3 w):=by
 obtain⟨A,C,rfl,hlCC,hCC⟩:=hl.shape;obtain⟨n,hnn⟩:=gnX ((l).length);have Hnn:=Ya hnn;have Hhl:=Ya hl;unfold maxLen at hCC;rw[hnn]at hlCC⊢;clear hl hnn;have X0:=Ya ((Yn w).alloc (Wx T));have H:=Ya (h.up X0.o);have Hb0:=Ya (Xn w T);clear h;have HL:=Ya (show Xz (w.alloc (Wx T)) S' (.slice A n C) l by have:=Hhl.o.ext X0.o;rwa [Hnn.o]at this);have Hf:=Ya hf;have Hu:=Ya hu;clear hf hu;rw[Hnn.o]at hj hb;have d0:decide ((j:Int)<0)=false:=Yi (by omega);have d1:decide ((n:Int)≤(j:Int))=false:=Yi (by omega);have d1n:¬ n≤j:=by omega
 go_enter Tryz.func254,Tryz.ntmps254;go_wp2_with (first|(refine Xx rfl ?_)|(refine Wn Hb0.o (by go_simp) rfl ?_));refine(Vg T Hf.o Hu.o _ l _ H.o HL.o).mono ?_;rintro e w1 ⟨x,rfl,_,hx1⟩;have Hx:=Ya hx1;clear hx1;by_cases h0:x=0
 ·subst h0;have i0:(0:Int)≤(j:Int):=by omega
  have i1:(j:Int)<(n:Int):=by omega
  obtain⟨c,hs_c⟩:=geX (l:=(l)) (i:=j) (by have:=Hnn.o;omega);obtain⟨g_c,o_c,c_c,hvv,_,_,_,hgl_c,a0_c⟩:=(HL.o.ext Hx.o).get hs_c;simp only[Yg]at hvv;obtain⟨rfl,-,rfl⟩:=hvv;have Hs_c:=Ya hs_c;clear hs_c;have hx:=Hx.o;by_cases c1:c=183
  ·subst c1;go_wp2_with (first|(refine Y4 (Hb0.o.ext Hx.o) rfl ?_)|(go_at_call 252;refine(Zph _ l _ _ (HL.o.ext (by repeat' first|exact Yn _|assumption|apply Ym|apply Yl|apply Yk|(refine Yj ?_ (by assumption))))).mono ?_;rintro e w4 ⟨v4,rfl,hx4⟩));all_goals
    go_ret;exact⟨_,rfl,X0.o.trans (by repeat' first|exact Yn _|assumption|apply Ym|apply Yl|apply Yk|(refine Yj ?_ (by assumption)))⟩
  have f1:(c==183)=false:=by simp[c1]
  by_cases c2:c=885
  ·subst c2;have s1:IntKind.i64.wrap ((j:Int)+1)=(j:Int)+1:=Yr _ (by omega);have s0:(0:Int)≤(j:Int)+1:=by omega
   by_cases hjn:j+1<n
   ·have e1:decide ((j:Int)+1<(n:Int))=true:=Yh (by omega);have s2:(j:Int)+1<(n:Int):=by omega
    obtain⟨y,hy0⟩:=geX (l:=l) (i:=j+1) (by rw[Hnn.o];omega);obtain⟨g3,o3,c3,hv3,_,_,_,_,cy⟩:=(HL.o.ext Hx.o).get hy0;simp only[Yg,Yf,Zld,Zl2,Zks]at hv3;obtain⟨⟨rfl,rfl⟩,-,rfl⟩:=hv3;have my:=lat cy;have HW:=Ya (H.o.up Hx.o);have hC:∀ w',(∃ p:Wf,w'=later w1 p.n p.os)→Ja w' w.heap.size T:=fun w' ⟨p,e⟩=>by rw[e];exact(Hb0.o.ext Hx.o).ext (⟨_,_,rfl⟩)
    go_wp2_with fail;have hun:=Yd;refine Y0 (by kernel_rfl) (by kernel_rfl) ?_;repeat(first|((with_reducible refine Xh ?_ ?_ hC ?_);(focus(go_simp;done));rfl)|((with_reducible refine Yw ?_);intro K hK;go_simp;first|((with_reducible refine hK _ ?_);clear hK K)|(apply Exists.intro;refine⟨fun _=>?_,hK _ ?_⟩;(go_at_call 239;exact Y8 (Kk T _ _ (HW.o.up (⟨_,_,rfl⟩))));clear hK K)))
    (with_reducible refine Yv ?_)
    intro w3 hx3;clear hun;try simp only[Ye]
    go_wp2_with fail;go_ret;exact⟨_,rfl,X0.o.trans (Hx.o.trans hx3)⟩
   have e1:decide ((j:Int)+1<(n:Int))=false:=Yi (by omega);have HW:=Ya (H.o.up Hx.o);have hC:∀ w',(∃ p:Wf,w'=later w1 p.n p.os)→Ja w' w.heap.size T:=fun w' ⟨p,e⟩=>by rw[e];exact(Hb0.o.ext Hx.o).ext (⟨_,_,rfl⟩)
   go_wp2_with fail;have hun:=Yd;refine Y0 (by kernel_rfl) (by kernel_rfl) ?_;repeat(first|((with_reducible refine Xh ?_ ?_ hC ?_);(focus(go_simp;done));rfl)|((with_reducible refine Yw ?_);intro K hK;go_simp;first|((with_reducible refine hK _ ?_);clear hK K)|(apply Exists.intro;refine⟨fun _=>?_,hK _ ?_⟩;(go_at_call 239;exact Y8 (Kk T _ _ (HW.o.up (⟨_,_,rfl⟩))));clear hK K)))
   (with_reducible refine Yv ?_)
   intro w3 hx3;clear hun;try simp only[Ye]
   go_wp2_with fail;go_ret;exact⟨_,rfl,X0.o.trans (Hx.o.trans hx3)⟩
  have f2:(c==885)=false:=by simp[c2]
  by_cases c3:c=1523∨c=1524
  ·have hcc:(c==1523)=true∨((c==1523)=false∧(c==1524)=true):=by
    rcases c3 with rfl|rfl
    ·exact .inl rfl
    exact .inr ⟨rfl,rfl⟩
   clear c1 c2 c3;by_cases hj0:0<j
   ·have k0:decide ((0:Int)<(j:Int))=true:=Yh (by omega);have k1:decide (0<j)=true:=Yh hj0;have r1:=Vu j (by omega) (by omega);obtain⟨jp,hjp⟩:=gnX (j-1);rw[hjp]at r1;have i2:(0:Int)≤(jp:Int):=by omega
    have i3:(jp:Int)<(n:Int):=by omega
    have i4:jp<n:=by omega
    obtain⟨y,hy0⟩:=geX (l:=l) (i:=jp) (by rw[Hnn.o];omega);obtain⟨g3,o3,c3,hv3,_,_,_,_,cy⟩:=(HL.o.ext Hx.o).get hy0;simp only[Yg,Yf,Zld,Zl2,Zks]at hv3;obtain⟨⟨rfl,rfl⟩,-,rfl⟩:=hv3;have my:=lat cy;clear hjp;rcases hcc with h1 | ⟨h1,h2⟩
    ·have HW:=Ya (H.o.up Hx.o);have hC:∀ w',(∃ p:Wf,w'=later w1 p.n p.os)→Ja w' w.heap.size T:=fun w' ⟨p,e⟩=>by rw[e];exact(Hb0.o.ext Hx.o).ext (⟨_,_,rfl⟩)
     go_wp2_with fail;have hun:=Yd;refine Y0 (by kernel_rfl) (by kernel_rfl) ?_;repeat(first|((with_reducible refine Xh ?_ ?_ hC ?_);(focus(go_simp;done));rfl)|((with_reducible refine Yw ?_);intro K hK;go_simp;first|((with_reducible refine hK _ ?_);clear hK K)|(apply Exists.intro;refine⟨fun _=>?_,hK _ ?_⟩;(go_at_call 239;exact Y8 (Kk T _ _ (HW.o.up (⟨_,_,rfl⟩))));clear hK K)))
     (with_reducible refine Yv ?_)
     intro w3 hx3;clear hun;try simp only[Ye]
     go_wp2_with fail;go_ret;exact⟨_,rfl,X0.o.trans (Hx.o.trans hx3)⟩
    have HW:=Ya (H.o.up Hx.o);have hC:∀ w',(∃ p:Wf,w'=later w1 p.n p.os)→Ja w' w.heap.size T:=fun w' ⟨p,e⟩=>by rw[e];exact(Hb0.o.ext Hx.o).ext (⟨_,_,rfl⟩)
    go_wp2_with fail;have hun:=Yd;refine Y0 (by kernel_rfl) (by kernel_rfl) ?_;repeat(first|((with_reducible refine Xh ?_ ?_ hC ?_);(focus(go_simp;done));rfl)|((with_reducible refine Yw ?_);intro K hK;go_simp;first|((with_reducible refine hK _ ?_);clear hK K)|(apply Exists.intro;refine⟨fun _=>?_,hK _ ?_⟩;(go_at_call 239;exact Y8 (Kk T _ _ (HW.o.up (⟨_,_,rfl⟩))));clear hK K)))
    (with_reducible refine Yv ?_)
    intro w3 hx3;clear hun;try simp only[Ye]
    go_wp2_with fail;go_ret;exact⟨_,rfl,X0.o.trans (Hx.o.trans hx3)⟩
   have k0:decide ((0:Int)<(j:Int))=false:=Yi (by omega);have k1:decide (0<j)=false:=Yi hj0;rcases hcc with h1 | ⟨h1,h2⟩
   ·have HW:=Ya (H.o.up Hx.o);have hC:∀ w',(∃ p:Wf,w'=later w1 p.n p.os)→Ja w' w.heap.size T:=fun w' ⟨p,e⟩=>by rw[e];exact(Hb0.o.ext Hx.o).ext (⟨_,_,rfl⟩)
    go_wp2_with fail;have hun:=Yd;refine Y0 (by kernel_rfl) (by kernel_rfl) ?_;repeat(first|((with_reducible refine Xh ?_ ?_ hC ?_);(focus(go_simp;done));rfl)|((with_reducible refine Yw ?_);intro K hK;go_simp;first|((with_reducible refine hK _ ?_);clear hK K)|(apply Exists.intro;refine⟨fun _=>?_,hK _ ?_⟩;(go_at_call 239;exact Y8 (Kk T _ _ (HW.o.up (⟨_,_,rfl⟩))));clear hK K)))
    (with_reducible refine Yv ?_)
    intro w3 hx3;clear hun;try simp only[Ye]
    go_wp2_with fail;go_ret;exact⟨_,rfl,X0.o.trans (Hx.o.trans hx3)⟩
   have HW:=Ya (H.o.up Hx.o);have hC:∀ w',(∃ p:Wf,w'=later w1 p.n p.os)→Ja w' w.heap.size T:=fun w' ⟨p,e⟩=>by rw[e];exact(Hb0.o.ext Hx.o).ext (⟨_,_,rfl⟩)
   go_wp2_with fail;have hun:=Yd;refine Y0 (by kernel_rfl) (by kernel_rfl) ?_;repeat(first|((with_reducible refine Xh ?_ ?_ hC ?_);(focus(go_simp;done));rfl)|((with_reducible refine Yw ?_);intro K hK;go_simp;first|((with_reducible refine hK _ ?_);clear hK K)|(apply Exists.intro;refine⟨fun _=>?_,hK _ ?_⟩;(go_at_call 239;exact Y8 (Kk T _ _ (HW.o.up (⟨_,_,rfl⟩))));clear hK K)))
   (with_reducible refine Yv ?_)
   intro w3 hx3;clear hun;try simp only[Ye]
   go_wp2_with fail;go_ret;exact⟨_,rfl,X0.o.trans (Hx.o.trans hx3)⟩
  have f3:(c==1523)=false:=by simp;omega
  have f4:(c==1524)=false:=by simp;omega
  clear c3;by_cases c5:c=12539
  ·subst c5;go_wp2_with (first|(refine Y4 (Hb0.o.ext Hx.o) rfl ?_)|(go_at_call 267;refine(Zqu T _ l _ (H.o.up Hx.o) (HL.o.ext Hx.o)).mono ?_;rintro e w2 ⟨q,rfl,hx2⟩));go_ret;exact⟨_,rfl,X0.o.trans (by repeat' first|exact Yn _|assumption|apply Ym|apply Yl|apply Yk|(refine Yj ?_ (by assumption)))⟩
  have f5:(c==12539)=false:=by simp[c5]
  clear c1 c2 c5;cases b1:inB c 1632 1641
  ·cases b2:inB c 1776 1785
   all_goals
    go_wp2_with (first|(go_at_call 268;refine(Zyk _ _ _ _).mono ?_;rintro e w' ⟨rfl,rfl⟩;first|rw[b1]|rw[b2])|(go_at_call 269;refine(Zxw _ l _ _ _ (HL.o.ext (by repeat' first|exact Yn _|assumption|apply Ym|apply Yl|apply Yk|(refine Yj ?_ (by assumption))))).mono ?_;rintro e w2 ⟨q,rfl,hx2⟩));go_ret;exact⟨_,rfl,X0.o.trans (by repeat' first|exact Yn _|assumption|apply Ym|apply Yl|apply Yk|(refine Yj ?_ (by assumption)))⟩
  go_wp2_with (first|(go_at_call 268;refine(Zyk _ _ _ _).mono ?_;rintro e w' ⟨rfl,rfl⟩;first|rw[b1]|rw[b2])|(go_at_call 269;refine(Zxw _ l _ _ _ (HL.o.ext (by repeat' first|exact Yn _|assumption|apply Ym|apply Yl|apply Yk|(refine Yj ?_ (by assumption))))).mono ?_;rintro e w2 ⟨q,rfl,hx2⟩));go_ret;exact⟨_,rfl,X0.o.trans (by repeat' first|exact Yn _|assumption|apply Ym|apply Yl|apply Yk|(refine Yj ?_ (by assumption)))⟩
 have h0b:(!(x==0))=true:=by simp[h0]
 have h0c:(x !=0)=true:=h0b;have h0d:(x==0)=false:=by simp[h0]
 have h0H:=Ya h0;clear h0;go_wp2_with fail;go_ret;exact⟨_,rfl,X0.o.trans Hx.o⟩
end Go.Proofs.YtnbclgbicnpmnaaGreat
