/- Lemmas of this claim: RW, RY, RZ, Rc, RX2, RX3, Rd2. Conditions: as named. -/
import Derived.Test.YtnbclgbicnpmnaaGreatA14
import Derived.Test.YtnbclgbicnpmnaaGreatA15
import Derived.Test.YtnbclgbicnpmnaaGreatA16
namespace Go.Proofs.YtnbclgbicnpmnaaGreat
open Go.RowKit Go.Sort
open List renaming getElem?_eq_getElem → Zz
open Lib renaming hid → Yw
open Go renaming wpQuiet_step → Yv, wpQuiet_nil → Yu
open IntWalk renaming i64_in → Yq
open Ext renaming refl → Yl, alloc → Yk, drewN → Yj, drew → Yi, trans → Yh
set_option maxHeartbeats 40000000
set_option maxRecDepth 100000
set_option linter.all false
theorem Zrp {S S':Nat→Prop} (T:Tbl) (v:Value) (l:List Int) (w:World) (h:Xm w S T) (hl:Xz w S' v l):Calls Tryz.prog 267 #[Wc T,v] w (Vi w):=by
 obtain ⟨A,C,rfl,hlCC,hCC⟩:=hl.shape
 obtain ⟨n,hnn⟩:∃ n,(l).length=n:=⟨_,rfl⟩
 have Hnn:=Yw hnn
 have Hhl:=Yw hl
 unfold maxLen at hCC
 rw [hnn] at hlCC ⊢
 clear hl hnn
 have X0:=Yw ((Yl w).alloc (Xf T))
 have H:=Yw (h.up X0.out)
 have Hb0:=Yw (Xq w T)
 clear h
 have HL:=Yw (show Xz (w.alloc (Xf T)) S' (.slice A n C) l by have:=Hhl.out.ext X0.out;rwa [Hnn.out] at this)
 go_enter Tryz.func267,Tryz.ntmps267
 go_wp2_with (refine Xy rfl ?_)
 go_loopw [10] (fun o wr=>∃ i:Nat,i≤n∧o=.int .i64 (i:Int)∧Ext (w.alloc (Xf T)) wr) (fun o _=>n - (intOf o).toNat)
 case atStart=>exact ⟨0,by omega,rfl,Yl _⟩
 obtain ⟨i,hi_i,rfl,hx⟩:=hrel
 have Hx:=Yw hx
 clear hx
 by_cases hlt:i < n
 ·have hd_i:decide ((i:Int) < (n:Int))=true:=Yf (by omega)
  have i0_i:(0:Int)≤(i:Int):=by omega
  have i1_i:(i:Int) < (n:Int):=by omega
  obtain ⟨x,hs_x⟩:∃ s,(l)[i]?=some s:=⟨(l)[i]'(by have:=Hnn.out;omega),Zz _⟩
  obtain ⟨g_x,o_x,c_x,hvv,_,_,_,hgl_x,a0_x⟩:=(HL.out.ext Hx.out).get hs_x
  simp only [Ye] at hvv
  obtain ⟨rfl,-,rfl⟩:=hvv
  have Hs_x:=Yw hs_x
  clear hs_x
  go_wp2_with (refine Y4 (Hb0.out.ext Hx.out) rfl ?_)
  refine (Mm T _ _ (H.out.up Hx.out)).mono ?_
  rintro e w1 ⟨v1,rfl,hx1⟩
  go_wp2_with fail
  all_goals
   have hx:=Hx.out
   first
   | (go_roundw
      case rel=>exact ⟨i+1,by omega,by go_num,(by repeat' first|exact Yl _|assumption|apply Yk|apply Yj|apply Yi|(refine Yh ?_ (by assumption)))⟩
      case measure=>(simp [intOf];omega))
   | (go_ret;exact ⟨_,rfl,X0.out.trans (by repeat' first|exact Yl _|assumption|apply Yk|apply Yj|apply Yi|(refine Yh ?_ (by assumption)))⟩)
 have hd_i:decide ((i:Int) < (n:Int))=false:=Yg (by omega)
 go_wp2_with fail
 all_goals
  have hx:=Hx.out
  first
  | (go_roundw
     case rel=>exact ⟨i+1,by omega,by go_num,(by repeat' first|exact Yl _|assumption|apply Yk|apply Yj|apply Yi|(refine Yh ?_ (by assumption)))⟩
     case measure=>(simp [intOf];omega))
  | (go_ret;exact ⟨_,rfl,X0.out.trans (by repeat' first|exact Yl _|assumption|apply Yk|apply Yj|apply Yi|(refine Yh ?_ (by assumption)))⟩)
theorem last_any {S S':Nat→Prop} (T:Tbl) (v:Value) (l:List Int) (w:World) (h:Xm w S T) (hl:Xz w S' v l):Calls Tryz.prog 256 #[Wc T,v] w (Ka w):=by
 obtain ⟨A,C,rfl,hlCC,hCC⟩:=hl.shape
 obtain ⟨n,hnn⟩:∃ n,(l).length=n:=⟨_,rfl⟩
 have Hnn:=Yw hnn
 have Hhl:=Yw hl
 unfold maxLen at hCC
 rw [hnn] at hlCC ⊢
 clear hl hnn
 have X0:=Yw ((Yl w).alloc (Xf T))
 have H:=Yw (h.up X0.out)
 have Hb0:=Yw (Xq w T)
 clear h
 have HL:=Yw (show Xz (w.alloc (Xf T)) S' (.slice A n C) l by have:=Hhl.out.ext X0.out;rwa [Hnn.out] at this)
 go_enter Tryz.func256,Tryz.ntmps256
 go_wp2_with (refine Xy rfl ?_)
 go_loopw [11,5] (fun o k wr=>∃ (i:Nat) (z:Int),i≤n∧o=.int .i64 (i:Int)∧k=.int .i64 z∧Ext (w.alloc (Xf T)) wr) (fun o _ _=>n - (intOf o).toNat)
 case atStart=>exact ⟨0,-1,by omega,rfl,rfl,Yl _⟩
 obtain ⟨i,z,hi,rfl,rfl,hx⟩:=hrel
 have Hx:=Yw hx
 clear hx
 by_cases hlt:i < n
 ·have hd_i:decide ((i:Int) < (n:Int))=true:=Yf (by omega)
  have i0_i:(0:Int)≤(i:Int):=by omega
  have i1_i:(i:Int) < (n:Int):=by omega
  obtain ⟨x,hs_x⟩:∃ s,(l)[i]?=some s:=⟨(l)[i]'(by have:=Hnn.out;omega),Zz _⟩
  obtain ⟨g_x,o_x,c_x,hvv,_,_,_,hgl_x,a0_x⟩:=(HL.out.ext Hx.out).get hs_x
  simp only [Ye] at hvv
  obtain ⟨rfl,-,rfl⟩:=hvv
  have Hs_x:=Yw hs_x
  clear hs_x
  go_wp2_with (refine Y4 (Hb0.out.ext Hx.out) rfl ?_)
  refine (Nx T _ _ (H.out.up Hx.out)).mono ?_
  rintro e w1 ⟨v1,rfl,hx1⟩
  go_wp2_with fail
  all_goals
   go_roundw
   case rel=>exact ⟨i+1,_,by omega,by go_num,rfl,Hx.out.trans hx1⟩
   case measure=>(simp [intOf];omega)
 have hd_i:decide ((i:Int) < (n:Int))=false:=Yg (by omega)
 go_wp2_with fail
 go_ret
 exact ⟨z,rfl,X0.out.trans Hx.out⟩
theorem J7 {S S' S'':Nat→Prop} (T:Tbl) (v:Value) (l:List Int) (u:Value) (cl:List Int) (w:World) (h:Xm w S T) (hl:Xz w S' v l) (hc:Xz w S'' u cl):Calls Tryz.prog 255 #[Wc T,v,u] w (Vi w):=by
 obtain ⟨A,C,rfl,hlCC,hCC⟩:=hl.shape
 obtain ⟨n,hnn⟩:∃ n,(l).length=n:=⟨_,rfl⟩
 have Hnn:=Yw hnn
 have Hhl:=Yw hl
 unfold maxLen at hCC
 rw [hnn] at hlCC ⊢
 clear hl hnn
 obtain ⟨D,E,rfl,hlCE,hCE⟩:=hc.shape
 obtain ⟨k,hnk⟩:∃ n,(cl).length=n:=⟨_,rfl⟩
 have Hnk:=Yw hnk
 have Hhc:=Yw hc
 unfold maxLen at hCE
 rw [hnk] at hlCE ⊢
 clear hc hnk
 have X0:=Yw ((Yl w).alloc (Xf T))
 have H:=Yw (h.up X0.out)
 have Hb0:=Yw (Xq w T)
 clear h
 have HL:=Yw (show Xz (w.alloc (Xf T)) S' (.slice A n C) l by have:=Hhl.out.ext X0.out;rwa [Hnn.out] at this)
 have HC:=Yw (show Xz (w.alloc (Xf T)) S'' (.slice D k E) cl by have:=Hhc.out.ext X0.out;rwa [Hnk.out] at this)
 go_enter Tryz.func255,Tryz.ntmps255
 go_wp2_with (refine Xy rfl ?_)
 go_loopw [13] (fun o wr=>∃ i:Nat,i≤n∧o=.int .i64 (i:Int)∧Ext (w.alloc (Xf T)) wr) (fun o _=>n - (intOf o).toNat)
 case atStart=>exact ⟨0,by omega,rfl,Yl _⟩
 obtain ⟨i,hi_i,rfl,hx⟩:=hrel
 have Hx:=Yw hx
 clear hx
 by_cases hlt:i < n
 ·have hd_i:decide ((i:Int) < (n:Int))=true:=Yf (by omega)
  have i0_i:(0:Int)≤(i:Int):=by omega
  have i1_i:(i:Int) < (n:Int):=by omega
  obtain ⟨x,hs_x⟩:∃ s,(l)[i]?=some s:=⟨(l)[i]'(by have:=Hnn.out;omega),Zz _⟩
  obtain ⟨g_x,o_x,c_x,hvv,_,_,_,hgl_x,a0_x⟩:=(HL.out.ext Hx.out).get hs_x
  simp only [Ye] at hvv
  obtain ⟨rfl,-,rfl⟩:=hvv
  have Hs_x:=Yw hs_x
  clear hs_x
  go_wp2_with fail
  have Hlt:=Yw hlt
  have Hx1:=Yw Hx.out
  clear Hx hlt a0_x hgl_x
  go_loopw [19] (fun o wr=>∃ i:Nat,i≤k∧o=.int .i64 (i:Int)∧Ext (w.alloc (Xf T)) wr) (fun o _=>k - (intOf o).toNat)
  case atStart=>exact ⟨0,by omega,rfl,Hx1.out⟩
  clear Hx1
  obtain ⟨j,hi_j,rfl,hx⟩:=hrel
  have Hx:=Yw hx
  clear hx
  by_cases hlt:j < k
  ·have hd_j:decide ((j:Int) < (k:Int))=true:=Yf (by omega)
   have i0_j:(0:Int)≤(j:Int):=by omega
   have i1_j:(j:Int) < (k:Int):=by omega
   obtain ⟨y,hs_y⟩:∃ s,(cl)[j]?=some s:=⟨(cl)[j]'(by have:=Hnk.out;omega),Zz _⟩
   obtain ⟨g_y,o_y,c_y,hvv,_,_,_,hgl_y,a0_y⟩:=(HC.out.ext Hx.out).get hs_y
   simp only [Ye] at hvv
   obtain ⟨rfl,-,rfl⟩:=hvv
   have Hs_y:=Yw hs_y
   clear hs_y
   go_wp2_with (refine Y4 (Hb0.out.ext Hx.out) rfl ?_)
   refine (Nx T _ _ (H.out.up Hx.out)).mono ?_
   rintro e w1 ⟨v1,rfl,hx1⟩
   go_wp2_with fail
   all_goals
    have hx:=Hx.out
    first
    | (go_roundw
       case rel=>exact ⟨j+1,by omega,by go_num,(by repeat' first|exact Yl _|assumption|apply Yk|apply Yj|apply Yi|(refine Yh ?_ (by assumption)))⟩
       case measure=>(simp [intOf];omega))
    | (go_ret;exact ⟨_,rfl,X0.out.trans (by repeat' first|exact Yl _|assumption|apply Yk|apply Yj|apply Yi|(refine Yh ?_ (by assumption)))⟩)
  have hd_j:decide ((j:Int) < (k:Int))=false:=Yg (by omega)
  have hlo:=Hlt.out
  go_wp2_with fail
  go_roundw
  case rel=>exact ⟨i+1,by omega,by go_num,Hx.out⟩
  case measure=>(simp [intOf];omega)
 have hd_i:decide ((i:Int) < (n:Int))=false:=Yg (by omega)
 go_wp2_with fail
 all_goals
  have hx:=Hx.out
  first
  | (go_roundw
     case rel=>exact ⟨i+1,by omega,by go_num,(by repeat' first|exact Yl _|assumption|apply Yk|apply Yj|apply Yi|(refine Yh ?_ (by assumption)))⟩
     case measure=>(simp [intOf];omega))
  | (go_ret;exact ⟨_,rfl,X0.out.trans (by repeat' first|exact Yl _|assumption|apply Yk|apply Yj|apply Yi|(refine Yh ?_ (by assumption)))⟩)
theorem Zq4 {S S':Nat→Prop} (T:Tbl) (hf:Few T) (hu:Uq T) (v:Value) (l:List Int) (w:World) (h:Xm w S T) (hl:Xz w S' v l):Calls Tryz.prog 235 #[Wc T,v] w (Vi w):=by
 obtain ⟨A,C,rfl,hlCC,hCC⟩:=hl.shape
 obtain ⟨n,hnn⟩:∃ n,(l).length=n:=⟨_,rfl⟩
 have Hnn:=Yw hnn
 have Hhl:=Yw hl
 unfold maxLen at hCC
 rw [hnn] at hlCC ⊢
 clear hl hnn
 have X0:=Yw ((Yl w).alloc (Xf T))
 have H:=Yw (h.up X0.out)
 have Hb0:=Yw (Xq w T)
 clear h
 have HL:=Yw (show Xz (w.alloc (Xf T)) S' (.slice A n C) l by have:=Hhl.out.ext X0.out;rwa [Hnn.out] at this)
 have Hf:=Yw hf
 have Hu:=Yw hu
 clear hf hu
 go_enter Tryz.func235,Tryz.ntmps235
 go_wp2_with (first|(refine Xy rfl ?_)|(refine Y4 Hb0.out rfl ?_))
 refine (Vr T Hf.out Hu.out _ l _ H.out HL.out).mono ?_
 rintro e w0 ⟨x,rfl,_,hx0⟩
 by_cases h0:x=0
 ·subst h0
  go_wp2_with (first|(refine Wx (Hb0.out.ext hx0) (by go_simp) rfl ?_)|(go_at_call 255;refine (J7 T _ l _ [1,2,3] _ (H.out.up (by repeat' first|exact Yl _|assumption|apply Yk|apply Yj|apply Yi|(refine Yh ?_ (by assumption)))) (HL.out.ext (by repeat' first|exact Yl _|assumption|apply Yk|apply Yj|apply Yi|(refine Yh ?_ (by assumption)))) (Ww _ _ [1,2,3] 3 rfl _ rfl (by omega))).mono ?_;rintro e w1 ⟨v1,rfl,hx1⟩))
  go_ret
  exact ⟨_,rfl,X0.out.trans (by repeat' first|exact Yl _|assumption|apply Yk|apply Yj|apply Yi|(refine Yh ?_ (by assumption)))⟩
 have h0b:(!(x == 0))=true:=by simp [h0]
 have h0c:(x != 0)=true:=h0b
 have h0d:(x == 0)=false:=by simp [h0]
 have h0H:=Yw h0
 clear h0
 go_wp2_with fail
 go_ret
 exact ⟨_,rfl,X0.out.trans hx0⟩
theorem Zrr {S S':Nat→Prop} (T:Tbl) (hf:Few T) (hu:Uq T) (v:Value) (l:List Int) (w:World) (h:Xm w S T) (hl:Xz w S' v l):Calls Tryz.prog 236 #[Wc T,v] w (Ba w):=by
 obtain ⟨A,C,rfl,hlCC,hCC⟩:=hl.shape
 obtain ⟨n,hnn⟩:∃ n,(l).length=n:=⟨_,rfl⟩
 have Hnn:=Yw hnn
 have Hhl:=Yw hl
 unfold maxLen at hCC
 rw [hnn] at hlCC ⊢
 clear hl hnn
 have X0:=Yw ((Yl w).alloc (Xf T))
 have H:=Yw (h.up X0.out)
 have Hb0:=Yw (Xq w T)
 clear h
 have HL:=Yw (show Xz (w.alloc (Xf T)) S' (.slice A n C) l by have:=Hhl.out.ext X0.out;rwa [Hnn.out] at this)
 have Hf:=Yw hf
 have Hu:=Yw hu
 clear hf hu
 go_enter Tryz.func236,Tryz.ntmps236
 go_wp2_with (first|(refine Xy rfl ?_)|(refine Y4 Hb0.out rfl ?_))
 refine (Vr T Hf.out Hu.out _ l _ H.out HL.out).mono ?_
 rintro e w0 ⟨x,rfl,_,hx0⟩
 by_cases h0:x=0
 ·subst h0
  by_cases hn0:n=0
  ·have hn1:((n:Int) == 0)=true:=by simp [hn0]
   have hn2:(n == 0)=true:=by simp [hn0]
   go_wp2_with fail
   go_ret2
   exact ⟨_,_,rfl,X0.out.trans hx0⟩
  have hn1:((n:Int) == 0)=false:=by simp;omega
  have hn2:(n == 0)=false:=by simp;omega
  have hn3:0 < n:=by omega
  have i0:(0:Int) < (n:Int):=by omega
  go_wp2_with (refine Y4 (Hb0.out.ext hx0) rfl ?_)
  refine (last_any T _ l _ (H.out.up hx0) (HL.out.ext hx0)).mono ?_
  rintro e w2 ⟨z,rfl,hx2⟩
  have Hx:=Yw (hx0.trans hx2)
  have hlt:0 < n:=hn3
  obtain ⟨c,hs_c⟩:∃ s,(l)[0]?=some s:=⟨(l)[0]'(by have:=Hnn.out;omega),Zz _⟩
  obtain ⟨g_c,o_c,c_c,hvv,_,_,_,hgl_c,a0_c⟩:=(HL.out.ext Hx.out).get hs_c
  simp only [Ye] at hvv
  obtain ⟨rfl,-,rfl⟩:=hvv
  have Hs_c:=Yw hs_c
  clear hs_c
  clear hx0 hx2
  rw [Nat.add_zero] at a0_c
  have z0:(w2).cell? ⟨w.heap.size,0,none⟩=some T.catV:=(Hb0.out.ext Hx.out).at_ 0 (by omega)
  have z1:(w2).cell? ⟨w.heap.size,1,none⟩=some T.clsV:=(Hb0.out.ext Hx.out).at_ 1 (by omega)
  have z2:(w2).cell? ⟨w.heap.size,2,none⟩=some T.joiV:=(Hb0.out.ext Hx.out).at_ 2 (by omega)
  have z3:(w2).cell? ⟨w.heap.size,3,none⟩=some T.bidV:=(Hb0.out.ext Hx.out).at_ 3 (by omega)
  have z4:(w2).cell? ⟨w.heap.size,4,none⟩=some T.scrV:=(Hb0.out.ext Hx.out).at_ 4 (by omega)
  have z5:(w2).cell? ⟨w.heap.size,5,none⟩=some T.staV:=(Hb0.out.ext Hx.out).at_ 5 (by omega)
  have z6:(w2).cell? ⟨w.heap.size,6,none⟩=some T.ignV:=(Hb0.out.ext Hx.out).at_ 6 (by omega)
  have z7:(w2).cell? ⟨w.heap.size,7,none⟩=some T.extV:=(Hb0.out.ext Hx.out).at_ 7 (by omega)
  have z8:(w2).cell? ⟨w.heap.size,8,none⟩=some T.mapV:=(Hb0.out.ext Hx.out).at_ 8 (by omega)
  have z9:(w2).cell? ⟨w.heap.size,9,none⟩=some T.decV:=(Hb0.out.ext Hx.out).at_ 9 (by omega)
  have z10:(w2).cell? ⟨w.heap.size,10,none⟩=some T.excV:=(Hb0.out.ext Hx.out).at_ 10 (by omega)
  have z11:(w2).cell? ⟨w.heap.size,11,none⟩=some T.proV:=(Hb0.out.ext Hx.out).at_ 11 (by omega)
  go_wp2_with fail
  go_cut [26] from 22 to 26 (fun o wx=>∃ b:Int,o=.int .i64 b∧Ext w2 wx)
  case first =>
   rename_i J1 K1 hJ hM
   go_region_with (go_at_call 257;refine (Nx T _ _ (H.out.up (have hx:=Hx.out;(by repeat' first|exact Yl _|assumption|apply Yk|apply Yj|apply Yi|(refine Yh ?_ (by assumption)))))).mono ?_;rintro e w3 ⟨b,rfl,hx3⟩)
   all_goals
    go_simp
    refine hM _ _ (hJ _ _ ?_)
    (repeat apply Exists.intro)
    exact ⟨⟨b,rfl,by first|exact hx3|exact (Yl _).drew.trans hx3|exact ((Yl _).drewN _).trans hx3⟩,rfl⟩
  obtain ⟨b,rfl,hxb⟩:=hcut
  have hx:=Hx.out.trans hxb
  clear z0 z1 z2 z3 z4 z5 z6 z7 z8 z9 z10 z11 a0_c hxb
  by_cases b1:b=1
  ·subst b1
   go_wp2_with (refine Y4 (Hb0.out.ext hx) rfl ?_)
   refine (J7 T _ l _ [0,11] _ (H.out.up (by repeat' first|exact Yl _|assumption|apply Yk|apply Yj|apply Yi|(refine Yh ?_ (by assumption)))) (HL.out.ext (by repeat' first|exact Yl _|assumption|apply Yk|apply Yj|apply Yi|(refine Yh ?_ (by assumption)))) (Ww _ _ [0,11] 2 rfl _ rfl (by omega))).mono ?_
   rintro e w4 ⟨b4,rfl,hx4⟩
   have hx':Ext (w.alloc (Xf T)) w4:=(by repeat' first|exact Yl _|assumption|apply Yk|apply Yj|apply Yi|(refine Yh ?_ (by assumption)))
   cases b4 with
   | true =>
    go_wp2_with fail
    go_ret2
    exact ⟨_,_,rfl,X0.out.trans hx'⟩
   | false =>
    clear hx4
    go_upto_region 10 with fail
    go_cut [35] from 36 to 49 (fun o wx=>∃ q:Bool,o=.bool q∧wx=w4)
    case first =>
     cases a1:(z != 1)<;>cases a2:(z != 2)<;>cases a4:(z != 4)<;>cases a3:(z != 3)
     all_goals
      go_wp2_with fail
      go_meet
      exact ⟨_,rfl,rfl⟩
    obtain ⟨q,rfl,rfl⟩:=hcut
    cases q with
    | true =>
     go_wp2_with fail
     go_ret2
     exact ⟨_,_,rfl,X0.out.trans hx'⟩
    | false =>
     go_wp2_with (refine Y4 (Hb0.out.ext hx') rfl ?_)
     clear hx
     refine (J7 T _ l _ [4] _ (H.out.up (by repeat' first|exact Yl _|assumption|apply Yk|apply Yj|apply Yi|(refine Yh ?_ (by assumption)))) (HL.out.ext (by repeat' first|exact Yl _|assumption|apply Yk|apply Yj|apply Yi|(refine Yh ?_ (by assumption)))) (Ww _ _ [4] 1 rfl _ rfl (by omega))).mono ?_
     rintro e w5 ⟨b5,rfl,hx5⟩
     have hx'':Ext (w.alloc (Xf T)) w5:=(by repeat' first|exact Yl _|assumption|apply Yk|apply Yj|apply Yi|(refine Yh ?_ (by assumption)))
     clear hx' hx5
     cases b5 with
     | false =>
      go_wp2_with fail
      go_ret2
      exact ⟨_,_,rfl,X0.out.trans hx''⟩
     | true =>
      go_wp2_with (refine Wx (Hb0.out.ext hx'') (by go_simp) rfl ?_)
      refine (J7 T _ l _ [3] _ (H.out.up (by repeat' first|exact Yl _|assumption|apply Yk|apply Yj|apply Yi|(refine Yh ?_ (by assumption)))) (HL.out.ext (by repeat' first|exact Yl _|assumption|apply Yk|apply Yj|apply Yi|(refine Yh ?_ (by assumption)))) (Ww _ _ [3] 1 rfl _ rfl (by omega))).mono ?_
      rintro e w6 ⟨b6,rfl,hx6⟩
      have hx3':Ext (w.alloc (Xf T)) w6:=(by repeat' first|exact Yl _|assumption|apply Yk|apply Yj|apply Yi|(refine Yh ?_ (by assumption)))
      clear hx'' hx6
      go_wp2_with fail
      all_goals
       go_ret2
       exact ⟨_,_,rfl,X0.out.trans hx3'⟩
  have b1b:(b == 1)=false:=by simp [b1]
  by_cases b2:b=2
  ·subst b2
   go_wp2_with (refine Y4 (Hb0.out.ext hx) rfl ?_)
   refine (J7 T _ l _ [0,11] _ (H.out.up (by repeat' first|exact Yl _|assumption|apply Yk|apply Yj|apply Yi|(refine Yh ?_ (by assumption)))) (HL.out.ext (by repeat' first|exact Yl _|assumption|apply Yk|apply Yj|apply Yi|(refine Yh ?_ (by assumption)))) (Ww _ _ [0,11] 2 rfl _ rfl (by omega))).mono ?_
   rintro e w4 ⟨b4,rfl,hx4⟩
   have hx':Ext (w.alloc (Xf T)) w4:=(by repeat' first|exact Yl _|assumption|apply Yk|apply Yj|apply Yi|(refine Yh ?_ (by assumption)))
   cases b4 with
   | true =>
    go_wp2_with fail
    go_ret2
    exact ⟨_,_,rfl,X0.out.trans hx'⟩
   | false =>
    clear hx4
    go_upto_region 10 with fail
    go_cut [35] from 36 to 49 (fun o wx=>∃ q:Bool,o=.bool q∧wx=w4)
    case first =>
     cases a1:(z != 1)<;>cases a2:(z != 2)<;>cases a4:(z != 4)<;>cases a3:(z != 3)
     all_goals
      go_wp2_with fail
      go_meet
      exact ⟨_,rfl,rfl⟩
    obtain ⟨q,rfl,rfl⟩:=hcut
    cases q with
    | true =>
     go_wp2_with fail
     go_ret2
     exact ⟨_,_,rfl,X0.out.trans hx'⟩
    | false =>
     go_wp2_with (refine Y4 (Hb0.out.ext hx') rfl ?_)
     clear hx
     refine (J7 T _ l _ [4] _ (H.out.up (by repeat' first|exact Yl _|assumption|apply Yk|apply Yj|apply Yi|(refine Yh ?_ (by assumption)))) (HL.out.ext (by repeat' first|exact Yl _|assumption|apply Yk|apply Yj|apply Yi|(refine Yh ?_ (by assumption)))) (Ww _ _ [4] 1 rfl _ rfl (by omega))).mono ?_
     rintro e w5 ⟨b5,rfl,hx5⟩
     have hx'':Ext (w.alloc (Xf T)) w5:=(by repeat' first|exact Yl _|assumption|apply Yk|apply Yj|apply Yi|(refine Yh ?_ (by assumption)))
     clear hx' hx5
     cases b5 with
     | false =>
      go_wp2_with fail
      go_ret2
      exact ⟨_,_,rfl,X0.out.trans hx''⟩
     | true =>
      go_wp2_with (refine Wx (Hb0.out.ext hx'') (by go_simp) rfl ?_)
      refine (J7 T _ l _ [3] _ (H.out.up (by repeat' first|exact Yl _|assumption|apply Yk|apply Yj|apply Yi|(refine Yh ?_ (by assumption)))) (HL.out.ext (by repeat' first|exact Yl _|assumption|apply Yk|apply Yj|apply Yi|(refine Yh ?_ (by assumption)))) (Ww _ _ [3] 1 rfl _ rfl (by omega))).mono ?_
      rintro e w6 ⟨b6,rfl,hx6⟩
      have hx3':Ext (w.alloc (Xf T)) w6:=(by repeat' first|exact Yl _|assumption|apply Yk|apply Yj|apply Yi|(refine Yh ?_ (by assumption)))
      clear hx'' hx6
      go_wp2_with fail
      all_goals
       go_ret2
       exact ⟨_,_,rfl,X0.out.trans hx3'⟩
  have b2b:(b == 2)=false:=by simp [b2]
  by_cases b3:b=0
  ·subst b3
   go_wp2_with (refine Y4 (Hb0.out.ext hx) rfl ?_)
   refine (J7 T _ l _ [1,2,3,11] _ (H.out.up (by repeat' first|exact Yl _|assumption|apply Yk|apply Yj|apply Yi|(refine Yh ?_ (by assumption)))) (HL.out.ext (by repeat' first|exact Yl _|assumption|apply Yk|apply Yj|apply Yi|(refine Yh ?_ (by assumption)))) (Ww _ _ [1,2,3,11] 4 rfl _ rfl (by omega))).mono ?_
   rintro e w4 ⟨b4,rfl,hx4⟩
   have hx':Ext (w.alloc (Xf T)) w4:=(by repeat' first|exact Yl _|assumption|apply Yk|apply Yj|apply Yi|(refine Yh ?_ (by assumption)))
   clear hx4 hx
   go_wp2_with fail
   all_goals
    go_ret2
    exact ⟨_,_,rfl,X0.out.trans hx'⟩
  have b3b:(b == 0)=false:=by simp [b3]
  go_wp2_with fail
  go_ret2
  exact ⟨_,_,rfl,X0.out.trans hx⟩
 have h0b:(!(x == 0))=true:=by simp [h0]
 have h0c:(x != 0)=true:=h0b
 have h0d:(x == 0)=false:=by simp [h0]
 have h0H:=Yw h0
 clear h0
 go_wp2_with fail
 go_ret2
 exact ⟨_,_,rfl,X0.out.trans hx0⟩
theorem Tq {S:Nat→Prop} (v:Value) (l:List Int) (w:World) (h:Xz w S v l):Calls Tryz.prog 231 #[v] w (Vi w):=by
 obtain ⟨A,C,rfl,hlCC,hCC⟩:=h.shape
 obtain ⟨n,hnn⟩:∃ n,(l).length=n:=⟨_,rfl⟩
 have Hnn:=Yw hnn
 have Hh:=Yw h
 unfold maxLen at hCC
 rw [hnn] at hlCC ⊢
 clear h hnn
 have HI:=Yw (show Xz w S (.slice A n C) l by have:=Hh.out;rwa [Hnn.out] at this)
 go_enter Tryz.func231,Tryz.ntmps231
 go_wp2_with (go_at_call 252;refine (Zqz _ l _ _ (HI.out.ext (by repeat' first|exact Yl _|assumption|apply Yk|apply Yj|apply Yi|(refine Yh ?_ (by assumption))))).mono ?_;rintro e w1 ⟨v1,rfl,hx1⟩)
 all_goals
  go_ret
  exact ⟨_,rfl,(by repeat' first|exact Yl _|assumption|apply Yk|apply Yj|apply Yi|(refine Yh ?_ (by assumption)))⟩
theorem Zyk {S:Nat→Prop} (T:Tbl) (hf:Few T) (hu:Uq T) (v:Value) (ls:List (List Int)) (w:World) (h:Xm w S T) (hl:Zz1 w v ls):Calls Tryz.prog 216 #[Wc T,v] w (Ba w):=by
 obtain ⟨A,C,rfl,hlC,hC⟩:=hl.shape
 obtain ⟨n,hnn⟩:∃ n,ls.length=n:=⟨_,rfl⟩
 have Hh:=Yw hl
 rw [hnn] at hlC ⊢
 have Hnn:=Yw hnn
 unfold maxLen at hC
 clear hl hnn
 have X0:=Yw ((Yl w).alloc (Xf T))
 have H:=Yw (h.up X0.out)
 have Hb0:=Yw (Xq w T)
 clear h
 have Hf:=Yw hf
 have Hu:=Yw hu
 clear hf hu
 go_enter Tryz.func216,Tryz.ntmps216
 go_wp2_with (refine Xy rfl ?_)
 go_loopw [16,6] (fun o b wr=>∃ (i:Nat) (q:Bool),i≤n∧o=.int .i64 (i:Int)∧b=.bool q∧Ext (w.alloc (Xf T)) wr) (fun o _ _=>n - (intOf o).toNat)
 case atStart=>exact ⟨0,false,by omega,rfl,rfl,Yl _⟩
 obtain ⟨i,q,hi,rfl,rfl,hx⟩:=hrel
 have Hx:=Yw hx
 clear hx
 by_cases hlt:i < n
 ·have hd_i:decide ((i:Int) < (n:Int))=true:=Yf (by omega)
  have i0_i:(0:Int)≤(i:Int):=by omega
  have i1_i:(i:Int) < (n:Int):=by omega
  obtain ⟨x,hx0⟩:∃ x,ls[i]?=some x:=⟨ls[i]'(by rw [Hnn.out];exact hlt),Zz _⟩
  obtain ⟨g,o,c,u,hv,_,_,hg,c0,hxu⟩:=(Hh.out.ext X0.out).get hx0
  simp only [Ye] at hv
  obtain ⟨rfl,-,rfl⟩:=hv
  replace c0:=(Hx.out.cell (p:=⟨g,o+i,none⟩) hg).trans c0
  have Hxu:=Yw hxu
  have Hx0:=Yw hx0
  clear hxu hx0
  go_wp2_with (refine Y4 (Hb0.out.ext Hx.out) rfl ?_)
  refine (Vr T Hf.out Hu.out _ x _ (H.out.up Hx.out) (Hxu.out.ext Hx.out)).mono ?_
  rintro e w1 ⟨y,rfl,_,hx1⟩
  have Hx1:=Yw (Hx.out.trans hx1)
  clear hx1
  by_cases h0:y=0
  ·subst h0
   cases q with
   | true =>
    go_wp2_with fail
    go_roundw
    case rel=>exact ⟨i+1,true,by omega,by go_num,rfl,Hx1.out⟩
    case measure=>(simp [intOf];omega)
   | false =>
    go_wp2_with (refine Wx (Hb0.out.ext Hx1.out) (by go_simp) rfl ?_)
    refine (Zq4 T Hf.out Hu.out _ x _ (H.out.up Hx1.out) (Hxu.out.ext Hx1.out)).mono ?_
    rintro e w2 ⟨q2,rfl,hx2⟩
    go_wp2_with fail
    go_roundw
    case rel=>exact ⟨i+1,q2,by omega,by go_num,rfl,Hx1.out.trans hx2⟩
    case measure=>(simp [intOf];omega)
  have h0b:(!(y == 0))=true:=by simp [h0]
  have h0c:(y != 0)=true:=h0b
  have h0d:(y == 0)=false:=by simp [h0]
  have h0H:=Yw h0
  clear h0
  go_wp2_with fail
  go_ret2
  exact ⟨_,_,rfl,X0.out.trans Hx1.out⟩
 have hd_i:decide ((i:Int) < (n:Int))=false:=Yg (by omega)
 go_wp2_with fail
 have Hx1:=Yw Hx.out
 clear Hx hlt hi hd_i
 go_loopw [37] (fun o wr=>∃ i:Nat,i≤n∧o=.int .i64 (i:Int)∧Ext (w.alloc (Xf T)) wr) (fun o _=>n - (intOf o).toNat)
 case atStart=>exact ⟨0,by omega,rfl,Hx1.out⟩
 clear Hx1
 obtain ⟨i,hi_i,rfl,hx⟩:=hrel
 have Hx:=Yw hx
 clear hx
 by_cases hlt:i < n
 ·have hd_i:decide ((i:Int) < (n:Int))=true:=Yf (by omega)
  have i0_i:(0:Int)≤(i:Int):=by omega
  have i1_i:(i:Int) < (n:Int):=by omega
  obtain ⟨x,hx0⟩:∃ x,ls[i]?=some x:=⟨ls[i]'(by rw [Hnn.out];exact hlt),Zz _⟩
  obtain ⟨g,o,c,u,hv,_,_,hg,c0,hxu⟩:=(Hh.out.ext X0.out).get hx0
  simp only [Ye] at hv
  obtain ⟨rfl,-,rfl⟩:=hv
  replace c0:=(Hx.out.cell (p:=⟨g,o+i,none⟩) hg).trans c0
  have Hxu:=Yw hxu
  have Hx0:=Yw hx0
  clear hxu hx0
  go_wp2_with (refine Y4 (Hb0.out.ext Hx.out) rfl ?_)
  refine (Zrr T Hf.out Hu.out _ x _ (H.out.up Hx.out) (Hxu.out.ext Hx.out)).mono ?_
  rintro e w1 ⟨y,z,rfl,hx1⟩
  cases q
  ·go_wp2_with fail
   go_roundw
   case rel=>exact ⟨i+1,by omega,by go_num,Hx.out.trans hx1⟩
   case measure=>(simp [intOf];omega)
  go_wp2_with fail
  all_goals
   first
   | (go_roundw
      case rel=>exact ⟨i+1,by omega,by go_num,Hx.out.trans hx1⟩
      case measure=>(simp [intOf];omega))
   | (go_ret2;exact ⟨_,_,rfl,X0.out.trans (Hx.out.trans hx1)⟩)
 have hd_i:decide ((i:Int) < (n:Int))=false:=Yg (by omega)
 go_wp2_with fail
 go_ret2
 exact ⟨_,_,rfl,X0.out.trans Hx.out⟩
theorem Un {S S':Nat→Prop} (T:Tbl) (hf:Few T) (hu:Uq T) (v:Value) (l:List Int) (j:Nat) (w:World) (h:Xm w S T) (hl:Xz w S' v l) (hj:j < l.length) (hb:l.length≤100000):Calls Tryz.prog 254 #[Wc T,v,.int .i64 (j:Int)] w (Vi w):=by
 obtain ⟨A,C,rfl,hlCC,hCC⟩:=hl.shape
 obtain ⟨n,hnn⟩:∃ n,(l).length=n:=⟨_,rfl⟩
 have Hnn:=Yw hnn
 have Hhl:=Yw hl
 unfold maxLen at hCC
 rw [hnn] at hlCC ⊢
 clear hl hnn
 have X0:=Yw ((Yl w).alloc (Xf T))
 have H:=Yw (h.up X0.out)
 have Hb0:=Yw (Xq w T)
 clear h
 have HL:=Yw (show Xz (w.alloc (Xf T)) S' (.slice A n C) l by have:=Hhl.out.ext X0.out;rwa [Hnn.out] at this)
 have Hf:=Yw hf
 have Hu:=Yw hu
 clear hf hu
 rw [Hnn.out] at hj hb
 have d0:decide ((j:Int) < 0)=false:=Yg (by omega)
 have d1:decide ((n:Int)≤(j:Int))=false:=Yg (by omega)
 have d1n:¬ n≤j:=by omega
 go_enter Tryz.func254,Tryz.ntmps254
 go_wp2_with (first|(refine Xy rfl ?_)|(refine Wx Hb0.out (by go_simp) rfl ?_))
 refine (Vr T Hf.out Hu.out _ l _ H.out HL.out).mono ?_
 rintro e w1 ⟨x,rfl,_,hx1⟩
 have Hx:=Yw hx1
 clear hx1
 by_cases h0:x=0
 ·subst h0
  have i0:(0:Int)≤(j:Int):=by omega
  have i1:(j:Int) < (n:Int):=by omega
  obtain ⟨c,hs_c⟩:∃ s,(l)[j]?=some s:=⟨(l)[j]'(by have:=Hnn.out;omega),Zz _⟩
  obtain ⟨g_c,o_c,c_c,hvv,_,_,_,hgl_c,a0_c⟩:=(HL.out.ext Hx.out).get hs_c
  simp only [Ye] at hvv
  obtain ⟨rfl,-,rfl⟩:=hvv
  have Hs_c:=Yw hs_c
  clear hs_c
  have hx:=Hx.out
  by_cases c1:c=183
  ·subst c1
   go_wp2_with (first|(refine Y4 (Hb0.out.ext Hx.out) rfl ?_)|(go_at_call 252;refine (Zqz _ l _ _ (HL.out.ext (by repeat' first|exact Yl _|assumption|apply Yk|apply Yj|apply Yi|(refine Yh ?_ (by assumption))))).mono ?_;rintro e w4 ⟨v4,rfl,hx4⟩))
   all_goals
    go_ret
    exact ⟨_,rfl,X0.out.trans (by repeat' first|exact Yl _|assumption|apply Yk|apply Yj|apply Yi|(refine Yh ?_ (by assumption)))⟩
  have f1:(c == 183)=false:=by simp [c1]
  by_cases c2:c=885
  ·subst c2
   have s1:IntKind.i64.wrap ((j:Int)+1)=(j:Int)+1:=Yq _ (by omega)
   have s0:(0:Int)≤(j:Int)+1:=by omega
   by_cases hjn:j+1 < n
   ·have e1:decide ((j:Int)+1 < (n:Int))=true:=Yf (by omega)
    have s2:(j:Int)+1 < (n:Int):=by omega
    obtain ⟨y,hy0⟩:∃ y,l[j+1]?=some y:=⟨l[j+1]'(by rw [Hnn.out];omega),Zz _⟩
    obtain ⟨g3,o3,c3,hv3,_,_,_,_,cy⟩:=(HL.out.ext Hx.out).get hy0
    simp only [Ye,Yd,Addr.mk.injEq,true_and,and_true] at hv3
    obtain ⟨⟨rfl,rfl⟩,-,rfl⟩:=hv3
    have my:=lat cy
    have HW:=Yw (H.out.up Hx.out)
    have hC:∀ w',(∃ p:Wj,w'=later w1 p.n p.os)→Q9 w' w.heap.size T:=fun w' ⟨p,e⟩=>by rw [e];exact (Hb0.out.ext Hx.out).ext (⟨_,_,rfl⟩)
    go_wp2_with fail
    have hun:=Yb
    refine Y0 (by kernel_rfl) (by kernel_rfl) ?_
    repeat (first|((with_reducible refine Xi ?_ ?_ hC ?_);(focus (go_simp;done));rfl)|((with_reducible refine Yv ?_);intro K hK;go_simp;first|((with_reducible refine hK _ ?_);clear hK K)|(apply Exists.intro;refine ⟨fun _=>?_,hK _ ?_⟩;(go_at_call 239;exact Y8 (Jh T _ _ (HW.out.up (⟨_,_,rfl⟩))));clear hK K)))
    (with_reducible refine Yu ?_)
    intro w3 hx3
    clear hun
    try simp only [Yc]
    go_wp2_with fail
    go_ret
    exact ⟨_,rfl,X0.out.trans (Hx.out.trans hx3)⟩
   have e1:decide ((j:Int)+1 < (n:Int))=false:=Yg (by omega)
   have HW:=Yw (H.out.up Hx.out)
   have hC:∀ w',(∃ p:Wj,w'=later w1 p.n p.os)→Q9 w' w.heap.size T:=fun w' ⟨p,e⟩=>by rw [e];exact (Hb0.out.ext Hx.out).ext (⟨_,_,rfl⟩)
   go_wp2_with fail
   have hun:=Yb
   refine Y0 (by kernel_rfl) (by kernel_rfl) ?_
   repeat (first|((with_reducible refine Xi ?_ ?_ hC ?_);(focus (go_simp;done));rfl)|((with_reducible refine Yv ?_);intro K hK;go_simp;first|((with_reducible refine hK _ ?_);clear hK K)|(apply Exists.intro;refine ⟨fun _=>?_,hK _ ?_⟩;(go_at_call 239;exact Y8 (Jh T _ _ (HW.out.up (⟨_,_,rfl⟩))));clear hK K)))
   (with_reducible refine Yu ?_)
   intro w3 hx3
   clear hun
   try simp only [Yc]
   go_wp2_with fail
   go_ret
   exact ⟨_,rfl,X0.out.trans (Hx.out.trans hx3)⟩
  have f2:(c == 885)=false:=by simp [c2]
  by_cases c3:c=1523∨c=1524
  ·have hcc:(c == 1523)=true∨((c == 1523)=false∧(c == 1524)=true):=by
    rcases c3 with rfl|rfl
    ·exact .inl rfl
    exact .inr ⟨rfl,rfl⟩
   clear c1 c2 c3
   by_cases hj0:0 < j
   ·have k0:decide ((0:Int) < (j:Int))=true:=Yf (by omega)
    have k1:decide (0 < j)=true:=Yf hj0
    have r1:=Vx j (by omega) (by omega)
    obtain ⟨jp,hjp⟩:∃ q,j - 1=q:=⟨_,rfl⟩
    rw [hjp] at r1
    have i2:(0:Int)≤(jp:Int):=by omega
    have i3:(jp:Int) < (n:Int):=by omega
    have i4:jp < n:=by omega
    obtain ⟨y,hy0⟩:∃ y,l[jp]?=some y:=⟨l[jp]'(by rw [Hnn.out];omega),Zz _⟩
    obtain ⟨g3,o3,c3,hv3,_,_,_,_,cy⟩:=(HL.out.ext Hx.out).get hy0
    simp only [Ye,Yd,Addr.mk.injEq,true_and,and_true] at hv3
    obtain ⟨⟨rfl,rfl⟩,-,rfl⟩:=hv3
    have my:=lat cy
    clear hjp
    rcases hcc with h1 | ⟨h1,h2⟩
    ·have HW:=Yw (H.out.up Hx.out)
     have hC:∀ w',(∃ p:Wj,w'=later w1 p.n p.os)→Q9 w' w.heap.size T:=fun w' ⟨p,e⟩=>by rw [e];exact (Hb0.out.ext Hx.out).ext (⟨_,_,rfl⟩)
     go_wp2_with fail
     have hun:=Yb
     refine Y0 (by kernel_rfl) (by kernel_rfl) ?_
     repeat (first|((with_reducible refine Xi ?_ ?_ hC ?_);(focus (go_simp;done));rfl)|((with_reducible refine Yv ?_);intro K hK;go_simp;first|((with_reducible refine hK _ ?_);clear hK K)|(apply Exists.intro;refine ⟨fun _=>?_,hK _ ?_⟩;(go_at_call 239;exact Y8 (Jh T _ _ (HW.out.up (⟨_,_,rfl⟩))));clear hK K)))
     (with_reducible refine Yu ?_)
     intro w3 hx3
     clear hun
     try simp only [Yc]
     go_wp2_with fail
     go_ret
     exact ⟨_,rfl,X0.out.trans (Hx.out.trans hx3)⟩
    have HW:=Yw (H.out.up Hx.out)
    have hC:∀ w',(∃ p:Wj,w'=later w1 p.n p.os)→Q9 w' w.heap.size T:=fun w' ⟨p,e⟩=>by rw [e];exact (Hb0.out.ext Hx.out).ext (⟨_,_,rfl⟩)
    go_wp2_with fail
    have hun:=Yb
    refine Y0 (by kernel_rfl) (by kernel_rfl) ?_
    repeat (first|((with_reducible refine Xi ?_ ?_ hC ?_);(focus (go_simp;done));rfl)|((with_reducible refine Yv ?_);intro K hK;go_simp;first|((with_reducible refine hK _ ?_);clear hK K)|(apply Exists.intro;refine ⟨fun _=>?_,hK _ ?_⟩;(go_at_call 239;exact Y8 (Jh T _ _ (HW.out.up (⟨_,_,rfl⟩))));clear hK K)))
    (with_reducible refine Yu ?_)
    intro w3 hx3
    clear hun
    try simp only [Yc]
    go_wp2_with fail
    go_ret
    exact ⟨_,rfl,X0.out.trans (Hx.out.trans hx3)⟩
   have k0:decide ((0:Int) < (j:Int))=false:=Yg (by omega)
   have k1:decide (0 < j)=false:=Yg hj0
   rcases hcc with h1 | ⟨h1,h2⟩
   ·have HW:=Yw (H.out.up Hx.out)
    have hC:∀ w',(∃ p:Wj,w'=later w1 p.n p.os)→Q9 w' w.heap.size T:=fun w' ⟨p,e⟩=>by rw [e];exact (Hb0.out.ext Hx.out).ext (⟨_,_,rfl⟩)
    go_wp2_with fail
    have hun:=Yb
    refine Y0 (by kernel_rfl) (by kernel_rfl) ?_
    repeat (first|((with_reducible refine Xi ?_ ?_ hC ?_);(focus (go_simp;done));rfl)|((with_reducible refine Yv ?_);intro K hK;go_simp;first|((with_reducible refine hK _ ?_);clear hK K)|(apply Exists.intro;refine ⟨fun _=>?_,hK _ ?_⟩;(go_at_call 239;exact Y8 (Jh T _ _ (HW.out.up (⟨_,_,rfl⟩))));clear hK K)))
    (with_reducible refine Yu ?_)
    intro w3 hx3
    clear hun
    try simp only [Yc]
    go_wp2_with fail
    go_ret
    exact ⟨_,rfl,X0.out.trans (Hx.out.trans hx3)⟩
   have HW:=Yw (H.out.up Hx.out)
   have hC:∀ w',(∃ p:Wj,w'=later w1 p.n p.os)→Q9 w' w.heap.size T:=fun w' ⟨p,e⟩=>by rw [e];exact (Hb0.out.ext Hx.out).ext (⟨_,_,rfl⟩)
   go_wp2_with fail
   have hun:=Yb
   refine Y0 (by kernel_rfl) (by kernel_rfl) ?_
   repeat (first|((with_reducible refine Xi ?_ ?_ hC ?_);(focus (go_simp;done));rfl)|((with_reducible refine Yv ?_);intro K hK;go_simp;first|((with_reducible refine hK _ ?_);clear hK K)|(apply Exists.intro;refine ⟨fun _=>?_,hK _ ?_⟩;(go_at_call 239;exact Y8 (Jh T _ _ (HW.out.up (⟨_,_,rfl⟩))));clear hK K)))
   (with_reducible refine Yu ?_)
   intro w3 hx3
   clear hun
   try simp only [Yc]
   go_wp2_with fail
   go_ret
   exact ⟨_,rfl,X0.out.trans (Hx.out.trans hx3)⟩
  have f3:(c == 1523)=false:=by simp;omega
  have f4:(c == 1524)=false:=by simp;omega
  clear c3
  by_cases c5:c=12539
  ·subst c5
   go_wp2_with (first|(refine Y4 (Hb0.out.ext Hx.out) rfl ?_)|(go_at_call 267;refine (Zrp T _ l _ (H.out.up Hx.out) (HL.out.ext Hx.out)).mono ?_;rintro e w2 ⟨q,rfl,hx2⟩))
   go_ret
   exact ⟨_,rfl,X0.out.trans (by repeat' first|exact Yl _|assumption|apply Yk|apply Yj|apply Yi|(refine Yh ?_ (by assumption)))⟩
  have f5:(c == 12539)=false:=by simp [c5]
  clear c1 c2 c5
  cases b1:inB c 1632 1641
  ·cases b2:inB c 1776 1785
   all_goals
    go_wp2_with (first|(go_at_call 268;refine (Cw _ _ _ _).mono ?_;rintro e w' ⟨rfl,rfl⟩;first|rw [b1]|rw [b2])|(go_at_call 269;refine (In _ l _ _ _ (HL.out.ext (by repeat' first|exact Yl _|assumption|apply Yk|apply Yj|apply Yi|(refine Yh ?_ (by assumption))))).mono ?_;rintro e w2 ⟨q,rfl,hx2⟩))
    go_ret
    exact ⟨_,rfl,X0.out.trans (by repeat' first|exact Yl _|assumption|apply Yk|apply Yj|apply Yi|(refine Yh ?_ (by assumption)))⟩
  go_wp2_with (first|(go_at_call 268;refine (Cw _ _ _ _).mono ?_;rintro e w' ⟨rfl,rfl⟩;first|rw [b1]|rw [b2])|(go_at_call 269;refine (In _ l _ _ _ (HL.out.ext (by repeat' first|exact Yl _|assumption|apply Yk|apply Yj|apply Yi|(refine Yh ?_ (by assumption))))).mono ?_;rintro e w2 ⟨q,rfl,hx2⟩))
  go_ret
  exact ⟨_,rfl,X0.out.trans (by repeat' first|exact Yl _|assumption|apply Yk|apply Yj|apply Yi|(refine Yh ?_ (by assumption)))⟩
 have h0b:(!(x == 0))=true:=by simp [h0]
 have h0c:(x != 0)=true:=h0b
 have h0d:(x == 0)=false:=by simp [h0]
 have h0H:=Yw h0
 clear h0
 go_wp2_with fail
 go_ret
 exact ⟨_,rfl,X0.out.trans Hx.out⟩
theorem Ud {S S':Nat→Prop} (T:Tbl) (hf:Few T) (hu:Uq T) (v:Value) (l:List Int) (j:Nat) (w:World) (h:Xm w S T) (hl:Xz w S' v l) (hj:j < l.length) (hb:l.length≤100000):Calls Tryz.prog 253 #[Wc T,v,.int .i64 (j:Int)] w (Vi w):=by
 obtain ⟨A,C,rfl,hlCC,hCC⟩:=hl.shape
 obtain ⟨n,hnn⟩:∃ n,(l).length=n:=⟨_,rfl⟩
 have Hnn:=Yw hnn
 have Hhl:=Yw hl
 unfold maxLen at hCC
 rw [hnn] at hlCC ⊢
 clear hl hnn
 have X0:=Yw ((Yl w).alloc (Xf T))
 have H:=Yw (h.up X0.out)
 have Hb0:=Yw (Xq w T)
 clear h
 have HL:=Yw (show Xz (w.alloc (Xf T)) S' (.slice A n C) l by have:=Hhl.out.ext X0.out;rwa [Hnn.out] at this)
 have Hf:=Yw hf
 have Hu:=Yw hu
 clear hf hu
 rw [Hnn.out] at hj hb
 have d0:decide ((j:Int) < 0)=false:=Yg (by omega)
 have d1:decide ((n:Int)≤(j:Int))=false:=Yg (by omega)
 have d1n:¬ n≤j:=by omega
 go_enter Tryz.func253,Tryz.ntmps253
 go_wp2_with (first|(refine Xy rfl ?_)|(refine Wx Hb0.out (by go_simp) rfl ?_))
 refine (Vr T Hf.out Hu.out _ l _ H.out HL.out).mono ?_
 rintro e w1 ⟨x,rfl,_,hx1⟩
 have Hx:=Yw hx1
 clear hx1
 by_cases h0:x=0
 ·subst h0
  have i0:(0:Int)≤(j:Int):=by omega
  have i1:(j:Int) < (n:Int):=by omega
  obtain ⟨c,hs_c⟩:∃ s,(l)[j]?=some s:=⟨(l)[j]'(by have:=Hnn.out;omega),Zz _⟩
  obtain ⟨g_c,o_c,c_c,hvv,_,_,_,hgl_c,a0_c⟩:=(HL.out.ext Hx.out).get hs_c
  simp only [Ye] at hvv
  obtain ⟨rfl,-,rfl⟩:=hvv
  have Hs_c:=Yw hs_c
  clear hs_c
  have m0:=lat a0_c
  have HW:=Yw (H.out.up Hx.out)
  have hC:∀ w',(∃ p:Wj,w'=later w1 p.n p.os)→Q9 w' w.heap.size T:=fun w' ⟨p,e⟩=>by rw [e];exact (Hb0.out.ext Hx.out).ext (⟨_,_,rfl⟩)
  go_wp2_with fail
  go_cut [50] from 25 to 50 (fun o wx=>∃ q:Bool,o=.bool q∧Ext w1 wx)
  case first =>
   rename_i J1 K1 hJ hM
   cases c1:(c != 8204)
   rotate_left
   ·cases c2:(c != 8205)
    ·by_cases hj0:0 < j
     ·have k0:decide ((0:Int) < (j:Int))=true:=Yf (by omega)
      have k1:decide (0 < j)=true:=Yf hj0
      have r1:=Vx j (by omega) (by omega)
      obtain ⟨jp,hjp⟩:∃ q,j - 1=q:=⟨_,rfl⟩
      rw [hjp] at r1
      have i2:(0:Int)≤(jp:Int):=by omega
      have i3:(jp:Int) < (n:Int):=by omega
      have i4:jp < n:=by omega
      obtain ⟨y,hy0⟩:∃ y,l[jp]?=some y:=⟨l[jp]'(by rw [Hnn.out];omega),Zz _⟩
      obtain ⟨g3,o3,c3,hv3,_,_,_,_,cy⟩:=(HL.out.ext Hx.out).get hy0
      simp only [Ye,Yd,Addr.mk.injEq,true_and,and_true] at hv3
      obtain ⟨⟨rfl,rfl⟩,-,rfl⟩:=hv3
      have m1:=lat cy
      clear hjp
      have hun:=Yb
      refine Y0 (by kernel_rfl) (by kernel_rfl) ?_
      repeat (first|((with_reducible refine Xi ?_ ?_ hC ?_);(focus (go_simp;done));rfl)|((with_reducible refine Yv ?_);intro K hK;go_simp;first|((with_reducible refine hK _ ?_);clear hK K)|(apply Exists.intro;refine ⟨fun _=>?_,hK _ ?_⟩;(first|(go_at_call 266;exact Y8 (Vp T _ _ (HW.out.up (⟨_,_,rfl⟩))))|(go_at_call 148;exact Y8 (Xr T _ _ (HW.out.up (⟨_,_,rfl⟩)))));clear hK K)))
      (with_reducible refine Yu ?_)
      intro w2 hy
      clear hun
      try simp only [Yc]
      first|refine hM _ _ (hJ _ _ ?_)|(go_simp;refine hM _ _ (hJ _ _ ?_))|refine hJ _ _ ?_
      (repeat apply Exists.intro)
      exact ⟨⟨_,rfl,hy⟩,rfl⟩
     have k0:decide ((0:Int) < (j:Int))=false:=Yg (by omega)
     have k1:decide (0 < j)=false:=Yg hj0
     have hun:=Yb
     refine Y0 (by kernel_rfl) (by kernel_rfl) ?_
     repeat (first|((with_reducible refine Xi ?_ ?_ hC ?_);(focus (go_simp;done));rfl)|((with_reducible refine Yv ?_);intro K hK;go_simp;first|((with_reducible refine hK _ ?_);clear hK K)|(apply Exists.intro;refine ⟨fun _=>?_,hK _ ?_⟩;(first|(go_at_call 266;exact Y8 (Vp T _ _ (HW.out.up (⟨_,_,rfl⟩))))|(go_at_call 148;exact Y8 (Xr T _ _ (HW.out.up (⟨_,_,rfl⟩)))));clear hK K)))
     (with_reducible refine Yu ?_)
     intro w2 hy
     clear hun
     try simp only [Yc]
     first|refine hM _ _ (hJ _ _ ?_)|(go_simp;refine hM _ _ (hJ _ _ ?_))|refine hJ _ _ ?_
     (repeat apply Exists.intro)
     exact ⟨⟨_,rfl,hy⟩,rfl⟩
    by_cases hj0:0 < j
    ·have k0:decide ((0:Int) < (j:Int))=true:=Yf (by omega)
     have k1:decide (0 < j)=true:=Yf hj0
     have r1:=Vx j (by omega) (by omega)
     obtain ⟨jp,hjp⟩:∃ q,j - 1=q:=⟨_,rfl⟩
     rw [hjp] at r1
     have i2:(0:Int)≤(jp:Int):=by omega
     have i3:(jp:Int) < (n:Int):=by omega
     have i4:jp < n:=by omega
     obtain ⟨y,hy0⟩:∃ y,l[jp]?=some y:=⟨l[jp]'(by rw [Hnn.out];omega),Zz _⟩
     obtain ⟨g3,o3,c3,hv3,_,_,_,_,cy⟩:=(HL.out.ext Hx.out).get hy0
     simp only [Ye,Yd,Addr.mk.injEq,true_and,and_true] at hv3
     obtain ⟨⟨rfl,rfl⟩,-,rfl⟩:=hv3
     have m1:=lat cy
     clear hjp
     have hun:=Yb
     refine Y0 (by kernel_rfl) (by kernel_rfl) ?_
     repeat (first|((with_reducible refine Xi ?_ ?_ hC ?_);(focus (go_simp;done));rfl)|((with_reducible refine Yv ?_);intro K hK;go_simp;first|((with_reducible refine hK _ ?_);clear hK K)|(apply Exists.intro;refine ⟨fun _=>?_,hK _ ?_⟩;(first|(go_at_call 266;exact Y8 (Vp T _ _ (HW.out.up (⟨_,_,rfl⟩))))|(go_at_call 148;exact Y8 (Xr T _ _ (HW.out.up (⟨_,_,rfl⟩)))));clear hK K)))
     (with_reducible refine Yu ?_)
     intro w2 hy
     clear hun
     try simp only [Yc]
     first|refine hM _ _ (hJ _ _ ?_)|(go_simp;refine hM _ _ (hJ _ _ ?_))|refine hJ _ _ ?_
     (repeat apply Exists.intro)
     exact ⟨⟨_,rfl,hy⟩,rfl⟩
    have k0:decide ((0:Int) < (j:Int))=false:=Yg (by omega)
    have k1:decide (0 < j)=false:=Yg hj0
    have hun:=Yb
    refine Y0 (by kernel_rfl) (by kernel_rfl) ?_
    repeat (first|((with_reducible refine Xi ?_ ?_ hC ?_);(focus (go_simp;done));rfl)|((with_reducible refine Yv ?_);intro K hK;go_simp;first|((with_reducible refine hK _ ?_);clear hK K)|(apply Exists.intro;refine ⟨fun _=>?_,hK _ ?_⟩;(first|(go_at_call 266;exact Y8 (Vp T _ _ (HW.out.up (⟨_,_,rfl⟩))))|(go_at_call 148;exact Y8 (Xr T _ _ (HW.out.up (⟨_,_,rfl⟩)))));clear hK K)))
    (with_reducible refine Yu ?_)
    intro w2 hy
    clear hun
    try simp only [Yc]
    first|refine hM _ _ (hJ _ _ ?_)|(go_simp;refine hM _ _ (hJ _ _ ?_))|refine hJ _ _ ?_
    (repeat apply Exists.intro)
    exact ⟨⟨_,rfl,hy⟩,rfl⟩
   by_cases hj0:0 < j
   ·have k0:decide ((0:Int) < (j:Int))=true:=Yf (by omega)
    have k1:decide (0 < j)=true:=Yf hj0
    have r1:=Vx j (by omega) (by omega)
    obtain ⟨jp,hjp⟩:∃ q,j - 1=q:=⟨_,rfl⟩
    rw [hjp] at r1
    have i2:(0:Int)≤(jp:Int):=by omega
    have i3:(jp:Int) < (n:Int):=by omega
    have i4:jp < n:=by omega
    obtain ⟨y,hy0⟩:∃ y,l[jp]?=some y:=⟨l[jp]'(by rw [Hnn.out];omega),Zz _⟩
    obtain ⟨g3,o3,c3,hv3,_,_,_,_,cy⟩:=(HL.out.ext Hx.out).get hy0
    simp only [Ye,Yd,Addr.mk.injEq,true_and,and_true] at hv3
    obtain ⟨⟨rfl,rfl⟩,-,rfl⟩:=hv3
    have m1:=lat cy
    clear hjp
    have hun:=Yb
    refine Y0 (by kernel_rfl) (by kernel_rfl) ?_
    repeat (first|((with_reducible refine Xi ?_ ?_ hC ?_);(focus (go_simp;done));rfl)|((with_reducible refine Yv ?_);intro K hK;go_simp;first|((with_reducible refine hK _ ?_);clear hK K)|(apply Exists.intro;refine ⟨fun _=>?_,hK _ ?_⟩;(first|(go_at_call 266;exact Y8 (Vp T _ _ (HW.out.up (⟨_,_,rfl⟩))))|(go_at_call 148;exact Y8 (Xr T _ _ (HW.out.up (⟨_,_,rfl⟩)))));clear hK K)))
    (with_reducible refine Yu ?_)
    intro w2 hy
    clear hun
    try simp only [Yc]
    first|refine hM _ _ (hJ _ _ ?_)|(go_simp;refine hM _ _ (hJ _ _ ?_))|refine hJ _ _ ?_
    (repeat apply Exists.intro)
    exact ⟨⟨_,rfl,hy⟩,rfl⟩
   have k0:decide ((0:Int) < (j:Int))=false:=Yg (by omega)
   have k1:decide (0 < j)=false:=Yg hj0
   have hun:=Yb
   refine Y0 (by kernel_rfl) (by kernel_rfl) ?_
   repeat (first|((with_reducible refine Xi ?_ ?_ hC ?_);(focus (go_simp;done));rfl)|((with_reducible refine Yv ?_);intro K hK;go_simp;first|((with_reducible refine hK _ ?_);clear hK K)|(apply Exists.intro;refine ⟨fun _=>?_,hK _ ?_⟩;(first|(go_at_call 266;exact Y8 (Vp T _ _ (HW.out.up (⟨_,_,rfl⟩))))|(go_at_call 148;exact Y8 (Xr T _ _ (HW.out.up (⟨_,_,rfl⟩)))));clear hK K)))
   (with_reducible refine Yu ?_)
   intro w2 hy
   clear hun
   try simp only [Yc]
   first|refine hM _ _ (hJ _ _ ?_)|(go_simp;refine hM _ _ (hJ _ _ ?_))|refine hJ _ _ ?_
   (repeat apply Exists.intro)
   exact ⟨⟨_,rfl,hy⟩,rfl⟩
  obtain ⟨q,rfl,hxq⟩:=hcut
  have Hxq:=Yw (Hx.out.trans hxq)
  clear hxq HW hC m0
  cases q with
  | true =>
   go_wp2_with fail
   go_ret
   exact ⟨_,rfl,X0.out.trans Hxq.out⟩
  | false =>
   have z0:(wc).cell? ⟨w.heap.size,0,none⟩=some T.catV:=(Hb0.out.ext Hxq.out).at_ 0 (by omega)
   have z1:(wc).cell? ⟨w.heap.size,1,none⟩=some T.clsV:=(Hb0.out.ext Hxq.out).at_ 1 (by omega)
   have z2:(wc).cell? ⟨w.heap.size,2,none⟩=some T.joiV:=(Hb0.out.ext Hxq.out).at_ 2 (by omega)
   have z3:(wc).cell? ⟨w.heap.size,3,none⟩=some T.bidV:=(Hb0.out.ext Hxq.out).at_ 3 (by omega)
   have z4:(wc).cell? ⟨w.heap.size,4,none⟩=some T.scrV:=(Hb0.out.ext Hxq.out).at_ 4 (by omega)
   have z5:(wc).cell? ⟨w.heap.size,5,none⟩=some T.staV:=(Hb0.out.ext Hxq.out).at_ 5 (by omega)
   have z6:(wc).cell? ⟨w.heap.size,6,none⟩=some T.ignV:=(Hb0.out.ext Hxq.out).at_ 6 (by omega)
   have z7:(wc).cell? ⟨w.heap.size,7,none⟩=some T.extV:=(Hb0.out.ext Hxq.out).at_ 7 (by omega)
   have z8:(wc).cell? ⟨w.heap.size,8,none⟩=some T.mapV:=(Hb0.out.ext Hxq.out).at_ 8 (by omega)
   have z9:(wc).cell? ⟨w.heap.size,9,none⟩=some T.decV:=(Hb0.out.ext Hxq.out).at_ 9 (by omega)
   have z10:(wc).cell? ⟨w.heap.size,10,none⟩=some T.excV:=(Hb0.out.ext Hxq.out).at_ 10 (by omega)
   have z11:(wc).cell? ⟨w.heap.size,11,none⟩=some T.proV:=(Hb0.out.ext Hxq.out).at_ 11 (by omega)
   go_wp2_with fail
   go_cut [7,8] from 51 to 58 (fun o u wx=>∃ a b:Int,o=.int .i64 a∧u=.int .i64 b∧-1≤a∧a < n∧-1≤b∧b < n∧Ext wc wx)
   case first =>
    rename_i J1 K1 hJ hM
    have hxq:=Hxq.out
    have hbl:=(Hb0.out.ext hxq).lt
    have hjl:j < l.length:=by rw [Hnn.out];exact hj
    have hjb:l.length≤100000:=by rw [Hnn.out];exact hb
    have Hjl:=Yw hjl
    have Hjb:=Yw hjb
    clear hjl hjb
    go_region_with (first|(go_at_call 264;refine (Ci T Hf.out Hu.out _ l j _ (H.out.up (by repeat' first|exact Yl _|assumption|apply Yk|apply Yj|apply Yi|(refine Yh ?_ (by assumption)))) (HL.out.ext (by repeat' first|exact Yl _|assumption|apply Yk|apply Yj|apply Yi|(refine Yh ?_ (by assumption)))) Hjl.out).mono ?_;rintro e w5 ⟨a,rfl,ha1,ha2,hx5⟩;have hq:=fun i=>hx5.cell (p:=⟨w.heap.size,i,none⟩) (by first|exact hbl|(simp;exact hbl)|(have:=hx6.size;simp at this ⊢;omega)))|(go_at_call 265;refine (Rk T Hf.out Hu.out _ l j _ (H.out.up (by repeat' first|exact Yl _|assumption|apply Yk|apply Yj|apply Yi|(refine Yh ?_ (by assumption)))) (HL.out.ext (by repeat' first|exact Yl _|assumption|apply Yk|apply Yj|apply Yi|(refine Yh ?_ (by assumption)))) Hjl.out Hjb.out).mono ?_;rintro e w6 ⟨b,rfl,hb1,hb2,hx6⟩;have hq2:=fun i=>hx6.cell (p:=⟨w.heap.size,i,none⟩) (by first|exact hbl|(simp;exact hbl)|(have:=hx5.size;simp at this ⊢;omega))))
    all_goals
     rw [Hnn.out] at ha2 hb2
     go_simp
     refine hM _ _ (hJ _ _ ?_)
     (repeat apply Exists.intro)
     exact ⟨⟨a,b,rfl,rfl,ha1,ha2,hb1,hb2,(by repeat' first|exact Yl _|assumption|apply Yk|apply Yj|apply Yi|(refine Yh ?_ (by assumption)))⟩,rfl⟩
   obtain ⟨a,b,rfl,rfl,ha1,ha2,hb1,hb2,hxc⟩:=hcut
   have Hxd:=Yw (Hxq.out.trans hxc)
   clear hxc z0 z1 z2 z3 z4 z5 z6 z7 z8 z9 z10 z11 a0_c
   rename World=>wd
   obtain ⟨g4,o4,c4,hv4,_,_,_,_,cj⟩:=(HL.out.ext Hxd.out).get Hs_c.out
   simp only [Ye,Yd,Addr.mk.injEq,true_and,and_true] at hv4
   obtain ⟨⟨rfl,rfl⟩,-,rfl⟩:=hv4
   by_cases ha0:a < 0
   ·have e1:decide (a < 0)=true:=Yf ha0
    cases c5:(c == 8205)
    all_goals
     go_wp2_with fail
     go_ret
     exact ⟨_,rfl,X0.out.trans Hxd.out⟩
   have e1:decide (a < 0)=false:=Yg ha0
   by_cases hb0:b < 0
   ·have e2:decide (b < 0)=true:=Yf hb0
    cases c5:(c == 8205)
    all_goals
     go_wp2_with fail
     go_ret
     exact ⟨_,rfl,X0.out.trans Hxd.out⟩
   have e2:decide (b < 0)=false:=Yg hb0
   obtain ⟨p,rfl⟩:∃ p:Nat,a=(p:Int):=⟨a.toNat,by omega⟩
   obtain ⟨r,rfl⟩:∃ r:Nat,b=(r:Int):=⟨b.toNat,by omega⟩
   cases c5:(c == 8205)
   rotate_left
   ·go_wp2_with fail
    go_ret
    exact ⟨_,rfl,X0.out.trans Hxd.out⟩
   go_wp2_with fail
   have p0:(0:Int)≤(p:Int):=by omega
   have r0:(0:Int)≤(r:Int):=by omega
   have pn:p < n:=by omega
   have rn:r < n:=by omega
   obtain ⟨yp,hyp⟩:∃ y,l[p]?=some y:=⟨l[p]'(by rw [Hnn.out];omega),Zz _⟩
   obtain ⟨yr,hyr⟩:∃ y,l[r]?=some y:=⟨l[r]'(by rw [Hnn.out];omega),Zz _⟩
   obtain ⟨g5,o5,c5',hv5,_,_,_,_,cp⟩:=(HL.out.ext Hxd.out).get hyp
   simp only [Ye,Yd,Addr.mk.injEq,true_and,and_true] at hv5
   obtain ⟨⟨rfl,rfl⟩,-,rfl⟩:=hv5
   obtain ⟨g6,o6,c6,hv6,_,_,_,_,cr⟩:=(HL.out.ext Hxd.out).get hyr
   simp only [Ye,Yd,Addr.mk.injEq,true_and,and_true] at hv6
   obtain ⟨⟨rfl,rfl⟩,-,rfl⟩:=hv6
   have mp:=lat cp
   have mr:=lat cr
   have HW:=Yw (H.out.up Hxd.out)
   have hC:∀ w',(∃ p:Wj,w'=later wd p.n p.os)→Q9 w' w.heap.size T:=fun w' ⟨p,e⟩=>by rw [e];exact (Hb0.out.ext Hxd.out).ext (⟨_,_,rfl⟩)
   have hun:=Yb
   refine Y0 (by kernel_rfl) (by kernel_rfl) ?_
   repeat (first|((with_reducible refine Xi ?_ ?_ hC ?_);(focus (go_simp;done));rfl)|((with_reducible refine Yv ?_);intro K hK;go_simp;first|((with_reducible refine hK _ ?_);clear hK K)|(apply Exists.intro;refine ⟨fun _=>?_,hK _ ?_⟩;(first|(go_at_call 266;exact Y8 (Vp T _ _ (HW.out.up (⟨_,_,rfl⟩))))|(go_at_call 148;exact Y8 (Xr T _ _ (HW.out.up (⟨_,_,rfl⟩)))));clear hK K)))
   (with_reducible refine Yu ?_)
   intro w2 hy
   clear hun
   try simp only [Yc]
   have Hx2:=Yw (Hxd.out.trans hy)
   clear hy HW hC mp mr cp cr
   go_wp2_with fail
   all_goals
    go_ret
    exact ⟨_,rfl,X0.out.trans Hx2.out⟩
 have h0b:(!(x == 0))=true:=by simp [h0]
 have h0c:(x != 0)=true:=h0b
 have h0d:(x == 0)=false:=by simp [h0]
 have h0H:=Yw h0
 clear h0
 go_wp2_with fail
 go_ret
 exact ⟨_,rfl,X0.out.trans Hx.out⟩
theorem Fj {S S':Nat→Prop} (T:Tbl) (hf:Few T) (hu:Uq T) (v:Value) (l:List Int) (w:World) (h:Xm w S T) (hl:Xz w S' v l) (hb:l.length≤100000):Calls Tryz.prog 233 #[Wc T,v] w (Ba w):=by
 obtain ⟨A,C,rfl,hlCC,hCC⟩:=hl.shape
 obtain ⟨n,hnn⟩:∃ n,(l).length=n:=⟨_,rfl⟩
 have Hnn:=Yw hnn
 have Hhl:=Yw hl
 unfold maxLen at hCC
 rw [hnn] at hlCC ⊢
 clear hl hnn
 have X0:=Yw ((Yl w).alloc (Xf T))
 have H:=Yw (h.up X0.out)
 have Hb0:=Yw (Xq w T)
 clear h
 have HL:=Yw (show Xz (w.alloc (Xf T)) S' (.slice A n C) l by have:=Hhl.out.ext X0.out;rwa [Hnn.out] at this)
 have Hf:=Yw hf
 have Hu:=Yw hu
 clear hf hu
 have Hjb:=Yw (show l.length≤100000 by first|exact hb|(rw [Hnn.out];exact hb))
 clear hb
 go_enter Tryz.func233,Tryz.ntmps233
 go_wp2_with (first|(refine Xy rfl ?_)|(refine Y4 Hb0.out rfl ?_))
 refine (Vr T Hf.out Hu.out _ l _ H.out HL.out).mono ?_
 rintro e w1 ⟨x,rfl,_,hx1⟩
 have Hx1:=Yw hx1
 clear hx1
 by_cases h0:x=0
 ·subst h0
  go_wp2_with fail
  go_loopw [16] (fun o wr=>∃ i:Nat,i≤n∧o=.int .i64 (i:Int)∧Ext (w.alloc (Xf T)) wr) (fun o _=>n - (intOf o).toNat)
  case atStart=>exact ⟨0,by omega,rfl,Hx1.out⟩
  clear Hx1
  obtain ⟨i,hi_i,rfl,hx⟩:=hrel
  have Hx:=Yw hx
  clear hx
  by_cases hlt:i < n
  ·have hd_i:decide ((i:Int) < (n:Int))=true:=Yf (by omega)
   have i0_i:(0:Int)≤(i:Int):=by omega
   have i1_i:(i:Int) < (n:Int):=by omega
   go_wp2_with (refine Y4 (Hb0.out.ext Hx.out) rfl ?_)
   refine (Ud T Hf.out Hu.out _ l i _ (H.out.up Hx.out) (HL.out.ext Hx.out) (by rw [Hnn.out];exact hlt) Hjb.out).mono ?_
   rintro e w2 ⟨q,rfl,hx2⟩
   cases q
   ·go_wp2_with fail
    go_ret2
    exact ⟨_,_,rfl,X0.out.trans (Hx.out.trans hx2)⟩
   go_wp2_with fail
   go_roundw
   case rel=>exact ⟨i+1,by omega,by go_num,Hx.out.trans hx2⟩
   case measure=>(simp [intOf];omega)
  have hd_i:decide ((i:Int) < (n:Int))=false:=Yg (by omega)
  go_wp2_with fail
  go_ret2
  exact ⟨_,_,rfl,X0.out.trans Hx.out⟩
 have h0b:(!(x == 0))=true:=by simp [h0]
 have h0c:(x != 0)=true:=h0b
 have h0d:(x == 0)=false:=by simp [h0]
 have h0H:=Yw h0
 clear h0
 go_wp2_with fail
 go_ret2
 exact ⟨_,_,rfl,X0.out.trans Hx1.out⟩
theorem Ef {S S':Nat→Prop} (T:Tbl) (hf:Few T) (hu:Uq T) (v:Value) (l:List Int) (w:World) (h:Xm w S T) (hl:Xz w S' v l) (hb:l.length≤100000):Calls Tryz.prog 234 #[Wc T,v] w (Ba w):=by
 obtain ⟨A,C,rfl,hlCC,hCC⟩:=hl.shape
 obtain ⟨n,hnn⟩:∃ n,(l).length=n:=⟨_,rfl⟩
 have Hnn:=Yw hnn
 have Hhl:=Yw hl
 unfold maxLen at hCC
 rw [hnn] at hlCC ⊢
 clear hl hnn
 have X0:=Yw ((Yl w).alloc (Xf T))
 have H:=Yw (h.up X0.out)
 have Hb0:=Yw (Xq w T)
 clear h
 have HL:=Yw (show Xz (w.alloc (Xf T)) S' (.slice A n C) l by have:=Hhl.out.ext X0.out;rwa [Hnn.out] at this)
 have Hf:=Yw hf
 have Hu:=Yw hu
 clear hf hu
 have Hjb:=Yw (show l.length≤100000 by first|exact hb|(rw [Hnn.out];exact hb))
 clear hb
 go_enter Tryz.func234,Tryz.ntmps234
 go_wp2_with (first|(refine Xy rfl ?_)|(refine Y4 Hb0.out rfl ?_))
 refine (Vr T Hf.out Hu.out _ l _ H.out HL.out).mono ?_
 rintro e w1 ⟨x,rfl,_,hx1⟩
 have Hx1:=Yw hx1
 clear hx1
 by_cases h0:x=0
 ·subst h0
  go_wp2_with fail
  go_loopw [16] (fun o wr=>∃ i:Nat,i≤n∧o=.int .i64 (i:Int)∧Ext (w.alloc (Xf T)) wr) (fun o _=>n - (intOf o).toNat)
  case atStart=>exact ⟨0,by omega,rfl,Hx1.out⟩
  clear Hx1
  obtain ⟨i,hi_i,rfl,hx⟩:=hrel
  have Hx:=Yw hx
  clear hx
  by_cases hlt:i < n
  ·have hd_i:decide ((i:Int) < (n:Int))=true:=Yf (by omega)
   have i0_i:(0:Int)≤(i:Int):=by omega
   have i1_i:(i:Int) < (n:Int):=by omega
   go_wp2_with (refine Y4 (Hb0.out.ext Hx.out) rfl ?_)
   refine (Un T Hf.out Hu.out _ l i _ (H.out.up Hx.out) (HL.out.ext Hx.out) (by rw [Hnn.out];exact hlt) Hjb.out).mono ?_
   rintro e w2 ⟨q,rfl,hx2⟩
   cases q
   ·go_wp2_with fail
    go_ret2
    exact ⟨_,_,rfl,X0.out.trans (Hx.out.trans hx2)⟩
   go_wp2_with fail
   go_roundw
   case rel=>exact ⟨i+1,by omega,by go_num,Hx.out.trans hx2⟩
   case measure=>(simp [intOf];omega)
  have hd_i:decide ((i:Int) < (n:Int))=false:=Yg (by omega)
  go_wp2_with fail
  go_ret2
  exact ⟨_,_,rfl,X0.out.trans Hx.out⟩
 have h0b:(!(x == 0))=true:=by simp [h0]
 have h0c:(x != 0)=true:=h0b
 have h0d:(x == 0)=false:=by simp [h0]
 have h0H:=Yw h0
 clear h0
 go_wp2_with fail
 go_ret2
 exact ⟨_,_,rfl,X0.out.trans Hx1.out⟩
theorem Jp {S S':Nat→Prop} (T:Tbl) (hf:Few T) (hu:Uq T) (v:Value) (l:List Int) (w:World) (h:Xm w S T) (hl:Xz w S' v l) (hb:l.length≤100000):Calls Tryz.prog 215 #[Wc T,v] w (Ka w):=by
 obtain ⟨A,C,rfl,hlCC,hCC⟩:=hl.shape
 obtain ⟨n,hnn⟩:∃ n,(l).length=n:=⟨_,rfl⟩
 have Hnn:=Yw hnn
 have Hhl:=Yw hl
 unfold maxLen at hCC
 rw [hnn] at hlCC ⊢
 clear hl hnn
 have X0:=Yw ((Yl w).alloc (Xf T))
 have H:=Yw (h.up X0.out)
 have Hb0:=Yw (Xq w T)
 clear h
 have HL:=Yw (show Xz (w.alloc (Xf T)) S' (.slice A n C) l by have:=Hhl.out.ext X0.out;rwa [Hnn.out] at this)
 have Hf:=Yw hf
 have Hu:=Yw hu
 clear hf hu
 have Hjb:=Yw (show l.length≤100000 by first|exact hb|(rw [Hnn.out];exact hb))
 clear hb
 go_enter Tryz.func215,Tryz.ntmps215
 go_wp2_with (first|(refine Xy rfl ?_)|(refine Y4 Hb0.out rfl ?_))
 refine (Vr T Hf.out Hu.out _ l _ H.out HL.out).mono ?_
 rintro e w1 ⟨x,rfl,_,hx1⟩
 have Hx1:=Yw hx1
 clear hx1
 by_cases h0:x=0
 ·subst h0
  by_cases hn0:n=0
  ·have hn1:((n:Int) == 0)=true:=by simp [hn0]
   have hn2:(n == 0)=true:=by simp [hn0]
   go_wp2_with fail
   go_ret
   exact ⟨_,rfl,X0.out.trans Hx1.out⟩
  have hn1:((n:Int) == 0)=false:=by simp;omega
  have hn2:(n == 0)=false:=by simp;omega
  have hlt:0 < n:=by omega
  have i0:(0:Int) < (n:Int):=by omega
  clear hn0
  go_wp2_with (refine Y4 (Hb0.out.ext Hx1.out) rfl ?_)
  refine (Zxy T Hf.out Hu.out _ l _ (H.out.up Hx1.out) (HL.out.ext Hx1.out)).mono ?_
  rintro e w2 ⟨q2,rfl,hx2⟩
  have Hx2:=Yw (Hx1.out.trans hx2)
  clear hx2
  cases q2
  ·go_wp2_with fail
   go_ret
   exact ⟨_,rfl,X0.out.trans Hx2.out⟩
  go_wp2_with fail
  refine (Tq _ l _ (HL.out.ext Hx2.out)).mono ?_
  rintro e w3 ⟨q3,rfl,hx3⟩
  have Hx:=Yw (Hx2.out.trans hx3)
  clear hx3 Hx1 Hx2
  cases q3
  ·go_wp2_with fail
   go_ret
   exact ⟨_,rfl,X0.out.trans Hx.out⟩
  obtain ⟨c,hs_c⟩:∃ s,(l)[0]?=some s:=⟨(l)[0]'(by have:=Hnn.out;omega),Zz _⟩
  obtain ⟨g_c,o_c,c_c,hvv,_,_,_,hgl_c,a0_c⟩:=(HL.out.ext Hx.out).get hs_c
  simp only [Ye] at hvv
  obtain ⟨rfl,-,rfl⟩:=hvv
  have Hs_c:=Yw hs_c
  clear hs_c
  rw [Nat.add_zero] at a0_c
  have z0:(w3).cell? ⟨w.heap.size,0,none⟩=some T.catV:=(Hb0.out.ext Hx.out).at_ 0 (by omega)
  have z1:(w3).cell? ⟨w.heap.size,1,none⟩=some T.clsV:=(Hb0.out.ext Hx.out).at_ 1 (by omega)
  have z2:(w3).cell? ⟨w.heap.size,2,none⟩=some T.joiV:=(Hb0.out.ext Hx.out).at_ 2 (by omega)
  have z3:(w3).cell? ⟨w.heap.size,3,none⟩=some T.bidV:=(Hb0.out.ext Hx.out).at_ 3 (by omega)
  have z4:(w3).cell? ⟨w.heap.size,4,none⟩=some T.scrV:=(Hb0.out.ext Hx.out).at_ 4 (by omega)
  have z5:(w3).cell? ⟨w.heap.size,5,none⟩=some T.staV:=(Hb0.out.ext Hx.out).at_ 5 (by omega)
  have z6:(w3).cell? ⟨w.heap.size,6,none⟩=some T.ignV:=(Hb0.out.ext Hx.out).at_ 6 (by omega)
  have z7:(w3).cell? ⟨w.heap.size,7,none⟩=some T.extV:=(Hb0.out.ext Hx.out).at_ 7 (by omega)
  have z8:(w3).cell? ⟨w.heap.size,8,none⟩=some T.mapV:=(Hb0.out.ext Hx.out).at_ 8 (by omega)
  have z9:(w3).cell? ⟨w.heap.size,9,none⟩=some T.decV:=(Hb0.out.ext Hx.out).at_ 9 (by omega)
  have z10:(w3).cell? ⟨w.heap.size,10,none⟩=some T.excV:=(Hb0.out.ext Hx.out).at_ 10 (by omega)
  have z11:(w3).cell? ⟨w.heap.size,11,none⟩=some T.proV:=(Hb0.out.ext Hx.out).at_ 11 (by omega)
  go_wp2_with fail
  go_cut [32] from 33 to 38 (fun o wx=>∃ q:Bool,o=.bool q∧Ext w3 wx)
  case first =>
   rename_i J1 K1 hJ hM
   go_region_with (go_at_call 232;refine (Oo T _ _ (H.out.up (have hx:=Hx.out;(by repeat' first|exact Yl _|assumption|apply Yk|apply Yj|apply Yi|(refine Yh ?_ (by assumption)))))).mono ?_;rintro e w4 ⟨b,rfl,hx4⟩)
   all_goals
    go_simp
    refine hM _ _ (hJ _ _ ?_)
    (repeat apply Exists.intro)
    exact ⟨⟨_,rfl,by first|exact hx4|exact (Yl _).drew.trans hx4|exact ((Yl _).drewN _).trans hx4⟩,rfl⟩
  obtain ⟨q,rfl,hxb⟩:=hcut
  have Hx4:=Yw (Hx.out.trans hxb)
  clear z0 z1 z2 z3 z4 z5 z6 z7 z8 z9 z10 z11 a0_c hxb Hx
  cases q
  rotate_left
  ·go_wp2_with fail
   go_ret
   exact ⟨_,rfl,X0.out.trans Hx4.out⟩
  go_wp2_with fail
  clear hlt i0
  go_loopw [41] (fun o wr=>∃ i:Nat,i≤n∧o=.int .i64 (i:Int)∧Ext (w.alloc (Xf T)) wr) (fun o _=>n - (intOf o).toNat)
  case atStart=>exact ⟨0,by omega,rfl,Hx4.out⟩
  clear Hx4
  obtain ⟨i,hi_i,rfl,hx⟩:=hrel
  have Hx:=Yw hx
  clear hx
  by_cases hlt:i < n
  ·have hd_i:decide ((i:Int) < (n:Int))=true:=Yf (by omega)
   have i0_i:(0:Int)≤(i:Int):=by omega
   have i1_i:(i:Int) < (n:Int):=by omega
   obtain ⟨x,hs_x⟩:∃ s,(l)[i]?=some s:=⟨(l)[i]'(by have:=Hnn.out;omega),Zz _⟩
   obtain ⟨g_x,o_x,c_x,hvv,_,_,_,hgl_x,a0_x⟩:=(HL.out.ext Hx.out).get hs_x
   simp only [Ye,Yd,Addr.mk.injEq,true_and,and_true] at hvv
   obtain ⟨⟨rfl,rfl⟩,-,rfl⟩:=hvv
   have Hs_x:=Yw hs_x
   clear hs_x
   go_wp2_with (refine Y4 (Hb0.out.ext Hx.out) rfl ?_)
   refine (Vb T _ _ (H.out.up Hx.out)).mono ?_
   rintro e w5 ⟨rfl,hx5⟩
   go_wp2_with fail
   all_goals
    have hx:=Hx.out
    first
    | (go_roundw
       case rel=>exact ⟨i+1,by omega,by go_num,(by repeat' first|exact Yl _|assumption|apply Yk|apply Yj|apply Yi|(refine Yh ?_ (by assumption)))⟩
       case measure=>(simp [intOf];omega))
    | (go_ret;exact ⟨_,rfl,X0.out.trans (by repeat' first|exact Yl _|assumption|apply Yk|apply Yj|apply Yi|(refine Yh ?_ (by assumption)))⟩)
  have hd_i:decide ((i:Int) < (n:Int))=false:=Yg (by omega)
  go_wp2_with (refine Y4 (Hb0.out.ext Hx.out) rfl ?_)
  refine (Fj T Hf.out Hu.out _ l _ (H.out.up Hx.out) (HL.out.ext Hx.out) Hjb.out).mono ?_
  rintro e w6 ⟨y,z,rfl,hx6⟩
  have Hx6:=Yw (Hx.out.trans hx6)
  clear hx6
  by_cases hz0:z=0
  ·subst hz0
   go_wp2_with (refine Y4 (Hb0.out.ext Hx6.out) rfl ?_)
   refine (Ef T Hf.out Hu.out _ l _ (H.out.up Hx6.out) (HL.out.ext Hx6.out) Hjb.out).mono ?_
   rintro e w7 ⟨y7,z7,rfl,hx7⟩
   go_wp2_with fail
   go_ret
   exact ⟨_,rfl,X0.out.trans (Hx6.out.trans hx7)⟩
  have hz0b:(!(z == 0))=true:=by simp [hz0]
  have hz0c:(z != 0)=true:=hz0b
  have hz0d:(z == 0)=false:=by simp [hz0]
  have hz0H:=Yw hz0
  clear hz0
  go_wp2_with fail
  go_ret
  exact ⟨_,rfl,X0.out.trans Hx6.out⟩
 have h0b:(!(x == 0))=true:=by simp [h0]
 have h0c:(x != 0)=true:=h0b
 have h0d:(x == 0)=false:=by simp [h0]
 have h0H:=Yw h0
 clear h0
 go_wp2_with fail
 go_ret
 exact ⟨_,rfl,X0.out.trans Hx1.out⟩
end Go.Proofs.YtnbclgbicnpmnaaGreat
