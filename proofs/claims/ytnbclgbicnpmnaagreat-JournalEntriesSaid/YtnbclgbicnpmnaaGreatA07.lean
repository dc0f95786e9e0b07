/- Lemmas of this claim: Ga, Gc, Gd. Conditions: as named. -/
import Derived.Test.YtnbclgbicnpmnaaGreatA06
namespace Go.Proofs.YtnbclgbicnpmnaaGreat
open Go.RowKit Go.Sort
open List renaming getElem?_eq_getElem → Zz, mem_of_getElem? → Zy, length_append → Zs, take_of_length_le → Zm, take_add_one → Za
open Lib renaming hid → Yw
open Go renaming wpQuiet_step → Yv, wpQuiet_nil → Yu
open IntWalk renaming i64_in → Yq
open Ext renaming refl → Yl, alloc → Yk, drewN → Yj, drew → Yi, trans → Yh
set_option maxHeartbeats 40000000
set_option maxRecDepth 100000
set_option linter.all false
theorem Zzf {S:Nat→Prop} (T:Tbl) (hg:Eu T) (w:World) (h:Xm w S T):Calls Tryz.prog 105 #[Wc T] w (Pg w):=by
 have G:=Yw hg
 have hx3:=hg.xlen
 clear hg
 obtain ⟨A3,C3,he3,hl3,hc3⟩:=h.exc.shape
 unfold maxLen at hc3
 have X0:=Yw ((Yl w).alloc (Xf T))
 have H:=Yw (h.up X0.out)
 have Hb0:=Yw (Xq w T)
 clear h
 go_enter Tryz.func105,Tryz.ntmps105
 go_wp2_with (first|(refine Xy rfl ?_)|(refine Y4 Hb0.out rfl ?_)|(go_at_call 137;refine (F8 T _ H.out).mono ?_;rintro e w1 ⟨g1,g2,rfl,hc,hc2,hx1⟩))
 have Hc:=Yw hc
 have Hx1:=Yw hx1
 clear hc hx1 hc2
 go_loopw [17] (fun o wr=>∃ i:Nat,i≤7∧o=.int .i64 (i:Int)∧Ext w1 wr) (fun o _=>7 - (intOf o).toNat)
 case atStart=>exact ⟨0,by omega,rfl,Yl _⟩
 obtain ⟨i,hi,rfl,hx⟩:=hrel
 have Hx:=Yw hx
 clear hx
 by_cases hlt:i < 7
 ·have hd:decide ((i:Int) < (7:Int))=true:=Yf (by omega)
  have i0:(0:Int)≤(i:Int):=by omega
  have i1:(i:Int) < (7:Int):=by omega
  have H:=Yw (H.out.up Hx1.out)
  obtain ⟨p,hp⟩:∃ p,(Su T)[i]?=some p:=⟨(Su T)[i]'(by have:(Su T).length=7:=rfl;omega),Zz _⟩
  have hrow:=Zuv H.out p (Zy hp)
  have c0:=(Hc.out.ext Hx.out).at_ i p.1 (by simp [hp])
  obtain ⟨A1,C1,e1,hl1,hc1⟩:=hrow.shape
  rw [e1] at c0 hrow
  unfold maxLen at hc1
  obtain ⟨m,hm⟩:∃ m,p.2.length=m:=⟨_,rfl⟩
  have Hm:=Yw hm
  have Hp:=Yw hp
  have Hrow:=Yw hrow
  rw [hm] at c0 hl1
  clear hrow hm hp e1
  have hml:m≤256:=by
   obtain ⟨z,hz⟩:∃ z,Bg[i]?=some z:=⟨Bg[i]'(by show i < 7;exact hlt),Zz _⟩
   have:=(G.out.sp i p z Hp.out hz).len;rw [Hm.out] at this;exact this
  have d1:decide ((256:Int) < (m:Int))=false:=Yg (by omega)
  go_wp2_with fail
  go_roundw
  case rel=>exact ⟨i+1,by omega,by go_num,Hx.out⟩
  case measure=>simp [intOf];omega
 have hd:decide ((i:Int) < (7:Int))=false:=Yg (by omega)
 have Hx1:=Yw (Hx1.out.trans Hx.out)
 clear Hx Hc
 go_wp2_with (first|(refine Y4 (Hb0.out.ext Hx1.out) rfl ?_)|(go_at_call 138;refine (Kf T _ (H.out.up Hx1.out)).mono ?_;rintro e w2 ⟨g3,rfl,hc,hx2⟩))
 have Hc:=Yw hc
 have Hx2:=Yw (Hx1.out.trans hx2)
 clear hc hx2 Hx1
 go_loopw [29] (fun o wr=>∃ i:Nat,i≤4∧o=.int .i64 (i:Int)∧Ext w2 wr) (fun o _=>4 - (intOf o).toNat)
 case atStart=>exact ⟨0,by omega,rfl,Yl _⟩
 clear hlt hd hi
 obtain ⟨i,hi,rfl,hx⟩:=hrel
 have Hx:=Yw hx
 clear hx
 by_cases hlt:i < 4
 ·have hd:decide ((i:Int) < (4:Int))=true:=Yf (by omega)
  have i0:(0:Int)≤(i:Int):=by omega
  have i1:(i:Int) < (4:Int):=by omega
  have H:=Yw (H.out.up Hx2.out)
  obtain ⟨p,hp⟩:∃ p,(Sj T)[i]?=some p:=⟨(Sj T)[i]'(by have:(Sj T).length=4:=rfl;omega),Zz _⟩
  have hrow:=Zxf H.out p (Zy hp)
  have c0:=(Hc.out.ext Hx.out).at_ i p.1 (by simp [hp])
  obtain ⟨A1,C1,e1,hl1,hc1⟩:=hrow.shape
  rw [e1] at c0 hrow
  unfold maxLen at hc1
  obtain ⟨m,hm⟩:∃ m,p.2.length=m:=⟨_,rfl⟩
  have Hm:=Yw hm
  have Hp:=Yw hp
  have Hrow:=Yw hrow
  rw [hm] at c0 hl1
  clear hrow hm hp e1
  have hml:m≤256:=by
   have:=(G.out.mp i p Hp.out).len;rw [Hm.out] at this;exact this
  have d1:decide ((256:Int) < (m:Int))=false:=Yg (by omega)
  go_wp2_with fail
  go_roundw
  case rel=>exact ⟨i+1,by omega,by go_num,Hx.out⟩
  case measure=>simp [intOf];omega
 have hd:decide ((i:Int) < (4:Int))=false:=Yg (by omega)
 have b10:=(Hb0.out.ext (Hx2.out.trans Hx.out)).at_ 10 (by omega)
 rw [show (Ve T)[10]?=some T.excV from rfl,he3] at b10
 have d3:decide ((T.exc.length:Int)≤256)=true:=Yf (by omega)
 go_wp2_with fail
 go_ret
 exact ⟨rfl,(X0.out.trans Hx2.out).trans Hx.out⟩
theorem Ss {S:Nat→Prop} (T:Tbl) (hg:Eu T) (w:World) (h:Xm w S T):Calls Tryz.prog 106 #[Wc T] w (Pg w):=by
 have G:=Yw hg
 clear hg
 obtain ⟨A10,C10,e10,hl10,hc10⟩:=h.exc.shape
 have h10:=h.exc.ext ((Yl w).alloc (Xf T))
 obtain ⟨n10,hn10⟩:∃ n,T.exc.length=n:=⟨_,rfl⟩
 rw [hn10] at e10 hl10
 rw [e10] at h10
 have Hn10:=Yw hn10
 have E10:=Yw e10
 have H10:=Yw h10
 unfold maxLen at hc10
 clear hn10 e10 h10
 have X0:=Yw ((Yl w).alloc (Xf T))
 have H:=Yw (h.up X0.out)
 have Hb0:=Yw (Xq w T)
 clear h
 go_enter Tryz.func106,Tryz.ntmps106
 go_wp2_with (first|(refine Xy rfl ?_)|(refine Y4 Hb0.out rfl ?_)|(go_at_call 137;refine (F8 T _ H.out).mono ?_;rintro e w1 ⟨g1,g2,rfl,hc,hc2,hx1⟩))
 have Hc:=Yw hc
 have Hx1:=Yw hx1
 clear hc hx1 hc2
 go_loopw [23] (fun o wr=>∃ i:Nat,i≤7∧o=.int .i64 (i:Int)∧Ext w1 wr) (fun o _=>7 - (intOf o).toNat)
 case atStart=>exact ⟨0,by omega,rfl,Yl _⟩
 obtain ⟨i,hi_i,rfl,hx⟩:=hrel
 have Hx:=Yw hx
 clear hx
 have Hy:=Yw (Hx1.out.trans Hx.out)
 by_cases hlt:i < 7
 ·have hd_i:decide ((i:Int) < (7:Int))=true:=Yf (by omega)
  have i0_i:(0:Int)≤(i:Int):=by omega
  have i1_i:(i:Int) < (7:Int):=by omega
  obtain ⟨p,hp⟩:∃ p,(Su T)[i]?=some p:=⟨(Su T)[i]'(by have:(Su T).length=7:=rfl;omega),Zz _⟩
  have hrow:=Zuv H.out p (Zy hp)
  have c0:=(Hc.out.ext Hx.out).at_ i p.1 (by simp [hp])
  obtain ⟨A1,C1,e1,hl1,hc1⟩:=hrow.shape
  rw [e1] at c0 hrow
  unfold maxLen at hc1
  obtain ⟨m,hm⟩:∃ m,p.2.length=m:=⟨_,rfl⟩
  have Hm:=Yw hm
  have Hp:=Yw hp
  have Hrow:=Yw hrow
  rw [hm] at c0 hl1
  clear hrow hm hp e1
  obtain ⟨z,hz⟩:∃ z,Bg[i]?=some z:=⟨Bg[i]'(by show i < 7;exact hlt),Zz _⟩
  have OK:=Yw (G.out.sp i p z Hp.out hz)
  clear hz
  go_wp2_with (go_at_call 139;refine (Ra _ p.2 z _ (by have:=Hrow.out.ext Hy.out;rw [Hm.out] at this;exact this) OK.out).mono ?_;rintro e w2 ⟨rfl,hx2⟩)
  have Hz:=Yw (Hx.out.trans hx2)
  have Hlt:=Yw hlt
  clear Hx hx2 Hy hlt
  go_loopw [32] (fun o wr=>∃ i:Nat,i≤m∧o=.int .i64 (i:Int)∧Ext w1 wr) (fun o _=>m - (intOf o).toNat)
  case atStart=>exact ⟨0,by omega,rfl,Hz.out⟩
  obtain ⟨j,hi_j,rfl,hx⟩:=hrel
  have Hx:=Yw hx
  clear hx
  have Hy:=Yw (Hx1.out.trans Hx.out)
  by_cases hlt:j < m
  ·have hd_j:decide ((j:Int) < (m:Int))=true:=Yf (by omega)
   have i0_j:(0:Int)≤(j:Int):=by omega
   have i1_j:(j:Int) < (m:Int):=by omega
   obtain ⟨x,hs_x⟩:∃ s,(p.2)[j]?=some s:=⟨(p.2)[j]'(by have:=Hm.out;omega),Zz _⟩
   obtain ⟨g_x,o_x,c_x,hvv,_,_,_,hgl_x,a0_x,a1_x,a2_x⟩:=(Hrow.out.ext Hy.out).get hs_x
   simp only [Ye] at hvv
   obtain ⟨rfl,-,rfl⟩:=hvv
   have Hs_x:=Yw hs_x
   clear hs_x
   obtain ⟨_,r2,_,r4,_,_⟩:=OK.out.in_ x (Zy Hs_x.out)
   have R2:=Yw r2
   have R4:=Yw r4
   clear r2 r4
   go_wp2_with (go_at_call 140;refine (Zyn _ _ _ R2.out R4.out _).mono ?_;rintro e w3 ⟨rfl,hx3⟩)
   all_goals
    have hx:=Hx.out
    first
    | (go_roundw
       case rel=>exact ⟨j+1,by omega,by go_num,(by repeat' first|exact Yl _|assumption|apply Yk|apply Yj|apply Yi|(refine Yh ?_ (by assumption)))⟩
       case measure=>(simp [intOf];omega))
    | (go_ret;exact ⟨rfl,X0.out.trans (Hx1.out.trans (by repeat' first|exact Yl _|assumption|apply Yk|apply Yj|apply Yi|(refine Yh ?_ (by assumption))))⟩)
  have hd_j:decide ((j:Int) < (m:Int))=false:=Yg (by omega)
  have hlt2:=Hlt.out
  go_wp2_with fail
  all_goals
   have hx:=Hx.out
   first
   | (go_roundw
      case rel=>exact ⟨i+1,by omega,by go_num,(by repeat' first|exact Yl _|assumption|apply Yk|apply Yj|apply Yi|(refine Yh ?_ (by assumption)))⟩
      case measure=>(simp [intOf];omega))
   | (go_ret;exact ⟨rfl,X0.out.trans (Hx1.out.trans (by repeat' first|exact Yl _|assumption|apply Yk|apply Yj|apply Yi|(refine Yh ?_ (by assumption))))⟩)
 have hd_i:decide ((i:Int) < (7:Int))=false:=Yg (by omega)
 go_wp2_with (first|(refine Y4 (Hb0.out.ext Hy.out) rfl ?_)|(go_at_call 138;refine (Kf T _ (H.out.up Hy.out)).mono ?_;rintro e w2 ⟨g3,rfl,hc,hx2⟩))
 have Hx1:=Yw (Hy.out.trans hx2)
 have Hc:=Yw hc
 clear hc hx2 Hx Hy hlt hd_i hi_i
 go_loopw [45] (fun o wr=>∃ i:Nat,i≤4∧o=.int .i64 (i:Int)∧Ext w2 wr) (fun o _=>4 - (intOf o).toNat)
 case atStart=>exact ⟨0,by omega,rfl,Yl _⟩
 obtain ⟨k,hi_k,rfl,hx⟩:=hrel
 have Hx:=Yw hx
 clear hx
 have Hy:=Yw (Hx1.out.trans Hx.out)
 by_cases hlt:k < 4
 ·have hd_k:decide ((k:Int) < (4:Int))=true:=Yf (by omega)
  have i0_k:(0:Int)≤(k:Int):=by omega
  have i1_k:(k:Int) < (4:Int):=by omega
  obtain ⟨p,hp⟩:∃ p,(Sj T)[k]?=some p:=⟨(Sj T)[k]'(by have:(Sj T).length=4:=rfl;omega),Zz _⟩
  have hrow:=Zxf H.out p (Zy hp)
  have c0:=(Hc.out.ext Hx.out).at_ k p.1 (by simp [hp])
  obtain ⟨A1,C1,e1,hl1,hc1⟩:=hrow.shape
  rw [e1] at c0 hrow
  unfold maxLen at hc1
  obtain ⟨m,hm⟩:∃ m,p.2.length=m:=⟨_,rfl⟩
  have Hm:=Yw hm
  have Hp:=Yw hp
  have Hrow:=Yw hrow
  rw [hm] at c0 hl1
  clear hrow hm hp e1
  have OK:=Yw (G.out.mp k p Hp.out)
  go_wp2_with fail
  have Hz:=Yw Hx.out
  have Hlt:=Yw hlt
  clear Hx Hy hlt
  go_loopw [52] (fun o wr=>∃ i:Nat,i≤m∧o=.int .i64 (i:Int)∧Ext w2 wr) (fun o _=>m - (intOf o).toNat)
  case atStart=>exact ⟨0,by omega,rfl,Hz.out⟩
  obtain ⟨j,hi_j,rfl,hx⟩:=hrel
  have Hx:=Yw hx
  clear hx
  have Hy:=Yw (Hx1.out.trans Hx.out)
  by_cases hlt:j < m
  ·have hd_j:decide ((j:Int) < (m:Int))=true:=Yf (by omega)
   have i0_j:(0:Int)≤(j:Int):=by omega
   have i1_j:(j:Int) < (m:Int):=by omega
   obtain ⟨x,hs_x⟩:∃ s,(p.2)[j]?=some s:=⟨(p.2)[j]'(by have:=Hm.out;omega),Zz _⟩
   obtain ⟨g_x,o_x,c_x,hvv,_,_,_,hgl_x,a0_x,a1_x,_⟩:=(Hrow.out.ext Hy.out).get hs_x
   simp only [Ye] at hvv
   obtain ⟨rfl,-,rfl⟩:=hvv
   have ti_x:=Hrow.out.2 _ (Zy hs_x)
   obtain ⟨A_x,C_x,tv_x,tl_x,tc_x⟩:=ti_x.shape
   obtain ⟨n_x,hn_x⟩:∃ n,x.to_.length=n:=⟨_,rfl⟩
   rw [tv_x] at a1_x ti_x
   rw [hn_x] at a1_x tl_x
   have Hn_x:=Yw hn_x
   unfold maxLen at tc_x
   have Hs_x:=Yw hs_x
   have Ti_x:=Yw ti_x
   clear hs_x ti_x tv_x hn_x
   go_wp2_with fail
   obtain ⟨W,hW⟩:∃ W,wr.alloc (.cells #[.int .i64 x.fr,.slice A_x n_x C_x] 106)=W:=⟨_,rfl⟩
   have m0:=lat (show W.cell? ⟨wr.heap.size,0,none⟩=some (.int .i64 x.fr) by (rw [← hW];clear hW;go_simp))
   have hxw:Ext wr W:=by rw [← hW];exact (Yl _).alloc _
   rw [hW]
   clear hW
   obtain ⟨r1,r2,r3,_,_⟩:=OK.out.in_ x (Zy Hs_x.out)
   have q1:decide (x.fr < 0)=false:=Yg (by omega)
   have q2:decide (1114111 < x.fr)=false:=Yg (by omega)
   have R3:=Yw r3
   clear r1 r2 r3
   rcases Nat.eq_zero_or_pos j with hj0|hj0
   ·have q6:decide ((0:Int) < (j:Int))=false:=Yg (by omega)
    have q7:decide (0 < j)=false:=Yg (by omega)
    clear hj0
    rcases R3.out with q8 | ⟨q9,q10⟩
    ·have hun:=Yb
     refine Y0 (by kernel_rfl) (by kernel_rfl) ?_
     repeat ((with_reducible refine Yv ?_);intro K hK;go_simp;first|((with_reducible refine hK _ ?_);clear hK K)|(apply Exists.intro;refine ⟨fun _=>?_,hK _ ?_⟩;(first|(go_at_call 141;exact Xv (Kv _ _))|(go_at_call 142;exact Xv (Gu _ _)));clear hK K))
     (with_reducible refine Yu ?_)
     intro w9 hy9
     clear hun
     try simp only [Yc]
     go_wp2_with fail
     all_goals
      have hx:=Hx.out
      first
      | (go_roundw
         case rel=>exact ⟨j+1,by omega,by go_num,(by repeat' first|exact Yl _|assumption|apply Yk|apply Yj|apply Yi|(refine Yh ?_ (by assumption)))⟩
         case measure=>(simp [intOf];omega))
      | (go_ret;exact ⟨rfl,X0.out.trans (Hx1.out.trans (by repeat' first|exact Yl _|assumption|apply Yk|apply Yj|apply Yi|(refine Yh ?_ (by assumption))))⟩)
    cases q8:P9 x.fr
    ·have hun:=Yb
     refine Y0 (by kernel_rfl) (by kernel_rfl) ?_
     repeat ((with_reducible refine Yv ?_);intro K hK;go_simp;first|((with_reducible refine hK _ ?_);clear hK K)|(apply Exists.intro;refine ⟨fun _=>?_,hK _ ?_⟩;(first|(go_at_call 141;exact Xv (Kv _ _))|(go_at_call 142;exact Xv (Gu _ _)));clear hK K))
     (with_reducible refine Yu ?_)
     intro w9 hy9
     clear hun
     try simp only [Yc]
     go_wp2_with fail
     all_goals
      have hx:=Hx.out
      first
      | (go_roundw
         case rel=>exact ⟨j+1,by omega,by go_num,(by repeat' first|exact Yl _|assumption|apply Yk|apply Yj|apply Yi|(refine Yh ?_ (by assumption)))⟩
         case measure=>(simp [intOf];omega))
      | (go_ret;exact ⟨rfl,X0.out.trans (Hx1.out.trans (by repeat' first|exact Yl _|assumption|apply Yk|apply Yj|apply Yi|(refine Yh ?_ (by assumption))))⟩)
    have hun:=Yb
    refine Y0 (by kernel_rfl) (by kernel_rfl) ?_
    repeat ((with_reducible refine Yv ?_);intro K hK;go_simp;first|((with_reducible refine hK _ ?_);clear hK K)|(apply Exists.intro;refine ⟨fun _=>?_,hK _ ?_⟩;(first|(go_at_call 141;exact Xv (Kv _ _))|(go_at_call 142;exact Xv (Gu _ _)));clear hK K))
    (with_reducible refine Yu ?_)
    intro w9 hy9
    clear hun
    try simp only [Yc]
    go_wp2_with fail
    all_goals
     have hx:=Hx.out
     first
     | (go_roundw
        case rel=>exact ⟨j+1,by omega,by go_num,(by repeat' first|exact Yl _|assumption|apply Yk|apply Yj|apply Yi|(refine Yh ?_ (by assumption)))⟩
        case measure=>(simp [intOf];omega))
     | (go_ret;exact ⟨rfl,X0.out.trans (Hx1.out.trans (by repeat' first|exact Yl _|assumption|apply Yk|apply Yj|apply Yi|(refine Yh ?_ (by assumption))))⟩)
   have q6:decide ((0:Int) < (j:Int))=true:=Yf (by omega)
   have q7:decide (0 < j)=true:=Yf (by omega)
   obtain ⟨y,hy⟩:∃ s,p.2[j - 1]?=some s:=⟨p.2[j - 1]'(by have:=Hm.out;omega),Zz _⟩
   have q5:decide (x.fr≤y.fr)=false:=Yg (by have h1:=OK.out.lt j x y hj0 Hs_x.out hy;omega)
   obtain ⟨g',o',c',hvv,_,_,_,_,d1,_⟩:=(Hrow.out.ext Hy.out).get hy
   simp only [Ye,Yd,Addr.mk.injEq,true_and,and_true] at hvv
   obtain ⟨⟨rfl,rfl⟩,rfl⟩:=hvv
   have m2:=lat ((hxw.cell (p:=⟨g_x,o_x+(j - 1) * 2,none⟩) hgl_x).trans d1)
   have w1':=Vx j hj0 (by omega)
   have w2':(1:Int)≤(j:Int):=by omega
   have w3':(0:Int)≤((j - 1:Nat):Int):=by omega
   have w4':((j - 1:Nat):Int) < (m:Int):=by omega
   clear hy hj0
   rcases R3.out with q8 | ⟨q9,q10⟩
   ·have hun:=Yb
    refine Y0 (by kernel_rfl) (by kernel_rfl) ?_
    repeat ((with_reducible refine Yv ?_);intro K hK;go_simp;first|((with_reducible refine hK _ ?_);clear hK K)|(apply Exists.intro;refine ⟨fun _=>?_,hK _ ?_⟩;(first|(go_at_call 141;exact Xv (Kv _ _))|(go_at_call 142;exact Xv (Gu _ _)));clear hK K))
    (with_reducible refine Yu ?_)
    intro w9 hy9
    clear hun
    try simp only [Yc]
    go_wp2_with fail
    all_goals
     have hx:=Hx.out
     first
     | (go_roundw
        case rel=>exact ⟨j+1,by omega,by go_num,(by repeat' first|exact Yl _|assumption|apply Yk|apply Yj|apply Yi|(refine Yh ?_ (by assumption)))⟩
        case measure=>(simp [intOf];omega))
     | (go_ret;exact ⟨rfl,X0.out.trans (Hx1.out.trans (by repeat' first|exact Yl _|assumption|apply Yk|apply Yj|apply Yi|(refine Yh ?_ (by assumption))))⟩)
   cases q8:P9 x.fr
   ·have hun:=Yb
    refine Y0 (by kernel_rfl) (by kernel_rfl) ?_
    repeat ((with_reducible refine Yv ?_);intro K hK;go_simp;first|((with_reducible refine hK _ ?_);clear hK K)|(apply Exists.intro;refine ⟨fun _=>?_,hK _ ?_⟩;(first|(go_at_call 141;exact Xv (Kv _ _))|(go_at_call 142;exact Xv (Gu _ _)));clear hK K))
    (with_reducible refine Yu ?_)
    intro w9 hy9
    clear hun
    try simp only [Yc]
    go_wp2_with fail
    all_goals
     have hx:=Hx.out
     first
     | (go_roundw
        case rel=>exact ⟨j+1,by omega,by go_num,(by repeat' first|exact Yl _|assumption|apply Yk|apply Yj|apply Yi|(refine Yh ?_ (by assumption)))⟩
        case measure=>(simp [intOf];omega))
     | (go_ret;exact ⟨rfl,X0.out.trans (Hx1.out.trans (by repeat' first|exact Yl _|assumption|apply Yk|apply Yj|apply Yi|(refine Yh ?_ (by assumption))))⟩)
   have hun:=Yb
   refine Y0 (by kernel_rfl) (by kernel_rfl) ?_
   repeat ((with_reducible refine Yv ?_);intro K hK;go_simp;first|((with_reducible refine hK _ ?_);clear hK K)|(apply Exists.intro;refine ⟨fun _=>?_,hK _ ?_⟩;(first|(go_at_call 141;exact Xv (Kv _ _))|(go_at_call 142;exact Xv (Gu _ _)));clear hK K))
   (with_reducible refine Yu ?_)
   intro w9 hy9
   clear hun
   try simp only [Yc]
   go_wp2_with fail
   all_goals
    have hx:=Hx.out
    first
    | (go_roundw
       case rel=>exact ⟨j+1,by omega,by go_num,(by repeat' first|exact Yl _|assumption|apply Yk|apply Yj|apply Yi|(refine Yh ?_ (by assumption)))⟩
       case measure=>(simp [intOf];omega))
    | (go_ret;exact ⟨rfl,X0.out.trans (Hx1.out.trans (by repeat' first|exact Yl _|assumption|apply Yk|apply Yj|apply Yi|(refine Yh ?_ (by assumption))))⟩)
  have hd_j:decide ((j:Int) < (m:Int))=false:=Yg (by omega)
  have hlt2:=Hlt.out
  go_wp2_with fail
  all_goals
   have hx:=Hx.out
   first
   | (go_roundw
      case rel=>exact ⟨k+1,by omega,by go_num,(by repeat' first|exact Yl _|assumption|apply Yk|apply Yj|apply Yi|(refine Yh ?_ (by assumption)))⟩
      case measure=>(simp [intOf];omega))
   | (go_ret;exact ⟨rfl,X0.out.trans (Hx1.out.trans (by repeat' first|exact Yl _|assumption|apply Yk|apply Yj|apply Yi|(refine Yh ?_ (by assumption))))⟩)
 have hd_k:decide ((k:Int) < (4:Int))=false:=Yg (by omega)
 have b10:=(Hb0.out.ext Hy.out).at_ 10 (by omega)
 rw [show (Ve T)[10]?=some T.excV from rfl,E10.out] at b10
 go_wp2_with fail
 have Hz:=Yw Hx.out
 clear Hx Hy hlt hd_k hi_k b10
 go_loopw [100] (fun o wr=>∃ i:Nat,i≤n10∧o=.int .i64 (i:Int)∧Ext w2 wr) (fun o _=>n10 - (intOf o).toNat)
 case atStart=>exact ⟨0,by omega,rfl,Hz.out⟩
 obtain ⟨j,hi_j,rfl,hx⟩:=hrel
 have Hx:=Yw hx
 clear hx
 have Hy:=Yw (Hx1.out.trans Hx.out)
 by_cases hlt:j < n10
 ·have hd_j:decide ((j:Int) < (n10:Int))=true:=Yf (by omega)
  have i0_j:(0:Int)≤(j:Int):=by omega
  have i1_j:(j:Int) < (n10:Int):=by omega
  obtain ⟨x,hs_x⟩:∃ s,(T.exc)[j]?=some s:=⟨(T.exc)[j]'(by have:=Hn10.out;omega),Zz _⟩
  obtain ⟨g_x,o_x,c_x,hvv,_,_,_,hgl_x,a0_x⟩:=(H10.out.ext Hy.out).get hs_x
  simp only [Ye] at hvv
  obtain ⟨rfl,-,rfl⟩:=hvv
  have Hs_x:=Yw hs_x
  clear hs_x
  have b10:=(Hb0.out.ext Hy.out).at_ 10 (by omega)
  rw [show (Ve T)[10]?=some T.excV from rfl,E10.out] at b10
  obtain ⟨r1,r2,r3,_⟩:=G.out.xin x (Zy Hs_x.out)
  have q1:decide (x < 0)=false:=Yg (by omega)
  have q2:decide (1114111 < x)=false:=Yg (by omega)
  have R3:=Yw r3
  clear r1 r2 r3
  rcases Nat.eq_zero_or_pos j with hj0|hj0
  ·have q6:decide ((0:Int) < (j:Int))=false:=Yg (by omega)
   have q7:decide (0 < j)=false:=Yg (by omega)
   clear hj0
   go_wp2_with (go_at_call 141;refine (Kv _ _).mono ?_;rintro e w' ⟨rfl,rfl⟩;rw [R3.out])
   all_goals
    have hx:=Hx.out
    first
    | (go_roundw
       case rel=>exact ⟨j+1,by omega,by go_num,(by repeat' first|exact Yl _|assumption|apply Yk|apply Yj|apply Yi|(refine Yh ?_ (by assumption)))⟩
       case measure=>(simp [intOf];omega))
    | (go_ret;exact ⟨rfl,X0.out.trans (Hx1.out.trans (by repeat' first|exact Yl _|assumption|apply Yk|apply Yj|apply Yi|(refine Yh ?_ (by assumption))))⟩)
  have q6:decide ((0:Int) < (j:Int))=true:=Yf (by omega)
  have q7:decide (0 < j)=true:=Yf (by omega)
  obtain ⟨y,hy⟩:∃ s,T.exc[j - 1]?=some s:=⟨T.exc[j - 1]'(by have:=Hn10.out;omega),Zz _⟩
  have q5:decide (x≤y)=false:=Yg (by have h1:=G.out.xlt j x y hj0 Hs_x.out hy;omega)
  obtain ⟨g',o',c',hvv,_,_,_,_,d1⟩:=(H10.out.ext Hy.out).get hy
  simp only [Ye,Yd,Addr.mk.injEq,true_and,and_true] at hvv
  obtain ⟨⟨rfl,rfl⟩,-,rfl⟩:=hvv
  have w1':=Vx j hj0 (by omega)
  have w2':(1:Int)≤(j:Int):=by omega
  have w3':(0:Int)≤((j - 1:Nat):Int):=by omega
  have w4':((j - 1:Nat):Int) < (n10:Int):=by omega
  clear hy
  go_wp2_with (go_at_call 141;refine (Kv _ _).mono ?_;rintro e w' ⟨rfl,rfl⟩;rw [R3.out])
  all_goals
   have hx:=Hx.out
   first
   | (go_roundw
      case rel=>exact ⟨j+1,by omega,by go_num,(by repeat' first|exact Yl _|assumption|apply Yk|apply Yj|apply Yi|(refine Yh ?_ (by assumption)))⟩
      case measure=>(simp [intOf];omega))
   | (go_ret;exact ⟨rfl,X0.out.trans (Hx1.out.trans (by repeat' first|exact Yl _|assumption|apply Yk|apply Yj|apply Yi|(refine Yh ?_ (by assumption))))⟩)
 have hd_j:decide ((j:Int) < (n10:Int))=false:=Yg (by omega)
 go_wp2_with fail
 all_goals
  have hx:=Hx.out
  first
  | (go_roundw
     case rel=>exact ⟨j+1,by omega,by go_num,(by repeat' first|exact Yl _|assumption|apply Yk|apply Yj|apply Yi|(refine Yh ?_ (by assumption)))⟩
     case measure=>(simp [intOf];omega))
  | (go_ret;exact ⟨rfl,X0.out.trans (Hx1.out.trans (by repeat' first|exact Yl _|assumption|apply Yk|apply Yj|apply Yi|(refine Yh ?_ (by assumption))))⟩)
theorem Tj {l:List Sp} {i:Nat} {x:Sp} (h:l[i]?=some x):((l.take (i+1)).filter fun s=>s.val == 3).length=((l.take i).filter fun s=>s.val == 3).length+if x.val == 3 then 1 else 0:=by
 rw [Za,h,Option.toList_some,List.filter_append,Zs]
 cases hb:x.val == 3<;>simp [List.filter,hb]
theorem Tw {S:Nat→Prop} (T:Tbl) (hg:Eu T) (w:World) (h:Xm w S T):Calls Tryz.prog 109 #[Wc T] w (Pg w):=by
 have G:=Yw hg
 have hlen:T.sta.length≤256:=(hg.sp 5 _ 4 rfl rfl).len
 clear hg
 obtain ⟨A5,C5,e5,hl5,hc5⟩:=h.sta.shape
 have h5:=h.sta.ext ((Yl w).alloc (Xf T))
 obtain ⟨n5,hn5⟩:∃ n,T.sta.length=n:=⟨_,rfl⟩
 rw [hn5] at e5 hl5
 rw [e5] at h5
 have Hn5:=Yw hn5
 have E5:=Yw e5
 have H5:=Yw h5
 unfold maxLen at hc5
 clear hn5 e5 h5
 rw [Hn5.out] at hlen
 obtain ⟨A8,C8,e8,hl8,hc8⟩:=h.map.shape
 have h8:=h.map.ext ((Yl w).alloc (Xf T))
 obtain ⟨n8,hn8⟩:∃ n,T.map.length=n:=⟨_,rfl⟩
 rw [hn8] at e8 hl8
 rw [e8] at h8
 have Hn8:=Yw hn8
 have E8:=Yw e8
 have H8:=Yw h8
 unfold maxLen at hc8
 clear hn8 e8 h8
 have X0:=Yw ((Yl w).alloc (Xf T))
 have H:=Yw (h.up X0.out)
 have Hb0:=Yw (Xq w T)
 clear h
 have Hx:=Yw (Yl (w.alloc (Xf T)))
 have b5:=(Hb0.out.ext Hx.out).at_ 5 (by omega)
 rw [show (Ve T)[5]?=some T.staV from rfl,E5.out] at b5
 go_enter Tryz.func109,Tryz.ntmps109
 go_wp2_with (refine Xy rfl ?_)
 clear b5
 go_loopw [14,3] (fun o y wr=>∃ i:Nat,i≤n5∧o=.int .i64 (i:Int)∧(∃ z:Nat,y=.int .i64 (z:Int)∧z≤i∧z=((T.sta.take i).filter fun s=>s.val == 3).length)∧Ext (w.alloc (Xf T)) wr) (fun o _ _=>n5 - (intOf o).toNat)
 case atStart=>exact ⟨0,by omega,rfl,⟨0,rfl,by omega,by simp⟩,Yl _⟩
 clear Hx
 obtain ⟨i,hi_i,rfl,⟨z,rfl,hzi,hz⟩,hx⟩:=hrel
 have Hx:=Yw hx
 have Hz:=Yw hz
 clear hx hz
 by_cases hlt:i < n5
 ·have hd_i:decide ((i:Int) < (n5:Int))=true:=Yf (by omega)
  have i0_i:(0:Int)≤(i:Int):=by omega
  have i1_i:(i:Int) < (n5:Int):=by omega
  obtain ⟨x,hs_x⟩:∃ s,(T.sta)[i]?=some s:=⟨(T.sta)[i]'(by have:=Hn5.out;omega),Zz _⟩
  obtain ⟨g_x,o_x,c_x,hvv,_,_,_,hgl_x,a0_x,a1_x,a2_x⟩:=(H5.out.ext Hx.out).get hs_x
  simp only [Ye] at hvv
  obtain ⟨rfl,-,rfl⟩:=hvv
  have Hs_x:=Yw hs_x
  clear hs_x
  have r2:=((G.out.sp 5 _ 4 rfl rfl).in_ x (Zy Hs_x.out)).2.1
  have Ht:=Yw (Tj Hs_x.out)
  obtain ⟨fr,to_,val⟩:=x
  simp only at r2 a0_x a1_x a2_x
  subst r2
  have p1:IntKind.i64.wrap (0+1)=1:=by rfl
  have p2:IntKind.i64.wrap 0=0:=by rfl
  have p3:IntKind.i64.wrap ((z:Int)+1)=((z+1:Nat):Int):=by rw [Yq _ (by omega)];omega
  have p4:to_ - to_=0:=by omega
  cases hv:(val == 3)
  ·go_wp2_with fail
   have hx:=Hx.out
   go_roundw
   case rel=>exact ⟨i+1,by omega,by go_num,⟨z,rfl,by omega,by rw [Ht.out,Hz.out];simp only;rw [hv];rfl⟩,(by repeat' first|exact Yl _|assumption|apply Yk|apply Yj|apply Yi|(refine Yh ?_ (by assumption)))⟩
   case measure=>(simp [intOf];omega)
  go_wp2_with fail
  have hx:=Hx.out
  go_roundw
  case rel=>exact ⟨i+1,by omega,by go_num,⟨z+1,by first|rfl|go_num,by omega,by rw [Ht.out,Hz.out];simp only;rw [hv];rfl⟩,(by repeat' first|exact Yl _|assumption|apply Yk|apply Yj|apply Yi|(refine Yh ?_ (by assumption)))⟩
  case measure=>(simp [intOf];omega)
 have hd_i:decide ((i:Int) < (n5:Int))=false:=Yg (by omega)
 have b8:=(Hb0.out.ext Hx.out).at_ 8 (by omega)
 rw [show (Ve T)[8]?=some T.mapV from rfl,E8.out] at b8
 have hzm:z=n8:=by
  rw [Hz.out,Zm (by rw [Hn5.out];omega),G.out.cnt,Hn8.out]
 have hz1:((z:Int) == (n8:Int))=true:=by simp [hzm]
 have hz2:(!((z:Int) == (n8:Int)))=false:=by rw [hz1];rfl
 have hz3:((z:Int) != (n8:Int))=false:=hz2
 have hz4:(z == n8)=true:=by simp [hzm]
 clear hzm
 go_wp2_with fail
 have Hx1:=Yw Hx.out
 clear Hx hz2 hz3 hz1 hz4 b8 hlt hd_i hi_i
 go_loopw [38] (fun o wr=>∃ i:Nat,i≤n8∧o=.int .i64 (i:Int)∧Ext (w.alloc (Xf T)) wr) (fun o _=>n8 - (intOf o).toNat)
 case atStart=>exact ⟨0,by omega,rfl,Hx1.out⟩
 clear Hx1
 obtain ⟨k,hi_k,rfl,hx⟩:=hrel
 have Hx:=Yw hx
 clear hx
 by_cases hlt:k < n8
 ·have hd_k:decide ((k:Int) < (n8:Int))=true:=Yf (by omega)
  have i0_k:(0:Int)≤(k:Int):=by omega
  have i1_k:(k:Int) < (n8:Int):=by omega
  obtain ⟨m,hs_m⟩:∃ s,(T.map)[k]?=some s:=⟨(T.map)[k]'(by have:=Hn8.out;omega),Zz _⟩
  obtain ⟨g_m,o_m,c_m,hvv,_,_,_,hgl_m,a0_m,a1_m,_⟩:=(H8.out.ext Hx.out).get hs_m
  simp only [Ye] at hvv
  obtain ⟨rfl,-,rfl⟩:=hvv
  have ti_m:=H8.out.2 _ (Zy hs_m)
  obtain ⟨A_m,C_m,tv_m,tl_m,tc_m⟩:=ti_m.shape
  obtain ⟨n_m,hn_m⟩:∃ n,m.to_.length=n:=⟨_,rfl⟩
  rw [tv_m] at a1_m ti_m
  rw [hn_m] at a1_m tl_m
  have Hn_m:=Yw hn_m
  unfold maxLen at tc_m
  have Hs_m:=Yw hs_m
  have Ti_m:=Yw ti_m
  clear hs_m ti_m tv_m hn_m
  have HS:=Yw (G.out.mapS m (Zy Hs_m.out)).1
  go_wp2_with (first|(refine Y4 (Hb0.out.ext (have hx:=Hx.out;(by repeat' first|exact Yl _|assumption|apply Yk|apply Yj|apply Yi|(refine Yh ?_ (by assumption))))) rfl ?_)|(go_at_call 144;refine (Vb T _ _ (H.out.up (have hx:=Hx.out;(by repeat' first|exact Yl _|assumption|apply Yk|apply Yj|apply Yi|(refine Yh ?_ (by assumption)))))).mono ?_;rintro e w1 ⟨rfl,hx1⟩;rw [HS.out];have hc1:=fun k=>hx1.cell (p:=⟨wr.heap.size,k,none⟩) (by simp)))
  have hx:=Hx.out
  have Hxk:=Yw (show Ext (w.alloc (Xf T)) w1 from (by repeat' first|exact Yl _|assumption|apply Yk|apply Yj|apply Yi|(refine Yh ?_ (by assumption))))
  clear hx hx1 Hx hc1 HS
  have Hkl:=Yw hlt
  clear hlt
  go_loopw [50] (fun o wr=>∃ i:Nat,i≤n_m∧o=.int .i64 (i:Int)∧Ext (w.alloc (Xf T)) wr) (fun o _=>n_m - (intOf o).toNat)
  case atStart=>exact ⟨0,by omega,rfl,Hxk.out⟩
  obtain ⟨j,hi_j,rfl,hx⟩:=hrel
  have Hx:=Yw hx
  clear hx
  by_cases hlt:j < n_m
  ·have hd_j:decide ((j:Int) < (n_m:Int))=true:=Yf (by omega)
   have i0_j:(0:Int)≤(j:Int):=by omega
   have i1_j:(j:Int) < (n_m:Int):=by omega
   obtain ⟨c,hs_c⟩:∃ s,(m.to_)[j]?=some s:=⟨(m.to_)[j]'(by have:=Hn_m.out;omega),Zz _⟩
   obtain ⟨g_c,o_c,c_c,hvv,_,_,_,hgl_c,a0_c⟩:=(Ti_m.out.ext Hx.out).get hs_c
   simp only [Ye] at hvv
   obtain ⟨rfl,-,rfl⟩:=hvv
   have Hs_c:=Yw hs_c
   clear hs_c
   have HS:=Yw ((G.out.mapS m (Zy Hs_m.out)).2 c (Zy Hs_c.out))
   go_wp2_with (first|(refine Y4 (Hb0.out.ext (have hx:=Hx.out;(by repeat' first|exact Yl _|assumption|apply Yk|apply Yj|apply Yi|(refine Yh ?_ (by assumption))))) rfl ?_)|(go_at_call 144;refine (Vb T _ _ (H.out.up (have hx:=Hx.out;(by repeat' first|exact Yl _|assumption|apply Yk|apply Yj|apply Yi|(refine Yh ?_ (by assumption)))))).mono ?_;rintro e w1 ⟨rfl,hx1⟩;rw [HS.out]))
   all_goals
    have hx:=Hx.out
    first
    | (go_roundw
       case rel=>exact ⟨j+1,by omega,by go_num,(by repeat' first|exact Yl _|assumption|apply Yk|apply Yj|apply Yi|(refine Yh ?_ (by assumption)))⟩
       case measure=>(simp [intOf];omega))
    | (go_ret;exact ⟨rfl,X0.out.trans (by repeat' first|exact Yl _|assumption|apply Yk|apply Yj|apply Yi|(refine Yh ?_ (by assumption)))⟩)
  have hd_j:decide ((j:Int) < (n_m:Int))=false:=Yg (by omega)
  have hkl:=Hkl.out
  go_wp2_with fail
  all_goals
   have hx:=Hx.out
   first
   | (go_roundw
      case rel=>exact ⟨k+1,by omega,by go_num,(by repeat' first|exact Yl _|assumption|apply Yk|apply Yj|apply Yi|(refine Yh ?_ (by assumption)))⟩
      case measure=>(simp [intOf];omega))
   | (go_ret;exact ⟨rfl,X0.out.trans (by repeat' first|exact Yl _|assumption|apply Yk|apply Yj|apply Yi|(refine Yh ?_ (by assumption)))⟩)
 have hd_k:decide ((k:Int) < (n8:Int))=false:=Yg (by omega)
 go_wp2_with fail
 all_goals
  have hx:=Hx.out
  first
  | (go_roundw
     case rel=>exact ⟨k+1,by omega,by go_num,(by repeat' first|exact Yl _|assumption|apply Yk|apply Yj|apply Yi|(refine Yh ?_ (by assumption)))⟩
     case measure=>(simp [intOf];omega))
  | (go_ret;exact ⟨rfl,X0.out.trans (by repeat' first|exact Yl _|assumption|apply Yk|apply Yj|apply Yi|(refine Yh ?_ (by assumption)))⟩)
theorem Sy {S:Nat→Prop} (T:Tbl) (hg:Eu T) (w:World) (h:Xm w S T):Calls Tryz.prog 110 #[Wc T] w (Pg w):=by
 have G:=Yw hg
 have Hf:=Yw hg.few
 clear hg
 obtain ⟨A9,C9,e9,hl9,hc9⟩:=h.dec.shape
 have h9:=h.dec.ext ((Yl w).alloc (Xf T))
 obtain ⟨n9,hn9⟩:∃ n,T.dec.length=n:=⟨_,rfl⟩
 rw [hn9] at e9 hl9
 rw [e9] at h9
 have Hn9:=Yw hn9
 have E9:=Yw e9
 have H9:=Yw h9
 unfold maxLen at hc9
 clear hn9 e9 h9
 have X0:=Yw ((Yl w).alloc (Xf T))
 have H:=Yw (h.up X0.out)
 have Hb0:=Yw (Xq w T)
 clear h
 have Hx:=Yw (Yl (w.alloc (Xf T)))
 have b9:=(Hb0.out.ext Hx.out).at_ 9 (by omega)
 rw [show (Ve T)[9]?=some T.decV from rfl,E9.out] at b9
 go_enter Tryz.func110,Tryz.ntmps110
 go_wp2_with (refine Xy rfl ?_)
 clear b9
 go_loopw [14] (fun o wr=>∃ i:Nat,i≤n9∧o=.int .i64 (i:Int)∧Ext (w.alloc (Xf T)) wr) (fun o _=>n9 - (intOf o).toNat)
 case atStart=>exact ⟨0,by omega,rfl,Yl _⟩
 clear Hx
 obtain ⟨i,hi_i,rfl,hx⟩:=hrel
 have Hx:=Yw hx
 clear hx
 by_cases hlt:i < n9
 ·have hd_i:decide ((i:Int) < (n9:Int))=true:=Yf (by omega)
  have i0_i:(0:Int)≤(i:Int):=by omega
  have i1_i:(i:Int) < (n9:Int):=by omega
  obtain ⟨m,hs_m⟩:∃ s,(T.dec)[i]?=some s:=⟨(T.dec)[i]'(by have:=Hn9.out;omega),Zz _⟩
  obtain ⟨g_m,o_m,c_m,hvv,_,_,_,hgl_m,a0_m,a1_m,_⟩:=(H9.out.ext Hx.out).get hs_m
  simp only [Ye] at hvv
  obtain ⟨rfl,-,rfl⟩:=hvv
  have ti_m:=H9.out.2 _ (Zy hs_m)
  obtain ⟨A_m,C_m,tv_m,tl_m,tc_m⟩:=ti_m.shape
  obtain ⟨n_m,hn_m⟩:∃ n,m.to_.length=n:=⟨_,rfl⟩
  rw [tv_m] at a1_m ti_m
  rw [hn_m] at a1_m tl_m
  have Hn_m:=Yw hn_m
  unfold maxLen at tc_m
  have Hs_m:=Yw hs_m
  have Ti_m:=Yw ti_m
  clear hs_m ti_m tv_m hn_m
  have h2:=(G.out.dec2 m (Zy Hs_m.out)).1
  rw [Hn_m.out] at h2
  have d1:decide ((2:Int) < (n_m:Int))=false:=Yg (by omega)
  go_wp2_with fail
  have Hxk:=Yw (Hx.out.alloc (.cells #[.int .i64 m.fr,.slice A_m n_m C_m] 106))
  have Hkl:=Yw hlt
  clear Hx hlt d1 h2
  go_loopw [25] (fun o wr=>∃ i:Nat,i≤n_m∧o=.int .i64 (i:Int)∧Ext (w.alloc (Xf T)) wr) (fun o _=>n_m - (intOf o).toNat)
  case atStart=>exact ⟨0,by omega,rfl,Hxk.out⟩
  obtain ⟨j,hi_j,rfl,hx⟩:=hrel
  have Hx:=Yw hx
  clear hx
  by_cases hlt:j < n_m
  ·have hd_j:decide ((j:Int) < (n_m:Int))=true:=Yf (by omega)
   have i0_j:(0:Int)≤(j:Int):=by omega
   have i1_j:(j:Int) < (n_m:Int):=by omega
   obtain ⟨c,hs_c⟩:∃ s,(m.to_)[j]?=some s:=⟨(m.to_)[j]'(by have:=Hn_m.out;omega),Zz _⟩
   obtain ⟨g_c,o_c,c_c,hvv,_,_,_,hgl_c,a0_c⟩:=(Ti_m.out.ext Hx.out).get hs_c
   simp only [Ye] at hvv
   obtain ⟨rfl,-,rfl⟩:=hvv
   have Hs_c:=Yw hs_c
   clear hs_c
   obtain ⟨r1,r2,r3⟩:=(G.out.dec2 m (Zy Hs_m.out)).2 c (Zy Hs_c.out)
   have q1:(c == 46)=false:=by simp [r1]
   have HY:=Yw r2
   have HJ:=Yw r3
   clear r1 r2 r3
   go_wp2_with (first|(go_at_call 113;refine (Ql _ _).mono ?_;rintro e w' ⟨rfl,rfl⟩;rw [HY.out])|(go_at_call 145;refine (Ez _ _).mono ?_;rintro e w' ⟨rfl,rfl⟩;rw [HJ.out]))
   all_goals
    have hx:=Hx.out
    first
    | (go_roundw
       case rel=>exact ⟨j+1,by omega,by go_num,(by repeat' first|exact Yl _|assumption|apply Yk|apply Yj|apply Yi|(refine Yh ?_ (by assumption)))⟩
       case measure=>(simp [intOf];omega))
    | (go_ret;exact ⟨rfl,X0.out.trans (by repeat' first|exact Yl _|assumption|apply Yk|apply Yj|apply Yi|(refine Yh ?_ (by assumption)))⟩)
  have hd_j:decide ((j:Int) < (n_m:Int))=false:=Yg (by omega)
  have hkl:=Hkl.out
  go_wp2_with fail
  all_goals
   have hx:=Hx.out
   first
   | (go_roundw
      case rel=>exact ⟨i+1,by omega,by go_num,(by repeat' first|exact Yl _|assumption|apply Yk|apply Yj|apply Yi|(refine Yh ?_ (by assumption)))⟩
      case measure=>(simp [intOf];omega))
   | (go_ret;exact ⟨rfl,X0.out.trans (by repeat' first|exact Yl _|assumption|apply Yk|apply Yj|apply Yi|(refine Yh ?_ (by assumption)))⟩)
 have hd_i:decide ((i:Int) < (n9:Int))=false:=Yg (by omega)
 have b9:=(Hb0.out.ext Hx.out).at_ 9 (by omega)
 rw [show (Ve T)[9]?=some T.decV from rfl,E9.out] at b9
 go_wp2_with fail
 have Hx1:=Yw Hx.out
 clear Hx hlt hd_i hi_i b9
 go_loopw [44] (fun o wr=>∃ i:Nat,i≤n9∧o=.int .i64 (i:Int)∧Ext (w.alloc (Xf T)) wr) (fun o _=>n9 - (intOf o).toNat)
 case atStart=>exact ⟨0,by omega,rfl,Hx1.out⟩
 clear Hx1
 obtain ⟨k,hi_k,rfl,hx⟩:=hrel
 have Hx:=Yw hx
 clear hx
 by_cases hlt:k < n9
 ·have hd_k:decide ((k:Int) < (n9:Int))=true:=Yf (by omega)
  have i0_k:(0:Int)≤(k:Int):=by omega
  have i1_k:(k:Int) < (n9:Int):=by omega
  obtain ⟨m,hs_m⟩:∃ s,(T.dec)[k]?=some s:=⟨(T.dec)[k]'(by have:=Hn9.out;omega),Zz _⟩
  obtain ⟨g_m,o_m,c_m,hvv,_,_,_,hgl_m,a0_m,a1_m,_⟩:=(H9.out.ext Hx.out).get hs_m
  simp only [Ye] at hvv
  obtain ⟨rfl,-,rfl⟩:=hvv
  have ti_m:=H9.out.2 _ (Zy hs_m)
  obtain ⟨A_m,C_m,tv_m,tl_m,tc_m⟩:=ti_m.shape
  obtain ⟨n_m,hn_m⟩:∃ n,m.to_.length=n:=⟨_,rfl⟩
  rw [tv_m] at a1_m ti_m
  rw [hn_m] at a1_m tl_m
  have Hn_m:=Yw hn_m
  unfold maxLen at tc_m
  have Hs_m:=Yw hs_m
  have Ti_m:=Yw ti_m
  clear hs_m ti_m tv_m hn_m
  obtain ⟨r,hfull⟩:=Option.isSome_iff_exists.1 (G.out.fin m (Zy Hs_m.out))
  have Hfull:=Yw hfull
  clear hfull
  go_wp2_with (first|(refine Y4 (Hb0.out.ext (have hx:=Hx.out;(by repeat' first|exact Yl _|assumption|apply Yk|apply Yj|apply Yi|(refine Yh ?_ (by assumption))))) rfl ?_)|(go_at_call 146;refine (Bs T m.fr _ (H.out.up (have hx:=Hx.out;(by repeat' first|exact Yl _|assumption|apply Yk|apply Yj|apply Yi|(refine Yh ?_ (by assumption))))) Hf.out).mono ?_;rintro e w5 hp;unfold Qf at hp;rw [Hfull.out] at hp;obtain ⟨v5,rfl,hv5,hx5⟩:=hp))
  all_goals
   have hx:=Hx.out
   first
   | (go_roundw
      case rel=>exact ⟨k+1,by omega,by go_num,(by repeat' first|exact Yl _|assumption|apply Yk|apply Yj|apply Yi|(refine Yh ?_ (by assumption)))⟩
      case measure=>(simp [intOf];omega))
   | (go_ret;exact ⟨rfl,X0.out.trans (by repeat' first|exact Yl _|assumption|apply Yk|apply Yj|apply Yi|(refine Yh ?_ (by assumption)))⟩)
 have hd_k:decide ((k:Int) < (n9:Int))=false:=Yg (by omega)
 go_wp2_with fail
 all_goals
  have hx:=Hx.out
  first
  | (go_roundw
     case rel=>exact ⟨k+1,by omega,by go_num,(by repeat' first|exact Yl _|assumption|apply Yk|apply Yj|apply Yi|(refine Yh ?_ (by assumption)))⟩
     case measure=>(simp [intOf];omega))
  | (go_ret;exact ⟨rfl,X0.out.trans (by repeat' first|exact Yl _|assumption|apply Yk|apply Yj|apply Yi|(refine Yh ?_ (by assumption)))⟩)
theorem Ex {S:Nat→Prop} (T:Tbl) (hg:Eu T) (w:World) (h:Xm w S T):Calls Tryz.prog 75 #[Wc T] w fun e w'=>e=.returned (.int .i64 0)∧Ext w w':=by
 obtain ⟨A9,C9,e9,hl9,hc9⟩:=h.dec.shape
 have h9:=h.dec.ext ((Yl w).alloc (Xf T))
 obtain ⟨n9,hn9⟩:∃ n,T.dec.length=n:=⟨_,rfl⟩
 rw [hn9] at e9 hl9
 rw [e9] at h9
 have Hn9:=Yw hn9
 have E9:=Yw e9
 have H9:=Yw h9
 unfold maxLen at hc9
 clear hn9 e9 h9
 obtain ⟨A10,C10,e10,hl10,hc10⟩:=h.exc.shape
 have h10:=h.exc.ext ((Yl w).alloc (Xf T))
 obtain ⟨n10,hn10⟩:∃ n,T.exc.length=n:=⟨_,rfl⟩
 rw [hn10] at e10 hl10
 rw [e10] at h10
 have Hn10:=Yw hn10
 have E10:=Yw e10
 have H10:=Yw h10
 unfold maxLen at hc10
 clear hn10 e10 h10
 obtain ⟨A11,C11,e11,hl11,hc11⟩:=h.pro.shape
 have h11:=h.pro.ext ((Yl w).alloc (Xf T))
 obtain ⟨n11,hn11⟩:∃ n,T.pro.length=n:=⟨_,rfl⟩
 rw [hn11] at e11 hl11
 rw [e11] at h11
 have Hn11:=Yw hn11
 have E11:=Yw e11
 have H11:=Yw h11
 unfold maxLen at hc11
 clear hn11 e11 h11
 have X0:=Yw ((Yl w).alloc (Xf T))
 have H:=Yw (h.up X0.out)
 have Hb0:=Yw (Xq w T)
 clear h
 have G:=Yw hg
 have Hf:=Yw hg.few
 have Hu:=Yw hg.uq
 have HF:=Yw hg.fin
 clear hg
 have Hx_0:=Yw (Yl (w.alloc (Xf T)))
 go_enter Tryz.func75,Tryz.ntmps75
 go_wp2_with (first|(refine Xy rfl ?_)|(refine Y4 Hb0.out rfl ?_))
 refine (Zzf T G.out _ H.out).mono ?_
 rintro e w1 ⟨rfl,hx1⟩
 have Hx_w1:=Yw (Hx_0.out.trans hx1)
 clear hx1
 go_wp2_with (refine Y4 (Hb0.out.ext Hx_w1.out) rfl ?_)
 refine (Ss T G.out _ (H.out.up Hx_w1.out)).mono ?_
 rintro e w2 ⟨rfl,hx2⟩
 have Hx_w2:=Yw (Hx_w1.out.trans hx2)
 clear hx2
 go_wp2_with (refine Y4 (Hb0.out.ext Hx_w2.out) rfl ?_)
 refine (Rj T G.out _ (H.out.up Hx_w2.out)).mono ?_
 rintro e w3 ⟨rfl,hx3⟩
 have Hx_w3:=Yw (Hx_w2.out.trans hx3)
 clear hx3
 go_wp2_with (refine Y4 (Hb0.out.ext Hx_w3.out) rfl ?_)
 refine (Zzx T G.out _ (H.out.up Hx_w3.out)).mono ?_
 rintro e w4 ⟨rfl,hx4⟩
 have Hx_w4:=Yw (Hx_w3.out.trans hx4)
 clear hx4
 go_wp2_with (refine Y4 (Hb0.out.ext Hx_w4.out) rfl ?_)
 refine (Tw T G.out _ (H.out.up Hx_w4.out)).mono ?_
 rintro e w5 ⟨rfl,hx5⟩
 have Hx_w5:=Yw (Hx_w4.out.trans hx5)
 clear hx5
 go_wp2_with (refine Y4 (Hb0.out.ext Hx_w5.out) rfl ?_)
 refine (Sy T G.out _ (H.out.up Hx_w5.out)).mono ?_
 rintro e w6 ⟨rfl,hx6⟩
 have Hx:=Yw (Hx_w5.out.trans hx6)
 clear hx6 Hx_0 Hx_w1 Hx_w2 Hx_w3 Hx_w4 Hx_w5
 have b10:=(Hb0.out.ext Hx.out).at_ 10 (by omega)
 rw [show (Ve T)[10]?=some T.excV from rfl,E10.out] at b10
 go_wp2_with fail
 clear b10
 have Hx1:=Yw Hx.out
 clear Hx
 go_loopw [40] (fun o wr=>∃ i:Nat,i≤n10∧o=.int .i64 (i:Int)∧Ext (w.alloc (Xf T)) wr) (fun o _=>n10 - (intOf o).toNat)
 case atStart=>exact ⟨0,by omega,rfl,Hx1.out⟩
 clear Hx1
 obtain ⟨i,hi_i,rfl,hx⟩:=hrel
 have Hx:=Yw hx
 clear hx
 by_cases hlt:i < n10
 ·have hd_i:decide ((i:Int) < (n10:Int))=true:=Yf (by omega)
  have i0_i:(0:Int)≤(i:Int):=by omega
  have i1_i:(i:Int) < (n10:Int):=by omega
  obtain ⟨x,hs_x⟩:∃ s,(T.exc)[i]?=some s:=⟨(T.exc)[i]'(by have:=Hn10.out;omega),Zz _⟩
  obtain ⟨g_x,o_x,c_x,hvv,_,_,_,hgl_x,a0_x⟩:=(H10.out.ext Hx.out).get hs_x
  simp only [Ye] at hvv
  obtain ⟨rfl,-,rfl⟩:=hvv
  have Hs_x:=Yw hs_x
  clear hs_x
  have b9:=(Hb0.out.ext Hx.out).at_ 9 (by omega)
  rw [show (Ve T)[9]?=some T.decV from rfl,E9.out] at b9
  obtain ⟨FA,FC,ef,fl,fc⟩:=(Vd (S:=S) (c:=x) H9.out.2).shape
  obtain ⟨d,hd⟩:∃ d,(Xg T.dec x).length=d:=⟨_,rfl⟩
  have hd0:0 < d:=by rw [← hd];exact List.length_pos_iff.2 (G.out.xin x (Zy Hs_x.out)).2.2.2
  rw [hd] at ef
  have d1:((d:Int) == 0)=false:=by simp;omega
  have d2:(d == 0)=false:=by simp;omega
  have d3:¬ d=0:=by omega
  clear hd
  go_wp2_with (go_at_call 111;refine (Xc _ T.dec x _ (H9.out.ext Hx.out)).mono ?_;rintro e w7 ⟨rfl,hx7⟩)
  have hx:=Hx.out
  go_roundw
  case rel=>exact ⟨i+1,by omega,by go_num,(by repeat' first|exact Yl _|assumption|apply Yk|apply Yj|apply Yi|(refine Yh ?_ (by assumption)))⟩
  case measure=>(simp [intOf];omega)
 have hd_i:decide ((i:Int) < (n10:Int))=false:=Yg (by omega)
 have b9:=(Hb0.out.ext Hx.out).at_ 9 (by omega)
 rw [show (Ve T)[9]?=some T.decV from rfl,E9.out] at b9
 go_wp2_with fail
 have Hx1:=Yw Hx.out
 clear Hx hlt hd_i hi_i b9
 go_loopw [54] (fun o wr=>∃ i:Nat,i≤n9∧o=.int .i64 (i:Int)∧Ext (w.alloc (Xf T)) wr) (fun o _=>n9 - (intOf o).toNat)
 case atStart=>exact ⟨0,by omega,rfl,Hx1.out⟩
 clear Hx1
 obtain ⟨i,hi_i,rfl,hx⟩:=hrel
 have Hx:=Yw hx
 clear hx
 by_cases hlt:i < n9
 ·have hd_i:decide ((i:Int) < (n9:Int))=true:=Yf (by omega)
  have i0_i:(0:Int)≤(i:Int):=by omega
  have i1_i:(i:Int) < (n9:Int):=by omega
  obtain ⟨a,hs_a⟩:∃ s,(T.dec)[i]?=some s:=⟨(T.dec)[i]'(by have:=Hn9.out;omega),Zz _⟩
  obtain ⟨g_a,o_a,c_a,hvv,_,_,_,hgl_a,a0_a,a1_a,_⟩:=(H9.out.ext Hx.out).get hs_a
  simp only [Ye] at hvv
  obtain ⟨rfl,-,rfl⟩:=hvv
  have ti_a:=H9.out.2 _ (Zy hs_a)
  obtain ⟨A_a,C_a,tv_a,tl_a,tc_a⟩:=ti_a.shape
  obtain ⟨n_a,hn_a⟩:∃ n,a.to_.length=n:=⟨_,rfl⟩
  rw [tv_a] at a1_a ti_a
  rw [hn_a] at a1_a tl_a
  have Hn_a:=Yw hn_a
  unfold maxLen at tc_a
  have Hs_a:=Yw hs_a
  have Ti_a:=Yw ti_a
  clear hs_a ti_a tv_a hn_a
  have b9:=(Hb0.out.ext Hx.out).at_ 9 (by omega)
  rw [show (Ve T)[9]?=some T.decV from rfl,E9.out] at b9
  have hbl:=(Hb0.out.ext Hx.out).lt
  have hic:i≤C9:=by omega
  have hic2:(i:Int)≤(C9:Int):=by omega
  go_wp2_with fail
  have Hxa:=Yw (Hx.out.alloc (.cells #[.int .i64 a.fr,.slice A_a n_a C_a] 106))
  have Hba:=Yw (Q4 wr #[.int .i64 a.fr,.slice A_a n_a C_a] 106 _ rfl)
  have Hlt:=Yw hlt
  clear Hx hlt b9 hbl a0_a a1_a hgl_a
  rename World=>wo
  go_loopw [64] (fun o wr=>∃ j:Nat,j≤i∧o=.int .i64 (j:Int)∧Ext (wo.alloc (.cells #[.int .i64 a.fr,.slice A_a n_a C_a] 106)) wr) (fun o _=>i - (intOf o).toNat)
  case atStart=>exact ⟨0,by omega,rfl,Yl _⟩
  obtain ⟨j,hi_j,rfl,hx⟩:=hrel
  have Hx:=Yw hx
  clear hx
  have Hy:=Yw (Hxa.out.trans Hx.out)
  have hi9:=Hlt.out
  by_cases hlt:j < i
  ·have hd_j:decide ((j:Int) < (i:Int))=true:=Yf (by omega)
   have i0_j:(0:Int)≤(j:Int):=by omega
   have i1_j:(j:Int) < (i:Int):=by omega
   obtain ⟨b,hs_b⟩:∃ s,(T.dec)[j]?=some s:=⟨(T.dec)[j]'(by have:=Hn9.out;omega),Zz _⟩
   obtain ⟨g_b,o_b,c_b,hvv,_,_,_,hgl_b,a0_b,a1_b,_⟩:=(H9.out.ext Hy.out).get hs_b
   simp only [Ye,Yd,Addr.mk.injEq,true_and,and_true] at hvv
   obtain ⟨⟨rfl,rfl⟩,-,rfl⟩:=hvv
   have ti_b:=H9.out.2 _ (Zy hs_b)
   obtain ⟨A_b,C_b,tv_b,tl_b,tc_b⟩:=ti_b.shape
   obtain ⟨n_b,hn_b⟩:∃ n,b.to_.length=n:=⟨_,rfl⟩
   rw [tv_b] at a1_b ti_b
   rw [hn_b] at a1_b tl_b
   have Hn_b:=Yw hn_b
   unfold maxLen at tc_b
   have Hs_b:=Yw hs_b
   have Ti_b:=Yw ti_b
   clear hs_b ti_b tv_b hn_b
   go_wp2_with fail
   obtain ⟨W,hW⟩:∃ W,wr.alloc (.cells #[.int .i64 b.fr,.slice A_b n_b C_b] 106)=W:=⟨_,rfl⟩
   have hxw:Ext wr W:=by rw [← hW];exact (Yl _).alloc _
   have hbn:=Q4 wr #[.int .i64 b.fr,.slice A_b n_b C_b] 106 _ rfl
   rw [hW] at hbn
   have m0:=lat (hbn.at_ 0 _ rfl)
   have m1:=lat (hbn.at_ 1 _ rfl)
   have hba:=Hba.out.ext (Hx.out.trans hxw)
   have m2:=lat (hba.at_ 0 _ rfl)
   have m3:=lat (hba.at_ 1 _ rfl)
   have Hz:=Yw (Hy.out.trans hxw)
   have HW:=Yw (H.out.up Hz.out)
   have hC:∀ w',(∃ p:Wj,w'=later W p.n p.os)→Q9 w' w.heap.size T:=fun w' ⟨p,e⟩=>by rw [e];exact (Hb0.out.ext Hz.out).ext (⟨_,_,rfl⟩)
   rw [hW]
   clear hW hbn hba
   cases ca:Uo T a.fr
   ·have hun:=Yb
    refine Y0 (by kernel_rfl) (by kernel_rfl) ?_
    repeat (first|((with_reducible refine Xi ?_ ?_ hC ?_);(focus (go_simp;done));rfl)|((with_reducible refine Yv ?_);intro K hK;go_simp;first|((with_reducible refine hK _ ?_);clear hK K)|(apply Exists.intro;refine ⟨fun _=>?_,hK _ ?_⟩;(go_at_call 112;exact Y8 (Jg T HF.out Hf.out _ _ (HW.out.up (⟨_,_,rfl⟩))));clear hK K)))
    (with_reducible refine Yu ?_)
    intro w9 hy9
    clear hun
    try simp only [Yc]
    go_wp2_with fail
    have hx:=Hx.out
    go_roundw
    case rel=>exact ⟨j+1,by omega,by go_num,(hx.trans hxw).trans hy9⟩
    case measure=>(simp [intOf];omega)
   cases cb:Uo T b.fr
   ·have hun:=Yb
    refine Y0 (by kernel_rfl) (by kernel_rfl) ?_
    repeat (first|((with_reducible refine Xi ?_ ?_ hC ?_);(focus (go_simp;done));rfl)|((with_reducible refine Yv ?_);intro K hK;go_simp;first|((with_reducible refine hK _ ?_);clear hK K)|(apply Exists.intro;refine ⟨fun _=>?_,hK _ ?_⟩;(go_at_call 112;exact Y8 (Jg T HF.out Hf.out _ _ (HW.out.up (⟨_,_,rfl⟩))));clear hK K)))
    (with_reducible refine Yu ?_)
    intro w9 hy9
    clear hun
    try simp only [Yc]
    go_wp2_with fail
    have hx:=Hx.out
    go_roundw
    case rel=>exact ⟨j+1,by omega,by go_num,(hx.trans hxw).trans hy9⟩
    case measure=>(simp [intOf];omega)
   have hne:=G.out.r8 i j a b hlt Hs_a.out Hs_b.out ca cb
   have Hne:=Yw hne
   clear hne
   obtain ⟨xa,ya,ea⟩:∃ x y,a.to_=[x,y]:=by
    have h2:a.to_.length=2:=by
     rw [← Hu.out a (Zy Hs_a.out)]
     refine Classical.byContradiction fun hn=>?_
     have:=Dj (n:=258) hn
     unfold Uo at ca
     rw [this] at ca
     exact absurd ca (by simp)
    match hh:a.to_ with
    | [x,y]=>exact ⟨x,y,rfl⟩
    | []=>rw [hh] at h2;simp at h2
    | [_]=>rw [hh] at h2;simp at h2
    | _::_::_::_=>rw [hh] at h2;simp at h2
   have ta:=Ti_a.out
   rw [ea] at ta
   obtain ⟨gga,ooa,cca,hv0,_,_,_,_,ua⟩:=(ta.ext Hz.out).get (j:=0) rfl
   obtain ⟨gg',oo',cc',hv1,_,_,_,_,va⟩:=(ta.ext Hz.out).get (j:=1) rfl
   rw [hv0] at hv1
   simp only [Ye,Yd,Addr.mk.injEq,true_and,and_true] at hv1
   obtain ⟨⟨rfl,rfl⟩,rfl⟩:=hv1
   simp only [Ye] at hv0
   obtain ⟨rfl,-,rfl⟩:=hv0
   have hn2a:n_a=2:=by rw [← Hn_a.out,ea];rfl
   have hp0a:0 < n_a:=by omega
   have hp1a:1 < n_a:=by omega
   have hp2a:(0:Int) < (n_a:Int):=by omega
   have hp3a:(1:Int) < (n_a:Int):=by omega
   clear hn2a
   rw [Nat.add_zero] at ua
   have Ma:=lat ua
   have Na:=lat va
   clear ta ua va
   obtain ⟨xb,yb,eb⟩:∃ x y,b.to_=[x,y]:=by
    have h2:b.to_.length=2:=by
     rw [← Hu.out b (Zy Hs_b.out)]
     refine Classical.byContradiction fun hn=>?_
     have:=Dj (n:=258) hn
     unfold Uo at cb
     rw [this] at cb
     exact absurd cb (by simp)
    match hh:b.to_ with
    | [x,y]=>exact ⟨x,y,rfl⟩
    | []=>rw [hh] at h2;simp at h2
    | [_]=>rw [hh] at h2;simp at h2
    | _::_::_::_=>rw [hh] at h2;simp at h2
   have tb:=Ti_b.out
   rw [eb] at tb
   obtain ⟨ggb,oob,ccb,hv0,_,_,_,_,ub⟩:=(tb.ext Hz.out).get (j:=0) rfl
   obtain ⟨gg',oo',cc',hv1,_,_,_,_,vb⟩:=(tb.ext Hz.out).get (j:=1) rfl
   rw [hv0] at hv1
   simp only [Ye,Yd,Addr.mk.injEq,true_and,and_true] at hv1
   obtain ⟨⟨rfl,rfl⟩,rfl⟩:=hv1
   simp only [Ye] at hv0
   obtain ⟨rfl,-,rfl⟩:=hv0
   have hn2b:n_b=2:=by rw [← Hn_b.out,eb];rfl
   have hp0b:0 < n_b:=by omega
   have hp1b:1 < n_b:=by omega
   have hp2b:(0:Int) < (n_b:Int):=by omega
   have hp3b:(1:Int) < (n_b:Int):=by omega
   clear hn2b
   rw [Nat.add_zero] at ub
   have Mb:=lat ub
   have Nb:=lat vb
   clear tb ub vb
   cases e0:(xa == xb)
   ·have hun:=Yb
    refine Y0 (by kernel_rfl) (by kernel_rfl) ?_
    repeat (first|((with_reducible refine Xi ?_ ?_ hC ?_);(focus (go_simp;done));rfl)|((with_reducible refine Yv ?_);intro K hK;go_simp;first|((with_reducible refine hK _ ?_);clear hK K)|(apply Exists.intro;refine ⟨fun _=>?_,hK _ ?_⟩;(go_at_call 112;exact Y8 (Jg T HF.out Hf.out _ _ (HW.out.up (⟨_,_,rfl⟩))));clear hK K)))
    (with_reducible refine Yu ?_)
    intro w9 hy9
    clear hun
    try simp only [Yc]
    go_wp2_with fail
    have hx:=Hx.out
    go_roundw
    case rel=>exact ⟨j+1,by omega,by go_num,(hx.trans hxw).trans hy9⟩
    case measure=>(simp [intOf];omega)
   cases e1:(ya == yb)
   ·have hun:=Yb
    refine Y0 (by kernel_rfl) (by kernel_rfl) ?_
    repeat (first|((with_reducible refine Xi ?_ ?_ hC ?_);(focus (go_simp;done));rfl)|((with_reducible refine Yv ?_);intro K hK;go_simp;first|((with_reducible refine hK _ ?_);clear hK K)|(apply Exists.intro;refine ⟨fun _=>?_,hK _ ?_⟩;(go_at_call 112;exact Y8 (Jg T HF.out Hf.out _ _ (HW.out.up (⟨_,_,rfl⟩))));clear hK K)))
    (with_reducible refine Yu ?_)
    intro w9 hy9
    clear hun
    try simp only [Yc]
    go_wp2_with fail
    have hx:=Hx.out
    go_roundw
    case rel=>exact ⟨j+1,by omega,by go_num,(hx.trans hxw).trans hy9⟩
    case measure=>(simp [intOf];omega)
   exact absurd (by rw [ea,eb,eq_of_beq e0,eq_of_beq e1]) Hne.out
  have hd_j:decide ((j:Int) < (i:Int))=false:=Yg (by omega)
  have hx:=Hy.out
  go_wp2_with fail
  go_roundw
  case rel=>exact ⟨i+1,by omega,by go_num,hx⟩
  case measure=>(simp [intOf];omega)
 have hd_i:decide ((i:Int) < (n9:Int))=false:=Yg (by omega)
 have b11:=(Hb0.out.ext Hx.out).at_ 11 (by omega)
 rw [show (Ve T)[11]?=some T.proV from rfl,E11.out] at b11
 go_wp2_with fail
 have Hx1:=Yw Hx.out
 clear Hx hlt hd_i hi_i b11
 go_loopw [105] (fun o wr=>∃ i:Nat,i≤n11∧o=.int .i64 (i:Int)∧Ext (w.alloc (Xf T)) wr) (fun o _=>n11 - (intOf o).toNat)
 case atStart=>exact ⟨0,by omega,rfl,Hx1.out⟩
 clear Hx1
 obtain ⟨i,hi_i,rfl,hx⟩:=hrel
 have Hx:=Yw hx
 clear hx
 by_cases hlt:i < n11
 ·have hd_i:decide ((i:Int) < (n11:Int))=true:=Yf (by omega)
  have i0_i:(0:Int)≤(i:Int):=by omega
  have i1_i:(i:Int) < (n11:Int):=by omega
  obtain ⟨a,hs_a⟩:∃ s,(T.pro)[i]?=some s:=⟨(T.pro)[i]'(by have:=Hn11.out;omega),Zz _⟩
  obtain ⟨g_a,o_a,c_a,hvv,_,_,_,hgl_a,a0_a,a1_a,_⟩:=(H11.out.ext Hx.out).get hs_a
  simp only [Ye] at hvv
  obtain ⟨rfl,-,rfl⟩:=hvv
  have ti_a:=H11.out.2 _ (Zy hs_a)
  obtain ⟨A_a,C_a,tv_a,tl_a,tc_a⟩:=ti_a.shape
  obtain ⟨n_a,hn_a⟩:∃ n,a.to_.length=n:=⟨_,rfl⟩
  rw [tv_a] at a1_a ti_a
  rw [hn_a] at a1_a tl_a
  have Hn_a:=Yw hn_a
  unfold maxLen at tc_a
  have Hs_a:=Yw hs_a
  have Ti_a:=Yw ti_a
  clear hs_a ti_a tv_a hn_a
  have b9:=(Hb0.out.ext Hx.out).at_ 9 (by omega)
  rw [show (Ve T)[9]?=some T.decV from rfl,E9.out] at b9
  have hbl:=(Hb0.out.ext Hx.out).lt
  obtain ⟨FA,FC,ef,fl,fc⟩:=(Vd (S:=S) (c:=a.fr) H9.out.2).shape
  obtain ⟨hfe,qa,hto⟩:=G.out.r9 a (Zy Hs_a.out)
  have Hto:=Yw hto
  have HA:=Yw hfe
  have q1:(Xg T.dec a.fr).length=0:=by rw [hfe];rfl
  rw [q1] at ef
  clear hfe q1 hto
  go_wp2_with (first|(go_at_call 111;refine (Xc _ T.dec _ _ (H9.out.ext (Hx.out.alloc _))).mono ?_;rintro e w7 ⟨rfl,hx7⟩;have hc7:=fun k=>hx7.cell (p:=⟨wr.heap.size,k,none⟩) (by simp))|(refine Gf (Hb0.out.ext ((Hx.out.alloc _).trans hx7)) (by go_simp) rfl ?_)|(go_at_call 87;refine (Vk T _ _ (H.out.up ((Hx.out.alloc _).trans hx7))).mono ?_;rintro e w8 ⟨rfl,hx8⟩;rw [qa];have hc8:=fun k=>hx8.cell (p:=⟨wr.heap.size,k,none⟩) (by have:=hx7.size;simp at this;show wr.heap.size < _;omega)))
  clear qa
  have Hxk:=Yw (((Hx.out.alloc _).trans hx7).trans hx8)
  have Hlt:=Yw hlt
  clear Hx hx7 hx8 hc7 hc8 hlt hbl b9 ef fl fc
  go_loopw [125] (fun o wr=>∃ i:Nat,i≤n_a∧o=.int .i64 (i:Int)∧Ext (w.alloc (Xf T)) wr) (fun o _=>n_a - (intOf o).toNat)
  case atStart=>exact ⟨0,by omega,rfl,Hxk.out⟩
  obtain ⟨j,hi_j,rfl,hx⟩:=hrel
  have Hx:=Yw hx
  clear hx
  by_cases hlt:j < n_a
  ·have hd_j:decide ((j:Int) < (n_a:Int))=true:=Yf (by omega)
   have i0_j:(0:Int)≤(j:Int):=by omega
   have i1_j:(j:Int) < (n_a:Int):=by omega
   obtain ⟨c,hs_c⟩:∃ s,(a.to_)[j]?=some s:=⟨(a.to_)[j]'(by have:=Hn_a.out;omega),Zz _⟩
   obtain ⟨g_c,o_c,c_c,hvv,_,_,_,hgl_c,a0_c⟩:=(Ti_a.out.ext Hx.out).get hs_c
   simp only [Ye] at hvv
   obtain ⟨rfl,-,rfl⟩:=hvv
   have Hs_c:=Yw hs_c
   clear hs_c
   have b9:=(Hb0.out.ext Hx.out).at_ 9 (by omega)
   rw [show (Ve T)[9]?=some T.decV from rfl,E9.out] at b9
   obtain ⟨FA',FC',ef,fl,fc⟩:=(Vd (S:=S) (c:=c) H9.out.2).shape
   obtain ⟨hfe,qi,qy,hpe⟩:=Hto.out c (Zy Hs_c.out)
   have HA':=Yw hfe
   rw [show (Xg T.dec c).length=0 by rw [hfe];rfl] at ef
   clear hfe
   have A7:=fun (w9:World) (hx9:Ext wr w9)=>Hb0.out.ext (Hx.out.trans hx9)
   obtain ⟨GA,GC,eg,gl,gc⟩:=(Vd (S:=S) (c:=c) H11.out.2).shape
   have HP:=Yw hpe
   rw [show (Xg T.pro c).length=0 by rw [hpe];rfl] at eg
   clear hpe
   go_wp2_with (first|(go_at_call 111;refine (Xc _ T.dec _ _ (H9.out.ext Hx.out)).mono ?_;rintro e w7 ⟨rfl,hx7⟩)|(refine Gf (A7 _ hx7) (by go_simp) rfl ?_))
   refine (Vk T _ _ (H.out.up (Hx.out.trans hx7))).mono ?_
   rintro e w8 ⟨rfl,hx8⟩
   rw [qi]
   go_wp2_with fail
   refine (Ql _ _).mono ?_
   rintro e w' ⟨rfl,rfl⟩
   rw [qy]
   have c11:=(A7 _ (hx7.trans hx8)).at_ 11 (by omega)
   rw [show (Ve T)[11]?=some T.proV from rfl,E11.out] at c11
   go_wp2_with fail
   refine (Xc _ T.pro _ _ (H11.out.ext ((Hx.out.trans hx7).trans hx8))).mono ?_
   rintro e w9 ⟨rfl,hx9⟩
   go_wp2_with fail
   go_roundw
   case rel=>exact ⟨j+1,by omega,by go_num,((Hx.out.trans hx7).trans hx8).trans hx9⟩
   case measure=>(simp [intOf];omega)
  have hd_j:decide ((j:Int) < (n_a:Int))=false:=Yg (by omega)
  have hlo:=Hlt.out
  go_wp2_with fail
  go_roundw
  case rel=>exact ⟨i+1,by omega,by go_num,Hx.out⟩
  case measure=>(simp [intOf];omega)
 have hd_i:decide ((i:Int) < (n11:Int))=false:=Yg (by omega)
 go_wp2_with fail
 all_goals
  have hx:=Hx.out
  first
  | (go_roundw
     case rel=>exact ⟨i+1,by omega,by go_num,(by repeat' first|exact Yl _|assumption|apply Yk|apply Yj|apply Yi|(refine Yh ?_ (by assumption)))⟩
     case measure=>(simp [intOf];omega))
  | (go_ret;exact ⟨rfl,X0.out.trans (by repeat' first|exact Yl _|assumption|apply Yk|apply Yj|apply Yi|(refine Yh ?_ (by assumption)))⟩)
end Go.Proofs.YtnbclgbicnpmnaaGreat
