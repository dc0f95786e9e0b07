/- Lemmas of this claim: Rs, Sa, P4, P5, P6, P7, Sb. Conditions: as named. -/
import Derived.Test.YtnbclgbicnpmnaaGreatA05
import Derived.Test.YtnbclgbicnpmnaaGreatA13
import Derived.Test.YtnbclgbicnpmnaaGreatA14
namespace Go.Proofs.YtnbclgbicnpmnaaGreat
open Go.RowKit Go.Sort
open List renaming getElem?_eq_getElem → Zz, mem_of_getElem? → Zy, length_append → Zs, length_take → Zp, nil_append → Zo, take_of_length_le → Zm, length_nil → Zk, mem_append → Zj, mem_singleton → Zi, length_drop → Z8
open Lib renaming hid → Yw
open Go renaming wpQuiet_step → Yv, wpQuiet_nil → Yu
open IntWalk renaming i64_in → Yq
open Nat renaming le_refl → Yo
open _root_.ByteArray renaming size_append → Ym
open Ext renaming refl → Yl, alloc → Yk, drewN → Yj, drew → Yi, trans → Yh
set_option maxHeartbeats 40000000
set_option maxRecDepth 100000
set_option linter.all false
def Rv (T:Tbl) (c:Int):Int:=if (97≤c∧c≤122)∨(65≤c∧c≤90) then 3 else if 0≤c∧c≤127 then 1 else if Gs c=true∨P7 c=true then 9 else Wv T.scr c
theorem Jh {S:Nat→Prop} (T:Tbl) (c:Int) (w:World) (h:Xm w S T):Calls Tryz.prog 239 #[Wc T,.int .i64 c] w fun e w'=>e=.returned (.int .i64 (Rv T c))∧Ext w w':=by
 have X0:=Yw ((Yl w).alloc (Xf T))
 have H:=Yw (h.up X0.out)
 have Hb0:=Yw (Xq w T)
 clear h
 have hr:c≤-1∨(0≤c∧c≤64)∨(65≤c∧c≤90)∨(91≤c∧c≤96)∨(97≤c∧c≤122)∨(123≤c∧c≤127)∨128≤c:=by omega
 have hb:=(Hb0.out).at_ 4 (by omega)
 rw [show (Ve T)[4]?=some T.scrV from rfl] at hb
 rcases hr with hr|hr|hr|hr|hr|hr|hr
 ·have e0:decide ((97:Int)≤c)=false:=Yg (by omega)
  have e1:decide (c≤122)=true:=Yf (by omega)
  have e2:decide ((65:Int)≤c)=false:=Yg (by omega)
  have e3:decide (c≤90)=true:=Yf (by omega)
  have e4:decide ((0:Int)≤c)=false:=Yg (by omega)
  have e5:decide (c≤127)=true:=Yf (by omega)
  have Hr:=Yw hr
  have Hs:=Yw (show Rv T c=if Gs c=true∨P7 c=true then 9 else Wv T.scr c by unfold Rv;rw [if_neg (by omega),if_neg (by omega)])
  cases hs:Gs c<;>cases hj:P7 c
  all_goals
   have Hs2:=Yw (show (if Gs c=true∨P7 c=true then (9:Int) else Wv T.scr c)=_ by rw [hs,hj])
   clear hr
   go_enter Tryz.func239,Tryz.ntmps239
   go_wp2_with (first|(refine Xy rfl ?_)|(go_at_call 125;refine (Vh _ T.scr _ _ (H.out.scr.ext ((by repeat' first|exact Yl _|assumption|apply Yk|apply Yj|apply Yi|(refine Yh ?_ (by assumption)))))).mono ?_;rintro e w1 ⟨rfl,hx1⟩)|(go_at_call 113;refine (Ql _ _).mono ?_;rintro e w' ⟨rfl,rfl⟩;rw [hs])|(go_at_call 145;refine (Ez _ _).mono ?_;rintro e w' ⟨rfl,rfl⟩;rw [hj]))
   go_ret
   exact ⟨by rw [Hs.out,Hs2.out];rfl,X0.out.trans (by repeat' first|exact Yl _|assumption|apply Yk|apply Yj|apply Yi|(refine Yh ?_ (by assumption)))⟩
 ·have e0:decide ((97:Int)≤c)=false:=Yg (by omega)
  have e1:decide (c≤122)=true:=Yf (by omega)
  have e2:decide ((65:Int)≤c)=false:=Yg (by omega)
  have e3:decide (c≤90)=true:=Yf (by omega)
  have e4:decide ((0:Int)≤c)=true:=Yf (by omega)
  have e5:decide (c≤127)=true:=Yf (by omega)
  have Hr:=Yw hr
  have Hs:=Yw (show Rv T c=1 by unfold Rv;rw [if_neg (by omega),if_pos (by omega)])
  clear hr
  go_enter Tryz.func239,Tryz.ntmps239
  go_wp2_with (refine Xy rfl ?_)
  go_ret
  exact ⟨by rw [Hs.out];rfl,X0.out⟩
 ·have e0:decide ((97:Int)≤c)=false:=Yg (by omega)
  have e1:decide (c≤122)=true:=Yf (by omega)
  have e2:decide ((65:Int)≤c)=true:=Yf (by omega)
  have e3:decide (c≤90)=true:=Yf (by omega)
  have e4:decide ((0:Int)≤c)=true:=Yf (by omega)
  have e5:decide (c≤127)=true:=Yf (by omega)
  have Hr:=Yw hr
  have Hs:=Yw (show Rv T c=3 by unfold Rv;rw [if_pos (by omega)])
  clear hr
  go_enter Tryz.func239,Tryz.ntmps239
  go_wp2_with (refine Xy rfl ?_)
  go_ret
  exact ⟨by rw [Hs.out];rfl,X0.out⟩
 ·have e0:decide ((97:Int)≤c)=false:=Yg (by omega)
  have e1:decide (c≤122)=true:=Yf (by omega)
  have e2:decide ((65:Int)≤c)=true:=Yf (by omega)
  have e3:decide (c≤90)=false:=Yg (by omega)
  have e4:decide ((0:Int)≤c)=true:=Yf (by omega)
  have e5:decide (c≤127)=true:=Yf (by omega)
  have Hr:=Yw hr
  have Hs:=Yw (show Rv T c=1 by unfold Rv;rw [if_neg (by omega),if_pos (by omega)])
  clear hr
  go_enter Tryz.func239,Tryz.ntmps239
  go_wp2_with (refine Xy rfl ?_)
  go_ret
  exact ⟨by rw [Hs.out];rfl,X0.out⟩
 ·have e0:decide ((97:Int)≤c)=true:=Yf (by omega)
  have e1:decide (c≤122)=true:=Yf (by omega)
  have e2:decide ((65:Int)≤c)=true:=Yf (by omega)
  have e3:decide (c≤90)=false:=Yg (by omega)
  have e4:decide ((0:Int)≤c)=true:=Yf (by omega)
  have e5:decide (c≤127)=true:=Yf (by omega)
  have Hr:=Yw hr
  have Hs:=Yw (show Rv T c=3 by unfold Rv;rw [if_pos (by omega)])
  clear hr
  go_enter Tryz.func239,Tryz.ntmps239
  go_wp2_with (refine Xy rfl ?_)
  go_ret
  exact ⟨by rw [Hs.out];rfl,X0.out⟩
 ·have e0:decide ((97:Int)≤c)=true:=Yf (by omega)
  have e1:decide (c≤122)=false:=Yg (by omega)
  have e2:decide ((65:Int)≤c)=true:=Yf (by omega)
  have e3:decide (c≤90)=false:=Yg (by omega)
  have e4:decide ((0:Int)≤c)=true:=Yf (by omega)
  have e5:decide (c≤127)=true:=Yf (by omega)
  have Hr:=Yw hr
  have Hs:=Yw (show Rv T c=1 by unfold Rv;rw [if_neg (by omega),if_pos (by omega)])
  clear hr
  go_enter Tryz.func239,Tryz.ntmps239
  go_wp2_with (refine Xy rfl ?_)
  go_ret
  exact ⟨by rw [Hs.out];rfl,X0.out⟩
 have e0:decide ((97:Int)≤c)=true:=Yf (by omega)
 have e1:decide (c≤122)=false:=Yg (by omega)
 have e2:decide ((65:Int)≤c)=true:=Yf (by omega)
 have e3:decide (c≤90)=false:=Yg (by omega)
 have e4:decide ((0:Int)≤c)=true:=Yf (by omega)
 have e5:decide (c≤127)=false:=Yg (by omega)
 have Hr:=Yw hr
 have Hs:=Yw (show Rv T c=if Gs c=true∨P7 c=true then 9 else Wv T.scr c by unfold Rv;rw [if_neg (by omega),if_neg (by omega)])
 cases hs:Gs c<;>cases hj:P7 c
 all_goals
  have Hs2:=Yw (show (if Gs c=true∨P7 c=true then (9:Int) else Wv T.scr c)=_ by rw [hs,hj])
  clear hr
  go_enter Tryz.func239,Tryz.ntmps239
  go_wp2_with (first|(refine Xy rfl ?_)|(go_at_call 125;refine (Vh _ T.scr _ _ (H.out.scr.ext ((by repeat' first|exact Yl _|assumption|apply Yk|apply Yj|apply Yi|(refine Yh ?_ (by assumption)))))).mono ?_;rintro e w1 ⟨rfl,hx1⟩)|(go_at_call 113;refine (Ql _ _).mono ?_;rintro e w' ⟨rfl,rfl⟩;rw [hs])|(go_at_call 145;refine (Ez _ _).mono ?_;rintro e w' ⟨rfl,rfl⟩;rw [hj]))
  go_ret
  exact ⟨by rw [Hs.out,Hs2.out];rfl,X0.out.trans (by repeat' first|exact Yl _|assumption|apply Yk|apply Yj|apply Yi|(refine Yh ?_ (by assumption)))⟩
def Zot (w:World) (e:Ending) (w':World):Prop:=∃ v:Int,e=.returned (.int .u64 v)∧Ext w w'
theorem Py (s:Int) (w:World):Calls Tryz.prog 240 #[.int .i64 s] w (Zot w):=by
 go_enter Tryz.func240,Tryz.ntmps240
 go_wp2_with fail
 all_goals
  go_ret
  exact ⟨_,rfl,Yl _⟩
theorem Gb {S:Nat→Prop} (T:Tbl) (hf:Few T) (c:Int) (w:World) (h:Xm w S T):Calls Tryz.prog 218 #[Wc T,.int .i64 c] w (Zot w):=by
 obtain ⟨A7,C7,e7,hl7,hc7⟩:=h.ext.shape
 have h7:=h.ext.ext ((Yl w).alloc (Xf T))
 obtain ⟨n7,hn7⟩:∃ n,T.ext.length=n:=⟨_,rfl⟩
 rw [hn7] at e7 hl7
 rw [e7] at h7
 have Hn7:=Yw hn7
 have E7:=Yw e7
 have H7:=Yw h7
 unfold maxLen at hc7
 clear hn7 e7 h7
 have X0:=Yw ((Yl w).alloc (Xf T))
 have H:=Yw (h.up X0.out)
 have Hb0:=Yw (Xq w T)
 clear h
 have hel:=Kl hf.ext c
 obtain ⟨FA,FC,ef,fl,fc⟩:=(Vd (S:=S) (c:=c) H7.out.2).shape
 obtain ⟨k,hk⟩:∃ k,(Xg T.ext c).length=k:=⟨_,rfl⟩
 have hfa:=Vd (S:=S) (c:=c) H7.out.2
 rw [ef,hk] at hfa
 rw [hk] at ef fl hel
 have Hk:=Yw hk
 have Hfa:=Yw hfa
 clear hk hfa
 go_enter Tryz.func218,Tryz.ntmps218
 go_wp2_with (first|(refine Xy rfl ?_)|(refine Y4 Hb0.out rfl ?_))
 refine (Th T c _ H.out).mono ?_
 rintro e w1 ⟨rfl,hx1⟩
 have Hx1:=Yw hx1
 clear hx1
 by_cases hk0:k=0
 ·subst hk0
  go_wp2_with (refine Y4 (Hb0.out.ext Hx1.out) rfl ?_)
  refine (Mm T c _ (H.out.up Hx1.out)).mono ?_
  rintro e w2 ⟨z,rfl,hx2⟩
  have Hx2:=Yw (Hx1.out.trans hx2)
  have HL:=Yw (X9 w2 z 3 _ rfl)
  have Hnn:=Yw (show ([z]:List Int).length=1 from rfl)
  clear hx2
  go_wp2_with fail
  obtain ⟨A0,hA0⟩:∃ A:Option Addr,some ⟨w2.heap.size,0,none⟩=A:=⟨_,rfl⟩
  rw [hA0] at HL ⊢
  clear hA0
  go_loopw [21,6] (fun o u wr=>∃ (i:Nat) (q:Int),i≤1∧o=.int .i64 (i:Int)∧u=.int .u64 q∧Ext (w2.alloc (.cells #[.int .i64 z] 3)) wr) (fun o _ _=>1 - (intOf o).toNat)
  case atStart=>exact ⟨0,0,by omega,rfl,rfl,Yl _⟩
  obtain ⟨i,q,hi,rfl,rfl,hx⟩:=hrel
  have Hx:=Yw hx
  clear hx
  by_cases hlt:i < 1
  ·have hd_i:decide ((i:Int) < (1:Int))=true:=Yf (by omega)
   have i0_i:(0:Int)≤(i:Int):=by omega
   have i1_i:(i:Int) < (1:Int):=by omega
   obtain ⟨x,hs_x⟩:∃ s,([z])[i]?=some s:=⟨([z])[i]'(by have:=Hnn.out;omega),Zz _⟩
   obtain ⟨g_x,o_x,c_x,hvv,_,_,_,hgl_x,a0_x⟩:=(HL.out.ext Hx.out).get hs_x
   simp only [Ye] at hvv
   obtain ⟨rfl,-,rfl⟩:=hvv
   have Hs_x:=Yw hs_x
   clear hs_x
   go_wp2_with (go_at_call 240;refine (Py _ _).mono ?_;rintro e w4 ⟨v4,rfl,hx4⟩)
   all_goals
    first
    | (go_roundw
       case rel=>exact ⟨i+1,_,by omega,by go_num,rfl,by first|exact Hx.out|exact Hx.out.trans hx4⟩
       case measure=>(simp [intOf];omega))
    | (go_ret;exact ⟨_,rfl,X0.out.trans ((Hx2.out.alloc _).trans Hx.out)⟩)
  have hd_i:decide ((i:Int) < (1:Int))=false:=Yg (by omega)
  go_wp2_with fail
  go_ret
  exact ⟨_,rfl,X0.out.trans ((Hx2.out.alloc _).trans Hx.out)⟩
 have hk1:((k:Int) == 0)=false:=by simp;omega
 have hk2:(k == 0)=false:=by simp;omega
 have HL:=Yw (show Xz w1 S (.slice FA k FC) (Xg T.ext c) from Hfa.out.ext Hx1.out)
 have Hnn:=Hk
 clear hk0
 go_wp2_with fail
 go_loopw [21,6] (fun o u wr=>∃ (i:Nat) (q:Int),i≤k∧o=.int .i64 (i:Int)∧u=.int .u64 q∧Ext w1 wr) (fun o _ _=>k - (intOf o).toNat)
 case atStart=>exact ⟨0,0,by omega,rfl,rfl,Yl _⟩
 obtain ⟨i,q,hi,rfl,rfl,hx⟩:=hrel
 have Hx:=Yw hx
 clear hx
 by_cases hlt:i < k
 ·have hd_i:decide ((i:Int) < (k:Int))=true:=Yf (by omega)
  have i0_i:(0:Int)≤(i:Int):=by omega
  have i1_i:(i:Int) < (k:Int):=by omega
  obtain ⟨x,hs_x⟩:∃ s,((Xg T.ext c))[i]?=some s:=⟨((Xg T.ext c))[i]'(by have:=Hnn.out;omega),Zz _⟩
  obtain ⟨g_x,o_x,c_x,hvv,_,_,_,hgl_x,a0_x⟩:=(HL.out.ext Hx.out).get hs_x
  simp only [Ye] at hvv
  obtain ⟨rfl,-,rfl⟩:=hvv
  have Hs_x:=Yw hs_x
  clear hs_x
  go_wp2_with (go_at_call 240;refine (Py _ _).mono ?_;rintro e w4 ⟨v4,rfl,hx4⟩)
  all_goals
   first
   | (go_roundw
      case rel=>exact ⟨i+1,_,by omega,by go_num,rfl,by first|exact Hx.out|exact Hx.out.trans hx4⟩
      case measure=>(simp [intOf];omega))
   | (go_ret;exact ⟨_,rfl,X0.out.trans (Hx1.out.trans Hx.out)⟩)
 have hd_i:decide ((i:Int) < (k:Int))=false:=Yg (by omega)
 go_wp2_with fail
 go_ret
 exact ⟨_,rfl,X0.out.trans (Hx1.out.trans Hx.out)⟩
theorem Rs {S S':Nat→Prop} (T:Tbl) (hf:Few T) (hu:Uq T) (v:Value) (l:List Int) (w:World) (h:Xm w S T) (hl:Xz w S' v l):Calls Tryz.prog 241 #[Wc T,v] w (fun e w'=>∃ q x:Int,e=.returned (.tuple #[.int .u64 q,.int .i64 x])∧Ext w w'):=by
 obtain ⟨A,C,rfl,hlCC,hCC⟩:=hl.shape
 obtain ⟨n,hnn⟩:∃ n,(l).length=n:=⟨_,rfl⟩
 have Hnn:=Yw hnn
 have Hhl:=Yw hl
 unfold maxLen at hCC
 rw [hnn] at hlCC ⊢
 clear hl hnn
 have X0:=Yw ((Yl w).alloc (Xf T))
 have H:=Yw (h.up X0.out)
 have Hb0:=Yw (Xq w T)
 clear h
 have HL:=Yw (show Xz (w.alloc (Xf T)) S' (.slice A n C) l by have:=Hhl.out.ext X0.out;rwa [Hnn.out] at this)
 have Hf:=Yw hf
 have Hu:=Yw hu
 clear hf hu
 go_enter Tryz.func241,Tryz.ntmps241
 go_wp2_with (first|(refine Xy rfl ?_)|(refine Y4 Hb0.out rfl ?_))
 refine (Vr T Hf.out Hu.out _ l _ H.out HL.out).mono ?_
 rintro e w1 ⟨x,rfl,_,hx1⟩
 have Hx1:=Yw hx1
 clear hx1
 by_cases h0:x=0
 ·subst h0
  go_wp2_with fail
  go_loopw [18,7] (fun o u wr=>∃ (i:Nat) (q:Int),i≤n∧o=.int .i64 (i:Int)∧u=.int .u64 q∧Ext (w.alloc (Xf T)) wr) (fun o _ _=>n - (intOf o).toNat)
  case atStart=>exact ⟨0,_,by omega,rfl,rfl,Hx1.out⟩
  clear Hx1
  obtain ⟨i,q,hi,rfl,rfl,hx⟩:=hrel
  have Hx:=Yw hx
  clear hx
  by_cases hlt:i < n
  ·have hd_i:decide ((i:Int) < (n:Int))=true:=Yf (by omega)
   have i0_i:(0:Int)≤(i:Int):=by omega
   have i1_i:(i:Int) < (n:Int):=by omega
   obtain ⟨x,hs_x⟩:∃ s,(l)[i]?=some s:=⟨(l)[i]'(by have:=Hnn.out;omega),Zz _⟩
   obtain ⟨g_x,o_x,c_x,hvv,_,_,_,hgl_x,a0_x⟩:=(HL.out.ext Hx.out).get hs_x
   simp only [Ye] at hvv
   obtain ⟨rfl,-,rfl⟩:=hvv
   have Hs_x:=Yw hs_x
   clear hs_x
   go_wp2_with (refine Y4 (Hb0.out.ext Hx.out) rfl ?_)
   refine (Gb T Hf.out _ _ (H.out.up Hx.out)).mono ?_
   rintro e w2 ⟨z,rfl,hx2⟩
   go_wp2_with fail
   go_roundw
   case rel=>exact ⟨i+1,_,by omega,by go_num,rfl,Hx.out.trans hx2⟩
   case measure=>(simp [intOf];omega)
  have hd_i:decide ((i:Int) < (n:Int))=false:=Yg (by omega)
  go_wp2_with fail
  go_ret2
  exact ⟨_,_,rfl,X0.out.trans Hx.out⟩
 have h0b:(!(x == 0))=true:=by simp [h0]
 have h0c:(x != 0)=true:=h0b
 have h0d:(x == 0)=false:=by simp [h0]
 have h0H:=Yw h0
 clear h0
 go_wp2_with fail
 go_ret2
 exact ⟨_,_,rfl,X0.out.trans Hx1.out⟩
theorem Zyz {S S':Nat→Prop} (T:Tbl) (hf:Few T) (hu:Uq T) (v:Value) (l:List Int) (w:World) (h:Xm w S T) (hl:Xz w S' v l):Calls Tryz.prog 219 #[Wc T,v] w (Vi w):=by
 obtain ⟨A,C,rfl,hlCC,hCC⟩:=hl.shape
 obtain ⟨n,hnn⟩:∃ n,(l).length=n:=⟨_,rfl⟩
 have Hnn:=Yw hnn
 have Hhl:=Yw hl
 unfold maxLen at hCC
 rw [hnn] at hlCC ⊢
 clear hl hnn
 have X0:=Yw ((Yl w).alloc (Xf T))
 have H:=Yw (h.up X0.out)
 have Hb0:=Yw (Xq w T)
 clear h
 have HL:=Yw (show Xz (w.alloc (Xf T)) S' (.slice A n C) l by have:=Hhl.out.ext X0.out;rwa [Hnn.out] at this)
 have Hf:=Yw hf
 have Hu:=Yw hu
 clear hf hu
 go_enter Tryz.func219,Tryz.ntmps219
 go_wp2_with (first|(refine Xy rfl ?_)|(refine Y4 Hb0.out rfl ?_))
 refine (Rs T Hf.out Hu.out _ l _ H.out HL.out).mono ?_
 rintro e w1 ⟨q,x,rfl,hx1⟩
 go_wp2_with fail
 all_goals
  go_ret
  exact ⟨_,rfl,X0.out.trans hx1⟩
theorem Ai {S S':Nat→Prop} (T:Tbl) (hf:Few T) (hu:Uq T) (v:Value) (l:List Int) (z:Int) (w:World) (h:Xm w S T) (hl:Xz w S' v l):Calls Tryz.prog 220 #[Wc T,v,.int .u64 z] w (Vi w):=by
 obtain ⟨A,C,rfl,hlCC,hCC⟩:=hl.shape
 obtain ⟨n,hnn⟩:∃ n,(l).length=n:=⟨_,rfl⟩
 have Hnn:=Yw hnn
 have Hhl:=Yw hl
 unfold maxLen at hCC
 rw [hnn] at hlCC ⊢
 clear hl hnn
 have X0:=Yw ((Yl w).alloc (Xf T))
 have H:=Yw (h.up X0.out)
 have Hb0:=Yw (Xq w T)
 clear h
 have HL:=Yw (show Xz (w.alloc (Xf T)) S' (.slice A n C) l by have:=Hhl.out.ext X0.out;rwa [Hnn.out] at this)
 have Hf:=Yw hf
 have Hu:=Yw hu
 clear hf hu
 go_enter Tryz.func220,Tryz.ntmps220
 go_wp2_with (first|(refine Xy rfl ?_)|(refine Y4 Hb0.out rfl ?_))
 refine (Vr T Hf.out Hu.out _ l _ H.out HL.out).mono ?_
 rintro e w1 ⟨x,rfl,_,hx1⟩
 have Hx1:=Yw hx1
 clear hx1
 by_cases h0:x=0
 ·subst h0
  go_wp2_with fail
  go_loopw [15] (fun o wr=>∃ i:Nat,i≤n∧o=.int .i64 (i:Int)∧Ext (w.alloc (Xf T)) wr) (fun o _=>n - (intOf o).toNat)
  case atStart=>exact ⟨0,by omega,rfl,Hx1.out⟩
  clear Hx1
  obtain ⟨i,hi_i,rfl,hx⟩:=hrel
  have Hx:=Yw hx
  clear hx
  by_cases hlt:i < n
  ·have hd_i:decide ((i:Int) < (n:Int))=true:=Yf (by omega)
   have i0_i:(0:Int)≤(i:Int):=by omega
   have i1_i:(i:Int) < (n:Int):=by omega
   obtain ⟨x,hs_x⟩:∃ s,(l)[i]?=some s:=⟨(l)[i]'(by have:=Hnn.out;omega),Zz _⟩
   obtain ⟨g_x,o_x,c_x,hvv,_,_,_,hgl_x,a0_x⟩:=(HL.out.ext Hx.out).get hs_x
   simp only [Ye] at hvv
   obtain ⟨rfl,-,rfl⟩:=hvv
   have Hs_x:=Yw hs_x
   clear hs_x
   go_wp2_with (refine Y4 (Hb0.out.ext Hx.out) rfl ?_)
   refine (Gb T Hf.out _ _ (H.out.up Hx.out)).mono ?_
   rintro e w2 ⟨q,rfl,hx2⟩
   go_wp2_with fail
   all_goals
    have hx:=Hx.out
    first
    | (go_roundw
       case rel=>exact ⟨i+1,by omega,by go_num,(by repeat' first|exact Yl _|assumption|apply Yk|apply Yj|apply Yi|(refine Yh ?_ (by assumption)))⟩
       case measure=>(simp [intOf];omega))
    | (go_ret;exact ⟨_,rfl,X0.out.trans (by repeat' first|exact Yl _|assumption|apply Yk|apply Yj|apply Yi|(refine Yh ?_ (by assumption)))⟩)
  have hd_i:decide ((i:Int) < (n:Int))=false:=Yg (by omega)
  go_wp2_with fail
  all_goals
   have hx:=Hx.out
   first
   | (go_roundw
      case rel=>exact ⟨i+1,by omega,by go_num,(by repeat' first|exact Yl _|assumption|apply Yk|apply Yj|apply Yi|(refine Yh ?_ (by assumption)))⟩
      case measure=>(simp [intOf];omega))
   | (go_ret;exact ⟨_,rfl,X0.out.trans (by repeat' first|exact Yl _|assumption|apply Yk|apply Yj|apply Yi|(refine Yh ?_ (by assumption)))⟩)
 have h0b:(!(x == 0))=true:=by simp [h0]
 have h0c:(x != 0)=true:=h0b
 have h0d:(x == 0)=false:=by simp [h0]
 have h0H:=Yw h0
 clear h0
 go_wp2_with fail
 go_ret
 exact ⟨_,rfl,X0.out.trans Hx1.out⟩
def Zri (l:List Int):Bool:=l.all fun c=>decide (0≤c) && decide (c≤127)
theorem Zwo {l:List Int} {i:Nat} {x:Int} (h:l[i]?=some x) (hx:x < 0∨127 < x):Zri l=false:=by
 unfold Zri
 rw [List.all_eq_false]
 exact ⟨x,Zy h,by simp;omega⟩
theorem U9 {S:Nat→Prop} (v:Value) (l:List Int) (w:World) (h:Xz w S v l):Calls Tryz.prog 212 #[v] w fun e w'=>e=.returned (.bool (Zri l))∧Ext w w':=by
 obtain ⟨A,C,rfl,hlCC,hCC⟩:=h.shape
 obtain ⟨n,hnn⟩:∃ n,(l).length=n:=⟨_,rfl⟩
 have Hnn:=Yw hnn
 have Hh:=Yw h
 unfold maxLen at hCC
 rw [hnn] at hlCC ⊢
 clear h hnn
 go_enter Tryz.func212,Tryz.ntmps212
 go_wp2_with fail
 go_loopw [7] (fun o wr=>∃ i:Nat,i≤n∧o=.int .i64 (i:Int)∧(∀ c∈l.take i,0≤c∧c≤127)∧Ext w wr) (fun o _=>n - (intOf o).toNat)
 case atStart=>exact ⟨0,by omega,rfl,by simp,Yl _⟩
 obtain ⟨i,hi,rfl,ha,hx⟩:=hrel
 have Hx:=Yw hx
 have Ha:=Yw ha
 clear hx ha
 by_cases hlt:i < n
 ·have hd_i:decide ((i:Int) < (n:Int))=true:=Yf (by omega)
  have i0_i:(0:Int)≤(i:Int):=by omega
  have i1_i:(i:Int) < (n:Int):=by omega
  obtain ⟨x,hs_x⟩:∃ s,(l)[i]?=some s:=⟨(l)[i]'(by have:=Hnn.out;omega),Zz _⟩
  obtain ⟨g_x,o_x,c_x,hvv,_,_,_,hgl_x,a0_x⟩:=(Hh.out.ext Hx.out).get hs_x
  simp only [Ye] at hvv
  obtain ⟨rfl,-,rfl⟩:=hvv
  have Hs_x:=Yw hs_x
  clear hs_x
  by_cases h0:x < 0∨127 < x
  ·have Hb:=Yw (Zwo Hs_x.out h0)
   rcases h0 with h0|h0
   ·have d1:decide (x < 0)=true:=Yf h0
    go_wp2_with fail
    go_ret
    exact ⟨by rw [Hb.out];rfl,Hx.out⟩
   have d1:decide (x < 0)=false:=Yg (by omega)
   have d2:decide (127 < x)=true:=Yf h0
   go_wp2_with fail
   go_ret
   exact ⟨by rw [Hb.out];rfl,Hx.out⟩
  have d1:decide (x < 0)=false:=Yg (by omega)
  have d2:decide (127 < x)=false:=Yg (by omega)
  have H0:=Yw h0
  clear h0
  go_wp2_with fail
  go_roundw
  case rel =>
   refine ⟨i+1,by omega,by go_num,?_,Hx.out⟩
   rw [Wz Hs_x.out]
   intro c hc
   rcases Zj.1 hc with h1|h1
   ·exact Ha.out c h1
   rw [Zi.1 h1];have:=H0.out;omega
  case measure=>(simp [intOf];omega)
 have hd_i:decide ((i:Int) < (n:Int))=false:=Yg (by omega)
 go_wp2_with fail
 go_ret
 refine ⟨?_,Hx.out⟩
 have hb:Zri l=true:=by
  unfold Zri
  rw [List.all_eq_true]
  intro c hc
  have:=Ha.out
  rw [Zm (by rw [Hnn.out];omega)] at this
  have:=this c hc
  simp;omega
 rw [hb];rfl
theorem Ge (z:Nat) (h1:z≤255) (w:World) :
 (convert 224 9 (.slice (some ⟨w.heap.size,0,none⟩) 1 1)).run Tryz.prog (w.alloc (.cells #[.int .u8 (z:Int)] 5))=.ok (.string (bs (u8L [(z:Int)]))) (w.alloc (.cells #[.int .u8 (z:Int)] 5)):=by
 have:=V1 (w:=w) [(z:Int)] 1 rfl _ rfl
 simp only [List.map_cons,List.map_nil] at this
 rw [show (z:Int) % 256=(z:Int) by omega] at this
 exact this
def Zpq (n:Nat) (w:World) (e:Ending) (w':World):Prop:=∃ t:ByteArray,e=.returned (.string t)∧t.size=n∧Ext w w'
theorem Fz (s:ByteArray) (w:World) (hs:s.size≤100000):Calls Tryz.prog 228 #[.string s] w (Zpq s.size w):=by
 obtain ⟨n,hn⟩:∃ n,s.size=n:=⟨_,rfl⟩
 rw [hn] at hs ⊢
 have Hn:=Yw hn
 go_enter Tryz.func228,Tryz.ntmps228
 go_wp2_with fail
 go_loopw [4,3] (fun o t wr=>∃ (i:Nat) (u:ByteArray),i≤n∧o=.int .i64 (i:Int)∧t=.string u∧u.size=i∧Ext w wr) (fun o _ _=>n - (intOf o).toNat)
 case atStart=>exact ⟨0,⟨#[]⟩,by omega,rfl,rfl,rfl,Yl _⟩
 obtain ⟨i,u,hi,rfl,rfl,hu,hx⟩:=hrel
 have Hu:=Yw hu
 have hus0:u.size≤100000:=by omega
 clear hu
 by_cases hlt:i < n
 ·have hd:decide ((i:Int) < (n:Int))=true:=Yf (by omega)
  have hlt':i < s.size:=by rw [Hn.out];exact hlt
  obtain ⟨b,hb⟩:∃ b:Nat,(s[i]'hlt').toNat=b:=⟨_,rfl⟩
  have hb2:b≤255:=by rw [← hb];have:=(s[i]'hlt').toNat_lt;omega
  by_cases h1:65≤b
  ·have d1:decide ((65:Int)≤(b:Int))=true:=Yf (by omega)
   by_cases h2:b≤90
   ·have d2:decide ((b:Int)≤90)=true:=Yf (by omega)
    obtain ⟨c,hc⟩:∃ c,b+32=c:=⟨_,rfl⟩
    have r1:IntKind.u8.wrap ((b:Int)+32)=(c:Int):=by rw [IntWalk.u8_in _ (by omega)];omega
    have hcv:=fun w=>Ge c (by omega) w
    obtain ⟨bz,hbz⟩:∃ b9,bs (u8L [(c:Int)])=b9:=⟨_,rfl⟩
    have hbs:bz.size=1:=by rw [← hbz];rfl
    rw [hbz] at hcv
    have hus:¬ 9223372036854775807 < u.size+bz.size:=by omega
    clear hbz
    go_wp2_with fail
    go_roundw
    case rel=>exact ⟨i+1,_,by omega,by go_num,rfl,by rw [Ym,Hu.out,hbs],hx.alloc _⟩
    case measure=>(simp [intOf];omega)
   have d2:decide ((b:Int)≤90)=false:=Yg (by omega)
   have hcv:=fun w=>Ge b (by omega) w
   obtain ⟨bz,hbz⟩:∃ b9,bs (u8L [(b:Int)])=b9:=⟨_,rfl⟩
   have hbs:bz.size=1:=by rw [← hbz];rfl
   rw [hbz] at hcv
   have hus:¬ 9223372036854775807 < u.size+bz.size:=by omega
   clear hbz
   go_wp2_with fail
   go_roundw
   case rel=>exact ⟨i+1,_,by omega,by go_num,rfl,by rw [Ym,Hu.out,hbs],hx.alloc _⟩
   case measure=>(simp [intOf];omega)
  have d1:decide ((65:Int)≤(b:Int))=false:=Yg (by omega)
  have hcv:=fun w=>Ge b (by omega) w
  obtain ⟨bz,hbz⟩:∃ b9,bs (u8L [(b:Int)])=b9:=⟨_,rfl⟩
  have hbs:bz.size=1:=by rw [← hbz];rfl
  rw [hbz] at hcv
  have hus:¬ 9223372036854775807 < u.size+bz.size:=by omega
  clear hbz
  go_wp2_with fail
  go_roundw
  case rel=>exact ⟨i+1,_,by omega,by go_num,rfl,by rw [Ym,Hu.out,hbs],hx.alloc _⟩
  case measure=>(simp [intOf];omega)
 have hd:decide ((i:Int) < (n:Int))=false:=Yg (by omega)
 go_wp2_with fail
 go_ret
 exact ⟨u,rfl,by have:=Hu.out;omega,hx⟩
def Zo0 (n:Nat) (w:World) (e:Ending) (w':World):Prop:=∃ b:Bool,e=.returned (.bool b)∧(b=true→4≤n)∧Ext w w'
theorem Zr4 (s:ByteArray) (w:World) (hs:s.size≤100000):Calls Tryz.prog 213 #[.string s] w (Zo0 s.size w):=by
 go_enter Tryz.func213,Tryz.ntmps213
 by_cases h4:4≤s.size
 ·have d1:decide ((4:Int)≤(s.size:Int))=true:=Yf (by omega)
  go_wp2_with (go_at_call 228;refine (Fz _ _ (by simp;omega)).mono ?_;rintro e w1 ⟨t,rfl,ht,hx1⟩)
  go_ret
  exact ⟨_,rfl,fun _=>h4,hx1⟩
 have d1:decide ((4:Int)≤(s.size:Int))=false:=Yg (by omega)
 go_wp2_with fail
 go_ret
 exact ⟨false,rfl,fun h=>absurd h (by decide),Yl _⟩
def Zpz (w:World) (e:Ending) (w':World):Prop:=∃ (s:ByteArray) (x:Int),e=.returned (.tuple #[.string s,.int .i64 x])∧s.size≤63∧(x=0→1≤s.size)∧Ext w w'
theorem Pc {S:Nat→Prop} (v:Value) (l:List Int) (w:World) (h:Xz w S v l) (hll:l.length≤100000):Calls Tryz.prog 205 #[v] w (Zpz w):=by
 obtain ⟨A,C,rfl,hlCC,hCC⟩:=h.shape
 obtain ⟨n,hnn⟩:∃ n,(l).length=n:=⟨_,rfl⟩
 have Hnn:=Yw hnn
 have Hh:=Yw h
 unfold maxLen at hCC
 rw [hnn] at hlCC ⊢
 clear h hnn
 rw [Hnn.out] at hll
 have HhI:=Yw (show Xz w S (.slice A n C) l by have:=Hh.out;rwa [Hnn.out] at this)
 go_enter Tryz.func205,Tryz.ntmps205
 by_cases h0:n=0
 ·subst h0
  go_wp2_with fail
  go_ret2
  exact ⟨_,_,rfl,by show 0≤63;omega,fun h=>absurd h (by decide),Yl _⟩
 have d0:((n:Int) == 0)=false:=by simp;omega
 have d0b:(n == 0)=false:=by simp;omega
 have Hn0:=Yw h0
 clear h0
 cases hb:Zri l
 ·have A1:=fun (w1:World) (hx:Ext w w1)=>Zrx _ l w1 (HhI.out.ext hx)
  go_wp2_with (go_at_call 212;refine (U9 _ l _ HhI.out).mono ?_;rintro e w1 ⟨rfl,hx1⟩;rw [hb])
  refine (A1 _ hx1).mono ?_
  rintro e w2 ⟨p,x,rfl,hp,hx2⟩
  have Hx:=Yw (hx1.trans hx2)
  clear hx1 hx2 A1
  by_cases hx0:x=0
  ·subst hx0
   have hus:¬ 9223372036854775807 < 4+p.size:=by omega
   by_cases h63:p.size≤59
   ·have d1:decide ((63:Int) < (((⟨#[120,110,45,45]⟩:ByteArray)++p).size:Int))=false:=Yg (by rw [Ym];show ¬ (63:Int) < ((4+p.size:Nat):Int);omega)
    have d2:decide ((63:Int) < (4:Int)+(p.size:Int))=false:=Yg (by omega)
    go_wp2_with fail
    go_ret2
    exact ⟨_,_,rfl,by rw [Ym];show 4+p.size≤63;omega,fun _=>by rw [Ym];show 1≤4+p.size;omega,Hx.out⟩
   have d2:decide ((63:Int) < (4:Int)+(p.size:Int))=true:=Yf (by omega)
   go_wp2_with fail
   go_ret2
   exact ⟨_,_,rfl,by show 0≤63;omega,fun h=>absurd h (by decide),Hx.out⟩
  have d1:(!(x == 0))=true:=by simp [hx0]
  have d2:(x != 0)=true:=d1
  have Hx0:=Yw hx0
  clear hx0
  go_wp2_with fail
  go_ret2
  exact ⟨_,x,rfl,by show 0≤63;omega,fun h=>absurd h Hx0.out,Hx.out⟩
 go_wp2_with (go_at_call 212;refine (U9 _ l _ HhI.out).mono ?_;rintro e w1 ⟨rfl,hx1⟩;rw [hb])
 have Hx1:=Yw hx1
 clear hx1
 go_loopw [16,4] (fun o s wr=>∃ (i:Nat) (u:ByteArray),i≤n∧o=.int .i64 (i:Int)∧s=.string u∧u.size=i∧Ext w wr) (fun o _ _=>n - (intOf o).toNat)
 case atStart=>exact ⟨0,⟨#[]⟩,by omega,rfl,rfl,rfl,Hx1.out⟩
 obtain ⟨i,u,hi,rfl,rfl,hu,hx⟩:=hrel
 have Hx:=Yw hx
 have Hu:=Yw hu
 have hus0:u.size≤100000:=by omega
 clear hx hu Hx1
 by_cases hlt:i < n
 ·have hd_i:decide ((i:Int) < (n:Int))=true:=Yf (by omega)
  have i0_i:(0:Int)≤(i:Int):=by omega
  have i1_i:(i:Int) < (n:Int):=by omega
  obtain ⟨x,hs_x⟩:∃ s,(l)[i]?=some s:=⟨(l)[i]'(by have:=Hnn.out;omega),Zz _⟩
  obtain ⟨g_x,o_x,c_x,hvv,_,_,_,hgl_x,a0_x⟩:=(HhI.out.ext Hx.out).get hs_x
  simp only [Ye] at hvv
  obtain ⟨rfl,-,rfl⟩:=hvv
  have Hs_x:=Yw hs_x
  clear hs_x
  have hcv:=fun w:World=>V1 (w:=w) [x] 1 rfl _ rfl
  simp only [List.map_cons,List.map_nil] at hcv
  obtain ⟨bz,hbz⟩:∃ b,bs (u8L [x])=b:=⟨_,rfl⟩
  have hbs:bz.size=1:=by rw [← hbz];rfl
  rw [hbz] at hcv
  have hus:¬ 9223372036854775807 < u.size+bz.size:=by omega
  clear hbz
  go_wp2_with fail
  go_roundw
  case rel=>exact ⟨i+1,_,by omega,by go_num,rfl,by rw [Ym,Hu.out,hbs],Hx.out.alloc _⟩
  case measure=>(simp [intOf];omega)
 have hd_i:decide ((i:Int) < (n:Int))=false:=Yg (by omega)
 by_cases h63:u.size≤63
 ·have d1:decide ((63:Int) < (u.size:Int))=false:=Yg (by omega)
  have d2:decide (63 < u.size)=false:=Yg (by omega)
  go_wp2_with fail
  go_ret2
  exact ⟨_,_,rfl,h63,fun _=>by have:=Hu.out;have:=Hn0.out;omega,Hx.out⟩
 have d1:decide ((63:Int) < (u.size:Int))=true:=Yf (by omega)
 have d2:decide (63 < u.size)=true:=Yf (by omega)
 go_wp2_with fail
 go_ret2
 exact ⟨_,_,rfl,by show 0≤63;omega,fun h=>absurd h (by decide),Hx.out⟩
def Zpb (w:World) (e:Ending) (w':World):Prop:=∃ v:Int,e=.returned (.int .i64 v)∧-1≤v∧v≤35∧w=w'
theorem Zve (b:Nat) (hb:b≤255) (w:World):Calls Tryz.prog 263 #[.int .u8 (b:Int)] w (Zpb w):=by
 have hr:(0≤b∧b≤47)∨(48≤b∧b≤57)∨(58≤b∧b≤64)∨(65≤b∧b≤90)∨(91≤b∧b≤96)∨(97≤b∧b≤122)∨(123≤b∧b≤255):=by omega
 rcases hr with ⟨h0,h1⟩ | ⟨h0,h1⟩ | ⟨h0,h1⟩ | ⟨h0,h1⟩ | ⟨h0,h1⟩ | ⟨h0,h1⟩ | ⟨h0,h1⟩
 ·have e0:decide ((97:Int)≤(b:Int))=false:=Yg (by omega)
  have e1:decide ((b:Int)≤122)=true:=Yf (by omega)
  have e2:decide ((65:Int)≤(b:Int))=false:=Yg (by omega)
  have e3:decide ((b:Int)≤90)=true:=Yf (by omega)
  have e4:decide ((48:Int)≤(b:Int))=false:=Yg (by omega)
  have e5:decide ((b:Int)≤57)=true:=Yf (by omega)
  go_enter Tryz.func263,Tryz.ntmps263
  go_wp2_with fail
  go_ret
  exact ⟨_,rfl,by omega,by omega,rfl⟩
 ·have e0:decide ((97:Int)≤(b:Int))=false:=Yg (by omega)
  have e1:decide ((b:Int)≤122)=true:=Yf (by omega)
  have e2:decide ((65:Int)≤(b:Int))=false:=Yg (by omega)
  have e3:decide ((b:Int)≤90)=true:=Yf (by omega)
  have e4:decide ((48:Int)≤(b:Int))=true:=Yf (by omega)
  have e5:decide ((b:Int)≤57)=true:=Yf (by omega)
  obtain ⟨c,hc⟩:∃ c,b - 48=c:=⟨_,rfl⟩
  have r1:IntKind.u8.wrap ((b:Int) - 48)=(c:Int):=by rw [IntWalk.u8_in _ (by omega)];omega
  have r2:IntKind.i64.wrap (c:Int)=(c:Int):=Yq _ (by omega)
  have r3:IntKind.i64.wrap ((c:Int)+26)=(c:Int)+26:=Yq _ (by omega)
  have hc2:c≤25:=by omega
  have hc3:c≤9:=by omega
  clear hc
  go_enter Tryz.func263,Tryz.ntmps263
  go_wp2_with fail
  go_ret
  exact ⟨_,rfl,by omega,by omega,rfl⟩
 ·have e0:decide ((97:Int)≤(b:Int))=false:=Yg (by omega)
  have e1:decide ((b:Int)≤122)=true:=Yf (by omega)
  have e2:decide ((65:Int)≤(b:Int))=false:=Yg (by omega)
  have e3:decide ((b:Int)≤90)=true:=Yf (by omega)
  have e4:decide ((48:Int)≤(b:Int))=true:=Yf (by omega)
  have e5:decide ((b:Int)≤57)=false:=Yg (by omega)
  go_enter Tryz.func263,Tryz.ntmps263
  go_wp2_with fail
  go_ret
  exact ⟨_,rfl,by omega,by omega,rfl⟩
 ·have e0:decide ((97:Int)≤(b:Int))=false:=Yg (by omega)
  have e1:decide ((b:Int)≤122)=true:=Yf (by omega)
  have e2:decide ((65:Int)≤(b:Int))=true:=Yf (by omega)
  have e3:decide ((b:Int)≤90)=true:=Yf (by omega)
  have e4:decide ((48:Int)≤(b:Int))=true:=Yf (by omega)
  have e5:decide ((b:Int)≤57)=false:=Yg (by omega)
  obtain ⟨c,hc⟩:∃ c,b - 65=c:=⟨_,rfl⟩
  have r1:IntKind.u8.wrap ((b:Int) - 65)=(c:Int):=by rw [IntWalk.u8_in _ (by omega)];omega
  have r2:IntKind.i64.wrap (c:Int)=(c:Int):=Yq _ (by omega)
  have hc2:c≤25:=by omega
  clear hc
  go_enter Tryz.func263,Tryz.ntmps263
  go_wp2_with fail
  go_ret
  exact ⟨_,rfl,by omega,by omega,rfl⟩
 ·have e0:decide ((97:Int)≤(b:Int))=false:=Yg (by omega)
  have e1:decide ((b:Int)≤122)=true:=Yf (by omega)
  have e2:decide ((65:Int)≤(b:Int))=true:=Yf (by omega)
  have e3:decide ((b:Int)≤90)=false:=Yg (by omega)
  have e4:decide ((48:Int)≤(b:Int))=true:=Yf (by omega)
  have e5:decide ((b:Int)≤57)=false:=Yg (by omega)
  go_enter Tryz.func263,Tryz.ntmps263
  go_wp2_with fail
  go_ret
  exact ⟨_,rfl,by omega,by omega,rfl⟩
 ·have e0:decide ((97:Int)≤(b:Int))=true:=Yf (by omega)
  have e1:decide ((b:Int)≤122)=true:=Yf (by omega)
  have e2:decide ((65:Int)≤(b:Int))=true:=Yf (by omega)
  have e3:decide ((b:Int)≤90)=false:=Yg (by omega)
  have e4:decide ((48:Int)≤(b:Int))=true:=Yf (by omega)
  have e5:decide ((b:Int)≤57)=false:=Yg (by omega)
  obtain ⟨c,hc⟩:∃ c,b - 97=c:=⟨_,rfl⟩
  have r1:IntKind.u8.wrap ((b:Int) - 97)=(c:Int):=by rw [IntWalk.u8_in _ (by omega)];omega
  have r2:IntKind.i64.wrap (c:Int)=(c:Int):=Yq _ (by omega)
  have hc2:c≤25:=by omega
  clear hc
  go_enter Tryz.func263,Tryz.ntmps263
  go_wp2_with fail
  go_ret
  exact ⟨_,rfl,by omega,by omega,rfl⟩
 have e0:decide ((97:Int)≤(b:Int))=true:=Yf (by omega)
 have e1:decide ((b:Int)≤122)=false:=Yg (by omega)
 have e2:decide ((65:Int)≤(b:Int))=true:=Yf (by omega)
 have e3:decide ((b:Int)≤90)=false:=Yg (by omega)
 have e4:decide ((48:Int)≤(b:Int))=true:=Yf (by omega)
 have e5:decide ((b:Int)≤57)=false:=Yg (by omega)
 go_enter Tryz.func263,Tryz.ntmps263
 go_wp2_with fail
 go_ret
 exact ⟨_,rfl,by omega,by omega,rfl⟩
def Zsl (n a:Nat) (w:World) (e:Ending) (w':World):Prop:=∃ (v x:Int) (b:Bool),e=.returned (.tuple #[.int .i64 v,.int .i64 x,.bool b])∧(b=true→∃ (m p:Nat),v=(m:Int)∧x=(p:Int)∧m≤2147483648∧a < p∧p≤n)∧Ext w w'
theorem P1 (s:ByteArray) (n a:Nat) (hs:s.size=n) (hn:n≤100000) (ha:a≤n) (b:Int) (w:World):Calls Tryz.prog 250 #[.string s,.int .i64 (a:Int),.int .i64 b] w (Zsl n a w):=by
 have Hn:=Yw hs
 go_enter Tryz.func250,Tryz.ntmps250
 go_wp2_with fail
 go_loopw [1,9,10,11] (fun o m q j wr=>∃ (p:Nat) (x y z:Int),o=.int .i64 (p:Int)∧m=.int .i64 x∧q=.int .i64 y∧j=.int .i64 z∧a≤p∧p≤n∧0≤x∧x≤2147483648∧0≤y∧y≤2147483648∧Ext w wr) (fun o _ _ _ _=>n - (intOf o).toNat)
 case atStart=>exact ⟨a,0,1,0,rfl,rfl,rfl,rfl,Yo _,ha,by omega,by omega,by omega,by omega,Yl _⟩
 obtain ⟨p,x,y,z,rfl,rfl,rfl,rfl,hp1,hp2,hx1,hx2,hy1,hy2,hx⟩:=hrel
 have Hx:=Yw hx
 clear hx
 by_cases hlt:p < n
 ·have d0:decide ((n:Int)≤(p:Int))=false:=Yg (by omega)
  have hlt':p < s.size:=by rw [Hn.out];exact hlt
  have p0:(0:Int)≤(p:Int):=by omega
  obtain ⟨c,hc⟩:∃ b:Nat,(s[p]'hlt').toNat=b:=⟨_,rfl⟩
  have hc2:c≤255:=by rw [← hc];have:=(s[p]'hlt').toNat_lt;omega
  go_wp2_with fail
  refine (Zve c hc2 _).mono ?_
  rintro e w1 ⟨d,rfl,hd1,hd2,rfl⟩
  by_cases hdn:d < 0
  ·have d1:decide (d < 0)=true:=Yf hdn
   go_wp2_with fail
   go_ret3
   exact ⟨_,_,false,rfl,fun h=>absurd h (by decide),Hx.out⟩
  have d1:decide (d < 0)=false:=Yg hdn
  have m1:=Int.mul_nonneg (show 0≤d by omega) hy1
  have m2:d * y≤35 * 2147483648:=Int.mul_le_mul hd2 hy2 hy1 (by omega)
  obtain ⟨D,hD⟩:∃ D,d * y=D:=⟨_,rfl⟩
  rw [hD] at m1 m2
  have r1:IntKind.i64.wrap (d * y)=D:=by rw [hD];exact Yq _ (by omega)
  have r2:IntKind.i64.wrap (x+D)=x+D:=Yq _ (by omega)
  have r3:IntKind.i64.wrap ((p:Int)+1)=((p+1:Nat):Int):=by rw [Yq _ (by omega)];omega
  clear hD
  go_wp2_with fail
  all_goals
   refine (Zvz z b _).mono ?_
   rintro e w1 ⟨t,rfl,ht1,ht2,rfl⟩
   have r4:IntKind.i64.wrap (36 - (t:Int))=((36 - t:Nat):Int):=by rw [Yq _ (by omega)];omega
   have m3:=Int.mul_nonneg hy1 (show (0:Int)≤((36 - t:Nat):Int) by omega)
   have m4:y * ((36 - t:Nat):Int)≤2147483648 * 35:=Int.mul_le_mul hy2 (by omega) (by omega) (by omega)
   obtain ⟨U,hU⟩:∃ U,((36 - t:Nat):Int)=U:=⟨_,rfl⟩
   rw [hU] at r4 m3 m4
   clear hU
   obtain ⟨D2,hD2⟩:∃ D,y * U=D:=⟨_,rfl⟩
   rw [hD2] at m3 m4
   have r5:IntKind.i64.wrap (y * U)=D2:=by rw [hD2];exact Yq _ (by omega)
   clear hD2
   by_cases hdt:d < (t:Int)
   ·have d2:decide (d < (t:Int))=true:=Yf hdt
    go_wp2_with fail
    go_ret3
    refine ⟨_,_,true,rfl,fun _=>⟨Int.toNat _,p+1,(Int.toNat_of_nonneg ?_).symm,by go_num,?_,by omega,by omega⟩,Hx.out⟩
    all_goals omega
   have d2:decide (d < (t:Int))=false:=Yg hdt
   go_wp2_with fail
   all_goals
    go_roundw
    case rel=>exact ⟨p+1,_,_,_,by go_num,rfl,rfl,rfl,by omega,by omega,by omega,by omega,by omega,by omega,Hx.out⟩
    case measure=>(simp [intOf];omega)
 have d0:decide ((n:Int)≤(p:Int))=true:=Yf (by omega)
 go_wp2_with fail
 go_ret3
 exact ⟨_,_,false,rfl,fun h=>absurd h (by decide),Hx.out⟩
def Bz (N:Nat) (w:World) (e:Ending) (w':World):Prop:=∃ (v:Value) (l:List Int) (x:Int),e=.returned (.tuple #[v,.int .i64 x])∧RdE Xe w' (fun k=>w.heap.size≤k) v l∧l.length≤N∧Ext w w'
theorem Xp {N:Nat} {w w':World} (x:Int) (h:Ext w w'):Bz N w (.returned (.tuple #[.slice none 0 0,.int .i64 x])) w':=⟨_,[],x,rfl,Xz.nil _ _,Nat.zero_le _,h⟩
theorem Zu4 (w:World) (A:Option Addr) (c:Nat) (hc:c≤maxLen):RdE Xe w (fun _=>True) (.slice A 0 c) []:=⟨rfl,A,c,rfl,Nat.zero_le _,hc,fun h=>absurd h (by simp)⟩
theorem Zs7 (s:ByteArray) (n:Nat) (hs:s.size=n) (w:World):Calls Tryz.prog 229 #[.string s] w (Bz 2048 w):=by
 have Hn:=Yw hs
 obtain ⟨B,hB⟩:∃ B,w.heap.size=B:=⟨_,rfl⟩
 have HB:=Yw hB
 clear hB
 go_enter Tryz.func229,Tryz.ntmps229
 by_cases hbig:n≤2048
 ·have d0:decide ((2048:Int) < (n:Int))=false:=Yg (by omega)
  go_wp2_with fail
  go_loopw [5,4] (fun o b wr=>∃ k q:Nat,1≤k∧k≤n+1∧o=.int .i64 (k:Int)∧b=.int .i64 (q:Int)∧(q=0∨q < n)∧Ext w wr) (fun o _ _=>n - (intOf o).toNat)
  case atStart=>exact ⟨1,0,Yo _,by omega,rfl,rfl,.inl rfl,Yl _⟩
  obtain ⟨k,q,hk1,hk2,rfl,rfl,hq,hx⟩:=hrel
  have Hx:=Yw hx
  clear hx
  by_cases hlt:k < n
  ·have hd:decide ((k:Int) < (n:Int))=true:=Yf (by omega)
   have hlt':k < s.size:=by rw [Hn.out];exact hlt
   have k0:(0:Int)≤(k:Int):=by omega
   obtain ⟨c,hc⟩:∃ b:Nat,(s[k]'hlt').toNat=b:=⟨_,rfl⟩
   go_wp2_with fail
   all_goals
    go_roundw
    case rel=>first|exact ⟨k+1,q,by omega,by omega,by go_num,rfl,hq,Hx.out⟩|exact ⟨k+1,k,by omega,by omega,by go_num,rfl,.inr hlt,Hx.out⟩
    case measure=>(simp [intOf];omega)
  have hd:decide ((k:Int) < (n:Int))=false:=Yg (by omega)
  go_wp2_with fail
  clear hk1 hk2 hlt
  have hqn:q≤n:=by omega
  have hq8:q≤2048:=by omega
  have Hq:=Yw hq
  clear hq hd
  go_loopw [7,6] (fun o v wr=>∃ (k:Nat) (l:List Int),k≤q∧o=.int .i64 (k:Int)∧Own Xe wr B v l∧l.length=k∧Ext w wr) (fun o _ _=>q - (intOf o).toNat)
  case atStart=>exact ⟨0,[],by omega,rfl,Own.nil _ _ _,rfl,Hx.out⟩
  clear Hx
  obtain ⟨k,l,hk,rfl,ho,hl,hx⟩:=hrel
  obtain ⟨A,C,rfl,hlC,hC⟩:=ho.shape
  rw [hl] at hlC ⊢
  have Hx:=Yw hx
  have Ho:=Yw ho
  have Hl:=Yw hl
  have hBw:B≤wr.heap.size:=by rw [← HB.out];exact hx.size
  unfold maxLen at hC
  clear hx ho hl
  by_cases hlt:k < q
  ·have hd:decide ((k:Int) < (q:Int))=true:=Yf (by omega)
   have hlt':k < s.size:=by rw [Hn.out];omega
   have k0:(0:Int)≤(k:Int):=by omega
   have k1:(k:Int) < (n:Int):=by omega
   obtain ⟨c,hc⟩:∃ b:Nat,(s[k]'hlt').toNat=b:=⟨_,rfl⟩
   by_cases hc7:127 < c
   ·have d1:decide ((127:Int) < (c:Int))=true:=Yf (by omega)
    go_wp2_with fail
    go_ret2
    exact Xp _ Hx.out
   have d1:decide ((127:Int) < (c:Int))=false:=Yg (by omega)
   have r0:IntKind.i64.wrap (c:Int)=(c:Int):=Yq _ (by omega)
   go_wp2_with (at_builtin;refine Xx Xe _ _ _ rfl rfl rfl rfl (by rw [← Hl.out];exact Ho.out.ext ((Yl _).alloc _)) rfl (X9 wr (c:Int) _ _ rfl) (by rw [Hl.out];simp;omega) (by show 8≤1000;omega) (by simp;omega) ?_;intro A3 n3 c3 w3 hg)
   have Hg:=Yw hg
   clear hg
   go_wp2_with fail
   go_roundw
   case rel=>exact ⟨k+1,_,by omega,by go_num,Hg.out.own,by rw [Zs,Hl.out];rfl,Hg.out.ext w (Hx.out.alloc _) (by rw [HB.out];exact Yo _)⟩
   case measure=>(simp [intOf];omega)
  have hd:decide ((k:Int) < (q:Int))=false:=Yg (by omega)
  obtain rfl:k=q:=by omega
  have hkn:k < n∨k=0:=by have:=Hq.out;omega
  have Hkn:=Yw hkn
  clear hkn
  by_cases hz:0 < k
  ·have z1:decide ((0:Int) < (k:Int))=true:=Yf (by omega)
   have ha1:k+1≤n:=by rcases Hkn.out with h|h<;>omega
   have ha2:k≤k+1:=by omega
   go_wp2_with fail
   clear hz z1 hk hlt hd hlC hC
   go_loopw [8,9,10,11,12,6] (fun o m i y f v wr=>∃ (a:Nat) (x:Int) (p:Nat) (z:Int) (b:Bool) (l:List Int),a≤n∧o=.int .i64 (a:Int)∧128≤x∧x≤1114111∧m=.int .i64 x∧p≤l.length∧i=.int .i64 (p:Int)∧y=.int .i64 z∧f=.bool b∧Own Xe wr B v l∧l.length≤a∧Ext w wr) (fun o _ _ _ _ _ _=>n - (intOf o).toNat)
   case atStart=>exact ⟨k+1,128,0,72,true,l,ha1,by first|rfl|go_num,by omega,by omega,rfl,Nat.zero_le _,rfl,rfl,rfl,by have:=Ho.out;rwa [Hl.out] at this,by rw [Hl.out];exact ha2,Hx.out⟩
   clear Hx Ho Hl Hkn
   obtain ⟨a,x,p,z,b,l,ha,rfl,hx1,hx2,rfl,hp,rfl,rfl,rfl,ho,hla,hx⟩:=hrel
   obtain ⟨A,C,rfl,hlC,hC⟩:=ho.shape
   obtain ⟨m,hm⟩:∃ m,l.length=m:=⟨_,rfl⟩
   rw [hm] at hlC hp hla ⊢
   have Hm:=Yw hm
   have Hx:=Yw hx
   have Ho:=Yw ho
   have hBw:B≤wr.heap.size:=by rw [← HB.out];exact hx.size
   have HBw:=Yw hBw
   unfold maxLen at hC
   clear hx ho hm hBw
   by_cases hlt:a < n
   ·have hd:decide ((a:Int) < (n:Int))=true:=Yf (by omega)
    go_wp2_with fail
    refine (P1 s n a Hn.out (by omega) (by omega) z _).mono ?_
    rintro e w1 ⟨v,y,ok,rfl,hok,hx1⟩
    have Hx1:=Yw hx1
    clear hx1
    obtain ⟨H,hH⟩:∃ H,m+1=H:=⟨_,rfl⟩
    have r1:IntKind.i64.wrap ((m:Int)+1)=(H:Int):=by rw [Yq _ (by omega)];omega
    cases ok with
    | false =>
     go_wp2_with fail
     go_ret2
     exact Xp _ (Hx.out.trans Hx1.out)
    | true =>
     obtain ⟨V,p2,rfl,rfl,hV,hp2,hp3⟩:=hok rfl
     clear hok
     by_cases hov:2147483647 < V
     ·have d1:decide ((2147483647:Int) < (V:Int))=true:=Yf (by omega)
      go_wp2_with fail
      go_ret2
      exact Xp _ (Hx.out.trans Hx1.out)
     have d1:decide ((2147483647:Int) < (V:Int))=false:=Yg (by omega)
     obtain ⟨M,hM⟩:∃ M,V+p=M:=⟨_,rfl⟩
     have r2:IntKind.i64.wrap ((V:Int)+(p:Int))=(M:Int):=by rw [Yq _ (by omega)];omega
     have hH0:(H == 0)=false:=by simp;omega
     have hH1:((H:Int) == 0)=false:=by simp;omega
     have hH2:H≠0:=by omega
     have r3:(M:Int).tdiv (H:Int)=((M / H:Nat):Int):=rfl
     have r6:(M:Int).tmod (H:Int)=((M % H:Nat):Int):=rfl
     have hq:=Nat.div_le_self M H
     have hr:=Nat.mod_lt M (show 0 < H by omega)
     obtain ⟨q,hqe⟩:∃ q,M / H=q:=⟨_,rfl⟩
     obtain ⟨r,hre⟩:∃ r,M % H=r:=⟨_,rfl⟩
     rw [hqe] at r3 hq
     rw [hre] at r6 hr
     clear hqe hre
     have r4:IntKind.i64.wrap (q:Int)=(q:Int):=Yq _ (by omega)
     obtain ⟨y2,hy2⟩:∃ y2,x+(q:Int)=y2:=⟨_,rfl⟩
     have r5:IntKind.i64.wrap (x+(q:Int))=y2:=by rw [Yq _ (by omega)];exact hy2
     have hyb:128≤y2:=by omega
     by_cases hbig2:1114111 < y2
     ·have d2:decide ((1114111:Int) < y2)=true:=Yf hbig2
      clear hy2
      go_wp2_with fail
      go_ret2
      exact Xp _ (Hx.out.trans Hx1.out)
     have d2:decide ((1114111:Int) < y2)=false:=Yg hbig2
     have HH:=Yw hH
     clear hy2 hM hH
     go_wp2_with fail
     refine Y0 (by kernel_rfl) (by kernel_rfl) ?_
     repeat ((with_reducible refine Yv ?_);intro K hK;go_simp;(with_reducible refine hK _ ?_);clear hK K)
     (with_reducible refine Yu ?_)
     intro w2 hy
     have Hx2:=Yw (Hx1.out.trans hy)
     clear hy
     cases hs:Rp y2
     ·go_wp2_with (go_at_call 143;refine (Qv _ _).mono ?_;rintro e w' ⟨rfl,rfl⟩;rw [hs])
      go_ret2
      exact Xp _ (Hx.out.trans Hx2.out)
     go_wp2_with (go_at_call 143;refine (Qv _ _).mono ?_;rintro e w' ⟨rfl,rfl⟩;rw [hs])
     refine (Fk V H (by omega) (by have:=HH.out;omega) (by have:=HH.out;omega) b _).mono ?_
     rintro e w3 ⟨z3,rfl,hx3⟩
     have Hx3:=Yw (Hx2.out.trans hx3)
     have Ho3:=Yw (Ho.out.ext Hx3.out)
     have hB3:=Nat.le_trans HBw.out Hx3.out.size
     have HB3:=Yw hB3
     have hrm:r≤m:=by have:=HH.out;omega
     have s0:(0:Int)≤(r:Int):=by omega
     have s1:(r:Int)≤(m:Int):=by omega
     have s2:(r:Int)≤(C:Int):=by omega
     have s3:r≤C:=by omega
     have s4:r≤m:=by omega
     clear hx3 hB3 hr hrm
     have hA:(A=none∧m=0∧C=0)∨∃ g,A=some ⟨g,0,none⟩:=by
      rcases Ho.out.2 with ⟨h1,h2⟩ | ⟨g,c,_,h1,_⟩
      ·simp only [Ye] at h1;exact .inl ⟨h1.1,by rw [← Hm.out];exact h2,h1.2.2⟩
      simp only [Ye] at h1;exact .inr ⟨g,h1.1⟩
     have Ht:=Yw (show RdE Xe w3 (fun k=>B≤k) (.slice A r C) (l.take r) from RdE.take (by have:=Ho3.out.rd;exact this) rfl (by rw [Hm.out];exact s4))
     have Htl:=Yw (show (l.take r).length=r by rw [Zp,Hm.out];omega)
     rcases hA with ⟨rfl,rfl,rfl⟩ | ⟨g,rfl⟩
     ·obtain rfl:r=0:=by omega
      have hl0:l=[]:=List.eq_nil_of_length_eq_zero Hm.out
      subst hl0
      go_wp2_with (first|(at_builtin;refine Xx Xe _ _ _ rfl rfl rfl rfl (Own.nil Xe _ B) rfl (X9 w3 y2 _ _ rfl) (by show 0+1≤_;omega) (by show 8≤1000;omega) (by have:=HB3.out;simp;omega) ?_;intro A5 n5 c5 w5 hg5;have Hg5:=Yw hg5;have hx5:=hg5.ext w ((Hx.out.trans Hx3.out).alloc _) (by rw [HB.out];exact Yo _);have Hx5:=Yw hx5;have HB5:=Yw (show B≤w5.heap.size by rw [← HB.out];exact hx5.size);have Hl5:=Yw (show n5=1 by rw [hg5.len];rfl);clear hg5 hx5)|(at_builtin;refine Xx Xe _ _ _ rfl rfl rfl rfl Hg5.out.own rfl (show RdE Xe _ (fun _=>True) (.slice none 0 0) [] from Xz.nil _ _) (by show 1+0≤_;omega) (by show 8≤1000;omega) HB5.out ?_;intro A6 n6 c6 w6 hg6;have Hg6:=Yw hg6;have Hx6:=Yw (hg6.ext w Hx5.out (by rw [HB.out];exact Yo _));have Hl6:=Yw (show n6=1 by rw [hg6.len];rfl);clear hg6))
      go_roundw
      case rel=>exact ⟨p2,y2,1,z3,false,_,hp3,rfl,hyb,by omega,rfl,by rw [← Hg6.out.len,Hl6.out];omega,by first|rfl|go_num,rfl,rfl,Hg6.out.own,by rw [← Hg6.out.len,Hl6.out];omega,Hx6.out⟩
      case measure=>(simp [intOf];omega)
     by_cases hCr:C=r
     ·have hmC:m=C:=by omega
      have hmr:m=r:=by omega
      clear hCr
      subst hmC hmr
      have Hr3:=Yw (show RdE Xe w3 (fun k=>k < w3.heap.size) _ l from Rd.mono Ho3.out.rd fun _ _ h=>h)
      go_wp2_with (first|(at_builtin;refine Xx Xe _ _ _ rfl rfl rfl rfl (Own.nil Xe _ B) rfl Ht.out (by have:=Htl.out;simp only [Zk];omega) (by show 8≤1000;omega) HB3.out ?_;intro A4 n4 c4 w4 hg4;have Hg4:=Yw hg4;have hx4:=hg4.ext w (Hx.out.trans Hx3.out) (by rw [HB.out];exact Yo _);have Hx4:=Yw hx4;have HB4:=Yw (show B≤w4.heap.size by rw [← HB.out];exact hx4.size);have Hl4:=Yw (show n4=m by rw [hg4.len,Zo];exact Htl.out);have Hr4:=Yw (Rd.chg Hr3.out hg4.chg (fun k _ h=>by cases h));have Ha4:=Yw (show ∀ k,k < w3.heap.size→¬ (Value.slice A4 n4 c4).ownBlock=some k by intro k hk he;rcases hg4.at_ with h|h<;>rw [he] at h;cases h;(simp at h;omega));have hc4:=hg4.cap;clear hg4 hx4)|(at_builtin;refine Xx Xe _ _ _ rfl rfl rfl rfl (Hg4.out.own.ext ((Yl _).alloc _)) rfl (X9 w4 y2 _ _ rfl) (by rw [← Hg4.out.len,Hl4.out];show _+1≤_;omega) (by show 8≤1000;omega) (by have:=HB4.out;simp;omega) ?_;intro A5 n5 c5 w5 hg5;have Hg5:=Yw hg5;have hx5:=hg5.ext w (Hx4.out.alloc _) (by rw [HB.out];exact Yo _);have Hx5:=Yw hx5;have HB5:=Yw (show B≤w5.heap.size by rw [← HB.out];exact hx5.size);have Hl5:=Yw (show n5=m+1 by rw [hg5.len,Zs,← Hg4.out.len,Hl4.out];rfl);have Hr5:=Yw (Rd.chg (Rd.ext Hr4.out ((Yl _).alloc _)) hg5.chg (fun k hk h=>Ha4.out k hk h));clear hg5 hx5)|(at_builtin;refine Xx Xe _ _ _ rfl rfl rfl rfl Hg5.out.own rfl (Zu4 _ _ _ (by unfold maxLen;omega)) (by rw [← Hg5.out.len,Hl5.out];show _+0≤_;omega) (by show 8≤1000;omega) HB5.out ?_;intro A6 n6 c6 w6 hg6;have Hg6:=Yw hg6;have Hx6:=Yw (hg6.ext w Hx5.out (by rw [HB.out];exact Yo _));have Hl6:=Yw (show n6=m+1 by rw [hg6.len,Zs,← Hg5.out.len,Hl5.out];rfl);clear hg6))
      go_roundw
      case rel=>exact ⟨p2,y2,m+1,z3,false,_,hp3,rfl,hyb,by omega,rfl,by rw [← Hg6.out.len,Hl6.out];omega,by rw [HH.out],rfl,rfl,Hg6.out.own,by rw [← Hg6.out.len,Hl6.out];omega,Hx6.out⟩
      case measure=>(simp [intOf];omega)
     have c1:¬ r=C:=fun h=>hCr h.symm
     have Hr3:=Yw (show RdE Xe w3 (fun k=>k < w3.heap.size) _ l from Rd.mono Ho3.out.rd fun _ _ h=>h)
     go_wp2_with (first|(at_builtin;refine Xx Xe _ _ _ rfl rfl rfl rfl (Own.nil Xe _ B) rfl Ht.out (by have:=Htl.out;simp only [Zk];omega) (by show 8≤1000;omega) HB3.out ?_;intro A4 n4 c4 w4 hg4;have Hg4:=Yw hg4;have hx4:=hg4.ext w (Hx.out.trans Hx3.out) (by rw [HB.out];exact Yo _);have Hx4:=Yw hx4;have HB4:=Yw (show B≤w4.heap.size by rw [← HB.out];exact hx4.size);have Hl4:=Yw (show n4=r by rw [hg4.len,Zo];exact Htl.out);have Hr4:=Yw (Rd.chg Hr3.out hg4.chg (fun k _ h=>by cases h));have Ha4:=Yw (show ∀ k,k < w3.heap.size→¬ (Value.slice A4 n4 c4).ownBlock=some k by intro k hk he;rcases hg4.at_ with h|h<;>rw [he] at h;cases h;(simp at h;omega));have hc4:=hg4.cap;clear hg4 hx4)|(at_builtin;refine Xx Xe _ _ _ rfl rfl rfl rfl (Hg4.out.own.ext ((Yl _).alloc _)) rfl (X9 w4 y2 _ _ rfl) (by rw [← Hg4.out.len,Hl4.out];show _+1≤_;omega) (by show 8≤1000;omega) (by have:=HB4.out;simp;omega) ?_;intro A5 n5 c5 w5 hg5;have Hg5:=Yw hg5;have hx5:=hg5.ext w (Hx4.out.alloc _) (by rw [HB.out];exact Yo _);have Hx5:=Yw hx5;have HB5:=Yw (show B≤w5.heap.size by rw [← HB.out];exact hx5.size);have Hl5:=Yw (show n5=r+1 by rw [hg5.len,Zs,← Hg4.out.len,Hl4.out];rfl);have Hr5:=Yw (Rd.chg (Rd.ext Hr4.out ((Yl _).alloc _)) hg5.chg (fun k hk h=>Ha4.out k hk h));clear hg5 hx5)|(at_builtin;refine Xx Xe _ _ _ rfl rfl rfl rfl Hg5.out.own rfl (RdE.drop (show RdE Xe w5 (fun k=>k < w3.heap.size) (.slice (some ⟨g,0,none⟩) l.length C) l from Hr5.out) rfl (by rw [Hm.out];exact s4) (by rw [Hm.out]) (by first|(intro _;simp;done)|(intro h;exfalso;omega)) (by omega) (by unfold maxLen;omega)) (by rw [← Hg5.out.len,Hl5.out,Z8,Hm.out];omega) (by show 8≤1000;omega) HB5.out ?_;intro A6 n6 c6 w6 hg6;have Hg6:=Yw hg6;have Hx6:=Yw (hg6.ext w Hx5.out (by rw [HB.out];exact Yo _));have Hl6:=Yw (show n6=m+1 by rw [hg6.len,Zs,← Hg5.out.len,Hl5.out,Z8,Hm.out];omega);clear hg6))
     go_roundw
     case rel=>exact ⟨p2,y2,r+1,z3,false,_,hp3,rfl,hyb,by omega,rfl,by rw [← Hg6.out.len,Hl6.out];omega,by go_num,rfl,rfl,Hg6.out.own,by rw [← Hg6.out.len,Hl6.out];omega,Hx6.out⟩
     case measure=>(simp [intOf];omega)
   have hd:decide ((a:Int) < (n:Int))=false:=Yg (by omega)
   go_wp2_with fail
   go_ret2
   refine ⟨_,l,0,rfl,?_,by rw [Hm.out];omega,Hx.out⟩
   rw [← Hm.out,HB.out]
   exact Ho.out.rd
  have z1:decide ((0:Int) < (k:Int))=false:=Yg (by omega)
  have ha1:k≤n:=by rcases Hkn.out with h|h<;>omega
  have ha2:k≤k:=by omega
  go_wp2_with fail
  clear hz z1 hk hlt hd hlC hC
  go_loopw [8,9,10,11,12,6] (fun o m i y f v wr=>∃ (a:Nat) (x:Int) (p:Nat) (z:Int) (b:Bool) (l:List Int),a≤n∧o=.int .i64 (a:Int)∧128≤x∧x≤1114111∧m=.int .i64 x∧p≤l.length∧i=.int .i64 (p:Int)∧y=.int .i64 z∧f=.bool b∧Own Xe wr B v l∧l.length≤a∧Ext w wr) (fun o _ _ _ _ _ _=>n - (intOf o).toNat)
  case atStart=>exact ⟨k,128,0,72,true,l,ha1,by first|rfl|go_num,by omega,by omega,rfl,Nat.zero_le _,rfl,rfl,rfl,by have:=Ho.out;rwa [Hl.out] at this,by rw [Hl.out];exact ha2,Hx.out⟩
  clear Hx Ho Hl Hkn
  obtain ⟨a,x,p,z,b,l,ha,rfl,hx1,hx2,rfl,hp,rfl,rfl,rfl,ho,hla,hx⟩:=hrel
  obtain ⟨A,C,rfl,hlC,hC⟩:=ho.shape
  obtain ⟨m,hm⟩:∃ m,l.length=m:=⟨_,rfl⟩
  rw [hm] at hlC hp hla ⊢
  have Hm:=Yw hm
  have Hx:=Yw hx
  have Ho:=Yw ho
  have hBw:B≤wr.heap.size:=by rw [← HB.out];exact hx.size
  have HBw:=Yw hBw
  unfold maxLen at hC
  clear hx ho hm hBw
  by_cases hlt:a < n
  ·have hd:decide ((a:Int) < (n:Int))=true:=Yf (by omega)
   go_wp2_with fail
   refine (P1 s n a Hn.out (by omega) (by omega) z _).mono ?_
   rintro e w1 ⟨v,y,ok,rfl,hok,hx1⟩
   have Hx1:=Yw hx1
   clear hx1
   obtain ⟨H,hH⟩:∃ H,m+1=H:=⟨_,rfl⟩
   have r1:IntKind.i64.wrap ((m:Int)+1)=(H:Int):=by rw [Yq _ (by omega)];omega
   cases ok with
   | false =>
    go_wp2_with fail
    go_ret2
    exact Xp _ (Hx.out.trans Hx1.out)
   | true =>
    obtain ⟨V,p2,rfl,rfl,hV,hp2,hp3⟩:=hok rfl
    clear hok
    by_cases hov:2147483647 < V
    ·have d1:decide ((2147483647:Int) < (V:Int))=true:=Yf (by omega)
     go_wp2_with fail
     go_ret2
     exact Xp _ (Hx.out.trans Hx1.out)
    have d1:decide ((2147483647:Int) < (V:Int))=false:=Yg (by omega)
    obtain ⟨M,hM⟩:∃ M,V+p=M:=⟨_,rfl⟩
    have r2:IntKind.i64.wrap ((V:Int)+(p:Int))=(M:Int):=by rw [Yq _ (by omega)];omega
    have hH0:(H == 0)=false:=by simp;omega
    have hH1:((H:Int) == 0)=false:=by simp;omega
    have hH2:H≠0:=by omega
    have r3:(M:Int).tdiv (H:Int)=((M / H:Nat):Int):=rfl
    have r6:(M:Int).tmod (H:Int)=((M % H:Nat):Int):=rfl
    have hq:=Nat.div_le_self M H
    have hr:=Nat.mod_lt M (show 0 < H by omega)
    obtain ⟨q,hqe⟩:∃ q,M / H=q:=⟨_,rfl⟩
    obtain ⟨r,hre⟩:∃ r,M % H=r:=⟨_,rfl⟩
    rw [hqe] at r3 hq
    rw [hre] at r6 hr
    clear hqe hre
    have r4:IntKind.i64.wrap (q:Int)=(q:Int):=Yq _ (by omega)
    obtain ⟨y2,hy2⟩:∃ y2,x+(q:Int)=y2:=⟨_,rfl⟩
    have r5:IntKind.i64.wrap (x+(q:Int))=y2:=by rw [Yq _ (by omega)];exact hy2
    have hyb:128≤y2:=by omega
    by_cases hbig2:1114111 < y2
    ·have d2:decide ((1114111:Int) < y2)=true:=Yf hbig2
     clear hy2
     go_wp2_with fail
     go_ret2
     exact Xp _ (Hx.out.trans Hx1.out)
    have d2:decide ((1114111:Int) < y2)=false:=Yg hbig2
    have HH:=Yw hH
    clear hy2 hM hH
    go_wp2_with fail
    refine Y0 (by kernel_rfl) (by kernel_rfl) ?_
    repeat ((with_reducible refine Yv ?_);intro K hK;go_simp;(with_reducible refine hK _ ?_);clear hK K)
    (with_reducible refine Yu ?_)
    intro w2 hy
    have Hx2:=Yw (Hx1.out.trans hy)
    clear hy
    cases hs:Rp y2
    ·go_wp2_with (go_at_call 143;refine (Qv _ _).mono ?_;rintro e w' ⟨rfl,rfl⟩;rw [hs])
     go_ret2
     exact Xp _ (Hx.out.trans Hx2.out)
    go_wp2_with (go_at_call 143;refine (Qv _ _).mono ?_;rintro e w' ⟨rfl,rfl⟩;rw [hs])
    refine (Fk V H (by omega) (by have:=HH.out;omega) (by have:=HH.out;omega) b _).mono ?_
    rintro e w3 ⟨z3,rfl,hx3⟩
    have Hx3:=Yw (Hx2.out.trans hx3)
    have Ho3:=Yw (Ho.out.ext Hx3.out)
    have hB3:=Nat.le_trans HBw.out Hx3.out.size
    have HB3:=Yw hB3
    have hrm:r≤m:=by have:=HH.out;omega
    have s0:(0:Int)≤(r:Int):=by omega
    have s1:(r:Int)≤(m:Int):=by omega
    have s2:(r:Int)≤(C:Int):=by omega
    have s3:r≤C:=by omega
    have s4:r≤m:=by omega
    clear hx3 hB3 hr hrm
    have hA:(A=none∧m=0∧C=0)∨∃ g,A=some ⟨g,0,none⟩:=by
     rcases Ho.out.2 with ⟨h1,h2⟩ | ⟨g,c,_,h1,_⟩
     ·simp only [Ye] at h1;exact .inl ⟨h1.1,by rw [← Hm.out];exact h2,h1.2.2⟩
     simp only [Ye] at h1;exact .inr ⟨g,h1.1⟩
    have Ht:=Yw (show RdE Xe w3 (fun k=>B≤k) (.slice A r C) (l.take r) from RdE.take (by have:=Ho3.out.rd;exact this) rfl (by rw [Hm.out];exact s4))
    have Htl:=Yw (show (l.take r).length=r by rw [Zp,Hm.out];omega)
    rcases hA with ⟨rfl,rfl,rfl⟩ | ⟨g,rfl⟩
    ·obtain rfl:r=0:=by omega
     have hl0:l=[]:=List.eq_nil_of_length_eq_zero Hm.out
     subst hl0
     go_wp2_with (first|(at_builtin;refine Xx Xe _ _ _ rfl rfl rfl rfl (Own.nil Xe _ B) rfl (X9 w3 y2 _ _ rfl) (by show 0+1≤_;omega) (by show 8≤1000;omega) (by have:=HB3.out;simp;omega) ?_;intro A5 n5 c5 w5 hg5;have Hg5:=Yw hg5;have hx5:=hg5.ext w ((Hx.out.trans Hx3.out).alloc _) (by rw [HB.out];exact Yo _);have Hx5:=Yw hx5;have HB5:=Yw (show B≤w5.heap.size by rw [← HB.out];exact hx5.size);have Hl5:=Yw (show n5=1 by rw [hg5.len];rfl);clear hg5 hx5)|(at_builtin;refine Xx Xe _ _ _ rfl rfl rfl rfl Hg5.out.own rfl (show RdE Xe _ (fun _=>True) (.slice none 0 0) [] from Xz.nil _ _) (by show 1+0≤_;omega) (by show 8≤1000;omega) HB5.out ?_;intro A6 n6 c6 w6 hg6;have Hg6:=Yw hg6;have Hx6:=Yw (hg6.ext w Hx5.out (by rw [HB.out];exact Yo _));have Hl6:=Yw (show n6=1 by rw [hg6.len];rfl);clear hg6))
     go_roundw
     case rel=>exact ⟨p2,y2,1,z3,false,_,hp3,rfl,hyb,by omega,rfl,by rw [← Hg6.out.len,Hl6.out];omega,by first|rfl|go_num,rfl,rfl,Hg6.out.own,by rw [← Hg6.out.len,Hl6.out];omega,Hx6.out⟩
     case measure=>(simp [intOf];omega)
    by_cases hCr:C=r
    ·have hmC:m=C:=by omega
     have hmr:m=r:=by omega
     clear hCr
     subst hmC hmr
     have Hr3:=Yw (show RdE Xe w3 (fun k=>k < w3.heap.size) _ l from Rd.mono Ho3.out.rd fun _ _ h=>h)
     go_wp2_with (first|(at_builtin;refine Xx Xe _ _ _ rfl rfl rfl rfl (Own.nil Xe _ B) rfl Ht.out (by have:=Htl.out;simp only [Zk];omega) (by show 8≤1000;omega) HB3.out ?_;intro A4 n4 c4 w4 hg4;have Hg4:=Yw hg4;have hx4:=hg4.ext w (Hx.out.trans Hx3.out) (by rw [HB.out];exact Yo _);have Hx4:=Yw hx4;have HB4:=Yw (show B≤w4.heap.size by rw [← HB.out];exact hx4.size);have Hl4:=Yw (show n4=m by rw [hg4.len,Zo];exact Htl.out);have Hr4:=Yw (Rd.chg Hr3.out hg4.chg (fun k _ h=>by cases h));have Ha4:=Yw (show ∀ k,k < w3.heap.size→¬ (Value.slice A4 n4 c4).ownBlock=some k by intro k hk he;rcases hg4.at_ with h|h<;>rw [he] at h;cases h;(simp at h;omega));have hc4:=hg4.cap;clear hg4 hx4)|(at_builtin;refine Xx Xe _ _ _ rfl rfl rfl rfl (Hg4.out.own.ext ((Yl _).alloc _)) rfl (X9 w4 y2 _ _ rfl) (by rw [← Hg4.out.len,Hl4.out];show _+1≤_;omega) (by show 8≤1000;omega) (by have:=HB4.out;simp;omega) ?_;intro A5 n5 c5 w5 hg5;have Hg5:=Yw hg5;have hx5:=hg5.ext w (Hx4.out.alloc _) (by rw [HB.out];exact Yo _);have Hx5:=Yw hx5;have HB5:=Yw (show B≤w5.heap.size by rw [← HB.out];exact hx5.size);have Hl5:=Yw (show n5=m+1 by rw [hg5.len,Zs,← Hg4.out.len,Hl4.out];rfl);have Hr5:=Yw (Rd.chg (Rd.ext Hr4.out ((Yl _).alloc _)) hg5.chg (fun k hk h=>Ha4.out k hk h));clear hg5 hx5)|(at_builtin;refine Xx Xe _ _ _ rfl rfl rfl rfl Hg5.out.own rfl (Zu4 _ _ _ (by unfold maxLen;omega)) (by rw [← Hg5.out.len,Hl5.out];show _+0≤_;omega) (by show 8≤1000;omega) HB5.out ?_;intro A6 n6 c6 w6 hg6;have Hg6:=Yw hg6;have Hx6:=Yw (hg6.ext w Hx5.out (by rw [HB.out];exact Yo _));have Hl6:=Yw (show n6=m+1 by rw [hg6.len,Zs,← Hg5.out.len,Hl5.out];rfl);clear hg6))
     go_roundw
     case rel=>exact ⟨p2,y2,m+1,z3,false,_,hp3,rfl,hyb,by omega,rfl,by rw [← Hg6.out.len,Hl6.out];omega,by rw [HH.out],rfl,rfl,Hg6.out.own,by rw [← Hg6.out.len,Hl6.out];omega,Hx6.out⟩
     case measure=>(simp [intOf];omega)
    have c1:¬ r=C:=fun h=>hCr h.symm
    have Hr3:=Yw (show RdE Xe w3 (fun k=>k < w3.heap.size) _ l from Rd.mono Ho3.out.rd fun _ _ h=>h)
    go_wp2_with (first|(at_builtin;refine Xx Xe _ _ _ rfl rfl rfl rfl (Own.nil Xe _ B) rfl Ht.out (by have:=Htl.out;simp only [Zk];omega) (by show 8≤1000;omega) HB3.out ?_;intro A4 n4 c4 w4 hg4;have Hg4:=Yw hg4;have hx4:=hg4.ext w (Hx.out.trans Hx3.out) (by rw [HB.out];exact Yo _);have Hx4:=Yw hx4;have HB4:=Yw (show B≤w4.heap.size by rw [← HB.out];exact hx4.size);have Hl4:=Yw (show n4=r by rw [hg4.len,Zo];exact Htl.out);have Hr4:=Yw (Rd.chg Hr3.out hg4.chg (fun k _ h=>by cases h));have Ha4:=Yw (show ∀ k,k < w3.heap.size→¬ (Value.slice A4 n4 c4).ownBlock=some k by intro k hk he;rcases hg4.at_ with h|h<;>rw [he] at h;cases h;(simp at h;omega));have hc4:=hg4.cap;clear hg4 hx4)|(at_builtin;refine Xx Xe _ _ _ rfl rfl rfl rfl (Hg4.out.own.ext ((Yl _).alloc _)) rfl (X9 w4 y2 _ _ rfl) (by rw [← Hg4.out.len,Hl4.out];show _+1≤_;omega) (by show 8≤1000;omega) (by have:=HB4.out;simp;omega) ?_;intro A5 n5 c5 w5 hg5;have Hg5:=Yw hg5;have hx5:=hg5.ext w (Hx4.out.alloc _) (by rw [HB.out];exact Yo _);have Hx5:=Yw hx5;have HB5:=Yw (show B≤w5.heap.size by rw [← HB.out];exact hx5.size);have Hl5:=Yw (show n5=r+1 by rw [hg5.len,Zs,← Hg4.out.len,Hl4.out];rfl);have Hr5:=Yw (Rd.chg (Rd.ext Hr4.out ((Yl _).alloc _)) hg5.chg (fun k hk h=>Ha4.out k hk h));clear hg5 hx5)|(at_builtin;refine Xx Xe _ _ _ rfl rfl rfl rfl Hg5.out.own rfl (RdE.drop (show RdE Xe w5 (fun k=>k < w3.heap.size) (.slice (some ⟨g,0,none⟩) l.length C) l from Hr5.out) rfl (by rw [Hm.out];exact s4) (by rw [Hm.out]) (by first|(intro _;simp;done)|(intro h;exfalso;omega)) (by omega) (by unfold maxLen;omega)) (by rw [← Hg5.out.len,Hl5.out,Z8,Hm.out];omega) (by show 8≤1000;omega) HB5.out ?_;intro A6 n6 c6 w6 hg6;have Hg6:=Yw hg6;have Hx6:=Yw (hg6.ext w Hx5.out (by rw [HB.out];exact Yo _));have Hl6:=Yw (show n6=m+1 by rw [hg6.len,Zs,← Hg5.out.len,Hl5.out,Z8,Hm.out];omega);clear hg6))
    go_roundw
    case rel=>exact ⟨p2,y2,r+1,z3,false,_,hp3,rfl,hyb,by omega,rfl,by rw [← Hg6.out.len,Hl6.out];omega,by go_num,rfl,rfl,Hg6.out.own,by rw [← Hg6.out.len,Hl6.out];omega,Hx6.out⟩
    case measure=>(simp [intOf];omega)
  have hd:decide ((a:Int) < (n:Int))=false:=Yg (by omega)
  go_wp2_with fail
  go_ret2
  refine ⟨_,l,0,rfl,?_,by rw [Hm.out];omega,Hx.out⟩
  rw [← Hm.out,HB.out]
  exact Ho.out.rd
 have d0:decide ((2048:Int) < (n:Int))=true:=Yf (by omega)
 go_wp2_with fail
 go_ret2
 exact Xp _ (Yl _)
theorem Zzd (s:ByteArray) (n:Nat) (hs:s.size=n) (hbig:n≤100000) (w:World):Calls Tryz.prog 214 #[.string s] w (Bz 2048 w):=by
 have Hn:=Yw hs
 obtain ⟨B,hB⟩:∃ B,w.heap.size=B:=⟨_,rfl⟩
 have HB:=Yw hB
 clear hB
 go_enter Tryz.func214,Tryz.ntmps214
 cases he:s.toList.isEmpty
 rotate_left
 ·go_wp2_with fail
  go_ret2
  exact Xp _ (Yl _)
 go_wp2_with fail
 clear he
 go_loopw [5,4] (fun o v wr=>∃ (k:Nat) (l:List Int),k≤n∧o=.int .i64 (k:Int)∧Own Xe wr B v l∧l.length=k∧Ext w wr) (fun o _ _=>n - (intOf o).toNat)
 case atStart=>exact ⟨0,[],by omega,rfl,Own.nil _ _ _,rfl,Yl _⟩
 obtain ⟨k,l,hk,rfl,ho,hl,hx⟩:=hrel
 obtain ⟨A,C,rfl,hlC,hC⟩:=ho.shape
 rw [hl] at hlC ⊢
 have Hx:=Yw hx
 have Ho:=Yw ho
 have Hl:=Yw hl
 have hBw:B≤wr.heap.size:=by rw [← HB.out];exact hx.size
 unfold maxLen at hC
 clear hx ho hl
 by_cases hlt:k < n
 ·have hd:decide ((k:Int) < (n:Int))=true:=Yf (by omega)
  have hlt':k < s.size:=by rw [Hn.out];omega
  have k0:(0:Int)≤(k:Int):=by omega
  obtain ⟨c,hc⟩:∃ b:Nat,(s[k]'hlt').toNat=b:=⟨_,rfl⟩
  by_cases hc7:127 < c
  ·have d1:decide ((127:Int) < (c:Int))=true:=Yf (by omega)
   go_wp2_with fail
   go_ret2
   exact Xp _ Hx.out
  have d1:decide ((127:Int) < (c:Int))=false:=Yg (by omega)
  have r0:IntKind.i64.wrap (c:Int)=(c:Int):=Yq _ (by omega)
  go_wp2_with (at_builtin;refine Xx Xe _ _ _ rfl rfl rfl rfl (by rw [← Hl.out];exact Ho.out.ext ((Yl _).alloc _)) rfl (X9 wr (c:Int) _ _ rfl) (by rw [Hl.out];simp;omega) (by show 8≤1000;omega) (by simp;omega) ?_;intro A3 n3 c3 w3 hg)
  have Hg:=Yw hg
  clear hg
  go_wp2_with fail
  go_roundw
  case rel=>exact ⟨k+1,_,by omega,by go_num,Hg.out.own,by rw [Zs,Hl.out];rfl,Hg.out.ext w (Hx.out.alloc _) (by rw [HB.out];exact Yo _)⟩
  case measure=>(simp [intOf];omega)
 have hd:decide ((k:Int) < (n:Int))=false:=Yg (by omega)
 obtain rfl:k=n:=by omega
 by_cases h63:k≤63
 ·have d1:decide ((63:Int) < (k:Int))=false:=Yg (by omega)
  have Hno:=Yw (show RdE Xe wr (fun i=>w.heap.size≤i) (.slice A k C) l by have:=Ho.out.rd;rwa [Hl.out,← HB.out] at this)
  go_wp2_with fail
  refine (Zr4 s _ (by omega)).mono ?_
  rintro e w1 ⟨b,rfl,hb4,hx1⟩
  have Hx1:=Yw (Hx.out.trans hx1)
  cases b with
  | false =>
   go_wp2_with fail
   go_ret2
   exact ⟨_,l,0,rfl,Hno.out.ext hx1,by rw [Hl.out];omega,Hx1.out⟩
  | true =>
   have h4:=hb4 rfl
   rw [Hn.out] at h4
   have q1:(4:Int)≤(k:Int):=by omega
   clear hb4 hx1
   go_wp2_with fail
   refine (Fz _ _ (by simp;omega)).mono ?_
   rintro e w2 ⟨t,rfl,ht,hx2⟩
   have Hx2:=Yw (Hx1.out.trans hx2)
   clear hx2
   go_wp2_with fail
   refine (Zs7 t _ rfl _).mono ?_
   rintro e w3 ⟨v,l3,x,rfl,hv3,hl3,hx3⟩
   have Hx3:=Yw (Hx2.out.trans hx3)
   have Hv3:=Yw (Rd.mono hv3 fun i hi _=>Nat.le_trans Hx2.out.size hi)
   have Hl3:=Yw hl3
   clear hx3 hl3
   by_cases hx0:x=0
   ·subst hx0
    go_wp2_with fail
    refine (Pc v l3 _ hv3 (by have:=Hl3.out;omega)).mono ?_
    rintro e w4 ⟨u,y,rfl,hu,_,hx4⟩
    have Hx4:=Yw hx4
    clear hx4
    cases ha:Zri l3
    ·by_cases hy0:y=0
     ·subst hy0
      go_wp2_with (first|(go_at_call 212;refine (U9 v l3 _ (hv3.ext Hx4.out)).mono ?_;rintro e w5 ⟨rfl,hx5⟩;rw [ha])|(go_at_call 228;refine (Fz _ _ (by omega)).mono ?_;rintro e w6 ⟨t6,rfl,ht6,hx6⟩))
      all_goals
       go_ret2
       first
       | exact Xp _ (Hx3.out.trans (Hx4.out.trans (hx5.trans hx6)))
       | exact ⟨v,l3,0,rfl,Rd.ext Hv3.out (Hx4.out.trans (hx5.trans hx6)),Hl3.out,Hx3.out.trans (Hx4.out.trans (hx5.trans hx6))⟩
     have d2:(!(y == 0))=true:=by simp [hy0]
     have d3:(y != 0)=true:=d2
     clear hy0
     go_wp2_with (go_at_call 212;refine (U9 v l3 _ (hv3.ext Hx4.out)).mono ?_;rintro e w5 ⟨rfl,hx5⟩;rw [ha])
     go_ret2
     exact Xp _ (Hx3.out.trans (Hx4.out.trans hx5))
    go_wp2_with (go_at_call 212;refine (U9 v l3 _ (hv3.ext Hx4.out)).mono ?_;rintro e w5 ⟨rfl,hx5⟩;rw [ha])
    go_ret2
    exact Xp _ (Hx3.out.trans (Hx4.out.trans hx5))
   have d2:(!(x == 0))=true:=by simp [hx0]
   have d3:(x != 0)=true:=d2
   clear hx0
   go_wp2_with fail
   go_ret2
   exact Xp _ Hx3.out
 have d1:decide ((63:Int) < (k:Int))=true:=Yf (by omega)
 go_wp2_with fail
 go_ret2
 exact Xp _ Hx.out
theorem Zwf {S S':Nat→Prop} (T:Tbl) (hf:Few T) (hu:Uq T) (v:Value) (l:List Int) (w:World) (h:Xm w S T) (hl:Xz w S' v l):Calls Tryz.prog 242 #[Wc T,v] w (Bz 4096 w):=by
 obtain ⟨A11,C11,e11,hl11,hc11⟩:=h.pro.shape
 have h11:=h.pro.ext ((Yl w).alloc (Xf T))
 obtain ⟨n11,hn11⟩:∃ n,T.pro.length=n:=⟨_,rfl⟩
 rw [hn11] at e11 hl11
 rw [e11] at h11
 have Hn11:=Yw hn11
 have E11:=Yw e11
 have H11:=Yw h11
 unfold maxLen at hc11
 clear hn11 e11 h11
 obtain ⟨A,C,rfl,hlCC,hCC⟩:=hl.shape
 obtain ⟨n,hnn⟩:∃ n,(l).length=n:=⟨_,rfl⟩
 have Hnn:=Yw hnn
 have Hhl:=Yw hl
 unfold maxLen at hCC
 rw [hnn] at hlCC ⊢
 clear hl hnn
 have X0:=Yw ((Yl w).alloc (Xf T))
 have H:=Yw (h.up X0.out)
 have Hb0:=Yw (Xq w T)
 clear h
 have HL:=Yw (show Xz (w.alloc (Xf T)) S' (.slice A n C) l by have:=Hhl.out.ext X0.out;rwa [Hnn.out] at this)
 have Hf:=Yw hf
 have Hu:=Yw hu
 clear hf hu
 obtain ⟨B,hB⟩:∃ B,(w.alloc (Xf T)).heap.size=B:=⟨_,rfl⟩
 have HB:=Yw hB
 clear hB
 go_enter Tryz.func242,Tryz.ntmps242
 go_wp2_with (first|(refine Xy rfl ?_)|(refine Y4 Hb0.out rfl ?_))
 refine (Vr T Hf.out Hu.out _ l _ H.out HL.out).mono ?_
 rintro e w1 ⟨x,rfl,hacc,hx1⟩
 have Hx1:=Yw hx1
 clear hx1
 by_cases h0:x=0
 ·subst h0
  obtain ⟨_,hl4,_⟩:=hacc rfl
  rw [Hnn.out] at hl4
  clear hacc
  go_wp2_with fail
  go_loopw [19,7] (fun o u wr=>∃ (i:Nat) (p:List Int),i≤n∧o=.int .i64 (i:Int)∧Own Xe wr B u p∧p.length≤i * 18∧Ext (w.alloc (Xf T)) wr) (fun o _ _=>n - (intOf o).toNat)
  case atStart=>exact ⟨0,[],by omega,rfl,Own.nil _ _ _,by simp,Hx1.out⟩
  clear Hx1
  obtain ⟨i,p,hi,rfl,ho,hpl,hx⟩:=hrel
  have hi18:i * 18≤4096 * 18:=Nat.mul_le_mul_right _ (by omega)
  obtain ⟨A2,C2,rfl,hlC2,hC2⟩:=ho.shape
  obtain ⟨m,hm⟩:∃ m,p.length=m:=⟨_,rfl⟩
  have hoI:Own Xe wr B (.slice A2 m C2) p:=by rw [← hm];exact ho
  rw [hm] at hlC2 hpl ⊢
  have Hx:=Yw hx
  have Ho:=Yw hoI
  have Hm:=Yw hm
  have hBw:B≤wr.heap.size:=by rw [← HB.out];exact hx.size
  have hj18:(i+1) * 18=i * 18+18:=by omega
  have Hj:=Yw hj18
  unfold maxLen at hC2
  clear hx ho hoI hm hj18
  by_cases hlt:i < n
  ·have hd_i:decide ((i:Int) < (n:Int))=true:=Yf (by omega)
   have i0_i:(0:Int)≤(i:Int):=by omega
   have i1_i:(i:Int) < (n:Int):=by omega
   obtain ⟨c,hs_c⟩:∃ s,(l)[i]?=some s:=⟨(l)[i]'(by have:=Hnn.out;omega),Zz _⟩
   obtain ⟨g_c,o_c,c_c,hvv,_,_,_,hgl_c,a0_c⟩:=(HL.out.ext Hx.out).get hs_c
   simp only [Ye] at hvv
   obtain ⟨rfl,-,rfl⟩:=hvv
   have Hs_c:=Yw hs_c
   clear hs_c
   have hel:=Kl Hf.out.pro c
   obtain ⟨FA,FC,ef,fl,fc⟩:=(Vd (S:=S) (c:=c) H11.out.2).shape
   obtain ⟨k,hk⟩:∃ k,(Xg T.pro c).length=k:=⟨_,rfl⟩
   have hfa:=Vd (S:=S) (c:=c) H11.out.2
   rw [ef,hk] at hfa
   rw [hk] at ef fl hel
   have Hk:=Yw hk
   have Hfa:=Yw hfa
   clear hk hfa
   go_wp2_with (refine Y4 (Hb0.out.ext Hx.out) rfl ?_)
   refine (Zux T c _ (H.out.up Hx.out)).mono ?_
   rintro e w2 ⟨rfl,hx2⟩
   have Hx2:=Yw (Hx.out.trans hx2)
   have Ho2:=Yw (Ho.out.ext hx2)
   have hs2:=hx2.size
   clear hx2
   go_wp2_with (refine Y4 (Hb0.out.ext Hx2.out) rfl ?_)
   refine (Vk T c _ (H.out.up Hx2.out)).mono ?_
   rintro e w3 ⟨rfl,hx3⟩
   have Hx3:=Yw (Hx2.out.trans hx3)
   have Ho3:=Yw (Ho2.out.ext hx3)
   have hs3:=hx3.size
   clear hx3
   cases hq:(Wv T.ign c == 1)
   ·by_cases hk0:0 < k
    ·have d1:decide ((0:Int) < (k:Int))=true:=Yf (by omega)
     have d2:decide (0 < k)=true:=Yf hk0
     go_wp2_with (at_builtin;refine Xx Xe _ _ _ rfl rfl rfl rfl Ho3.out rfl (Hfa.out.ext Hx3.out) (by rw [Hm.out,Hk.out];omega) (by show 8≤1000;omega) (by omega) ?_;intro A5 n5 c5 w5 hg5;have Hx5:=Yw (hg5.ext (w.alloc (Xf T)) Hx3.out (by rw [HB.out];exact Yo _));have Hg5:=Yw hg5;clear hg5)
     go_roundw
     case rel=>exact ⟨i+1,_,by omega,by go_num,Hg5.out.own,by rw [Zs,Hm.out,Hk.out,Hj.out];omega,Hx5.out⟩
     case measure=>(simp [intOf];omega)
    have d1:decide ((0:Int) < (k:Int))=false:=Yg (by omega)
    have d2:decide (0 < k)=false:=Yg hk0
    go_wp2_with (at_builtin;refine Xx Xe _ _ _ rfl rfl rfl rfl (Ho3.out.ext ((Yl _).alloc _)) rfl (X9 w3 c _ _ rfl) (by rw [Hm.out];show m+1≤_;omega) (by show 8≤1000;omega) (by simp;omega) ?_;intro A5 n5 c5 w5 hg5;have Hx5:=Yw (hg5.ext (w.alloc (Xf T)) (Hx3.out.alloc _) (by rw [HB.out];exact Yo _));have Hg5:=Yw hg5;clear hg5)
    go_roundw
    case rel=>exact ⟨i+1,_,by omega,by go_num,Hg5.out.own,by rw [Zs,Hm.out,Hj.out];show m+1≤_;omega,Hx5.out⟩
    case measure=>(simp [intOf];omega)
   go_wp2_with fail
   go_roundw
   case rel=>exact ⟨i+1,p,by omega,by go_num,Ho3.out,by rw [Hm.out,Hj.out];omega,Hx3.out⟩
   case measure=>(simp [intOf];omega)
  have hd_i:decide ((i:Int) < (n:Int))=false:=Yg (by omega)
  by_cases hbig:4096 < m
  ·have d1:decide ((4096:Int) < (m:Int))=true:=Yf (by omega)
   go_wp2_with fail
   go_ret2
   exact Xp _ (X0.out.trans Hx.out)
  have d1:decide ((4096:Int) < (m:Int))=false:=Yg (by omega)
  go_wp2_with fail
  go_ret2
  refine ⟨_,p,0,rfl,?_,by rw [Hm.out];omega,X0.out.trans Hx.out⟩
  have:=Ho.out.rd
  rw [← Hm.out] at this ⊢
  exact Rd.mono this fun k hk _=>Nat.le_trans (by have:=X0.out.size;have:=HB.out;omega) hk
 have h0b:(!(x == 0))=true:=by simp [h0]
 have h0c:(x != 0)=true:=h0b
 have h0d:(x == 0)=false:=by simp [h0]
 have h0H:=Yw h0
 clear h0
 go_wp2_with fail
 go_ret2
 exact Xp _ (X0.out.trans Hx1.out)
theorem Zo2 {S S':Nat→Prop} (T:Tbl) (hf:Few T) (hu:Uq T) (v:Value) (l:List Int) (w:World) (h:Xm w S T) (hl:Xz w S' v l):Calls Tryz.prog 221 #[Wc T,v] w (Bz 4096 w):=by
 obtain ⟨A,C,rfl,hlCC,hCC⟩:=hl.shape
 obtain ⟨n,hnn⟩:∃ n,(l).length=n:=⟨_,rfl⟩
 have Hnn:=Yw hnn
 have Hhl:=Yw hl
 unfold maxLen at hCC
 rw [hnn] at hlCC ⊢
 clear hl hnn
 have X0:=Yw ((Yl w).alloc (Xf T))
 have H:=Yw (h.up X0.out)
 have Hb0:=Yw (Xq w T)
 clear h
 have HL:=Yw (show Xz (w.alloc (Xf T)) S' (.slice A n C) l by have:=Hhl.out.ext X0.out;rwa [Hnn.out] at this)
 have Hf:=Yw hf
 have Hu:=Yw hu
 clear hf hu
 go_enter Tryz.func221,Tryz.ntmps221
 go_wp2_with (first|(refine Xy rfl ?_)|(refine Y4 Hb0.out rfl ?_))
 refine (Ro T Hf.out Hu.out _ l _ H.out HL.out).mono ?_
 rintro e w1 ⟨u1,l1,x,rfl,hl1,_,_,hx1⟩
 have Hx1:=Yw hx1
 clear hx1
 by_cases h0:x=0
 ·subst h0
  go_wp2_with (refine Y4 (Hb0.out.ext Hx1.out) rfl ?_)
  refine (Zwf T Hf.out Hu.out u1 l1 _ (H.out.up Hx1.out) hl1).mono ?_
  rintro e w2 ⟨u2,l2,x2,rfl,hl2,_,hx2⟩
  have Hx2:=Yw (Hx1.out.trans hx2)
  clear hx2
  by_cases h2:x2=0
  ·subst h2
   go_wp2_with (refine Y4 (Hb0.out.ext Hx2.out) rfl ?_)
   refine (Ro T Hf.out Hu.out u2 l2 _ (H.out.up Hx2.out) hl2).mono ?_
   rintro e w3 ⟨u3,l3,x3,rfl,hl3,hn3,_,hx3⟩
   go_wp2_with fail
   go_ret2
   exact ⟨u3,l3,x3,rfl,Rd.mono hl3 fun k hk _=>Nat.le_trans (X0.out.trans Hx2.out).size hk,hn3,X0.out.trans (Hx2.out.trans hx3)⟩
  have h2b:(!(x2 == 0))=true:=by simp [h2]
  have h2c:(x2 != 0)=true:=h2b
  have h2d:(x2 == 0)=false:=by simp [h2]
  have h2H:=Yw h2
  clear h2
  go_wp2_with fail
  go_ret2
  exact Xp _ (X0.out.trans Hx2.out)
 have h0b:(!(x == 0))=true:=by simp [h0]
 have h0c:(x != 0)=true:=h0b
 have h0d:(x == 0)=false:=by simp [h0]
 have h0H:=Yw h0
 clear h0
 go_wp2_with fail
 go_ret2
 exact Xp _ (X0.out.trans Hx1.out)
def Zoc (N:Nat) (w:World) (e:Ending) (w':World):Prop:=∃ (s:ByteArray) (y:Int),e=.returned (.tuple #[.string s,.int .i64 y])∧s.size≤N∧Ext w w'
theorem Zp3 {S S':Nat→Prop} (T:Tbl) (hf:Few T) (hu:Uq T) (v:Value) (l:List Int) (w:World) (h:Xm w S T) (hl:Xz w S' v l):Calls Tryz.prog 202 #[Wc T,v] w (Zoc 16384 w):=by
 obtain ⟨A,C,rfl,hlCC,hCC⟩:=hl.shape
 obtain ⟨n,hnn⟩:∃ n,(l).length=n:=⟨_,rfl⟩
 have Hnn:=Yw hnn
 have Hhl:=Yw hl
 unfold maxLen at hCC
 rw [hnn] at hlCC ⊢
 clear hl hnn
 have X0:=Yw ((Yl w).alloc (Xf T))
 have H:=Yw (h.up X0.out)
 have Hb0:=Yw (Xq w T)
 clear h
 have HL:=Yw (show Xz (w.alloc (Xf T)) S' (.slice A n C) l by have:=Hhl.out.ext X0.out;rwa [Hnn.out] at this)
 have Hf:=Yw hf
 have Hu:=Yw hu
 clear hf hu
 go_enter Tryz.func202,Tryz.ntmps202
 go_wp2_with (first|(refine Xy rfl ?_)|(refine Y4 Hb0.out rfl ?_))
 refine (Zo2 T Hf.out Hu.out _ l _ H.out HL.out).mono ?_
 rintro e w1 ⟨u1,l1,x,rfl,hl1,hn1,hx1⟩
 have Hx1:=Yw hx1
 clear hx1
 by_cases h0:x=0
 ·subst h0
  go_wp2_with fail
  refine (Bk u1 l1 _ hl1).mono ?_
  rintro e w2 ⟨t,y,rfl,ht,hx2⟩
  go_wp2_with fail
  go_ret2
  exact ⟨t,y,rfl,by omega,X0.out.trans (Hx1.out.trans hx2)⟩
 have h0b:(!(x == 0))=true:=by simp [h0]
 have h0c:(x != 0)=true:=h0b
 have h0d:(x == 0)=false:=by simp [h0]
 have h0H:=Yw h0
 clear h0
 go_wp2_with fail
 go_ret2
 exact ⟨_,x,rfl,by show 0≤_;omega,X0.out.trans Hx1.out⟩
end Go.Proofs.YtnbclgbicnpmnaaGreat
