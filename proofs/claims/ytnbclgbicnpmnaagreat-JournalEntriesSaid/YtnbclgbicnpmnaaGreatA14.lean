/- Lemmas of this claim: RL, RR, RRh, RS, RT, RU, RV, RX. Conditions: as named. -/
import Derived.Deep.LoopGhost
import Derived.Test.YtnbclgbicnpmnaaGreatA03
import Derived.Test.YtnbclgbicnpmnaaGreatA06
import Derived.Test.YtnbclgbicnpmnaaGreatA07
import Derived.Test.YtnbclgbicnpmnaaGreatA12
namespace Go.Proofs.YtnbclgbicnpmnaaGreat
open Go.RowKit Go.Sort
open List renaming getElem?_eq_getElem → Zz, mem_of_getElem? → Zy, length_append → Zs, length_take → Zp, nil_append → Zo, take_of_length_le → Zm, length_cons → Zl, mem_append → Zj, mem_singleton → Zi, length_set → Zf
open Lib renaming hid → Yw
open Go renaming wpQuiet_step → Yv, wpQuiet_nil → Yu
open IntWalk renaming i64_in → Yq
open Nat renaming le_refl → Yo
open Ext renaming refl → Yl, alloc → Yk, drewN → Yj, drew → Yi, trans → Yh
set_option maxHeartbeats 40000000
set_option maxRecDepth 100000
set_option linter.all false
def Uq (T:Tbl):Prop:=Eu T
def Zqj (T:Tbl) (w:World) (e:Ending) (w':World):Prop:=∃ n:Int,e=.returned (.int .i64 n)∧(n=0→Zu9 T)∧Ext w w'
theorem check_any {S:Nat→Prop} (T:Tbl) (_:Few T) (hu:Uq T) (w:World) (h:Xm w S T):Calls Tryz.prog 75 #[Wc T] w (Zqj T w) :=
 (Ex T hu w h).mono fun _ _ ⟨e,x⟩=>⟨0,e,fun _=>Eu.fin hu,x⟩
def Zwv (T:Tbl) (l:List Int) (w:World) (e:Ending) (w':World):Prop:=∃ n:Int,e=.returned (.int .i64 n)∧(n=0→Zu9 T∧l.length≤4096∧∀ c∈l,Rp c=true)∧Ext w w'
theorem Zxz {S S':Nat→Prop} (T:Tbl) (hf:Few T) (hu:Uq T) (v:Value) (l:List Int) (w:World) (h:Xm w S T) (hl:Xz w S' v l):Calls Tryz.prog 237 #[Wc T,v] w (Zwv T l w):=by
 obtain ⟨A,C,rfl,hlCC,hCC⟩:=hl.shape
 obtain ⟨k,hnk⟩:∃ n,(l).length=n:=⟨_,rfl⟩
 have Hnk:=Yw hnk
 have Hhl:=Yw hl
 unfold maxLen at hCC
 rw [hnk] at hlCC ⊢
 clear hl hnk
 have X0:=Yw ((Yl w).alloc (Xf T))
 have H:=Yw (h.up X0.out)
 have Hb0:=Yw (Xq w T)
 clear h
 have HL:=Yw (Hhl.out.ext X0.out)
 have Hf:=Yw hf
 have Hu:=Yw hu
 clear hf hu
 go_enter Tryz.func237,Tryz.ntmps237
 go_wp2_with (first|(refine Xy rfl ?_)|(refine Y4 Hb0.out rfl ?_))
 refine (check_any T Hf.out Hu.out _ H.out).mono ?_
 rintro e w1 ⟨n,rfl,hfin,hx1⟩
 have Hx1:=Yw hx1
 clear hx1
 by_cases h0:n=0
 ·subst h0
  have HF:=Yw (hfin rfl)
  clear hfin
  by_cases hbig:k≤4096
  ·have d1:decide ((4096:Int) < (k:Int))=false:=Yg (by omega)
   go_wp2_with fail
   go_loopw [15] (fun o wr=>∃ i:Nat,i≤k∧o=.int .i64 (i:Int)∧(∀ c∈l.take i,Rp c=true)∧Ext (w.alloc (Xf T)) wr) (fun o _=>k - (intOf o).toNat)
   case atStart=>exact ⟨0,by omega,rfl,by simp,Hx1.out⟩
   obtain ⟨i,hi,rfl,ha,hx⟩:=hrel
   have Hx:=Yw hx
   have Ha:=Yw ha
   clear hx ha Hx1
   by_cases hlt:i < k
   ·have hd_i:decide ((i:Int) < (k:Int))=true:=Yf (by omega)
    have i0_i:(0:Int)≤(i:Int):=by omega
    have i1_i:(i:Int) < (k:Int):=by omega
    obtain ⟨x,hs_x⟩:∃ s,(l)[i]?=some s:=⟨(l)[i]'(by have:=Hnk.out;omega),Zz _⟩
    obtain ⟨g_x,o_x,c_x,hvv,_,_,_,hgl_x,a0_x⟩:=(HL.out.ext Hx.out).get hs_x
    simp only [Ye] at hvv
    obtain ⟨rfl,-,rfl⟩:=hvv
    have Hs_x:=Yw hs_x
    clear hs_x
    cases hs:Rp x
    ·go_wp2_with (go_at_call 143;refine (Qv _ _).mono ?_;rintro e w' ⟨rfl,rfl⟩)
     go_ret
     exact ⟨3,rfl,fun h=>absurd h (by decide),X0.out.trans Hx.out⟩
    have Hsx:=Yw hs
    go_wp2_with (go_at_call 143;refine (Qv _ _).mono ?_;rintro e w' ⟨rfl,rfl⟩)
    go_roundw
    case rel =>
     refine ⟨i+1,by omega,by go_num,?_,Hx.out⟩
     rw [Wz Hs_x.out]
     intro c hc
     rcases Zj.1 hc with h1|h1
     ·exact Ha.out c h1
     rw [Zi.1 h1];exact Hsx.out
    case measure=>(simp [intOf];omega)
   have hd_i:decide ((i:Int) < (k:Int))=false:=Yg (by omega)
   go_wp2_with fail
   go_ret
   refine ⟨0,rfl,fun _=>⟨HF.out,by rw [Hnk.out];exact hbig,?_⟩,X0.out.trans Hx.out⟩
   have:=Ha.out
   rwa [Zm (by rw [Hnk.out];omega)] at this
  have d1:decide ((4096:Int) < (k:Int))=true:=Yf (by omega)
  go_wp2_with fail
  go_ret
  exact ⟨7,rfl,fun h=>absurd h (by decide),X0.out.trans Hx1.out⟩
 have h0b:(!(n == 0))=true:=by simp [h0]
 have h0c:(n != 0)=true:=h0b
 clear h0 hfin
 go_wp2_with fail
 go_ret
 exact ⟨2,rfl,fun h=>absurd h (by decide),X0.out.trans Hx1.out⟩
theorem Vr {S S':Nat→Prop} (T:Tbl) (hf:Few T) (hu:Uq T) (v:Value) (l:List Int) (w:World) (h:Xm w S T) (hl:Xz w S' v l):Calls Tryz.prog 217 #[Wc T,v] w (Zwv T l w):=by
 obtain ⟨A,C,rfl,hlCC,hCC⟩:=hl.shape
 obtain ⟨k,hnk⟩:∃ n,(l).length=n:=⟨_,rfl⟩
 have Hnk:=Yw hnk
 have Hhl:=Yw hl
 unfold maxLen at hCC
 rw [hnk] at hlCC ⊢
 clear hl hnk
 have X0:=Yw ((Yl w).alloc (Xf T))
 have H:=Yw (h.up X0.out)
 have Hb0:=Yw (Xq w T)
 clear h
 have HL:=Yw (show Xz (w.alloc (Xf T)) S' (.slice A k C) l by have:=Hhl.out.ext X0.out;rwa [Hnk.out] at this)
 have Hf:=Yw hf
 have Hu:=Yw hu
 clear hf hu
 go_enter Tryz.func217,Tryz.ntmps217
 go_wp2_with (first|(refine Xy rfl ?_)|(refine Y4 Hb0.out rfl ?_))
 refine (Zxz T Hf.out Hu.out _ l _ H.out HL.out).mono ?_
 rintro e w1 ⟨n,rfl,hfin,hx1⟩
 go_wp2_with fail
 go_ret
 exact ⟨n,rfl,hfin,X0.out.trans hx1⟩
theorem Wx {ops:Array Oper} {rest:List Oper} {dst:Option Nat} {x:Operand} {t:TypeId} {pos:String} {af:Array Edge} {gd:Option (Nat×Bool)} {a:Act} {w:World} {Q:Exit→Act→World→Prop} {b:Nat} {T:Tbl} (h:Q9 w b T)
 (hw:Region.wanted {dst:=dst,op:=.load 34 x,type:=t,pos:=pos,after:=af,guard:=gd} (yielded ops a.tmps)=true) (hx:a.eval x=.pointer (some ⟨b,0,none⟩)) (hK:wpList Tryz.prog ops Q rest (a.put dst (Wc T)) w) :
 wpList Tryz.prog ops Q ({dst:=dst,op:=.load 34 x,type:=t,pos:=pos,after:=af,guard:=gd}::rest) a w:=by
 have hu:=Df
 rw [Option.map_eq_some_iff] at hu
 obtain ⟨d,hu,hd⟩:=hu
 show if _ then _ else _
 rw [if_pos hw]
 exact .inl (wp_load_mid _ x rfl b 0 hx (Ve T) d h.range hu hd (by rw [Ux];rfl) hK)
def hcO (a b:Int):Option Int :=
 if Ec a=1∧Ec b=2 then some (wrap64 (44032+wrap64 (wrap64 (wrap64 (wrap64 (21 * wrap64 (a - 4352))+b) - 4449) * 28)))
 else if Ec a=4∧Ec b=3 then some (wrap64 (wrap64 (a+b) - 4519))
 else none
def Zr5:Option Int→Value
 | some c=>.tuple #[.int .i64 c,.bool true]
 | none=>.tuple #[.int .i64 0,.bool false]
theorem Zr9 (a b:Int) (w:World):Calls Tryz.prog 249 #[.int .i64 a,.int .i64 b] w fun e w'=>e=.returned (Zr5 (hcO a b))∧w=w':=by
 cases h1:(Ec a == 1)
 ·cases h3:(Ec a == 4)
  ·have Hc:=Yw (show hcO a b=none by simp at h1 h3;unfold hcO;rw [if_neg (fun h=>h1 h.1),if_neg (fun h=>h3 h.1)])
   go_enter Tryz.func249,Tryz.ntmps249
   go_wp2_with (go_at_call 262;refine (Ga _ _).mono ?_;rintro e w' ⟨rfl,rfl⟩)
   go_ret2
   exact ⟨by rw [Hc.out];rfl,rfl⟩
  cases h4:(Ec b == 3)
  ·have Hc:=Yw (show hcO a b=none by simp at h1 h4;unfold hcO;rw [if_neg (fun h=>h1 h.1),if_neg (fun h=>h4 h.2)])
   go_enter Tryz.func249,Tryz.ntmps249
   go_wp2_with (go_at_call 262;refine (Ga _ _).mono ?_;rintro e w' ⟨rfl,rfl⟩)
   go_ret2
   exact ⟨by rw [Hc.out];rfl,rfl⟩
  have Hc:=Yw (show hcO a b=some (wrap64 (wrap64 (a+b) - 4519)) by simp at h1 h3 h4;unfold hcO;rw [if_neg (fun h=>h1 h.1),if_pos ⟨h3,h4⟩])
  go_enter Tryz.func249,Tryz.ntmps249
  go_wp2_with (go_at_call 262;refine (Ga _ _).mono ?_;rintro e w' ⟨rfl,rfl⟩)
  go_ret2
  exact ⟨by rw [Hc.out];rfl,rfl⟩
 cases h2:(Ec b == 2)
 ·cases h3:(Ec a == 4)
  ·have Hc:=Yw (show hcO a b=none by simp at h2 h3;unfold hcO;rw [if_neg (fun h=>h2 h.2),if_neg (fun h=>h3 h.1)])
   go_enter Tryz.func249,Tryz.ntmps249
   go_wp2_with (go_at_call 262;refine (Ga _ _).mono ?_;rintro e w' ⟨rfl,rfl⟩)
   go_ret2
   exact ⟨by rw [Hc.out];rfl,rfl⟩
  simp at h1 h3;omega
 have Hc:=Yw (show hcO a b=some (wrap64 (44032+wrap64 (wrap64 (wrap64 (wrap64 (21 * wrap64 (a - 4352))+b) - 4449) * 28))) by simp at h1 h2;unfold hcO;rw [if_pos ⟨h1,h2⟩])
 go_enter Tryz.func249,Tryz.ntmps249
 go_wp2_with (go_at_call 262;refine (Ga _ _).mono ?_;rintro e w' ⟨rfl,rfl⟩)
 go_ret2
 exact ⟨by rw [Hc.out];rfl,rfl⟩
def Td (T:Tbl) (a b:Int):List Mp→Option Int
 | []=>none
 | m::r=>if m.to_=[a,b]∧Uo T m.fr=true then some m.fr else Td T a b r
def Gn (T:Tbl) (a b:Int):Option Int:=(hcO a b).or (Td T a b T.dec)
theorem Dt {T:Tbl} {a b:Int} {m:Mp} {r:List Mp} (h:¬ (m.to_=[a,b]∧Uo T m.fr=true)):Td T a b (m::r)=Td T a b r:=by rw [Td,if_neg h]
theorem V5 {S:Nat→Prop} (T:Tbl) (hfin:Zu9 T) (hf:Few T) (a b:Int) (w:World) (h:Xm w S T):Calls Tryz.prog 227 #[Wc T,.int .i64 a,.int .i64 b] w fun e w'=>e=.returned (Zr5 (Gn T a b))∧Ext w w':=by
 obtain ⟨A9,C9,e9,hl9,hc9⟩:=h.dec.shape
 have h9:=h.dec.ext ((Yl w).alloc (Xf T))
 obtain ⟨n9,hn9⟩:∃ n,T.dec.length=n:=⟨_,rfl⟩
 rw [hn9] at e9 hl9
 rw [e9] at h9
 have Hn9:=Yw hn9
 have E9:=Yw e9
 have H9:=Yw h9
 unfold maxLen at hc9
 clear hn9 e9 h9
 have X0:=Yw ((Yl w).alloc (Xf T))
 have H:=Yw (h.up X0.out)
 have Hb0:=Yw (Xq w T)
 clear h
 have Hf:=Yw hf
 have HF:=Yw hfin
 clear hf hfin
 go_enter Tryz.func227,Tryz.ntmps227
 cases hc:hcO a b with
 | some c =>
  have Hc:=Yw hc
  have e1:Zr5 (hcO a b)=.tuple #[.int .i64 c,.bool true]:=by rw [hc];rfl
  go_wp2_with (first|(refine Xy rfl ?_)|(go_at_call 249;refine (Zr9 _ _ _).mono ?_;rintro e w' ⟨rfl,rfl⟩;rw [e1]))
  go_ret2
  exact ⟨by rw [show Gn T a b=some c by unfold Gn;rw [Hc.out];rfl];rfl,X0.out⟩
 | none =>
  have Hc:=Yw hc
  have e1:Zr5 (hcO a b)=.tuple #[.int .i64 0,.bool false]:=by rw [hc];rfl
  clear hc
  have Hx0:=Yw (Yl (w.alloc (Xf T)))
  have b9:=(Hb0.out.ext Hx0.out).at_ 9 (by omega)
  rw [show (Ve T)[9]?=some T.decV from rfl,E9.out] at b9
  go_wp2_with (first|(refine Xy rfl ?_)|(go_at_call 249;refine (Zr9 _ _ _).mono ?_;rintro e w' ⟨rfl,rfl⟩;rw [e1]))
  clear b9
  go_loopw [23] (fun o wr=>∃ i:Nat,i≤n9∧o=.int .i64 (i:Int)∧Gn T a b=Td T a b (T.dec.drop i)∧Ext (w.alloc (Xf T)) wr) (fun o _=>n9 - (intOf o).toNat)
  case atStart=>exact ⟨0,by omega,rfl,by unfold Gn;rw [Hc.out];rfl,Hx0.out⟩
  clear Hx0
  obtain ⟨i,hi,rfl,hp,hx⟩:=hrel
  have Hx:=Yw hx
  have Hp:=Yw hp
  clear hx hp
  by_cases hlt:i < n9
  ·have hd_i:decide ((i:Int) < (n9:Int))=true:=Yf (by omega)
   have i0_i:(0:Int)≤(i:Int):=by omega
   have i1_i:(i:Int) < (n9:Int):=by omega
   obtain ⟨m,hs_m⟩:∃ s,(T.dec)[i]?=some s:=⟨(T.dec)[i]'(by have:=Hn9.out;omega),Zz _⟩
   obtain ⟨g_m,o_m,c_m,hvv,_,_,_,hgl_m,a0_m,a1_m,_⟩:=(H9.out.ext Hx.out).get hs_m
   simp only [Ye] at hvv
   obtain ⟨rfl,-,rfl⟩:=hvv
   have ti_m:=H9.out.2 _ (Zy hs_m)
   obtain ⟨A_m,C_m,tv_m,tl_m,tc_m⟩:=ti_m.shape
   obtain ⟨n_m,hn_m⟩:∃ n,m.to_.length=n:=⟨_,rfl⟩
   rw [tv_m] at a1_m ti_m
   rw [hn_m] at a1_m tl_m
   have Hn_m:=Yw hn_m
   unfold maxLen at tc_m
   have Hs_m:=Yw hs_m
   have Ti_m:=Yw ti_m
   clear hs_m ti_m tv_m hn_m
   have hbl:=(Hb0.out.ext Hx.out).lt
   have Hd:=Yw (show T.dec.drop i=m::T.dec.drop (i+1) from drop_at Hs_m.out)
   by_cases h2:n_m=2
   ·subst h2
    obtain ⟨x,y,exy⟩:∃ x y,m.to_=[x,y]:=by
     have h2:=Hn_m.out
     match hh:m.to_ with
     | [x,y]=>exact ⟨x,y,rfl⟩
     | []=>rw [hh] at h2;simp at h2
     | [_]=>rw [hh] at h2;simp at h2
     | _::_::_::_=>rw [hh] at h2;simp at h2
    have t:=Ti_m.out
    rw [exy] at t
    have Hxy:=Yw exy
    clear exy
    obtain ⟨gg,oo,cc,hv0,_,_,_,_,u⟩:=(t.ext (Hx.out.alloc (.cells #[.int .i64 m.fr,.slice A_m 2 C_m] 106))).get (j:=0) rfl
    obtain ⟨gg',oo',cc',hv1,_,_,_,_,v⟩:=(t.ext (Hx.out.alloc (.cells #[.int .i64 m.fr,.slice A_m 2 C_m] 106))).get (j:=1) rfl
    rw [hv0] at hv1
    simp only [Ye,Yd,Addr.mk.injEq,true_and,and_true] at hv1
    obtain ⟨⟨rfl,rfl⟩,rfl⟩:=hv1
    simp only [Ye] at hv0
    obtain ⟨rfl,-,rfl⟩:=hv0
    rw [Nat.add_zero] at u
    clear t
    cases q1:(x == a)
    ·have Hno:=Yw (show ¬ (m.to_=[a,b]∧Uo T m.fr=true) by rw [Hxy.out];simp at q1 ⊢;exact fun h=>absurd h q1)
     go_wp2_with fail
     go_roundw
     case rel=>exact ⟨i+1,by omega,by go_num,by rw [Hp.out,Hd.out,Dt Hno.out],Hx.out.alloc _⟩
     case measure=>(simp [intOf];omega)
    cases q2:(y == b)
    ·have Hno:=Yw (show ¬ (m.to_=[a,b]∧Uo T m.fr=true) by rw [Hxy.out];simp at q2 ⊢;exact fun _ h=>absurd h q2)
     go_wp2_with fail
     go_roundw
     case rel=>exact ⟨i+1,by omega,by go_num,by rw [Hp.out,Hd.out,Dt Hno.out],Hx.out.alloc _⟩
     case measure=>(simp [intOf];omega)
    have Hyes:=Yw (show m.to_=[a,b] by rw [Hxy.out];simp at q1 q2;rw [q1,q2])
    cases q3:Uo T m.fr
    ·have Hno:=Yw (show ¬ (m.to_=[a,b]∧Uo T m.fr=true) by rw [q3];simp)
     go_wp2_with (first|(refine Wx (Hb0.out.ext (Hx.out.alloc _)) (by go_simp) rfl ?_)|(go_at_call 112;refine (Jg T HF.out Hf.out _ _ (H.out.up (Hx.out.alloc _))).mono ?_;rintro e w5 ⟨rfl,hx5⟩))
     go_roundw
     case rel=>exact ⟨i+1,by omega,by go_num,by rw [Hp.out,Hd.out,Dt Hno.out],(Hx.out.alloc _).trans hx5⟩
     case measure=>(simp [intOf];omega)
    have Hy:=Yw q3
    go_wp2_with (first|(refine Wx (Hb0.out.ext (Hx.out.alloc _)) (by go_simp) rfl ?_)|(go_at_call 112;refine (Jg T HF.out Hf.out _ _ (H.out.up (Hx.out.alloc _))).mono ?_;rintro e w5 ⟨rfl,hx5⟩;have hc5:=fun k=>hx5.cell (p:=⟨wr.heap.size,k,none⟩) (by simp)))
    go_ret2
    exact ⟨by rw [Hp.out,Hd.out,Td,if_pos ⟨Hyes.out,Hy.out⟩];rfl,X0.out.trans ((Hx.out.alloc _).trans hx5)⟩
   have h2b:((n_m:Int) == 2)=false:=by simp;omega
   have h2c:(n_m == 2)=false:=by simp;omega
   have Hno:=Yw (show ¬ (m.to_=[a,b]∧Uo T m.fr=true) from fun h=>h2 (by rw [← Hn_m.out,h.1];rfl))
   clear h2
   go_wp2_with fail
   go_roundw
   case rel=>exact ⟨i+1,by omega,by go_num,by rw [Hp.out,Hd.out,Dt Hno.out],Hx.out.alloc _⟩
   case measure=>(simp [intOf];omega)
  have hd_i:decide ((i:Int) < (n9:Int))=false:=Yg (by omega)
  go_wp2_with fail
  go_ret2
  refine ⟨?_,X0.out.trans Hx.out⟩
  rw [Hp.out,List.drop_of_length_le (by rw [Hn9.out];omega)];rfl
def Zq3 (T:Tbl) (l:List Int) (w:World) (e:Ending) (w':World):Prop:=∃ v,e=.returned v∧RdE Xe w' (fun k=>w.heap.size≤k) v (Uc (Wv T.cls) l)∧Ext w w'
theorem Sk {S S':Nat→Prop} (T:Tbl) (v:Value) (l:List Int) (w:World) (h:Xm w S T) (hl:Xz w S' v l) (hll:l.length≤100000):Calls Tryz.prog 248 #[Wc T,v] w (Zq3 T l w):=by
 obtain ⟨A,C,rfl,hlCC,hCC⟩:=hl.shape
 obtain ⟨n,hnn⟩:∃ n,(l).length=n:=⟨_,rfl⟩
 have Hnn:=Yw hnn
 have Hhl:=Yw hl
 unfold maxLen at hCC
 rw [hnn] at hlCC ⊢
 clear hl hnn
 rw [Hnn.out] at hll
 have X0:=Yw ((Yl w).alloc (Xf T))
 have H:=Yw (h.up X0.out)
 have Hb0:=Yw (Xq w T)
 clear h
 have HL:=Yw (show Xz (w.alloc (Xf T)) S' (.slice A n C) l by have:=Hhl.out.ext X0.out;rwa [Hnn.out] at this)
 obtain ⟨B,hB⟩:∃ B,(w.alloc (Xf T)).heap.size=B:=⟨_,rfl⟩
 have HB:=Yw hB
 clear hB
 go_enter Tryz.func248,Tryz.ntmps248
 go_wp2_with (first|(refine Xy rfl ?_)|(at_builtin;refine Xx Xe _ _ _ rfl rfl rfl rfl (Own.nil Xe _ B) rfl HL.out (by rw [Hnn.out];simp;omega) (by show 8≤1000;omega) (by have:=HB.out;omega) ?_;intro A1 n1 c1 w1 hg;have Hg:=Yw hg;clear hg))
 have Hx1:=Yw (Hg.out.ext (w.alloc (Xf T)) (Yl _) (by rw [HB.out];exact Yo _))
 have hn1:n1=n:=by rw [Hg.out.len,Zo,Hnn.out]
 subst hn1
 have Ho1:=Yw (show Own Xe w1 B (.slice A1 n1 c1) l by have:=Hg.out.own;rwa [Zo] at this)
 clear Hg
 go_loopg [6] (Nj (Wv T.cls) l+1) (fun gk mv wr=>∃ (b:Bool) (cur:List Int),mv=.bool b∧Own Xe wr B (.slice A1 n1 c1) cur∧cur.length=n1∧Ext (w.alloc (Xf T)) wr∧((b=true∧Uc (Wv T.cls) cur=Uc (Wv T.cls) l∧gk=Nj (Wv T.cls) cur+1)∨(b=false∧cur=Uc (Wv T.cls) l∧gk=0)))
 case atStart=>exact ⟨true,l,rfl,Ho1.out,Hnn.out,Hx1.out,.inl ⟨rfl,rfl,rfl⟩⟩
 clear Ho1 Hx1
 obtain ⟨b,cur,rfl,ho,hcn,hx,hst⟩:=hrel
 have Hx:=Yw hx
 have Ho:=Yw ho
 have Hcn:=Yw hcn
 clear hx ho hcn
 rcases hst with ⟨rfl,heq,hgk⟩ | ⟨rfl,heq,rfl⟩
 ·have Heq:=Yw heq
  have Hgk:=Yw hgk
  clear heq hgk
  rename World=>wo
  go_wp2_with fail
  go_loopw [7,6] (fun o mv wr=>∃ (k:Nat) (b:Bool),k≤n1 - 1∧o=.int .i64 ((k+1:Nat):Int)∧mv=.bool b∧Own Xe wr B (.slice A1 n1 c1) (Ip (Wv T.cls) cur k)∧(b=false→Ip (Wv T.cls) cur k=cur)∧(b=true→Nj (Wv T.cls) (Ip (Wv T.cls) cur k) < Nj (Wv T.cls) cur)∧Ext (w.alloc (Xf T)) wr) (fun o _ _=>n1+1 - (intOf o).toNat)
  case atStart=>exact ⟨0,false,by omega,rfl,rfl,Ho.out,fun _=>rfl,fun h=>absurd h (by decide),Hx.out⟩
  clear Ho Hx
  obtain ⟨k,b,hk,rfl,rfl,ho,hf,ht,hx⟩:=hrel
  obtain ⟨p,hp⟩:∃ p,Ip (Wv T.cls) cur k=p:=⟨_,rfl⟩
  rw [hp] at ho hf ht
  have hpl:p.length=n1:=by rw [← hp,Nv,Hcn.out]
  have Hx:=Yw hx
  have Ho:=Yw ho
  have Hf:=Yw hf
  have Ht:=Yw ht
  have Hp:=Yw hp
  have Hpl:=Yw hpl
  clear hx ho hf ht hp hpl
  by_cases hlt:k+1 < n1
  ·have hd:decide (((k+1:Nat):Int) < (n1:Int))=true:=Yf (by omega)
   have hd2:decide ((k:Int)+1 < (n1:Int))=true:=Yf (by omega)
   obtain ⟨g,c,e,hg1,hg2,hg3,hg4⟩:=Ho.out.some_ (by rw [Hpl.out];omega)
   simp only [Ye] at e
   obtain ⟨rfl,-,rfl⟩:=e
   rw [Hpl.out] at hg3
   unfold maxLen at hg4
   obtain ⟨x,hx0⟩:∃ x,p[k]?=some x:=⟨p[k]'(by rw [Hpl.out];omega),Zz _⟩
   obtain ⟨y,hy0⟩:∃ y,p[k+1]?=some y:=⟨p[k+1]'(by rw [Hpl.out];omega),Zz _⟩
   have Hx0:=Yw hx0
   have Hy0:=Yw hy0
   have m0:=lat (Ho.out.at_ (ints_at hx0))
   have m1:=lat (Ho.out.at_ (ints_at hy0))
   clear hx0 hy0
   have HW:=Yw (H.out.up Hx.out)
   have hC:∀ w',(∃ p:Wj,w'=later wr p.n p.os)→Q9 w' w.heap.size T:=fun w' ⟨p,e⟩=>by rw [e];exact (Hb0.out.ext Hx.out).ext (⟨_,_,rfl⟩)
   have e1:(((k+1:Nat):Int) - 1)=(k:Int):=by omega
   have q1:IntKind.i64.wrap (((k+1:Nat):Int) - 1)=(k:Int):=by rw [Yq _ (by omega)];omega
   have q2:IntKind.i64.wrap ((k:Int)+1 - 1)=(k:Int):=by rw [Yq _ (by omega)];omega
   have q8:IntKind.i64.wrap (k:Int)=(k:Int):=Yq _ (by omega)
   have q3:(0:Int)≤(k:Int):=by omega
   have q4:(k:Int) < (n1:Int):=by omega
   have q5:(0:Int)≤(k:Int)+1:=by omega
   have q6:(k:Int)+1 < (n1:Int):=by omega
   have q7:k < n1:=by omega
   have hun:=Yb
   go_wp2_with fail
   refine Y0 (by kernel_rfl) (by kernel_rfl) ?_
   repeat (first|((with_reducible refine Xi ?_ ?_ hC ?_);(focus (go_simp;done));rfl)|((with_reducible refine Yv ?_);intro K hK;go_simp;first|((with_reducible refine hK _ ?_);clear hK K)|(apply Exists.intro;refine ⟨fun _=>?_,hK _ ?_⟩;(go_at_call 148;exact Y8 (Xr T _ _ (HW.out.up (⟨_,_,rfl⟩))));clear hK K)))
   (with_reducible refine Yu ?_)
   intro w2 hy
   clear hun
   try simp only [Yc]
   have Hx2:=Yw (Hx.out.trans hy)
   have Ho2:=Yw (Ho.out.ext hy)
   clear hy m0 m1 HW hC
   have c0:=Ho2.out.at_ (ints_at Hx0.out)
   have c1:=Ho2.out.at_ (ints_at Hy0.out)
   have t0:=Ho2.out.thaw k
   have t1:=Ho2.out.thaw (k+1)
   have hgb:=Ho2.out.blk.2
   have q9:IntKind.i64.wrap ((k:Int)+1+1)=((k+1+1:Nat):Int):=by rw [Yq _ (by omega)];omega
   by_cases hsw:0 < Wv T.cls y∧Wv T.cls y < Wv T.cls x
   ·have d1:decide (0 < Wv T.cls y)=true:=Yf hsw.1
    have d2:decide (Wv T.cls y < Wv T.cls x)=true:=Yf hsw.2
    have Hsw:=Yw hsw
    clear hsw
    have Ho3:=Yw ((Ho2.out.put rfl (i:=k) (by rw [Hpl.out];omega) y (u:=.int .i64 y) rfl).put rfl (i:=k+1) (by rw [Zf,Hpl.out];omega) x (u:=.int .i64 x) rfl)
    have Hsame:=Yw (show Ip (Wv T.cls) cur (k+1)=(p.set k y).set (k+1) x by rw [Ip,Hp.out];exact Zx4 (by rw [Nat.add_sub_cancel];exact Hx0.out) Hy0.out Hsw.out)
    have Hlt:=Yw (show Nj (Wv T.cls) (Ip (Wv T.cls) cur (k+1)) < Nj (Wv T.cls) cur by
     rw [Ip,Hp.out]
     have h1:=Zo6 (f:=Wv T.cls) Hx0.out Hy0.out Hsw.out
     cases b with
     | true=>have:=Ht.out rfl;omega
     | false=>rw [Hf.out rfl] at h1 ⊢;exact h1)
    go_wp2_with fail
    go_region
    all_goals
     go_wp2_with fail
     go_roundw
     case rel=>exact ⟨k+1,true,by omega,by go_num,rfl,by rw [Hsame.out];exact Ho3.out,fun h=>absurd h (by decide),fun _=>Hlt.out,(Ya (Ya Hx2.out (by have:=HB.out;show _≤g;omega) _) (by have:=HB.out;show _≤g;omega) _).drew⟩
     case measure=>(simp [intOf];omega)
   have Hsw:=Yw hsw
   have Hsame:=Yw (show Ip (Wv T.cls) cur (k+1)=p by rw [Ip,Hp.out];exact Zoj (by rw [Nat.add_sub_cancel];exact Hx0.out) Hy0.out hsw)
   by_cases d0:0 < Wv T.cls y
   ·have d1:decide (0 < Wv T.cls y)=true:=Yf d0
    have d2:decide (Wv T.cls y < Wv T.cls x)=false:=Yg fun h=>hsw ⟨d0,h⟩
    clear hsw d0
    go_wp2_with fail
    go_roundw
    case rel=>exact ⟨k+1,b,by omega,by go_num,rfl,by rw [Hsame.out];exact Ho2.out,by rw [Hsame.out];exact Hf.out,by rw [Hsame.out];exact Ht.out,Hx2.out⟩
    case measure=>(simp [intOf];omega)
   have d1:decide (0 < Wv T.cls y)=false:=Yg d0
   clear hsw d0
   go_wp2_with fail
   go_roundw
   case rel=>exact ⟨k+1,b,by omega,by go_num,rfl,by rw [Hsame.out];exact Ho2.out,by rw [Hsame.out];exact Hf.out,by rw [Hsame.out];exact Ht.out,Hx2.out⟩
   case measure=>(simp [intOf];omega)
  have hd:decide (((k+1:Nat):Int) < (n1:Int))=false:=Yg (by omega)
  have hd2:decide ((k:Int)+1 < (n1:Int))=false:=Yg (by omega)
  have hk2:k=cur.length - 1:=by rw [Hcn.out];omega
  have Hk2:=Yw (show p=Zz4 (Wv T.cls) cur by rw [← Hp.out,hk2];rfl)
  clear hk2
  go_wp2_with fail
  cases b with
  | true =>
   go_roundg (Nj (Wv T.cls) p+1)
   case measure=>have:=Ht.out rfl;have:=Hgk.out;omega
   case rel =>
    refine ⟨true,p,rfl,Ho.out,Hpl.out,Hx.out,.inl ⟨rfl,?_,rfl⟩⟩
    rw [← Heq.out,Zt6 (f:=Wv T.cls) (l:=cur) (by rw [← Hk2.out];exact Ht.out rfl),← Hk2.out]
  | false =>
   go_roundg 0
   case measure=>have:=Hgk.out;omega
   case rel =>
    refine ⟨false,p,rfl,Ho.out,Hpl.out,Hx.out,.inr ⟨rfl,?_,rfl⟩⟩
    have h1:=Hf.out rfl
    rw [← Heq.out,Zxo (f:=Wv T.cls) (l:=cur) (by rw [← Hk2.out];exact h1)];exact h1
 have Heq:=Yw heq
 clear heq
 go_wp2_with fail
 go_ret
 refine ⟨_,rfl,?_,X0.out.trans Hx.out⟩
 rw [← Heq.out]
 have:=Ho.out.rd
 rw [← Hcn.out] at this ⊢
 exact Rd.mono this fun k hk _=>Nat.le_trans (by have:=X0.out.size;have:=HB.out;omega) hk
def Znt (T:Tbl) (l:List Int):List Int:=Uc (Wv T.cls) (l.flatMap (Sz T))
theorem Zsz (T:Tbl) (l:List Int):(l.flatMap (Sz T)).length≤l.length * 18:=by
 induction l with
 | nil=>simp
 | cons c r ih=>rw [List.flatMap_cons,Zs,Zl];have:=Cu T c;omega
def Zpv (T:Tbl) (l:List Int) (w:World) (e:Ending) (w':World):Prop:=∃ (v:Value) (r:List Int) (x:Int),e=.returned (.tuple #[v,.int .i64 x])∧RdE Xe w' (fun k=>w.heap.size≤k) v r∧r.length≤4096∧(x=0→r=Znt T l∧Zu9 T)∧Ext w w'
theorem Ro {S S':Nat→Prop} (T:Tbl) (hf:Few T) (hu:Uq T) (v:Value) (l:List Int) (w:World) (h:Xm w S T) (hl:Xz w S' v l):Calls Tryz.prog 226 #[Wc T,v] w (Zpv T l w):=by
 obtain ⟨A,C,rfl,hlCC,hCC⟩:=hl.shape
 obtain ⟨n,hnn⟩:∃ n,(l).length=n:=⟨_,rfl⟩
 have Hnn:=Yw hnn
 have Hhl:=Yw hl
 unfold maxLen at hCC
 rw [hnn] at hlCC ⊢
 clear hl hnn
 have X0:=Yw ((Yl w).alloc (Xf T))
 have H:=Yw (h.up X0.out)
 have Hb0:=Yw (Xq w T)
 clear h
 have HL:=Yw (show Xz (w.alloc (Xf T)) S' (.slice A n C) l by have:=Hhl.out.ext X0.out;rwa [Hnn.out] at this)
 have Hf:=Yw hf
 have Hu:=Yw hu
 obtain ⟨B,hB⟩:∃ B,(w.alloc (Xf T)).heap.size=B:=⟨_,rfl⟩
 have HB:=Yw hB
 clear hf hu hB
 go_enter Tryz.func226,Tryz.ntmps226
 go_wp2_with (first|(refine Xy rfl ?_)|(refine Y4 Hb0.out rfl ?_))
 refine (Zxz T Hf.out Hu.out _ l _ H.out HL.out).mono ?_
 rintro e w1 ⟨x,rfl,hacc,hx1⟩
 have Hx1:=Yw hx1
 clear hx1
 by_cases h0:x=0
 ·subst h0
  obtain ⟨hfin,hl4,_⟩:=hacc rfl
  rw [Hnn.out] at hl4
  have HF:=Yw hfin
  clear hfin hacc
  go_wp2_with fail
  go_loopw [18,7] (fun o u wr=>∃ i:Nat,i≤n∧o=.int .i64 (i:Int)∧Own Xe wr B u ((l.take i).flatMap (Sz T))∧Ext (w.alloc (Xf T)) wr) (fun o _ _=>n - (intOf o).toNat)
  case atStart=>exact ⟨0,by omega,rfl,Own.nil _ _ _,Hx1.out⟩
  clear Hx1
  obtain ⟨i,hi,rfl,ho,hx⟩:=hrel
  obtain ⟨p,hp⟩:∃ p,(l.take i).flatMap (Sz T)=p:=⟨_,rfl⟩
  rw [hp] at ho
  have hpl:p.length≤i * 18:=by rw [← hp];exact Nat.le_trans (Zsz T _) (Nat.mul_le_mul_right _ (by rw [Zp];omega))
  have hi18:i * 18≤4096 * 18:=Nat.mul_le_mul_right _ (by omega)
  obtain ⟨A2,C2,rfl,hlC2,hC2⟩:=ho.shape
  obtain ⟨m,hm⟩:∃ m,p.length=m:=⟨_,rfl⟩
  have hoI:Own Xe wr B (.slice A2 m C2) p:=by rw [← hm];exact ho
  rw [hm] at hlC2 hpl ⊢
  have Hx:=Yw hx
  have Ho:=Yw hoI
  have Hm:=Yw hm
  have Hp:=Yw hp
  have hBw:B≤wr.heap.size:=by rw [← HB.out];exact hx.size
  unfold maxLen at hC2
  clear hx ho hoI hm hp
  by_cases hlt:i < n
  ·have hd_i:decide ((i:Int) < (n:Int))=true:=Yf (by omega)
   have i0_i:(0:Int)≤(i:Int):=by omega
   have i1_i:(i:Int) < (n:Int):=by omega
   obtain ⟨c,hs_c⟩:∃ s,(l)[i]?=some s:=⟨(l)[i]'(by have:=Hnn.out;omega),Zz _⟩
   obtain ⟨g_c,o_c,c_c,hvv,_,_,_,hgl_c,a0_c⟩:=(HL.out.ext Hx.out).get hs_c
   simp only [Ye] at hvv
   obtain ⟨rfl,-,rfl⟩:=hvv
   have Hs_c:=Yw hs_c
   clear hs_c
   have hel:=Cu T c
   go_wp2_with (refine Y4 (Hb0.out.ext Hx.out) rfl ?_)
   refine (Zzc T Hf.out c _ (H.out.up Hx.out)).mono ?_
   rintro e w2 ⟨u,rfl,hu2,hx2⟩
   obtain ⟨A3,C3,rfl,_,_⟩:=hu2.shape
   obtain ⟨k,hk⟩:∃ k,(Sz T c).length=k:=⟨_,rfl⟩
   have Hu2:=Yw (show RdE Xe w2 (fun j=>wr.heap.size≤j) (.slice A3 k C3) (Sz T c) by rw [← hk];exact hu2)
   rw [hk] at hel ⊢
   have Hk:=Yw hk
   have Hx2:=Yw hx2
   clear hk hu2 hx2
   go_wp2_with (at_builtin;refine Xx Xe _ _ _ rfl rfl rfl rfl (Ho.out.ext Hx2.out) rfl Hu2.out (by rw [Hm.out,Hk.out];omega) (by show 8≤1000;omega) (Nat.le_trans hBw Hx2.out.size) ?_;intro A5 n5 c5 w5 hg5;have Hx5:=Yw (hg5.ext (w.alloc (Xf T)) (Hx.out.trans Hx2.out) (by rw [HB.out];exact Yo _));have Hg5:=Yw hg5;clear hg5)
   go_roundw
   case rel =>
    refine ⟨i+1,by omega,by go_num,?_,Hx5.out⟩
    rw [Wz Hs_c.out,List.flatMap_append,Hp.out,List.flatMap_cons,List.flatMap_nil,List.append_nil]
    exact Hg5.out.own
   case measure=>(simp [intOf];omega)
  have hd_i:decide ((i:Int) < (n:Int))=false:=Yg (by omega)
  have hpe:p=l.flatMap (Sz T):=by rw [← Hp.out,Zm (by rw [Hnn.out];omega)]
  have Hpe:=Yw hpe
  clear hpe
  by_cases hbig:4096 < m
  ·have d1:decide ((4096:Int) < (m:Int))=true:=Yf (by omega)
   go_wp2_with fail
   go_ret2
   exact ⟨_,[],7,rfl,Xz.nil _ _,Nat.zero_le _,fun h=>absurd h (by decide),X0.out.trans Hx.out⟩
  have d1:decide ((4096:Int) < (m:Int))=false:=Yg (by omega)
  go_wp2_with (refine Y4 (Hb0.out.ext Hx.out) rfl ?_)
  refine (Sk T _ p _ (H.out.up Hx.out) (show Xz wr _ (.slice A2 m C2) p by have:=Ho.out.rd;rw [← Hm.out] at this ⊢;exact this) (by rw [Hm.out];omega)).mono ?_
  rintro e w2 ⟨u,rfl,hu2,hx2⟩
  go_wp2_with fail
  go_ret2
  refine ⟨u,_,0,rfl,Rd.mono hu2 fun k hk _=>Nat.le_trans (X0.out.trans Hx.out).size hk,by rw [Zuy,Hm.out];omega,fun _=>⟨by rw [Hpe.out];rfl,HF.out⟩,X0.out.trans (Hx.out.trans hx2)⟩
 have d2:(!(x == 0))=true:=by simp [h0]
 have d3:(x != 0)=true:=d2
 have H0:=Yw h0
 clear h0 hacc
 go_wp2_with fail
 go_ret2
 exact ⟨_,[],x,rfl,Xz.nil _ _,Nat.zero_le _,fun h=>absurd h H0.out,X0.out.trans Hx1.out⟩
def Bw (f:Int→Int) (out:List Int):Nat→Nat
 | 0=>0
 | k+1=>if f (out.getD k 0)=0 then k+1 else Bw f out k
def Lq (T:Tbl) (out:List Int) (c:Int):List Int :=
 match Bw (Wv T.cls) out out.length with
 | 0=>out++[c]
 | s+1 =>
  if s < out.length - 1∧Wv T.cls c≤Wv T.cls (out.getD (out.length - 1) 0) then out++[c]
  else match Gn T (out.getD s 0) c with
   | some p=>out.set s p
   | none=>out++[c]
def Znr (T:Tbl) (l:List Int):List Int:=(Znt T l).foldl (Lq T) []
theorem Zs6 (T:Tbl) (out:List Int) (c:Int):(Lq T out c).length≤out.length+1:=by
 unfold Lq
 split
 ·simp
 split
 ·simp
 split<;>simp
theorem Zuu {T:Tbl} {out:List Int} {c:Int} (h:Bw (Wv T.cls) out out.length=0):Lq T out c=out++[c]:=by unfold Lq;rw [h]
theorem Pz {T:Tbl} {out:List Int} {c:Int} {s:Nat} (h:Bw (Wv T.cls) out out.length=s+1) (hb:s < out.length - 1∧Wv T.cls c≤Wv T.cls (out.getD (out.length - 1) 0)):Lq T out c=out++[c]:=by
 unfold Lq;rw [h];simp only;rw [if_pos hb]
theorem Oq {T:Tbl} {out:List Int} {c:Int} {s:Nat} (h:Bw (Wv T.cls) out out.length=s+1) (hb:¬ (s < out.length - 1∧Wv T.cls c≤Wv T.cls (out.getD (out.length - 1) 0))) (hp:Gn T (out.getD s 0) c=none):Lq T out c=out++[c]:=by
 unfold Lq;rw [h];simp only;rw [if_neg hb,hp]
theorem Pa {T:Tbl} {out:List Int} {c p:Int} {s:Nat} (h:Bw (Wv T.cls) out out.length=s+1) (hb:¬ (s < out.length - 1∧Wv T.cls c≤Wv T.cls (out.getD (out.length - 1) 0))) (hp:Gn T (out.getD s 0) c=some p):Lq T out c=out.set s p:=by
 unfold Lq;rw [h];simp only;rw [if_neg hb,hp]
def Zqn (T:Tbl) (l:List Int) (w:World) (e:Ending) (w':World):Prop:=∃ (v:Value) (r:List Int) (x:Int),e=.returned (.tuple #[v,.int .i64 x])∧RdE Xe w' (fun k=>w.heap.size≤k) v r∧r.length≤4096∧(x=0→r=Znr T l)∧Ext w w'
theorem Ju {l:List Int} {j:Nat} {x:Int} (h:l[j]?=some x):l.getD j 0=x:=by rw [List.getD_eq_getElem?_getD,h];rfl
theorem Zuq {S S':Nat→Prop} (T:Tbl) (hf:Few T) (hu:Uq T) (v:Value) (l:List Int) (w:World) (h:Xm w S T) (hl:Xz w S' v l):Calls Tryz.prog 210 #[Wc T,v] w (Zqn T l w):=by
 obtain ⟨A,C,rfl,hlCC,hCC⟩:=hl.shape
 obtain ⟨n0,hnn0⟩:∃ n,(l).length=n:=⟨_,rfl⟩
 have Hnn0:=Yw hnn0
 have Hhl:=Yw hl
 unfold maxLen at hCC
 rw [hnn0] at hlCC ⊢
 clear hl hnn0
 have X0:=Yw ((Yl w).alloc (Xf T))
 have H:=Yw (h.up X0.out)
 have Hb0:=Yw (Xq w T)
 clear h
 have HL:=Yw (show Xz (w.alloc (Xf T)) S' (.slice A n0 C) l by have:=Hhl.out.ext X0.out;rwa [Hnn0.out] at this)
 have Hf:=Yw hf
 have Hu:=Yw hu
 clear hf hu
 go_enter Tryz.func210,Tryz.ntmps210
 go_wp2_with (first|(refine Xy rfl ?_)|(refine Y4 Hb0.out rfl ?_))
 refine (Ro T Hf.out Hu.out _ l _ H.out HL.out).mono ?_
 rintro e w1 ⟨u,d,x,rfl,hd1,hdl,hd0,hx1⟩
 have Hx1:=Yw hx1
 clear hx1
 by_cases h0:x=0
 ·subst h0
  obtain ⟨hde,hfin⟩:=hd0 rfl
  have HF:=Yw hfin
  have Hde:=Yw hde
  obtain ⟨A1,C1,rfl,_,_⟩:=hd1.shape
  obtain ⟨n,hn⟩:∃ n,d.length=n:=⟨_,rfl⟩
  have Hd:=Yw (show Xz w1 (fun k=>(w.alloc (Xf T)).heap.size≤k) (.slice A1 n C1) d by have:=hd1;rwa [hn] at this)
  rw [hn] at hdl ⊢
  have Hn:=Yw hn
  obtain ⟨B,hB⟩:∃ B,w1.heap.size=B:=⟨_,rfl⟩
  have HB:=Yw hB
  have H1:=Yw (H.out.up Hx1.out)
  have Hb1:=Yw (Hb0.out.ext Hx1.out)
  have hgx:=Hb1.out.lt
  clear hfin hde hd1 hn hB hd0 hgx
  go_wp2_with fail
  go_loopw [26,8] (fun o u wr=>∃ (i:Nat) (out:List Int),i≤n∧o=.int .i64 (i:Int)∧Own Xe wr B u out∧out=(d.take i).foldl (Lq T) []∧out.length≤i∧Ext w1 wr) (fun o _ _=>n - (intOf o).toNat)
  case atStart=>exact ⟨0,[],by omega,rfl,Own.nil _ _ _,rfl,by simp,Yl _⟩
  obtain ⟨i,out,hi,rfl,ho,hout,hol,hx⟩:=hrel
  obtain ⟨A2,C2,rfl,hlC2,hC2⟩:=ho.shape
  obtain ⟨m,hm⟩:∃ m,out.length=m:=⟨_,rfl⟩
  have hoI:Own Xe wr B (.slice A2 m C2) out:=by rw [← hm];exact ho
  rw [hm] at hlC2 hol ⊢
  have Hx:=Yw hx
  have Ho:=Yw hoI
  have Hm:=Yw hm
  have Hout:=Yw hout
  have hBw:B≤wr.heap.size:=by rw [← HB.out];exact hx.size
  unfold maxLen at hC2
  clear hx ho hoI hm hout
  by_cases hlt:i < n
  ·have hd_i:decide ((i:Int) < (n:Int))=true:=Yf (by omega)
   have i0_i:(0:Int)≤(i:Int):=by omega
   have i1_i:(i:Int) < (n:Int):=by omega
   obtain ⟨c,hs_c⟩:∃ s,(d)[i]?=some s:=⟨(d)[i]'(by have:=Hn.out;omega),Zz _⟩
   obtain ⟨g_c,o_c,c_c,hvv,_,_,_,hgl_c,a0_c⟩:=(Hd.out.ext Hx.out).get hs_c
   simp only [Ye] at hvv
   obtain ⟨rfl,-,rfl⟩:=hvv
   have Hs_c:=Yw hs_c
   clear hs_c
   have Hnew:=Yw (show (d.take (i+1)).foldl (Lq T) []=Lq T out c by rw [Wz Hs_c.out,List.foldl_append,← Hout.out];rfl)
   have Hnl:=Yw (show (Lq T out c).length≤i+1 by have:=Zs6 T out c;rw [Hm.out] at this;omega)
   have r1:IntKind.i64.wrap ((m:Int) - 1)=(m:Int) - 1:=Yq _ (by omega)
   go_wp2_with fail
   rename World=>wo
   have Hxo:=Hx
   go_loopw [11] (fun o wr=>∃ k:Nat,k≤m∧o=.int .i64 ((k:Int) - 1)∧Bw (Wv T.cls) out m=Bw (Wv T.cls) out k∧Ext wo wr) (fun o _=>(intOf o+1).toNat)
   case atStart=>exact ⟨m,Yo _,rfl,rfl,Yl _⟩
   obtain ⟨k,hk,rfl,hst,hx⟩:=hrel
   have Hy:=Yw hx
   have Hst:=Yw hst
   clear hx hst
   have HW:=Yw (H1.out.up (Hx.out.trans Hy.out))
   have hC:∀ w',(∃ p:Wj,w'=later wr p.n p.os)→Q9 w' w.heap.size T:=fun w' ⟨p,e⟩=>by rw [e];exact (Hb1.out.ext (Hx.out.trans Hy.out)).ext (⟨_,_,rfl⟩)
   cases k with
   | zero =>
    have Hz:=Yw (show Bw (Wv T.cls) out out.length=0 by rw [Hm.out];exact Hst.out)
    try go_wp2_with fail
    have hun:=Yb
    refine Y0 (by kernel_rfl) (by kernel_rfl) ?_
    repeat (first|((with_reducible refine Xi ?_ ?_ hC ?_);(focus (go_simp;done));rfl)|((with_reducible refine Yv ?_);intro K hK;go_simp;first|((with_reducible refine hK _ ?_);clear hK K)|(apply Exists.intro;refine ⟨fun _=>?_,hK _ ?_⟩;(first|(go_at_call 148;exact Y8 (Xr T _ _ (HW.out.up (⟨_,_,rfl⟩))))|(go_at_call 227;exact Y8 (V5 T HF.out Hf.out _ _ _ (HW.out.up (⟨_,_,rfl⟩)))));clear hK K)))
    (with_reducible refine Yu ?_)
    intro w2 hy2
    clear hun
    try simp only [Yc]
    have Hy2:=Yw (Hy.out.trans hy2)
    clear HW hC hy2
    go_wp2_with fail
    have HW:=Yw (H1.out.up (Hx.out.trans Hy2.out))
    have hC:∀ w',(∃ p:Wj,w'=later w2 p.n p.os)→Q9 w' w.heap.size T:=fun w' ⟨p,e⟩=>by rw [e];exact (Hb1.out.ext (Hx.out.trans Hy2.out)).ext (⟨_,_,rfl⟩)
    have hun:=Yb
    refine Y0 (by kernel_rfl) (by kernel_rfl) ?_
    repeat (first|((with_reducible refine Xi ?_ ?_ hC ?_);(focus (go_simp;done));rfl)|((with_reducible refine Yv ?_);intro K hK;go_simp;first|((with_reducible refine hK _ ?_);clear hK K)|(apply Exists.intro;refine ⟨fun _=>?_,hK _ ?_⟩;(first|(go_at_call 148;exact Y8 (Xr T _ _ (HW.out.up (⟨_,_,rfl⟩))))|(go_at_call 227;exact Y8 (V5 T HF.out Hf.out _ _ _ (HW.out.up (⟨_,_,rfl⟩)))));clear hK K)))
    (with_reducible refine Yu ?_)
    intro w3 hy3
    clear hun
    try simp only [Yc]
    have Hy3:=Yw (Hy2.out.trans hy3)
    clear HW hC hy3
    go_wp2_with (at_builtin;refine Xx Xe _ _ _ rfl rfl rfl rfl (Ho.out.ext ((Hy3.out).alloc _)) rfl (X9 w3 c _ _ rfl) (by rw [Hm.out];show m+1≤_;omega) (by show 8≤1000;omega) (by have:=(Hy3.out).size;have:=hBw;simp;omega) ?_;intro A5 n5 c5 w5 hg5;have Hx5:=Yw (hg5.ext w1 ((Hx.out.trans Hy3.out).alloc _) (by rw [HB.out];exact Yo _));have Hg5:=Yw hg5;clear hg5)
    go_roundw
    case rel =>
     have hnew:Lq T out c=out++[c]:=Zuu Hz.out
     refine ⟨i+1,out++[c],by omega,by go_num,Hg5.out.own,by rw [Hnew.out,hnew],?_,Hx5.out⟩
     have:=Hnl.out;rwa [hnew] at this
    case measure=>(simp [intOf];omega)
   | succ j =>
    obtain ⟨g,C3,e,hg1,hg2,hg3,hg4⟩:=Ho.out.some_ (by rw [Hm.out];omega)
    simp only [Ye] at e
    obtain ⟨rfl,-,rfl⟩:=e
    rw [Hm.out] at hg3
    obtain ⟨y,hy0⟩:∃ y,out[j]?=some y:=⟨out[j]'(by rw [Hm.out];omega),Zz _⟩
    have m0:=lat ((Ho.out.ext Hy.out).at_ (ints_at hy0))
    have Hy0:=Yw hy0
    clear hy0
    have e1:(((j+1:Nat):Int) - 1)=(j:Int):=by omega
    have q2:IntKind.i64.wrap ((j:Int) - 1)=(j:Int) - 1:=Yq _ (by omega)
    have q3:(0:Int)≤(j:Int):=by omega
    have q4:(j:Int) < (m:Int):=by omega
    have q5:decide ((0:Int)≤(j:Int))=true:=Yf q3
    rw [e1]
    clear e1
    try go_wp2_with fail
    cases hz:(Wv T.cls y == 0)
    ·have Hz:=Yw (show Bw (Wv T.cls) out (j+1)=Bw (Wv T.cls) out j by rw [Bw,Ju Hy0.out,if_neg (by simpa using hz)])
     have hun:=Yb
     refine Y0 (by kernel_rfl) (by kernel_rfl) ?_
     repeat (first|((with_reducible refine Xi ?_ ?_ hC ?_);(focus (go_simp;done));rfl)|((with_reducible refine Yv ?_);intro K hK;go_simp;first|((with_reducible refine hK _ ?_);clear hK K)|(apply Exists.intro;refine ⟨fun _=>?_,hK _ ?_⟩;(first|(go_at_call 148;exact Y8 (Xr T _ _ (HW.out.up (⟨_,_,rfl⟩))))|(go_at_call 227;exact Y8 (V5 T HF.out Hf.out _ _ _ (HW.out.up (⟨_,_,rfl⟩)))));clear hK K)))
     (with_reducible refine Yu ?_)
     intro w2 hy2
     clear hun
     try simp only [Yc]
     have Hy2:=Yw (Hy.out.trans hy2)
     clear HW hC hy2 m0
     go_wp2_with fail
     go_roundw
     case rel=>exact ⟨j,by omega,rfl,by rw [Hst.out,Hz.out],Hy2.out⟩
     case measure=>first|(simp [intOf];done)|(simp [intOf];omega)
    have Hz:=Yw (show Bw (Wv T.cls) out out.length=j+1 by rw [Hm.out,Hst.out,Bw,Ju Hy0.out,if_pos (by simpa using hz)])
    have hun:=Yb
    refine Y0 (by kernel_rfl) (by kernel_rfl) ?_
    repeat (first|((with_reducible refine Xi ?_ ?_ hC ?_);(focus (go_simp;done));rfl)|((with_reducible refine Yv ?_);intro K hK;go_simp;first|((with_reducible refine hK _ ?_);clear hK K)|(apply Exists.intro;refine ⟨fun _=>?_,hK _ ?_⟩;(first|(go_at_call 148;exact Y8 (Xr T _ _ (HW.out.up (⟨_,_,rfl⟩))))|(go_at_call 227;exact Y8 (V5 T HF.out Hf.out _ _ _ (HW.out.up (⟨_,_,rfl⟩)))));clear hK K)))
    (with_reducible refine Yu ?_)
    intro w2 hy2
    clear hun
    try simp only [Yc]
    have Hy2:=Yw (Hy.out.trans hy2)
    clear HW hC hy2 m0
    go_wp2_with fail
    clear hz q2 r1 Hst
    have d0:decide ((j:Int) < 0)=false:=Yg (by omega)
    obtain ⟨mp,hmp⟩:∃ mp,m - 1=mp:=⟨_,rfl⟩
    have r1:IntKind.i64.wrap ((m:Int) - 1)=(mp:Int):=by rw [Yq _ (by omega)];omega
    have Hmp:=Yw hmp
    by_cases hA:j < mp
    ·have d1:decide ((j:Int) < (mp:Int))=true:=Yf (by omega)
     obtain ⟨z,hz0⟩:∃ z,out[mp]?=some z:=⟨out[mp]'(by rw [Hm.out];omega),Zz _⟩
     have m1:=lat ((Ho.out.ext Hy2.out).at_ (ints_at hz0))
     have q6:(0:Int)≤(mp:Int):=by omega
     have q7:(mp:Int) < (m:Int):=by omega
     have q8:mp < m:=by omega
     have Hz0:=Yw hz0
     clear hz0 hmp
     have HW:=Yw (H1.out.up (Hx.out.trans Hy2.out))
     have hC:∀ w',(∃ p:Wj,w'=later w2 p.n p.os)→Q9 w' w.heap.size T:=fun w' ⟨p,e⟩=>by rw [e];exact (Hb1.out.ext (Hx.out.trans Hy2.out)).ext (⟨_,_,rfl⟩)
     cases hB:decide (Wv T.cls c≤Wv T.cls z)
     ·have HB2:=Yw hB
      have hun:=Yb
      refine Y0 (by kernel_rfl) (by kernel_rfl) ?_
      repeat (first|((with_reducible refine Xi ?_ ?_ hC ?_);(focus (go_simp;done));rfl)|((with_reducible refine Yv ?_);intro K hK;go_simp;first|((with_reducible refine hK _ ?_);clear hK K)|(apply Exists.intro;refine ⟨fun _=>?_,hK _ ?_⟩;(first|(go_at_call 148;exact Y8 (Xr T _ _ (HW.out.up (⟨_,_,rfl⟩))))|(go_at_call 227;exact Y8 (V5 T HF.out Hf.out _ _ _ (HW.out.up (⟨_,_,rfl⟩)))));clear hK K)))
      (with_reducible refine Yu ?_)
      intro w3 hy3
      clear hun
      try simp only [Yc]
      have Hy3:=Yw (Hy2.out.trans hy3)
      clear HW hC hy3 m1 hB d1
      go_wp2_with fail
      have Hnb:=Yw (show ¬ (j < out.length - 1∧Wv T.cls c≤Wv T.cls (out.getD (out.length - 1) 0)) from (by rw [Hm.out,Hmp.out,Ju Hz0.out];exact fun h=>absurd h.2 (by have:=HB2.out;simpa using this)))
      have m0:=lat ((Ho.out.ext Hy3.out).at_ (ints_at Hy0.out))
      have HW:=Yw (H1.out.up (Hx.out.trans Hy3.out))
      have hC:∀ w',(∃ p:Wj,w'=later w3 p.n p.os)→Q9 w' w.heap.size T:=fun w' ⟨p,e⟩=>by rw [e];exact (Hb1.out.ext (Hx.out.trans Hy3.out)).ext (⟨_,_,rfl⟩)
      cases hpo:Gn T y c with
      | none =>
       have e1:Zr5 (Gn T y c)=.tuple #[.int .i64 0,.bool false]:=by rw [hpo];rfl
       have Hpo:=Yw hpo
       clear hpo
       have hun:=Yb
       refine Y0 (by kernel_rfl) (by kernel_rfl) ?_
       repeat (first|((with_reducible refine Xi ?_ ?_ hC ?_);(focus (go_simp;done));rfl)|((with_reducible refine Yv ?_);intro K hK;go_simp;first|((with_reducible refine hK _ ?_);clear hK K)|(apply Exists.intro;refine ⟨fun _=>?_,hK _ ?_⟩;(first|(go_at_call 148;exact Y8 (Xr T _ _ (HW.out.up (⟨_,_,rfl⟩))))|(go_at_call 227;exact Y8 (V5 T HF.out Hf.out _ _ _ (HW.out.up (⟨_,_,rfl⟩)))));clear hK K)))
       (with_reducible refine Yu ?_)
       intro w4 hy4
       clear hun
       try simp only [Yc]
       have Hy4:=Yw ((Hy3.out).trans hy4)
       clear HW hC hy4 m0 e1
       go_wp2_with (at_builtin;refine Xx Xe _ _ _ rfl rfl rfl rfl (Ho.out.ext ((Hy4.out).alloc _)) rfl (X9 w4 c _ _ rfl) (by rw [Hm.out];show m+1≤_;omega) (by show 8≤1000;omega) (by have:=(Hy4.out).size;have:=hBw;simp;omega) ?_;intro A5 n5 c5 w5 hg5;have Hx5:=Yw (hg5.ext w1 ((Hx.out.trans Hy4.out).alloc _) (by rw [HB.out];exact Yo _));have Hg5:=Yw hg5;clear hg5)
       go_roundw
       case rel =>
        have hnew:Lq T out c=out++[c]:=Oq Hz.out Hnb.out (by rw [Ju Hy0.out];exact Hpo.out)
        refine ⟨i+1,out++[c],by omega,by go_num,Hg5.out.own,by rw [Hnew.out,hnew],?_,Hx5.out⟩
        have:=Hnl.out;rwa [hnew] at this
       case measure=>(simp [intOf];omega)
      | some p =>
       have e1:Zr5 (Gn T y c)=.tuple #[.int .i64 p,.bool true]:=by rw [hpo];rfl
       have Hpo:=Yw hpo
       clear hpo
       have hun:=Yb
       refine Y0 (by kernel_rfl) (by kernel_rfl) ?_
       repeat (first|((with_reducible refine Xi ?_ ?_ hC ?_);(focus (go_simp;done));rfl)|((with_reducible refine Yv ?_);intro K hK;go_simp;first|((with_reducible refine hK _ ?_);clear hK K)|(apply Exists.intro;refine ⟨fun _=>?_,hK _ ?_⟩;(first|(go_at_call 148;exact Y8 (Xr T _ _ (HW.out.up (⟨_,_,rfl⟩))))|(go_at_call 227;exact Y8 (V5 T HF.out Hf.out _ _ _ (HW.out.up (⟨_,_,rfl⟩)))));clear hK K)))
       (with_reducible refine Yu ?_)
       intro w4 hy4
       clear hun
       try simp only [Yc]
       have Hy4:=Yw ((Hy3.out).trans hy4)
       clear HW hC hy4 m0 e1
       have ho4:=Ho.out.ext Hy4.out
       have c0:=ho4.at_ (ints_at Hy0.out)
       have t0:=ho4.thaw j
       have hgb:=ho4.blk.2
       have Ho5:=Yw (ho4.put rfl (i:=j) (by rw [Hm.out];omega) p (u:=.int .i64 p) rfl)
       clear ho4
       go_wp2_with fail
       go_roundw
       case rel =>
        have hnew:Lq T out c=out.set j p:=Pa Hz.out Hnb.out (by rw [Ju Hy0.out];exact Hpo.out)
        refine ⟨i+1,out.set j p,by omega,by go_num,Ho5.out,by rw [Hnew.out,hnew],?_,Ya (Hx.out.trans Hy4.out) (by show w1.heap.size≤g;rw [HB.out];exact hg1) _⟩
        have:=Hnl.out;rwa [hnew] at this
       case measure=>(simp [intOf];omega)
     have HB2:=Yw hB
     have hun:=Yb
     refine Y0 (by kernel_rfl) (by kernel_rfl) ?_
     repeat (first|((with_reducible refine Xi ?_ ?_ hC ?_);(focus (go_simp;done));rfl)|((with_reducible refine Yv ?_);intro K hK;go_simp;first|((with_reducible refine hK _ ?_);clear hK K)|(apply Exists.intro;refine ⟨fun _=>?_,hK _ ?_⟩;(first|(go_at_call 148;exact Y8 (Xr T _ _ (HW.out.up (⟨_,_,rfl⟩))))|(go_at_call 227;exact Y8 (V5 T HF.out Hf.out _ _ _ (HW.out.up (⟨_,_,rfl⟩)))));clear hK K)))
     (with_reducible refine Yu ?_)
     intro w3 hy3
     clear hun
     try simp only [Yc]
     have Hy3:=Yw (Hy2.out.trans hy3)
     clear HW hC hy3 m1 hB d1
     go_wp2_with (at_builtin;refine Xx Xe _ _ _ rfl rfl rfl rfl (Ho.out.ext ((Hy3.out).alloc _)) rfl (X9 w3 c _ _ rfl) (by rw [Hm.out];show m+1≤_;omega) (by show 8≤1000;omega) (by have:=(Hy3.out).size;have:=hBw;simp;omega) ?_;intro A5 n5 c5 w5 hg5;have Hx5:=Yw (hg5.ext w1 ((Hx.out.trans Hy3.out).alloc _) (by rw [HB.out];exact Yo _));have Hg5:=Yw hg5;clear hg5)
     go_roundw
     case rel =>
      have hnew:Lq T out c=out++[c]:=Pz Hz.out (by rw [Hm.out,Hmp.out,Ju Hz0.out];exact ⟨hA,by have:=HB2.out;simpa using this⟩)
      refine ⟨i+1,out++[c],by omega,by go_num,Hg5.out.own,by rw [Hnew.out,hnew],?_,Hx5.out⟩
      have:=Hnl.out;rwa [hnew] at this
     case measure=>(simp [intOf];omega)
    have d1:decide ((j:Int) < (mp:Int))=false:=Yg (by omega)
    clear hmp
    have HW:=Yw (H1.out.up (Hx.out.trans Hy2.out))
    have hC:∀ w',(∃ p:Wj,w'=later w2 p.n p.os)→Q9 w' w.heap.size T:=fun w' ⟨p,e⟩=>by rw [e];exact (Hb1.out.ext (Hx.out.trans Hy2.out)).ext (⟨_,_,rfl⟩)
    have hun:=Yb
    refine Y0 (by kernel_rfl) (by kernel_rfl) ?_
    repeat (first|((with_reducible refine Xi ?_ ?_ hC ?_);(focus (go_simp;done));rfl)|((with_reducible refine Yv ?_);intro K hK;go_simp;first|((with_reducible refine hK _ ?_);clear hK K)|(apply Exists.intro;refine ⟨fun _=>?_,hK _ ?_⟩;(first|(go_at_call 148;exact Y8 (Xr T _ _ (HW.out.up (⟨_,_,rfl⟩))))|(go_at_call 227;exact Y8 (V5 T HF.out Hf.out _ _ _ (HW.out.up (⟨_,_,rfl⟩)))));clear hK K)))
    (with_reducible refine Yu ?_)
    intro w3 hy3
    clear hun
    try simp only [Yc]
    have Hy3:=Yw (Hy2.out.trans hy3)
    clear HW hC hy3 d1
    go_wp2_with fail
    have Hnb:=Yw (show ¬ (j < out.length - 1∧Wv T.cls c≤Wv T.cls (out.getD (out.length - 1) 0)) from (by rw [Hm.out,Hmp.out];exact fun h=>absurd h.1 hA))
    have m0:=lat ((Ho.out.ext Hy3.out).at_ (ints_at Hy0.out))
    have HW:=Yw (H1.out.up (Hx.out.trans Hy3.out))
    have hC:∀ w',(∃ p:Wj,w'=later w3 p.n p.os)→Q9 w' w.heap.size T:=fun w' ⟨p,e⟩=>by rw [e];exact (Hb1.out.ext (Hx.out.trans Hy3.out)).ext (⟨_,_,rfl⟩)
    cases hpo:Gn T y c with
    | none =>
     have e1:Zr5 (Gn T y c)=.tuple #[.int .i64 0,.bool false]:=by rw [hpo];rfl
     have Hpo:=Yw hpo
     clear hpo
     have hun:=Yb
     refine Y0 (by kernel_rfl) (by kernel_rfl) ?_
     repeat (first|((with_reducible refine Xi ?_ ?_ hC ?_);(focus (go_simp;done));rfl)|((with_reducible refine Yv ?_);intro K hK;go_simp;first|((with_reducible refine hK _ ?_);clear hK K)|(apply Exists.intro;refine ⟨fun _=>?_,hK _ ?_⟩;(first|(go_at_call 148;exact Y8 (Xr T _ _ (HW.out.up (⟨_,_,rfl⟩))))|(go_at_call 227;exact Y8 (V5 T HF.out Hf.out _ _ _ (HW.out.up (⟨_,_,rfl⟩)))));clear hK K)))
     (with_reducible refine Yu ?_)
     intro w4 hy4
     clear hun
     try simp only [Yc]
     have Hy4:=Yw ((Hy3.out).trans hy4)
     clear HW hC hy4 m0 e1
     go_wp2_with (at_builtin;refine Xx Xe _ _ _ rfl rfl rfl rfl (Ho.out.ext ((Hy4.out).alloc _)) rfl (X9 w4 c _ _ rfl) (by rw [Hm.out];show m+1≤_;omega) (by show 8≤1000;omega) (by have:=(Hy4.out).size;have:=hBw;simp;omega) ?_;intro A5 n5 c5 w5 hg5;have Hx5:=Yw (hg5.ext w1 ((Hx.out.trans Hy4.out).alloc _) (by rw [HB.out];exact Yo _));have Hg5:=Yw hg5;clear hg5)
     go_roundw
     case rel =>
      have hnew:Lq T out c=out++[c]:=Oq Hz.out Hnb.out (by rw [Ju Hy0.out];exact Hpo.out)
      refine ⟨i+1,out++[c],by omega,by go_num,Hg5.out.own,by rw [Hnew.out,hnew],?_,Hx5.out⟩
      have:=Hnl.out;rwa [hnew] at this
     case measure=>(simp [intOf];omega)
    | some p =>
     have e1:Zr5 (Gn T y c)=.tuple #[.int .i64 p,.bool true]:=by rw [hpo];rfl
     have Hpo:=Yw hpo
     clear hpo
     have hun:=Yb
     refine Y0 (by kernel_rfl) (by kernel_rfl) ?_
     repeat (first|((with_reducible refine Xi ?_ ?_ hC ?_);(focus (go_simp;done));rfl)|((with_reducible refine Yv ?_);intro K hK;go_simp;first|((with_reducible refine hK _ ?_);clear hK K)|(apply Exists.intro;refine ⟨fun _=>?_,hK _ ?_⟩;(first|(go_at_call 148;exact Y8 (Xr T _ _ (HW.out.up (⟨_,_,rfl⟩))))|(go_at_call 227;exact Y8 (V5 T HF.out Hf.out _ _ _ (HW.out.up (⟨_,_,rfl⟩)))));clear hK K)))
     (with_reducible refine Yu ?_)
     intro w4 hy4
     clear hun
     try simp only [Yc]
     have Hy4:=Yw ((Hy3.out).trans hy4)
     clear HW hC hy4 m0 e1
     have ho4:=Ho.out.ext Hy4.out
     have c0:=ho4.at_ (ints_at Hy0.out)
     have t0:=ho4.thaw j
     have hgb:=ho4.blk.2
     have Ho5:=Yw (ho4.put rfl (i:=j) (by rw [Hm.out];omega) p (u:=.int .i64 p) rfl)
     clear ho4
     go_wp2_with fail
     go_roundw
     case rel =>
      have hnew:Lq T out c=out.set j p:=Pa Hz.out Hnb.out (by rw [Ju Hy0.out];exact Hpo.out)
      refine ⟨i+1,out.set j p,by omega,by go_num,Ho5.out,by rw [Hnew.out,hnew],?_,Ya (Hx.out.trans Hy4.out) (by show w1.heap.size≤g;rw [HB.out];exact hg1) _⟩
      have:=Hnl.out;rwa [hnew] at this
     case measure=>(simp [intOf];omega)
  have hd_i:decide ((i:Int) < (n:Int))=false:=Yg (by omega)
  go_wp2_with fail
  go_ret2
  refine ⟨_,out,0,rfl,?_,by rw [Hm.out];omega,fun _=>?_,X0.out.trans (Hx1.out.trans Hx.out)⟩
  ·have:=Ho.out.rd
   rw [← Hm.out] at this ⊢
   exact Rd.mono this fun k hk _=>Nat.le_trans (X0.out.trans Hx1.out).size (by rw [HB.out];exact hk)
  rw [Hout.out,Zm (by rw [Hn.out];omega),Hde.out];rfl
 have d2:(!(x == 0))=true:=by simp [h0]
 have d3:(x != 0)=true:=d2
 have H0:=Yw h0
 clear h0 hd0
 go_wp2_with fail
 go_ret2
 exact ⟨_,[],x,rfl,Xz.nil _ _,Nat.zero_le _,fun h=>absurd h H0.out,X0.out.trans Hx1.out⟩
theorem Zxy {S S':Nat→Prop} (T:Tbl) (hf:Few T) (hu:Uq T) (v:Value) (l:List Int) (w:World) (h:Xm w S T) (hl:Xz w S' v l):Calls Tryz.prog 230 #[Wc T,v] w (Vi w):=by
 obtain ⟨A,C,rfl,hlCC,hCC⟩:=hl.shape
 obtain ⟨n0,hnn0⟩:∃ n,(l).length=n:=⟨_,rfl⟩
 have Hnn0:=Yw hnn0
 have Hhl:=Yw hl
 unfold maxLen at hCC
 rw [hnn0] at hlCC ⊢
 clear hl hnn0
 have X0:=Yw ((Yl w).alloc (Xf T))
 have H:=Yw (h.up X0.out)
 have Hb0:=Yw (Xq w T)
 clear h
 have HL:=Yw (show Xz (w.alloc (Xf T)) S' (.slice A n0 C) l by have:=Hhl.out.ext X0.out;rwa [Hnn0.out] at this)
 have Hf:=Yw hf
 have Hu:=Yw hu
 clear hf hu
 go_enter Tryz.func230,Tryz.ntmps230
 go_wp2_with (first|(refine Xy rfl ?_)|(refine Y4 Hb0.out rfl ?_))
 refine (Zuq T Hf.out Hu.out _ l _ H.out HL.out).mono ?_
 rintro e w1 ⟨u,d,x,rfl,hd1,_,_,hx1⟩
 by_cases h0:x=0
 ·subst h0
  go_wp2_with fail
  refine (Zvj u _ d l _ hd1 (HL.out.ext hx1)).mono ?_
  rintro e w2 ⟨b,rfl,hx2⟩
  go_wp2_with fail
  go_ret
  exact ⟨_,rfl,X0.out.trans (hx1.trans hx2)⟩
 have d2:(x == 0)=false:=by simp [h0]
 go_wp2_with fail
 go_ret
 exact ⟨_,rfl,X0.out.trans hx1⟩
def inB (c lo hi:Int):Bool:=decide (lo≤c) && decide (c≤hi)
theorem Cw (c lo hi:Int) (w:World):Calls Tryz.prog 268 #[.int .i64 c,.int .i64 lo,.int .i64 hi] w fun e w'=>e=.returned (.bool (inB c lo hi))∧w=w':=by
 cases h1:decide (lo≤c)
 ·go_enter Tryz.func268,Tryz.ntmps268
  go_wp2_with fail
  go_ret
  exact ⟨by unfold inB;rw [h1];rfl,rfl⟩
 go_enter Tryz.func268,Tryz.ntmps268
 go_wp2_with fail
 go_ret
 exact ⟨by unfold inB;rw [h1];rfl,rfl⟩
theorem In {S:Nat→Prop} (v:Value) (l:List Int) (lo hi:Int) (w:World) (h:Xz w S v l):Calls Tryz.prog 269 #[v,.int .i64 lo,.int .i64 hi] w (Vi w):=by
 obtain ⟨A,C,rfl,hlCC,hCC⟩:=h.shape
 obtain ⟨n,hnn⟩:∃ n,(l).length=n:=⟨_,rfl⟩
 have Hnn:=Yw hnn
 have Hh:=Yw h
 unfold maxLen at hCC
 rw [hnn] at hlCC ⊢
 clear h hnn
 go_enter Tryz.func269,Tryz.ntmps269
 go_wp2_with fail
 go_loopw [11] (fun o wr=>∃ i:Nat,i≤n∧o=.int .i64 (i:Int)∧Ext w wr) (fun o _=>n - (intOf o).toNat)
 case atStart=>exact ⟨0,by omega,rfl,(by repeat' first|exact Yl _|assumption|apply Yk|apply Yj|apply Yi|(refine Yh ?_ (by assumption)))⟩
 obtain ⟨i,hi_i,rfl,hx⟩:=hrel
 have Hx:=Yw hx
 clear hx
 by_cases hlt:i < n
 ·have hd_i:decide ((i:Int) < (n:Int))=true:=Yf (by omega)
  have i0_i:(0:Int)≤(i:Int):=by omega
  have i1_i:(i:Int) < (n:Int):=by omega
  obtain ⟨x,hs_x⟩:∃ s,(l)[i]?=some s:=⟨(l)[i]'(by have:=Hnn.out;omega),Zz _⟩
  obtain ⟨g_x,o_x,c_x,hvv,_,_,_,hgl_x,a0_x⟩:=(Hh.out.ext Hx.out).get hs_x
  simp only [Ye] at hvv
  obtain ⟨rfl,-,rfl⟩:=hvv
  have Hs_x:=Yw hs_x
  clear hs_x
  cases hb:inB x lo hi
  ·go_wp2_with (go_at_call 268;refine (Cw _ _ _ _).mono ?_;rintro e w' ⟨rfl,rfl⟩;rw [hb])
   all_goals
    have hx:=Hx.out
    first
    | (go_roundw
       case rel=>exact ⟨i+1,by omega,by go_num,(by repeat' first|exact Yl _|assumption|apply Yk|apply Yj|apply Yi|(refine Yh ?_ (by assumption)))⟩
       case measure=>(simp [intOf];omega))
    | (go_ret;exact ⟨_,rfl,(by repeat' first|exact Yl _|assumption|apply Yk|apply Yj|apply Yi|(refine Yh ?_ (by assumption)))⟩)
  go_wp2_with (go_at_call 268;refine (Cw _ _ _ _).mono ?_;rintro e w' ⟨rfl,rfl⟩;rw [hb])
  all_goals
   have hx:=Hx.out
   first
   | (go_roundw
      case rel=>exact ⟨i+1,by omega,by go_num,(by repeat' first|exact Yl _|assumption|apply Yk|apply Yj|apply Yi|(refine Yh ?_ (by assumption)))⟩
      case measure=>(simp [intOf];omega))
   | (go_ret;exact ⟨_,rfl,(by repeat' first|exact Yl _|assumption|apply Yk|apply Yj|apply Yi|(refine Yh ?_ (by assumption)))⟩)
 have hd_i:decide ((i:Int) < (n:Int))=false:=Yg (by omega)
 go_wp2_with fail
 all_goals
  have hx:=Hx.out
  first
  | (go_roundw
     case rel=>exact ⟨i+1,by omega,by go_num,(by repeat' first|exact Yl _|assumption|apply Yk|apply Yj|apply Yi|(refine Yh ?_ (by assumption)))⟩
     case measure=>(simp [intOf];omega))
  | (go_ret;exact ⟨_,rfl,(by repeat' first|exact Yl _|assumption|apply Yk|apply Yj|apply Yi|(refine Yh ?_ (by assumption)))⟩)
theorem Zqz {S:Nat→Prop} (v:Value) (l:List Int) (i:Int) (w:World) (h:Xz w S v l):Calls Tryz.prog 252 #[v,.int .i64 i] w (Ka w):=by
 obtain ⟨A,C,rfl,hlCC,hCC⟩:=h.shape
 obtain ⟨n,hnn⟩:∃ n,(l).length=n:=⟨_,rfl⟩
 have Hnn:=Yw hnn
 have Hh:=Yw h
 unfold maxLen at hCC
 rw [hnn] at hlCC ⊢
 clear h hnn
 go_enter Tryz.func252,Tryz.ntmps252
 by_cases h0:i < 0
 ·have d0:decide (i < 0)=true:=Yf h0
  go_wp2_with fail
  go_ret
  exact ⟨_,rfl,Yl _⟩
 have d0:decide (i < 0)=false:=Yg h0
 by_cases h1:(n:Int)≤i
 ·have d1:decide ((n:Int)≤i)=true:=Yf h1
  go_wp2_with fail
  go_ret
  exact ⟨_,rfl,Yl _⟩
 obtain ⟨j,rfl⟩:∃ j:Nat,i=(j:Int):=⟨i.toNat,by omega⟩
 have d1:decide ((n:Int)≤(j:Int))=false:=Yg h1
 have i0:(0:Int)≤(j:Int):=by omega
 have i1:(j:Int) < (n:Int):=by omega
 have hlt:j < n:=by omega
 have Hx:=Yw (Yl w)
 obtain ⟨x,hs_x⟩:∃ s,(l)[j]?=some s:=⟨(l)[j]'(by have:=Hnn.out;omega),Zz _⟩
 obtain ⟨g_x,o_x,c_x,hvv,_,_,_,hgl_x,a0_x⟩:=(Hh.out.ext Hx.out).get hs_x
 simp only [Ye] at hvv
 obtain ⟨rfl,-,rfl⟩:=hvv
 have Hs_x:=Yw hs_x
 clear hs_x
 go_wp2_with fail
 go_ret
 exact ⟨_,rfl,Yl _⟩
def Zya (T:Tbl) (c:Int):List Int:=if Ztx T c=3 then Ok T c else if Ztx T c=1∨Ztx T c=4 then [c] else []
def Gq (T:Tbl) (l:List Int):List Int:=l.flatMap (Zya T)
theorem I8 {T:Tbl} (hf:Few T) (c:Int):(Zya T c).length≤18:=by
 unfold Zya
 split
 ·unfold Ok
  split
  ·simp
  exact Kl hf.map c
 split<;>simp
theorem Zx6 {T:Tbl} (hf:Few T) (l:List Int):(Gq T l).length≤l.length * 18:=by
 unfold Gq
 induction l with
 | nil=>simp
 | cons c r ih=>rw [List.flatMap_cons,Zs,Zl];have:=I8 hf c;omega
def Zqc (T:Tbl) (l:List Int) (w:World) (e:Ending) (w':World):Prop:=∃ (v:Value) (r:List Int) (p x:Int),e=.returned (.tuple #[v,.int .i64 p,.int .i64 x])∧RdE Xe w' (fun k=>w.heap.size≤k) v r∧r.length≤4096∧(x=0→r=Gq T l)∧Ext w w'
theorem Zw1 {S S':Nat→Prop} (T:Tbl) (hf:Few T) (hu:Uq T) (v:Value) (l:List Int) (w:World) (h:Xm w S T) (hl:Xz w S' v l):Calls Tryz.prog 209 #[Wc T,v] w (Zqc T l w):=by
 obtain ⟨A,C,rfl,hlCC,hCC⟩:=hl.shape
 obtain ⟨n,hnn⟩:∃ n,(l).length=n:=⟨_,rfl⟩
 have Hnn:=Yw hnn
 have Hhl:=Yw hl
 unfold maxLen at hCC
 rw [hnn] at hlCC ⊢
 clear hl hnn
 have X0:=Yw ((Yl w).alloc (Xf T))
 have H:=Yw (h.up X0.out)
 have Hb0:=Yw (Xq w T)
 clear h
 have HL:=Yw (show Xz (w.alloc (Xf T)) S' (.slice A n C) l by have:=Hhl.out.ext X0.out;rwa [Hnn.out] at this)
 have Hf:=Yw hf
 have Hu:=Yw hu
 obtain ⟨B,hB⟩:∃ B,(w.alloc (Xf T)).heap.size=B:=⟨_,rfl⟩
 have HB:=Yw hB
 clear hf hu hB
 go_enter Tryz.func209,Tryz.ntmps209
 go_wp2_with (first|(refine Xy rfl ?_)|(refine Y4 Hb0.out rfl ?_))
 refine (Vr T Hf.out Hu.out _ l _ H.out HL.out).mono ?_
 rintro e w1 ⟨x,rfl,hacc,hx1⟩
 have Hx1:=Yw hx1
 clear hx1
 by_cases h0:x=0
 ·subst h0
  obtain ⟨_,hl4,_⟩:=hacc rfl
  rw [Hnn.out] at hl4
  clear hacc
  go_wp2_with fail
  go_loopw [19,8] (fun o u wr=>∃ i:Nat,i≤n∧o=.int .i64 (i:Int)∧Own Xe wr B u (Gq T (l.take i))∧Ext (w.alloc (Xf T)) wr) (fun o _ _=>n - (intOf o).toNat)
  case atStart=>exact ⟨0,by omega,rfl,Own.nil _ _ _,Hx1.out⟩
  clear Hx1
  obtain ⟨i,hi,rfl,ho,hx⟩:=hrel
  obtain ⟨p,hp⟩:∃ p,Gq T (l.take i)=p:=⟨_,rfl⟩
  rw [hp] at ho
  have hpl:p.length≤i * 18:=by rw [← hp];exact Nat.le_trans (Zx6 Hf.out _) (Nat.mul_le_mul_right _ (by rw [Zp];omega))
  have hi18:i * 18≤4096 * 18:=Nat.mul_le_mul_right _ (by omega)
  obtain ⟨A2,C2,rfl,hlC2,hC2⟩:=ho.shape
  obtain ⟨m,hm⟩:∃ m,p.length=m:=⟨_,rfl⟩
  have hoI:Own Xe wr B (.slice A2 m C2) p:=by rw [← hm];exact ho
  rw [hm] at hlC2 hpl ⊢
  have Hx:=Yw hx
  have Ho:=Yw hoI
  have Hm:=Yw hm
  have Hp:=Yw hp
  have hBw:B≤wr.heap.size:=by rw [← HB.out];exact hx.size
  unfold maxLen at hC2
  clear hx ho hoI hm hp
  by_cases hlt:i < n
  ·have hd_i:decide ((i:Int) < (n:Int))=true:=Yf (by omega)
   have i0_i:(0:Int)≤(i:Int):=by omega
   have i1_i:(i:Int) < (n:Int):=by omega
   obtain ⟨c,hs_c⟩:∃ s,(l)[i]?=some s:=⟨(l)[i]'(by have:=Hnn.out;omega),Zz _⟩
   obtain ⟨g_c,o_c,c_c,hvv,_,_,_,hgl_c,a0_c⟩:=(HL.out.ext Hx.out).get hs_c
   simp only [Ye] at hvv
   obtain ⟨rfl,-,rfl⟩:=hvv
   have Hs_c:=Yw hs_c
   clear hs_c
   have Hnew:=Yw (show Gq T (l.take (i+1))=p++Zya T c by rw [Wz Hs_c.out,Gq,List.flatMap_append,← Gq,Hp.out];simp)
   have hcl:=I8 Hf.out c
   obtain ⟨st,hst⟩:∃ st,Ztx T c=st:=⟨_,rfl⟩
   have Hst:=Yw hst
   clear hst
   by_cases e0:st=0
   ·subst e0
    go_wp2_with (first|(refine Y4 (Hb0.out.ext Hx.out) rfl ?_)|(go_at_call 144;refine (Vb T c _ (H.out.up Hx.out)).mono ?_;rintro e w2 ⟨rfl,hx2⟩;rw [Hst.out];have Hx2:=Yw hx2;clear hx2))
    go_ret3
    exact ⟨_,[],_,16,rfl,Xz.nil _ _,Nat.zero_le _,fun h=>absurd h (by decide),X0.out.trans (Hx.out.trans Hx2.out)⟩
   have f0:(st == 0)=false:=by simp [e0]
   by_cases e3:st=3
   ·subst e3
    go_wp2_with (first|(refine Y4 (Hb0.out.ext Hx.out) rfl ?_)|(go_at_call 144;refine (Vb T c _ (H.out.up Hx.out)).mono ?_;rintro e w2 ⟨rfl,hx2⟩;rw [Hst.out];have Hx2:=Yw hx2;clear hx2)|(refine Y4 (Hb0.out.ext (Hx.out.trans Hx2.out)) rfl ?_))
    refine (Ztf T c _ (H.out.up (Hx.out.trans Hx2.out))).mono ?_
    rintro e w3 ⟨u,rfl,hu3,hx3⟩
    obtain ⟨A3,C3,rfl,_,_⟩:=hu3.shape
    have Hmc:=Yw (show Zya T c=Ok T c by unfold Zya;rw [if_pos Hst.out])
    rw [Hmc.out] at hcl
    obtain ⟨k,hk⟩:∃ k,(Ok T c).length=k:=⟨_,rfl⟩
    have Hu3:=Yw (show RdE Xe w3 (fun _=>True) (.slice A3 k C3) (Ok T c) by rw [← hk];exact hu3)
    rw [hk] at hcl ⊢
    have Hk:=Yw hk
    have Hx3:=Yw (Hx2.out.trans hx3)
    clear hk hu3 hx3
    go_wp2_with (at_builtin;refine Xx Xe _ _ _ rfl rfl rfl rfl (Ho.out.ext Hx3.out) rfl Hu3.out (by rw [Hm.out,Hk.out];omega) (by show 8≤1000;omega) (Nat.le_trans hBw Hx3.out.size) ?_;intro A5 n5 c5 w5 hg5;have Hx5:=Yw (hg5.ext (w.alloc (Xf T)) (Hx.out.trans Hx3.out) (by rw [HB.out];exact Yo _));have Hg5:=Yw hg5;clear hg5)
    go_roundw
    case rel=>exact ⟨i+1,by omega,by go_num,by rw [Hnew.out,Hmc.out];exact Hg5.out.own,Hx5.out⟩
    case measure=>(simp [intOf];omega)
   have f3:(st == 3)=false:=by simp [e3]
   by_cases e1:st=1
   ·subst e1
    have Hmc:=Yw (show Zya T c=[c] by unfold Zya;rw [if_neg (by rw [Hst.out];decide),if_pos (.inl Hst.out)])
    go_wp2_with (first|(refine Y4 (Hb0.out.ext Hx.out) rfl ?_)|(go_at_call 144;refine (Vb T c _ (H.out.up Hx.out)).mono ?_;rintro e w2 ⟨rfl,hx2⟩;rw [Hst.out];have Hx2:=Yw hx2;clear hx2)|(at_builtin;refine Xx Xe _ _ _ rfl rfl rfl rfl (Ho.out.ext (Hx2.out.alloc _)) rfl (X9 w2 c _ _ rfl) (by rw [Hm.out];show m+1≤_;omega) (by show 8≤1000;omega) (by have:=Hx2.out.size;simp;omega) ?_;intro A5 n5 c5 w5 hg5;have Hx5:=Yw (hg5.ext (w.alloc (Xf T)) ((Hx.out.trans Hx2.out).alloc _) (by rw [HB.out];exact Yo _));have Hg5:=Yw hg5;clear hg5))
    go_roundw
    case rel=>exact ⟨i+1,by omega,by go_num,by rw [Hnew.out,Hmc.out];exact Hg5.out.own,Hx5.out⟩
    case measure=>(simp [intOf];omega)
   have f1:(st == 1)=false:=by simp [e1]
   by_cases e4:st=4
   ·subst e4
    have Hmc:=Yw (show Zya T c=[c] by unfold Zya;rw [if_neg (by rw [Hst.out];decide),if_pos (.inr Hst.out)])
    go_wp2_with (first|(refine Y4 (Hb0.out.ext Hx.out) rfl ?_)|(go_at_call 144;refine (Vb T c _ (H.out.up Hx.out)).mono ?_;rintro e w2 ⟨rfl,hx2⟩;rw [Hst.out];have Hx2:=Yw hx2;clear hx2)|(at_builtin;refine Xx Xe _ _ _ rfl rfl rfl rfl (Ho.out.ext (Hx2.out.alloc _)) rfl (X9 w2 c _ _ rfl) (by rw [Hm.out];show m+1≤_;omega) (by show 8≤1000;omega) (by have:=Hx2.out.size;simp;omega) ?_;intro A5 n5 c5 w5 hg5;have Hx5:=Yw (hg5.ext (w.alloc (Xf T)) ((Hx.out.trans Hx2.out).alloc _) (by rw [HB.out];exact Yo _));have Hg5:=Yw hg5;clear hg5))
    go_roundw
    case rel=>exact ⟨i+1,by omega,by go_num,by rw [Hnew.out,Hmc.out];exact Hg5.out.own,Hx5.out⟩
    case measure=>(simp [intOf];omega)
   have f4:(st == 4)=false:=by simp [e4]
   have Hmc:=Yw (show Zya T c=[] by unfold Zya;rw [if_neg (by rw [Hst.out];exact e3),if_neg (by rw [Hst.out];exact fun h=>h.elim e1 e4)])
   clear e0 e3 e1 e4
   go_wp2_with (first|(refine Y4 (Hb0.out.ext Hx.out) rfl ?_)|(go_at_call 144;refine (Vb T c _ (H.out.up Hx.out)).mono ?_;rintro e w2 ⟨rfl,hx2⟩;rw [Hst.out];have Hx2:=Yw hx2;clear hx2))
   go_roundw
   case rel=>exact ⟨i+1,by omega,by go_num,by rw [Hnew.out,Hmc.out,List.append_nil];exact (by have:=Ho.out.ext Hx2.out;rw [← Hm.out] at *;exact this),Hx.out.trans Hx2.out⟩
   case measure=>(simp [intOf];omega)
  have hd_i:decide ((i:Int) < (n:Int))=false:=Yg (by omega)
  have hpe:p=Gq T l:=by rw [← Hp.out,Zm (by rw [Hnn.out];omega)]
  have Hpe:=Yw hpe
  clear hpe
  by_cases hbig:4096 < m
  ·have d1:decide ((4096:Int) < (m:Int))=true:=Yf (by omega)
   go_wp2_with fail
   go_ret3
   exact ⟨_,[],0,7,rfl,Xz.nil _ _,Nat.zero_le _,fun h=>absurd h (by decide),X0.out.trans Hx.out⟩
  have d1:decide ((4096:Int) < (m:Int))=false:=Yg (by omega)
  go_wp2_with fail
  go_ret3
  refine ⟨_,p,0,0,rfl,?_,by rw [Hm.out];omega,fun _=>Hpe.out,X0.out.trans Hx.out⟩
  have:=Ho.out.rd
  rw [← Hm.out] at this ⊢
  exact Rd.mono this fun k hk _=>Nat.le_trans (by have:=X0.out.size;have:=HB.out;omega) hk
 have d2:(!(x == 0))=true:=by simp [h0]
 have d3:(x != 0)=true:=d2
 have H0:=Yw h0
 clear h0 hacc
 go_wp2_with fail
 go_ret3
 exact ⟨_,[],0,x,rfl,Xz.nil _ _,Nat.zero_le _,fun h=>absurd h H0.out,X0.out.trans Hx1.out⟩
def Zy3 (n:Nat) (w:World) (e:Ending) (w':World):Prop:=∃ z:Int,e=.returned (.int .i64 z)∧-1≤z∧z < n∧Ext w w'
theorem Ci {S S':Nat→Prop} (T:Tbl) (hf:Few T) (hu:Uq T) (v:Value) (l:List Int) (j:Nat) (w:World) (h:Xm w S T) (hl:Xz w S' v l) (hj:j < l.length):Calls Tryz.prog 264 #[Wc T,v,.int .i64 (j:Int)] w (Zy3 l.length w):=by
 obtain ⟨A,C,rfl,hlCC,hCC⟩:=hl.shape
 obtain ⟨n,hnn⟩:∃ n,(l).length=n:=⟨_,rfl⟩
 have Hnn:=Yw hnn
 have Hhl:=Yw hl
 unfold maxLen at hCC
 rw [hnn] at hlCC ⊢
 clear hl hnn
 have X0:=Yw ((Yl w).alloc (Xf T))
 have H:=Yw (h.up X0.out)
 have Hb0:=Yw (Xq w T)
 clear h
 have HL:=Yw (show Xz (w.alloc (Xf T)) S' (.slice A n C) l by have:=Hhl.out.ext X0.out;rwa [Hnn.out] at this)
 have Hf:=Yw hf
 have Hu:=Yw hu
 clear hf hu
 rw [Hnn.out] at hj
 have d0:decide ((j:Int) < 0)=false:=Yg (by omega)
 have d1:decide ((n:Int)≤(j:Int))=false:=Yg (by omega)
 have d1n:¬ n≤j:=by omega
 go_enter Tryz.func264,Tryz.ntmps264
 go_wp2_with (first|(refine Xy rfl ?_)|(refine Wx Hb0.out (by go_simp) rfl ?_))
 refine (Vr T Hf.out Hu.out _ l _ H.out HL.out).mono ?_
 rintro e w1 ⟨x,rfl,_,hx1⟩
 have Hx1:=Yw hx1
 clear hx1
 by_cases h0:x=0
 ·subst h0
  go_wp2_with fail
  go_loopw [8,7] (fun o u wr=>∃ (k:Nat) (z:Int),k≤j∧o=.int .i64 (k:Int)∧u=.int .i64 z∧-1≤z∧z < n∧Ext (w.alloc (Xf T)) wr) (fun o _ _=>j - (intOf o).toNat)
  case atStart=>exact ⟨0,-1,by omega,rfl,rfl,by omega,by omega,Hx1.out⟩
  clear Hx1
  obtain ⟨k,z,hk,rfl,rfl,hz1,hz2,hx⟩:=hrel
  have Hx:=Yw hx
  clear hx
  by_cases hlt:k < j
  ·have hd:decide ((k:Int) < (j:Int))=true:=Yf (by omega)
   have i0:(0:Int)≤(k:Int):=by omega
   have i1:(k:Int) < (n:Int):=by omega
   have hkn:k < n:=by omega
   obtain ⟨c,hs_c⟩:∃ s,(l)[k]?=some s:=⟨(l)[k]'(by have:=Hnn.out;omega),Zz _⟩
   obtain ⟨g_c,o_c,c_c,hvv,_,_,_,hgl_c,a0_c⟩:=(HL.out.ext Hx.out).get hs_c
   simp only [Ye] at hvv
   obtain ⟨rfl,-,rfl⟩:=hvv
   have Hs_c:=Yw hs_c
   clear hs_c
   have m0:=lat a0_c
   have HW:=Yw (H.out.up Hx.out)
   have hC:∀ w',(∃ p:Wj,w'=later wr p.n p.os)→Q9 w' w.heap.size T:=fun w' ⟨p,e⟩=>by rw [e];exact (Hb0.out.ext Hx.out).ext (⟨_,_,rfl⟩)
   cases hz:(Wv T.joi c == 5)
   all_goals
    have hun:=Yb
    go_wp2_with fail
    refine Y0 (by kernel_rfl) (by kernel_rfl) ?_
    repeat (first|((with_reducible refine Xi ?_ ?_ hC ?_);(focus (go_simp;done));rfl)|((with_reducible refine Yv ?_);intro K hK;go_simp;first|((with_reducible refine hK _ ?_);clear hK K)|(apply Exists.intro;refine ⟨fun _=>?_,hK _ ?_⟩;(first|(go_at_call 266;exact Y8 (Vp T _ _ (HW.out.up (⟨_,_,rfl⟩))))|(go_at_call 148;exact Y8 (Xr T _ _ (HW.out.up (⟨_,_,rfl⟩)))));clear hK K)))
    (with_reducible refine Yu ?_)
    intro w2 hy
    clear hun
    try simp only [Yc]
    have Hx2:=Yw (Hx.out.trans hy)
    clear hy HW hC m0
    go_wp2_with fail
    go_roundw
    case rel=>first|exact ⟨k+1,(k:Int),by omega,by go_num,rfl,by omega,by omega,Hx2.out⟩|exact ⟨k+1,z,by omega,by go_num,rfl,hz1,hz2,Hx2.out⟩
    case measure=>(simp [intOf];omega)
  have hd:decide ((k:Int) < (j:Int))=false:=Yg (by omega)
  go_wp2_with fail
  go_ret
  exact ⟨z,rfl,hz1,hz2,X0.out.trans Hx.out⟩
 have h0b:(!(x == 0))=true:=by simp [h0]
 have h0c:(x != 0)=true:=h0b
 have h0d:(x == 0)=false:=by simp [h0]
 have h0H:=Yw h0
 clear h0
 go_wp2_with fail
 go_ret
 exact ⟨-1,rfl,by omega,by omega,X0.out.trans Hx1.out⟩
theorem Rk {S S':Nat→Prop} (T:Tbl) (hf:Few T) (hu:Uq T) (v:Value) (l:List Int) (j:Nat) (w:World) (h:Xm w S T) (hl:Xz w S' v l) (hj:j < l.length) (hb:l.length≤100000):Calls Tryz.prog 265 #[Wc T,v,.int .i64 (j:Int)] w (Zy3 l.length w):=by
 obtain ⟨A,C,rfl,hlCC,hCC⟩:=hl.shape
 obtain ⟨n,hnn⟩:∃ n,(l).length=n:=⟨_,rfl⟩
 have Hnn:=Yw hnn
 have Hhl:=Yw hl
 unfold maxLen at hCC
 rw [hnn] at hlCC ⊢
 clear hl hnn
 have X0:=Yw ((Yl w).alloc (Xf T))
 have H:=Yw (h.up X0.out)
 have Hb0:=Yw (Xq w T)
 clear h
 have HL:=Yw (show Xz (w.alloc (Xf T)) S' (.slice A n C) l by have:=Hhl.out.ext X0.out;rwa [Hnn.out] at this)
 have Hf:=Yw hf
 have Hu:=Yw hu
 clear hf hu
 rw [Hnn.out] at hj hb
 have d0:decide ((j:Int) < 0)=false:=Yg (by omega)
 have d1:decide ((n:Int)≤(j:Int))=false:=Yg (by omega)
 have d1n:¬ n≤j:=by omega
 have r1:=Vx n (by omega) (by omega)
 go_enter Tryz.func265,Tryz.ntmps265
 go_wp2_with (first|(refine Xy rfl ?_)|(refine Wx Hb0.out (by go_simp) rfl ?_))
 refine (Vr T Hf.out Hu.out _ l _ H.out HL.out).mono ?_
 rintro e w1 ⟨x,rfl,_,hx1⟩
 have Hx1:=Yw hx1
 clear hx1
 by_cases h0:x=0
 ·subst h0
  go_wp2_with fail
  clear r1
  go_loopw [8,7] (fun o u wr=>∃ (k:Nat) (z:Int),j≤k∧k < n∧o=.int .i64 (k:Int)∧u=.int .i64 z∧-1≤z∧z < n∧Ext (w.alloc (Xf T)) wr) (fun o _ _=>(intOf o).toNat)
  case atStart=>exact ⟨n - 1,-1,by omega,by omega,rfl,rfl,by omega,by omega,Hx1.out⟩
  clear Hx1
  obtain ⟨k,z,hk,hkn,rfl,rfl,hz1,hz2,hx⟩:=hrel
  have Hx:=Yw hx
  clear hx
  by_cases hlt:j < k
  ·have hd:decide ((j:Int) < (k:Int))=true:=Yf (by omega)
   have i0:(0:Int)≤(k:Int):=by omega
   have i1:(k:Int) < (n:Int):=by omega
   have r2:=Vx k (by omega) (by omega)
   obtain ⟨c,hs_c⟩:∃ s,(l)[k]?=some s:=⟨(l)[k]'(by have:=Hnn.out;omega),Zz _⟩
   obtain ⟨g_c,o_c,c_c,hvv,_,_,_,hgl_c,a0_c⟩:=(HL.out.ext Hx.out).get hs_c
   simp only [Ye] at hvv
   obtain ⟨rfl,-,rfl⟩:=hvv
   have Hs_c:=Yw hs_c
   clear hs_c
   have m0:=lat a0_c
   have HW:=Yw (H.out.up Hx.out)
   have hC:∀ w',(∃ p:Wj,w'=later wr p.n p.os)→Q9 w' w.heap.size T:=fun w' ⟨p,e⟩=>by rw [e];exact (Hb0.out.ext Hx.out).ext (⟨_,_,rfl⟩)
   cases hz:(Wv T.joi c == 5)
   all_goals
    have hun:=Yb
    go_wp2_with fail
    refine Y0 (by kernel_rfl) (by kernel_rfl) ?_
    repeat (first|((with_reducible refine Xi ?_ ?_ hC ?_);(focus (go_simp;done));rfl)|((with_reducible refine Yv ?_);intro K hK;go_simp;first|((with_reducible refine hK _ ?_);clear hK K)|(apply Exists.intro;refine ⟨fun _=>?_,hK _ ?_⟩;(first|(go_at_call 266;exact Y8 (Vp T _ _ (HW.out.up (⟨_,_,rfl⟩))))|(go_at_call 148;exact Y8 (Xr T _ _ (HW.out.up (⟨_,_,rfl⟩)))));clear hK K)))
    (with_reducible refine Yu ?_)
    intro w2 hy
    clear hun
    try simp only [Yc]
    have Hx2:=Yw (Hx.out.trans hy)
    clear hy HW hC m0
    go_wp2_with fail
    go_roundw
    case rel=>first|exact ⟨k - 1,(k:Int),by omega,by omega,by first|rfl|go_num,rfl,by omega,by omega,Hx2.out⟩|exact ⟨k - 1,z,by omega,by omega,by first|rfl|go_num,rfl,hz1,hz2,Hx2.out⟩
    case measure=>first|(simp [intOf];done)|(simp [intOf];omega)
  have hd:decide ((j:Int) < (k:Int))=false:=Yg (by omega)
  go_wp2_with fail
  go_ret
  exact ⟨z,rfl,hz1,hz2,X0.out.trans Hx.out⟩
 have h0b:(!(x == 0))=true:=by simp [h0]
 have h0c:(x != 0)=true:=h0b
 have h0d:(x == 0)=false:=by simp [h0]
 have h0H:=Yw h0
 clear h0
 go_wp2_with fail
 go_ret
 exact ⟨-1,rfl,by omega,by omega,X0.out.trans Hx1.out⟩
end Go.Proofs.YtnbclgbicnpmnaaGreat
