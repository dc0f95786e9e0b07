/- Lemmas of this claim: P8, Pa, Sc, P9, Ta, Tb, Tc, Td, Te. Conditions: as named. -/
import Derived.Test.YtnbclgbicnpmnaaGreatA09
import Derived.Test.YtnbclgbicnpmnaaGreatA12
import Derived.Test.YtnbclgbicnpmnaaGreatA15
namespace Go.Proofs.YtnbclgbicnpmnaaGreat
open Go.RowKit Go.Sort
open List renaming getElem?_eq_getElem → Zz, mem_of_getElem? → Zy, length_append → Zs, getElem?_eq_some_iff → Zr, length_take → Zp, nil_append → Zo, getElem?_map → Zn, take_of_length_le → Zm, length_cons → Zl, mem_append → Zj, mem_singleton → Zi, length_set → Zf, getElem?_append_left → Ze, getElem?_append_right → Zd, take_add_one → Za, getElem?_set → Yx
open Lib renaming hid → Yw
open IntWalk renaming i64_in → Yq
open Nat renaming le_refl → Yo
open _root_.ByteArray renaming size_append → Ym
open Ext renaming refl → Yl
set_option maxHeartbeats 40000000
set_option maxRecDepth 100000
set_option linter.all false
theorem Zxn (w:World) (t:TypeId) (g:Nat) (hg:w.heap.size=g):Own Zp9 (w.alloc (.cells #[.slice none 0 0] 22)) w.heap.size (.slice (some ⟨g,0,none⟩) 1 1) [⟨none,0,0⟩]:=by
 subst hg
 exact ⟨rfl,.inr ⟨w.heap.size,1,_,rfl,Yo _,heap_alloc_new w _,Yo _,by unfold maxLen;omega,rfl,rfl⟩⟩
theorem Zom (w:World) (g:Nat) (hg:w.heap.size=g):RdE Zp9 (w.alloc (.cells #[.slice none 0 0] 22)) (fun _=>True) (.slice (some ⟨g,0,none⟩) 1 1) [⟨none,0,0⟩] :=
 Rd.mono (Zxn w 0 g hg).rd fun _ _ _=>trivial
theorem Zxt (w:World) (S:Nat→Prop):Je w S [⟨none,0,0⟩] [[]]:=⟨rfl,fun j s x h1 h2=>by
 cases j with
 | zero=>simp at h1 h2;subst h1 h2;exact Xz.nil _ _
 | succ j=>simp at h1⟩
theorem Zzk {w:World} {S:Nat→Prop} {vs:List Sl} {ls:List (List Int)} (h:Je w S vs ls) {s:Sl} {x:List Int} (hs:Xz w S s.v x):Je w S (vs++[s]) (ls++[x]):=by
 refine ⟨by simp [h.1],fun j a b h1 h2=>?_⟩
 rcases Nat.lt_or_ge j vs.length with hj|hj
 ·rw [Ze hj] at h1
  rw [Ze (by rw [← h.1];exact hj)] at h2
  exact h.2 j a b h1 h2
 rw [Zd hj] at h1
 rw [Zd (by rw [← h.1];exact hj),← h.1] at h2
 rcases hk:j - vs.length with _|k
 ·rw [hk] at h1 h2;simp at h1 h2;subst h1 h2;exact hs
 rw [hk] at h1;simp at h1
theorem Oh {w:World} {S:Nat→Prop} {vs:List Sl} {ls:List (List Int)} (h:Je w S vs ls) {s:Sl} {x:List Int} (hs:Xz w S s.v x) (i:Nat):Je w S (vs.set i s) (ls.set i x):=by
 refine ⟨by simp [h.1],fun j a b h1 h2=>?_⟩
 rw [Yx] at h1 h2
 by_cases hij:i=j
 ·subst hij
  rw [if_pos rfl] at h1 h2
  split at h1
  ·rw [if_pos (by rw [← h.1];assumption)] at h2
   cases h1;cases h2;exact hs
  cases h1
 rw [if_neg hij] at h1 h2
 exact h.2 j a b h1 h2
def Rz (ls:List (List Int)) (c:Int):List (List Int):=if c=46 then ls++[[]] else ls.set (ls.length - 1) ((ls.getD (ls.length - 1) [])++[c])
def K0 (l:List Int):List (List Int):=l.foldl Rz [[]]
theorem Zsc (ls:List (List Int)) (c:Int):ls.length≤(Rz ls c).length:=by
 unfold Rz
 split<;>simp
theorem Pr (l:List Int):1≤(K0 l).length:=by
 unfold K0
 suffices ∀ ls:List (List Int),1≤ls.length→1≤(l.foldl Rz ls).length from this _ (by simp)
 induction l with
 | nil=>intro ls h;exact h
 | cons c r ih=>intro ls h;exact ih _ (Nat.le_trans h (Zsc ls c))
def Zw9 (N:Nat) (w:World) (e:Ending) (w':World):Prop:=∃ (v:Value) (l:List Int),e=.returned v∧RdE Xe w' (fun k=>w.heap.size≤k) v l∧l.length≤N∧Ext w w'
theorem Zsb (v:Value) (ls:List (List Int)) (w:World) (h:Zz1 w v ls) (hn:ls.length≤4097) (hm:∀ y∈ls,y.length≤4096):Calls Tryz.prog 222 #[v] w (Zw9 20000000 w):=by
 obtain ⟨A,C,rfl,hlC,hC⟩:=h.shape
 obtain ⟨n,hnn⟩:∃ n,ls.length=n:=⟨_,rfl⟩
 rw [hnn] at hlC hn ⊢
 have Hnn:=Yw hnn
 have Hh:=Yw h
 have Hm:=Yw hm
 obtain ⟨B,hB⟩:∃ B,w.heap.size=B:=⟨_,rfl⟩
 have HB:=Yw hB
 clear h hnn hm hB
 go_enter Tryz.func222,Tryz.ntmps222
 go_wp2_with fail
 go_loopw [8,3] (fun o u wr=>∃ (i:Nat) (l:List Int),i≤n∧o=.int .i64 (i:Int)∧Own Xe wr B u l∧l.length≤i * 4097∧Ext w wr) (fun o _ _=>n - (intOf o).toNat)
 case atStart=>exact ⟨0,[],by omega,rfl,Own.nil _ _ _,by simp,Yl _⟩
 obtain ⟨i,l,hi,rfl,ho,hli,hx⟩:=hrel
 obtain ⟨A2,C2,rfl,hlC2,hC2⟩:=ho.shape
 obtain ⟨m,hm⟩:∃ m,l.length=m:=⟨_,rfl⟩
 have hoI:Own Xe wr B (.slice A2 m C2) l:=by rw [← hm];exact ho
 rw [hm] at hlC2 hli ⊢
 have Hx:=Yw hx
 have Ho:=Yw hoI
 have Hl:=Yw hm
 have hBw:B≤wr.heap.size:=by rw [← HB.out];exact hx.size
 unfold maxLen at hC2
 clear hx ho hoI hm
 by_cases hlt:i < n
 ·have hd_i:decide ((i:Int) < (n:Int))=true:=Yf (by omega)
  have i0_i:(0:Int)≤(i:Int):=by omega
  have i1_i:(i:Int) < (n:Int):=by omega
  obtain ⟨x,hx⟩:∃ x,ls[i]?=some x:=⟨ls[i]'(by rw [Hnn.out];exact hlt),Zz _⟩
  obtain ⟨g,o,c,u,hv,_,_,hg,c0,hxu⟩:=Hh.out.get hx
  simp only [Ye] at hv
  obtain ⟨rfl,-,rfl⟩:=hv
  replace c0:=(Hx.out.cell (p:=⟨g,o+i,none⟩) hg).trans c0
  have hxl:=Hm.out x (Zy hx)
  obtain ⟨A3,C3,rfl,hl3,hc3⟩:=hxu.shape
  obtain ⟨k,hk⟩:∃ k,x.length=k:=⟨_,rfl⟩
  have Hxu:=Yw (show RdE Xe w (fun _=>True) (.slice A3 k C3) x by rw [← hk];exact hxu)
  rw [hk] at c0 hl3 hxl
  have Hk:=Yw hk
  clear hx hxu hk
  have hi1:i * 4097≤4097 * 4097:=Nat.mul_le_mul_right _ (by omega)
  have hi2:(i+1) * 4097=i * 4097+4097:=by omega
  have Hi2:=Yw hi2
  clear hi2
  by_cases hi0:0 < i
  ·have d1:decide ((0:Int) < (i:Int))=true:=Yf (by omega)
   go_wp2_with (first|(at_builtin;refine Xx Xe _ _ _ rfl rfl rfl rfl (Ho.out.ext ((Yl _).alloc _)) rfl (X9 wr 46 _ _ rfl) (by rw [Hl.out];show m+1≤_;omega) (by show 8≤1000;omega) (by simp;omega) ?_;intro A4 n4 c4 w4 hg4;have Hx4:=Yw (hg4.ext w (Hx.out.alloc _) (by rw [HB.out];exact Yo _));have Hl4:=Yw (show n4=m+1 by (rw [hg4.len,Zs,Hl.out];rfl));have HB4:=Yw (show B≤w4.heap.size by rw [← HB.out];exact Hx4.out.size);have Hg4:=Yw hg4;clear hg4)|(at_builtin;refine Xx Xe _ _ _ rfl rfl rfl rfl Hg4.out.own rfl (Hxu.out.ext Hx4.out) (by rw [← Hg4.out.len,Hl4.out,Hk.out];omega) (by show 8≤1000;omega) HB4.out ?_;intro A5 n5 c5 w5 hg5;have Hx5:=Yw (hg5.ext w Hx4.out (by rw [HB.out];exact Yo _));have Hl5:=Yw (show n5=m+1+k by (rw [hg5.len,Zs,← Hg4.out.len,Hl4.out,Hk.out]));have Hg5:=Yw hg5;clear hg5))
   go_roundw
   case rel=>exact ⟨i+1,_,by omega,by go_num,Hg5.out.own,by rw [← Hg5.out.len,Hl5.out,Hi2.out];omega,Hx5.out⟩
   case measure=>(simp [intOf];omega)
  have d1:decide ((0:Int) < (i:Int))=false:=Yg (by omega)
  go_wp2_with (at_builtin;refine Xx Xe _ _ _ rfl rfl rfl rfl Ho.out rfl (Hxu.out.ext Hx.out) (by rw [Hl.out,Hk.out];omega) (by show 8≤1000;omega) hBw ?_;intro A5 n5 c5 w5 hg5;have Hx5:=Yw (hg5.ext w Hx.out (by rw [HB.out];exact Yo _));have Hl5:=Yw (show n5=m+k by (rw [hg5.len,Zs,Hl.out,Hk.out]));have Hg5:=Yw hg5;clear hg5)
  go_roundw
  case rel=>exact ⟨i+1,_,by omega,by go_num,Hg5.out.own,by rw [← Hg5.out.len,Hl5.out,Hi2.out];omega,Hx5.out⟩
  case measure=>(simp [intOf];omega)
 have hd_i:decide ((i:Int) < (n:Int))=false:=Yg (by omega)
 go_wp2_with fail
 go_ret
 refine ⟨_,l,rfl,?_,?_,Hx.out⟩
 ·have:=Ho.out.rd
  rw [HB.out];rw [← Hl.out] at this ⊢;exact this
 rw [Hl.out];have:i * 4097≤4097 * 4097:=Nat.mul_le_mul_right _ (by omega);omega
def Ba (w:World) (e:Ending) (w':World):Prop:=∃ x y:Int,e=.returned (.tuple #[.int .i64 x,.int .i64 y])∧Ext w w'
theorem strs_get {w:World} {S:Nat→Prop} {v:Value} {l:List ByteArray} (h:RdE Wr w S v l) {j:Nat} {x:ByteArray} (hj:l[j]?=some x) :
 ∃ g o c,v=.slice (some ⟨g,o,none⟩) l.length c∧l.length≤c∧c≤maxLen∧S g∧g < w.heap.size∧w.cell? ⟨g,o+j,none⟩=some (.string x):=by
 obtain ⟨g,o,c,h1,h2,h3,h4,h5,h6⟩:=Rd.at_ h (Zr.1 hj).1
 exact ⟨g,o,c,h1,h2,h3,h4,h5,h6 j _ (by show (l.map Value.string)[j]?=_;rw [Zn,hj];rfl)⟩
theorem Kw {S:Nat→Prop} (v:Value) (l:List ByteArray) (w:World) (h:RdE Wr w S v l) (hl:l.length≤5000) (hs:∀ s∈l,s.size≤63):Calls Tryz.prog 206 #[v] w (Ba w):=by
 obtain ⟨A,C,rfl,hlC,hC⟩:=h.shape
 obtain ⟨n,hnn⟩:∃ n,l.length=n:=⟨_,rfl⟩
 rw [hnn] at hlC hl ⊢
 have Hnn:=Yw hnn
 have Hh:=Yw h
 have Hs:=Yw hs
 clear h hnn hs
 go_enter Tryz.func206,Tryz.ntmps206
 by_cases h0:n=0
 ·subst h0
  go_wp2_with fail
  go_ret2
  exact ⟨_,_,rfl,Yl _⟩
 have d0:((n:Int) == 0)=false:=by simp;omega
 have d0b:(n == 0)=false:=by simp;omega
 clear h0
 go_wp2_with fail
 go_loopw [15,4] (fun o t wr=>∃ (i:Nat) (z:Int),i≤n∧o=.int .i64 (i:Int)∧t=.int .i64 z∧Ext w wr) (fun o _ _=>n - (intOf o).toNat)
 case atStart=>exact ⟨0,_,by omega,rfl,rfl,Yl _⟩
 obtain ⟨i,z,hi,rfl,rfl,hx⟩:=hrel
 have Hx:=Yw hx
 clear hx
 by_cases hlt:i < n
 ·have hd_i:decide ((i:Int) < (n:Int))=true:=Yf (by omega)
  have i0_i:(0:Int)≤(i:Int):=by omega
  have i1_i:(i:Int) < (n:Int):=by omega
  obtain ⟨x,hx⟩:∃ x,l[i]?=some x:=⟨l[i]'(by rw [Hnn.out];exact hlt),Zz _⟩
  obtain ⟨g,o,c,hv,_,_,_,hg,c0⟩:=strs_get (Hh.out.ext Hx.out) hx
  simp only [Ye] at hv
  obtain ⟨rfl,-,rfl⟩:=hv
  have hxs:=Hs.out x (Zy hx)
  have d63:decide ((63:Int) < (x.size:Int))=false:=Yg (by omega)
  have d63b:decide (63 < x.size)=false:=Yg (by omega)
  clear hx
  go_wp2_with fail
  all_goals
   first
   | (go_roundw
      case rel=>exact ⟨i+1,_,by omega,by go_num,rfl,Hx.out⟩
      case measure=>(simp [intOf];omega))
   | (go_ret2;exact ⟨_,_,rfl,Hx.out⟩)
 have hd_i:decide ((i:Int) < (n:Int))=false:=Yg (by omega)
 go_wp2_with fail
 all_goals
  go_ret2
  exact ⟨_,_,rfl,Hx.out⟩
def Zs8 (N:Nat) (w:World) (e:Ending) (w':World):Prop:=∃ (s:ByteArray) (y:Int),e=.returned (.tuple #[.string s,.int .i64 y])∧s.size≤N∧Ext w w'
theorem Zzz {S:Nat→Prop} (v:Value) (l:List ByteArray) (w:World) (h:RdE Wr w S v l) (hl:l.length≤5000) (hs:∀ s∈l,s.size≤63):Calls Tryz.prog 207 #[v] w (Zs8 400000 w):=by
 obtain ⟨A,C,rfl,hlC,hC⟩:=h.shape
 obtain ⟨n,hnn⟩:∃ n,l.length=n:=⟨_,rfl⟩
 have hI:RdE Wr w S (.slice A n C) l:=by rw [← hnn];exact h
 rw [hnn] at hlC hl ⊢
 have Hnn:=Yw hnn
 have Hh:=Yw hI
 have Hs:=Yw hs
 clear h hnn hs hI
 go_enter Tryz.func207,Tryz.ntmps207
 go_wp2_with fail
 refine (Kw _ l _ Hh.out (by rw [Hnn.out];exact hl) Hs.out).mono ?_
 rintro e w1 ⟨x,y,rfl,hx1⟩
 have Hx1:=Yw hx1
 clear hx1
 by_cases hy:y=0
 ·subst hy
  go_wp2_with fail
  go_loopw [19,6] (fun o t wr=>∃ (i:Nat) (u:ByteArray),i≤n∧o=.int .i64 (i:Int)∧t=.string u∧u.size≤i * 64∧Ext w wr) (fun o _ _=>n - (intOf o).toNat)
  case atStart=>exact ⟨0,⟨#[]⟩,by omega,rfl,rfl,by show 0≤_;omega,Hx1.out⟩
  obtain ⟨i,u,hi,rfl,rfl,hu,hx⟩:=hrel
  have Hx:=Yw hx
  clear hx Hx1
  by_cases hlt:i < n
  ·have hd_i:decide ((i:Int) < (n:Int))=true:=Yf (by omega)
   have i0_i:(0:Int)≤(i:Int):=by omega
   have i1_i:(i:Int) < (n:Int):=by omega
   obtain ⟨x,hx⟩:∃ x,l[i]?=some x:=⟨l[i]'(by rw [Hnn.out];exact hlt),Zz _⟩
   obtain ⟨g,o,c,hv,_,_,_,hg,c0⟩:=strs_get (Hh.out.ext Hx.out) hx
   simp only [Ye] at hv
   obtain ⟨rfl,-,rfl⟩:=hv
   have hxs:=Hs.out x (Zy hx)
   have hus:¬ 9223372036854775807 < u.size+x.size:=by omega
   have hus1:¬ 9223372036854775807 < u.size+1:=by omega
   have hus2:¬ 9223372036854775807 < u.size+1+x.size:=by omega
   clear hx
   go_wp2_with fail
   all_goals
    go_roundw
    case rel=>exact ⟨i+1,_,by omega,by go_num,rfl,by first|(rw [Ym,Ym];show u.size+1+x.size≤_;omega)|(rw [Ym];omega),Hx.out⟩
    case measure=>(simp [intOf];omega)
  have hd_i:decide ((i:Int) < (n:Int))=false:=Yg (by omega)
  go_wp2_with fail
  go_ret2
  exact ⟨_,_,rfl,by omega,Hx.out⟩
 have d2:(!(y == 0))=true:=by simp [hy]
 have d3:(y != 0)=true:=d2
 clear hy
 go_wp2_with fail
 go_ret2
 exact ⟨_,_,rfl,by show 0≤_;omega,Hx1.out⟩
theorem Zvt {S S':Nat→Prop} (T:Tbl) (hf:Few T) (hu:Uq T) (v:Value) (l:List Int) (w:World) (h:Xm w S T) (hl:Xz w S' v l):Calls Tryz.prog 201 #[Wc T,v] w (Ba w):=by
 obtain ⟨A,C,rfl,hlCC,hCC⟩:=hl.shape
 obtain ⟨n,hnn⟩:∃ n,(l).length=n:=⟨_,rfl⟩
 have Hnn:=Yw hnn
 have Hhl:=Yw hl
 unfold maxLen at hCC
 rw [hnn] at hlCC ⊢
 clear hl hnn
 have X0:=Yw ((Yl w).alloc (Xf T))
 have H:=Yw (h.up X0.out)
 have Hb0:=Yw (Xq w T)
 clear h
 have HL:=Yw (show Xz (w.alloc (Xf T)) S' (.slice A n C) l by have:=Hhl.out.ext X0.out;rwa [Hnn.out] at this)
 have Hf:=Yw hf
 have Hu:=Yw hu
 clear hf hu
 go_enter Tryz.func201,Tryz.ntmps201
 go_wp2_with (first|(refine Xy rfl ?_)|(refine Y4 Hb0.out rfl ?_))
 refine (Vr T Hf.out Hu.out _ l _ H.out HL.out).mono ?_
 rintro e w1 ⟨x,rfl,_,hx1⟩
 have Hx1:=Yw hx1
 clear hx1
 by_cases h0:x=0
 ·subst h0
  go_wp2_with fail
  go_loopw [21,7,8] (fun o u k wr=>∃ (i:Nat) (q r:Bool),i≤n∧o=.int .i64 (i:Int)∧u=.bool q∧k=.bool r∧Ext (w.alloc (Xf T)) wr) (fun o _ _ _=>n - (intOf o).toNat)
  case atStart=>exact ⟨0,true,true,by omega,rfl,rfl,rfl,Hx1.out⟩
  clear Hx1
  obtain ⟨i,q,r,hi,rfl,rfl,rfl,hx⟩:=hrel
  have Hx:=Yw hx
  clear hx
  by_cases hlt:i < n
  ·have hd_i:decide ((i:Int) < (n:Int))=true:=Yf (by omega)
   have i0_i:(0:Int)≤(i:Int):=by omega
   have i1_i:(i:Int) < (n:Int):=by omega
   obtain ⟨c,hs_c⟩:∃ s,(l)[i]?=some s:=⟨(l)[i]'(by have:=Hnn.out;omega),Zz _⟩
   obtain ⟨g_c,o_c,c_c,hvv,_,_,_,hgl_c,a0_c⟩:=(HL.out.ext Hx.out).get hs_c
   simp only [Ye] at hvv
   obtain ⟨rfl,-,rfl⟩:=hvv
   have Hs_c:=Yw hs_c
   clear hs_c
   cases q<;>cases r
   ·go_wp2_with fail
    go_roundw
    case rel=>exact ⟨i+1,_,_,by omega,by go_num,rfl,rfl,Hx.out⟩
    case measure=>(simp [intOf];omega)
   ·go_wp2_with (refine Wx (Hb0.out.ext Hx.out) (by go_simp) rfl ?_)
    refine (Gb T Hf.out _ _ (H.out.up Hx.out)).mono ?_
    rintro e w2 ⟨z,rfl,hx2⟩
    go_wp2_with fail
    go_roundw
    case rel=>exact ⟨i+1,_,_,by omega,by go_num,rfl,rfl,Hx.out.trans hx2⟩
    case measure=>(simp [intOf];omega)
   ·go_wp2_with fail
    go_roundw
    case rel=>exact ⟨i+1,_,_,by omega,by go_num,rfl,rfl,Hx.out⟩
    case measure=>(simp [intOf];omega)
   go_wp2_with (refine Wx (Hb0.out.ext Hx.out) (by go_simp) rfl ?_)
   refine (Gb T Hf.out _ _ (H.out.up Hx.out)).mono ?_
   rintro e w2 ⟨z,rfl,hx2⟩
   go_wp2_with fail
   go_roundw
   case rel=>exact ⟨i+1,_,_,by omega,by go_num,rfl,rfl,Hx.out.trans hx2⟩
   case measure=>(simp [intOf];omega)
  have hd_i:decide ((i:Int) < (n:Int))=false:=Yg (by omega)
  cases q
  rotate_left
  ·go_wp2_with fail
   go_ret2
   exact ⟨_,_,rfl,X0.out.trans Hx.out⟩
  go_wp2_with (refine Y4 (Hb0.out.ext Hx.out) rfl ?_)
  refine (Zyz T Hf.out Hu.out _ l _ (H.out.up Hx.out) (HL.out.ext Hx.out)).mono ?_
  rintro e w2 ⟨b,rfl,hx2⟩
  have Hx2:=Yw (Hx.out.trans hx2)
  clear hx2 Hx hlt hd_i hi
  cases b
  rotate_left
  ·go_wp2_with fail
   go_ret2
   exact ⟨_,_,rfl,X0.out.trans Hx2.out⟩
  go_wp2_with fail
  go_loopw [11] (fun o wr=>∃ k:Nat,61≤k∧k≤64∧o=.int .i64 (k:Int)∧Ext (w.alloc (Xf T)) wr) (fun o _=>64 - (intOf o).toNat)
  case atStart=>exact ⟨61,by omega,by omega,rfl,Hx2.out⟩
  clear Hx2
  obtain ⟨k,hk1,hk2,rfl,hx⟩:=hrel
  have Hx:=Yw hx
  clear hx
  by_cases hlt:k≤63
  ·have hd:decide ((k:Int)≤63)=true:=Yf (by omega)
   go_wp2_with (refine Y4 (Hb0.out.ext Hx.out) rfl ?_)
   refine (Ai T Hf.out Hu.out _ l _ _ (H.out.up Hx.out) (HL.out.ext Hx.out)).mono ?_
   rintro e w3 ⟨b,rfl,hx3⟩
   cases b
   ·go_wp2_with fail
    go_roundw
    case rel=>exact ⟨k+1,by omega,by omega,by go_num,Hx.out.trans hx3⟩
    case measure=>(simp [intOf];omega)
   go_wp2_with fail
   go_ret2
   exact ⟨_,_,rfl,X0.out.trans (Hx.out.trans hx3)⟩
  have hd:decide ((k:Int)≤63)=false:=Yg (by omega)
  go_wp2_with fail
  have Hx2:=Yw Hx.out
  clear Hx hlt hd
  go_loopw [12] (fun o wr=>∃ k:Nat,3≤k∧k≤61∧o=.int .i64 (k:Int)∧Ext (w.alloc (Xf T)) wr) (fun o _=>61 - (intOf o).toNat)
  case atStart=>exact ⟨3,by omega,by omega,rfl,Hx2.out⟩
  clear Hx2
  obtain ⟨k,hk1,hk2,rfl,hx⟩:=hrel
  have Hx:=Yw hx
  clear hx
  by_cases hlt:k≤60
  ·have hd:decide ((k:Int)≤60)=true:=Yf (by omega)
   rcases (show k=3∨k=4∨k=5∨6≤k by omega) with rfl|rfl|rfl|h6
   ·go_wp2_with fail
    go_roundw
    case rel=>exact ⟨4,by omega,by omega,rfl,Hx.out⟩
    case measure=>(simp [intOf])
   ·go_wp2_with fail
    go_roundw
    case rel=>exact ⟨5,by omega,by omega,rfl,Hx.out⟩
    case measure=>(simp [intOf])
   ·go_wp2_with fail
    go_roundw
    case rel=>exact ⟨6,by omega,by omega,rfl,Hx.out⟩
    case measure=>(simp [intOf])
   have c1:¬ (k:Int)=4:=by omega
   have c2:¬ (k:Int)=5:=by omega
   have c3:¬ (k:Int)=3:=by omega
   have c4:((k:Int) != 4)=true:=by simp;omega
   have c5:((k:Int) != 5)=true:=by simp;omega
   have c6:((k:Int) != 3)=true:=by simp;omega
   go_wp2_with (refine Wx (Hb0.out.ext Hx.out) (by go_simp) rfl ?_)
   refine (Ai T Hf.out Hu.out _ l _ _ (H.out.up Hx.out) (HL.out.ext Hx.out)).mono ?_
   rintro e w3 ⟨b,rfl,hx3⟩
   cases b
   ·go_wp2_with fail
    go_roundw
    case rel=>exact ⟨k+1,by omega,by omega,by go_num,Hx.out.trans hx3⟩
    case measure=>(simp [intOf];omega)
   go_wp2_with fail
   go_ret2
   exact ⟨_,_,rfl,X0.out.trans (Hx.out.trans hx3)⟩
  have hd:decide ((k:Int)≤60)=false:=Yg (by omega)
  cases r
  all_goals
   go_wp2_with fail
   go_ret2
   exact ⟨_,_,rfl,X0.out.trans Hx.out⟩
 have h0b:(!(x == 0))=true:=by simp [h0]
 have h0c:(x != 0)=true:=h0b
 have h0d:(x == 0)=false:=by simp [h0]
 have h0H:=Yw h0
 clear h0
 go_wp2_with fail
 go_ret2
 exact ⟨_,_,rfl,X0.out.trans Hx1.out⟩
def Zza (l:List Int) (w:World) (e:Ending) (w':World):Prop:=∃ v vs,e=.returned v∧Ln w' w.heap.size v vs (K0 l)∧Ext w w'
theorem Zzh (l:List Int) (c:Int):K0 (l++[c])=Rz (K0 l) c:=by unfold K0;rw [List.foldl_append];rfl
theorem Px (l:List Int):(K0 l).length≤l.length+1:=by
 unfold K0
 suffices ∀ ls:List (List Int),(l.foldl Rz ls).length≤ls.length+l.length from by have:=this [[]];simp at this ⊢;omega
 induction l with
 | nil=>intro ls;simp
 | cons c r ih =>
  intro ls
  have h1:(Rz ls c).length≤ls.length+1:=by unfold Rz;split<;>simp
  have:=ih (Rz ls c)
  simp only [List.foldl_cons,Zl] at this ⊢
  omega
theorem Zsv {N:Nat} {ls:List (List Int)} (h:∀ y∈ls,y.length≤N) (c:Int):∀ y∈Rz ls c,y.length≤N+1:=by
 intro y hy
 unfold Rz at hy
 split at hy
 ·rcases Zj.1 hy with h1|h1
  ·have:=h y h1;omega
  rw [Zi.1 h1];simp
 rcases List.mem_or_eq_of_mem_set hy with h1|h1
 ·have:=h y h1;omega
 rw [h1,Zs,List.getD_eq_getElem?_getD]
 cases hq:ls[ls.length - 1]? with
 | none=>simp
 | some z=>have:=h z (Zy hq);simp;omega
theorem Of (l:List Int):∀ y∈K0 l,y.length≤l.length:=by
 suffices ∀ (N:Nat) (ls:List (List Int)),(∀ y∈ls,y.length≤N)→∀ y∈l.foldl Rz ls,y.length≤N+l.length from by
  intro y hy
  have:=this 0 [[]] (by simp) y hy
  omega
 induction l with
 | nil=>intro N ls h y hy;exact h y hy
 | cons c r ih =>
  intro N ls h y hy
  have:=ih (N+1) (Rz ls c) (Zsv h c) y hy
  simp;omega
theorem Zyy {S:Nat→Prop} (v:Value) (l:List Int) (w:World) (h:Xz w S v l) (hll:l.length≤4096):Calls Tryz.prog 211 #[v] w (Zza l w):=by
 obtain ⟨A,C,rfl,hlCC,hCC⟩:=h.shape
 obtain ⟨n,hnn⟩:∃ n,(l).length=n:=⟨_,rfl⟩
 have Hnn:=Yw hnn
 have Hh:=Yw h
 unfold maxLen at hCC
 rw [hnn] at hlCC ⊢
 clear h hnn
 rw [Hnn.out] at hll
 obtain ⟨B,hB⟩:∃ B,w.heap.size=B:=⟨_,rfl⟩
 have HB:=Yw hB
 have Ho0:=Yw (show Ln (w.alloc (.cells #[.slice none 0 0] 22)) B (.slice (some ⟨w.heap.size,0,none⟩) 1 1) [⟨none,0,0⟩] [[]] from ⟨by rw [← hB];exact Zxn w 0 _ rfl,Zxt _ _⟩)
 clear hB
 go_enter Tryz.func211,Tryz.ntmps211
 go_wp2_with fail
 go_loopw [10,3] (fun o u wr=>∃ (i:Nat) (vs:List Sl),i≤n∧o=.int .i64 (i:Int)∧Ln wr B u vs (K0 (l.take i))∧Ext w wr) (fun o _ _=>n - (intOf o).toNat)
 case atStart=>exact ⟨0,_,by omega,rfl,Ho0.out,(Yl w).alloc _⟩
 clear Ho0
 obtain ⟨i,vs,hi,rfl,ho,hx⟩:=hrel
 obtain ⟨ls,hls⟩:∃ ls,K0 (l.take i)=ls:=⟨_,rfl⟩
 rw [hls] at ho
 have hl1:1≤ls.length:=by rw [← hls];exact Pr _
 have hmem:∀ y∈ls,y.length≤4096:=by rw [← hls];intro y hy;exact Nat.le_trans (Of _ y hy) (by rw [Zp];omega)
 have Hmem:=Yw hmem
 clear hmem
 have hl2:ls.length≤4097:=by rw [← hls];exact Nat.le_trans (Px _) (by rw [Zp];omega)
 obtain ⟨m,hm⟩:∃ m,ls.length=m:=⟨_,rfl⟩
 have hvm:vs.length=m:=by rw [ho.2.1,hm]
 rw [hm] at hl1 hl2
 obtain ⟨g,C2,rfl,hg1,hg2,hg3,hg4⟩:=ho.1.some_ (by omega)
 rw [hvm] at hg3 ho ⊢
 have Hx:=Yw hx
 have Ho:=Yw ho
 have Hls:=Yw hls
 have Hm:=Yw hm
 have Hvm:=Yw hvm
 have hBw:B≤wr.heap.size:=by rw [← HB.out];exact hx.size
 unfold maxLen at hg4
 clear hx ho hls hm hvm
 by_cases hlt:i < n
 ·have hd_i:decide ((i:Int) < (n:Int))=true:=Yf (by omega)
  have i0_i:(0:Int)≤(i:Int):=by omega
  have i1_i:(i:Int) < (n:Int):=by omega
  obtain ⟨x,hs_x⟩:∃ s,(l)[i]?=some s:=⟨(l)[i]'(by have:=Hnn.out;omega),Zz _⟩
  obtain ⟨g_x,o_x,c_x,hvv,_,_,_,hgl_x,a0_x⟩:=(Hh.out.ext Hx.out).get hs_x
  simp only [Ye] at hvv
  obtain ⟨rfl,-,rfl⟩:=hvv
  have Hs_x:=Yw hs_x
  clear hs_x
  have Hnew:=Yw (show K0 (l.take (i+1))=Rz ls x by rw [Za,Hs_x.out];show K0 (l.take i++[x])=_;rw [Zzh,Hls.out])
  by_cases h46:x=46
  ·subst h46
   go_wp2_with (at_builtin;refine Xx Zp9 _ _ _ rfl rfl rfl rfl (Ho.out.1.ext ((Yl _).alloc _)) rfl (Zom wr _ rfl) (by rw [Hvm.out];simp;omega) (by show 24≤1000;omega) (by simp;omega) ?_;intro A3 n3 c3 w3 hg)
   have Hg:=Yw hg
   clear hg
   go_wp2_with fail
   go_roundw
   case rel =>
    refine ⟨i+1,vs++[⟨none,0,0⟩],by omega,by go_num,?_,Hg.out.ext w (Hx.out.alloc _) (by rw [HB.out];exact Yo _)⟩
    rw [Hnew.out,show Rz ls 46=ls++[[]] from if_pos rfl]
    refine ⟨Hg.out.own,Zzk ?_ (Xz.nil _ _)⟩
    have h1:Je (wr.alloc (.cells #[.slice none 0 0] 22)) (fun k=>(Value.slice (some ⟨g,0,none⟩) m C2).ownBlock≠some k∧k < wr.heap.size) vs ls:=(Ho.out.2.mono fun k hk hl=>⟨hk,hl⟩).ext ((Yl _).alloc _)
    refine (h1.chg Hg.out.chg fun k hk=>hk.1).mono fun k hk _=>?_
    rcases Hg.out.at_ with h|h
    ·rw [h];exact hk.1
    rw [h];simp;have:=hk.2;omega
   case measure=>(simp [intOf];omega)
  have h46b:(x == 46)=false:=by simp [h46]
  have Hne:=Yw h46
  clear h46
  have p1:=Vx m (by omega) (by omega)
  have p3:(0:Int)≤((m - 1:Nat):Int):=by omega
  have p4:((m - 1:Nat):Int) < (m:Int):=by omega
  have p6:m - 1 < m:=by omega
  obtain ⟨q,hq⟩:∃ q,m - 1=q:=⟨_,rfl⟩
  rw [hq] at p1 p3 p4 p6
  have Hq:=Yw hq
  clear hq
  obtain ⟨s,hs⟩:∃ s,vs[q]?=some s:=⟨vs[q]'(by rw [Hvm.out];exact p6),Zz _⟩
  obtain ⟨y,hy⟩:∃ y,ls[q]?=some y:=⟨ls[q]'(by rw [Hm.out];exact p6),Zz _⟩
  have hsy:=Ho.out.2.2 q s y hs hy
  have c0:=Ho.out.1.at_ (Ep hs)
  obtain ⟨sa,sn,sc⟩:=s
  have hsn:sn=y.length:=by
   obtain ⟨_,_,e,_⟩:=hsy.shape
   simp only [Sl.v,Ye] at e
   exact e.2.1
  subst hsn
  simp only [Sl.v] at c0 hsy
  have Hsy:=Yw hsy
  have Hys:=Yw hy
  have Hss:=Yw hs
  clear hs hy hsy
  have hyl:y.length≤4096:=Hmem.out y (Zy Hys.out)
  obtain ⟨yn,hyn⟩:∃ k,y.length=k:=⟨_,rfl⟩
  have Hyn:=Yw hyn
  rw [hyn] at c0 hyl
  clear hyn
  go_wp2_with (first|(at_builtin;refine Xx Xe _ _ _ rfl rfl rfl rfl (Own.nil Xe _ B) rfl (show RdE Xe wr _ (.slice sa yn sc) y from (by have:=Hsy.out;rwa [Hyn.out] at this)) (by rw [Hyn.out];simp;omega) (by show 8≤1000;omega) hBw ?_;intro A4 n4 c4 w4 hg4;have Ha4:=Yw (show ∀ k,k < wr.heap.size→¬ (Value.slice A4 n4 c4).ownBlock=some k by intro k hk he;rcases hg4.at_ with h|h<;>rw [he] at h;cases h;(simp at h;omega));have Ho4:=Yw (Own.chg Ho.out.1 hg4.chg (fun k _ h=>by cases h));have Hl4:=Yw (Je.chg (Ho.out.2.mono fun k hk hl=>(⟨hk,hl⟩:_∧k < wr.heap.size)) hg4.chg (fun k _ h=>by cases h));have Hx4:=Yw (hg4.ext w Hx.out (by rw [HB.out];exact Yo _));have Hg4:=Yw hg4;have hs4:=hg4.chg.size;clear hg4)|(at_builtin;refine Xx Xe _ _ _ rfl rfl rfl rfl (Hg4.out.own.ext ((Yl _).alloc _)) rfl (X9 w4 x _ _ rfl) (by rw [Zs,Hyn.out];simp;omega) (by show 8≤1000;omega) (by simp;omega) ?_;intro A5 n5 c5 w5 hg5;have ho5:=Own.chg (Ho4.out.ext ((Yl _).alloc _)) hg5.chg (fun k hk=>Ha4.out k (by simp [Value.ownBlock] at hk;omega));have Hl5:=Yw (Je.chg (Hl4.out.ext ((Yl _).alloc _)) hg5.chg (fun k hk=>Ha4.out k hk.2));have hc5:=ho5.at_ (Ep Hss.out);simp only [Sl.v] at hc5;rw [Hyn.out] at hc5;have htw5:=ho5.thaw q;have hgb5:=ho5.blk.2;have Ho5:=Yw ho5;have Hx5:=Yw (hg5.ext w (Hx4.out.alloc _) (by rw [HB.out];exact Yo _));have Hg5:=Yw hg5;clear hg5 ho5))
  go_roundw
  case rel =>
   refine ⟨i+1,vs.set q ⟨A5,n5,c5⟩,by omega,by go_num,?_,Ya Hx5.out (by show w.heap.size≤g;rw [HB.out];exact hg1) _⟩
   have hy2:(ls.getD (ls.length - 1) [])=y:=by rw [Hm.out,Hq.out,List.getD_eq_getElem?_getD,Hys.out];rfl
   rw [Hnew.out,show Rz ls x=ls.set (ls.length - 1) ((ls.getD (ls.length - 1) [])++[x]) from if_neg Hne.out,hy2,Hm.out,Hq.out]
   refine ⟨Ho5.out.put rfl (by rw [Hvm.out];exact p6) ⟨A5,n5,c5⟩ rfl,Oh ?_ ?_ q⟩
   ·exact (Hl5.out.chg ((Chg.refl (· = g) w5).setCell (p:=⟨g,q,none⟩) (.inl rfl) _) fun k hk e=>hk.1 (by rw [e];rfl)).mono fun k hk _=>hk.1
   have h1:Xz w5 (fun k=>(Value.slice (some ⟨g,0,none⟩) m C2).ownBlock≠some k) (.slice A5 n5 c5) (y++[x]):=by
    have h2:=Hg5.out.own
    rw [Zo] at h2
    have e5:n5=(y++[x]).length:=by have:=Hg5.out.len;rwa [Zo] at this
    rw [e5] at h2 ⊢
    refine Rd.of_own h2 fun k hk=>?_
    rw [← e5] at hk
    intro e
    have hkg:g=k:=by simpa [Value.ownBlock] using e
    subst hkg
    rcases Hg5.out.at_ with h|h
    ·exact Ha4.out g hg2 (h.symm.trans hk)
    have h':(Value.slice A5 n5 c5).ownBlock=some g:=hk
    rw [h'] at h;simp at h;omega
   exact h1.chg ((Chg.refl (· = g) w5).setCell (p:=⟨g,q,none⟩) (.inl rfl) _) fun k hk e=>hk (by rw [e];rfl)
  case measure=>(simp [intOf];omega)
 have hd_i:decide ((i:Int) < (n:Int))=false:=Yg (by omega)
 obtain rfl:i=n:=by omega
 go_wp2_with fail
 go_ret
 refine ⟨_,vs,rfl,?_,Hx.out⟩
 rw [HB.out]
 have:=Ho.out
 rw [← Hls.out,Zm (by rw [Hnn.out];omega)] at this
 exact this
theorem Ff (b:Nat) (w:World):Calls Tryz.prog 167 #[.int .u8 (b:Int)] w (Vi w):=by
 go_enter Tryz.func167,Tryz.ntmps167
 go_wp2_with fail
 all_goals
  go_ret
  exact ⟨_,rfl,Yl _⟩
def Zxr (N:Nat) (w:World) (e:Ending) (w':World):Prop:=∃ s:ByteArray,e=.returned (.string s)∧s.size≤N∧Ext w w'
theorem Vu (o:Int) (w:World):Calls Tryz.prog 129 #[.int .i64 o] w (Vi w):=by
 go_enter Tryz.func129,Tryz.ntmps129
 go_wp2_with fail
 all_goals
  go_ret
  exact ⟨_,rfl,Yl _⟩
def P6 (b:Nat):Int:=if 48≤b∧b≤57 then (b:Int) - 48 else if 65≤b∧b≤70 then (b:Int) - 55 else -1
theorem Zuf (b:Nat) : -1≤P6 b∧P6 b≤15:=by unfold P6;split<;>(try split)<;>omega
theorem Mc (b:Nat) (hb:b≤255) (w:World):Calls Tryz.prog 198 #[.int .u8 (b:Int)] w fun e w'=>e=.returned (.int .i64 (P6 b))∧w=w':=by
 by_cases h1:48≤b
 ·have d1:decide ((48:Int)≤(b:Int))=true:=Yf (by omega)
  by_cases h2:b≤57
  ·have d2:decide ((b:Int)≤57)=true:=Yf (by omega)
   have e:P6 b=(b:Int) - 48:=by unfold P6;rw [if_pos ⟨h1,h2⟩]
   rw [e]
   have r1:IntKind.u8.wrap ((b:Int) - 48)=(b:Int) - 48:=IntWalk.u8_in _ (by omega)
   have r2:IntKind.i64.wrap ((b:Int) - 48)=(b:Int) - 48:=Yq _ (by omega)
   go_enter Tryz.func198,Tryz.ntmps198
   go_wp2_with fail
   go_ret
   exact ⟨rfl,rfl⟩
  have d2:decide ((b:Int)≤57)=false:=Yg (by omega)
  by_cases h3:65≤b
  ·have d3:decide ((65:Int)≤(b:Int))=true:=Yf (by omega)
   by_cases h4:b≤70
   ·have d4:decide ((b:Int)≤70)=true:=Yf (by omega)
    have e:P6 b=(b:Int) - 55:=by unfold P6;rw [if_neg (by omega),if_pos ⟨h3,h4⟩]
    rw [e]
    obtain ⟨c,hc⟩:∃ c:Int,(b:Int) - 65=c:=⟨_,rfl⟩
    have r1:IntKind.u8.wrap ((b:Int) - 65)=c:=by rw [IntWalk.u8_in _ (by omega)];exact hc
    have r2:IntKind.i64.wrap c=c:=Yq _ (by omega)
    have r3:IntKind.i64.wrap (c+10)=(b:Int) - 55:=by rw [Yq _ (by omega)];omega
    clear hc
    go_enter Tryz.func198,Tryz.ntmps198
    go_wp2_with fail
    go_ret
    exact ⟨rfl,rfl⟩
   have d4:decide ((b:Int)≤70)=false:=Yg (by omega)
   have e:P6 b = -1:=by unfold P6;rw [if_neg (by omega),if_neg (by omega)]
   rw [e]
   go_enter Tryz.func198,Tryz.ntmps198
   go_wp2_with fail
   go_ret
   exact ⟨rfl,rfl⟩
  have d3:decide ((65:Int)≤(b:Int))=false:=Yg (by omega)
  have e:P6 b = -1:=by unfold P6;rw [if_neg (by omega),if_neg (by omega)]
  rw [e]
  go_enter Tryz.func198,Tryz.ntmps198
  go_wp2_with fail
  go_ret
  exact ⟨rfl,rfl⟩
 have d1:decide ((48:Int)≤(b:Int))=false:=Yg (by omega)
 have d3:decide ((65:Int)≤(b:Int))=false:=Yg (by omega)
 have e:P6 b = -1:=by unfold P6;rw [if_neg (by omega),if_neg (by omega)]
 rw [e]
 go_enter Tryz.func198,Tryz.ntmps198
 go_wp2_with fail
 go_ret
 exact ⟨rfl,rfl⟩
theorem Zwc (n:Nat) (h:n≤1073741824) (w:World):Calls Tryz.prog 130 #[.int .i64 (n:Int)] w (Zxr 1073741826 w):=by
 have d0:decide ((0:Int)≤(n:Int))=true:=Yf (by omega)
 by_cases hn:n < 10
 ·have d1:decide ((n:Int) < 10)=true:=Yf (by omega)
  obtain ⟨m,hm⟩:∃ m,n+1=m:=⟨_,rfl⟩
  have r1:IntKind.i64.wrap ((n:Int)+1)=(m:Int):=by rw [Yq _ (by omega)];omega
  have s0:(0:Int)≤(n:Int):=by omega
  have s1:(n:Int)≤(m:Int):=by omega
  have s2:(m:Int)≤10:=by omega
  go_enter Tryz.func130,Tryz.ntmps130
  go_wp2_with fail
  go_ret
  exact ⟨_,rfl,by rw [ByteArray.size_extract];omega,Yl _⟩
 have d1:decide ((n:Int) < 10)=false:=Yg (by omega)
 have d2:decide ((n:Int) < 0)=false:=Yg (by omega)
 go_enter Tryz.func130,Tryz.ntmps130
 go_wp2_with fail
 go_loopw [0,3] (fun v s wr=>∃ (m:Nat) (u:ByteArray),v=.int .i64 (m:Int)∧u.size+m≤n∧s=.string u∧Ext w wr) (fun v _ _=>(intOf v).toNat)
 case atStart=>exact ⟨n,⟨#[]⟩,rfl,by show 0+n≤n;omega,rfl,Yl _⟩
 obtain ⟨m,u,rfl,hu,rfl,hx⟩:=hrel
 have Hx:=Yw hx
 clear hx
 by_cases h0:m=0
 ·subst h0
  have hus:¬ 9223372036854775807 < 0+u.size:=by omega
  have hus2:¬ 9223372036854775807 < u.size:=by omega
  go_wp2_with fail
  go_ret
  exact ⟨_,rfl,by rw [Ym];show 0+u.size≤_;omega,Hx.out⟩
 have e1:(!((m:Int) == 0))=true:=by simp [h0]
 have e2:((m:Int) != 0)=true:=e1
 have e3:((m:Int) == 0)=false:=by simp [h0]
 have e4:(m == 0)=false:=by simp [h0]
 have e5:¬ (m:Int)=0:=by omega
 have q1:(m:Int).tmod 10=((m % 10:Nat):Int):=rfl
 have q2:(m:Int).tdiv 10=((m / 10:Nat):Int):=rfl
 have hmod:m % 10 < 10:=Nat.mod_lt _ (by omega)
 have hdiv:m / 10 < m:=Nat.div_lt_self (by omega) (by omega)
 obtain ⟨r,hr⟩:∃ r,m % 10=r:=⟨_,rfl⟩
 obtain ⟨q,hq⟩:∃ q,m / 10=q:=⟨_,rfl⟩
 rw [hr] at q1 hmod
 rw [hq] at q2 hdiv
 clear hr hq
 obtain ⟨p,hp⟩:∃ p,r+1=p:=⟨_,rfl⟩
 have r0:decide ((r:Int) < 0)=false:=Yg (by omega)
 have r1:IntKind.i64.wrap ((r:Int)+1)=(p:Int):=by rw [Yq _ (by omega)];omega
 have r2:IntKind.i64.wrap (q:Int)=(q:Int):=Yq _ (by omega)
 have s0:(0:Int)≤(r:Int):=by omega
 have s1:(r:Int)≤(p:Int):=by omega
 have s2:(p:Int)≤10:=by omega
 obtain ⟨X,hX⟩:∃ X,(⟨#[48,49,50,51,52,53,54,55,56,57]⟩:ByteArray).extract r p=X:=⟨_,rfl⟩
 have hXs:X.size=1:=by rw [← hX,ByteArray.size_extract];show min p 10 - r=1;omega
 have hus:¬ 9223372036854775807 < X.size+u.size:=by omega
 have HXs:=Yw hXs
 clear hXs
 go_wp2_with fail
 go_roundw
 case rel=>exact ⟨q,_,rfl,by have:=HXs.out;rw [Ym];omega,rfl,Hx.out⟩
 case measure=>(simp [intOf];omega)
def Zpp (w:World) (e:Ending) (w':World):Prop:=∃ (z:Int) (b:Bool),e=.returned (.tuple #[.int .i64 z,.bool b])∧Ext w w'
theorem Ru (s:ByteArray) (m:Int) (hs:s.size≤100000) (w:World):Calls Tryz.prog 189 #[.string s,.int .i64 m] w (Zpp w):=by
 obtain ⟨n,hn⟩:∃ n,s.size=n:=⟨_,rfl⟩
 have Hn:=Yw hn
 rw [hn] at hs
 by_cases h0:n < 1
 ·have d0:decide ((n:Int) < 1)=true:=Yf (by omega)
  go_enter Tryz.func189,Tryz.ntmps189
  go_wp2_with fail
  all_goals
   go_ret2
   exact ⟨_,_,rfl,Yl _⟩
 have d0:decide ((n:Int) < 1)=false:=Yg (by omega)
 have hlt0:0 < s.size:=by rw [hn];omega
 obtain ⟨b0,hb0⟩:∃ b:Nat,(s[0]'hlt0).toNat=b:=⟨_,rfl⟩
 go_enter Tryz.func189,Tryz.ntmps189
 go_wp2_with fail
 all_goals first
 | (go_ret2
    exact ⟨_,_,rfl,Yl _⟩)
 | skip
 all_goals
  go_loopw [7,6] (fun o t wr=>∃ (i:Nat) (z:Int),i≤n∧o=.int .i64 (i:Int)∧t=.int .i64 z∧Ext w wr) (fun o _ _=>n - (intOf o).toNat)
  case atStart=>exact ⟨0,0,by omega,rfl,rfl,Yl _⟩
  obtain ⟨i,z,hi,rfl,rfl,hx⟩:=hrel
  by_cases hlt:i < n
  ·have hd_i:decide ((i:Int) < (n:Int))=true:=Yf (by omega)
   have i0_i:(0:Int)≤(i:Int):=by omega
   have i1_i:(i:Int) < (n:Int):=by omega
   have hlt':i < s.size:=by rw [Hn.out];exact hlt
   obtain ⟨b,hb⟩:∃ b:Nat,(s[i]'hlt').toNat=b:=⟨_,rfl⟩
   go_wp2_with fail
   all_goals first
   | (go_roundw
      case rel=>exact ⟨i+1,_,by omega,by go_num,rfl,hx⟩
      case measure=>(simp [intOf];omega))
   | (go_ret2
      exact ⟨_,_,rfl,hx⟩)
  have hd_i:decide ((i:Int) < (n:Int))=false:=Yg (by omega)
  go_wp2_with fail
  go_ret2
  exact ⟨_,_,rfl,hx⟩
theorem F4 (s:ByteArray) (hs:s.size≤100000) (w:World):Calls Tryz.prog 131 #[.string s] w (Zxr 300002 w):=by
 obtain ⟨n,hn⟩:∃ n,s.size=n:=⟨_,rfl⟩
 have Hn:=Yw hn
 rw [hn] at hs
 cases h0:(s.toList == [])
 rotate_left
 ·have h1:s.toList.isEmpty=true:=by simpa using h0
  have h2:s.toList=[]:=by simpa using h0
  go_enter Tryz.func131,Tryz.ntmps131
  go_wp2_with fail
  go_ret
  exact ⟨_,rfl,by show 2≤300002;omega,Yl _⟩
 have h1:s.toList.isEmpty=false:=by simpa using h0
 have h2:¬ s.toList=[]:=by simpa using h0
 go_enter Tryz.func131,Tryz.ntmps131
 go_wp2_with fail
 go_loopw [4,3] (fun o t wr=>∃ (i:Nat) (u:ByteArray),i≤n∧o=.int .i64 (i:Int)∧t=.string u∧u.size≤3 * i∧Ext w wr) (fun o _ _=>n - (intOf o).toNat)
 case atStart=>exact ⟨0,⟨#[]⟩,by omega,rfl,rfl,by show 0≤_;omega,Yl _⟩
 obtain ⟨i,u,hi,rfl,rfl,hu,hx⟩:=hrel
 by_cases hlt:i < n
 ·have hd_i:decide ((i:Int) < (n:Int))=true:=Yf (by omega)
  have i0_i:(0:Int)≤(i:Int):=by omega
  have i1_i:(i:Int) < (n:Int):=by omega
  have hlt':i < s.size:=by rw [Hn.out];exact hlt
  obtain ⟨b,hb⟩:∃ b:Nat,(s[i]'hlt').toNat=b:=⟨_,rfl⟩
  have hb2:b≤255:=by rw [← hb];have:=(s[i]'hlt').toNat_lt;omega
  go_wp2_with fail
  refine (Ff b _).mono ?_
  rintro e w1 ⟨pl,rfl,hx1⟩
  cases pl with
  | true =>
   obtain ⟨k,hk⟩:∃ k,i+1=k:=⟨_,rfl⟩
   have r1:IntKind.i64.wrap ((i:Int)+1)=(k:Int):=by rw [Yq _ (by omega)];omega
   have s1:(i:Int)≤(k:Int):=by omega
   have s2:(k:Int)≤(s.size:Int):=by rw [Hn.out];omega
   have s3:(k:Int)≤(n:Int):=by omega
   obtain ⟨X,hX⟩:∃ X,s.extract i k=X:=⟨_,rfl⟩
   have hXs:X.size≤1:=by rw [← hX,ByteArray.size_extract];omega
   have hus:¬ 9223372036854775807 < u.size+X.size:=by omega
   go_wp2_with fail
   go_roundw
   case rel=>exact ⟨i+1,_,by omega,by rw [hk],rfl,by rw [Ym];omega,hx.trans hx1⟩
   case measure=>(simp [intOf];omega)
  | false =>
   have q1:(b:Int).tdiv 16=((b / 16:Nat):Int):=rfl
   have q2:(b:Int).tmod 16=((b % 16:Nat):Int):=rfl
   have hdv:b / 16 < 16:=by omega
   have hmd:b % 16 < 16:=by omega
   obtain ⟨p,hp⟩:∃ p,b / 16=p:=⟨_,rfl⟩
   obtain ⟨q,hq⟩:∃ q,b % 16=q:=⟨_,rfl⟩
   rw [hp] at q1 hdv
   rw [hq] at q2 hmd
   clear hp hq
   obtain ⟨p1,hp1⟩:∃ k,p+1=k:=⟨_,rfl⟩
   obtain ⟨z1,hz1⟩:∃ k,q+1=k:=⟨_,rfl⟩
   have r0:IntKind.u8.wrap (p:Int)=(p:Int):=IntWalk.u8_in _ (by omega)
   have r1:IntKind.u8.wrap ((p:Int)+1)=(p1:Int):=by rw [IntWalk.u8_in _ (by omega)];omega
   have r2:IntKind.u8.wrap ((q:Int)+1)=(z1:Int):=by rw [IntWalk.u8_in _ (by omega)];omega
   have s0:(0:Int)≤(p:Int):=by omega
   have s1:(p:Int)≤(p1:Int):=by omega
   have s2:(p1:Int)≤16:=by omega
   have s3:(0:Int)≤(q:Int):=by omega
   have s4:(q:Int)≤(z1:Int):=by omega
   have s5:(z1:Int)≤16:=by omega
   obtain ⟨X,hX⟩:∃ X,(⟨#[48,49,50,51,52,53,54,55,56,57,65,66,67,68,69,70]⟩:ByteArray).extract p p1=X:=⟨_,rfl⟩
   obtain ⟨Y,hY⟩:∃ X,(⟨#[48,49,50,51,52,53,54,55,56,57,65,66,67,68,69,70]⟩:ByteArray).extract q z1=X:=⟨_,rfl⟩
   have hXs:X.size=1:=by rw [← hX,ByteArray.size_extract];show min p1 16 - p=1;omega
   have hYs:Y.size=1:=by rw [← hY,ByteArray.size_extract];show min z1 16 - q=1;omega
   obtain ⟨Z,hZ⟩:∃ Z,(⟨#[37]⟩:ByteArray)++X=Z:=⟨_,rfl⟩
   have hZs:Z.size=2:=by rw [← hZ,Ym,hXs];rfl
   obtain ⟨V,hV⟩:∃ Z',Z++Y=Z':=⟨_,rfl⟩
   have hVs:V.size=3:=by rw [← hV,Ym,hZs,hYs]
   have t0:¬ 9223372036854775807 < 1+X.size:=by omega
   have t1:¬ 9223372036854775807 < Z.size+Y.size:=by omega
   have t2:¬ 9223372036854775807 < u.size+V.size:=by omega
   have HXs:=Yw hXs
   have HYs:=Yw hYs
   have HZs:=Yw hZs
   have HVs:=Yw hVs
   clear hXs hYs hZs hVs hp1 hz1
   go_wp2_with fail
   go_quiet (fail)
   go_wp2_with fail
   go_roundw
   case rel=>exact ⟨i+1,_,by omega,by go_num,rfl,by have:=HVs.out;rw [Ym];omega,by first|exact hx.trans hx1|exact (hx.trans hx1).drew|exact (hx.trans hx1).drewN _⟩
   case measure=>(simp [intOf];omega)
 have hd_i:decide ((i:Int) < (n:Int))=false:=Yg (by omega)
 go_wp2_with fail
 go_ret
 exact ⟨_,rfl,by omega,hx⟩
def Zqk (n:Nat) (w:World) (e:Ending) (w':World):Prop:=∃ (t:ByteArray) (b:Bool),e=.returned (.tuple #[.string t,.bool b])∧t.size≤n∧Ext w w'
theorem Jb (s:ByteArray) (hs:s.size≤100000) (w:World):Calls Tryz.prog 190 #[.string s] w (Zqk s.size w):=by
 obtain ⟨n,hn⟩:∃ n,s.size=n:=⟨_,rfl⟩
 have Hn:=Yw hn
 rw [hn] at hs ⊢
 cases h0:(s.toList == [34,34])
 rotate_left
 ·have h2:s.toList=[34,34]:=by simpa using h0
  go_enter Tryz.func190,Tryz.ntmps190
  go_wp2_with fail
  go_ret2
  exact ⟨_,_,rfl,by show 0≤n;omega,Yl _⟩
 have h2:¬ s.toList=[34,34]:=by simpa using h0
 go_enter Tryz.func190,Tryz.ntmps190
 go_wp2_with fail
 go_loopw [5,4] (fun o t wr=>∃ (i:Nat) (u:ByteArray),i≤n∧o=.int .i64 (i:Int)∧t=.string u∧u.size≤i∧Ext w wr) (fun o _ _=>n - (intOf o).toNat)
 case atStart=>exact ⟨0,⟨#[]⟩,by omega,rfl,rfl,by show 0≤0;omega,Yl _⟩
 obtain ⟨i,u,hi,rfl,rfl,hu,hx⟩:=hrel
 by_cases hlt:i < n
 ·have hd_i:decide ((i:Int) < (n:Int))=true:=Yf (by omega)
  have i0_i:(0:Int)≤(i:Int):=by omega
  have i1_i:(i:Int) < (n:Int):=by omega
  have hlt':i < s.size:=by rw [Hn.out];exact hlt
  obtain ⟨b,hb⟩:∃ b:Nat,(s[i]'hlt').toNat=b:=⟨_,rfl⟩
  have hb2:b≤255:=by rw [← hb];have:=(s[i]'hlt').toNat_lt;omega
  go_wp2_with fail
  refine (Ff b _).mono ?_
  rintro e w1 ⟨pl,rfl,hx1⟩
  have Hx:=Yw (hx.trans hx1)
  clear hx hx1
  cases pl with
  | true =>
   obtain ⟨k,hk⟩:∃ k,i+1=k:=⟨_,rfl⟩
   have r1:IntKind.i64.wrap ((i:Int)+1)=(k:Int):=by rw [Yq _ (by omega)];omega
   have s1:(i:Int)≤(k:Int):=by omega
   have s2:(k:Int)≤(s.size:Int):=by rw [Hn.out];omega
   have s3:(k:Int)≤(n:Int):=by omega
   obtain ⟨X,hX⟩:∃ X,s.extract i k=X:=⟨_,rfl⟩
   have hXs:X.size≤1:=by rw [← hX,ByteArray.size_extract];omega
   have hus:¬ 9223372036854775807 < u.size+X.size:=by omega
   go_wp2_with fail
   go_roundw
   case rel=>exact ⟨i+1,_,by omega,by rw [hk],rfl,by rw [Ym];omega,Hx.out⟩
   case measure=>(simp [intOf];omega)
  | false =>
   obtain ⟨k,hk⟩:∃ k,i+1=k:=⟨_,rfl⟩
   obtain ⟨k2,hk2⟩:∃ k,i+2=k:=⟨_,rfl⟩
   have r1:IntKind.i64.wrap ((i:Int)+1)=(k:Int):=by rw [Yq _ (by omega)];omega
   have r2:IntKind.i64.wrap ((i:Int)+2)=(k2:Int):=by rw [Yq _ (by omega)];omega
   by_cases h37:b=37
   ·have e1:(!((b:Int) == 37))=false:=by simp;omega
    have e2:((b:Int) != 37)=false:=e1
    have e3:((b:Int) == 37)=true:=by simp;omega
    clear h37
    by_cases h2:k2 < n
    ·have d2:decide ((n:Int)≤(k2:Int))=false:=Yg (by omega)
     have d2n:¬ n≤k2:=by omega
     have i2:(0:Int)≤(k:Int):=by omega
     have i3:(k:Int) < (n:Int):=by omega
     have i4:(0:Int)≤(k2:Int):=by omega
     have i5:(k2:Int) < (n:Int):=by omega
     have hk':k < s.size:=by rw [Hn.out];omega
     have hk2':k2 < s.size:=by rw [Hn.out];omega
     obtain ⟨b1,hb1⟩:∃ b:Nat,(s[k]'hk').toNat=b:=⟨_,rfl⟩
     have hb1b:b1≤255:=by rw [← hb1];have:=(s[k]'hk').toNat_lt;omega
     obtain ⟨c1,hc1⟩:∃ b:Nat,(s[k2]'hk2').toNat=b:=⟨_,rfl⟩
     have hc1b:c1≤255:=by rw [← hc1];have:=(s[k2]'hk2').toNat_lt;omega
     have B1:=Zuf b1
     have B2:=Zuf c1
     obtain ⟨x1,hx1⟩:∃ x,P6 b1=x:=⟨_,rfl⟩
     obtain ⟨x2,hx2⟩:∃ x,P6 c1=x:=⟨_,rfl⟩
     rw [hx1] at B1
     rw [hx2] at B2
     by_cases hn1:x1 < 0
     ·have f1:decide (x1 < 0)=true:=Yf hn1
      clear hn1 B1 B2
      go_wp2_with (go_at_call 198;refine (Mc _ (by assumption) _).mono ?_;rintro e w' ⟨rfl,rfl⟩)
      go_ret2
      exact ⟨_,_,rfl,by show 0≤n;omega,Hx.out⟩
     have f1:decide (x1 < 0)=false:=Yg hn1
     by_cases hn2:x2 < 0
     ·have f2:decide (x2 < 0)=true:=Yf hn2
      clear hn1 hn2 B1 B2
      go_wp2_with (go_at_call 198;refine (Mc _ (by assumption) _).mono ?_;rintro e w' ⟨rfl,rfl⟩)
      go_ret2
      exact ⟨_,_,rfl,by show 0≤n;omega,Hx.out⟩
     have f2:decide (x2 < 0)=false:=Yg hn2
     obtain ⟨y1,rfl⟩:∃ y:Nat,x1=(y:Int):=⟨x1.toNat,by omega⟩
     obtain ⟨y2,rfl⟩:∃ y:Nat,x2=(y:Int):=⟨x2.toNat,by omega⟩
     obtain ⟨m1,hm1⟩:∃ m,16 * y1=m:=⟨_,rfl⟩
     obtain ⟨z,hz⟩:∃ m,m1+y2=m:=⟨_,rfl⟩
     have t1:IntKind.i64.wrap (16 * (y1:Int))=(m1:Int):=by rw [Yq _ (by omega)];omega
     have t2:IntKind.i64.wrap ((m1:Int)+(y2:Int))=(z:Int):=by rw [Yq _ (by omega)];omega
     have t3:IntKind.u8.wrap (z:Int)=(z:Int):=IntWalk.u8_in _ (by omega)
     have hz2:z≤255:=by omega
     have hcv:=fun w=>Ge z hz2 w
     obtain ⟨bz,hbz⟩:∃ b9,bs (u8L [(z:Int)])=b9:=⟨_,rfl⟩
     have hbs:bz.size=1:=by rw [← hbz];rfl
     rw [hbz] at hcv
     have hcv2:∀ w:World,(convert 224 9 (.slice (some ⟨w.heap.size,0,none⟩) 1 1)).run Tryz.prog (w.alloc (.cells #[.int .u8 (z:Int)] 5)).drew=.ok (.string bz) (w.alloc (.cells #[.int .u8 (z:Int)] 5)).drew:=fun w=>hcv w.drew
     have hus:¬ 9223372036854775807 < u.size+bz.size:=by omega
     have Hbs:=Yw hbs
     clear hbz hn1 hn2 hm1 hz hbs B1 B2
     go_wp2_with (go_at_call 198;refine (Mc _ (by assumption) _).mono ?_;rintro e w' ⟨rfl,rfl⟩)
     go_cut [4] from 52 to 68 (fun o wx=>∃ t:ByteArray,o=.string t∧t.size≤u.size+1∧Ext w1 wx)
     case first =>
      rename_i J1 K1 hJ hM
      go_region_with (go_at_call 198;refine (Mc _ (by assumption) _).mono ?_;rintro e w' ⟨rfl,rfl⟩)
      all_goals
       go_simp
       refine hM _ _ (hJ _ _ ?_)
       (repeat apply Exists.intro)
       exact ⟨⟨u++bz,rfl,by have h8:=Hbs.out;have h9:=Ym (a:=u) (b:=bz);omega,by first|exact ((Yl _).drew).alloc _|exact ((Yl _).drewN _).alloc _⟩,rfl⟩
     obtain ⟨t,rfl,ht,hxb⟩:=hcut
     have r3:IntKind.i64.wrap ((k2:Int)+1)=((k2+1:Nat):Int):=by rw [Yq _ (by omega)];omega
     go_wp2_with fail
     go_roundw
     case rel=>exact ⟨k2+1,_,by omega,by first|rfl|go_num,rfl,by omega,Hx.out.trans hxb⟩
     case measure=>(simp [intOf];omega)
    have d2:decide ((n:Int)≤(k2:Int))=true:=Yf (by omega)
    have d2n:n≤k2:=by omega
    go_wp2_with fail
    go_ret2
    exact ⟨_,_,rfl,by show 0≤n;omega,Hx.out⟩
   have e1:(!((b:Int) == 37))=true:=by simp;omega
   have e2:((b:Int) != 37)=true:=e1
   go_wp2_with fail
   go_ret2
   exact ⟨_,_,rfl,by show 0≤n;omega,Hx.out⟩
 have hd_i:decide ((i:Int) < (n:Int))=false:=Yg (by omega)
 go_wp2_with fail
 all_goals
  go_ret2
  exact ⟨_,_,rfl,by omega,hx⟩
theorem Zru (w:World) (t:TypeId) (g:Nat) (hg:w.heap.size=g):Own Wr (w.alloc (.cells #[.string ⟨#[]⟩] 9)) w.heap.size (.slice (some ⟨g,0,none⟩) 1 1) [⟨#[]⟩]:=by
 subst hg
 exact ⟨rfl,.inr ⟨w.heap.size,1,_,rfl,Yo _,heap_alloc_new w _,Yo _,by unfold maxLen;omega,rfl,rfl⟩⟩
theorem K3 (w:World) (s:ByteArray) (t:TypeId) (g:Nat) (hg:w.heap.size=g):RdE Wr (w.alloc (.cells #[.string s] t)) (fun _=>True) (.slice (some ⟨g,0,none⟩) 1 1) [s]:=by
 subst hg
 exact Qo w #[.string s] t 1 rfl
theorem Zq5 {l:List ByteArray} {j:Nat} {x:ByteArray} (h:l[j]?=some x):(Wr.cells l)[j]?=some (.string x):=by
 show (l.map Value.string)[j]?=_
 rw [Zn,h];rfl
def Zuk (w:World) (e:Ending) (w':World):Prop:=∃ (v:Value) (l:List ByteArray),e=.returned v∧RdE Wr w' (fun k=>w.heap.size≤k) v l∧1≤l.length∧l.length≤4097∧(∀ x∈l,x.size≤4096)∧Ext w w'
theorem Zvm (s:ByteArray) (hs:s.size≤4096) (w:World):Calls Tryz.prog 188 #[.string s] w (Zuk w):=by
 obtain ⟨n,hn⟩:∃ n,s.size=n:=⟨_,rfl⟩
 have Hn:=Yw hn
 rw [hn] at hs
 obtain ⟨B,hB⟩:∃ B,w.heap.size=B:=⟨_,rfl⟩
 have HB:=Yw hB
 have Ho0:=Yw (show Own Wr (w.alloc (.cells #[.string ⟨#[]⟩] 9)) B (.slice (some ⟨w.heap.size,0,none⟩) 1 1) [⟨#[]⟩] from by rw [← hB];exact Zru w 0 _ rfl)
 clear hB
 go_enter Tryz.func188,Tryz.ntmps188
 go_wp2_with fail
 go_loopw [4,3] (fun o u wr=>∃ (i:Nat) (l:List ByteArray),i≤n∧o=.int .i64 (i:Int)∧Own Wr wr B u l∧1≤l.length∧l.length≤i+1∧(∀ x∈l,x.size≤i)∧Ext w wr) (fun o _ _=>n - (intOf o).toNat)
 case atStart=>exact ⟨0,[⟨#[]⟩],by omega,rfl,Ho0.out,by simp,by simp,by intro x hx;rw [Zi.1 hx];exact Yo 0,(Yl w).alloc _⟩
 clear Ho0
 obtain ⟨i,l,hi,rfl,ho,hl1,hl2,hmem,hx⟩:=hrel
 obtain ⟨m,hm⟩:∃ m,l.length=m:=⟨_,rfl⟩
 obtain ⟨g,C2,rfl,hg1,hg2,hg3,hg4⟩:=ho.some_ (by omega)
 rw [hm] at hl1 hl2 hg3 ho ⊢
 have Hx:=Yw hx
 have Ho:=Yw ho
 have Hm:=Yw hm
 have Hmem:=Yw hmem
 have hBw:B≤wr.heap.size:=by rw [← HB.out];exact hx.size
 unfold maxLen at hg4
 clear hx ho hm hmem
 by_cases hlt:i < n
 ·have hd_i:decide ((i:Int) < (n:Int))=true:=Yf (by omega)
  have i0_i:(0:Int)≤(i:Int):=by omega
  have i1_i:(i:Int) < (n:Int):=by omega
  have hlt':i < s.size:=by rw [Hn.out];exact hlt
  obtain ⟨b,hb⟩:∃ b:Nat,(s[i]'hlt').toNat=b:=⟨_,rfl⟩
  cases h32:((b:Int) == 32)
  rotate_left
  ·have h32n:(b == 32)=true:=by simp at h32 ⊢;omega
   have h32p:b=32:=by simp at h32n;exact h32n
   go_wp2_with (at_builtin;refine Xx Wr _ _ _ rfl rfl rfl rfl (Ho.out.ext ((Yl _).alloc _)) rfl (K3 wr _ _ _ rfl) (by rw [Hm.out];simp;omega) (by show 16≤1000;omega) (by simp;omega) ?_;intro A3 n3 c3 w3 hg)
   have Hg:=Yw hg
   clear hg
   go_wp2_with fail
   go_roundw
   case rel =>
    refine ⟨i+1,l++[⟨#[]⟩],by omega,by go_num,Hg.out.own,by simp,by rw [Zs,Hm.out];simp;omega,?_,Hg.out.ext w (Hx.out.alloc _) (by rw [HB.out];exact Yo _)⟩
    intro x hx
    rcases Zj.1 hx with h|h
    ·have:=Hmem.out x h;omega
    rw [Zi.1 h];exact Nat.zero_le _
   case measure=>(simp [intOf];omega)
  have h32n:(b == 32)=false:=by simp at h32 ⊢;omega
  have h32p:¬ b=32:=by simp at h32n;exact h32n
  have p1:=Vx m (by omega) (by omega)
  have p3:(0:Int)≤((m - 1:Nat):Int):=by omega
  have p4:((m - 1:Nat):Int) < (m:Int):=by omega
  have p6:m - 1 < m:=by omega
  obtain ⟨q,hq⟩:∃ q,m - 1=q:=⟨_,rfl⟩
  rw [hq] at p1 p3 p4 p6
  clear hq
  obtain ⟨y,hy⟩:∃ y,l[q]?=some y:=⟨l[q]'(by rw [Hm.out];exact p6),Zz _⟩
  have c0:=Ho.out.at_ (Zq5 hy)
  have t0:=Ho.out.thaw q
  have hyl:y.size≤i:=Hmem.out y (Zy hy)
  clear hy
  obtain ⟨k,hk⟩:∃ k,i+1=k:=⟨_,rfl⟩
  have r1:IntKind.i64.wrap ((i:Int)+1)=(k:Int):=by rw [Yq _ (by omega)];omega
  have s1:(i:Int)≤(k:Int):=by omega
  have s2:(k:Int)≤(s.size:Int):=by rw [Hn.out];omega
  have s3:(k:Int)≤(n:Int):=by omega
  obtain ⟨X,hX⟩:∃ X,s.extract i k=X:=⟨_,rfl⟩
  have hXs:X.size≤1:=by rw [← hX,ByteArray.size_extract];omega
  have hus:¬ 9223372036854775807 < y.size+X.size:=by omega
  go_wp2_with fail
  go_region
  all_goals
   go_wp2_with fail
   go_roundw
   case rel =>
    refine ⟨i+1,l.set q (y++X),by omega,by rw [hk],?_,by rw [Zf,Hm.out];exact hl1,by rw [Zf,Hm.out];omega,?_,?_⟩
    ·first
     | exact (Ho.out.ext (Yl _).drew).put rfl (by rw [Hm.out];exact p6) _ rfl
     | exact (Ho.out.ext ((Yl _).drewN _)).put rfl (by rw [Hm.out];exact p6) _ rfl
     | exact (Ho.out.put rfl (by rw [Hm.out];exact p6) _ rfl).ext (Yl _).drew
     | exact (Ho.out.put rfl (by rw [Hm.out];exact p6) _ rfl).ext ((Yl _).drewN _)
    ·intro x hx
     rcases List.mem_or_eq_of_mem_set hx with h|h
     ·have:=Hmem.out x h;omega
     rw [h,Ym];omega
    have hx:=Hx.out
    have hge:w.heap.size≤g:=by rw [HB.out];exact hg1
    first
    | exact Ya hx.drew hge _
    | exact Ya (hx.drewN _) hge _
    | exact (Ya hx hge _).drew
    | exact (Ya hx hge _).drewN _
   case measure=>(simp [intOf];omega)
 have hd_i:decide ((i:Int) < (n:Int))=false:=Yg (by omega)
 go_wp2_with fail
 go_ret
 refine ⟨_,l,rfl,?_,by rw [Hm.out];exact hl1,by rw [Hm.out];omega,fun x hx=>by have:=Hmem.out x hx;omega,Hx.out⟩
 rw [HB.out,← Hm.out]
 have:=Ho.out.rd
 rw [← Hm.out] at this
 exact this
end Go.Proofs.YtnbclgbicnpmnaaGreat
