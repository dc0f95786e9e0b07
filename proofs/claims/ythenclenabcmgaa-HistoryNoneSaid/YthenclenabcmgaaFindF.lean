/-
  slices.IndexFunc and slices.ContainsFunc over operations, with the closure of history.Search: is an operation without an answer among them?
  Conditions: as named.
-/
import Derived.Test.YthenclenabcmgaaExt
namespace Go.Proofs.Ythenclenabcmgaa
open Go.RowKit Go.Sort
set_option maxHeartbeats 8000000
set_option maxRecDepth 100000

theorem open1_any (o : Opn) (w : World) : Calls Try.prog 10 #[opV o] w fun e w' => e = .returned (.bool (o.ans == -1)) ∧ Ext w w' := by
  unfold opV
  go_enter Try.func10, Try.ntmps10
  go_wp2_with fail
  go_ret
  exact ⟨rfl, (Ext.refl w).alloc _⟩
def FindPost (os : List Opn) (w : World) (e : Ending) (w' : World) : Prop := ∃ z : Int, e = .returned (.int .i64 z) ∧ decide (0 ≤ z) = (os.any fun o => o.ans == -1) ∧ Ext w w'
theorem none_take {os : List Opn} {k : Nat} {o : Opn} (h : ((os.take k).any fun o => o.ans == -1) = false) (ho : os[k]? = some o) (hg : (o.ans == -1) = false) : ((os.take (k + 1)).any fun o => o.ans == -1) = false := by
  rw [take_at ho, List.any_append, h]; simp [hg]
theorem has_any {os : List Opn} {k : Nat} {o : Opn} (ho : os[k]? = some o) (hg : (o.ans == -1) = true) : (os.any fun o => o.ans == -1) = true := by
  rw [List.any_eq_true]
  exact ⟨o, List.mem_of_getElem? ho, hg⟩
theorem indexO_any {S : Nat → Prop} (v : Value) (os : List Opn) (w : World) (ho : OpsAt w S v os) (hlm : os.length ≤ 1000000) :
    Calls Try.prog 17 #[v, .func (.func 10) #[] #[]] w (FindPost os w) := by
  obtain ⟨A, C, rfl⟩ := ho.shape
  have eg : ∀ args w, (callFunc 10 args).run Try.prog w = .ok (.enter 10 args) w := enters_of Try.func10 (by kernel_rfl) rfl
  obtain ⟨n, hnn⟩ : ∃ n, os.length = n := ⟨_, rfl⟩
  have Hnn := Lib.hid hnn
  have Hn := Lib.hid ho
  rw [hnn] at hlm ⊢
  clear ho hnn
  go_enter Try.func17, Try.ntmps17
  go_wp2_with fail
  go_loopw [8] (fun o wr => ∃ k : Nat, k ≤ n ∧ o = .int .i64 (k : Int) ∧ ((os.take k).any fun o => o.ans == -1) = false ∧ Ext w wr) (fun o _ => n - (intOf o).toNat)
  case atStart => exact ⟨0, by omega, rfl, by simp, Ext.refl w⟩
  case round =>
    obtain ⟨k, hk, rfl, hg, hx⟩ := hrel
    have Hg := Lib.hid hg
    have Hx := Lib.hid hx
    clear hg hx
    by_cases hlt : k < n
    · have hd : decide ((k : Int) < (n : Int)) = true := by simpa using hlt
      obtain ⟨o, hok⟩ : ∃ o, os[k]? = some o := ⟨os[k]'(by rw [Hnn.out]; exact hlt), List.getElem?_eq_getElem _⟩
      obtain ⟨g, p, c, hv, hc1, hc2, _, hA, _⟩ := (Hn.out.ext Hx.out).get hok
      simp only [Value.slice.injEq] at hv
      obtain ⟨rfl, _, rfl⟩ := hv
      rw [Hnn.out] at hc1
      have i0 : (0 : Int) ≤ (k : Int) := by omega
      have i1 : (k : Int) < (n : Int) := by omega
      have Hok := Lib.hid hok
      have HA := Lib.hid hA
      clear hok hA
      cases hg : (o.ans == -1) with
      | false =>
        have Hgn := Lib.hid hg
        go_wp2_with (first | (refine wpList_loadOp HA.out rfl ?_) | (go_at_fn 10; refine (open1_any o _).mono ?_; rintro e w1 ⟨rfl, hy⟩; rw [hg]))
        go_roundw
        case rel => exact ⟨k + 1, by omega, by go_num, none_take Hg.out Hok.out Hgn.out, Hx.out.trans hy⟩
        case measure => simp [intOf]; omega
      | true =>
        have Hgn := Lib.hid hg
        go_wp2_with (first | (refine wpList_loadOp HA.out rfl ?_) | (go_at_fn 10; refine (open1_any o _).mono ?_; rintro e w1 ⟨rfl, hy⟩; rw [hg]))
        go_ret
        exact ⟨k, rfl, by rw [has_any Hok.out Hgn.out]; simp, Hx.out.trans hy⟩
    · have hd : decide ((k : Int) < (n : Int)) = false := by simp; omega
      go_wp2_with fail
      go_ret
      refine ⟨-1, rfl, ?_, Hx.out⟩
      have := Hg.out
      rw [List.take_of_length_le (by rw [Hnn.out]; omega)] at this
      rw [this]; rfl
theorem containsO_any {S : Nat → Prop} (v : Value) (os : List Opn) (w : World) (ho : OpsAt w S v os) (hlm : os.length ≤ 1000000) :
    Calls Try.prog 9 #[v, .func (.func 10) #[] #[]] w fun e w' => e = .returned (.bool (os.any fun o => o.ans == -1)) ∧ Ext w w' := by
  have Hn := Lib.hid ho
  clear ho
  go_enter Try.func9, Try.ntmps9
  go_wp2_with fail
  refine (indexO_any v os _ Hn.out hlm).mono ?_
  rintro e w1 ⟨z, rfl, hz, hx⟩
  have Hx := Lib.hid hx
  have Hz := Lib.hid hz
  clear hx hz
  go_wp2_with fail
  go_ret
  exact ⟨by rw [← Hz.out]; rfl, Hx.out⟩
end Go.Proofs.Ythenclenabcmgaa
