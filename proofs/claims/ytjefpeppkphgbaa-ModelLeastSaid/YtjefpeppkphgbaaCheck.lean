/-
  Check of chapter 24, in the program and in its reference.
  Conditions: none.
-/
import Derived.Test.YtjefpeppkphgbaaClock2
namespace Go.Proofs.Ytjefpeppkphgbaa
open Go.RowKit Go.Sort
set_option maxHeartbeats 1000000

/-- Check (24.1). -/
def checkB (st ow dl : Int) (nm : ByteArray) : Bool :=
  (st == 0 && ow == 0 && nm.size == 0 && dl == 0) ||
  (decide (0 ≤ ow) && decide (ow < 64) && decide (1 ≤ nm.size) && decide (nm.size ≤ 63) && ((st == 1 && decide (1 ≤ dl) && decide (dl ≤ 1073741824)) || (st == 2 && dl == 0)))
theorem len_toList (nm : ByteArray) : nm.toList.length = nm.size := by rw [ByteArray.toList_eq]; rfl
theorem size_cases (nm : ByteArray) : (nm.toList = [] ∧ nm.toList.isEmpty = true ∧ nm.size = 0) ∨ (¬ nm.toList = [] ∧ nm.toList.isEmpty = false ∧ 1 ≤ nm.size ∧ (1 : Int) ≤ (nm.size : Int)) := by
  have e := len_toList nm
  cases h : nm.toList with
  | nil => rw [h] at e; exact .inl ⟨rfl, rfl, e.symm⟩
  | cons a l => rw [h] at e; simp only [List.length_cons] at e; exact .inr ⟨by simp, rfl, by omega, by omega⟩
theorem ret_bool {a b : Bool} (h : a = b) : Ending.returned (.bool a) = .returned (.bool b) := by rw [h]
theorem rcheck_any (st ow dl : Int) (nm : ByteArray) (w : World) :
    Calls Try.prog 51 #[.agg #[.int .i64 st, .int .i64 ow, .string nm, .int .i64 dl]] w fun e w' => e = .returned (.bool (checkB st ow dl nm)) ∧ Ext w w' := by
  rcases size_cases nm with ⟨hN, hE, hs⟩ | ⟨hN, hE, hs, hs'⟩
  · have Hs := Lib.hid hs
    clear hs
    go_enter Try.func51, Try.ntmps51
    go_wp2
    all_goals
      go_ret
      refine ⟨ret_bool ?_, (by repeat' (first | exact Ext.refl _ | assumption | apply Ext.alloc | apply Ext.drewN | apply Ext.drew | (refine Ext.trans ?_ (by assumption)) | (refine ext_setCell ?_ (by first | (simp; done) | (simp; omega)) _)))⟩
      have hs := Hs.out
      clear Hs
      rw [Bool.eq_iff_iff]
      simp_all [checkB]
      try omega
  · go_enter Try.func51, Try.ntmps51
    go_wp2
    all_goals
      go_ret
      refine ⟨ret_bool ?_, (by repeat' (first | exact Ext.refl _ | assumption | apply Ext.alloc | apply Ext.drewN | apply Ext.drew | (refine Ext.trans ?_ (by assumption)) | (refine ext_setCell ?_ (by first | (simp; done) | (simp; omega)) _)))⟩
      rw [Bool.eq_iff_iff]
      have hq : ¬ nm = ByteArray.empty := fun h => by subst h; simp at hs
      simp_all [checkB]
      try omega

end Go.Proofs.Ytjefpeppkphgbaa
