/-
  The example of chapter 24, and the walk of the law RecordRaw.
  Conditions: none.
-/
import Derived.Test.YtkhfjedeccjnbaaRecord
import Derived.Test.YtkhfjedeccjnbaaRecord2
import Derived.Test.YtkhfjedeccjnbaaCheck
namespace Go.Proofs.Ytkhfjedeccjnbaa
open Go.RowKit Go.Sort
set_option maxHeartbeats 2000000
set_option maxRecDepth 100000
attribute [local go_sem] cell_grow_any

theorem awake24 (w : World) : Calls Try.prog 50 #[] w fun e w' => e = .returned (.bool true) ∧ Ext w w' := by
  have t1 : testE 1 0 5 1 0 1 = 24 := by decide
  have t2 : testE 2 0 0 6 0 1 = 26 := by decide
  have t3 : checkB 1 0 5 ⟨#[97]⟩ = true := by decide
  have t4 : afSt 1 2 = 2 := by decide
  have t5 : afOw 0 2 0 = 0 := by decide
  have t6 : afNm ⟨#[97]⟩ 2 ⟨#[]⟩ = ⟨#[97]⟩ := by decide
  have t7 : afDl 5 2 0 = 0 := by decide
  go_enter Try.func50, Try.ntmps50
  go_wp2_with fail
  refine wp_region_ext (by kernel_rfl) (by kernel_rfl) ?_
  repeat (quiet_step (first | (go_at_call 49; exact ext_call (test_any _ _ _ _ _ _ _ _)) | (go_at_call 52; exact ext_call (check_any _ _ _ _ _)) | (go_at_call 53; exact ext_call (after_any _ _ _ _ _ _ _ _ _))))
  refine wpQuiet_nil ?_; intro w1 hy
  go_wp2
  go_ret
  exact ⟨rfl, (by repeat' (first | exact Ext.refl _ | assumption | apply Ext.alloc | apply Ext.drewN | apply Ext.drew | (refine Ext.trans ?_ (by assumption)) | (refine ext_setCell ?_ (by first | (simp; done) | (simp; omega)) _)))⟩

namespace recordRaw
theorem walk (st ow dl : Int) (nm : ByteArray) (op client now : Int) (name : ByteArray) (deadline : Int) (w : World) (_ : I64 st) (_ : I64 ow) (_ : I64 dl) (_ : nm.size ≤ maxLen) (_ : I64 op) (_ : I64 client) (_ : I64 now) (_ : name.size ≤ maxLen) (_ : I64 deadline) :
    Calls Try.prog 11 #[.agg #[.int .i64 st, .int .i64 ow, .string nm, .int .i64 dl], .int .i64 op, .int .i64 client, .int .i64 now, .string name, .int .i64 deadline] w fun e w' => e = .returned (.bool true) ∧ Below w.heap.size w w' := by
  obtain ⟨k, hk⟩ : ∃ k, pickI op 10 = k := ⟨_, rfl⟩
  have bk := pickI_bd op 10 (by omega)
  rw [hk] at bk
  obtain ⟨bk0, bk1⟩ := bk
  go_enter Try.func11, Try.ntmps11
  go_wp2_with (first | (go_at_call 29; refine (pick_any _ _ (by omega) (by omega) _).mono ?_; rintro e w' ⟨rfl, rfl⟩))
  refine wp_region_ext (by kernel_rfl) (by kernel_rfl) ?_
  simp only [List.append_eq, List.cons_append, List.nil_append]
  repeat (quiet_step (first | (go_at_call 50; exact ext_call (awake24 _)) | (go_at_call 52; exact ext_call (check_any _ _ _ _ _)) | (go_at_call 48; exact ext_call (rcheck_any _ _ _ _ _)) | (go_at_call 49; exact ext_call (test_any _ _ _ _ _ _ _ _)) | (go_at_call 51; exact ext_call (rtest_any _ _ _ _ _ _ _ _)) | (go_at_call 53; exact ext_call (after_any _ _ _ _ _ _ _ _ _)) | (go_at_call 54; exact ext_call (rafter_any _ _ _ _ _ _ _ _ _)) | (go_at_call 55; exact ext_call (grows_any _ _ _ _ _ _)) | (go_at_call 56; exact ext_call (rgrows_any _ _ _ _ _ _))))
  refine wpQuiet_nil ?_; intro w1 hy
  go_wp2
  go_ret
  exact ⟨rfl, Ext.below (by repeat' (first | exact Ext.refl _ | assumption | apply Ext.alloc | apply Ext.drewN | apply Ext.drew | (refine Ext.trans ?_ (by assumption)) | (refine ext_setCell ?_ (by first | (simp; done) | (simp; omega)) _)))⟩
end recordRaw
end Go.Proofs.Ytkhfjedeccjnbaa
