/-
  The walks of the laws RecordMade, RecordCycle and RecordExpired.
  Conditions: none.
-/
import Derived.Test.YtkhfjedeccjnbaaLaw24b
namespace Go.Proofs.Ytkhfjedeccjnbaa
open Go.RowKit Go.Sort
set_option maxHeartbeats 2000000
set_option maxRecDepth 100000
attribute [local go_sem] cell_grow_any


namespace recordMade
theorem walk (a : Option Addr) (len cap : Nat) (zs : List Int) (a1 a2 : Int) (w : World) (h : IsRow .i64 w a len cap zs) (_ : I64 a1) (_ : I64 a2) :
    Calls Try.prog 12 #[.slice a len cap, .int .i64 a1, .int .i64 a2] w fun e w' => e = .returned (.bool true) ∧ Below w.heap.size w w' := by
  obtain ⟨c, hcl⟩ : ∃ c, pickI a1 4 = c := ⟨_, rfl⟩
  obtain ⟨t, ht⟩ : ∃ t, pickI a2 45 = t := ⟨_, rfl⟩
  go_enter Try.func12, Try.ntmps12
  go_wp2_with fail
  refine (record_any _ _ _ _ _ h).mono ?_
  rintro e w0 ⟨st, ow, dl, nm, bst0, bst1, bow0, bow1, bdl0, bdl1, bnm, rfl, hx0⟩
  have hs0 := hx0.size
  go_wp2_with fail
  go_loopw [8] (fun o wr => ∃ k : Nat, k ≤ 9 ∧ o = .int .i64 (k : Int) ∧ Ext (w0.alloc (.cells #[.int .i64 st, .int .i64 ow, .string nm, .int .i64 dl] 30)) wr) (fun o _ => (9 - intOf o).toNat)
  case atStart => exact ⟨0, by omega, rfl, Ext.refl _⟩
  case round =>
    obtain ⟨k, hk, rfl, hx⟩ := hrel
    have hc := fun i => hx.cell (p := ⟨w0.heap.size, i, none⟩) (by simp)
    have hlt : w0.heap.size < wr.heap.size := (by have hs1 := hx.size; simp at hs1; omega)
    by_cases hk9 : k < 9
    · have hd : decide ((k : Int) ≤ 8) = true := by simp; omega
      go_wp2_with (first | (go_at_call 29; refine (pick_any _ _ (by omega) (by omega) _).mono ?_; rintro e w' ⟨rfl, rfl⟩))
      refine wp_region_ext (by kernel_rfl) (by kernel_rfl) ?_
      repeat (quiet_step (first | (go_at_call 49; exact ext_call (test_any _ _ _ _ _ _ _ _)) | (go_at_call 51; exact ext_call (rtest_any _ _ _ _ _ _ _ _)) | (go_at_call 53; exact ext_call (after_any _ _ _ _ _ _ _ _ _)) | (go_at_call 54; exact ext_call (rafter_any _ _ _ _ _ _ _ _ _)) | (go_at_call 55; exact ext_call (grows_any _ _ _ _ _ _)) | (go_at_call 56; exact ext_call (rgrows_any _ _ _ _ _ _))))
      refine wpQuiet_nil ?_; intro w1 hy
      go_wp2
      go_roundw
      case rel => exact ⟨k + 1, by omega, by go_num, hx.trans hy⟩
      case measure => simp [intOf]; omega
    · have hd : decide ((k : Int) ≤ 8) = false := by simp; omega
      go_wp2_with fail
      refine wp_region_ext (by kernel_rfl) (by kernel_rfl) ?_
      repeat (quiet_step (first | (go_at_call 50; exact ext_call (awake24 _)) | (go_at_call 52; exact ext_call (check_any _ _ _ _ _)) | (go_at_call 48; exact ext_call (rcheck_any _ _ _ _ _))))
      refine wpQuiet_nil ?_; intro w1 hy
      go_wp2
      go_ret
      exact ⟨rfl, Ext.below (hx0.trans (by repeat' (first | exact Ext.refl _ | assumption | apply Ext.alloc | apply Ext.drewN | apply Ext.drew | (refine Ext.trans ?_ (by assumption)) | (refine ext_setCell ?_ (by first | (simp; done) | (simp; omega)) _))))⟩
end recordMade

theorem test_dead {st ow dl op c t : Int} (hl : liveB st dl t = false) (h1 : 1 ≤ op) (h7 : op ≤ 7) (h6 : op ≠ 6) : testE st ow dl op c t = testE 0 0 0 op c t := by
  have hz : liveB 0 0 t = false := by simp [liveB]
  rcases (show op = 1 ∨ op = 2 ∨ op = 3 ∨ op = 4 ∨ op = 5 ∨ op = 7 by omega) with rfl | rfl | rfl | rfl | rfl | rfl <;> simp [testE, ownedE, hl, hz]

namespace recordExpired
theorem walk (a : Option Addr) (len cap : Nat) (zs : List Int) (a1 a2 : Int) (w : World) (h : IsRow .i64 w a len cap zs) (_ : I64 a1) (_ : I64 a2) :
    Calls Try.prog 14 #[.slice a len cap, .int .i64 a1, .int .i64 a2] w fun e w' => e = .returned (.bool true) ∧ Below w.heap.size w w' := by
  obtain ⟨c, hcl⟩ : ∃ c, pickI a1 4 = c := ⟨_, rfl⟩
  obtain ⟨t, ht⟩ : ∃ t, pickI a2 45 = t := ⟨_, rfl⟩
  go_enter Try.func14, Try.ntmps14
  go_wp2_with fail
  refine (record_any _ _ _ _ _ h).mono ?_
  rintro e w0 ⟨st, ow, dl, nm, bst0, bst1, bow0, bow1, bdl0, bdl1, bnm, rfl, hx0⟩
  have hs0 := hx0.size
  cases hl : liveB st dl t
  · by_cases hs : st = 0
    · subst hs
      go_wp2_with (first | (go_at_call 29; refine (pick_any _ _ (by omega) (by omega) _).mono ?_; rintro e w' ⟨rfl, rfl⟩) | (go_at_call 37; refine (rlive_any _ _ _ _ _ _).mono ?_; rintro e w1 ⟨rfl, hy⟩; (first | (have hx := hx.trans hy) | (have hx := hy)); have hc := fun i => hx.cell (p := ⟨w0.heap.size, i, none⟩) (by first | (simp; done) | (simp; omega)); have hs : w0.heap.size + 1 ≤ w1.heap.size := (by have hs1 := hx.size; simp at hs1; omega); have hlt : w0.heap.size < w1.heap.size := (by omega)) | (go_at_call 50; refine (awake24 _).mono ?_; rintro e w1 ⟨rfl, hy⟩; (first | (have hx := hx.trans hy) | (have hx := hy)); have hc := fun i => hx.cell (p := ⟨w0.heap.size, i, none⟩) (by first | (simp; done) | (simp; omega)); have hs : w0.heap.size + 1 ≤ w1.heap.size := (by have hs1 := hx.size; simp at hs1; omega); have hlt : w0.heap.size < w1.heap.size := (by omega)))
      go_ret
      exact ⟨rfl, Ext.below (hx0.trans (by repeat' (first | exact Ext.refl _ | assumption | apply Ext.alloc | apply Ext.drewN | apply Ext.drew | (refine Ext.trans ?_ (by assumption)) | (refine ext_setCell ?_ (by first | (simp; done) | (simp; omega)) _))))⟩
    · have hs' : (st == 0) = false := by simp [hs]
      have f1 : testE st ow dl 6 c t = 0 := by simp [testE, hs, hl]
      have f2 : testE 0 0 0 6 c t = 23 := by simp [testE]
      have f3 : growsI st 1 = 0 := by simp [growsI, hs]
      go_wp2_with (first | (go_at_call 29; refine (pick_any _ _ (by omega) (by omega) _).mono ?_; rintro e w' ⟨rfl, rfl⟩) | (go_at_call 37; refine (rlive_any _ _ _ _ _ _).mono ?_; rintro e w1 ⟨rfl, hy⟩; (first | (have hx := hx.trans hy) | (have hx := hy)); have hc := fun i => hx.cell (p := ⟨w0.heap.size, i, none⟩) (by first | (simp; done) | (simp; omega)); have hs : w0.heap.size + 1 ≤ w1.heap.size := (by have hs1 := hx.size; simp at hs1; omega); have hlt : w0.heap.size < w1.heap.size := (by omega)))
      go_loopw [10] (fun o wr => ∃ k : Nat, 1 ≤ k ∧ k ≤ 8 ∧ o = .int .i64 (k : Int) ∧ Ext (w0.alloc (.cells #[.int .i64 st, .int .i64 ow, .string nm, .int .i64 dl] 30)) wr) (fun o _ => (9 - intOf o).toNat)
      case atStart => exact ⟨1, by omega, by omega, rfl, hx⟩
      case round =>
        clear hc hx hlt
        obtain ⟨k, hk1, hk, rfl, hx⟩ := hrel
        have hc := fun i => hx.cell (p := ⟨w0.heap.size, i, none⟩) (by simp)
        have hlt : w0.heap.size < wr.heap.size := (by have hs1 := hx.size; simp at hs1; omega)
        by_cases hk9 : k < 8
        · have hd : decide ((k : Int) ≤ 7) = true := by simp; omega
          by_cases hk6 : k = 6
          · subst hk6
            go_wp2_with fail
            go_roundw
            case rel => exact ⟨7, by omega, by omega, by go_num, hx⟩
            case measure => simp [intOf]
          · have hk6' : ((k : Int) != 6) = true := by simp; omega
            have e1 : testE st ow dl (k : Int) c t = testE 0 0 0 (k : Int) c t := test_dead hl (by omega) (by omega) (by omega)
            go_wp2_with (first | (go_at_call 49; refine (test_any _ _ _ _ _ _ _ _).mono ?_; rintro e w1 ⟨rfl, hy⟩; (first | (have hx := hx.trans hy) | (have hx := hy)); have hc := fun i => hx.cell (p := ⟨w0.heap.size, i, none⟩) (by first | (simp; done) | (simp; omega)); have hs : w0.heap.size + 1 ≤ w1.heap.size := (by have hs1 := hx.size; simp at hs1; omega); have hlt : w0.heap.size < w1.heap.size := (by omega)) | (go_at_call 51; refine (rtest_any _ _ _ _ _ _ _ _).mono ?_; rintro e w1 ⟨rfl, hy⟩; (first | (have hx := hx.trans hy) | (have hx := hy)); have hc := fun i => hx.cell (p := ⟨w0.heap.size, i, none⟩) (by first | (simp; done) | (simp; omega)); have hs : w0.heap.size + 1 ≤ w1.heap.size := (by have hs1 := hx.size; simp at hs1; omega); have hlt : w0.heap.size < w1.heap.size := (by omega)))
            go_roundw
            case rel => exact ⟨k + 1, by omega, by omega, by go_num, by assumption⟩
            case measure => simp [intOf]; omega
        · have hd : decide ((k : Int) ≤ 7) = false := by simp; omega
          go_wp2_with (first | (go_at_call 49; refine (test_any _ _ _ _ _ _ _ _).mono ?_; rintro e w1 ⟨rfl, hy⟩; (first | (have hx := hx.trans hy) | (have hx := hy)); have hc := fun i => hx.cell (p := ⟨w0.heap.size, i, none⟩) (by first | (simp; done) | (simp; omega)); have hs : w0.heap.size + 1 ≤ w1.heap.size := (by have hs1 := hx.size; simp at hs1; omega); have hlt : w0.heap.size < w1.heap.size := (by omega)) | (go_at_call 55; refine (grows_any _ _ _ _ _ _).mono ?_; rintro e w1 ⟨rfl, hy⟩; (first | (have hx := hx.trans hy) | (have hx := hy)); have hc := fun i => hx.cell (p := ⟨w0.heap.size, i, none⟩) (by first | (simp; done) | (simp; omega)); have hs : w0.heap.size + 1 ≤ w1.heap.size := (by have hs1 := hx.size; simp at hs1; omega); have hlt : w0.heap.size < w1.heap.size := (by omega)) | (go_at_call 50; refine (awake24 _).mono ?_; rintro e w1 ⟨rfl, hy⟩; (first | (have hx := hx.trans hy) | (have hx := hy)); have hc := fun i => hx.cell (p := ⟨w0.heap.size, i, none⟩) (by first | (simp; done) | (simp; omega)); have hs : w0.heap.size + 1 ≤ w1.heap.size := (by have hs1 := hx.size; simp at hs1; omega); have hlt : w0.heap.size < w1.heap.size := (by omega)))
          go_ret
          exact ⟨rfl, Ext.below (hx0.trans (by repeat' (first | exact Ext.refl _ | assumption | apply Ext.alloc | apply Ext.drewN | apply Ext.drew | (refine Ext.trans ?_ (by assumption)) | (refine ext_setCell ?_ (by first | (simp; done) | (simp; omega)) _))))⟩
  · go_wp2_with (first | (go_at_call 29; refine (pick_any _ _ (by omega) (by omega) _).mono ?_; rintro e w' ⟨rfl, rfl⟩) | (go_at_call 37; refine (rlive_any _ _ _ _ _ _).mono ?_; rintro e w1 ⟨rfl, hy⟩; (first | (have hx := hx.trans hy) | (have hx := hy)); have hc := fun i => hx.cell (p := ⟨w0.heap.size, i, none⟩) (by first | (simp; done) | (simp; omega)); have hs : w0.heap.size + 1 ≤ w1.heap.size := (by have hs1 := hx.size; simp at hs1; omega); have hlt : w0.heap.size < w1.heap.size := (by omega)) | (go_at_call 50; refine (awake24 _).mono ?_; rintro e w1 ⟨rfl, hy⟩; (first | (have hx := hx.trans hy) | (have hx := hy)); have hc := fun i => hx.cell (p := ⟨w0.heap.size, i, none⟩) (by first | (simp; done) | (simp; omega)); have hs : w0.heap.size + 1 ≤ w1.heap.size := (by have hs1 := hx.size; simp at hs1; omega); have hlt : w0.heap.size < w1.heap.size := (by omega)))
    go_ret
    exact ⟨rfl, Ext.below (hx0.trans (by repeat' (first | exact Ext.refl _ | assumption | apply Ext.alloc | apply Ext.drewN | apply Ext.drew | (refine Ext.trans ?_ (by assumption)) | (refine ext_setCell ?_ (by first | (simp; done) | (simp; omega)) _))))⟩
end recordExpired
end Go.Proofs.Ytkhfjedeccjnbaa
