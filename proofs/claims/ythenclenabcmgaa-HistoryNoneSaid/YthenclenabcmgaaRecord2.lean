/-
  Test and Check of chapter 24, in the program and in its reference.
  Conditions: none.
-/
import Derived.Test.YthenclenabcmgaaGround
namespace Go.Proofs.Ythenclenabcmgaa
open Go.RowKit Go.Sort
set_option maxHeartbeats 1000000

def ownedE (st ow dl state client now : Int) : Int :=
  if liveB st dl now = false then 23 else if ow = client then (if st = state then 0 else 26) else 25

/-- Test (24.2). -/
def testE (st ow dl op client now : Int) : Int :=
  if op = 1 then (if liveB st dl now = true then 24 else 0)
  else if op = 2 ∨ op = 3 ∨ op = 4 then ownedE st ow dl 1 client now
  else if op = 5 then ownedE st ow dl 2 client now
  else if op = 6 then (if st = 0 then 23 else if liveB st dl now = true then 26 else 0)
  else if op = 7 then 0 else 1

theorem owned_any (st ow dl state client now : Int) (nm : ByteArray) (w : World) :
    Calls Try.prog 47 #[.agg #[.int .i64 st, .int .i64 ow, .string nm, .int .i64 dl], .int .i64 state, .int .i64 client, .int .i64 now] w fun e w' => e = .returned (.int .i64 (ownedE st ow dl state client now)) ∧ Ext w w' := by
  cases hl : liveB st dl now
  · have H := Lib.hid (show ownedE st ow dl state client now = 23 by simp [ownedE, hl])
    go_enter Try.func47, Try.ntmps47
    go_wp2_with (go_at_call 43; refine (live_any _ _ _ _ _ _).mono ?_; rintro e w1 ⟨rfl, hy⟩; (first | (have hx := hx.trans hy) | (have hx := hy)); have hc := fun i => hx.cell (p := ⟨w.heap.size, i, none⟩) (by first | (simp; done) | (simp; omega)); have hz := fun i => hx.frozen (p := ⟨w.heap.size, i, none⟩) (by first | (simp; done) | (simp; omega)); have hs : w.heap.size + 1 ≤ w1.heap.size := by (have hs1 := hx.size; simp at hs1; omega))
    go_ret
    exact ⟨by rw [H.out]; rfl, (by repeat' (first | exact Ext.refl _ | assumption | apply Ext.alloc | apply Ext.drewN | apply Ext.drew | (refine Ext.trans ?_ (by assumption)) | (refine ext_setCell ?_ (by first | (simp; done) | (simp; omega)) _)))⟩
  · by_cases ho : ow = client
    · subst ho
      by_cases hs : st = state
      · subst hs
        have H := Lib.hid (show ownedE st ow dl st ow now = 0 by simp [ownedE, hl])
        go_enter Try.func47, Try.ntmps47
        go_wp2_with (go_at_call 43; refine (live_any _ _ _ _ _ _).mono ?_; rintro e w1 ⟨rfl, hy⟩; (first | (have hx := hx.trans hy) | (have hx := hy)); have hc := fun i => hx.cell (p := ⟨w.heap.size, i, none⟩) (by first | (simp; done) | (simp; omega)); have hz := fun i => hx.frozen (p := ⟨w.heap.size, i, none⟩) (by first | (simp; done) | (simp; omega)); have hs : w.heap.size + 1 ≤ w1.heap.size := by (have hs1 := hx.size; simp at hs1; omega))
        go_ret
        exact ⟨by rw [H.out]; rfl, (by repeat' (first | exact Ext.refl _ | assumption | apply Ext.alloc | apply Ext.drewN | apply Ext.drew | (refine Ext.trans ?_ (by assumption)) | (refine ext_setCell ?_ (by first | (simp; done) | (simp; omega)) _)))⟩
      · have H := Lib.hid (show ownedE st ow dl state ow now = 26 by simp [ownedE, hl, hs])
        go_enter Try.func47, Try.ntmps47
        go_wp2_with (go_at_call 43; refine (live_any _ _ _ _ _ _).mono ?_; rintro e w1 ⟨rfl, hy⟩; (first | (have hx := hx.trans hy) | (have hx := hy)); have hc := fun i => hx.cell (p := ⟨w.heap.size, i, none⟩) (by first | (simp; done) | (simp; omega)); have hz := fun i => hx.frozen (p := ⟨w.heap.size, i, none⟩) (by first | (simp; done) | (simp; omega)); have hs : w.heap.size + 1 ≤ w1.heap.size := by (have hs1 := hx.size; simp at hs1; omega))
        go_ret
        exact ⟨by rw [H.out]; rfl, (by repeat' (first | exact Ext.refl _ | assumption | apply Ext.alloc | apply Ext.drewN | apply Ext.drew | (refine Ext.trans ?_ (by assumption)) | (refine ext_setCell ?_ (by first | (simp; done) | (simp; omega)) _)))⟩
    · have H := Lib.hid (show ownedE st ow dl state client now = 25 by simp [ownedE, hl, ho])
      go_enter Try.func47, Try.ntmps47
      go_wp2_with (go_at_call 43; refine (live_any _ _ _ _ _ _).mono ?_; rintro e w1 ⟨rfl, hy⟩; (first | (have hx := hx.trans hy) | (have hx := hy)); have hc := fun i => hx.cell (p := ⟨w.heap.size, i, none⟩) (by first | (simp; done) | (simp; omega)); have hz := fun i => hx.frozen (p := ⟨w.heap.size, i, none⟩) (by first | (simp; done) | (simp; omega)); have hs : w.heap.size + 1 ≤ w1.heap.size := by (have hs1 := hx.size; simp at hs1; omega))
      go_ret
      exact ⟨by rw [H.out]; rfl, (by repeat' (first | exact Ext.refl _ | assumption | apply Ext.alloc | apply Ext.drewN | apply Ext.drew | (refine Ext.trans ?_ (by assumption)) | (refine ext_setCell ?_ (by first | (simp; done) | (simp; omega)) _)))⟩

theorem op_all' (op : Int) : op = 1 ∨ op = 2 ∨ op = 3 ∨ op = 4 ∨ op = 5 ∨ op = 6 ∨ op = 7 ∨ (op < 1 ∨ 7 < op) := by omega

theorem test_any (st ow dl op client now : Int) (nm : ByteArray) (w : World) :
    Calls Try.prog 40 #[.agg #[.int .i64 st, .int .i64 ow, .string nm, .int .i64 dl], .int .i64 op, .int .i64 client, .int .i64 now] w fun e w' => e = .returned (.int .i64 (testE st ow dl op client now)) ∧ Ext w w' := by
  rcases op_all' op with rfl | rfl | rfl | rfl | rfl | rfl | rfl | h
  · cases hl : liveB st dl now
    · have H := Lib.hid (show testE st ow dl 1 client now = 0 by simp [testE, hl])
      go_enter Try.func40, Try.ntmps40
      go_wp2_with (go_at_call 43; refine (live_any _ _ _ _ _ _).mono ?_; rintro e w1 ⟨rfl, hy⟩; (first | (have hx := hx.trans hy) | (have hx := hy)); have hc := fun i => hx.cell (p := ⟨w.heap.size, i, none⟩) (by first | (simp; done) | (simp; omega)); have hz := fun i => hx.frozen (p := ⟨w.heap.size, i, none⟩) (by first | (simp; done) | (simp; omega)); have hs : w.heap.size + 1 ≤ w1.heap.size := by (have hs1 := hx.size; simp at hs1; omega))
      go_ret
      exact ⟨by rw [H.out]; rfl, (by repeat' (first | exact Ext.refl _ | assumption | apply Ext.alloc | apply Ext.drewN | apply Ext.drew | (refine Ext.trans ?_ (by assumption)) | (refine ext_setCell ?_ (by first | (simp; done) | (simp; omega)) _)))⟩
    · have H := Lib.hid (show testE st ow dl 1 client now = 24 by simp [testE, hl])
      go_enter Try.func40, Try.ntmps40
      go_wp2_with (go_at_call 43; refine (live_any _ _ _ _ _ _).mono ?_; rintro e w1 ⟨rfl, hy⟩; (first | (have hx := hx.trans hy) | (have hx := hy)); have hc := fun i => hx.cell (p := ⟨w.heap.size, i, none⟩) (by first | (simp; done) | (simp; omega)); have hz := fun i => hx.frozen (p := ⟨w.heap.size, i, none⟩) (by first | (simp; done) | (simp; omega)); have hs : w.heap.size + 1 ≤ w1.heap.size := by (have hs1 := hx.size; simp at hs1; omega))
      go_ret
      exact ⟨by rw [H.out]; rfl, (by repeat' (first | exact Ext.refl _ | assumption | apply Ext.alloc | apply Ext.drewN | apply Ext.drew | (refine Ext.trans ?_ (by assumption)) | (refine ext_setCell ?_ (by first | (simp; done) | (simp; omega)) _)))⟩
  · have H := Lib.hid (show testE st ow dl 2 client now = ownedE st ow dl 1 client now by simp [testE])
    go_enter Try.func40, Try.ntmps40
    go_wp2_with (go_at_call 47; refine (owned_any _ _ _ _ _ _ _ _).mono ?_; rintro e w1 ⟨rfl, hy⟩; (first | (have hx := hx.trans hy) | (have hx := hy)); have hc := fun i => hx.cell (p := ⟨w.heap.size, i, none⟩) (by first | (simp; done) | (simp; omega)); have hz := fun i => hx.frozen (p := ⟨w.heap.size, i, none⟩) (by first | (simp; done) | (simp; omega)); have hs : w.heap.size + 1 ≤ w1.heap.size := by (have hs1 := hx.size; simp at hs1; omega))
    go_ret
    exact ⟨by rw [H.out]; rfl, (by repeat' (first | exact Ext.refl _ | assumption | apply Ext.alloc | apply Ext.drewN | apply Ext.drew | (refine Ext.trans ?_ (by assumption)) | (refine ext_setCell ?_ (by first | (simp; done) | (simp; omega)) _)))⟩
  · have H := Lib.hid (show testE st ow dl 3 client now = ownedE st ow dl 1 client now by simp [testE])
    go_enter Try.func40, Try.ntmps40
    go_wp2_with (go_at_call 47; refine (owned_any _ _ _ _ _ _ _ _).mono ?_; rintro e w1 ⟨rfl, hy⟩; (first | (have hx := hx.trans hy) | (have hx := hy)); have hc := fun i => hx.cell (p := ⟨w.heap.size, i, none⟩) (by first | (simp; done) | (simp; omega)); have hz := fun i => hx.frozen (p := ⟨w.heap.size, i, none⟩) (by first | (simp; done) | (simp; omega)); have hs : w.heap.size + 1 ≤ w1.heap.size := by (have hs1 := hx.size; simp at hs1; omega))
    go_ret
    exact ⟨by rw [H.out]; rfl, (by repeat' (first | exact Ext.refl _ | assumption | apply Ext.alloc | apply Ext.drewN | apply Ext.drew | (refine Ext.trans ?_ (by assumption)) | (refine ext_setCell ?_ (by first | (simp; done) | (simp; omega)) _)))⟩
  · have H := Lib.hid (show testE st ow dl 4 client now = ownedE st ow dl 1 client now by simp [testE])
    go_enter Try.func40, Try.ntmps40
    go_wp2_with (go_at_call 47; refine (owned_any _ _ _ _ _ _ _ _).mono ?_; rintro e w1 ⟨rfl, hy⟩; (first | (have hx := hx.trans hy) | (have hx := hy)); have hc := fun i => hx.cell (p := ⟨w.heap.size, i, none⟩) (by first | (simp; done) | (simp; omega)); have hz := fun i => hx.frozen (p := ⟨w.heap.size, i, none⟩) (by first | (simp; done) | (simp; omega)); have hs : w.heap.size + 1 ≤ w1.heap.size := by (have hs1 := hx.size; simp at hs1; omega))
    go_ret
    exact ⟨by rw [H.out]; rfl, (by repeat' (first | exact Ext.refl _ | assumption | apply Ext.alloc | apply Ext.drewN | apply Ext.drew | (refine Ext.trans ?_ (by assumption)) | (refine ext_setCell ?_ (by first | (simp; done) | (simp; omega)) _)))⟩
  · have H := Lib.hid (show testE st ow dl 5 client now = ownedE st ow dl 2 client now by simp [testE])
    go_enter Try.func40, Try.ntmps40
    go_wp2_with (go_at_call 47; refine (owned_any _ _ _ _ _ _ _ _).mono ?_; rintro e w1 ⟨rfl, hy⟩; (first | (have hx := hx.trans hy) | (have hx := hy)); have hc := fun i => hx.cell (p := ⟨w.heap.size, i, none⟩) (by first | (simp; done) | (simp; omega)); have hz := fun i => hx.frozen (p := ⟨w.heap.size, i, none⟩) (by first | (simp; done) | (simp; omega)); have hs : w.heap.size + 1 ≤ w1.heap.size := by (have hs1 := hx.size; simp at hs1; omega))
    go_ret
    exact ⟨by rw [H.out]; rfl, (by repeat' (first | exact Ext.refl _ | assumption | apply Ext.alloc | apply Ext.drewN | apply Ext.drew | (refine Ext.trans ?_ (by assumption)) | (refine ext_setCell ?_ (by first | (simp; done) | (simp; omega)) _)))⟩
  · by_cases hs : st = 0
    · subst hs
      have H := Lib.hid (show testE 0 ow dl 6 client now = 23 by simp [testE])
      go_enter Try.func40, Try.ntmps40
      go_wp2_with (go_at_call 43; refine (live_any _ _ _ _ _ _).mono ?_; rintro e w1 ⟨rfl, hy⟩; (first | (have hx := hx.trans hy) | (have hx := hy)); have hc := fun i => hx.cell (p := ⟨w.heap.size, i, none⟩) (by first | (simp; done) | (simp; omega)); have hz := fun i => hx.frozen (p := ⟨w.heap.size, i, none⟩) (by first | (simp; done) | (simp; omega)); have hs : w.heap.size + 1 ≤ w1.heap.size := by (have hs1 := hx.size; simp at hs1; omega))
      go_ret
      exact ⟨by rw [H.out]; rfl, (by repeat' (first | exact Ext.refl _ | assumption | apply Ext.alloc | apply Ext.drewN | apply Ext.drew | (refine Ext.trans ?_ (by assumption)) | (refine ext_setCell ?_ (by first | (simp; done) | (simp; omega)) _)))⟩
    · cases hl : liveB st dl now
      · have H := Lib.hid (show testE st ow dl 6 client now = 0 by simp [testE, hl, hs])
        go_enter Try.func40, Try.ntmps40
        go_wp2_with (go_at_call 43; refine (live_any _ _ _ _ _ _).mono ?_; rintro e w1 ⟨rfl, hy⟩; (first | (have hx := hx.trans hy) | (have hx := hy)); have hc := fun i => hx.cell (p := ⟨w.heap.size, i, none⟩) (by first | (simp; done) | (simp; omega)); have hz := fun i => hx.frozen (p := ⟨w.heap.size, i, none⟩) (by first | (simp; done) | (simp; omega)); have hs : w.heap.size + 1 ≤ w1.heap.size := by (have hs1 := hx.size; simp at hs1; omega))
        go_ret
        exact ⟨by rw [H.out]; rfl, (by repeat' (first | exact Ext.refl _ | assumption | apply Ext.alloc | apply Ext.drewN | apply Ext.drew | (refine Ext.trans ?_ (by assumption)) | (refine ext_setCell ?_ (by first | (simp; done) | (simp; omega)) _)))⟩
      · have H := Lib.hid (show testE st ow dl 6 client now = 26 by simp [testE, hl, hs])
        go_enter Try.func40, Try.ntmps40
        go_wp2_with (go_at_call 43; refine (live_any _ _ _ _ _ _).mono ?_; rintro e w1 ⟨rfl, hy⟩; (first | (have hx := hx.trans hy) | (have hx := hy)); have hc := fun i => hx.cell (p := ⟨w.heap.size, i, none⟩) (by first | (simp; done) | (simp; omega)); have hz := fun i => hx.frozen (p := ⟨w.heap.size, i, none⟩) (by first | (simp; done) | (simp; omega)); have hs : w.heap.size + 1 ≤ w1.heap.size := by (have hs1 := hx.size; simp at hs1; omega))
        go_ret
        exact ⟨by rw [H.out]; rfl, (by repeat' (first | exact Ext.refl _ | assumption | apply Ext.alloc | apply Ext.drewN | apply Ext.drew | (refine Ext.trans ?_ (by assumption)) | (refine ext_setCell ?_ (by first | (simp; done) | (simp; omega)) _)))⟩
  · have H := Lib.hid (show testE st ow dl 7 client now = 0 by simp [testE])
    go_enter Try.func40, Try.ntmps40
    go_wp2_with (go_at_call 43; refine (live_any _ _ _ _ _ _).mono ?_; rintro e w1 ⟨rfl, hy⟩; (first | (have hx := hx.trans hy) | (have hx := hy)); have hc := fun i => hx.cell (p := ⟨w.heap.size, i, none⟩) (by first | (simp; done) | (simp; omega)); have hz := fun i => hx.frozen (p := ⟨w.heap.size, i, none⟩) (by first | (simp; done) | (simp; omega)); have hs : w.heap.size + 1 ≤ w1.heap.size := by (have hs1 := hx.size; simp at hs1; omega))
    go_ret
    exact ⟨by rw [H.out]; rfl, (by repeat' (first | exact Ext.refl _ | assumption | apply Ext.alloc | apply Ext.drewN | apply Ext.drew | (refine Ext.trans ?_ (by assumption)) | (refine ext_setCell ?_ (by first | (simp; done) | (simp; omega)) _)))⟩
  · have h1 : ¬ op = 1 := by omega
    have h2 : ¬ op = 2 := by omega
    have h3 : ¬ op = 3 := by omega
    have h4 : ¬ op = 4 := by omega
    have h5 : ¬ op = 5 := by omega
    have h6 : ¬ op = 6 := by omega
    have h7 : ¬ op = 7 := by omega
    have H := Lib.hid (show testE st ow dl op client now = 1 by simp [testE, h1, h2, h3, h4, h5, h6, h7])
    go_enter Try.func40, Try.ntmps40
    go_wp2_with (go_at_call 43; refine (live_any _ _ _ _ _ _).mono ?_; rintro e w1 ⟨rfl, hy⟩; (first | (have hx := hx.trans hy) | (have hx := hy)); have hc := fun i => hx.cell (p := ⟨w.heap.size, i, none⟩) (by first | (simp; done) | (simp; omega)); have hz := fun i => hx.frozen (p := ⟨w.heap.size, i, none⟩) (by first | (simp; done) | (simp; omega)); have hs : w.heap.size + 1 ≤ w1.heap.size := by (have hs1 := hx.size; simp at hs1; omega))
    go_ret
    exact ⟨by rw [H.out]; rfl, (by repeat' (first | exact Ext.refl _ | assumption | apply Ext.alloc | apply Ext.drewN | apply Ext.drew | (refine Ext.trans ?_ (by assumption)) | (refine ext_setCell ?_ (by first | (simp; done) | (simp; omega)) _)))⟩

theorem live_st {st dl now : Int} (h : liveB st dl now = true) : st = 2 ∨ st = 1 := by
  simp [liveB] at h
  omega
end Go.Proofs.Ythenclenabcmgaa
