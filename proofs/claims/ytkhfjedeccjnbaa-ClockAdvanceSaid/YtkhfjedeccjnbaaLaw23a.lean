/-
  The walks of the laws ClockAdvance, ClockExpiry and ClockForever: each returns true and changes nothing that was there.
  Conditions: none.
-/
import Derived.Test.YtkhfjedeccjnbaaClock2
namespace Go.Proofs.Ytkhfjedeccjnbaa
open Go.RowKit Go.Sort
set_option maxHeartbeats 1000000

theorem adv_bd {t x : Int} (h0 : 0 ≤ t) (h1 : t ≤ 1073741824) (hx : 0 ≤ x) : t ≤ advI t x ∧ advI t x ≤ 1073741824 ∧ 0 ≤ advI t x := by
  have hb := tickB_true ⟨h0, h1⟩
  by_cases h : 1073741824 - t < x
  · rw [advI_far hb hx h]; omega
  · rw [advI_sum hb hx (by omega)]; omega
theorem adv_adv {t x y : Int} (h0 : 0 ≤ t) (h1 : t ≤ 1073741824) (hx : 0 ≤ x) (hy : 0 ≤ y) : advI (advI t x) y = advI t (x + y) := by
  have hb := tickB_true ⟨h0, h1⟩
  obtain ⟨b1, b2, b3⟩ := adv_bd h0 h1 hx
  have hb' := tickB_true ⟨b3, b2⟩
  by_cases h : 1073741824 - t < x
  · rw [advI_far hb (show 0 ≤ x + y by omega) (by omega)]
    rw [advI_far hb hx h] at hb' ⊢
    by_cases hz : y = 0
    · subst hz; rw [advI_sum hb' (by omega) (by omega)]; omega
    · rw [advI_far hb' hy (by omega)]
  · have e : advI t x = t + x := advI_sum hb hx (by omega)
    rw [e] at hb' ⊢
    by_cases h2 : 1073741824 - (t + x) < y
    · rw [advI_far hb' hy h2, advI_far hb (by omega) (by omega)]
    · rw [advI_sum hb' hy (by omega), advI_sum hb (by omega) (by omega)]; omega
theorem adv_zero {t : Int} (h0 : 0 ≤ t) (h1 : t ≤ 1073741824) : advI t 0 = t := by
  rw [advI_sum (tickB_true ⟨h0, h1⟩) (by omega) (by omega)]; omega

namespace clockAdvance
theorem walk (a0 a1 a2 : Int) (w : World) (i0 : I64 a0) (_ : I64 a1) (_ : I64 a2) :
    Calls Try.prog 3 #[.int .i64 a0, .int .i64 a1, .int .i64 a2] w fun e w' => e = .returned (.bool true) ∧ Below w.heap.size w w' := by
  obtain ⟨x, hx⟩ : ∃ x, pickI a1 1073741824 = x := ⟨_, rfl⟩
  obtain ⟨y, hy⟩ : ∃ y, pickI a2 1073741824 = y := ⟨_, rfl⟩
  have bx := pickI_bd a1 1073741824 (by omega)
  have bz := pickI_bd a2 1073741824 (by omega)
  rw [hx] at bx
  rw [hy] at bz
  obtain ⟨bx0, bx1⟩ := bx
  obtain ⟨by0, by1⟩ := bz
  go_enter Try.func3, Try.ntmps3
  go_wp2_with fail
  refine (ltick_any _ i0 _).mono ?_
  rintro e w' ⟨t, t0, t1, rfl, rfl⟩
  obtain ⟨q1, q2, q3⟩ := adv_bd t0 t1 bx0
  have e1 : (advI (advI t x) y == advI t (x + y)) = true := by rw [adv_adv t0 t1 bx0 by0]; simp
  have e2 : advI t 0 = t := adv_zero t0 t1
  have e3 : advI t (-1 - x) = t := advI_neg (tickB_true ⟨t0, t1⟩) (by omega)
  go_wp2_with (first | (go_at_call 29; refine (pick_any _ _ (by omega) (by omega) _).mono ?_; rintro e w' ⟨rfl, rfl⟩) | (go_at_call 30; refine (advance_any _ _ _).mono ?_; rintro e w' ⟨rfl, rfl⟩) | (go_at_call 31; refine (awake23 _).mono ?_; rintro e w' ⟨rfl, rfl⟩))
  go_ret
  exact ⟨rfl, Below.refl _ _⟩
end clockAdvance

namespace clockExpiry
theorem walk (a0 a1 a2 : Int) (w : World) (i0 : I64 a0) (_ : I64 a1) (_ : I64 a2) :
    Calls Try.prog 4 #[.int .i64 a0, .int .i64 a1, .int .i64 a2] w fun e w' => e = .returned (.bool true) ∧ Below w.heap.size w w' := by
  obtain ⟨x, hx⟩ : ∃ x, pickI a1 100 = x := ⟨_, rfl⟩
  obtain ⟨y, hy⟩ : ∃ y, pickI a2 200 = y := ⟨_, rfl⟩
  have bx := pickI_bd a1 100 (by omega)
  have bz := pickI_bd a2 200 (by omega)
  rw [hx] at bx
  rw [hy] at bz
  obtain ⟨bx0, bx1⟩ := bx
  obtain ⟨by0, by1⟩ := bz
  go_enter Try.func4, Try.ntmps4
  go_wp2_with fail
  refine (ltick_any _ i0 _).mono ?_
  rintro e w' ⟨t, t0, t1, rfl, rfl⟩
  have hb := tickB_true ⟨t0, t1⟩
  by_cases hov : 1073741824 - t < 1 + x
  · have d1 : dlV t (1 + x) = 0 := by unfold dlV; rw [if_neg (by omega)]
    have d2 : dlE t (1 + x) = 8 := by unfold dlE; rw [if_pos ⟨hb, by omega, by omega⟩, if_neg (by omega)]
    have h3 : 1073741824 < t + 1 + x := by omega
    go_wp2_with (first | (go_at_call 29; refine (pick_any _ _ (by omega) (by omega) _).mono ?_; rintro e w' ⟨rfl, rfl⟩) | (go_at_call 32; refine (deadline_any _ _ _).mono ?_; rintro e w' ⟨rfl, rfl⟩) | (go_at_call 31; refine (awake23 _).mono ?_; rintro e w' ⟨rfl, rfl⟩))
    go_ret
    exact ⟨rfl, Below.refl _ _⟩
  · obtain ⟨d, hd⟩ : ∃ d, t + (1 + x) = d := ⟨_, rfl⟩
    have bd0 : t + 1 ≤ d := by omega
    have bd1 : d ≤ 1073741824 := by omega
    have d1 : dlV t (1 + x) = d := by unfold dlV; rw [if_pos ⟨hb, by omega, by omega, by omega⟩, hd]
    have d2 : dlE t (1 + x) = 0 := by unfold dlE; rw [if_pos ⟨hb, by omega, by omega⟩, if_pos (by omega)]
    clear hd
    have l1 : liveB 1 d t = true := by simp [liveB]; omega
    have l2 : liveB 1 d d = false := by simp [liveB]
    have l3 : liveB 1 d (d - 1) = true := by simp [liveB]; omega
    have l5 : liveB 1 d 1073741824 = false := by simp [liveB]; omega
    have lf : leftI 1 d t = d - t := by simp [leftI, l1, hb]; intro h; rw [tickB_true ⟨by omega, bd1⟩] at h; cases h
    obtain ⟨s, hs⟩ : ∃ s, advI t y = s := ⟨_, rfl⟩
    have l4 : liveB 1 d s = decide (s < d) := by simp [liveB]
    go_wp2_with (first | (go_at_call 29; refine (pick_any _ _ (by omega) (by omega) _).mono ?_; rintro e w' ⟨rfl, rfl⟩) | (go_at_call 32; refine (deadline_any _ _ _).mono ?_; rintro e w' ⟨rfl, rfl⟩) | (go_at_call 30; refine (advance_any _ _ _).mono ?_; rintro e w' ⟨rfl, rfl⟩) | (go_at_call 31; refine (awake23 _).mono ?_; rintro e w' ⟨rfl, rfl⟩) | (go_at_call 33; refine (live_any _ _ _ _ _ _).mono ?_; rintro e w1 ⟨rfl, hy⟩; (first | (have hx := hx.trans hy) | (have hx := hy)); have hc := fun i => hx.cell (p := ⟨w.heap.size, i, none⟩) (by first | (simp; done) | (simp; omega)); have hz := fun i => hx.frozen (p := ⟨w.heap.size, i, none⟩) (by first | (simp; done) | (simp; omega)); have hs : w.heap.size + 1 ≤ w1.heap.size := by (have hs1 := hx.size; simp at hs1; omega)) | (go_at_call 34; refine (left_any _ _ _ _ _ _).mono ?_; rintro e w1 ⟨rfl, hy⟩; (first | (have hx := hx.trans hy) | (have hx := hy)); have hc := fun i => hx.cell (p := ⟨w.heap.size, i, none⟩) (by first | (simp; done) | (simp; omega)); have hz := fun i => hx.frozen (p := ⟨w.heap.size, i, none⟩) (by first | (simp; done) | (simp; omega)); have hs : w.heap.size + 1 ≤ w1.heap.size := by (have hs1 := hx.size; simp at hs1; omega)))
    go_ret
    exact ⟨rfl, Ext.below (by repeat' (first | exact Ext.refl _ | assumption | apply Ext.alloc | apply Ext.drewN | apply Ext.drew | (refine Ext.trans ?_ (by assumption)) | (refine ext_setCell ?_ (by first | (simp; done) | (simp; omega)) _)))⟩
end clockExpiry

namespace clockForever
theorem walk (a0 : Int) (st ow dl : Int) (nm : ByteArray) (w : World) (_ : I64 a0) (_ : I64 st) (_ : I64 ow) (_ : I64 dl) (_ : nm.size ≤ maxLen) :
    Calls Try.prog 5 #[.int .i64 a0, .agg #[.int .i64 st, .int .i64 ow, .string nm, .int .i64 dl]] w fun e w' => e = .returned (.bool true) ∧ Below w.heap.size w w' := by
  have l1 : liveB 2 dl a0 = true := by simp [liveB]
  have l2 : liveB 0 dl a0 = false := by simp [liveB]
  have l3 : leftI 0 dl a0 = 0 := by simp [leftI]
  go_enter Try.func5, Try.ntmps5
  go_wp2_with (first | (go_at_call 31; refine (awake23 _).mono ?_; rintro e w' ⟨rfl, rfl⟩) | (go_at_call 33; refine (live_any _ _ _ _ _ _).mono ?_; rintro e w1 ⟨rfl, hy⟩; (first | (have hx := hx.trans hy) | (have hx := hy)); have hc := fun i => hx.cell (p := ⟨w.heap.size, i, none⟩) (by first | (simp; done) | (simp; omega)); have hz := fun i => hx.frozen (p := ⟨w.heap.size, i, none⟩) (by first | (simp; done) | (simp; omega)); have hs : w.heap.size + 1 ≤ w1.heap.size := by (have hs1 := hx.size; simp at hs1; omega)) | (go_at_call 34; refine (left_any _ _ _ _ _ _).mono ?_; rintro e w1 ⟨rfl, hy⟩; (first | (have hx := hx.trans hy) | (have hx := hy)); have hc := fun i => hx.cell (p := ⟨w.heap.size, i, none⟩) (by first | (simp; done) | (simp; omega)); have hz := fun i => hx.frozen (p := ⟨w.heap.size, i, none⟩) (by first | (simp; done) | (simp; omega)); have hs : w.heap.size + 1 ≤ w1.heap.size := by (have hs1 := hx.size; simp at hs1; omega)))
  go_ret
  exact ⟨rfl, Ext.below (by repeat' (first | exact Ext.refl _ | assumption | apply Ext.alloc | apply Ext.drewN | apply Ext.drew | (refine Ext.trans ?_ (by assumption)) | (refine ext_setCell ?_ (by first | (simp; done) | (simp; omega)) _)))⟩
end clockForever
end Go.Proofs.Ytkhfjedeccjnbaa
