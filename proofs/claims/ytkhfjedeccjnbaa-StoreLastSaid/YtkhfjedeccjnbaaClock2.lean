/-
  More of chapter 23: Left in both texts, the law's own tick and its example.
  Conditions: none.
-/
import Derived.Test.YtkhfjedeccjnbaaClock
namespace Go.Proofs.Ytkhfjedeccjnbaa
open Go.RowKit Go.Sort
set_option maxHeartbeats 400000

/-- Left (23.3). -/
def leftI (st dl now : Int) : Int := if st = 1 ∧ liveB st dl now = true ∧ tickB dl = true ∧ tickB now = true then dl - now else 0

theorem left_any (st ow dl now : Int) (nm : ByteArray) (w : World) :
    Calls Try.prog 34 #[.agg #[.int .i64 st, .int .i64 ow, .string nm, .int .i64 dl], .int .i64 now] w fun e w' => e = .returned (.int .i64 (leftI st dl now)) ∧ Ext w w' := by
  by_cases h1 : st = 1
  · subst h1
    cases hl : liveB 1 dl now
    · have H := Lib.hid (show leftI 1 dl now = 0 by simp [leftI, hl])
      go_enter Try.func34, Try.ntmps34
      go_wp2_with (go_at_call 33; refine (live_any _ _ _ _ _ _).mono ?_; rintro e w1 ⟨rfl, hx⟩)
      go_ret
      exact ⟨by rw [H.out]; rfl, (by repeat' (first | exact Ext.refl _ | assumption | apply Ext.alloc | apply Ext.drewN | apply Ext.drew | (refine Ext.trans ?_ (by assumption)) | (refine ext_setCell ?_ (by first | (simp; done) | (simp; omega)) _)))⟩
    · cases hd : tickB dl
      · have H := Lib.hid (show leftI 1 dl now = 0 by simp [leftI, hd])
        go_enter Try.func34, Try.ntmps34
        go_wp2_with (first | (go_at_call 33; refine (live_any _ _ _ _ _ _).mono ?_; rintro e w1 ⟨rfl, hx⟩; have hc := fun i => hx.cell (p := ⟨w.heap.size, i, none⟩) (by simp)) | (go_at_call 89; refine (tick_any _ _).mono ?_; rintro e w' ⟨rfl, rfl⟩))
        go_ret
        exact ⟨by rw [H.out]; rfl, (by repeat' (first | exact Ext.refl _ | assumption | apply Ext.alloc | apply Ext.drewN | apply Ext.drew | (refine Ext.trans ?_ (by assumption)) | (refine ext_setCell ?_ (by first | (simp; done) | (simp; omega)) _)))⟩
      · cases hn : tickB now
        · have H := Lib.hid (show leftI 1 dl now = 0 by simp [leftI, hn])
          go_enter Try.func34, Try.ntmps34
          go_wp2_with (first | (go_at_call 33; refine (live_any _ _ _ _ _ _).mono ?_; rintro e w1 ⟨rfl, hx⟩; have hc := fun i => hx.cell (p := ⟨w.heap.size, i, none⟩) (by simp)) | (go_at_call 89; refine (tick_any _ _).mono ?_; rintro e w' ⟨rfl, rfl⟩))
          go_ret
          exact ⟨by rw [H.out]; rfl, (by repeat' (first | exact Ext.refl _ | assumption | apply Ext.alloc | apply Ext.drewN | apply Ext.drew | (refine Ext.trans ?_ (by assumption)) | (refine ext_setCell ?_ (by first | (simp; done) | (simp; omega)) _)))⟩
        · have H := Lib.hid (show leftI 1 dl now = dl - now by simp [leftI, hn, hl, hd])
          have b1 : 0 ≤ dl ∧ dl ≤ 1073741824 := by simpa [tickB] using hd
          have b2 : 0 ≤ now ∧ now ≤ 1073741824 := by simpa [tickB] using hn
          obtain ⟨b1, b1'⟩ := b1
          obtain ⟨b2, b2'⟩ := b2
          go_enter Try.func34, Try.ntmps34
          go_wp2_with (first | (go_at_call 33; refine (live_any _ _ _ _ _ _).mono ?_; rintro e w1 ⟨rfl, hx⟩; have hc := fun i => hx.cell (p := ⟨w.heap.size, i, none⟩) (by simp)) | (go_at_call 89; refine (tick_any _ _).mono ?_; rintro e w' ⟨rfl, rfl⟩))
          go_ret
          exact ⟨by rw [H.out]; rfl, (by repeat' (first | exact Ext.refl _ | assumption | apply Ext.alloc | apply Ext.drewN | apply Ext.drew | (refine Ext.trans ?_ (by assumption)) | (refine ext_setCell ?_ (by first | (simp; done) | (simp; omega)) _)))⟩
  · have H := Lib.hid (show leftI st dl now = 0 by simp [leftI, h1])
    go_enter Try.func34, Try.ntmps34
    go_wp2
    go_ret
    exact ⟨by rw [H.out]; rfl, (by repeat' (first | exact Ext.refl _ | assumption | apply Ext.alloc | apply Ext.drewN | apply Ext.drew | (refine Ext.trans ?_ (by assumption)) | (refine ext_setCell ?_ (by first | (simp; done) | (simp; omega)) _)))⟩

theorem rleft_any (st ow dl now : Int) (nm : ByteArray) (w : World) :
    Calls Try.prog 39 #[.agg #[.int .i64 st, .int .i64 ow, .string nm, .int .i64 dl], .int .i64 now] w fun e w' => e = .returned (.int .i64 (leftI st dl now)) ∧ Ext w w' := by
  by_cases h1 : st = 1
  · subst h1
    cases hl : liveB 1 dl now
    · have H := Lib.hid (show leftI 1 dl now = 0 by simp [leftI, hl])
      go_enter Try.func39, Try.ntmps39
      go_wp2_with (go_at_call 37; refine (rlive_any _ _ _ _ _ _).mono ?_; rintro e w1 ⟨rfl, hx⟩)
      go_ret
      exact ⟨by rw [H.out]; rfl, (by repeat' (first | exact Ext.refl _ | assumption | apply Ext.alloc | apply Ext.drewN | apply Ext.drew | (refine Ext.trans ?_ (by assumption)) | (refine ext_setCell ?_ (by first | (simp; done) | (simp; omega)) _)))⟩
    · cases hn : tickB now
      · have H := Lib.hid (show leftI 1 dl now = 0 by simp [leftI, hn])
        go_enter Try.func39, Try.ntmps39
        go_wp2_with (first | (go_at_call 37; refine (rlive_any _ _ _ _ _ _).mono ?_; rintro e w1 ⟨rfl, hx⟩; have hc := fun i => hx.cell (p := ⟨w.heap.size, i, none⟩) (by simp)) | (go_at_call 90; refine (rtick_any _ _).mono ?_; rintro e w' ⟨rfl, rfl⟩))
        go_ret
        exact ⟨by rw [H.out]; rfl, (by repeat' (first | exact Ext.refl _ | assumption | apply Ext.alloc | apply Ext.drewN | apply Ext.drew | (refine Ext.trans ?_ (by assumption)) | (refine ext_setCell ?_ (by first | (simp; done) | (simp; omega)) _)))⟩
      · cases hd : tickB dl
        · have H := Lib.hid (show leftI 1 dl now = 0 by simp [leftI, hd])
          go_enter Try.func39, Try.ntmps39
          go_wp2_with (first | (go_at_call 37; refine (rlive_any _ _ _ _ _ _).mono ?_; rintro e w1 ⟨rfl, hx⟩; have hc := fun i => hx.cell (p := ⟨w.heap.size, i, none⟩) (by simp)) | (go_at_call 90; refine (rtick_any _ _).mono ?_; rintro e w' ⟨rfl, rfl⟩))
          go_ret
          exact ⟨by rw [H.out]; rfl, (by repeat' (first | exact Ext.refl _ | assumption | apply Ext.alloc | apply Ext.drewN | apply Ext.drew | (refine Ext.trans ?_ (by assumption)) | (refine ext_setCell ?_ (by first | (simp; done) | (simp; omega)) _)))⟩
        · have H := Lib.hid (show leftI 1 dl now = dl - now by simp [leftI, hn, hl, hd])
          have b1 : 0 ≤ dl ∧ dl ≤ 1073741824 := by simpa [tickB] using hd
          have b2 : 0 ≤ now ∧ now ≤ 1073741824 := by simpa [tickB] using hn
          obtain ⟨b1, b1'⟩ := b1
          obtain ⟨b2, b2'⟩ := b2
          go_enter Try.func39, Try.ntmps39
          go_wp2_with (first | (go_at_call 37; refine (rlive_any _ _ _ _ _ _).mono ?_; rintro e w1 ⟨rfl, hx⟩; have hc := fun i => hx.cell (p := ⟨w.heap.size, i, none⟩) (by simp)) | (go_at_call 90; refine (rtick_any _ _).mono ?_; rintro e w' ⟨rfl, rfl⟩))
          go_ret
          exact ⟨by rw [H.out]; rfl, (by repeat' (first | exact Ext.refl _ | assumption | apply Ext.alloc | apply Ext.drewN | apply Ext.drew | (refine Ext.trans ?_ (by assumption)) | (refine ext_setCell ?_ (by first | (simp; done) | (simp; omega)) _)))⟩
  · have H := Lib.hid (show leftI st dl now = 0 by simp [leftI, h1])
    go_enter Try.func39, Try.ntmps39
    go_wp2
    go_ret
    exact ⟨by rw [H.out]; rfl, (by repeat' (first | exact Ext.refl _ | assumption | apply Ext.alloc | apply Ext.drewN | apply Ext.drew | (refine Ext.trans ?_ (by assumption)) | (refine ext_setCell ?_ (by first | (simp; done) | (simp; omega)) _)))⟩

/-- Some integer of a range is returned, and the world is as it was. -/
def RetIn (lo hi : Int) (w : World) (e : Ending) (w' : World) : Prop := ∃ n, lo ≤ n ∧ n ≤ hi ∧ e = .returned (.int .i64 n) ∧ w = w'

theorem ltick_any (v : Int) (hv : I64 v) (w : World) : Calls Try.prog 28 #[.int .i64 v] w (RetIn 0 1073741824 w) := by
  obtain ⟨hv0, hv1⟩ := hv
  obtain ⟨p, hp⟩ : ∃ p, pickI v 3 = p := ⟨_, rfl⟩
  have b := pickI_bd v 3 (by omega)
  rw [hp] at b
  obtain ⟨b0, b1⟩ := b
  have c1 := pickI_bd (v.tdiv 3) 40 (by omega)
  have c2 := pickI_bd (v.tdiv 3) 1073741825 (by omega)
  obtain ⟨c1, c1'⟩ := c1
  obtain ⟨c2, c2'⟩ := c2
  by_cases h0 : p = 0
  · subst h0
    go_enter Try.func28, Try.ntmps28
    go_wp2_with (go_at_call 29; refine (pick_any _ _ (by omega) (by omega) _).mono ?_; rintro e w' ⟨rfl, rfl⟩)
    go_ret
    exact ⟨_, c1, by omega, rfl, rfl⟩
  · by_cases h1 : p = 1
    · subst h1
      go_enter Try.func28, Try.ntmps28
      go_wp2_with (go_at_call 29; refine (pick_any _ _ (by omega) (by omega) _).mono ?_; rintro e w' ⟨rfl, rfl⟩)
      go_ret
      exact ⟨_, by omega, by omega, rfl, rfl⟩
    · have h2 : p = 2 := by omega
      subst h2
      go_enter Try.func28, Try.ntmps28
      go_wp2_with (go_at_call 29; refine (pick_any _ _ (by omega) (by omega) _).mono ?_; rintro e w' ⟨rfl, rfl⟩)
      go_ret
      exact ⟨_, c2, by omega, rfl, rfl⟩

theorem awake23 (w : World) : Calls Try.prog 31 #[] w fun e w' => e = .returned (.bool true) ∧ w = w' := by
  have d1 : dlV 1073741824 1 = 0 := by decide
  have d2 : dlE 1073741824 1 = 8 := by decide
  have d3 : dlV 3 4 = 7 := by decide
  have d4 : dlE 3 4 = 0 := by decide
  have d5 : advI 1073741824 1 = 1073741824 := by decide
  go_enter Try.func31, Try.ntmps31
  go_wp2_with (first | (go_at_call 32; refine (deadline_any _ _ _).mono ?_; rintro e w' ⟨rfl, rfl⟩) | (go_at_call 30; refine (advance_any _ _ _).mono ?_; rintro e w' ⟨rfl, rfl⟩))
  go_ret
  exact ⟨rfl, rfl⟩
end Go.Proofs.Ytkhfjedeccjnbaa
