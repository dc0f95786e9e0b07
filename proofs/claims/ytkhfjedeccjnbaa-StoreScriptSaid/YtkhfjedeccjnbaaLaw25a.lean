/-
  The law's example of chapter 25, and the walk of LocksNew: it returns true and changes nothing that was there.
  Conditions: none.
-/
import Derived.Test.YtkhfjedeccjnbaaProbe
import Derived.Test.YtkhfjedeccjnbaaClock
namespace Go.Proofs.Ytkhfjedeccjnbaa
open Go.RowKit Go.Sort
set_option maxHeartbeats 1000000

theorem acq_new {n : Nat} {sl : Nat → Option ByteArray} {ow : Nat → Int} {u : Int} {key : ByteArray} {c code : Int} {sl' : Nat → Option ByteArray} {ow' : Nat → Int} {u' : Int} (hno : ∀ i, ¬ Has n sl key i) (hc : 0 ≤ c ∧ c < 64) (hr : ¬ (n : Int) - u < 2) (s : AcqSpec n sl ow u key c code sl' ow' u') :
    code = 0 ∧ ∃ p, FindAt n sl key p false ∧ sl' = upd sl p (some key) ∧ ow' = upd ow p c ∧ u' = u + 1 := by
  rcases s with ⟨h, _⟩ | ⟨_, p, ok, f, s⟩
  · exact absurd hc h
  · have hm := (Tab.miss hno f).1
    subst hm
    rcases s with ⟨h, _⟩ | ⟨h, _⟩ | ⟨_, h, _⟩ | ⟨_, _, h1, h2, h3, h4⟩
    · simp at h
    · simp at h
    · exact absurd h hr
    · exact ⟨h1, p, f, h2, h3, h4⟩
theorem acq_full {n : Nat} {sl : Nat → Option ByteArray} {ow : Nat → Int} {u : Int} {key : ByteArray} {c code : Int} {sl' : Nat → Option ByteArray} {ow' : Nat → Int} {u' : Int} (hno : ∀ i, ¬ Has n sl key i) (hc : 0 ≤ c ∧ c < 64) (hr : (n : Int) - u < 2) (s : AcqSpec n sl ow u key c code sl' ow' u') :
    code = 7 ∧ sl' = sl ∧ ow' = ow ∧ u' = u := by
  rcases s with ⟨h, _⟩ | ⟨_, p, ok, f, s⟩
  · exact absurd hc h
  · have hm := (Tab.miss hno f).1
    subst hm
    rcases s with ⟨h, _⟩ | ⟨h, _⟩ | ⟨_, _, h⟩ | ⟨_, h, _⟩
    · simp at h
    · simp at h
    · exact h
    · exact absurd hr h
theorem acq_busy {n : Nat} {sl : Nat → Option ByteArray} {ow : Nat → Int} {u : Int} {key : ByteArray} {c code : Int} {sl' : Nat → Option ByteArray} {ow' : Nat → Int} {u' : Int} (t : Tab n sl u) {i : Nat} (hi : Has n sl key i) (ho : ow i ≠ c) (hc : 0 ≤ c ∧ c < 64) (s : AcqSpec n sl ow u key c code sl' ow' u') :
    code = 27 ∧ sl' = sl ∧ ow' = ow ∧ u' = u := by
  rcases s with ⟨h, _⟩ | ⟨_, p, ok, f, s⟩
  · exact absurd hc h
  · obtain ⟨hm, hp⟩ := t.hit hi f
    subst hm hp
    rcases s with ⟨_, _, h⟩ | ⟨_, h, _⟩ | ⟨h, _⟩ | ⟨h, _⟩
    · exact h
    · exact absurd h ho
    · simp at h
    · simp at h
theorem acq_again {n : Nat} {sl : Nat → Option ByteArray} {ow : Nat → Int} {u : Int} {key : ByteArray} {c code : Int} {sl' : Nat → Option ByteArray} {ow' : Nat → Int} {u' : Int} (t : Tab n sl u) {i : Nat} (hi : Has n sl key i) (ho : ow i = c) (hc : 0 ≤ c ∧ c < 64) (s : AcqSpec n sl ow u key c code sl' ow' u') :
    code = 0 ∧ sl' = sl ∧ ow' = ow ∧ u' = u := by
  rcases s with ⟨h, _⟩ | ⟨_, p, ok, f, s⟩
  · exact absurd hc h
  · obtain ⟨hm, hp⟩ := t.hit hi f
    subst hm hp
    rcases s with ⟨_, h, _⟩ | ⟨_, _, h⟩ | ⟨h, _⟩ | ⟨h, _⟩
    · exact absurd ho h
    · exact h
    · simp at h
    · simp at h

theorem no_has (n : Nat) (key : ByteArray) (i : Nat) : ¬ Has n (fun _ => none) key i := fun h => by simpa [Has] using h.2

theorem awake25 (w : World) : Calls Try.prog 44 #[] w fun e w' => e = .returned (.bool true) ∧ Ext w w' := by
  go_enter Try.func44, Try.ntmps44
  go_wp2_with fail
  refine (new_any 2 _).mono ?_
  rintro e w1 (⟨hp, _⟩ | ⟨_, b, g, h, rfl, hb, hg, hh, hl, hx⟩)
  · exact absurd hp (by decide)
  have hl1 : LocksAt w1 b g h 2 (fun _ => none) (fun _ => 0) 0 := hl
  clear hl
  have t1 := tab_new (n := 2) (by omega)
  go_wp2_with fail
  refine (acquire_any b g h 2 _ _ 0 ⟨#[97]⟩ 3 _ (by omega) (by omega) (by decide) hl1 (by omega) (by omega) 0 (by omega) rfl).mono ?_
  rintro e w2 ⟨code, sl, ow, u, rfl, hs, hl2, hc1⟩
  obtain ⟨rfl, p, hf, rfl, rfl, rfl⟩ := acq_new (no_has 2 _) (by omega) (by omega) hs
  have t2 := t1.ins hf
  have hp := hf.lt
  have ha : Has 2 (upd (fun _ => none) p (some ⟨#[97]⟩)) ⟨#[97]⟩ p := ⟨hp, upd_same _ _ _⟩
  have hb' : ∀ i, ¬ Has 2 (upd (fun _ => none) p (some (⟨#[97]⟩ : ByteArray))) ⟨#[98]⟩ i := fun i hi => by
    have h2 := hi.2
    unfold upd at h2
    split at h2 <;> simp at h2
  obtain ⟨fu, hfu, hfree⟩ := t2.free (by omega)
  clear hs hf
  go_wp2_with fail
  refine (acquire_any b g h 2 _ _ _ ⟨#[98]⟩ 3 _ (by omega) (by omega) (by decide) hl2 (by omega) (by omega) fu hfu hfree).mono ?_
  rintro e w3 ⟨code, sl, ow, u, rfl, hs, hl3, hc2⟩
  obtain ⟨rfl, rfl, rfl, rfl⟩ := acq_full hb' (by omega) (by omega) hs
  clear hs hl2
  go_wp2_with fail
  refine (owner_any b g h 2 _ _ _ ⟨#[97]⟩ _ (by omega) (by omega) (by decide) hl3 fu hfu hfree).mono ?_
  rintro e w4 ⟨q, ok, hf, rfl, hx4⟩
  obtain ⟨rfl, rfl⟩ := t2.hit ha hf
  have e3 : upd (fun _ => (0 : Int)) q 3 q = 3 := upd_same _ _ _
  have hl4 := hl3.ext hx4
  go_wp2_with fail
  refine (acquire_any b g h 2 _ _ _ ⟨#[97]⟩ 4 _ (by omega) (by omega) (by decide) hl4 (by omega) (by omega) fu hfu hfree).mono ?_
  rintro e w5 ⟨code, sl, ow, u, rfl, hs, hl5, hc3⟩
  obtain ⟨rfl, rfl, rfl, rfl⟩ := acq_busy t2 ha (by rw [e3]; omega) (by omega) hs
  go_wp2_with fail
  go_ret
  refine ⟨rfl, ?_⟩
  have hS : ∀ i, (i = b ∨ i = g ∨ i = h) → w.heap.size ≤ i := by rintro i (rfl | rfl | rfl) <;> assumption
  exact (((hx.chg_new hc1 hS).chg_new hc2 hS).trans hx4).chg_new hc3 hS
theorem new_t {n : Int} (h : powB n 2 = true) (w : World) : Calls Try.prog 42 #[.int .i64 n] w fun e w' => ∃ b, e = .returned (.tuple #[.pointer (some b), .int .i64 0]) ∧ Ext w w' := by
  refine (new_any n w).mono ?_
  rintro e w' (⟨hp, _⟩ | ⟨_, b, _, _, rfl, _, _, _, _, hx⟩)
  · rw [h] at hp; simp at hp
  · exact ⟨_, rfl, hx⟩
theorem new_f {n : Int} (h : powB n 2 = false) (w : World) : Calls Try.prog 42 #[.int .i64 n] w fun e w' => e = .returned (.tuple #[.pointer none, .int .i64 3]) ∧ w = w' := by
  refine (new_any n w).mono ?_
  rintro e w' (⟨_, rfl, rfl⟩ | ⟨hp, _⟩)
  · exact ⟨rfl, rfl⟩
  · rw [h] at hp; simp at hp
theorem rnew_t {n : Int} (h : powB n 2 = true) (w : World) : Calls Try.prog 43 #[.int .i64 n] w fun e w' => ∃ b, e = .returned (.tuple #[.pointer (some b), .int .i64 0]) ∧ Ext w w' := by
  refine (rnew_any n w).mono ?_
  rintro e w' (⟨hp, _⟩ | ⟨_, b, _, _, rfl, _, _, _, _, _, _, _, hx⟩)
  · rw [h] at hp; simp at hp
  · exact ⟨_, rfl, hx⟩
theorem rnew_f {n : Int} (h : powB n 2 = false) (w : World) : Calls Try.prog 43 #[.int .i64 n] w fun e w' => e = .returned (.tuple #[.pointer none, .int .i64 3]) ∧ w = w' := by
  refine (rnew_any n w).mono ?_
  rintro e w' (⟨_, rfl, rfl⟩ | ⟨hp, _⟩)
  · exact ⟨rfl, rfl⟩
  · rw [h] at hp; simp at hp

set_option maxRecDepth 100000
namespace locksNew
theorem walk (a0 a1 : Int) (s : ByteArray) (w : World) (_ : I64 a0) (_ : I64 a1) (hs : s.size ≤ maxLen) :
    Calls Try.prog 8 #[.int .i64 a0, .int .i64 a1, .string s] w fun e w' => e = .returned (.bool true) ∧ Below w.heap.size w w' := by
  obtain ⟨k, hkk⟩ : ∃ k, pickI a1 2100 = k := ⟨_, rfl⟩
  have hx := Ext.refl w
  cases hp : powB a0 2 <;> cases hk : powB k 2
  all_goals
    go_enter Try.func8, Try.ntmps8
    go_wp2_with (first | (go_at_call 29; refine (pick_any _ _ (by omega) (by omega) _).mono ?_; rintro e w' ⟨rfl, rfl⟩) | (go_at_call 42; first | (with_reducible refine (new_t hp _).mono ?_; rintro e w1 ⟨b, rfl, hy⟩; have hx := hx.trans hy; clear hy) | (with_reducible refine (new_t hk _).mono ?_; rintro e w1 ⟨b, rfl, hy⟩; have hx := hx.trans hy; clear hy) | (with_reducible refine (new_f hp _).mono ?_; rintro e w1 ⟨rfl, rfl⟩) | (with_reducible refine (new_f hk _).mono ?_; rintro e w1 ⟨rfl, rfl⟩)) | (go_at_call 43; first | (with_reducible refine (rnew_t hp _).mono ?_; rintro e w1 ⟨b, rfl, hy⟩; have hx := hx.trans hy; clear hy) | (with_reducible refine (rnew_t hk _).mono ?_; rintro e w1 ⟨b, rfl, hy⟩; have hx := hx.trans hy; clear hy) | (with_reducible refine (rnew_f hp _).mono ?_; rintro e w1 ⟨rfl, rfl⟩) | (with_reducible refine (rnew_f hk _).mono ?_; rintro e w1 ⟨rfl, rfl⟩)) | (go_at_call 44; refine (awake25 _).mono ?_; rintro e w1 ⟨rfl, hy⟩; have hx := hx.trans hy; clear hy) | (go_at_call 45; refine (home_any _ _ _ hs).mono ?_; rintro e w1 ⟨rfl, hy⟩; have hx := hx.trans hy; clear hy) | (go_at_call 46; refine (rhome_any _ _ _ hs).mono ?_; rintro e w1 ⟨rfl, rfl⟩))
    go_ret
    exact ⟨rfl, Ext.below hx⟩
end locksNew
end Go.Proofs.Ytkhfjedeccjnbaa
