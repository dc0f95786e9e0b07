/-
  The readers of the journal (33.3), in the program and in its reference: they read numbers and texts as the plain law says.
  Conditions: the reader lies in memory, and its place lies in the string.
-/
import Derived.Test.YtfbhbnolnjcaiaaGetInt
import Derived.Deep.RegionHeld3
namespace Go.Proofs.Ytfbhbnolnjcaiaa
open Go.RowKit Go.Sort
set_option maxHeartbeats 2000000
set_option maxRecDepth 10000

theorem getInt_some {s : ByteArray} {t : Nat} {v : Int} {k : Nat} (hg : getI (s.data.toList.drop t) = some (v, k)) (ht : t ≤ s.size) (hs : s.size ≤ 140737488355328) (w : World) :
    Calls Try.prog 127 #[.string s, .int .i64 (t : Int)] w fun e w' => e = .returned (.tuple #[.int .i64 v, .int .i64 ((t + k : Nat) : Int), .int .i64 0]) ∧ w = w' := by
  refine (getInt_any s t ht hs w).mono ?_
  rintro e w1 ⟨rfl, ⟨v', k', h, rfl⟩ | ⟨h, _⟩⟩
  · rw [hg] at h; simp only [Option.some.injEq, Prod.mk.injEq] at h; obtain ⟨rfl, rfl⟩ := h; exact ⟨rfl, rfl⟩
  · rw [hg] at h; simp at h
theorem getInt_none {s : ByteArray} {t : Nat} (hg : getI (s.data.toList.drop t) = none) (ht : t ≤ s.size) (hs : s.size ≤ 140737488355328) (w : World) :
    Calls Try.prog 127 #[.string s, .int .i64 (t : Int)] w fun e w' => ∃ c : Int, (c == 0) = false ∧ e = .returned (.tuple #[.int .i64 0, .int .i64 (t : Int), .int .i64 c]) ∧ w = w' := by
  refine (getInt_any s t ht hs w).mono ?_
  rintro e w1 ⟨rfl, ⟨v', k', h, rfl⟩ | ⟨_, c, hc, rfl⟩⟩
  · rw [hg] at h; simp at h
  · exact ⟨c, by simpa using hc, rfl, rfl⟩
theorem rgetInt_some {s : ByteArray} {t : Nat} {v : Int} {k : Nat} (hg : getI (s.data.toList.drop t) = some (v, k)) (ht : t ≤ s.size) (hs : s.size ≤ 140737488355328) (w : World) :
    Calls Try.prog 128 #[.string s, .int .i64 (t : Int)] w fun e w' => e = .returned (.tuple #[.int .i64 v, .int .i64 ((t + k : Nat) : Int), .int .i64 0]) ∧ w = w' := by
  refine (rgetInt_any s t ht hs w).mono ?_
  rintro e w1 ⟨rfl, ⟨v', k', h, rfl⟩ | ⟨h, _⟩⟩
  · rw [hg] at h; simp only [Option.some.injEq, Prod.mk.injEq] at h; obtain ⟨rfl, rfl⟩ := h; exact ⟨rfl, rfl⟩
  · rw [hg] at h; simp at h
theorem rgetInt_none {s : ByteArray} {t : Nat} (hg : getI (s.data.toList.drop t) = none) (ht : t ≤ s.size) (hs : s.size ≤ 140737488355328) (w : World) :
    Calls Try.prog 128 #[.string s, .int .i64 (t : Int)] w fun e w' => ∃ c : Int, (c == 0) = false ∧ e = .returned (.tuple #[.int .i64 0, .int .i64 (t : Int), .int .i64 c]) ∧ w = w' := by
  refine (rgetInt_any s t ht hs w).mono ?_
  rintro e w1 ⟨rfl, ⟨v', k', h, rfl⟩ | ⟨_, c, hc, rfl⟩⟩
  · rw [hg] at h; simp at h
  · exact ⟨c, by simpa using hc, rfl, rfl⟩
/-- Block b is a reader of s that stands at t. -/
def RdrAt (w : World) (b : Nat) (s : ByteArray) (t : Nat) (bad : Bool) : Prop :=
  b < w.heap.size ∧ (∀ i, w.frozen? ⟨b, i, none⟩ = false) ∧ w.cell? ⟨b, 0, none⟩ = some (.string s) ∧ w.cell? ⟨b, 1, none⟩ = some (.int .i64 (t : Int)) ∧ w.cell? ⟨b, 2, none⟩ = some (.bool bad)
theorem RdrAt.chg {S : Nat → Prop} {w w' : World} {b t : Nat} {s : ByteArray} {bad : Bool} (h : RdrAt w b s t bad) (c : Chg S w w') (hb : ¬ S b) : RdrAt w' b s t bad := by
  obtain ⟨h1, h2, h3, h4, h5⟩ := h
  exact ⟨Nat.lt_of_lt_of_le h1 c.size, fun i => (c.frozen (p := ⟨b, i, none⟩) h1 hb).trans (h2 i), (c.cell (p := ⟨b, 0, none⟩) h1 hb).trans h3, (c.cell (p := ⟨b, 1, none⟩) h1 hb).trans h4, (c.cell (p := ⟨b, 2, none⟩) h1 hb).trans h5⟩
theorem RdrAt.ext {w w' : World} {b t : Nat} {s : ByteArray} {bad : Bool} (h : RdrAt w b s t bad) (x : Ext w w') : RdrAt w' b s t bad := h.chg (x.chg (fun _ => False)) (fun h => h)
def NumPost (b : Nat) (s : ByteArray) (t : Nat) (bad : Bool) (w : World) (e : Ending) (w' : World) : Prop :=
  e = .returned (.int .i64 (numR s.data.toList t bad).1) ∧ RdrAt w' b s (numR s.data.toList t bad).2.1 (numR s.data.toList t bad).2.2 ∧ Chg (· = b) w w'
theorem within_any (n lo hi : Int) (w : World) : Calls Try.prog 126 #[.int .i64 n, .int .i64 lo, .int .i64 hi] w fun e w' => e = .returned (.bool (decide (lo ≤ n) && decide (n ≤ hi))) ∧ w = w' := by
  by_cases h : lo ≤ n
  · have hd : decide (lo ≤ n) = true := by simpa using h
    go_enter Try.func126, Try.ntmps126
    go_wp2
    go_ret
    simp_all
  · have hd : decide (lo ≤ n) = false := by simpa using h
    go_enter Try.func126, Try.ntmps126
    go_wp2
    go_ret
    simp_all
theorem RdrAt.move {w : World} {b t t' : Nat} {s : ByteArray} {bad : Bool} (h : RdrAt w b s t bad) {n : Int} (hn : n = (t' : Int)) : RdrAt (w.setCell ⟨b, 1, none⟩ (.int .i64 n)) b s t' bad := by
  subst hn
  obtain ⟨h1, h2, h3, h4, h5⟩ := h
  exact ⟨by simpa [World.setCell] using h1, fun i => by go_simp, by go_simp, by go_simp, by go_simp⟩
theorem RdrAt.turn {w : World} {b t : Nat} {s : ByteArray} {bad : Bool} (h : RdrAt w b s t bad) : RdrAt (w.setCell ⟨b, 2, none⟩ (.bool true)) b s t true := by
  obtain ⟨h1, h2, h3, h4, h5⟩ := h
  exact ⟨by simpa [World.setCell] using h1, fun i => by go_simp, by go_simp, by go_simp, by go_simp⟩
theorem RdrAt.drew {w : World} {b t : Nat} {s : ByteArray} {bad : Bool} (h : RdrAt w b s t bad) : RdrAt w.drew b s t bad := h
theorem number_any (b : Nat) (s : ByteArray) (t : Nat) (bad : Bool) (ht : t ≤ s.size) (hs : s.size ≤ 140737488355328) (w : World) (hr : RdrAt w b s t bad) :
    Calls Try.prog 110 #[.pointer (some ⟨b, 0, none⟩)] w (NumPost b s t bad w) := by
  have Hr := Lib.hid hr
  obtain ⟨hb, hf, h0, h1, h2⟩ := hr
  cases bad
  · rcases hg : getI (s.data.toList.drop t) with _ | ⟨v, k⟩
    · have Hn := Lib.hid (show numR s.data.toList t false = (0, t, true) by simp only [numR, hg]; rfl)
      have Hg := Lib.hid hg
      clear hg
      go_enter Try.func110, Try.ntmps110
      go_wp2_with fail
      go_region_held3 (fun w' => w'.cell? ⟨b, 0, none⟩ = some (.string s) ∧ w'.cell? ⟨b, 1, none⟩ = some (.int .i64 (t : Int)) ∧ w'.cell? ⟨b, 2, none⟩ = some (.bool false)) (go_keep)
        (first | (go_at_call 127; refine (getInt_none Hg.out ht hs _).mono ?_; rintro e w1 ⟨c, hc, rfl, rfl⟩))
      go_wp2_with fail
      go_ret
      refine ⟨by rw [Hn.out]; rfl, ?_, ?_⟩
      · rw [Hn.out]; exact Hr.out.turn.drew
      · exact ((Chg.refl (· = b) w).setCell (p := ⟨b, 2, none⟩) (.inl rfl) _).drew
    · have Hn := Lib.hid (show numR s.data.toList t false = (v, t + k, false) by simp only [numR, hg]; rfl)
      have Hg := Lib.hid hg
      clear hg
      go_enter Try.func110, Try.ntmps110
      go_wp2_with fail
      go_region_held3 (fun w' => w'.cell? ⟨b, 0, none⟩ = some (.string s) ∧ w'.cell? ⟨b, 1, none⟩ = some (.int .i64 (t : Int)) ∧ w'.cell? ⟨b, 2, none⟩ = some (.bool false)) (go_keep)
        (first | (go_at_call 127; refine (getInt_some Hg.out ht hs _).mono ?_; rintro e w1 ⟨rfl, rfl⟩))
      go_wp2_with fail
      go_ret
      refine ⟨by rw [Hn.out]; rfl, ?_, ?_⟩
      · rw [Hn.out]; exact (Hr.out.move (by simp)).drew
      · exact ((Chg.refl (· = b) w).setCell (p := ⟨b, 1, none⟩) (.inl rfl) _).drew
  · go_enter Try.func110, Try.ntmps110
    go_wp2_with fail
    go_ret
    exact ⟨rfl, Hr.out, Chg.refl _ _⟩
theorem rnumber_any (b : Nat) (s : ByteArray) (t : Nat) (bad : Bool) (ht : t ≤ s.size) (hs : s.size ≤ 140737488355328) (w : World) (hr : RdrAt w b s t bad) :
    Calls Try.prog 113 #[.pointer (some ⟨b, 0, none⟩)] w (NumPost b s t bad w) := by
  have Hr := Lib.hid hr
  obtain ⟨hb, hf, h0, h1, h2⟩ := hr
  cases bad
  · rcases hg : getI (s.data.toList.drop t) with _ | ⟨v, k⟩
    · have Hn := Lib.hid (show numR s.data.toList t false = (0, t, true) by simp only [numR, hg]; rfl)
      have Hg := Lib.hid hg
      clear hg
      go_enter Try.func113, Try.ntmps113
      go_wp2_with fail
      go_region_held3 (fun w' => w'.cell? ⟨b, 0, none⟩ = some (.string s) ∧ w'.cell? ⟨b, 1, none⟩ = some (.int .i64 (t : Int)) ∧ w'.cell? ⟨b, 2, none⟩ = some (.bool false)) (go_keep)
        (first | (go_at_call 128; refine (rgetInt_none Hg.out ht hs _).mono ?_; rintro e w1 ⟨c, hc, rfl, rfl⟩))
      go_wp2_with fail
      go_ret
      refine ⟨by rw [Hn.out]; rfl, ?_, ?_⟩
      · rw [Hn.out]; exact Hr.out.turn.drew
      · exact ((Chg.refl (· = b) w).setCell (p := ⟨b, 2, none⟩) (.inl rfl) _).drew
    · have Hn := Lib.hid (show numR s.data.toList t false = (v, t + k, false) by simp only [numR, hg]; rfl)
      have Hg := Lib.hid hg
      clear hg
      go_enter Try.func113, Try.ntmps113
      go_wp2_with fail
      go_region_held3 (fun w' => w'.cell? ⟨b, 0, none⟩ = some (.string s) ∧ w'.cell? ⟨b, 1, none⟩ = some (.int .i64 (t : Int)) ∧ w'.cell? ⟨b, 2, none⟩ = some (.bool false)) (go_keep)
        (first | (go_at_call 128; refine (rgetInt_some Hg.out ht hs _).mono ?_; rintro e w1 ⟨rfl, rfl⟩))
      go_wp2_with fail
      go_ret
      refine ⟨by rw [Hn.out]; rfl, ?_, ?_⟩
      · rw [Hn.out]; exact (Hr.out.move (by simp)).drew
      · exact ((Chg.refl (· = b) w).setCell (p := ⟨b, 1, none⟩) (.inl rfl) _).drew
  · go_enter Try.func113, Try.ntmps113
    go_wp2_with fail
    go_ret
    exact ⟨rfl, Hr.out, Chg.refl _ _⟩
def TextPost (b : Nat) (s : ByteArray) (t : Nat) (bad : Bool) (w : World) (e : Ending) (w' : World) : Prop :=
  e = .returned (.string (bs (textR s.data.toList t bad).1)) ∧ RdrAt w' b s (textR s.data.toList t bad).2.1 (textR s.data.toList t bad).2.2 ∧ Chg (· = b) w w'
theorem text_any (b : Nat) (s : ByteArray) (t : Nat) (bad : Bool) (ht : t ≤ s.size) (hs : s.size ≤ 140737488355328) (w : World) (hr : RdrAt w b s t bad) :
    Calls Try.prog 109 #[.pointer (some ⟨b, 0, none⟩)] w (TextPost b s t bad w) := by
  have hsl : s.data.toList.length = s.size := rfl
  obtain ⟨n, t1, b1, hp⟩ : ∃ n t1 b1, numR s.data.toList t bad = (n, t1, b1) := ⟨_, _, _, rfl⟩
  have hle := numR_le (s := s.data.toList) (t := t) (b := bad) (by omega)
  have hbd := numR_bd s.data.toList t bad
  rw [hp] at hle hbd
  simp only at hle hbd
  have hnp : NumPost b s t bad w = fun e w' => e = .returned (.int .i64 n) ∧ RdrAt w' b s t1 b1 ∧ Chg (· = b) w w' := by unfold NumPost; rw [hp]
  have Hp := Lib.hid hp
  have Hnum := Lib.hid (hnp ▸ number_any b s t bad ht hs w hr)
  have hws : IntKind.i64.wrap ((s.size : Int) - (t1 : Int)) = (s.size : Int) - (t1 : Int) := IntWalk.i64_in _ (by omega)
  clear hp hnp hr
  by_cases hb1 : b1 = true ∨ n < 0 ∨ (s.size - t1 : Nat) < n
  · have Ht := Lib.hid (show textR s.data.toList t bad = ([], t1, true) by unfold textR; rw [Hp.out]; simp only; rw [hsl, if_pos hb1])
    have Hend := Lib.hid (show ∀ w' w2, RdrAt w' b s t1 b1 → Chg (· = b) w w' → w2 = (w'.setCell ⟨b, 2, none⟩ (.bool true)).drew → TextPost b s t bad w (.returned (.string ⟨#[]⟩)) w2 by
      rintro w' w2 h1 h2 rfl
      refine ⟨by rw [Ht.out]; rfl, by rw [Ht.out]; exact h1.turn.drew, (h2.setCell (p := ⟨b, 2, none⟩) (.inl rfl) _).drew⟩)
    go_enter Try.func109, Try.ntmps109
    go_wp2_with fail
    refine Hnum.out.mono ?_
    rintro e w1 ⟨rfl, hr1, hc1⟩
    have HE := Lib.hid (Hend.out w1 _ hr1 hc1 rfl)
    obtain ⟨g1, g2, h0, h1, h2⟩ := hr1
    clear Hend Hnum hc1
    rcases b1 with _ | _
    · have hn : n < 0 ∨ (s.size - t1 : Nat) < n := by simpa using hb1
      have hwf : (decide (0 ≤ n) && decide (n ≤ (s.size : Int) - (t1 : Int))) = false := by rcases hn with h | h <;> simp <;> omega
      clear hb1
      go_wp2_with fail
      go_region_held3 (fun w' => w'.cell? ⟨b, 0, none⟩ = some (.string s) ∧ w'.cell? ⟨b, 1, none⟩ = some (.int .i64 (t1 : Int)) ∧ w'.cell? ⟨b, 2, none⟩ = some (.bool false)) (go_keep)
        (first | (go_at_call 126; refine (within_any _ _ _ _).mono ?_; rintro e w2 ⟨rfl, rfl⟩; rw [hwf]))
      go_wp2_with fail
      go_ret
      exact HE.out
    · clear hb1
      go_wp2_with fail
      go_region
      go_wp2_with fail
      go_ret
      exact HE.out
  · have hb2 : b1 = false := by simpa using fun h => hb1 (.inl h)
    subst hb2
    have hn0 : 0 ≤ n := Int.not_lt.1 fun h => hb1 (.inr (.inl h))
    have hn1 : n ≤ (s.size - t1 : Nat) := Int.not_lt.1 fun h => hb1 (.inr (.inr h))
    have Ht := Lib.hid (show textR s.data.toList t bad = ((s.data.toList.drop t1).take n.toNat, t1 + n.toNat, false) by unfold textR; rw [Hp.out]; simp only; rw [hsl, if_neg hb1])
    obtain ⟨m, rfl⟩ : ∃ m : Nat, n = (m : Int) := ⟨n.toNat, by omega⟩
    have hm : t1 + m ≤ s.size := by omega
    have hex : s.extract t1 (t1 + m) = bs ((s.data.toList.drop t1).take m) := by
      apply ByteArray.ext
      rw [ByteArray.data_extract]
      apply Array.ext'
      rw [Array.toList_extract]
      show List.extract s.data.toList t1 (t1 + m) = (s.data.toList.drop t1).take m
      rw [List.extract_eq_take_drop]
      congr 1
      omega
    rw [Int.toNat_natCast] at Ht
    have Hex := Lib.hid hex
    have hwf : (decide (0 ≤ (m : Int)) && decide ((m : Int) ≤ (s.size : Int) - (t1 : Int))) = true := by simp; omega
    clear hb1 hex
    go_enter Try.func109, Try.ntmps109
    go_wp2_with fail
    refine Hnum.out.mono ?_
    rintro e w1 ⟨rfl, hr1, hc1⟩
    have Hc1 := Lib.hid hc1
    have Hr1 := Lib.hid hr1
    obtain ⟨g1, g2, h0, h1, h2⟩ := hr1
    clear Hnum hc1
    go_wp2_with fail
    go_region_held3 (fun w' => w'.cell? ⟨b, 0, none⟩ = some (.string s) ∧ w'.cell? ⟨b, 1, none⟩ = some (.int .i64 (t1 : Int)) ∧ w'.cell? ⟨b, 2, none⟩ = some (.bool false)) (go_keep)
        (first | (go_at_call 126; refine (within_any _ _ _ _).mono ?_; rintro e w2 ⟨rfl, rfl⟩; rw [hwf]))
    have hw3 : wrap64 ((t1 : Int) + (m : Int)) = ((t1 + m : Nat) : Int) := by unfold wrap64; omega
    have hw4 : IntKind.i64.wrap (((t1 + m : Nat) : Int) - (m : Int)) = (t1 : Int) := by rw [IntWalk.i64_in _ (by omega)]; omega
    have q0 : (0 : Int) ≤ (t1 : Int) := by omega
    have q1 : (t1 : Int) ≤ ((t1 + m : Nat) : Int) := by omega
    have q2 : ((t1 + m : Nat) : Int) ≤ (s.size : Int) := by omega
    go_wp2_with fail
    go_region
    go_wp2_with fail
    go_ret
    refine ⟨?_, by rw [Ht.out]; exact (Hr1.out.move (by simp)).drew.drew, ((Hc1.out.setCell (p := ⟨b, 1, none⟩) (.inl rfl) _).drew).drew⟩
    rw [Ht.out]
    show Ending.returned (.string (s.extract t1 (t1 + m))) = _
    rw [Hex.out]
theorem rtext_any (b : Nat) (s : ByteArray) (t : Nat) (bad : Bool) (ht : t ≤ s.size) (hs : s.size ≤ 140737488355328) (w : World) (hr : RdrAt w b s t bad) :
    Calls Try.prog 112 #[.pointer (some ⟨b, 0, none⟩)] w (TextPost b s t bad w) := by
  have hsl : s.data.toList.length = s.size := rfl
  obtain ⟨n, t1, b1, hp⟩ : ∃ n t1 b1, numR s.data.toList t bad = (n, t1, b1) := ⟨_, _, _, rfl⟩
  have hle := numR_le (s := s.data.toList) (t := t) (b := bad) (by omega)
  have hbd := numR_bd s.data.toList t bad
  rw [hp] at hle hbd
  simp only at hle hbd
  have hnp : NumPost b s t bad w = fun e w' => e = .returned (.int .i64 n) ∧ RdrAt w' b s t1 b1 ∧ Chg (· = b) w w' := by unfold NumPost; rw [hp]
  have Hp := Lib.hid hp
  have Hnum := Lib.hid (hnp ▸ rnumber_any b s t bad ht hs w hr)
  have hws : IntKind.i64.wrap ((s.size : Int) - (t1 : Int)) = (s.size : Int) - (t1 : Int) := IntWalk.i64_in _ (by omega)
  clear hp hnp hr
  by_cases hb1 : b1 = true ∨ n < 0 ∨ (s.size - t1 : Nat) < n
  · have Ht := Lib.hid (show textR s.data.toList t bad = ([], t1, true) by unfold textR; rw [Hp.out]; simp only; rw [hsl, if_pos hb1])
    have Hend := Lib.hid (show ∀ w' w2, RdrAt w' b s t1 b1 → Chg (· = b) w w' → w2 = (w'.setCell ⟨b, 2, none⟩ (.bool true)).drew → TextPost b s t bad w (.returned (.string ⟨#[]⟩)) w2 by
      rintro w' w2 h1 h2 rfl
      refine ⟨by rw [Ht.out]; rfl, by rw [Ht.out]; exact h1.turn.drew, (h2.setCell (p := ⟨b, 2, none⟩) (.inl rfl) _).drew⟩)
    go_enter Try.func112, Try.ntmps112
    go_wp2_with fail
    refine Hnum.out.mono ?_
    rintro e w1 ⟨rfl, hr1, hc1⟩
    have HE := Lib.hid (Hend.out w1 _ hr1 hc1 rfl)
    obtain ⟨g1, g2, h0, h1, h2⟩ := hr1
    clear Hend Hnum hc1
    rcases b1 with _ | _
    · have hn : n < 0 ∨ (s.size - t1 : Nat) < n := by simpa using hb1
      clear hb1
      by_cases hn0 : n < 0
      · have hd0 : decide (n < 0) = true := by simpa using hn0
        clear hn
        go_wp2_with fail
        go_region
        go_wp2_with fail
        go_ret
        exact HE.out
      · have hd0 : decide (n < 0) = false := by simpa using hn0
        have hd1 : decide ((s.size : Int) - (t1 : Int) < n) = true := by rcases hn with h | h <;> simp <;> omega
        clear hn
        go_wp2_with fail
        go_region
        go_wp2_with fail
        go_ret
        exact HE.out
    · clear hb1
      go_wp2_with fail
      go_region
      go_wp2_with fail
      go_ret
      exact HE.out
  · have hb2 : b1 = false := by simpa using fun h => hb1 (.inl h)
    subst hb2
    have hn0 : 0 ≤ n := Int.not_lt.1 fun h => hb1 (.inr (.inl h))
    have hn1 : n ≤ (s.size - t1 : Nat) := Int.not_lt.1 fun h => hb1 (.inr (.inr h))
    have Ht := Lib.hid (show textR s.data.toList t bad = ((s.data.toList.drop t1).take n.toNat, t1 + n.toNat, false) by unfold textR; rw [Hp.out]; simp only; rw [hsl, if_neg hb1])
    obtain ⟨m, rfl⟩ : ∃ m : Nat, n = (m : Int) := ⟨n.toNat, by omega⟩
    have hm : t1 + m ≤ s.size := by omega
    have hex : s.extract t1 (t1 + m) = bs ((s.data.toList.drop t1).take m) := by
      apply ByteArray.ext
      rw [ByteArray.data_extract]
      apply Array.ext'
      rw [Array.toList_extract]
      show List.extract s.data.toList t1 (t1 + m) = (s.data.toList.drop t1).take m
      rw [List.extract_eq_take_drop]
      congr 1
      omega
    rw [Int.toNat_natCast] at Ht
    have Hex := Lib.hid hex
    have hd0 : decide ((m : Int) < 0) = false := by simp
    have hd1 : decide ((s.size : Int) - (t1 : Int) < (m : Int)) = false := by simp; omega
    clear hb1 hex
    go_enter Try.func112, Try.ntmps112
    go_wp2_with fail
    refine Hnum.out.mono ?_
    rintro e w1 ⟨rfl, hr1, hc1⟩
    have Hc1 := Lib.hid hc1
    have Hr1 := Lib.hid hr1
    obtain ⟨g1, g2, h0, h1, h2⟩ := hr1
    clear Hnum hc1
    go_wp2_with fail
    go_region
    have hw3 : wrap64 ((t1 : Int) + (m : Int)) = ((t1 + m : Nat) : Int) := by unfold wrap64; omega
    have hw4 : IntKind.i64.wrap (((t1 + m : Nat) : Int) - (m : Int)) = (t1 : Int) := by rw [IntWalk.i64_in _ (by omega)]; omega
    have q0 : (0 : Int) ≤ (t1 : Int) := by omega
    have q1 : (t1 : Int) ≤ ((t1 + m : Nat) : Int) := by omega
    have q2 : ((t1 + m : Nat) : Int) ≤ (s.size : Int) := by omega
    go_wp2_with fail
    go_region
    go_wp2_with fail
    go_ret
    refine ⟨?_, by rw [Ht.out]; exact (Hr1.out.move (by simp)).drew.drew, ((Hc1.out.setCell (p := ⟨b, 1, none⟩) (.inl rfl) _).drew).drew⟩
    rw [Ht.out]
    show Ending.returned (.string (s.extract t1 (t1 + m))) = _
    rw [Hex.out]
end Go.Proofs.Ytfbhbnolnjcaiaa
