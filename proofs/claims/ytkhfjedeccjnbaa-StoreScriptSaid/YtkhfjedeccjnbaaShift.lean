/-
  The plain law of removal (25.3): what the loop of Remove does to a table, step by step, and that the table is whole again at its end.
  Conditions: none.
-/
import Derived.Test.YtkhfjedeccjnbaaProbe
namespace Go.Proofs.Ytkhfjedeccjnbaa
open Go.RowKit Go.Sort
set_option maxHeartbeats 1000000

/-- The state of Remove's loop: the slots, what belongs to them, the gap, the slot that is looked at. -/
structure RmS (P : Type) where
  sl : Nat → Option ByteArray
  pay : Nat → P
  gap : Nat
  pos : Nat
def rmStep {P : Type} (n : Nat) (s : RmS P) : RmS P :=
  match s.sl s.pos with
  | none => s
  | some k => if dist n (homeN k n) s.pos < dist n s.gap s.pos then { s with pos := nx n s.pos }
    else { sl := upd (upd s.sl s.gap (some k)) s.pos none, pay := upd s.pay s.gap (s.pay s.pos), gap := s.pos, pos := nx n s.pos }
def rmIter {P : Type} (n : Nat) : Nat → RmS P → RmS P
  | 0, s => s
  | j + 1, s => rmStep n (rmIter n j s)
def rmStart {P : Type} (n : Nat) (sl : Nat → Option ByteArray) (pay : Nat → P) (gap : Nat) : RmS P := ⟨upd sl gap none, pay, gap, nx n gap⟩
/-- The loop is at its end. -/
def RmDone {P : Type} (n : Nat) (s0 s : RmS P) : Prop := ∃ j, s = rmIter n j s0 ∧ s.sl s.pos = none

theorem dist_self {n a : Nat} : dist n a a = 0 := by unfold dist; (repeat' split) <;> omega
theorem dist_pos {n a b : Nat} (h1 : a < n) (_ : b < n) (h : a ≠ b) : 0 < dist n a b := by unfold dist; (repeat' split) <;> omega
theorem dist_one {n a : Nat} (_ : a < n) (_ : 1 < n) : dist n a (nx n a) = 1 := by unfold dist nx; (repeat' split) <;> omega
theorem dist_inj {n a b c : Nat} (h1 : a < n) (h2 : b < n) (h3 : c < n) (h : dist n a b = dist n a c) : b = c := by unfold dist at h; (repeat' split at h) <;> omega
theorem dist_next {n a b c : Nat} (h1 : a < n) (h2 : b < n) (h3 : c < n) (h : dist n a b < dist n a c) : dist n a (nx n b) = dist n a b + 1 := by unfold dist nx at *; (repeat' split at *) <;> omega
/-- Slot q, d behind slot h, lies on the way from h to i. -/
theorem dist_split {n h i d q : Nat} (h1 : h < n) (h2 : i < n) (hd : d < dist n h i) (hq : off n h d = q) : dist n h i = d + dist n q i ∧ dist n h q = d ∧ q ≠ i ∧ q < n := by
  unfold off at hq; unfold dist at *; (repeat' split at *) <;> omega
theorem dist_via {n h g i : Nat} (h1 : h < n) (h2 : i < n) (h3 : g < n) (hd : dist n g i ≤ dist n h i) : dist n h i = dist n h g + dist n g i := by
  unfold dist at *; (repeat' split at *) <;> omega
theorem off_add {n h d e g i : Nat} (h1 : h < n) (h2 : i < n) (hg : g < n) (hd : off n h d = g) (he : off n g e = i) (hl : d + e < n) : off n h (d + e) = i := by
  unfold off at *; (repeat' split at *) <;> omega

structure RInv {P : Type} (n : Nat) (fu : Nat) (s : RmS P) : Prop where
  gapL : s.gap < n
  posL : s.pos < n
  gapN : s.sl s.gap = none
  fuL : fu < n
  fuN : s.sl fu = none
  fuG : fu ≠ s.gap
  ahead : 0 < dist n s.gap s.pos
  near : dist n s.gap s.pos ≤ dist n s.gap fu
  path : ∀ i k, i < n → s.sl i = some k → ∀ d, d < dist n (homeN k n) i → s.sl (off n (homeN k n) d) ≠ none ∨ (off n (homeN k n) d = s.gap ∧ dist n s.gap s.pos ≤ dist n s.gap i)
  dis : ∀ i j k, i < n → j < n → s.sl i = some k → s.sl j = some k → i = j
theorem rinv_start {P : Type} {n : Nat} {sl : Nat → Option ByteArray} {u : Int} (t : Tab n sl u) (pay : Nat → P) {gap fu : Nat} (hg : gap < n) (hfu : fu < n) (hf : sl fu = none) (hgs : sl gap ≠ none) : RInv n fu (rmStart n sl pay gap) := by
  have hne : fu ≠ gap := fun e => hgs (by rw [← e]; exact hf)
  have h1 : 1 < n := by omega
  refine ⟨hg, nx_lt hg, upd_same _ _ _, hfu, ?_, hne, ?_, ?_, ?_, ?_⟩
  · show upd sl gap none fu = none
    rw [upd_other _ _ hne]; exact hf
  · show 0 < dist n gap (nx n gap)
    rw [dist_one hg h1]; omega
  · show dist n gap (nx n gap) ≤ dist n gap fu
    rw [dist_one hg h1]; exact dist_pos hg hfu (Ne.symm hne)
  · intro i k hi hk d hd
    change upd sl gap none i = some k at hk
    show upd sl gap none _ ≠ none ∨ (_ = gap ∧ dist n gap (nx n gap) ≤ dist n gap i)
    by_cases hig : i = gap
    · rw [hig, upd_same] at hk; simp at hk
    · rw [upd_other _ _ hig] at hk
      by_cases hq : off n (homeN k n) d = gap
      · exact .inr ⟨hq, by rw [dist_one hg h1]; exact dist_pos hg hi (Ne.symm hig)⟩
      · rw [upd_other _ _ hq]; exact .inl (t.path i k hi hk d hd)
  · intro i j k hi hj h1 h2
    change upd sl gap none i = some k at h1
    change upd sl gap none j = some k at h2
    by_cases hig : i = gap
    · rw [hig, upd_same] at h1; simp at h1
    · by_cases hjg : j = gap
      · rw [hjg, upd_same] at h2; simp at h2
      · rw [upd_other _ _ hig] at h1; rw [upd_other _ _ hjg] at h2; exact t.dis i j k hi hj h1 h2
theorem RInv.step {P : Type} {n fu : Nat} {s : RmS P} (h : RInv n fu s) : RInv n fu (rmStep n s) := by
  have h' := h
  obtain ⟨gapL, posL, gapN, fuL, fuN, fuG, ahead, near, path, dis⟩ := h'
  cases hk : s.sl s.pos with
  | none => simp only [rmStep, hk]; exact h
  | some k =>
    have hpf : s.pos ≠ fu := fun e => by rw [e, fuN] at hk; simp at hk
    have hpg : s.pos ≠ s.gap := fun e => by rw [e, dist_self] at ahead; omega
    have hlt : dist n s.gap s.pos < dist n s.gap fu := by
      rcases Nat.lt_or_eq_of_le near with h1 | h1
      · exact h1
      · exact absurd (dist_inj gapL posL fuL h1) hpf
    have h0 := (homeN_lt k (show 0 < n by omega)).1
    by_cases hc : dist n (homeN k n) s.pos < dist n s.gap s.pos
    · simp only [rmStep, hk, if_pos hc]
      have e1 := dist_next gapL posL fuL hlt
      refine ⟨gapL, nx_lt posL, gapN, fuL, fuN, fuG, by simp only; omega, by simp only; omega, fun i k' hi hk' d hd => ?_, dis⟩
      rcases path i k' hi hk' d hd with h1 | ⟨h1, h2⟩
      · exact .inl h1
      · refine .inr ⟨h1, ?_⟩
        simp only
        rw [e1]
        by_cases hip : i = s.pos
        · exfalso
          subst hip
          rw [hk] at hk'
          simp at hk'
          subst hk'
          obtain ⟨h3, _⟩ := dist_split h0 posL hd h1
          omega
        · have : dist n s.gap s.pos ≠ dist n s.gap i := fun e => hip (dist_inj gapL posL hi e).symm
          omega
    · simp only [rmStep, hk, if_neg hc]
      have hn1 : 1 < n := by omega
      refine ⟨posL, nx_lt posL, upd_same _ _ _, fuL, ?_, Ne.symm hpf, ?_, ?_, ?_, ?_⟩
      · simp only; rw [upd_other _ _ (Ne.symm hpf), upd_other _ _ fuG]; exact fuN
      · simp only; rw [dist_one posL hn1]; omega
      · simp only; rw [dist_one posL hn1]; exact dist_pos posL fuL hpf
      · intro i k' hi hk' d hd
        simp only at hk' ⊢
        have hip : i ≠ s.pos := fun e => by rw [e, upd_same] at hk'; simp at hk'
        rw [upd_other _ _ hip] at hk'
        rw [dist_one posL hn1]
        by_cases hig : i = s.gap
        · subst hig
          rw [upd_same] at hk'; simp at hk'; subst hk'
          have hv := dist_via h0 posL gapL (by omega)
          obtain ⟨s1, s2, s3, s4⟩ := dist_split h0 gapL hd rfl
          have hqp : off n (homeN k n) d ≠ s.pos := fun e => by
            rw [e] at s2; omega
          rw [upd_other _ _ hqp, upd_other _ _ s3]
          rcases path s.pos k posL hk d (by omega) with h1 | ⟨h1, _⟩
          · exact .inl h1
          · exact absurd h1 s3
        · rw [upd_other _ _ hig] at hk'
          by_cases hqp : off n (homeN k' n) d = s.pos
          · exact .inr ⟨hqp, dist_pos posL hi (Ne.symm hip)⟩
          · left
            rw [upd_other _ _ hqp]
            by_cases hqg : off n (homeN k' n) d = s.gap
            · rw [hqg, upd_same]; simp
            · rw [upd_other _ _ hqg]
              rcases path i k' hi hk' d hd with h1 | ⟨h1, _⟩
              · exact h1
              · exact absurd h1 hqg
      · intro i j k' hi hj h1 h2
        simp only at h1 h2
        have hip : i ≠ s.pos := fun e => by rw [e, upd_same] at h1; simp at h1
        have hjp : j ≠ s.pos := fun e => by rw [e, upd_same] at h2; simp at h2
        rw [upd_other _ _ hip] at h1
        rw [upd_other _ _ hjp] at h2
        by_cases hig : i = s.gap
        · by_cases hjg : j = s.gap
          · rw [hig, hjg]
          · rw [hig, upd_same] at h1; simp at h1; subst h1
            rw [upd_other _ _ hjg] at h2
            exact absurd (dis j s.pos k hj posL h2 hk) hjp
        · rw [upd_other _ _ hig] at h1
          by_cases hjg : j = s.gap
          · rw [hjg, upd_same] at h2; simp at h2; subst h2
            exact absurd (dis i s.pos k hi posL h1 hk) hip
          · rw [upd_other _ _ hjg] at h2
            exact dis i j k' hi hj h1 h2
theorem RInv.iter {P : Type} {n fu : Nat} {s : RmS P} (h : RInv n fu s) (j : Nat) : RInv n fu (rmIter n j s) := by
  induction j with
  | zero => exact h
  | succ j ih => exact ih.step
theorem RInv.fin {P : Type} {n fu : Nat} {s : RmS P} (h : RInv n fu s) (hd : s.sl s.pos = none) : ∀ i k, i < n → s.sl i = some k → ∀ d, d < dist n (homeN k n) i → s.sl (off n (homeN k n) d) ≠ none := by
  obtain ⟨gapL, posL, gapN, fuL, fuN, fuG, ahead, near, path, dis⟩ := h
  intro i k hi hk d hdd
  rcases path i k hi hk d hdd with h1 | ⟨h1, h2⟩
  · exact h1
  · exfalso
    have h0 := (homeN_lt k (show 0 < n by omega)).1
    have hip : i ≠ s.pos := fun e => by rw [e, hd] at hk; simp at hk
    have hne : dist n s.gap s.pos ≠ dist n s.gap i := fun e => hip (dist_inj gapL posL hi e).symm
    obtain ⟨s1, s2, s3, s4⟩ := dist_split h0 hi hdd h1
    obtain ⟨o1, o2⟩ := off_dist gapL posL
    obtain ⟨_, o3⟩ := off_dist h0 hi
    have e := off_add h0 posL gapL h1 o1 (by omega)
    have hpg : s.pos ≠ s.gap := fun e => by rw [e, dist_self] at ahead; omega
    rcases path i k hi hk (d + dist n s.gap s.pos) (by omega) with h3 | ⟨h3, _⟩
    · rw [e] at h3; exact h3 hd
    · rw [e] at h3; exact hpg h3
/-- The table has key k, and c belongs to it. -/
def Holds {P : Type} (n : Nat) (sl : Nat → Option ByteArray) (pay : Nat → P) (k : ByteArray) (c : P) : Prop := ∃ i, i < n ∧ sl i = some k ∧ pay i = c
theorem RInv.holds {P : Type} {n fu : Nat} {s : RmS P} (h : RInv n fu s) (k : ByteArray) (c : P) : Holds n (rmStep n s).sl (rmStep n s).pay k c ↔ Holds n s.sl s.pay k c := by
  obtain ⟨gapL, posL, gapN, fuL, fuN, fuG, ahead, near, path, dis⟩ := h
  cases hk : s.sl s.pos with
  | none => simp only [rmStep, hk]
  | some k0 =>
    have hpg : s.pos ≠ s.gap := fun e => by rw [e, dist_self] at ahead; omega
    by_cases hc : dist n (homeN k0 n) s.pos < dist n s.gap s.pos
    · simp only [rmStep, hk, if_pos hc]
    · simp only [rmStep, hk, if_neg hc]
      constructor
      · rintro ⟨i, hi, h1, h2⟩
        have hip : i ≠ s.pos := fun e => by rw [e, upd_same] at h1; simp at h1
        rw [upd_other _ _ hip] at h1
        by_cases hig : i = s.gap
        · rw [hig, upd_same] at h1; rw [hig, upd_same] at h2
          simp at h1; subst h1
          exact ⟨s.pos, posL, hk, h2⟩
        · rw [upd_other _ _ hig] at h1; rw [upd_other _ _ hig] at h2
          exact ⟨i, hi, h1, h2⟩
      · rintro ⟨i, hi, h1, h2⟩
        by_cases hip : i = s.pos
        · subst hip
          rw [hk] at h1; simp at h1; subst h1
          exact ⟨s.gap, gapL, by rw [upd_other _ _ (Ne.symm hpg), upd_same], by rw [upd_same]; exact h2⟩
        · have hig : i ≠ s.gap := fun e => by rw [e, gapN] at h1; simp at h1
          exact ⟨i, hi, by rw [upd_other _ _ hip, upd_other _ _ hig]; exact h1, by rw [upd_other _ _ hig]; exact h2⟩
theorem RInv.cnt {P : Type} {n fu : Nat} {s : RmS P} (h : RInv n fu s) : cnt (rmStep n s).sl n = cnt s.sl n := by
  obtain ⟨gapL, posL, gapN, fuL, fuN, fuG, ahead, near, path, dis⟩ := h
  cases hk : s.sl s.pos with
  | none => simp only [rmStep, hk]
  | some k0 =>
    have hpg : s.pos ≠ s.gap := fun e => by rw [e, dist_self] at ahead; omega
    by_cases hc : dist n (homeN k0 n) s.pos < dist n s.gap s.pos
    · simp only [rmStep, hk, if_pos hc]
    · simp only [rmStep, hk, if_neg hc]
      have c1 := cnt_set (sl := s.sl) (p := s.gap) (n := n) (some k0) gapL
      have c2 := cnt_set (sl := upd s.sl s.gap (some k0)) (p := s.pos) (n := n) none posL
      rw [upd_other _ _ hpg, hk] at c2
      rw [gapN] at c1
      simp at c1 c2
      omega
/-- After Remove the table is whole, and has all keys but the one that was removed. -/
theorem rm_tab {P : Type} {n : Nat} {sl : Nat → Option ByteArray} {u : Int} (t : Tab n sl u) (pay : Nat → P) {gap fu : Nat} {key : ByteArray} (hg : Has n sl key gap) (hfu : fu < n) (hf : sl fu = none) {s : RmS P} (hd : RmDone n (rmStart n sl pay gap) s) :
    Tab n s.sl (u - 1) ∧ (∀ k c, Holds n s.sl s.pay k c ↔ k ≠ key ∧ Holds n sl pay k c) ∧ s.sl fu = none := by
  obtain ⟨hgl, hgs⟩ := hg
  have hne : sl gap ≠ none := by rw [hgs]; simp
  have h0 := rinv_start t pay hgl hfu hf hne
  obtain ⟨j, rfl, hend⟩ := hd
  have hj := h0.iter j
  have hc : ∀ j, cnt (rmIter n j (rmStart n sl pay gap)).sl n = cnt (upd sl gap none) n := by
    intro j
    induction j with
    | zero => rfl
    | succ j ih => rw [rmIter, (h0.iter j).cnt, ih]
  have hh : ∀ j k c, Holds n (rmIter n j (rmStart n sl pay gap)).sl (rmIter n j (rmStart n sl pay gap)).pay k c ↔ Holds n (upd sl gap none) pay k c := by
    intro j k c
    induction j with
    | zero => exact Iff.rfl
    | succ j ih => rw [rmIter]; exact ((h0.iter j).holds k c).trans ih
  refine ⟨⟨t.pos, hj.fin hend, hj.dis, ?_⟩, fun k c => (hh j k c).trans ⟨?_, ?_⟩, hj.fuN⟩
  · have := cnt_set (sl := sl) (p := gap) (n := n) none hgl
    rw [hgs] at this
    simp at this
    rw [hc j, t.num]; omega
  · rintro ⟨i, hi, h1, h2⟩
    have hig : i ≠ gap := fun e => by rw [e, upd_same] at h1; simp at h1
    rw [upd_other _ _ hig] at h1
    exact ⟨fun e => hig (t.dis i gap key hi hgl (by rw [← e]; exact h1) hgs), i, hi, h1, h2⟩
  · rintro ⟨hk, i, hi, h1, h2⟩
    have hig : i ≠ gap := fun e => by rw [e, hgs] at h1; simp at h1; exact hk h1.symm
    exact ⟨i, hi, by rw [upd_other _ _ hig]; exact h1, h2⟩
end Go.Proofs.Ytkhfjedeccjnbaa
