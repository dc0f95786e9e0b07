/-
  The plain law of the tables: which keys a table has, how insertion keeps every key findable.
  Conditions: none.
-/
import Derived.Test.YtkhfjedeccjnbaaRTab
namespace Go.Proofs.Ytkhfjedeccjnbaa
open Go.RowKit Go.Sort
set_option maxHeartbeats 1000000

/-- How many of n slots are used. -/
def cnt (sl : Nat → Option ByteArray) : Nat → Nat
  | 0 => 0
  | n + 1 => cnt sl n + if (sl n).isSome then 1 else 0
theorem cnt_le (sl : Nat → Option ByteArray) (n : Nat) : cnt sl n ≤ n := by
  induction n with
  | zero => exact Nat.le_refl _
  | succ n ih => unfold cnt; split <;> omega
theorem cnt_free {sl : Nat → Option ByteArray} {n : Nat} (h : cnt sl n < n) : ∃ i, i < n ∧ sl i = none := by
  induction n with
  | zero => simp [cnt] at h
  | succ n ih =>
    by_cases hn : sl n = none
    · exact ⟨n, by omega, hn⟩
    · have hs : (sl n).isSome = true := by cases hx : sl n with
        | none => exact absurd hx hn
        | some k => rfl
      rw [cnt, if_pos hs] at h
      obtain ⟨i, hi, hi2⟩ := ih (by omega)
      exact ⟨i, by omega, hi2⟩
theorem cnt_above (sl : Nat → Option ByteArray) (p : Nat) (v : Option ByteArray) {n : Nat} (h : n ≤ p) : cnt (upd sl p v) n = cnt sl n := by
  induction n with
  | zero => rfl
  | succ n ih => rw [cnt, cnt, ih (by omega), upd_other _ _ (by omega)]
theorem cnt_set {sl : Nat → Option ByteArray} {p n : Nat} (v : Option ByteArray) (hp : p < n) : cnt (upd sl p v) n + (if (sl p).isSome then 1 else 0) = cnt sl n + (if v.isSome then 1 else 0) := by
  induction n with
  | zero => omega
  | succ n ih =>
    by_cases hpn : p = n
    · subst hpn; rw [cnt, cnt, cnt_above sl p v (Nat.le_refl _), upd_same]; omega
    · rw [cnt, cnt, upd_other _ _ (fun e => hpn e.symm)]; have := ih (by omega); omega

theorem dist_off {n h d : Nat} (h1 : h < n) (h2 : d < n) : dist n h (off n h d) = d := by unfold dist off; (repeat' split) <;> omega

/-- Every key of the table is found from its home on, in one slot only; u counts the used slots. -/
structure Tab (n : Nat) (sl : Nat → Option ByteArray) (u : Int) : Prop where
  pos : 0 < n
  path : ∀ i k, i < n → sl i = some k → ∀ d, d < dist n (homeN k n) i → sl (off n (homeN k n) d) ≠ none
  dis : ∀ i j k, i < n → j < n → sl i = some k → sl j = some k → i = j
  num : u = (cnt sl n : Nat)
theorem tab_new {n : Nat} (h : 0 < n) : Tab n (fun _ => none) 0 := by
  refine ⟨h, by simp, by simp, ?_⟩
  have : cnt (fun _ => none) n = 0 := by
    induction n with
    | zero => rfl
    | succ n ih => rcases Nat.eq_zero_or_pos n with h0 | h0
                   · subst h0; rfl
                   · rw [cnt, ih h0]; rfl
  rw [this]; rfl
/-- The table has the key. -/
def Has (n : Nat) (sl : Nat → Option ByteArray) (key : ByteArray) (i : Nat) : Prop := i < n ∧ sl i = some key
theorem Tab.hit {n : Nat} {sl : Nat → Option ByteArray} {u : Int} (t : Tab n sl u) {key : ByteArray} {i p : Nat} {ok : Bool} (h : Has n sl key i) (f : FindAt n sl key p ok) : ok = true ∧ p = i := by
  obtain ⟨hi, hs⟩ := h
  have hp := f.lt
  obtain ⟨d, hd, hpd, hb, he⟩ := f
  obtain ⟨h0, _⟩ := homeN_lt key t.pos
  obtain ⟨q1, q2⟩ := off_dist h0 hi
  cases ok
  · exfalso
    simp at he
    rcases Nat.lt_trichotomy d (dist n (homeN key n) i) with hlt | heq | hgt
    · exact t.path i key hi hs d hlt (by rw [← hpd]; exact he)
    · rw [heq, q1] at hpd; rw [hpd, hs] at he; simp at he
    · obtain ⟨k, k1, k2⟩ := hb _ hgt
      rw [q1, hs] at k1; simp at k1; exact k2 k1.symm
  · simp at he
    exact ⟨rfl, t.dis p i key hp hi he hs⟩
theorem Tab.miss {n : Nat} {sl : Nat → Option ByteArray} {key : ByteArray} {p : Nat} {ok : Bool} (h : ∀ i, ¬ Has n sl key i) (f : FindAt n sl key p ok) : ok = false ∧ sl p = none := by
  have hp := f.lt
  obtain ⟨d, hd, hpd, hb, he⟩ := f
  cases ok
  · exact ⟨rfl, by simpa using he⟩
  · exact absurd ⟨hp, by simpa using he⟩ (h p)
theorem Tab.ins {n : Nat} {sl : Nat → Option ByteArray} {u : Int} (t : Tab n sl u) {key : ByteArray} {p : Nat} (f : FindAt n sl key p false) : Tab n (upd sl p (some key)) (u + 1) := by
  have hp := f.lt
  have hno : ∀ i, ¬ Has n sl key i := fun i hi => by simpa using (t.hit hi f).1
  have hnone := (Tab.miss hno f).2
  obtain ⟨d, hd, hpd, hb, he⟩ := f
  obtain ⟨h0, _⟩ := homeN_lt key t.pos
  have keep : ∀ i, sl i ≠ none → upd sl p (some key) i ≠ none := fun i hi => by
    by_cases hip : i = p
    · rw [hip, upd_same]; simp
    · rw [upd_other _ _ hip]; exact hi
  refine ⟨t.pos, fun i k hi hk d' hd' => ?_, fun i j k hi hj h1 h2 => ?_, ?_⟩
  · by_cases hip : i = p
    · subst hip
      rw [upd_same] at hk; simp at hk; subst hk
      rw [hpd, dist_off h0 hd] at hd'
      obtain ⟨k, k1, _⟩ := hb d' hd'
      exact keep _ (by rw [k1]; simp)
    · rw [upd_other _ _ hip] at hk
      exact keep _ (t.path i k hi hk d' hd')
  · by_cases hip : i = p
    · subst hip
      rw [upd_same] at h1; simp at h1; subst h1
      by_cases hjp : j = i
      · exact hjp.symm
      · rw [upd_other _ _ hjp] at h2; exact absurd ⟨hj, h2⟩ (hno j)
    · rw [upd_other _ _ hip] at h1
      by_cases hjp : j = p
      · subst hjp; rw [upd_same] at h2; simp at h2; subst h2; exact absurd ⟨hi, h1⟩ (hno i)
      · rw [upd_other _ _ hjp] at h2; exact t.dis i j k hi hj h1 h2
  · have := cnt_set (sl := sl) (p := p) (n := n) (some key) hp
    rw [hnone] at this
    simp at this
    rw [this, t.num]; omega
theorem Tab.free {n : Nat} {sl : Nat → Option ByteArray} {u : Int} (t : Tab n sl u) (h : u < n) : ∃ i, i < n ∧ sl i = none :=
  cnt_free (by have := t.num; omega)
theorem Tab.bd {n : Nat} {sl : Nat → Option ByteArray} {u : Int} (t : Tab n sl u) : 0 ≤ u ∧ u ≤ n := by
  have := t.num; have := cnt_le sl n; omega
theorem has_ins {n : Nat} {sl : Nat → Option ByteArray} {key k : ByteArray} {p i : Nat} (hp : sl p = none) (h : Has n sl k i) : Has n (upd sl p (some key)) k i := by
  obtain ⟨h1, h2⟩ := h
  have : i ≠ p := fun e => by rw [e, hp] at h2; simp at h2
  exact ⟨h1, by rw [upd_other _ _ this]; exact h2⟩
end Go.Proofs.Ytkhfjedeccjnbaa
