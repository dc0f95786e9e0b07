/-
  Plain laws of the library's stable sort (slices.SortStableFunc): insertion, rotation, merging in place. No program.
  Conditions: none.
-/
import Derived.Sort.LotA
namespace Go.Proofs.Ythenclenabcmgaa
open Go.Sort
section
variable {α : Type} [Inhabited α] (key : α → Int) (idx : α → Nat)
def ltK (x y : α) : Bool := decide (key x < key y)
/-- By the key; where the keys are the same, by the index. -/
def lxK (x y : α) : Bool := decide (key x < key y ∨ key x = key y ∧ idx x < idx y)
omit [Inhabited α] in
theorem lx_swo : SWO (lxK key idx) where
  irrefl x := by simp [lxK]
  trans x y z := by simp only [lxK, decide_eq_true_eq]; omega
  ntrans x y z := by simp only [lxK, decide_eq_false_iff_not]; omega
omit [Inhabited α] in
theorem lx_tot (hinj : ∀ x y, idx x = idx y → x = y) (x y : α) (h : lxK key idx x y = false) (k : lxK key idx y x = false) : x = y := by
  simp only [lxK, decide_eq_false_iff_not] at h k
  exact hinj x y (by omega)
variable {key idx}
omit [Inhabited α] in
theorem lx_lt {x y : α} (h : idx y < idx x) : lxK key idx x y = ltK key x y := by
  simp only [lxK, ltK, decide_eq_decide]; omega

theorem inner_congr (a : Nat) : ∀ (j : Nat) (d : Array α), j < d.size → (∀ p, a ≤ p → p < j → idx d[p]! < idx d[j]!) → insInner (ltK key) a j d = insInner (lxK key idx) a j d
  | 0, d, _, _ => by simp [insInner]
  | j + 1, d, hj, h => by
    unfold insInner
    by_cases ha : j + 1 > a
    · rw [lx_lt (h j (by omega) (by omega))]
      split
      · refine inner_congr a j _ (by rw [swp_size]; omega) fun p hp hpj => ?_
        rw [swp_get d hj (by omega), swp_get d hj (by omega), if_neg (by omega), if_neg (by omega), if_pos rfl]
        exact h p hp (by omega)
      · rfl
    · simp [ha]
theorem outer_congr (a b : Nat) : ∀ (g i : Nat) (d : Array α), b - i = g → a < i → b ≤ d.size → (∀ p q, a ≤ p → p < q → i ≤ q → q < b → idx d[p]! < idx d[q]!) → insOuter (ltK key) a b i d = insOuter (lxK key idx) a b i d
  | 0, i, d, hg, _, _, _ => by
    have h : ¬ i < b := by omega
    unfold insOuter
    rw [if_neg h, if_neg h]
  | g + 1, i, d, hg, hi, hb, h => by
    have hib : i < b := by omega
    rw [insOuter, if_pos hib, inner_congr a i d (by omega) (fun p h1 h2 => h p i h1 h2 (Nat.le_refl _) hib)]
    conv => rhs; rw [insOuter, if_pos hib]
    -- the elements up to i are permuted among themselves
    have hp : PermIn a (i + 1) d (insInner (lxK key idx) a i d) := by
      have : ∀ (j : Nat) (e : Array α), j ≤ i → e.size = d.size → PermIn a (i + 1) e (insInner (lxK key idx) a j e) := by
        intro j
        induction j with
        | zero => intro e _ _; simp [insInner]; exact permIn_refl _ _ _
        | succ j ih =>
          intro e hj he
          unfold insInner
          split
          · rename_i hc
            simp only [Bool.and_eq_true, decide_eq_true_eq] at hc
            exact permIn_trans _ _ _ _ _ (swp_permIn e a (i + 1) (j + 1) j (by omega) (by omega) (by omega) (by omega) (by omega)) (ih _ (by omega) (by rw [swp_size]; exact he))
          · exact permIn_refl _ _ _
      exact this i d (Nat.le_refl _) rfl
    refine outer_congr a b g (i + 1) _ (by omega) (by omega) (by rw [hp.1]; exact hb) fun p q hp1 hpq hq1 hqb => ?_
    rw [hp.2.1 q (by omega)]
    by_cases hpi : p < i + 1
    · exact permIn_all d _ a (i + 1) (fun x => idx x < idx d[q]!) (by omega) hp (fun k h1 h2 => h k q h1 (by omega) (by omega) hqb) p hp1 hpi
    · rw [hp.2.1 p (by omega)]
      exact h p q hp1 hpq (by omega) hqb
theorem insertion_congr {a b : Nat} {d : Array α} (hb : b ≤ d.size) (h : ∀ p q, a ≤ p → p < q → q < b → idx d[p]! < idx d[q]!) : insertionSort (ltK key) d a b = insertionSort (lxK key idx) d a b :=
  outer_congr a b _ (a + 1) d rfl (by omega) hb fun p q h1 h2 _ h3 => h p q h1 h2 h3

/-- [a, m) and [m, b) are in order, and what lies to the left has the lesser indices. -/
structure Mg (key : α → Int) (idx : α → Nat) (a m b : Nat) (d : Array α) : Prop where
  left : SortedIn (lxK key idx) a m d
  right : SortedIn (lxK key idx) m b d
  sides : ∀ p q, a ≤ p → p < m → m ≤ q → q < b → idx d[p]! < idx d[q]!
/-- What a merge leaves. -/
def Merged (key : α → Int) (idx : α → Nat) (a b : Nat) (d d' : Array α) : Prop := PermIn a b d d' ∧ SortedIn (lxK key idx) a b d'
theorem Mg.done_left {a b : Nat} {d : Array α} (h : Mg key idx a a b d) : Merged key idx a b d d := ⟨permIn_refl _ _ _, h.right⟩
theorem Mg.done_right {a b : Nat} {d : Array α} (h : Mg key idx a b b d) : Merged key idx a b d d := ⟨permIn_refl _ _ _, h.left⟩

theorem sorted_key {a b : Nat} {d : Array α} (h : SortedIn (lxK key idx) a b d) {p q : Nat} (hp : a ≤ p) (hpq : p ≤ q) (hq : q < b) : key d[p]! ≤ key d[q]! := by
  by_cases e : p = q
  · subst e; exact Int.le_refl _
  · have := h p q hp (by omega) hq
    simp only [lxK, decide_eq_false_iff_not] at this
    omega
/-- One element to the left: it moves up to the place behind the last right one that is less. -/
theorem merge_one_left {a b i : Nat} {d d' : Array α} (h : Mg key idx a (a + 1) b d) (hi : a + 1 ≤ i) (hib : i ≤ b) (hperm : PermIn a b d d')
    (hlo : ∀ q, a + 1 ≤ q → q < i → ltK key d[q]! d[a]! = true) (hhi : ∀ q, i ≤ q → q < b → ltK key d[q]! d[a]! = false)
    (hd : ∀ p, a ≤ p → p < b → d'[p]! = if p < i - 1 then d[p + 1]! else if p = i - 1 then d[a]! else d[p]!) : Merged key idx a b d d' := by
  refine ⟨hperm, fun p q hap hpq hqb => ?_⟩
  have hs : ∀ q, a + 1 ≤ q → q < b → lxK key idx d[q]! d[a]! = ltK key d[q]! d[a]! := fun q h1 h2 => lx_lt (h.sides a q (Nat.le_refl _) (by omega) h1 h2)
  rw [hd p hap (by omega), hd q (by omega) hqb]
  by_cases hp1 : p < i - 1
  · rw [if_pos hp1]
    by_cases hq1 : q < i - 1
    · rw [if_pos hq1]; exact h.right (p + 1) (q + 1) (by omega) (by omega) (by omega)
    · rw [if_neg hq1]
      by_cases hq2 : q = i - 1
      · rw [if_pos hq2]
        have := hlo (p + 1) (by omega) (by omega)
        rw [← hs _ (by omega) (by omega)] at this
        exact (lx_swo key idx).asymmA this
      · rw [if_neg hq2]; exact h.right (p + 1) q (by omega) (by omega) hqb
  · rw [if_neg hp1, if_neg (show ¬ q < i - 1 by omega), if_neg (show ¬ q = i - 1 by omega)]
    by_cases hp2 : p = i - 1
    · rw [if_pos hp2, hs q (by omega) hqb]; exact hhi q (by omega) hqb
    · rw [if_neg hp2]; exact h.right p q (by omega) hpq hqb
/-- One element to the right: it moves down to the place of the first left one that is greater. -/
theorem merge_one_right {a m i : Nat} {d d' : Array α} (h : Mg key idx a m (m + 1) d) (hi : a ≤ i) (him : i ≤ m) (hperm : PermIn a (m + 1) d d')
    (hlo : ∀ q, a ≤ q → q < i → ltK key d[m]! d[q]! = false) (hhi : ∀ q, i ≤ q → q < m → ltK key d[m]! d[q]! = true)
    (hd : ∀ p, a ≤ p → p < m + 1 → d'[p]! = if p = i then d[m]! else if i < p then d[p - 1]! else d[p]!) : Merged key idx a (m + 1) d d' := by
  refine ⟨hperm, fun p q hap hpq hqb => ?_⟩
  have hs : ∀ q, a ≤ q → q < m → lxK key idx d[m]! d[q]! = ltK key d[m]! d[q]! := fun q h1 h2 => lx_lt (h.sides q m h1 h2 (Nat.le_refl _) (by omega))
  rw [hd p hap (by omega), hd q (by omega) hqb]
  by_cases hp1 : p = i
  · rw [if_pos hp1, if_neg (by omega), if_pos (by omega)]
    have := hhi (q - 1) (by omega) (by omega)
    rw [← hs _ (by omega) (by omega)] at this
    exact (lx_swo key idx).asymmA this
  · rw [if_neg hp1]
    by_cases hp2 : i < p
    · rw [if_pos hp2, if_neg (by omega), if_pos (by omega)]; exact h.left (p - 1) (q - 1) (by omega) (by omega) (by omega)
    · rw [if_neg hp2]
      by_cases hq1 : q = i
      · rw [if_pos hq1, hs p hap (by omega)]; exact hlo p hap (by omega)
      · rw [if_neg hq1]
        by_cases hq2 : i < q
        · rw [if_pos hq2]; exact h.left p (q - 1) hap (by omega) (by omega)
        · rw [if_neg hq2]; exact h.left p q hap hpq (by omega)

/-! ### rotation -/
def swapF (f : Nat → α) (a b n : Nat) (p : Nat) : α := if a ≤ p ∧ p < a + n then f (p - a + b) else if b ≤ p ∧ p < b + n then f (p - b + a) else f p
def rotF (f : Nat → α) (a m b : Nat) (p : Nat) : α := if a ≤ p ∧ p < a + (b - m) then f (p + (m - a)) else if a + (b - m) ≤ p ∧ p < b then f (p - (b - m)) else f p
omit [Inhabited α] in
theorem rot_gt {f : Nat → α} {m i j : Nat} (h1 : j < i) (h2 : i ≤ m) (hj : 0 < j) (p : Nat) : rotF (swapF f (m - i) m j) (m - (i - j)) m (m + j) p = rotF f (m - i) m (m + j) p := by
  unfold rotF swapF
  repeat' split
  all_goals first | (exfalso; omega) | rfl | (congr 1; omega)
omit [Inhabited α] in
theorem rot_lt {f : Nat → α} {m i j : Nat} (h1 : i < j) (h2 : i ≤ m) (hi : 0 < i) (p : Nat) : rotF (swapF f (m - i) (m + j - i) i) (m - i) m (m + (j - i)) p = rotF f (m - i) m (m + j) p := by
  unfold rotF swapF
  repeat' split
  all_goals first | (exfalso; omega) | rfl | (congr 1; omega)
omit [Inhabited α] in
theorem rot_eq {f : Nat → α} {m i : Nat} (h2 : i ≤ m) (p : Nat) : swapF f (m - i) m i p = rotF f (m - i) m (m + i) p := by
  unfold rotF swapF
  repeat' split
  all_goals first | (exfalso; omega) | rfl | (congr 1; omega)
theorem swapF_next (d : Array α) {f : Nat → α} {a b n : Nat} (hd : ∀ p, d[p]! = swapF f a b n p) (ha : a + n < d.size) (hb : b + n < d.size) (hdis : n < b - a ∨ n < a - b) (p : Nat) :
    (swp d (a + n) (b + n))[p]! = swapF f a b (n + 1) p := by
  rw [swp_get d ha hb, hd, hd, hd]
  unfold swapF
  repeat' split
  all_goals first | (exfalso; omega) | rfl | (congr 1; omega)

/-! ### the merge's split -/
/-- Behind the search and the rotation: the two halves are to be merged, and no element of the right half is less than one of the left half. -/
theorem split_merge {a m b mid s e : Nat} {d d' : Array α} (h : Mg key idx a m b d) (hb : b ≤ d.size) (_ham : a ≤ m) (_hmb : m ≤ b) (hs1 : a ≤ s) (hs2 : s ≤ m) (he1 : m ≤ e) (he2 : e ≤ b) (hse : s + e = mid + m)
    (_hsm : s ≤ mid) (_hme : mid ≤ e)
    (hlo : a < s → e < b → ltK key d[e]! d[s - 1]! = false) (hhi : s < m → m < e → ltK key d[e - 1]! d[s]! = true)
    (hperm : PermIn s e d d') (hd : ∀ p, d'[p]! = rotF (fun k => d[k]!) s m e p) :
    Mg key idx a s mid d' ∧ Mg key idx mid e b d' ∧ PermIn a b d d' ∧ ∀ p q, a ≤ p → p < mid → mid ≤ q → q < b → lxK key idx d'[q]! d'[p]! = false := by
  have W := lx_swo key idx
  have hlo' : a < s → e < b → lxK key idx d[e]! d[s - 1]! = false := fun h1 h2 => by rw [lx_lt (h.sides (s - 1) e (by omega) (by omega) (by omega) h2)]; exact hlo h1 h2
  have hhi' : s < m → m < e → lxK key idx d[e - 1]! d[s]! = true := fun h1 h2 => by rw [lx_lt (h.sides s (e - 1) (by omega) (by omega) (by omega) (by omega))]; exact hhi h1 h2
  have le : ∀ {p q : Nat}, (p = q ∨ lxK key idx d[q]! d[p]! = false) → lxK key idx d[q]! d[p]! = false := by
    rintro p q (rfl | hh)
    · exact W.irrefl _
    · exact hh
  have L1 : ∀ p, a ≤ p → p < s → d'[p]! = d[p]! := fun p _ h2 => by rw [hd]; unfold rotF; rw [if_neg (by omega), if_neg (by omega)]
  have R1 : ∀ p, s ≤ p → p < mid → d'[p]! = d[p + (m - s)]! := fun p h1 h2 => by rw [hd]; unfold rotF; rw [if_pos (by omega)]
  have L2 : ∀ p, mid ≤ p → p < e → d'[p]! = d[p - (e - m)]! := fun p h1 h2 => by rw [hd]; unfold rotF; rw [if_neg (by omega), if_pos (by omega)]
  have R2 : ∀ p, e ≤ p → d'[p]! = d[p]! := fun p h1 => by rw [hd]; unfold rotF; rw [if_neg (by omega), if_neg (by omega)]
  refine ⟨⟨fun p q h1 h2 h3 => ?_, fun p q h1 h2 h3 => ?_, fun p q h1 h2 h3 h4 => ?_⟩, ⟨fun p q h1 h2 h3 => ?_, fun p q h1 h2 h3 => ?_, fun p q h1 h2 h3 h4 => ?_⟩, permIn_mono _ _ s e a b hs1 he2 hb hperm, fun p q h1 h2 h3 h4 => ?_⟩
  · rw [L1 p h1 (by omega), L1 q (by omega) h3]; exact h.left p q h1 h2 (by omega)
  · rw [R1 p h1 (by omega), R1 q (by omega) h3]; exact h.right _ _ (by omega) (by omega) (by omega)
  · rw [L1 p h1 h2, R1 q h3 h4]; exact h.sides _ _ h1 (by omega) (by omega) (by omega)
  · rw [L2 p h1 (by omega), L2 q (by omega) h3]; exact h.left _ _ (by omega) (by omega) (by omega)
  · rw [R2 p h1, R2 q (by omega)]; exact h.right _ _ (by omega) h2 h3
  · rw [L2 p h1 h2, R2 q h3]; exact h.sides _ _ (by omega) (by omega) (by omega) h4
  · by_cases hp : p < s
    · rw [L1 p h1 hp]
      by_cases hq : q < e
      · rw [L2 q h3 hq]; exact h.left _ _ h1 (by omega) (by omega)
      · rw [R2 q (by omega)]
        -- p ≤ s - 1, e ≤ q
        have t1 : lxK key idx d[s - 1]! d[p]! = false := le (by by_cases hh : p = s - 1; exact .inl hh; exact .inr (h.left p (s - 1) h1 (by omega) (by omega)))
        have t2 : lxK key idx d[q]! d[e]! = false := le (by by_cases hh : e = q; exact .inl hh; exact .inr (h.right e q he1 (by omega) h4))
        exact W.ntrans _ _ _ t2 (W.ntrans _ _ _ (hlo' (by omega) (by omega)) t1)
    · rw [R1 p (by omega) h2]
      by_cases hq : q < e
      · rw [L2 q h3 hq]
        have t1 : lxK key idx d[e - 1]! d[p + (m - s)]! = false := le (by by_cases hh : p + (m - s) = e - 1; exact .inl hh; exact .inr (h.right _ _ (by omega) (by omega) (by omega)))
        have t2 : lxK key idx d[q - (e - m)]! d[s]! = false := le (by by_cases hh : s = q - (e - m); exact .inl hh; exact .inr (h.left _ _ (by omega) (by omega) (by omega)))
        have t3 := W.asymmA (hhi' (by omega) (by omega))
        exact W.ntrans _ _ _ t2 (W.ntrans _ _ _ t3 t1)
      · rw [R2 q (by omega)]; exact h.right _ _ (by omega) (by omega) h4
/-- The two halves, merged. -/
theorem join_merge {a mid b : Nat} {d d1 d2 d3 : Array α} (hb : b ≤ d.size) (ha : a ≤ mid) (hm : mid ≤ b) (h1 : PermIn a b d d1) (hx : ∀ p q, a ≤ p → p < mid → mid ≤ q → q < b → lxK key idx d1[q]! d1[p]! = false)
    (h2 : Merged key idx a mid d1 d2) (h3 : Merged key idx mid b d2 d3) : Merged key idx a b d d3 := by
  have s1 := h1.1
  have s2 := h2.1.1
  have s3 := h3.1.1
  refine ⟨permIn_trans _ _ _ _ _ h1 (permIn_trans _ _ _ _ _ (permIn_mono _ _ a mid a b (Nat.le_refl _) hm (by omega) h2.1) (permIn_mono _ _ mid b a b ha (Nat.le_refl _) (by omega) h3.1)), fun p q hp hpq hq => ?_⟩
  have u1 : ∀ p, p < mid → d3[p]! = d2[p]! := fun p hp => h3.1.2.1 p (.inl hp)
  by_cases hqm : q < mid
  · rw [u1 p (by omega), u1 q hqm]; exact h2.2 p q hp hpq hqm
  · by_cases hpm : p < mid
    · rw [u1 p hpm]
      refine permIn_all d1 d2 a mid (fun x => lxK key idx d3[q]! x = false) (by omega) h2.1 (fun k k1 k2 => ?_) p hp hpm
      refine permIn_all d2 d3 mid b (fun x => lxK key idx x d1[k]! = false) (by omega) h3.1 (fun l l1 l2 => ?_) q (by omega) hq
      rw [h2.1.2.1 l (.inr l1)]
      exact hx k l k1 k2 l1 l2
    · exact h3.2 p q (by omega) hpq hq
/-- The half that needs no merge. -/
theorem half_done {a s mid : Nat} {d : Array α} (h : Mg key idx a s mid d) (hs : ¬ (a < s ∧ s < mid)) (h1 : a ≤ s) (h2 : s ≤ mid) : Merged key idx a mid d d := by
  by_cases e : s = a
  · subst e; exact h.done_left
  · have : s = mid := by omega
    subst this; exact h.done_right
end
end Go.Proofs.Ythenclenabcmgaa
