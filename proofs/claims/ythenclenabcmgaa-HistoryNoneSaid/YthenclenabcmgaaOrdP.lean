/-
  The order of the operations that are decided (32.3), as a list; it is the only one. No program.
  Conditions: none.
-/
import Derived.Test.YthenclenabcmgaaOps
namespace Go.Proofs.Ythenclenabcmgaa

/-- The step in which an operation was decided. -/
def decAt (os : List Opn) (i : Nat) : Int := match os[i]? with | some o => o.dec | none => -1
def decB (os : List Opn) (i : Nat) : Bool := decAt os i != -1
theorem decAt_of {os : List Opn} {i : Nat} {o : Opn} (h : os[i]? = some o) : decAt os i = o.dec := by simp [decAt, h]
theorem decB_lt {os : List Opn} {i : Nat} (h : decB os i = true) : i < os.length := by
  unfold decB decAt at h
  cases e : os[i]? with
  | none => rw [e] at h; simp at h
  | some o => exact (List.getElem?_eq_some_iff.1 e).1
/-- By the step of the decision; where the steps are the same, by the number. -/
def lxO (os : List Opn) (i j : Nat) : Bool := decide (decAt os i < decAt os j ∨ decAt os i = decAt os j ∧ i < j)
structure IsOrd (os : List Opn) (l : List Nat) : Prop where
  asc : l.Pairwise (fun i j => lxO os i j = true)
  mem : ∀ i, i ∈ l ↔ decB os i = true
theorem pairwise_unique {α : Type} {R : α → α → Prop} (irr : ∀ x, ¬ R x x) (asy : ∀ x y, R x y → ¬ R y x) : ∀ {a b : List α}, a.Pairwise R → b.Pairwise R → (∀ x, x ∈ a ↔ x ∈ b) → a = b
  | [], [], _, _, _ => rfl
  | [], y :: b, _, _, h => by have := (h y).2 (List.mem_cons_self ..); simp at this
  | x :: a, [], _, _, h => by have := (h x).1 (List.mem_cons_self ..); simp at this
  | x :: a, y :: b, ha, hb, h => by
    rw [List.pairwise_cons] at ha hb
    have e : x = y := by
      have h1 := (h x).1 (List.mem_cons_self ..)
      have h2 := (h y).2 (List.mem_cons_self ..)
      rcases List.mem_cons.1 h1 with e | h1
      · exact e
      · rcases List.mem_cons.1 h2 with e | h2
        · exact e.symm
        · exact absurd (ha.1 y h2) (asy _ _ (hb.1 x h1))
    subst e
    congr 1
    refine pairwise_unique irr asy ha.2 hb.2 fun z => ?_
    constructor
    · intro hz
      rcases List.mem_cons.1 ((h z).1 (List.mem_cons_of_mem _ hz)) with e | h1
      · subst e; exact absurd (ha.1 z hz) (irr z)
      · exact h1
    · intro hz
      rcases List.mem_cons.1 ((h z).2 (List.mem_cons_of_mem _ hz)) with e | h1
      · subst e; exact absurd (hb.1 z hz) (irr z)
      · exact h1
theorem IsOrd.unique {os : List Opn} {a b : List Nat} (ha : IsOrd os a) (hb : IsOrd os b) : a = b :=
  pairwise_unique (fun x => by simp [lxO]) (fun x y => by simp only [lxO, decide_eq_true_eq]; omega) ha.asc hb.asc fun x => by rw [ha.mem, hb.mem]
/-- The decided operations before i, by their numbers. -/
def decd (os : List Opn) (i : Nat) : List Nat := (List.range i).filter (decB os)
theorem decd_next (os : List Opn) (i : Nat) : decd os (i + 1) = if decB os i then decd os i ++ [i] else decd os i := by
  unfold decd
  rw [List.range_succ, List.filter_append]
  by_cases h : decB os i = true <;> simp [h]
theorem decd_len (os : List Opn) (i : Nat) : (decd os i).length ≤ i := by
  have := List.length_filter_le (decB os) (List.range i)
  simpa [decd] using this
theorem mem_decd {os : List Opn} {i j : Nat} : j ∈ decd os i ↔ j < i ∧ decB os j = true := by simp [decd]
theorem decd_asc (os : List Opn) (i : Nat) : (decd os i).Pairwise (· < ·) := List.Pairwise.filter _ List.pairwise_lt_range
/-- The order: one more number behind the last one that is not decided later. -/
def insO (os : List Opn) (l : List Nat) (i : Nat) : List Nat := l.takeWhile (fun j => decide (decAt os j ≤ decAt os i)) ++ i :: l.dropWhile (fun j => decide (decAt os j ≤ decAt os i))
def ordL (os : List Opn) : List Nat := (decd os os.length).mergeSort (fun i j => !lxO os j i)
theorem ordL_is (os : List Opn) : IsOrd os (ordL os) := by
  have hs : (ordL os).Pairwise (fun i j => (!lxO os j i) = true) := List.pairwise_mergeSort
    (fun a b c h1 h2 => by simp only [Bool.not_eq_true', lxO, decide_eq_false_iff_not] at h1 h2 ⊢; omega)
    (fun a b => by simp only [Bool.or_eq_true, Bool.not_eq_true', lxO, decide_eq_false_iff_not]; omega) _
  have hp := List.mergeSort_perm (decd os os.length) (fun i j => !lxO os j i)
  have hn : (ordL os).Nodup := hp.nodup_iff.2 ((decd_asc os os.length).imp fun h => Nat.ne_of_lt h)
  refine ⟨?_, fun i => ?_⟩
  · refine (hs.and hn).imp fun {a b} ⟨h1, h2⟩ => ?_
    simp only [Bool.not_eq_true', lxO, decide_eq_false_iff_not, decide_eq_true_eq] at h1 ⊢
    omega
  · rw [ordL, hp.mem_iff, mem_decd]
    exact ⟨fun h => h.2, fun h => ⟨decB_lt h, h⟩⟩
theorem ordL_len (os : List Opn) : (ordL os).length ≤ os.length := by
  rw [ordL, List.length_mergeSort]; exact decd_len _ _
theorem ordL_mem {os : List Opn} {i : Nat} (h : i ∈ ordL os) : ∃ o, os[i]? = some o := by
  have := decB_lt (((ordL_is os).mem i).1 h)
  exact ⟨os[i], List.getElem?_eq_getElem this⟩
end Go.Proofs.Ythenclenabcmgaa
