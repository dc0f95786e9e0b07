/-
  Strictly ascending lists of strings: they are told by their members; what sorting and inserting make.
  Conditions: none.
-/
import Derived.Test.YtjefpeppkphgbaaSum
namespace Go.Proofs.Ytjefpeppkphgbaa
/-- Strictly ascending. -/
def Asc (l : List (List UInt8)) : Prop := l.Pairwise (fun a b => a < b)
theorem lt_of_le_ne {a b : List UInt8} (h : a ≤ b) (hne : a ≠ b) : a < b := by
  rcases List.le_iff_lt_or_eq.1 h with h | h
  · exact h
  · exact absurd h hne
theorem asc_unique : ∀ {a b : List (List UInt8)}, Asc a → Asc b → (∀ x, x ∈ a ↔ x ∈ b) → a = b
  | [], [], _, _, _ => rfl
  | [], y :: b, _, _, h => absurd ((h y).2 (by simp)) (by simp)
  | x :: a, [], _, _, h => absurd ((h x).1 (by simp)) (by simp)
  | x :: a, y :: b, ha, hb, h => by
    obtain ⟨ha1, ha2⟩ := List.pairwise_cons.1 ha
    obtain ⟨hb1, hb2⟩ := List.pairwise_cons.1 hb
    have hxy : x = y := by
      have h1 := (h x).1 (by simp)
      have h2 := (h y).2 (by simp)
      rcases List.mem_cons.1 h1 with e | m
      · exact e
      · rcases List.mem_cons.1 h2 with e | m2
        · exact e.symm
        · exact absurd (List.lt_trans (ha1 y m2) (hb1 x m)) (List.lt_irrefl _)
    subst hxy
    rw [asc_unique ha2 hb2 fun z => ⟨fun hz => ?_, fun hz => ?_⟩]
    · rcases List.mem_cons.1 ((h z).1 (List.mem_cons_of_mem _ hz)) with e | m
      · subst e; exact absurd (ha1 _ hz) (List.lt_irrefl _)
      · exact m
    · rcases List.mem_cons.1 ((h z).2 (List.mem_cons_of_mem _ hz)) with e | m
      · subst e; exact absurd (hb1 _ hz) (List.lt_irrefl _)
      · exact m
theorem asc_sort {l : List (List UInt8)} (h : l.Nodup) : Asc (l.mergeSort fun x y => decide (x ≤ y)) := by
  have h1 := List.pairwise_mergeSort (le := fun x y : List UInt8 => decide (x ≤ y)) (fun a b c ha hb => by simpa using List.le_trans (by simpa using ha) (by simpa using hb)) (fun a b => by simpa using List.le_total a b) l
  have h2 : (l.mergeSort fun x y => decide (x ≤ y)).Nodup := (List.mergeSort_perm l _).nodup_iff.2 h
  refine (h1.and h2).imp ?_
  intro a b hab
  exact lt_of_le_ne (by simpa using hab.1) hab.2
theorem mem_sort {l : List (List UInt8)} {x : List UInt8} : x ∈ (l.mergeSort fun x y => decide (x ≤ y)) ↔ x ∈ l := (List.mergeSort_perm l _).mem_iff
/-- What Insert makes of an ascending list. -/
theorem asc_insert {l : List (List UInt8)} {s : List UInt8} (h : Asc l) (hs : s ∉ l) {i : Nat} (hi : i ≤ l.length) (hlo : ∀ (hp : 0 < i), l[i - 1]'(by omega) ≤ s) (hhi : ∀ (hp : i < l.length), s < l[i]) : Asc (l.take i ++ s :: l.drop i) := by
  unfold Asc at h ⊢
  have hsp := List.pairwise_append.1 (by rw [List.take_append_drop i l]; exact h : (l.take i ++ l.drop i).Pairwise _)
  obtain ⟨h1, h2, h3⟩ := hsp
  have hlow : ∀ a ∈ l.take i, a < s := by
    intro a ha
    obtain ⟨j, hj, rfl⟩ := List.mem_take_iff_getElem.1 ha
    have hji : j < i := by omega
    have hle : l[j] ≤ s := by
      rcases Nat.lt_or_ge j (i - 1) with hlt | hge
      · have := List.pairwise_iff_getElem.1 h j (i - 1) (by omega) (by omega) hlt
        exact List.le_trans (List.le_of_lt this) (hlo (by omega))
      · have e : j = i - 1 := by omega
        subst e; exact hlo (by omega)
    exact lt_of_le_ne hle fun e => hs (e ▸ List.getElem_mem _)
  have hhigh : ∀ b ∈ l.drop i, s < b := by
    intro b hb
    obtain ⟨j, hj, rfl⟩ := List.mem_drop_iff_getElem.1 hb
    have hil : i < l.length := by omega
    rcases Nat.eq_zero_or_pos j with rfl | hp
    · exact hhi hil
    · exact List.lt_trans (hhi hil) (List.pairwise_iff_getElem.1 h i (i + j) hil (by omega) (by omega))
  refine List.pairwise_append.2 ⟨h1, List.pairwise_cons.2 ⟨hhigh, h2⟩, ?_⟩
  intro a ha b hb
  rcases List.mem_cons.1 hb with rfl | hb
  · exact hlow a ha
  · exact h3 a ha b hb
theorem mem_insert {l : List (List UInt8)} {s x : List UInt8} (i : Nat) : x ∈ l.take i ++ s :: l.drop i ↔ x = s ∨ x ∈ l := by
  constructor
  · intro h
    rcases List.mem_append.1 h with h | h
    · exact .inr (List.mem_of_mem_take h)
    · rcases List.mem_cons.1 h with rfl | h
      · exact .inl rfl
      · exact .inr (List.mem_of_mem_drop h)
  · rintro (rfl | h)
    · simp
    · rw [← List.take_append_drop i l] at h
      rcases List.mem_append.1 h with h | h
      · exact List.mem_append.2 (.inl h)
      · exact List.mem_append.2 (.inr (List.mem_cons_of_mem _ h))
end Go.Proofs.Ytjefpeppkphgbaa
