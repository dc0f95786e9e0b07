/-
  Plain laws of the library's stable sort: blocks that are sorted, then merged two by two. No program.
  Conditions: none.
-/
import Derived.Test.YthenclenabcmgaaStab
namespace Go.Proofs.Ythenclenabcmgaa
open Go.Sort
section
variable {α : Type} [Inhabited α] {key : α → Int} {idx : α → Nat}
/-- From the place f on, the elements of a block of B places have lesser indices than those of a later block. -/
def RankF (idx : α → Nat) (n B f : Nat) (d : Array α) : Prop := ∀ p q, f ≤ p → f ≤ q → p < n → q < n → p / B < q / B → idx d[p]! < idx d[q]!
theorem RankF.perm {n B f a b : Nat} {d d' : Array α} (h : RankF idx n B f d) (hp : PermIn a b d d') (hb : b ≤ n) (hn : n = d.size) (hfa : f ≤ a) (hs : ∀ p q, a ≤ p → p < b → a ≤ q → q < b → p / B = q / B) : RankF idx n B f d' := by
  intro p q fp fq hpn hqn hlt
  by_cases h1 : a ≤ p ∧ p < b
  · by_cases h2 : a ≤ q ∧ q < b
    · have := hs p q h1.1 h1.2 h2.1 h2.2; omega
    · rw [hp.2.1 q (by omega)]
      refine permIn_all d d' a b (fun x => idx x < idx d[q]!) (by omega) hp (fun k k1 k2 => h k q (by omega) fq (by omega) hqn ?_) p h1.1 h1.2
      rw [hs k p k1 k2 h1.1 h1.2]; exact hlt
  · rw [hp.2.1 p (by omega)]
    by_cases h2 : a ≤ q ∧ q < b
    · refine permIn_all d d' a b (fun x => idx d[p]! < idx x) (by omega) hp (fun k k1 k2 => h p k fp (by omega) hpn (by omega) ?_) q h2.1 h2.2
      rw [hs k q k1 k2 h2.1 h2.2]; exact hlt
    · rw [hp.2.1 q (by omega)]
      exact h p q fp fq hpn hqn hlt
theorem RankF.from_ {n B f f' : Nat} {d : Array α} (h : RankF idx n B f d) (hf : f ≤ f') : RankF idx n B f' d := fun p q h1 h2 => h p q (by omega) (by omega)
theorem RankF.double {n B f : Nat} {d : Array α} (h : RankF idx n B f d) : RankF idx n (2 * B) f d := fun p q h1 h2 h3 h4 h5 => h p q h1 h2 h3 h4 (by
  rw [Nat.mul_comm, ← Nat.div_div_eq_div_mul, ← Nat.div_div_eq_div_mul] at h5
  omega)
theorem rank_start {n B : Nat} {d : Array α} (h : ∀ p q, p < q → q < n → idx d[p]! < idx d[q]!) (f : Nat) : RankF idx n B f d := fun p q _ _ h3 h4 h5 => h p q (by
  rcases Nat.lt_or_ge p q with hh | hh
  · exact hh
  · have := Nat.div_le_div_right (c := B) hh; omega) h4
theorem block_div {B k p : Nat} (h1 : k * B ≤ p) (h2 : p < (k + 1) * B) : p / B = k := by
  have hB : 0 < B := by
    rcases Nat.eq_zero_or_pos B with h | h
    · subst h; simp at h2
    · exact h
  rw [Nat.div_eq_iff hB]
  rw [Nat.add_mul, Nat.one_mul] at h2
  rw [Nat.mul_comm] at h1 h2
  constructor
  · rw [Nat.mul_comm] at h1; omega
  · rw [Nat.mul_comm] at h2; omega
/-- The blocks of insertion: the first k are done. -/
structure InsPh (key : α → Int) (idx : α → Nat) (n k : Nat) (d0 d : Array α) : Prop where
  perm : PermIn 0 n d0 d
  done : ∀ j, j < k → SortedIn (lxK key idx) (j * 20) ((j + 1) * 20) d
  rest : ∀ p q, k * 20 ≤ p → p < q → q < n → idx d[p]! < idx d[q]!
  rank : RankF idx n 20 0 d
theorem SortedIn.keep {lt : α → α → Bool} {a b : Nat} {d d' : Array α} (h : SortedIn lt a b d) (he : ∀ p, a ≤ p → p < b → d'[p]! = d[p]!) : SortedIn lt a b d' := fun p q h1 h2 h3 => by
  rw [he p h1 (by omega), he q (by omega) h3]; exact h p q h1 h2 h3
theorem InsPh.start {n : Nat} {d : Array α} (h : ∀ p q, p < q → q < n → idx d[p]! < idx d[q]!) : InsPh key idx n 0 d d :=
  ⟨permIn_refl _ _ _, fun j hj => by omega, fun p q _ h2 h3 => h p q h2 h3, rank_start h 0⟩
/-- One more block, whole or the last one. -/
theorem InsPh.step {n k b : Nat} {d0 d d' : Array α} (h : InsPh key idx n k d0 d) (hn : n = d.size) (hb1 : k * 20 ≤ b) (hb2 : b ≤ k * 20 + 20) (hbn : b ≤ n) (hd : d' = insertionSort (ltK key) d (k * 20) b) :
    PermIn 0 n d0 d' ∧ RankF idx n 20 0 d' ∧ SortedIn (lxK key idx) (k * 20) b d' ∧ (∀ p, p < k * 20 ∨ b ≤ p → d'[p]! = d[p]!) := by
  rw [insertion_congr (idx := idx) (by omega) fun p q h1 h2 h3 => h.rest p q h1 h2 (by omega)] at hd
  obtain ⟨h1, h2⟩ := insertionSort_holds (lt := lxK key idx) (lx_swo key idx) d (k * 20) b hb1 (by omega)
  rw [← hd] at h1 h2
  refine ⟨permIn_trans _ _ _ _ _ h.perm (permIn_mono _ _ _ _ _ _ (Nat.zero_le _) hbn (by omega) h1), h.rank.perm h1 hbn hn (Nat.zero_le _) fun p q p1 p2 q1 q2 => ?_, h2, fun p hp => h1.2.1 p hp⟩
  rw [block_div p1 (by omega), block_div q1 (by omega)]
theorem InsPh.next {n k : Nat} {d0 d d' : Array α} (h : InsPh key idx n k d0 d) (hn : n = d.size) (hb : k * 20 + 20 ≤ n) (hd : d' = insertionSort (ltK key) d (k * 20) (k * 20 + 20)) : InsPh key idx n (k + 1) d0 d' := by
  obtain ⟨h1, h2, h3, h4⟩ := h.step hn (by omega) (Nat.le_refl _) hb hd
  refine ⟨h1, fun j hj => ?_, fun p q p1 p2 p3 => ?_, h2⟩
  · by_cases e : j = k
    · subst e; rw [Nat.add_mul, Nat.one_mul]; exact h3
    · exact SortedIn.keep (h.done j (by omega)) fun p p1 p2 => h4 p (.inl (by have : (j + 1) * 20 ≤ k * 20 := Nat.mul_le_mul_right _ (by omega); omega))
  · rw [h4 p (.inr (by omega)), h4 q (.inr (by omega))]
    exact h.rest p q (by omega) p2 p3
/-- Blocks of B places are in order. -/
structure MrgPh (key : α → Int) (idx : α → Nat) (n B : Nat) (d0 d : Array α) : Prop where
  perm : PermIn 0 n d0 d
  done : ∀ j, SortedIn (lxK key idx) (j * B) (min ((j + 1) * B) n) d
  rank : RankF idx n B 0 d
theorem InsPh.last {n k : Nat} {d0 d d' : Array α} (h : InsPh key idx n k d0 d) (hn : n = d.size) (hk : k * 20 ≤ n) (hb : n < k * 20 + 20) (hd : d' = insertionSort (ltK key) d (k * 20) n) : MrgPh key idx n 20 d0 d' := by
  obtain ⟨h1, h2, h3, h4⟩ := h.step hn hk (by omega) (Nat.le_refl _) hd
  refine ⟨h1, fun j => ?_, h2⟩
  rcases Nat.lt_trichotomy j k with e | e | e
  · have hm : (j + 1) * 20 ≤ k * 20 := Nat.mul_le_mul_right _ (by omega)
    rw [Nat.min_eq_left (by omega)]
    exact SortedIn.keep (h.done j e) fun p p1 p2 => h4 p (.inl (by omega))
  · subst e
    rw [Nat.min_eq_right (by omega)]
    exact h3
  · intro p q p1 p2 p3
    have : (k + 1) * 20 ≤ j * 20 := Nat.mul_le_mul_right _ (by omega)
    omega
/-- Half of the blocks are merged: those before the place k * (2 * B). -/
structure MidPh (key : α → Int) (idx : α → Nat) (n B k : Nat) (d0 d : Array α) : Prop where
  perm : PermIn 0 n d0 d
  done : ∀ j, j < k → SortedIn (lxK key idx) (j * (2 * B)) ((j + 1) * (2 * B)) d
  rest : ∀ j, 2 * k ≤ j → SortedIn (lxK key idx) (j * B) (min ((j + 1) * B) n) d
  rank : RankF idx n B (k * (2 * B)) d
  rank2 : RankF idx n (2 * B) 0 d
theorem MrgPh.mid {n B : Nat} {d0 d : Array α} (h : MrgPh key idx n B d0 d) : MidPh key idx n B 0 d0 d :=
  ⟨h.perm, fun j hj => by omega, fun j _ => h.done j, by simpa using h.rank, h.rank.double⟩
theorem two_k (k B : Nat) : k * (2 * B) = 2 * k * B := by rw [← Nat.mul_assoc, Nat.mul_comm k 2]
theorem MidPh.mg {n B k b : Nat} {d0 d : Array α} (h : MidPh key idx n B k d0 d) (hB : 0 < B) (hm : k * (2 * B) + B ≤ b) (hb : b ≤ k * (2 * B) + 2 * B) (hbn : b ≤ n) (hfull : b = k * (2 * B) + 2 * B ∨ b = n) : Mg key idx (k * (2 * B)) (k * (2 * B) + B) b d := by
  have e := two_k k B
  have e1 : (2 * k + 1) * B = k * (2 * B) + B := by rw [Nat.add_mul, Nat.one_mul, ← e]
  have e2 : (2 * k + 1 + 1) * B = k * (2 * B) + 2 * B := by rw [Nat.add_mul, Nat.one_mul, e1]; omega
  refine ⟨?_, ?_, fun p q h1 h2 h3 h4 => h.rank p q h1 (by omega) (by omega) (by omega) ?_⟩
  · have := h.rest (2 * k) (Nat.le_refl _)
    rwa [e1, Nat.min_eq_left (by omega), ← e] at this
  · have := h.rest (2 * k + 1) (by omega)
    rw [e1, e2] at this
    rcases hfull with hf | hf
    · rw [← hf, Nat.min_eq_left hbn] at this; exact this
    · rw [Nat.min_eq_right (by omega), ← hf] at this; exact this
  · have d1 : p / B = 2 * k := block_div (by omega) (by omega)
    have d2 : 2 * k + 1 ≤ q / B := by rw [Nat.le_div_iff_mul_le hB]; omega
    omega
theorem MidPh.step {n B k b : Nat} {d0 d d' : Array α} (h : MidPh key idx n B k d0 d) (hn : n = d.size) (hb : b ≤ k * (2 * B) + 2 * B) (hbn : b ≤ n) (hm : Merged key idx (k * (2 * B)) b d d') :
    PermIn 0 n d0 d' ∧ RankF idx n (2 * B) 0 d' ∧ (∀ p, p < k * (2 * B) ∨ b ≤ p → d'[p]! = d[p]!) ∧ SortedIn (lxK key idx) (k * (2 * B)) b d' := by
  refine ⟨permIn_trans _ _ _ _ _ h.perm (permIn_mono _ _ _ _ _ _ (Nat.zero_le _) hbn (by omega) hm.1), h.rank2.perm hm.1 hbn hn (Nat.zero_le _) fun p q p1 p2 q1 q2 => ?_, fun p hp => hm.1.2.1 p hp, hm.2⟩
  have e : (k + 1) * (2 * B) = k * (2 * B) + 2 * B := by rw [Nat.add_mul, Nat.one_mul]
  rw [block_div p1 (by omega), block_div q1 (by omega)]
theorem MidPh.next {n B k : Nat} {d0 d d' : Array α} (h : MidPh key idx n B k d0 d) (hn : n = d.size) (hb : k * (2 * B) + 2 * B ≤ n) (hm : Merged key idx (k * (2 * B)) (k * (2 * B) + 2 * B) d d') : MidPh key idx n B (k + 1) d0 d' := by
  obtain ⟨h1, h2, h3, h4⟩ := h.step hn (Nat.le_refl _) hb hm
  have e : (k + 1) * (2 * B) = k * (2 * B) + 2 * B := by rw [Nat.add_mul, Nat.one_mul]
  refine ⟨h1, fun j hj => ?_, fun j hj => ?_, ?_, h2⟩
  · by_cases ej : j = k
    · subst ej; rw [e]; exact h4
    · exact SortedIn.keep (h.done j (by omega)) fun p p1 p2 => h3 p (.inl (by have : (j + 1) * (2 * B) ≤ k * (2 * B) := Nat.mul_le_mul_right _ (by omega); omega))
  · refine SortedIn.keep (h.rest j (by omega)) fun p p1 p2 => h3 p (.inr ?_)
    have := Nat.mul_le_mul_right B hj
    rw [Nat.mul_add, Nat.add_mul, ← two_k] at this
    omega
  · intro p q p1 q1 p2 q2 hlt
    rw [h3 p (.inr (by omega)), h3 q (.inr (by omega))]
    exact h.rank p q (by omega) (by omega) p2 q2 hlt
/-- The pass is over: what is left is one block, or two that were merged. -/
theorem MidPh.fin {n B k : Nat} {d0 d : Array α} (h : MidPh key idx n B k d0 d) (hb : n < k * (2 * B) + 2 * B) (hl : SortedIn (lxK key idx) (k * (2 * B)) n d) : MrgPh key idx n (2 * B) d0 d := by
  refine ⟨h.perm, fun j => ?_, h.rank2⟩
  have e : (k + 1) * (2 * B) = k * (2 * B) + 2 * B := by rw [Nat.add_mul, Nat.one_mul]
  rcases Nat.lt_trichotomy j k with ej | ej | ej
  · intro p q p1 p2 p3; exact h.done j ej p q p1 p2 (by omega)
  · subst ej; intro p q p1 p2 p3; exact hl p q p1 p2 (by omega)
  · intro p q p1 p2 p3
    have : (k + 1) * (2 * B) ≤ j * (2 * B) := Nat.mul_le_mul_right _ (by omega)
    omega
theorem MidPh.fin_one {n B k : Nat} {d0 d : Array α} (h : MidPh key idx n B k d0 d) (hb : n ≤ k * (2 * B) + B) : MrgPh key idx n (2 * B) d0 d := by
  rcases Nat.eq_zero_or_pos B with h0 | hB
  · subst h0
    exact ⟨h.perm, fun j p q p1 p2 p3 => by simp at p3, h.rank2⟩
  · refine h.fin (by omega) ?_
    have := h.rest (2 * k) (Nat.le_refl _)
    rw [← two_k] at this
    intro p q p1 p2 p3
    refine this p q p1 p2 ?_
    rw [Nat.add_mul, Nat.one_mul, ← two_k]
    omega
theorem MidPh.fin_two {n B k : Nat} {d0 d d' : Array α} (h : MidPh key idx n B k d0 d) (hn : n = d.size) (hm0 : k * (2 * B) ≤ n) (hb : n < k * (2 * B) + 2 * B) (hm : Merged key idx (k * (2 * B)) n d d') : MrgPh key idx n (2 * B) d0 d' := by
  obtain ⟨h1, h2, h3, h4⟩ := h.step hn (by omega) (Nat.le_refl _) hm
  refine ⟨h1, fun j => ?_, h2⟩
  have e : (k + 1) * (2 * B) = k * (2 * B) + 2 * B := by rw [Nat.add_mul, Nat.one_mul]
  rcases Nat.lt_trichotomy j k with ej | ej | ej
  · have hh : (j + 1) * (2 * B) ≤ k * (2 * B) := Nat.mul_le_mul_right _ (by omega)
    rw [Nat.min_eq_left (by omega)]
    exact SortedIn.keep (h.done j ej) fun p p1 p2 => h3 p (.inl (by omega))
  · subst ej; intro p q p1 p2 p3; exact h4 p q p1 p2 (by omega)
  · intro p q p1 p2 p3
    have : (k + 1) * (2 * B) ≤ j * (2 * B) := Nat.mul_le_mul_right _ (by omega)
    omega
theorem MrgPh.whole {n B : Nat} {d0 d : Array α} (h : MrgPh key idx n B d0 d) (hB : n ≤ B) : Merged key idx 0 n d0 d := by
  refine ⟨h.perm, fun p q p1 p2 p3 => ?_⟩
  have := h.done 0
  rw [Nat.zero_mul, Nat.zero_add, Nat.one_mul, Nat.min_eq_right hB] at this
  exact this p q p1 p2 p3
end
end Go.Proofs.Ythenclenabcmgaa
