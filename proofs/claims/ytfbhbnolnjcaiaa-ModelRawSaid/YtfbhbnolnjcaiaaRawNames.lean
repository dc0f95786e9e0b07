/-
  An argument that is a slice of names, opened: its names, whose keys are within a process's reach.
  Conditions: none.
-/
import Derived.Test.YtfbhbnolnjcaiaaNames
import Derived.Test.YtfbhbnolnjcaiaaRows
import Derived.WalkKit
import Derived.ProofKit
import Derived.OpenShut
import Derived.Lib.SmallJoins
import Derived.Deep.Slices
import Derived.Deep.Strs
namespace Go.Proofs.Ytfbhbnolnjcaiaa
open Go.ChangeShapes Go.WideShapes Go.ChangeAt Go.RowKit Go.Joins Go.Deep
set_option maxHeartbeats 1000000
set_option maxRecDepth 20000

theorem nms_cellsK (f : Nat → Option Value) : ∀ (l : List Nm) (o : Nat), (∀ i n, l[i]? = some n → f (o + i * 3) = some (.string n.a) ∧ f (o + i * 3 + 1) = some (.string n.u) ∧ f (o + i * 3 + 2) = some (.string n.k)) →
    ∀ j u, (nmsCells l)[j]? = some u → f (o + j) = some u
  | [], _, _, j, u, h => by simp [nmsCells] at h
  | n :: l, o, hf, j, u, h => by
    obtain ⟨h0, h1, h2⟩ := hf 0 n rfl
    simp only [Nat.zero_mul, Nat.add_zero] at h0 h1 h2
    rw [nmsCells] at h
    match j, h with
    | 0, h => simp [nmCells] at h; subst h; exact h0
    | 1, h => simp [nmCells] at h; subst h; exact h1
    | 2, h => simp [nmCells] at h; subst h; exact h2
    | j + 3, h =>
      have := nms_cellsK f l (o + 3) (fun i n' hi => by
        have g := hf (i + 1) n' (by simpa using hi)
        rw [show o + (i + 1) * 3 = o + 3 + i * 3 by omega] at g
        exact g) j u (by rw [List.getElem?_append_right (by simp [nmCells])] at h; simpa [nmCells] using h)
      rw [show o + (j + 3) = o + 3 + j by omega]; exact this
theorem open_namesK {H : Type} {enc : TypeId × Value → H} {w : World} {fuel : Nat} {c : Value} {x : DataW H × List MemPlace} (h : DataW.trod enc Try.prog w 0 (fun _ => true) true fuel 29 [c] = some x) :
    ∃ ns, NmsAt w (fun _ => True) c ns ∧ ∀ n ∈ ns, n.k.size ≤ maxLen := by
  rcases open_slice Try.underlying29 h with ⟨hcs, rfl⟩ | ⟨a, len, cap, m, n, D, Pl, hcs, _, hl, hm, hmm, rfl, hel⟩
  · simp only [List.cons.injEq, and_true] at hcs
    subst hcs
    exact ⟨[], Rd.nil _ _ _, by simp⟩
  · simp only [List.cons.injEq, and_true] at hcs
    subst hcs
    have hlm : len ≤ m := by rw [hmm]; simp; exact hl
    have ce : Try.prog.cellsOf 68 = 3 := by kernel_rfl
    have cs1 : Try.prog.cellsOf 9 = 1 := by kernel_rfl
    have each : ∀ i, i < len → ∃ q : ByteArray × ByteArray × ByteArray, w.cell? (a.add (i * 3)) = some (.string q.1) ∧ w.cell? (a.add (i * 3 + 1)) = some (.string q.2.1) ∧ w.cell? (a.add (i * 3 + 2)) = some (.string q.2.2) ∧ q.2.2.size ≤ maxLen := by
      intro i hi
      obtain ⟨cs', h1, h2⟩ := hel i (by omega)
      rw [ce] at h1
      obtain ⟨_, hlen, hcell⟩ := World.cells?_some h1
      obtain ⟨y0, y1, y2, k, _, _, g0, g1, g2⟩ := trod_struct3 Try.underlying68 h2
      match cs', hlen with
      | [v0, v1, v2], _ =>
        simp only [cs1] at g0 g1 g2
        obtain ⟨s0, e0, _, _⟩ := DataW.trod_string Try.underlying9 g0
        obtain ⟨s1, e1, _, _⟩ := DataW.trod_string Try.underlying9 g1
        obtain ⟨s2, e2, _, w2⟩ := DataW.trod_string Try.underlying9 g2
        simp at e0 e1 e2
        subst e0 e1 e2
        have k0 := hcell 0 (by omega)
        have k1 := hcell 1 (by omega)
        have k2 := hcell 2 (by omega)
        rw [add_add] at k0 k1 k2
        exact ⟨(s0, s1, s2), by simpa using k0, by simpa using k1, by simpa using k2, w2⟩
    obtain ⟨q, hq⟩ := choose_lt each
    refine ⟨(List.range len).map fun i => ⟨(q i).1, (q i).2.1, (q i).2.2⟩, ⟨by rw [nmsCells_len], some a, cap, by simp, by simpa using hl, hm, fun h0 => ?_⟩, ?_⟩
    · simp only [List.length_map, List.length_range] at h0
      have c0 := (hq 0 h0).1
      simp only [Nat.zero_mul] at c0
      have hspot := spot_zero c0
      obtain ⟨b, off, spot⟩ := a
      have hs0 : spot = none := hspot
      subst hs0
      have hadd : ∀ k, (⟨b, off, none⟩ : Addr).add k = ⟨b, off + k, none⟩ := fun k => by unfold Addr.add; by_cases hk : k = 0 <;> simp [hk]
      simp only [hadd] at hq
      refine ⟨b, off, rfl, trivial, ?_, nms_cellsK (fun k => w.cell? ⟨b, k, none⟩) _ off fun i n' hi => ?_⟩
      · rcases Nat.lt_or_ge b w.heap.size with hlt | hge
        · exact hlt
        · have := (hq 0 h0).1
          simp [World.cell?, Array.getElem?_eq_none hge] at this
      · simp only [List.getElem?_map] at hi
        have hil : i < len := by
          rcases Nat.lt_or_ge i len with hlt | hge
          · exact hlt
          · rw [List.getElem?_eq_none (by simpa using hge)] at hi; simp at hi
        rw [List.getElem?_range hil] at hi
        simp only [Option.map_some, Option.some.injEq] at hi
        subst hi
        obtain ⟨r0, r1, r2, _⟩ := hq i hil
        exact ⟨r0, by rw [Nat.add_assoc]; exact r1, by rw [Nat.add_assoc]; exact r2⟩
    · intro n' hn
      obtain ⟨i, hi, rfl⟩ := List.mem_map.1 hn
      exact (hq i (List.mem_range.1 hi)).2.2.2
end Go.Proofs.Ytfbhbnolnjcaiaa
