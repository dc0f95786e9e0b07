/-
  An argument of type api.Entry, opened: its numbers, its names, and the bound on their bytes.
  Conditions: none.
-/
import Derived.Test.YtjefpeppkphgbaaFirst
import Derived.Test.YtjefpeppkphgbaaRows
import Derived.WalkKit
import Derived.ProofKit
import Derived.OpenShut
import Derived.Lib.SmallJoins
import Derived.Deep.Slices
import Derived.Deep.Strs
namespace Go.Proofs.Ytjefpeppkphgbaa
open Go.ChangeShapes Go.WideShapes Go.ChangeAt Go.RowKit Go.Joins Go.Deep
set_option maxHeartbeats 1000000
set_option maxRecDepth 20000

section
variable {H : Type} {enc : TypeId × Value → H} {P : Program} {w : World} {base : Nat} {spare : Nat → Bool} {held : Bool}
theorem array5 {α : Type} {cs : Array α} (h : cs.size = 5) : ∃ c0 c1 c2 c3 c4, cs = #[c0, c1, c2, c3, c4] := by
  obtain ⟨l⟩ := cs
  match l, h with
  | [c0, c1, c2, c3, c4], _ => exact ⟨c0, c1, c2, c3, c4, rfl⟩
theorem open_agg5 {r : Reach} {b0 : Nat} {t : TypeId} {f0 f1 f2 f3 f4 : Field} {v : Value} {d : DataW H} {p : List MemPlace} (hs : P.underlying t = some (.struct #[f0, f1, f2, f3, f4])) (hone : oneCellFields P #[f0, f1, f2, f3, f4] = true) (hC : P.cellsOf t = 5)
    (hv : Value.okWide P w r b0 t v) (h : DataW.Trod enc P w base spare held t v d p) :
    ∃ (v0 v1 v2 v3 v4 : Value) (y0 y1 y2 y3 y4 : DataW H × List MemPlace) (n : Nat), v = .agg #[v0, v1, v2, v3, v4] ∧ d = .agg [y0.1, y1.1, y2.1, y3.1, y4.1] ∧ p = y0.2 ++ (y1.2 ++ (y2.2 ++ (y3.2 ++ y4.2))) ∧
      DataW.trod enc P w base spare held n f0.type [v0] = some y0 ∧ DataW.trod enc P w base spare held n f1.type [v1] = some y1 ∧ DataW.trod enc P w base spare held n f2.type [v2] = some y2 ∧ DataW.trod enc P w base spare held n f3.type [v3] = some y3 ∧ DataW.trod enc P w base spare held n f4.type [v4] = some y4 := by
  obtain ⟨cs, rfl, hsz⟩ := okWide_struct hs hv
  obtain ⟨c0, c1, c2, c3, c4, rfl⟩ := array5 (hsz.trans hC)
  obtain ⟨fuel, hf⟩ := h
  obtain ⟨xs, n, _, hx, _, hlen, hg⟩ := DataW.trod_struct hs hf
  match xs, hlen with
  | [y0, y1, y2, y3, y4], _ =>
    obtain ⟨o0, k0⟩ := hone_of hone 0 f0 rfl
    obtain ⟨o1, k1⟩ := hone_of hone 1 f1 rfl
    obtain ⟨o2, k2⟩ := hone_of hone 2 f2 rfl
    obtain ⟨o3, k3⟩ := hone_of hone 3 f3 rfl
    obtain ⟨o4, k4⟩ := hone_of hone 4 f4 rfl
    simp only [Prod.mk.injEq] at hx
    exact ⟨c0, c1, c2, c3, c4, y0, y1, y2, y3, y4, n, rfl, by simpa using hx.1, by simpa using hx.2, by simpa [Value.cells, o0, k0] using hg 0 f0 rfl, by simpa [Value.cells, o1, k1] using hg 1 f1 rfl, by simpa [Value.cells, o2, k2] using hg 2 f2 rfl, by simpa [Value.cells, o3, k3] using hg 3 f3 rfl, by simpa [Value.cells, o4, k4] using hg 4 f4 rfl⟩
end

theorem nms_cells (f : Nat → Option Value) : ∀ (l : List Nm) (o : Nat), (∀ i n, l[i]? = some n → f (o + i * 3) = some (.string n.a) ∧ f (o + i * 3 + 1) = some (.string n.u) ∧ f (o + i * 3 + 2) = some (.string n.k)) →
    ∀ j u, (nmsCells l)[j]? = some u → f (o + j) = some u
  | [], _, _, j, u, h => by simp [nmsCells] at h
  | n :: l, o, hf, j, u, h => by
    obtain ⟨h0, h1, h2⟩ := hf 0 n rfl
    simp only [Nat.zero_mul, Nat.add_zero] at h0 h1 h2
    rw [nmsCells] at h
    match j, h with
    | 0, h => simp [nmCells] at h; subst h; exact h0
    | 1, h => simp [nmCells] at h; subst h; exact h1
    | 2, h => simp [nmCells] at h; subst h; exact h2
    | j + 3, h =>
      have := nms_cells f l (o + 3) (fun i n' hi => by
        have g := hf (i + 1) n' (by simpa using hi)
        rw [show o + (i + 1) * 3 = o + 3 + i * 3 by omega] at g
        exact g) j u (by rw [List.getElem?_append_right (by simp [nmCells])] at h; simpa [nmCells] using h)
      rw [show o + (j + 3) = o + 3 + j by omega]; exact this
theorem nms_bulk {H : Type} {D : Nat → DataW H} {q : Nat → ByteArray × ByteArray × ByteArray} : ∀ l : List Nat, (∀ i ∈ l, D i = .agg [.lit (.string (q i).1.data.toList), .lit (.string (q i).2.1.data.toList), .lit (.string (q i).2.2.data.toList)]) →
    nmsSize (l.map fun i => ⟨(q i).1, (q i).2.1, (q i).2.2⟩) + 4 * l.length ≤ Rows.uptoBulkAll (l.map D)
  | [], _ => by simp [nmsSize, Rows.uptoBulkAll]
  | i :: l, h => by
    have h1 := nms_bulk l fun j hj => h j (by simp [hj])
    have h0 := h i (by simp)
    have e1 : ∀ b : ByteArray, b.data.toList.length = b.size := fun _ => rfl
    simp only [List.map_cons, nmsSize, nmSize, Rows.uptoBulkAll, h0, Rows.uptoBulk, List.length_cons, e1]
    omega
theorem open_names {H : Type} {enc : TypeId × Value → H} {w : World} {fuel : Nat} {c : Value} {x : DataW H × List MemPlace} (h : DataW.trod enc Try.prog w 0 (fun _ => true) true fuel 22 [c] = some x) :
    ∃ ns, NmsAt w (fun _ => True) c ns ∧ nmsSize ns + 4 * ns.length ≤ Rows.uptoBulk x.1 := by
  rcases open_slice Try.underlying22 h with ⟨hcs, rfl⟩ | ⟨a, len, cap, m, n, D, Pl, hcs, _, hl, hm, hmm, rfl, hel⟩
  · simp only [List.cons.injEq, and_true] at hcs
    subst hcs
    exact ⟨[], Rd.nil _ _ _, by simp [nmsSize, Rows.uptoBulk]⟩
  · simp only [List.cons.injEq, and_true] at hcs
    subst hcs
    have hlm : len ≤ m := by rw [hmm]; simp; exact hl
    have ce : Try.prog.cellsOf 63 = 3 := by kernel_rfl
    have cs1 : Try.prog.cellsOf 9 = 1 := by kernel_rfl
    have each : ∀ i, i < len → ∃ q : ByteArray × ByteArray × ByteArray, w.cell? (a.add (i * 3)) = some (.string q.1) ∧ w.cell? (a.add (i * 3 + 1)) = some (.string q.2.1) ∧ w.cell? (a.add (i * 3 + 2)) = some (.string q.2.2) ∧ D i = .agg [.lit (.string q.1.data.toList), .lit (.string q.2.1.data.toList), .lit (.string q.2.2.data.toList)] := by
      intro i hi
      obtain ⟨cs', h1, h2⟩ := hel i (by omega)
      rw [ce] at h1
      obtain ⟨_, hlen, hcell⟩ := World.cells?_some h1
      obtain ⟨y0, y1, y2, k, hx, _, g0, g1, g2⟩ := trod_struct3 Try.underlying63 h2
      match cs', hlen with
      | [v0, v1, v2], _ =>
        simp only [cs1] at g0 g1 g2
        obtain ⟨s0, e0, f0, _⟩ := DataW.trod_string Try.underlying9 g0
        obtain ⟨s1, e1, f1, _⟩ := DataW.trod_string Try.underlying9 g1
        obtain ⟨s2, e2, f2, _⟩ := DataW.trod_string Try.underlying9 g2
        simp at e0 e1 e2
        subst e0 e1 e2
        simp only [Prod.mk.injEq] at hx
        have k0 := hcell 0 (by omega)
        have k1 := hcell 1 (by omega)
        have k2 := hcell 2 (by omega)
        rw [add_add] at k0 k1 k2
        exact ⟨(s0, s1, s2), by simpa using k0, by simpa using k1, by simpa using k2, by rw [hx.1, f0, f1, f2]⟩
    obtain ⟨q, hq⟩ := choose_lt each
    refine ⟨(List.range len).map fun i => ⟨(q i).1, (q i).2.1, (q i).2.2⟩, ⟨by rw [nmsCells_len], some a, cap, by simp, by simpa using hl, hm, fun h0 => ?_⟩, ?_⟩
    · simp only [List.length_map, List.length_range] at h0
      have c0 := (hq 0 h0).1
      simp only [Nat.zero_mul] at c0
      have hspot := spot_zero c0
      obtain ⟨b, off, spot⟩ := a
      have hs0 : spot = none := hspot
      subst hs0
      have hadd : ∀ k, (⟨b, off, none⟩ : Addr).add k = ⟨b, off + k, none⟩ := fun k => by unfold Addr.add; by_cases hk : k = 0 <;> simp [hk]
      simp only [hadd] at hq
      refine ⟨b, off, rfl, trivial, ?_, nms_cells (fun k => w.cell? ⟨b, k, none⟩) _ off fun i n' hi => ?_⟩
      · rcases Nat.lt_or_ge b w.heap.size with hlt | hge
        · exact hlt
        · have := (hq 0 h0).1
          simp [World.cell?, Array.getElem?_eq_none hge] at this
      · simp only [List.getElem?_map] at hi
        have hil : i < len := by
          rcases Nat.lt_or_ge i len with hlt | hge
          · exact hlt
          · rw [List.getElem?_eq_none (by simpa using hge)] at hi; simp at hi
        rw [List.getElem?_range hil] at hi
        simp only [Option.map_some, Option.some.injEq] at hi
        subst hi
        obtain ⟨r0, r1, r2, _⟩ := hq i hil
        exact ⟨r0, by rw [Nat.add_assoc]; exact r1, by rw [Nat.add_assoc]; exact r2⟩
    · have hb := nms_bulk (D := D) (q := q) (List.range len) fun i hi => (hq i (List.mem_range.1 hi)).2.2.2
      simp only [List.length_map, List.length_range] at hb ⊢
      simp only [Rows.uptoBulk]
      omega
end Go.Proofs.Ytjefpeppkphgbaa
