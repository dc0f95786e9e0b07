/-
  A source stays a source where only other blocks change.
  Conditions: none.
-/
import Derived.Test.YtjefpeppkphgbaaSource
namespace Go.Proofs.Ytjefpeppkphgbaa
open Go.RowKit Go.Sort

theorem Src.chg {B b : Nat} {w w' : World} {S : Nat → Prop} (h : Src B w b) (c : Chg S w w') (hb : ¬ S b) (hB : ∀ k, k < B → ¬ S k) : Src B w' b := by
  obtain ⟨a, len, cap, i, h1, h2, h3, h4, h5⟩ := h
  have hl : b < w.heap.size := (Array.getElem?_eq_some_iff.1 h1).1
  refine ⟨a, len, cap, i, (c.block b hl hb).trans h1, h2, h3, h4, fun h0 => ?_⟩
  obtain ⟨x, e, hx, hc⟩ := h5 h0
  refine ⟨x, e, hx, fun j hj => ?_⟩
  obtain ⟨z, hz, hi⟩ := hc j hj
  exact ⟨z, (c.cell (p := x.add j) (by rcases Nat.lt_or_ge (x.add j).block w.heap.size with q | q; exact q; simp [World.cell?, Array.getElem?_eq_none q] at hz) (by rw [add_block]; exact hB _ hx)).trans hz, hi⟩
end Go.Proofs.Ytjefpeppkphgbaa
