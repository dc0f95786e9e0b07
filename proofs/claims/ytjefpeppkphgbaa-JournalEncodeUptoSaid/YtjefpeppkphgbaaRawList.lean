/-
  The list of entries that a statement of chapter 33 walks: those of keep.Entries, and a raw one behind them.
  Conditions: the raw entry's names are of bounded bulk.
-/
import Derived.Test.YtjefpeppkphgbaaAwake33
import Derived.Test.YtjefpeppkphgbaaLast
namespace Go.Proofs.Ytjefpeppkphgbaa
open Go.RowKit Go.Sort
set_option maxHeartbeats 4000000
set_option maxRecDepth 20000

/-- An entry whose numbers a Go int holds and whose names are within a process's reach. -/
structure Mild (e : Ent) : Prop where
  i64 : I64 e.cl ∧ I64 e.op ∧ I64 e.ttl ∧ I64 e.tick
  items : (namesItems e.names).length ≤ 70368744177664
  len : e.names.length ≤ 9223372036854775807
theorem Mild.body {e : Ent} (h : Mild e) : (bodyE e).length + 100 ≤ 140737488355328 := by
  have := head_len h.i64.1 h.i64.2.1 h.i64.2.2.1 h.i64.2.2.2 h.len
  have := h.items
  rw [bodyE, List.length_append]; omega
theorem SmallE.mild {e : Ent} (h : SmallE e) : Mild e := ⟨h.i64, by have := namesItems_small h.names; have := h.len; omega, by have := h.len; omega⟩
theorem mild_raw {cl op ttl tick : Int} {ns : List Nm} (h1 : I64 cl) (h2 : I64 op) (h3 : I64 ttl) (h4 : I64 tick) (hb : nmsSize ns + 4 * ns.length ≤ 1048576) : Mild ⟨cl, op, ttl, tick, ns⟩ := by
  have := namesItems_le ns (by omega)
  exact ⟨⟨h1, h2, h3, h4⟩, by simp only; omega, by simp only; omega⟩
/-- What the loop walks: at most six entries, all mild. -/
structure LSt (w w' : World) (v : Value) (ps : List (Ent × Value)) : Prop where
  ents : EntsAt w' (fun _ => True) v ps
  mild : ∀ p ∈ ps, Mild p.1
  len : ps.length ≤ 6
  ext : Ext w w'
theorem LSt.ext' {w w1 w2 : World} {v : Value} {ps : List (Ent × Value)} (h : LSt w w1 v ps) (x : Ext w1 w2) : LSt w w2 v ps := ⟨h.ents.ext x, h.mild, h.len, h.ext.trans x⟩
/-- A raw entry appended, from whatever world that lies behind. -/
theorem lst_more {w w0 w1 w2 w3 : World} {v v' u : Value} {ps : List (Ent × Value)} {e : Ent} {Z : Nat} (hx0 : Ext w w0) (h : KSt w0 w1 v ps Z) (h12 : Ext w1 w2) (hl : ps.length ≤ 5) (hm : Mild e) (hu : NmsAt w0 (fun k => k < w0.heap.size) u e.names)
    (ha : Appended w2 (w0.heap.size + 1) 24 5 v (ps.length + 1) (entsCells ps ++ entCells (e, u)) v' w3) : LSt w w3 v' (ps ++ [(e, u)]) := by
  have h2 : KSt w0 w2 v ps Z := h.chg (S := fun _ => False) (h12.chg _) (fun i hi => hi.elim)
  have hcg : Chg (fun b => v.ownBlock = some b) _ w3 := (Chg.refl _ _).grown ha.grown (fun k hk => .inl hk)
  have hown : ∀ k, v.ownBlock = some k → w0.heap.size + 1 ≤ k := fun k hk => (h2.own.lt k hk).1
  refine ⟨⟨?_, fun p hp => ?_⟩, fun p hp => ?_, by simp; omega, hx0.trans (h2.ext.chg_new hcg fun i hi => by have := hown i hi; omega)⟩
  · have := ha.own
    rw [show (ps ++ [(e, u)]).length = ps.length + 1 by simp, entsCells_append]
    exact Rd.of_own (by simpa [entsCells] using this) fun _ _ => trivial
  · rcases List.mem_append.1 hp with hp | hp
    · exact Rd.mono (Rd.chg (h2.nms p hp) hcg fun k hk e => hk.2.2 e) fun _ _ _ => trivial
    · simp only [List.mem_singleton] at hp
      subst hp
      exact Rd.mono (Rd.chg (NmsAt.ext hu h2.ext) hcg fun k hk e => by have := hown k e; omega) fun _ _ _ => trivial
  · rcases List.mem_append.1 hp with hp | hp
    · exact (h.sm p hp).mild
    · simp only [List.mem_singleton] at hp
      subst hp
      exact hm
end Go.Proofs.Ytjefpeppkphgbaa
