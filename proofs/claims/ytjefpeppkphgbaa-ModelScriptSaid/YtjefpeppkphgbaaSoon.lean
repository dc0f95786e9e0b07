/-
  Rows of records, and what Soonest computes of one, in the program and in its reference (23.4).
  Conditions: none.
-/
import Derived.Test.YtjefpeppkphgbaaClock2
namespace Go.Proofs.Ytjefpeppkphgbaa
open Go.RowKit Go.Sort
set_option maxHeartbeats 400000

/-- A record's four fields. -/
structure Rc where
  st : Int
  ow : Int
  nm : ByteArray
  dl : Int
instance : Inhabited Rc := ⟨⟨0, 0, ⟨#[]⟩, 0⟩⟩
def Rc.cells (r : Rc) : List Value := [.int .i64 r.st, .int .i64 r.ow, .string r.nm, .int .i64 r.dl]
/-- The value is a slice whose elements are these records. -/
def Recs (w : World) (v : Value) (rs : List Rc) : Prop :=
  ∃ (a : Option Addr) (cap : Nat), v = .slice a rs.length cap ∧ rs.length ≤ maxLen ∧ ∀ k, k < rs.length → ∃ g, a = some ⟨g, 0, none⟩ ∧ g < w.heap.size ∧
    w.cell? ⟨g, k * 4, none⟩ = some (.int .i64 (rs.getD k default).st) ∧ w.cell? ⟨g, k * 4 + 1, none⟩ = some (.int .i64 (rs.getD k default).ow) ∧
    w.cell? ⟨g, k * 4 + 2, none⟩ = some (.string (rs.getD k default).nm) ∧ w.cell? ⟨g, k * 4 + 3, none⟩ = some (.int .i64 (rs.getD k default).dl)
theorem Recs.ext {w w' : World} {v : Value} {rs : List Rc} (h : Recs w v rs) (x : Ext w w') : Recs w' v rs := by
  obtain ⟨a, cap, h1, h2, h3⟩ := h
  refine ⟨a, cap, h1, h2, fun k hk => ?_⟩
  obtain ⟨g, ha, hg, c0, c1, c2, c3⟩ := h3 k hk
  refine ⟨g, ha, Nat.lt_of_lt_of_le hg x.size, (x.cell hg).trans c0, (x.cell hg).trans c1, (x.cell hg).trans c2, (x.cell hg).trans c3⟩

/-- One record's part in Soonest (23.4). -/
def soonStep (now : Int) (p : Int × Bool) (r : Rc) : Int × Bool := if r.st = 1 ∧ liveB r.st r.dl now = true ∧ (p.2 = false ∨ r.dl < p.1) then (r.dl, true) else p
def soon (now : Int) (rs : List Rc) : Int × Bool := rs.foldl (soonStep now) (0, false)
theorem take_next (rs : List Rc) {k : Nat} (h : k < rs.length) : rs.take (k + 1) = rs.take k ++ [rs.getD k default] := by
  rw [List.take_add_one, List.getD_eq_getElem?_getD, List.getElem?_eq_getElem h]; rfl
theorem soon_next (now : Int) (rs : List Rc) {k : Nat} (h : k < rs.length) : soon now (rs.take (k + 1)) = soonStep now (soon now (rs.take k)) (rs.getD k default) := by
  rw [take_next rs h]; simp [soon]

end Go.Proofs.Ytjefpeppkphgbaa
