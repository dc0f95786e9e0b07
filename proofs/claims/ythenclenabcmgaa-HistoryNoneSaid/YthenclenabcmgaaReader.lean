/-
  The readers of the journal (33.3), in the program and in its reference: they read numbers and texts as the plain law says.
  Conditions: the reader lies in memory, and its place lies in the string.
-/
import Derived.Test.YthenclenabcmgaaGetInt
import Derived.Deep.RegionHeld3
namespace Go.Proofs.Ythenclenabcmgaa
open Go.RowKit Go.Sort
set_option maxHeartbeats 2000000
set_option maxRecDepth 10000

/-- Block b is a reader of s that stands at t. -/
def RdrAt (w : World) (b : Nat) (s : ByteArray) (t : Nat) (bad : Bool) : Prop :=
  b < w.heap.size ∧ (∀ i, w.frozen? ⟨b, i, none⟩ = false) ∧ w.cell? ⟨b, 0, none⟩ = some (.string s) ∧ w.cell? ⟨b, 1, none⟩ = some (.int .i64 (t : Int)) ∧ w.cell? ⟨b, 2, none⟩ = some (.bool bad)
theorem RdrAt.chg {S : Nat → Prop} {w w' : World} {b t : Nat} {s : ByteArray} {bad : Bool} (h : RdrAt w b s t bad) (c : Chg S w w') (hb : ¬ S b) : RdrAt w' b s t bad := by
  obtain ⟨h1, h2, h3, h4, h5⟩ := h
  exact ⟨Nat.lt_of_lt_of_le h1 c.size, fun i => (c.frozen (p := ⟨b, i, none⟩) h1 hb).trans (h2 i), (c.cell (p := ⟨b, 0, none⟩) h1 hb).trans h3, (c.cell (p := ⟨b, 1, none⟩) h1 hb).trans h4, (c.cell (p := ⟨b, 2, none⟩) h1 hb).trans h5⟩
theorem RdrAt.ext {w w' : World} {b t : Nat} {s : ByteArray} {bad : Bool} (h : RdrAt w b s t bad) (x : Ext w w') : RdrAt w' b s t bad := h.chg (x.chg (fun _ => False)) (fun h => h)
def NumPost (b : Nat) (s : ByteArray) (t : Nat) (bad : Bool) (w : World) (e : Ending) (w' : World) : Prop :=
  e = .returned (.int .i64 (numR s.data.toList t bad).1) ∧ RdrAt w' b s (numR s.data.toList t bad).2.1 (numR s.data.toList t bad).2.2 ∧ Chg (· = b) w w'
theorem RdrAt.move {w : World} {b t t' : Nat} {s : ByteArray} {bad : Bool} (h : RdrAt w b s t bad) {n : Int} (hn : n = (t' : Int)) : RdrAt (w.setCell ⟨b, 1, none⟩ (.int .i64 n)) b s t' bad := by
  subst hn
  obtain ⟨h1, h2, h3, h4, h5⟩ := h
  exact ⟨by simpa [World.setCell] using h1, fun i => by go_simp, by go_simp, by go_simp, by go_simp⟩
theorem RdrAt.turn {w : World} {b t : Nat} {s : ByteArray} {bad : Bool} (h : RdrAt w b s t bad) : RdrAt (w.setCell ⟨b, 2, none⟩ (.bool true)) b s t true := by
  obtain ⟨h1, h2, h3, h4, h5⟩ := h
  exact ⟨by simpa [World.setCell] using h1, fun i => by go_simp, by go_simp, by go_simp, by go_simp⟩
theorem RdrAt.drew {w : World} {b t : Nat} {s : ByteArray} {bad : Bool} (h : RdrAt w b s t bad) : RdrAt w.drew b s t bad := h
def TextPost (b : Nat) (s : ByteArray) (t : Nat) (bad : Bool) (w : World) (e : Ending) (w' : World) : Prop :=
  e = .returned (.string (bs (textR s.data.toList t bad).1)) ∧ RdrAt w' b s (textR s.data.toList t bad).2.1 (textR s.data.toList t bad).2.2 ∧ Chg (· = b) w w'
end Go.Proofs.Ythenclenabcmgaa
