/-
  Rows of bytes that a call owns, and what is appended to them; PutInt of the program and of the reference (3.1) writes the code of the plain law.
  Conditions: the string's length leaves room for a code.
-/
import Derived.Test.YthenclenabcmgaaGround
import Derived.Laws.BitsAllLaws
import Derived.Laws.DeepNot64
import Derived.WalkSmall
import Derived.Laws.IdiomCopy
namespace Go.Proofs.Ythenclenabcmgaa
open Go.RowKit Go.Sort
set_option maxHeartbeats 1000000
set_option maxRecDepth 10000

theorem info_u8 : (Try.prog.info? 5).map (fun i => (i.zero, i.size, i.bytes)) = some (some (.int .u8 0), 1, 1) := by kernel_rfl
/-- v is a slice of these bytes, in a row behind 'base'. -/
def BRow (w : World) (base : Nat) (v : Value) (l : List UInt8) : Prop :=
  ∃ g cap, v = .slice (some ⟨g, 0, none⟩) l.length cap ∧ base ≤ g ∧ g < w.heap.size ∧ l.length ≤ cap ∧ (∀ o, o < cap → (w.cell? ⟨g, o, none⟩).isSome = true ∧ w.frozen? ⟨g, o, none⟩ = false) ∧ ∀ j b, l[j]? = some b → w.cell? ⟨g, j, none⟩ = some (.int .u8 (b.toNat : Int))
theorem BRow.keep {w w' : World} {base : Nat} {v : Value} {l : List UInt8} (h : BRow w base v l) (x : Ext w w') : BRow w' base v l := by
  obtain ⟨g, cap, h1, h2, h3, h4, h5, h6⟩ := h
  exact ⟨g, cap, h1, h2, Nat.lt_of_lt_of_le h3 x.size, h4, fun o ho => ⟨by rw [x.cell (p := ⟨g, o, none⟩) h3]; exact (h5 o ho).1, by rw [x.frozen (p := ⟨g, o, none⟩) h3]; exact (h5 o ho).2⟩, fun j b hj => by rw [x.cell (p := ⟨g, j, none⟩) h3]; exact h6 j b hj⟩
theorem byteAt_list (s : ByteArray) {j : Nat} {b : UInt8} (h : s.data.toList[j]? = some b) : byteAt s j = (b.toNat : Int) := by
  obtain ⟨hj, he⟩ := List.getElem?_eq_some_iff.1 h
  have hj' : j < s.size := by simpa using hj
  unfold byteAt
  rw [dif_pos hj']
  have : s[j] = b := by rw [← he]; simp [ByteArray.getElem_eq_getElem_data]
  rw [this]
/-- The row that '[]byte(s)' makes. -/
theorem brow_of_string (w : World) (s : ByteArray) :
    BRow (w.alloc (.cells (bytesRow s (grownCap w s.size 0 5)) 5 ((bytesRow s (grownCap w s.size 0 5)).size, (bytesRow s (grownCap w s.size 0 5)).size + 1))).drew w.heap.size (.slice (some ⟨w.heap.size, 0, none⟩) s.size (grownCap w s.size 0 5)) s.data.toList := by
  obtain ⟨c, hc⟩ : ∃ c, grownCap w s.size 0 5 = c := ⟨_, rfl⟩
  have hge : s.size ≤ c := hc ▸ grownCap_ge w s.size 0 5
  rw [hc]
  have hsz : (bytesRow s c).size = c := by
    unfold bytesRow
    simp only [Array.size_append, Array.size_map, Array.size_replicate]
    have : s.data.size = s.size := rfl
    omega
  have h1 : (w.alloc (.cells (bytesRow s c) 5 ((bytesRow s c).size, (bytesRow s c).size + 1))).drew.heap[w.heap.size]? = some (.cells (bytesRow s c) 5 ((bytesRow s c).size, (bytesRow s c).size + 1)) := heap_alloc_new w _
  refine ⟨w.heap.size, c, rfl, Nat.le_refl _, (Array.getElem?_eq_some_iff.1 h1).1, hge, fun o ho => ⟨?_, ?_⟩, fun j b hj => ?_⟩
  · simp only [World.cell?, h1]
    rw [Array.getElem?_eq_getElem (by omega)]; rfl
  · simp only [World.frozen?, h1]
    have hno : ¬ (bytesRow s c).size ≤ o := by omega
    simp [hno]
  · have hjl := (List.getElem?_eq_some_iff.1 hj).1
    rw [bytes_cell w s c 5 _ (k := j) hjl, byteAt_list s hj]
end Go.Proofs.Ythenclenabcmgaa
