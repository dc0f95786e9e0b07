/-
  The record that the statements make of a list of integers (Record).
  Conditions: the list reads as integers.
-/
import Derived.Test.YtjefpeppkphgbaaSource
namespace Go.Proofs.Ytjefpeppkphgbaa
open Go.RowKit Go.Sort
set_option maxHeartbeats 1000000

/-- What a function that makes a record of a source keeps while it works: the world has only grown, the source stands in block sb, the result's variable in block rb. -/
def Mid (w : World) (sb rb : Nat) (wx : World) : Prop := Ext w wx ∧ Src w.heap.size wx sb ∧ w.heap.size ≤ rb ∧ rb ≠ sb ∧ ∃ cs : Array Value, wx.heap[rb]? = some (.cells cs 65 (0, 0)) ∧ cs.size = 4
theorem Mid.next {w wx w' : World} {sb rb : Nat} (h : Mid w sb rb wx) (hs : Src w.heap.size w' sb) (hc : Chg (· = sb) wx w') : Mid w sb rb w' := by
  obtain ⟨h1, h2, h3, h4, cs, h5, h6⟩ := h
  have hb := h2.ge
  have hl : rb < wx.heap.size := (Array.getElem?_eq_some_iff.1 h5).1
  exact ⟨h1.chg_new hc (fun i hi => by subst hi; exact hb), hs, h3, h4, cs, (hc.block rb hl h4).trans h5, h6⟩
theorem Mid.next' {w wx w' : World} {sb rb : Nat} (hc : Chg (· = sb) wx w') (hs : Src w.heap.size w' sb) (h : Mid w sb rb wx) : Mid w sb rb w' := h.next hs hc
theorem Mid.src {w wx : World} {sb rb : Nat} (h : Mid w sb rb wx) : Src w.heap.size wx sb := h.2.1
theorem Mid.outer {w wx : World} {sb rb : Nat} (h : Mid w sb rb wx) : Ext w wx := h.1
theorem Mid.drew {w wx : World} {sb rb : Nat} (h : Mid w sb rb wx) : Mid w sb rb wx.drew := ⟨h.1.drew, h.2⟩
theorem Mid.drewN {w wx : World} {sb rb : Nat} (h : Mid w sb rb wx) (n : Nat) : Mid w sb rb (wx.drewN n) := ⟨h.1.drewN n, h.2⟩
theorem Mid.alloc {w wx : World} {sb rb : Nat} (h : Mid w sb rb wx) (o : Obj) : Mid w sb rb (wx.alloc o) := by
  obtain ⟨h1, h2, h3, h4, cs, h5, h6⟩ := h
  have hl : rb < wx.heap.size := (Array.getElem?_eq_some_iff.1 h5).1
  exact ⟨h1.alloc o, h2.alloc o, h3, h4, cs, (Below.heap_alloc wx o rb hl).trans h5, h6⟩
theorem Mid.setCell {w wx : World} {sb rb : Nat} (h : Mid w sb rb wx) {p : Addr} (h1 : w.heap.size ≤ p.block) (h2 : p.block ≠ sb) (h3 : p.block ≠ rb) (u : Value) : Mid w sb rb (wx.setCell p u) := by
  obtain ⟨k1, k2, k3, k4, cs, k5, k6⟩ := h
  exact ⟨ext_setCell k1 h1 u, k2.setCell h1 h2 u, k3, k4, cs, (Below.heap_setCell wx p u rb (Ne.symm h3)).trans k5, k6⟩

/-- The first len cells behind a are integers. -/
def RowIn (w : World) (a : Option Addr) (len : Nat) : Prop := len ≤ maxLen ∧ (0 < len → ∃ x, a = some x ∧ x.block < w.heap.size ∧ ∀ j, j < len → ∃ z, w.cell? (x.add j) = some (.int .i64 z) ∧ I64 z)
theorem RowIn.of_row {w : World} {a : Option Addr} {len cap : Nat} {zs : List Int} (h : IsRow .i64 w a len cap zs) : RowIn w a len := by
  refine ⟨?_, fun hl => ?_⟩
  · rcases h with ⟨_, rfl, _⟩ | ⟨x, _, h1, h2, _⟩
    · unfold maxLen; omega
    · omega
  · rcases h with ⟨_, rfl, _⟩ | ⟨x, rfl, h1, h2, h3, h4, h5⟩
    · omega
    · have hc : ∀ j, j < len → x.block < w.heap.size ∧ w.cell? (x.add j) = some (.int .i64 (zs.getD j 0)) := fun j hj => by
        have hc := h4 j (by omega)
        refine ⟨?_, hc⟩
        have hb : (x.add j).block < w.heap.size := by
          rcases Nat.lt_or_ge (x.add j).block w.heap.size with hlt | hge
          · exact hlt
          · simp [World.cell?, Array.getElem?_eq_none hge] at hc
        rwa [add_block] at hb
      refine ⟨x, rfl, (hc 0 hl).1, fun j hj => ⟨zs.getD j 0, (hc j hj).2, ?_⟩⟩
      have hj' : j < zs.length := by omega
      rw [List.getD_eq_getElem?_getD, List.getElem?_eq_getElem hj', Option.getD_some]
      exact i64_of_wf (h5 _ (List.getElem_mem hj'))
theorem src_of_rowIn {w w1 : World} {a : Option Addr} {len cap : Nat} (h : RowIn w a len) (x : Ext w w1) : Src w.heap.size (w1.alloc (.cells #[.slice a len cap, .int .i64 0] 135)) w1.heap.size := by
  obtain ⟨h1, h2⟩ := h
  refine ⟨a, len, cap, 0, heap_alloc_new _ _, x.size, h1, by omega, fun hl => ?_⟩
  obtain ⟨y, e, hy, hc⟩ := h2 hl
  refine ⟨y, e, hy, fun j hj => ?_⟩
  obtain ⟨z, hz, hi⟩ := hc j hj
  exact ⟨z, ((x.alloc _).cell (by rw [add_block]; exact hy)).trans hz, hi⟩
theorem record_first (w : World) (a : Option Addr) (len cap : Nat) (h : RowIn w a len) :
    Mid w (w.heap.size + 1) w.heap.size ((w.alloc (.cells #[.int .i64 0, .int .i64 0, .string ⟨#[]⟩, .int .i64 0] 65)).alloc (.cells #[.slice a len cap, .int .i64 0] 135)) := by
  have e1 : (w.alloc (.cells #[.int .i64 0, .int .i64 0, .string ⟨#[]⟩, .int .i64 0] 65)).heap.size = w.heap.size + 1 := by simp
  have hs := src_of_rowIn (cap := cap) h ((Ext.refl w).alloc (.cells #[.int .i64 0, .int .i64 0, .string ⟨#[]⟩, .int .i64 0] 65))
  rw [e1] at hs
  refine ⟨((Ext.refl w).alloc _).alloc _, hs, Nat.le_refl _, by omega, #[.int .i64 0, .int .i64 0, .string ⟨#[]⟩, .int .i64 0], ?_, rfl⟩
  exact (Below.heap_alloc _ _ _ (by rw [e1]; omega)).trans (heap_alloc_new w _)

/-- Block g holds these four cells, and they may be written. -/
def RecAt (wx : World) (g : Nat) (st ow dl : Int) (nm : ByteArray) : Prop :=
  wx.cell? ⟨g, 0, none⟩ = some (.int .i64 st) ∧ wx.cell? ⟨g, 1, none⟩ = some (.int .i64 ow) ∧ wx.cell? ⟨g, 2, none⟩ = some (.string nm) ∧ wx.cell? ⟨g, 3, none⟩ = some (.int .i64 dl) ∧ ∀ i, wx.frozen? ⟨g, i, none⟩ = false
def RecMid (w : World) (s4 : Value) (wx : World) : Prop := s4 = .pointer (some ⟨w.heap.size + 2, 0, none⟩) ∧ Mid w (w.heap.size + 1) w.heap.size wx ∧ w.heap.size + 2 < wx.heap.size ∧
  ∃ (st ow dl k : Nat), st < 3 ∧ ow < 4 ∧ dl < 40 ∧ k < 3 ∧ RecAt wx (w.heap.size + 2) st ow (1 + (dl : Int)) ((⟨#[97, 98, 99]⟩ : ByteArray).extract k 3)
theorem wrap_dl (u : Nat) (h : u < 40) : IntKind.i64.wrap (1 + (u : Int)) = 1 + (u : Int) := IntWalk.i64_in _ (by omega)
theorem recMid_alloc {w w' : World} {v2 v1 v u : Nat} (hm : Mid w (w.heap.size + 1) w.heap.size w') (hz : w'.heap.size = w.heap.size + 2) (h2 : (v2 : Int) < 3) (h1 : (v1 : Int) < 4) (h0 : (v : Int) < 3) (hu : (u : Int) < 40) :
    RecMid w (.pointer (some ⟨w.heap.size + 1 + 1, 0, none⟩)) (w'.alloc (.cells #[.int .i64 (v2 : Int), .int .i64 (v1 : Int), .string ((⟨#[97, 98, 99]⟩ : ByteArray).extract v 3), .int .i64 (IntKind.i64.wrap (1 + (u : Int)))] 65)) := by
  refine ⟨rfl, hm.alloc _, by simp [hz], v2, v1, u, v, by omega, by omega, by omega, by omega, ?_⟩
  rw [wrap_dl u (by omega), ← hz]
  refine ⟨?_, ?_, ?_, ?_, fun i => ?_⟩ <;> go_simp
theorem recMid_set {w w' : World} {v2 v1 v u : Nat} (hm : Mid w (w.heap.size + 1) w.heap.size w') (hz : w.heap.size + 2 < w'.heap.size) (h2 : (v2 : Int) < 3) (h1 : (v1 : Int) < 4) (h0 : (v : Int) < 3) (hu : (u : Int) < 40)
    (hc : w'.cell? ⟨w.heap.size + 2, 0, none⟩ = some (.int .i64 0) ∧ w'.cell? ⟨w.heap.size + 2, 1, none⟩ = some (.int .i64 0) ∧ w'.cell? ⟨w.heap.size + 2, 2, none⟩ = some (.string ⟨#[]⟩) ∧ w'.cell? ⟨w.heap.size + 2, 3, none⟩ = some (.int .i64 0)) (hf : ∀ i, w'.frozen? ⟨w.heap.size + 2, i, none⟩ = false) :
    RecMid w (.pointer (some ⟨w.heap.size + 1 + 1, 0, none⟩)) ((((w'.setCell ⟨w.heap.size + 1 + 1, 0, none⟩ (.int .i64 (v2 : Int))).setCell ⟨w.heap.size + 1 + 1, 1, none⟩ (.int .i64 (v1 : Int))).setCell ⟨w.heap.size + 1 + 1, 2, none⟩ (.string ((⟨#[97, 98, 99]⟩ : ByteArray).extract v 3))).setCell ⟨w.heap.size + 1 + 1, 3, none⟩ (.int .i64 (IntKind.i64.wrap (1 + (u : Int))))) := by
  obtain ⟨ha, hb, hc, hd⟩ := hc
  have e : w.heap.size + 1 + 1 = w.heap.size + 2 := rfl
  rw [e]
  refine ⟨rfl, (((hm.setCell ?_ ?_ ?_ _).setCell ?_ ?_ ?_ _).setCell ?_ ?_ ?_ _).setCell ?_ ?_ ?_ _, by simp [World.setCell]; omega, v2, v1, u, v, by omega, by omega, by omega, by omega, ?_⟩
  iterate 12 first | (show w.heap.size ≤ w.heap.size + 2; omega) | (show w.heap.size + 2 ≠ _; omega)
  rw [wrap_dl u (by omega)]
  refine ⟨?_, ?_, ?_, ?_, fun i => ?_⟩ <;> go_simp
/-- Some record is returned, whose numbers a Go int holds and whose name is short; nothing that was there has changed. -/
def SomeRec (w : World) (e : Ending) (w' : World) : Prop := ∃ (st ow dl : Int) (nm : ByteArray), 0 ≤ st ∧ st < 3 ∧ 0 ≤ ow ∧ ow < 4 ∧ -1 ≤ dl ∧ dl ≤ 40 ∧ nm.size ≤ 3 ∧ e = .returned (.agg #[.int .i64 st, .int .i64 ow, .string nm, .int .i64 dl]) ∧ Ext w w'
theorem ex_size (k : Nat) : ((⟨#[97, 98, 99]⟩ : ByteArray).extract k 3).size ≤ 3 := by simp; omega
end Go.Proofs.Ytjefpeppkphgbaa
