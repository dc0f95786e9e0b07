/-
  Tables of slots in memory: what New makes (25.1), what Find returns (25.2).
  Conditions: keys' lengths are those of Go strings; at least one slot of a table is unused.
-/
import Derived.Test.YtkhfjedeccjnbaaHome
import Derived.Laws.MakeOwn
import Derived.OwnWalk
namespace Go.Proofs.Ytkhfjedeccjnbaa
open Go.RowKit Go.Sort
set_option maxHeartbeats 1000000

/-- Block g holds n slots; what slot i holds is sl i: nothing or a key. -/
def SlotsAt (w : World) (g n : Nat) (sl : Nat → Option ByteArray) : Prop :=
  g < w.heap.size ∧ (∀ j, w.frozen? ⟨g, j, none⟩ = false) ∧ ∀ i, i < n → w.cell? ⟨g, i * 2, none⟩ = some (.bool (sl i).isSome) ∧ w.cell? ⟨g, i * 2 + 1, none⟩ = some (.string ((sl i).getD ⟨#[]⟩))
/-- Block h holds these n integers. -/
def IntsAt (w : World) (h n : Nat) (f : Nat → Int) : Prop :=
  h < w.heap.size ∧ (∀ j, w.frozen? ⟨h, j, none⟩ = false) ∧ ∀ i, i < n → w.cell? ⟨h, i, none⟩ = some (.int .i64 (f i))
/-- Block b is a table of locks: its slots lie in block g, its owners in block h, and u of them are used. -/
def LocksAt (w : World) (b g h n : Nat) (sl : Nat → Option ByteArray) (ow : Nat → Int) (u : Int) : Prop :=
  b ≠ g ∧ b ≠ h ∧ g ≠ h ∧ b < w.heap.size ∧ (∀ j, w.frozen? ⟨b, j, none⟩ = false) ∧ w.cell? ⟨b, 0, none⟩ = some (.slice (some ⟨g, 0, none⟩) n n) ∧ w.cell? ⟨b, 1, none⟩ = some (.slice (some ⟨h, 0, none⟩) n n) ∧ w.cell? ⟨b, 2, none⟩ = some (.int .i64 u) ∧
  SlotsAt w g n sl ∧ IntsAt w h n ow
theorem SlotsAt.keep {w w' : World} {g n : Nat} {sl : Nat → Option ByteArray} (h : SlotsAt w g n sl) (hs : w.heap.size ≤ w'.heap.size) (hb : w'.heap[g]? = w.heap[g]?) : SlotsAt w' g n sl := by
  obtain ⟨h1, h2, h3⟩ := h
  exact ⟨by omega, fun j => (World.frozen?_of_block (a := ⟨g, j, none⟩) hb).trans (h2 j), fun i hi => ⟨(World.cell?_of_block (a := ⟨g, i * 2, none⟩) hb).trans (h3 i hi).1, (World.cell?_of_block (a := ⟨g, i * 2 + 1, none⟩) hb).trans (h3 i hi).2⟩⟩
theorem SlotsAt.ext {w w' : World} {g n : Nat} {sl : Nat → Option ByteArray} (h : SlotsAt w g n sl) (x : Ext w w') : SlotsAt w' g n sl := h.keep x.size (x.block h.1)
theorem IntsAt.keep {w w' : World} {g n : Nat} {f : Nat → Int} (h : IntsAt w g n f) (hs : w.heap.size ≤ w'.heap.size) (hb : w'.heap[g]? = w.heap[g]?) : IntsAt w' g n f := by
  obtain ⟨h1, h2, h3⟩ := h
  exact ⟨by omega, fun j => (World.frozen?_of_block (a := ⟨g, j, none⟩) hb).trans (h2 j), fun i hi => (World.cell?_of_block (a := ⟨g, i, none⟩) hb).trans (h3 i hi)⟩
theorem LocksAt.keep {w w' : World} {b g h n : Nat} {sl : Nat → Option ByteArray} {ow : Nat → Int} {u : Int} (k : LocksAt w b g h n sl ow u) (hs : w.heap.size ≤ w'.heap.size) (hb : w'.heap[b]? = w.heap[b]?) (hg : w'.heap[g]? = w.heap[g]?) (hh : w'.heap[h]? = w.heap[h]?) : LocksAt w' b g h n sl ow u := by
  obtain ⟨h1, h2, h3, h4, h5, h6, h7, h8, h9, h10⟩ := k
  exact ⟨h1, h2, h3, by omega, fun j => (World.frozen?_of_block (a := ⟨b, j, none⟩) hb).trans (h5 j), (World.cell?_of_block (a := ⟨b, 0, none⟩) hb).trans h6, (World.cell?_of_block (a := ⟨b, 1, none⟩) hb).trans h7, (World.cell?_of_block (a := ⟨b, 2, none⟩) hb).trans h8, h9.keep hs hg, h10.keep hs hh⟩
theorem LocksAt.ext {w w' : World} {b g h n : Nat} {sl : Nat → Option ByteArray} {ow : Nat → Int} {u : Int} (k : LocksAt w b g h n sl ow u) (x : Ext w w') : LocksAt w' b g h n sl ow u :=
  k.keep x.size (x.block k.2.2.2.1) (x.block k.2.2.2.2.2.2.2.2.1.1) (x.block k.2.2.2.2.2.2.2.2.2.1)

theorem info_slot : (Try.prog.info? 91).map (fun i => (i.zero, i.size, i.bytes)) = some (some (.agg #[.bool false, .string ⟨#[]⟩]), 2, 24) := by kernel_rfl
theorem info_int : (Try.prog.info? 3).map (fun i => (i.zero, i.size, i.bytes)) = some (some (.int .i64 0), 1, 8) := by kernel_rfl
theorem und_slots : Try.prog.underlying 88 = some (.slice 91) := by kernel_rfl
theorem und_ints : Try.prog.underlying 34 = some (.slice 3) := by kernel_rfl
def slotRow (n : Nat) : Array Value := madeCells #[.bool false, .string ⟨#[]⟩] (n * 2)
def intRow (n : Nat) : Array Value := madeCells #[.int .i64 0] n
theorem slotRow_at (n : Nat) {i : Nat} (h : i < n) : (slotRow n)[i * 2]? = some (.bool false) ∧ (slotRow n)[i * 2 + 1]? = some (.string ⟨#[]⟩) := by
  unfold slotRow madeCells
  constructor
  · rw [Array.getElem?_eq_getElem (by simp; omega)]; simp
  · rw [Array.getElem?_eq_getElem (by simp; omega)]
    simp only [Array.getElem_map, Array.getElem_range]
    rw [show (i * 2 + 1) % (#[Value.bool false, Value.string ⟨#[]⟩] : Array Value).size = 1 by simp]
    rfl
theorem intRow_at (n : Nat) {i : Nat} (h : i < n) : (intRow n)[i]? = some (.int .i64 0) := by
  unfold intRow madeCells
  rw [Array.getElem?_eq_getElem (by simp; omega)]
  simp [Nat.mod_one]
theorem make_slots (n : Nat) (hn : n ≤ 4096) (w : World) : (Instr.makeSlice 88 (.int .i64 (n : Int)) (.int .i64 (n : Int))).run Try.prog w = .ok (.slice (some ⟨w.heap.size, 0, none⟩) n n) (w.alloc (.cells (slotRow n) 91)) := by
  obtain ⟨i0, hi, hz0, hz1, hz2⟩ := info_parts info_slot
  have h := run_make w 88 91 i0 _ und_slots hi hz0 .i64 .i64 n n (by omega) (by omega) (by rw [hz2]; omega) (by omega)
  simp only [Int.toNat_natCast, hz1] at h
  exact h
theorem make_ints (n : Nat) (hn : n ≤ 4096) (w : World) : (Instr.makeSlice 34 (.int .i64 (n : Int)) (.int .i64 (n : Int))).run Try.prog w = .ok (.slice (some ⟨w.heap.size, 0, none⟩) n n) (w.alloc (.cells (intRow n) 3)) := by
  obtain ⟨i0, hi, hz0, hz1, hz2⟩ := info_parts info_int
  have h := run_make w 34 3 i0 _ und_ints hi hz0 .i64 .i64 n n (by omega) (by omega) (by rw [hz2]; omega) (by omega)
  simp only [Int.toNat_natCast, hz1, Nat.mul_one] at h
  exact h
theorem slots_new {w : World} {g n : Nat} (h : w.heap[g]? = some (.cells (slotRow n) 91)) : SlotsAt w g n (fun _ => none) := by
  refine ⟨(Array.getElem?_eq_some_iff.1 h).1, fun j => by simp [World.frozen?, h], fun i hi => ?_⟩
  obtain ⟨h1, h2⟩ := slotRow_at n hi
  simp only [World.cell?, h]
  exact ⟨h1, h2⟩
theorem ints_new {w : World} {g n : Nat} (h : w.heap[g]? = some (.cells (intRow n) 3)) : IntsAt w g n (fun _ => 0) := by
  refine ⟨(Array.getElem?_eq_some_iff.1 h).1, fun j => by simp [World.frozen?, h], fun i hi => ?_⟩
  simp only [World.cell?, h]
  exact intRow_at n hi

theorem heap3 (w : World) (o1 o2 o3 : Obj) : (((w.alloc o1).alloc o2).alloc o3).heap[w.heap.size]? = some o1 ∧ (((w.alloc o1).alloc o2).alloc o3).heap[w.heap.size + 1]? = some o2 ∧ (((w.alloc o1).alloc o2).alloc o3).heap[w.heap.size + 2]? = some o3 := by
  have e1 : (w.alloc o1).heap.size = w.heap.size + 1 := by simp
  have e2 : ((w.alloc o1).alloc o2).heap.size = w.heap.size + 2 := by simp
  refine ⟨?_, ?_, ?_⟩
  · exact (Below.heap_alloc _ _ _ (by rw [e2]; omega)).trans ((Below.heap_alloc _ _ _ (by rw [e1]; omega)).trans (heap_alloc_new _ _))
  · exact (Below.heap_alloc _ _ _ (by rw [e2]; omega)).trans (by rw [← e1]; exact heap_alloc_new _ _)
  · rw [← e2]; exact heap_alloc_new _ _
theorem locks_new {w : World} {b g h n : Nat} (hb : w.heap[b]? = some (.cells #[.slice (some ⟨g, 0, none⟩) n n, .slice (some ⟨h, 0, none⟩) n n, .int .i64 0] 99)) (hg : w.heap[g]? = some (.cells (slotRow n) 91)) (hh : w.heap[h]? = some (.cells (intRow n) 3)) (h1 : b ≠ g) (h2 : b ≠ h) (h3 : g ≠ h) : LocksAt w b g h n (fun _ => none) (fun _ => 0) 0 :=
  ⟨h1, h2, h3, (Array.getElem?_eq_some_iff.1 hb).1, fun j => by simp [World.frozen?, hb], by simp [World.cell?, hb], by simp [World.cell?, hb], by simp [World.cell?, hb], slots_new hg, ints_new hh⟩

/-- New fails, or returns a table of n unused slots, in new blocks. -/
def NewPost (n : Int) (w : World) (e : Ending) (w' : World) : Prop :=
  (powB n 2 = false ∧ e = .returned (.tuple #[.pointer none, .int .i64 3]) ∧ w' = w) ∨
  (powB n 2 = true ∧ ∃ b g h, e = .returned (.tuple #[.pointer (some ⟨b, 0, none⟩), .int .i64 0]) ∧ w.heap.size ≤ b ∧ w.heap.size ≤ g ∧ w.heap.size ≤ h ∧ LocksAt w' b g h n.toNat (fun _ => none) (fun _ => 0) 0 ∧ Ext w w')
theorem new_any (n : Int) (w : World) : Calls Try.prog 42 #[.int .i64 n] w (NewPost n w) := by
  cases hp : powB n 2
  · go_enter Try.func42, Try.ntmps42
    go_wp2_with (go_at_call 91; refine (power_any _ _ (by omega) _).mono ?_; rintro e w1 ⟨rfl, rfl⟩)
    go_ret2
    exact .inl ⟨hp, rfl, rfl⟩
  · obtain ⟨h2, h3, _⟩ := (pow_spec (by omega)).1 hp
    obtain ⟨m, rfl⟩ : ∃ m : Nat, n = m := ⟨n.toNat, by omega⟩
    have k1 := make_slots m (by omega)
    have k2 := make_ints m (by omega)
    go_enter Try.func42, Try.ntmps42
    go_wp2_with (go_at_call 91; refine (power_any _ _ (by omega) _).mono ?_; rintro e w1 ⟨rfl, rfl⟩)
    go_region
    · go_wp2
      go_ret2
      obtain ⟨x1, x2, x3⟩ := heap3 w _ _ _
      exact .inr ⟨hp, w.heap.size + 2, w.heap.size, w.heap.size + 1, rfl, by omega, by omega, by omega, locks_new x3 x1 x2 (by omega) (by omega) (by omega), (by repeat' (first | exact Ext.refl _ | assumption | apply Ext.alloc | apply Ext.drewN | apply Ext.drew | (refine Ext.trans ?_ (by assumption)) | (refine ext_setCell ?_ (by first | (simp; done) | (simp; omega)) _)))⟩
    · go_wp2
      go_ret2
      obtain ⟨x1, x2, x3⟩ := heap3 w _ _ _
      exact .inr ⟨hp, w.heap.size + 2, w.heap.size + 1, w.heap.size, rfl, by omega, by omega, by omega, locks_new x3 x2 x1 (by omega) (by omega) (by omega), (by repeat' (first | exact Ext.refl _ | assumption | apply Ext.alloc | apply Ext.drewN | apply Ext.drew | (refine Ext.trans ?_ (by assumption)) | (refine ext_setCell ?_ (by first | (simp; done) | (simp; omega)) _)))⟩
end Go.Proofs.Ytkhfjedeccjnbaa
