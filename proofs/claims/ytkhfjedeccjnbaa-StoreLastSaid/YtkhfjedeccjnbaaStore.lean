/-
  Stores in memory (26.1, 26.2): New, Len, full, Get.
  Conditions: keys' lengths are those of Go strings; at least one slot of a table is unused.
-/
import Derived.Test.YtkhfjedeccjnbaaRel2
import Derived.Test.YtkhfjedeccjnbaaRecs
import Derived.Test.YtkhfjedeccjnbaaStLaw
namespace Go.Proofs.Ytkhfjedeccjnbaa
open Go.RowKit Go.Sort
set_option maxHeartbeats 1000000

/-- Block h holds these n records. -/
def RcsAt (w : World) (h n : Nat) (f : Nat → Rc) : Prop :=
  h < w.heap.size ∧ (∀ j, w.frozen? ⟨h, j, none⟩ = false) ∧ ∀ i, i < n → w.cell? ⟨h, i * 4, none⟩ = some (.int .i64 (f i).st) ∧ w.cell? ⟨h, i * 4 + 1, none⟩ = some (.int .i64 (f i).ow) ∧ w.cell? ⟨h, i * 4 + 2, none⟩ = some (.string (f i).nm) ∧ w.cell? ⟨h, i * 4 + 3, none⟩ = some (.int .i64 (f i).dl)
theorem RcsAt.keep {w w' : World} {g n : Nat} {f : Nat → Rc} (h : RcsAt w g n f) (hs : w.heap.size ≤ w'.heap.size) (hb : w'.heap[g]? = w.heap[g]?) : RcsAt w' g n f := by
  obtain ⟨h1, h2, h3⟩ := h
  refine ⟨by omega, fun j => (World.frozen?_of_block (a := ⟨g, j, none⟩) hb).trans (h2 j), fun i hi => ?_⟩
  obtain ⟨c0, c1, c2, c3⟩ := h3 i hi
  exact ⟨(World.cell?_of_block (a := ⟨g, i * 4, none⟩) hb).trans c0, (World.cell?_of_block (a := ⟨g, i * 4 + 1, none⟩) hb).trans c1, (World.cell?_of_block (a := ⟨g, i * 4 + 2, none⟩) hb).trans c2, (World.cell?_of_block (a := ⟨g, i * 4 + 3, none⟩) hb).trans c3⟩
theorem RcsAt.far {w : World} {g n : Nat} {f : Nat → Rc} (h : RcsAt w g n f) {q : Addr} (hq : g ≠ q.block) (u : Value) : RcsAt (w.setCell q u) g n f :=
  h.keep (by simp [World.setCell]) (Below.heap_setCell w q u g hq)
theorem RcsAt.set {w : World} {g n : Nat} {f : Nat → Rc} (h : RcsAt w g n f) {p : Nat} (hp : p < n) (v : Rc) :
    RcsAt ((((w.setCell ⟨g, p * 4, none⟩ (.int .i64 v.st)).setCell ⟨g, p * 4 + 1, none⟩ (.int .i64 v.ow)).setCell ⟨g, p * 4 + 2, none⟩ (.string v.nm)).setCell ⟨g, p * 4 + 3, none⟩ (.int .i64 v.dl)) g n (upd f p v) := by
  obtain ⟨h1, h2, h3⟩ := h
  refine ⟨by simpa [World.setCell] using h1, fun j => by go_simp, fun i hi => ?_⟩
  obtain ⟨c0, c1, c2, c3⟩ := h3 i hi
  by_cases hip : i = p
  · subst hip
    rw [upd_same]
    refine ⟨?_, ?_, ?_, ?_⟩ <;> go_simp
  · have k : ∀ a b, a < 4 → b < 4 → p * 4 + a ≠ i * 4 + b := fun a b ha hb => by omega
    have k0 := k 0 0 (by omega) (by omega); have k1 := k 0 1 (by omega) (by omega); have k2 := k 0 2 (by omega) (by omega); have k3 := k 0 3 (by omega) (by omega)
    have l0 := k 1 0 (by omega) (by omega); have l1 := k 1 1 (by omega) (by omega); have l2 := k 1 2 (by omega) (by omega); have l3 := k 1 3 (by omega) (by omega)
    have m0 := k 2 0 (by omega) (by omega); have m1 := k 2 1 (by omega) (by omega); have m2 := k 2 2 (by omega) (by omega); have m3 := k 2 3 (by omega) (by omega)
    have n0 := k 3 0 (by omega) (by omega); have n1 := k 3 1 (by omega) (by omega); have n2 := k 3 2 (by omega) (by omega); have n3 := k 3 3 (by omega) (by omega)
    simp only [Nat.add_zero] at k0 k1 k2 k3 l0 m0 n0
    clear k
    rw [upd_other _ _ hip]
    refine ⟨?_, ?_, ?_, ?_⟩ <;> go_simp

/-- Block b is a store: its slots lie in block g, its records in block h, and u slots are used. -/
def StoreAt (w : World) (b g h n : Nat) (sl : Nat → Option ByteArray) (f : Nat → Rc) (u : Int) : Prop :=
  b ≠ g ∧ b ≠ h ∧ g ≠ h ∧ b < w.heap.size ∧ (∀ j, w.frozen? ⟨b, j, none⟩ = false) ∧ w.cell? ⟨b, 0, none⟩ = some (.slice (some ⟨g, 0, none⟩) n n) ∧ w.cell? ⟨b, 1, none⟩ = some (.slice (some ⟨h, 0, none⟩) n n) ∧ w.cell? ⟨b, 2, none⟩ = some (.int .i64 u) ∧
  SlotsAt w g n sl ∧ RcsAt w h n f
theorem StoreAt.keep {w w' : World} {b g h n : Nat} {sl : Nat → Option ByteArray} {f : Nat → Rc} {u : Int} (k : StoreAt w b g h n sl f u) (hs : w.heap.size ≤ w'.heap.size) (hb : w'.heap[b]? = w.heap[b]?) (hg : w'.heap[g]? = w.heap[g]?) (hh : w'.heap[h]? = w.heap[h]?) : StoreAt w' b g h n sl f u := by
  obtain ⟨h1, h2, h3, h4, h5, h6, h7, h8, h9, h10⟩ := k
  exact ⟨h1, h2, h3, by omega, fun j => (World.frozen?_of_block (a := ⟨b, j, none⟩) hb).trans (h5 j), (World.cell?_of_block (a := ⟨b, 0, none⟩) hb).trans h6, (World.cell?_of_block (a := ⟨b, 1, none⟩) hb).trans h7, (World.cell?_of_block (a := ⟨b, 2, none⟩) hb).trans h8, h9.keep hs hg, h10.keep hs hh⟩
theorem StoreAt.ext {w w' : World} {b g h n : Nat} {sl : Nat → Option ByteArray} {f : Nat → Rc} {u : Int} (k : StoreAt w b g h n sl f u) (x : Ext w w') : StoreAt w' b g h n sl f u :=
  k.keep x.size (x.block k.2.2.2.1) (x.block k.2.2.2.2.2.2.2.2.1.1) (x.block k.2.2.2.2.2.2.2.2.2.1)
theorem StoreAt.drew {w : World} {b g h n : Nat} {sl : Nat → Option ByteArray} {f : Nat → Rc} {u : Int} (k : StoreAt w b g h n sl f u) : StoreAt w.drew b g h n sl f u :=
  k.keep (Nat.le_refl _) rfl rfl rfl
theorem StoreAt.setSlot {w : World} {b g h n : Nat} {sl : Nat → Option ByteArray} {f : Nat → Rc} {u : Int} (k : StoreAt w b g h n sl f u) {p : Nat} (hp : p < n) (v : Option ByteArray) :
    StoreAt ((w.setCell ⟨g, p * 2, none⟩ (.bool v.isSome)).setCell ⟨g, p * 2 + 1, none⟩ (.string (v.getD ⟨#[]⟩))) b g h n (upd sl p v) f u := by
  obtain ⟨h1, h2, h3, h4, h5, h6, h7, h8, h9, h10⟩ := k
  exact ⟨h1, h2, h3, by simpa [World.setCell] using h4, fun j => by go_simp, by go_simp, by go_simp, by go_simp, h9.set hp v, (h10.far (q := ⟨g, p * 2, none⟩) (Ne.symm h3) _).far (q := ⟨g, p * 2 + 1, none⟩) (Ne.symm h3) _⟩
theorem StoreAt.setRec {w : World} {b g h n : Nat} {sl : Nat → Option ByteArray} {f : Nat → Rc} {u : Int} (k : StoreAt w b g h n sl f u) {p : Nat} (hp : p < n) (v : Rc) :
    StoreAt ((((w.setCell ⟨h, p * 4, none⟩ (.int .i64 v.st)).setCell ⟨h, p * 4 + 1, none⟩ (.int .i64 v.ow)).setCell ⟨h, p * 4 + 2, none⟩ (.string v.nm)).setCell ⟨h, p * 4 + 3, none⟩ (.int .i64 v.dl)) b g h n sl (upd f p v) u := by
  obtain ⟨h1, h2, h3, h4, h5, h6, h7, h8, h9, h10⟩ := k
  exact ⟨h1, h2, h3, by simpa [World.setCell] using h4, fun j => by go_simp, by go_simp, by go_simp, by go_simp,
    (((h9.far (q := ⟨h, p * 4, none⟩) h3 _).far (q := ⟨h, p * 4 + 1, none⟩) h3 _).far (q := ⟨h, p * 4 + 2, none⟩) h3 _).far (q := ⟨h, p * 4 + 3, none⟩) h3 _, h10.set hp v⟩
theorem StoreAt.setUsed {w : World} {b g h n : Nat} {sl : Nat → Option ByteArray} {f : Nat → Rc} {u : Int} (k : StoreAt w b g h n sl f u) (c : Int) :
    StoreAt (w.setCell ⟨b, 2, none⟩ (.int .i64 c)) b g h n sl f c := by
  obtain ⟨h1, h2, h3, h4, h5, h6, h7, h8, h9, h10⟩ := k
  exact ⟨h1, h2, h3, by simpa [World.setCell] using h4, fun j => by go_simp, by go_simp, by go_simp, by go_simp, h9.far (q := ⟨b, 2, none⟩) (Ne.symm h1) _, h10.far (q := ⟨b, 2, none⟩) (Ne.symm h2) _⟩

def recRow (n : Nat) : Array Value := madeCells #[.int .i64 0, .int .i64 0, .string ⟨#[]⟩, .int .i64 0] (n * 4)
theorem recRow_at (n : Nat) {i : Nat} (h : i < n) : (recRow n)[i * 4]? = some (.int .i64 0) ∧ (recRow n)[i * 4 + 1]? = some (.int .i64 0) ∧ (recRow n)[i * 4 + 2]? = some (.string ⟨#[]⟩) ∧ (recRow n)[i * 4 + 3]? = some (.int .i64 0) := by
  unfold recRow madeCells
  have hs : (#[Value.int .i64 0, Value.int .i64 0, Value.string ⟨#[]⟩, Value.int .i64 0] : Array Value).size = 4 := by simp
  refine ⟨?_, ?_, ?_, ?_⟩
  · rw [Array.getElem?_eq_getElem (by simp; omega)]; simp
  · rw [Array.getElem?_eq_getElem (by simp; omega)]
    simp only [Array.getElem_map, Array.getElem_range]
    rw [show (i * 4 + 1) % (#[Value.int .i64 0, Value.int .i64 0, Value.string ⟨#[]⟩, Value.int .i64 0] : Array Value).size = 1 by rw [hs]; omega]
    rfl
  · rw [Array.getElem?_eq_getElem (by simp; omega)]
    simp only [Array.getElem_map, Array.getElem_range]
    rw [show (i * 4 + 2) % (#[Value.int .i64 0, Value.int .i64 0, Value.string ⟨#[]⟩, Value.int .i64 0] : Array Value).size = 2 by rw [hs]; omega]
    rfl
  · rw [Array.getElem?_eq_getElem (by simp; omega)]
    simp only [Array.getElem_map, Array.getElem_range]
    rw [show (i * 4 + 3) % (#[Value.int .i64 0, Value.int .i64 0, Value.string ⟨#[]⟩, Value.int .i64 0] : Array Value).size = 3 by rw [hs]; omega]
    rfl
theorem make_recs (n : Nat) (hn : n ≤ 4096) (w : World) : (Instr.makeSlice 35 (.int .i64 (n : Int)) (.int .i64 (n : Int))).run Try.prog w = .ok (.slice (some ⟨w.heap.size, 0, none⟩) n n) (w.alloc (.cells (recRow n) 30)) := by
  obtain ⟨i0, hi, hz0, hz1, hz2⟩ := info_parts info_rec
  have h := run_make w 35 30 i0 _ und_recs hi hz0 .i64 .i64 n n (by omega) (by omega) (by rw [hz2]; omega) (by omega)
  simp only [Int.toNat_natCast, hz1] at h
  exact h
theorem recs_new {w : World} {g n : Nat} (h : w.heap[g]? = some (.cells (recRow n) 30)) : RcsAt w g n (fun _ => rc0) := by
  refine ⟨(Array.getElem?_eq_some_iff.1 h).1, fun j => by simp [World.frozen?, h], fun i hi => ?_⟩
  simp only [World.cell?, h]
  exact recRow_at n hi
theorem store_new {w : World} {b g h n : Nat} (hb : w.heap[b]? = some (.cells #[.slice (some ⟨g, 0, none⟩) n n, .slice (some ⟨h, 0, none⟩) n n, .int .i64 0] 109)) (hg : w.heap[g]? = some (.cells (slotRow n) 91)) (hh : w.heap[h]? = some (.cells (recRow n) 30)) (h1 : b ≠ g) (h2 : b ≠ h) (h3 : g ≠ h) : StoreAt w b g h n (fun _ => none) (fun _ => rc0) 0 :=
  ⟨h1, h2, h3, (Array.getElem?_eq_some_iff.1 hb).1, fun j => by simp [World.frozen?, hb], by simp [World.cell?, hb], by simp [World.cell?, hb], by simp [World.cell?, hb], slots_new hg, recs_new hh⟩

/-- New fails, or returns a store of n unused slots, in new blocks. -/
def SNewPost (n : Int) (w : World) (e : Ending) (w' : World) : Prop :=
  (powB n 4 = false ∧ e = .returned (.tuple #[.pointer none, .int .i64 3]) ∧ w' = w) ∨
  (powB n 4 = true ∧ ∃ b g h, e = .returned (.tuple #[.pointer (some ⟨b, 0, none⟩), .int .i64 0]) ∧ w.heap.size ≤ b ∧ w.heap.size ≤ g ∧ w.heap.size ≤ h ∧ StoreAt w' b g h n.toNat (fun _ => none) (fun _ => rc0) 0 ∧ Ext w w')
theorem snew_any (n : Int) (w : World) : Calls Try.prog 64 #[.int .i64 n] w (SNewPost n w) := by
  cases hp : powB n 4
  · have hp' := hp
    unfold powB at hp
    by_cases h1 : n < 4
    · go_enter Try.func64, Try.ntmps64
      go_wp2
      go_ret2
      exact .inl ⟨hp', rfl, rfl⟩
    · by_cases h2 : 2048 < n
      · go_enter Try.func64, Try.ntmps64
        go_wp2
        go_ret2
        exact .inl ⟨hp', rfl, rfl⟩
      · have h3 : (bits BinOp.and IntKind.i64 n (n - 1) != 0) = true := by
          simp only [show decide (4 ≤ n) = true by simp; omega, show decide (n ≤ 2048) = true by simp; omega, Bool.true_and] at hp
          simp [bne, hp]
        go_enter Try.func64, Try.ntmps64
        go_wp2
        go_ret2
        exact .inl ⟨hp', rfl, rfl⟩
  · have hp' := hp
    obtain ⟨h2, h3, _⟩ := (pow_spec (by omega)).1 hp
    have h4 : (bits BinOp.and IntKind.i64 n (n - 1) != 0) = false := by
      unfold powB at hp
      simp only [Bool.and_eq_true] at hp
      simp [bne, hp.2.2]
    obtain ⟨m, rfl⟩ : ∃ m : Nat, n = m := ⟨n.toNat, by omega⟩
    have k1 := make_slots m (by omega)
    have k2 := make_recs m (by omega)
    have Hp := Lib.hid hp'
    clear hp hp'
    go_enter Try.func64, Try.ntmps64
    go_wp2
    go_region
    · go_wp2
      go_ret2
      obtain ⟨x1, x2, x3⟩ := heap3 w _ _ _
      exact .inr ⟨Hp.out, w.heap.size + 2, w.heap.size, w.heap.size + 1, rfl, by omega, by omega, by omega, store_new x3 x1 x2 (by omega) (by omega) (by omega), (by repeat' (first | exact Ext.refl _ | assumption | apply Ext.alloc | apply Ext.drewN | apply Ext.drew | (refine Ext.trans ?_ (by assumption)) | (refine ext_setCell ?_ (by first | (simp; done) | (simp; omega)) _)))⟩
    · go_wp2
      go_ret2
      obtain ⟨x1, x2, x3⟩ := heap3 w _ _ _
      exact .inr ⟨Hp.out, w.heap.size + 2, w.heap.size + 1, w.heap.size, rfl, by omega, by omega, by omega, store_new x3 x2 x1 (by omega) (by omega) (by omega), (by repeat' (first | exact Ext.refl _ | assumption | apply Ext.alloc | apply Ext.drewN | apply Ext.drew | (refine Ext.trans ?_ (by assumption)) | (refine ext_setCell ?_ (by first | (simp; done) | (simp; omega)) _)))⟩
end Go.Proofs.Ytkhfjedeccjnbaa
