/-
  The reference's table (25.1): what NewTable and NewLocks make.
  Conditions: none.
-/
import Derived.Test.YtkhfjedeccjnbaaAcq
namespace Go.Proofs.Ytkhfjedeccjnbaa
open Go.RowKit Go.Sort
set_option maxHeartbeats 1000000

/-- Block t is a table of the reference: its n numbers lie in block s, its keys are the slice kv. -/
def TableAt (w : World) (t s n : Nat) (f : Nat → Int) (kv : Value) : Prop :=
  t ≠ s ∧ t < w.heap.size ∧ (∀ j, w.frozen? ⟨t, j, none⟩ = false) ∧ w.cell? ⟨t, 0, none⟩ = some (.slice (some ⟨s, 0, none⟩) n n) ∧ w.cell? ⟨t, 1, none⟩ = some kv ∧ IntsAt w s n f
theorem TableAt.keep {w w' : World} {t s n : Nat} {f : Nat → Int} {kv : Value} (k : TableAt w t s n f kv) (hs : w.heap.size ≤ w'.heap.size) (hb : w'.heap[t]? = w.heap[t]?) (hg : w'.heap[s]? = w.heap[s]?) : TableAt w' t s n f kv := by
  obtain ⟨h1, h2, h3, h4, h5, h6⟩ := k
  exact ⟨h1, by omega, fun j => (World.frozen?_of_block (a := ⟨t, j, none⟩) hb).trans (h3 j), (World.cell?_of_block (a := ⟨t, 0, none⟩) hb).trans h4, (World.cell?_of_block (a := ⟨t, 1, none⟩) hb).trans h5, h6.keep hs hg⟩
theorem TableAt.ext {w w' : World} {t s n : Nat} {f : Nat → Int} {kv : Value} (k : TableAt w t s n f kv) (x : Ext w w') : TableAt w' t s n f kv := k.keep x.size (x.block k.2.1) (x.block k.2.2.2.2.2.1)
theorem TableAt.drew {w : World} {t s n : Nat} {f : Nat → Int} {kv : Value} (k : TableAt w t s n f kv) : TableAt w.drew t s n f kv := k.keep (Nat.le_refl _) rfl rfl
theorem TableAt.set {w : World} {t s n : Nat} {f : Nat → Int} {kv : Value} (k : TableAt w t s n f kv) {p : Nat} (hp : p < n) (v : Int) : TableAt (w.setCell ⟨s, p, none⟩ (.int .i64 v)) t s n (upd f p v) kv := by
  obtain ⟨h1, h2, h3, h4, h5, h6⟩ := k
  exact ⟨h1, by simpa [World.setCell] using h2, fun j => by go_simp, by go_simp, by go_simp, h6.set hp v⟩
theorem table_new {w : World} {t s n : Nat} (ht : w.heap[t]? = some (.cells #[.slice (some ⟨s, 0, none⟩) n n, .slice none 0 0] 113)) (hh : w.heap[s]? = some (.cells (intRow n) 3)) (h1 : t ≠ s) : TableAt w t s n (fun _ => 0) (.slice none 0 0) :=
  ⟨h1, (Array.getElem?_eq_some_iff.1 ht).1, fun j => by simp [World.frozen?, ht], by simp [World.cell?, ht], by simp [World.cell?, ht], ints_new hh⟩
theorem heap2 (w : World) (o1 o2 : Obj) : ((w.alloc o1).alloc o2).heap[w.heap.size]? = some o1 ∧ ((w.alloc o1).alloc o2).heap[w.heap.size + 1]? = some o2 := by
  have e1 : (w.alloc o1).heap.size = w.heap.size + 1 := by simp
  refine ⟨?_, ?_⟩
  · exact (Below.heap_alloc _ _ _ (by rw [e1]; omega)).trans (heap_alloc_new _ _)
  · rw [← e1]; exact heap_alloc_new _ _
def minusF (k : Nat) : Nat → Int := fun i => if i < k then -1 else 0
theorem minusF_next (k : Nat) : upd (minusF k) k (-1) = minusF (k + 1) := by
  funext i; unfold upd minusF; (repeat' split) <;> omega

def NewTablePost (m : Nat) (w : World) (e : Ending) (w' : World) : Prop :=
  ∃ t s, e = .returned (.pointer (some ⟨t, 0, none⟩)) ∧ w.heap.size ≤ t ∧ w.heap.size ≤ s ∧ TableAt w' t s m (fun _ => -1) (.slice none 0 0) ∧ Ext w w'
theorem newTable_any (m : Nat) (hm : m ≤ 4096) (w : World) : Calls Try.prog 93 #[.int .i64 (m : Int)] w (NewTablePost m w) := by
  have k2 := make_ints m hm
  have hx0 : ∀ o1 o2, Ext w ((w.alloc o1).alloc o2) := fun o1 o2 => ((Ext.refl w).alloc o1).alloc o2
  have ht0 := table_new (w := ((w.alloc (.cells (intRow m) 3)).alloc (.cells #[.slice (some ⟨w.heap.size, 0, none⟩) m m, .slice none 0 0] 113))) (heap2 w _ _).2 (heap2 w _ _).1 (by omega)
  have Ht0 := Lib.hid ht0
  clear ht0
  go_enter Try.func93, Try.ntmps93
  go_wp2_with fail
  go_loopw [14] (fun o wr => ∃ k : Nat, k ≤ m ∧ o = .int .i64 (k : Int) ∧ TableAt wr (w.heap.size + 1) w.heap.size m (minusF k) (.slice none 0 0) ∧ Ext w wr) (fun o _ => m - (intOf o).toNat)
  case atStart => exact ⟨0, by omega, rfl, Ht0.out, hx0 _ _⟩
  case round =>
    obtain ⟨k, hk, rfl, htab, hx⟩ := hrel
    have Htab := Lib.hid htab
    obtain ⟨_, hb, hbf, c0, c1, hi⟩ := htab
    have hif := hi.2.1
    by_cases hkm : k < m
    · have hd : decide ((k : Int) < (m : Int)) = true := by simpa using hkm
      have c2 := hi.2.2 k hkm
      clear hi
      go_wp2_with fail
      go_roundw
      case rel => exact ⟨k + 1, by omega, by go_num, by rw [← minusF_next]; exact Htab.out.set hkm _, ext_setCell hx (Nat.le_refl _) _⟩
      case measure => simp [intOf]; omega
    · have hd : decide ((k : Int) < (m : Int)) = false := by simp; omega
      go_wp2_with fail
      go_ret
      refine ⟨w.heap.size + 1, w.heap.size, rfl, by omega, by omega, ?_, hx⟩
      obtain ⟨q1, q2, q3, q4, q5, q6, q7, q8⟩ := Htab.out
      exact ⟨q1, q2, q3, q4, q5, q6, q7, fun i hi => by rw [q8 i hi]; simp [minusF]; omega⟩

def RNewPost (n : Int) (w : World) (e : Ending) (w' : World) : Prop :=
  (powB n 2 = false ∧ e = .returned (.tuple #[.pointer none, .int .i64 3]) ∧ w' = w) ∨
  (powB n 2 = true ∧ ∃ b t s, e = .returned (.tuple #[.pointer (some ⟨b, 0, none⟩), .int .i64 0]) ∧ w.heap.size ≤ b ∧ w.heap.size ≤ t ∧ w.heap.size ≤ s ∧ b ≠ t ∧ b ≠ s ∧ TableAt w' t s n.toNat (fun _ => -1) (.slice none 0 0) ∧
    w'.heap[b]? = some (.cells #[.pointer (some ⟨t, 0, none⟩), .slice none 0 0] 102) ∧ Ext w w')
theorem rnew_any (n : Int) (w : World) : Calls Try.prog 43 #[.int .i64 n] w (RNewPost n w) := by
  cases hp : powB n 2
  · go_enter Try.func43, Try.ntmps43
    go_wp2_with (go_at_call 92; refine (rpower_any _ _ (by decide) _).mono ?_; rintro e w1 ⟨rfl, rfl⟩)
    go_ret2
    exact .inl ⟨hp, rfl, rfl⟩
  · obtain ⟨h2, h3, _⟩ := (pow_spec (by omega)).1 hp
    obtain ⟨m, rfl⟩ : ∃ m : Nat, n = m := ⟨n.toNat, by omega⟩
    go_enter Try.func43, Try.ntmps43
    go_wp2_with (first | (go_at_call 92; refine (rpower_any _ _ (by decide) _).mono ?_; rintro e w1 ⟨rfl, rfl⟩) | (go_at_call 93; refine (newTable_any m (by omega) _).mono ?_; rintro e w1 ⟨t, s, rfl, ht, hs, htab, hx⟩))
    go_ret2
    have hl1 := htab.2.1
    have hl2 := htab.2.2.2.2.2.1
    have hz := hx.size
    exact .inr ⟨hp, w1.heap.size, t, s, rfl, hz, ht, hs, by omega, by omega, htab.ext ((Ext.refl _).alloc _), heap_alloc_new _ _, hx.alloc _⟩
end Go.Proofs.Ytkhfjedeccjnbaa
