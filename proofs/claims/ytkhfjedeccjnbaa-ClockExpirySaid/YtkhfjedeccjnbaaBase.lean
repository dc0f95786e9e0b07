/-
  The words that the walks of this seat share: worlds that have only grown, rows of integers that came in, and small tactics' lemmas.
  Conditions: none.
-/
import Derived.WalkKit
import Derived.WalkSpells
import Derived.WalkLawsBesides
import Derived.Deep.QuietTactic
import Derived.BigQuiet
import Derived.Sort.Grow
import Derived.Lib.Hide
namespace Go.Proofs.Ytkhfjedeccjnbaa
open Go.RowKit Go.Sort

/-- The world w' is w after some draws, with some new blocks: nothing that was there has changed. -/
def Ext (w w' : World) : Prop := ∃ (n : Nat) (os : Array Obj), w' = grow (w.drewN n) os

theorem drewN_zero (w : World) : w.drewN 0 = w := rfl
theorem drewN_grow (w : World) (os : Array Obj) (n : Nat) : (grow w os).drewN n = grow (w.drewN n) os := rfl
theorem Ext.refl (w : World) : Ext w w := ⟨0, #[], by rw [grow_empty]; rfl⟩
theorem Ext.trans {a b c : World} (h : Ext a b) (k : Ext b c) : Ext a c := by
  obtain ⟨n, os, rfl⟩ := h
  obtain ⟨m, os', rfl⟩ := k
  exact ⟨n + m, os ++ os', by rw [drewN_grow, grow_grow, World.drewN_drewN]⟩
theorem Ext.drew {a w : World} (h : Ext a w) : Ext a w.drew := h.trans ⟨1, #[], by rw [grow_empty]; rfl⟩
theorem Ext.drewN {a w : World} (h : Ext a w) (n : Nat) : Ext a (w.drewN n) := h.trans ⟨n, #[], by rw [grow_empty]⟩
theorem Ext.alloc {a w : World} (h : Ext a w) (o : Obj) : Ext a (w.alloc o) := h.trans ⟨0, #[o], by rw [alloc_eq_grow]; rfl⟩
theorem Ext.size {a w : World} (h : Ext a w) : a.heap.size ≤ w.heap.size := by
  obtain ⟨n, os, rfl⟩ := h
  simp [grow, World.drewN]
theorem Ext.block {a w : World} (h : Ext a w) {k : Nat} (hk : k < a.heap.size) : w.heap[k]? = a.heap[k]? := by
  obtain ⟨n, os, rfl⟩ := h
  exact heap_grow_old (a.drewN n) os hk
theorem Ext.below {a w : World} (h : Ext a w) : Below a.heap.size a w := by
  have hs := h.size
  have hb : ∀ k, k < a.heap.size → w.heap[k]? = a.heap[k]? := fun k hk => h.block hk
  obtain ⟨n, os, rfl⟩ := h
  exact ⟨rfl, rfl, rfl, hs, hb⟩
theorem Ext.cell {a w : World} (h : Ext a w) {p : Addr} (hp : p.block < a.heap.size) : w.cell? p = a.cell? p := h.below.cell hp
theorem Ext.frozen {a w : World} (h : Ext a w) {p : Addr} (hp : p.block < a.heap.size) : w.frozen? p = a.frozen? p := h.below.frozen hp
theorem ext_setCell {a w : World} (h : Ext a w) {p : Addr} (hp : a.heap.size ≤ p.block) (u : Value) : Ext a (w.setCell p u) := by
  obtain ⟨n, os, rfl⟩ := h
  refine ⟨n, (os.modify (p.block - a.heap.size) fun
      | .cells c elem frozen => .cells (if p.spot.isSome then c else c.setIfInBounds p.off u) elem frozen
      | o => o), ?_⟩
  have h1 : (a.drewN n).heap.size = a.heap.size := rfl
  unfold World.setCell grow
  simp only []
  rw [modify_append_right _ _ _ _ (by rw [h1]; exact hp)]
  rfl

/-- An integer that a Go int holds. -/
def I64 (n : Int) : Prop := -9223372036854775808 ≤ n ∧ n ≤ 9223372036854775807
theorem i64_of_wf {n : Int} (h : (Lit.int .i64 n).wf = true) : I64 n := by
  simp [Lit.wf, IntKind.min, IntKind.max, IntKind.signed, IntKind.bits] at h
  unfold I64
  omega

/-- A slice of integers that came in: nil; or it leads to a row of 'cap' cells, the numbers 'zs' (the first 'len' are its elements). -/
def IsRow (k : IntKind) (w : World) (a : Option Addr) (len cap : Nat) (zs : List Int) : Prop :=
  (a = none ∧ len = 0 ∧ cap = 0 ∧ zs = []) ∨
  ∃ x, a = some x ∧ len ≤ cap ∧ cap ≤ maxLen ∧ zs.length = cap ∧ (∀ i, i < zs.length → w.cell? (x.add i) = some (.int k (zs.getD i 0))) ∧ ∀ n ∈ zs, (Lit.int k n).wf = true

/-- A region that draws its order, whose operations only read, and whose callees read, draw and lay blocks: walked once, in the order of the text. -/
theorem wp_region_ext {P : Program} {id : Nat} {Q : Exit → Act → World → Prop} {a : Act} {w : World} {l : List Oper} (hm : P.follows .mixedOrders = true) (hB : Region.lexB .any l.toArray = true)
    (h : wpQuiet P l.toArray (fun w' => ∃ p : Nat × Array Obj, w' = grow (w.drewN p.1) p.2) (fun a' => ∀ w', Ext w w' → Q .normal a' w') l a) : (Code.region id l.toArray true).wp P Q a w :=
  wp_region_quiet (C := fun w' => ∃ p : Nat × Array Obj, w' = grow (w.drewN p.1) p.2) hm hB ⟨(1, #[]), by rw [grow_empty]; rfl⟩ (by
    have e : (fun a' => ∀ w', Ext w w' → Q .normal a' w') = (fun a' => ∀ w', (∃ p : Nat × Array Obj, w' = grow (w.drewN p.1) p.2) → Q .normal a' w') := by
      funext a'
      apply propext
      constructor
      · rintro h w' ⟨⟨n, os⟩, rfl⟩; exact h _ ⟨n, os, rfl⟩
      · rintro h w' ⟨n, os, rfl⟩; exact h _ ⟨(n, os), rfl⟩
    rw [e] at h
    simpa using h)
end Go.Proofs.Ytkhfjedeccjnbaa
