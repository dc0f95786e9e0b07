/-
  The words that the walks of this seat share: worlds that have only grown, rows of integers that came in, and small tactics' lemmas.
  Conditions: none.
-/
import Derived.WalkKit
import Derived.WalkSpells
import Derived.WalkLawsBesides
import Derived.Deep.QuietTactic
import Derived.BigQuiet
import Derived.Sort.Grow
import Derived.Lib.Hide
namespace Go.Proofs.Ytjefpeppkphgbaa
open Go.RowKit Go.Sort

/-- The world w with the blocks os behind its heap, and with another count of draws. -/
def later (w : World) (d : Nat) (os : Array Obj) : World := { heap := w.heap ++ os, tape := w.tape, drawn := d, os := w.os, output := w.output }
theorem later_later (w : World) (d d' : Nat) (os os' : Array Obj) : later (later w d os) d' os' = later w d' (os ++ os') := by simp [later, Array.append_assoc]
theorem later_self (w : World) (d : Nat) : later w d #[] = { w with drawn := d } := by simp [later]
theorem later_size (w : World) (d : Nat) (os : Array Obj) : (later w d os).heap.size = w.heap.size + os.size := by simp [later]
theorem later_block (w : World) (d : Nat) (os : Array Obj) {k : Nat} (h : k < w.heap.size) : (later w d os).heap[k]? = w.heap[k]? := by simp [later, Array.getElem?_append, h]
/-- The world w' is w after some draws, with some new blocks: nothing that was there has changed. -/
def Ext (w w' : World) : Prop := ∃ (d : Nat) (os : Array Obj), w' = later w d os

theorem Ext.refl (w : World) : Ext w w := ⟨w.drawn, #[], by rw [later_self]⟩
theorem Ext.trans {a b c : World} (h : Ext a b) (k : Ext b c) : Ext a c := by
  obtain ⟨n, os, rfl⟩ := h
  obtain ⟨m, os', rfl⟩ := k
  exact ⟨m, os ++ os', later_later _ _ _ _ _⟩
theorem Ext.drew {a w : World} (h : Ext a w) : Ext a w.drew := h.trans ⟨w.drawn + 1, #[], by rw [later_self]; rfl⟩
theorem Ext.drewN {a w : World} (h : Ext a w) (n : Nat) : Ext a (w.drewN n) := h.trans ⟨w.drawn + n, #[], by rw [later_self]; rfl⟩
theorem Ext.alloc {a w : World} (h : Ext a w) (o : Obj) : Ext a (w.alloc o) := h.trans ⟨w.drawn, #[o], by unfold World.alloc later; rw [Array.append_singleton]⟩
theorem Ext.size {a w : World} (h : Ext a w) : a.heap.size ≤ w.heap.size := by
  obtain ⟨n, os, rfl⟩ := h
  rw [later_size]; omega
theorem Ext.block {a w : World} (h : Ext a w) {k : Nat} (hk : k < a.heap.size) : w.heap[k]? = a.heap[k]? := by
  obtain ⟨n, os, rfl⟩ := h
  exact later_block _ _ _ hk
theorem Ext.below {a w : World} (h : Ext a w) : Below a.heap.size a w := by
  have hs := h.size
  have hb : ∀ k, k < a.heap.size → w.heap[k]? = a.heap[k]? := fun k hk => h.block hk
  obtain ⟨n, os, rfl⟩ := h
  exact ⟨rfl, rfl, rfl, hs, hb⟩
theorem Ext.cell {a w : World} (h : Ext a w) {p : Addr} (hp : p.block < a.heap.size) : w.cell? p = a.cell? p := h.below.cell hp
theorem Ext.frozen {a w : World} (h : Ext a w) {p : Addr} (hp : p.block < a.heap.size) : w.frozen? p = a.frozen? p := h.below.frozen hp
/-- The world w' is w after some draws, with some new blocks, and with changes at most in the blocks that S names. -/
structure Chg (S : Nat → Prop) (w w' : World) : Prop where
  os : w'.os = w.os
  tape : w'.tape = w.tape
  output : w'.output = w.output
  size : w.heap.size ≤ w'.heap.size
  block : ∀ k, k < w.heap.size → ¬ S k → w'.heap[k]? = w.heap[k]?
theorem Chg.refl (S : Nat → Prop) (w : World) : Chg S w w := ⟨rfl, rfl, rfl, Nat.le_refl _, fun _ _ _ => rfl⟩
theorem Chg.trans {S : Nat → Prop} {a b c : World} (h : Chg S a b) (k : Chg S b c) : Chg S a c :=
  ⟨k.os.trans h.os, k.tape.trans h.tape, k.output.trans h.output, Nat.le_trans h.size k.size, fun i hi hS => (k.block i (Nat.lt_of_lt_of_le hi h.size) hS).trans (h.block i hi hS)⟩
theorem Chg.mono {S T : Nat → Prop} {a b : World} (h : Chg S a b) (hST : ∀ k, k < a.heap.size → S k → T k) : Chg T a b :=
  ⟨h.os, h.tape, h.output, h.size, fun i hi hT => h.block i hi fun hS => hT (hST i hi hS)⟩
theorem Chg.drew {S : Nat → Prop} {a w : World} (h : Chg S a w) : Chg S a w.drew := h.trans ⟨rfl, rfl, rfl, Nat.le_refl _, fun _ _ _ => rfl⟩
theorem Chg.drewN {S : Nat → Prop} {a w : World} (h : Chg S a w) (n : Nat) : Chg S a (w.drewN n) := h.trans ⟨rfl, rfl, rfl, Nat.le_refl _, fun _ _ _ => rfl⟩
theorem Chg.alloc {S : Nat → Prop} {a w : World} (h : Chg S a w) (o : Obj) : Chg S a (w.alloc o) :=
  h.trans ⟨rfl, rfl, rfl, by simp, fun k hk _ => Below.heap_alloc w o k hk⟩
theorem Chg.setCell {S : Nat → Prop} {a w : World} (h : Chg S a w) {p : Addr} (hp : S p.block ∨ a.heap.size ≤ p.block) (u : Value) : Chg S a (w.setCell p u) := by
  refine ⟨h.os, h.tape, h.output, by simpa [World.setCell] using h.size, fun k hk hS => ?_⟩
  rw [Below.heap_setCell w p u k (by rintro rfl; rcases hp with hp | hp; exact hS hp; omega)]
  exact h.block k hk hS
theorem Chg.grown {S : Nat → Prop} {a w w' : World} {row : Option Nat} (h : Chg S a w) (g : w.grownBy w' row) (hr : ∀ k, row = some k → S k ∨ a.heap.size ≤ k) : Chg S a w' := by
  refine ⟨g.os.trans h.os, g.tape.trans h.tape, g.output.trans h.output, Nat.le_trans h.size g.size, fun k hk hS => ?_⟩
  rw [g.block k (Nat.lt_of_lt_of_le hk h.size) (fun e => by rcases hr k e.symm with h1 | h1; exact hS h1; omega)]
  exact h.block k hk hS
theorem Chg.cell {S : Nat → Prop} {a w : World} (h : Chg S a w) {p : Addr} (hp : p.block < a.heap.size) (hS : ¬ S p.block) : w.cell? p = a.cell? p := World.cell?_of_block (h.block p.block hp hS)
theorem Chg.frozen {S : Nat → Prop} {a w : World} (h : Chg S a w) {p : Addr} (hp : p.block < a.heap.size) (hS : ¬ S p.block) : w.frozen? p = a.frozen? p := World.frozen?_of_block (h.block p.block hp hS)
theorem Ext.chg {a w : World} (h : Ext a w) (S : Nat → Prop) : Chg S a w := by
  have hs := h.size
  have hb : ∀ k, k < a.heap.size → ¬ S k → w.heap[k]? = a.heap[k]? := fun k hk _ => h.block hk
  obtain ⟨n, os, rfl⟩ := h
  exact ⟨rfl, rfl, rfl, hs, hb⟩
theorem Ext.of_chg {a w : World} (h : Chg (fun _ => False) a w) : Ext a w := by
  refine ⟨w.drawn, w.heap.extract a.heap.size, ?_⟩
  obtain ⟨h1, h2, h3, h5, h6⟩ := h
  cases w with
  | mk heap tape drawn os output =>
    simp only at h1 h2 h3 h5 h6
    subst h1 h2 h3
    have hh : heap = a.heap ++ heap.extract a.heap.size := by
      apply Array.ext_getElem?
      intro i
      rw [Array.getElem?_append]
      by_cases hi : i < a.heap.size
      · rw [if_pos hi]; exact h6 i hi (fun h => h)
      · rw [if_neg hi, Array.getElem?_extract]
        split
        · congr 1; omega
        · rename_i hx; simp only [Array.getElem?_eq_none_iff]; simp at hx; omega
    unfold later
    simp only [World.mk.injEq]
    refine ⟨hh, ?_, ?_, ?_, ?_⟩ <;> trivial
/-- A change in new blocks alone is an extension. -/
theorem Ext.chg_new {S : Nat → Prop} {a b c : World} (h : Ext a b) (k : Chg S b c) (hS : ∀ i, S i → a.heap.size ≤ i) : Ext a c := by
  have g := h.chg (fun _ => False)
  exact Ext.of_chg ⟨k.os.trans g.os, k.tape.trans g.tape, k.output.trans g.output, Nat.le_trans g.size k.size,
    fun i hi _ => (k.block i (Nat.lt_of_lt_of_le hi g.size) (fun hi' => absurd (hS i hi') (by omega))).trans (h.block hi)⟩
theorem ext_setCell {a w : World} (h : Ext a w) {p : Addr} (hp : a.heap.size ≤ p.block) (u : Value) : Ext a (w.setCell p u) :=
  Ext.of_chg ((h.chg _).setCell (.inr hp) u)
theorem Ext.grown {a w w' : World} {row : Option Nat} (h : Ext a w) (g : w.grownBy w' row) (hr : ∀ k, row = some k → a.heap.size ≤ k) : Ext a w' :=
  Ext.of_chg ((h.chg _).grown g fun k hk => .inr (hr k hk))

/-- An integer that a Go int holds. -/
def I64 (n : Int) : Prop := -9223372036854775808 ≤ n ∧ n ≤ 9223372036854775807
theorem i64_of_wf {n : Int} (h : (Lit.int .i64 n).wf = true) : I64 n := by
  simp [Lit.wf, IntKind.min, IntKind.max, IntKind.signed, IntKind.bits] at h
  unfold I64
  omega

/-- A slice of integers that came in: nil; or it leads to a row of 'cap' cells, the numbers 'zs' (the first 'len' are its elements). -/
def IsRow (k : IntKind) (w : World) (a : Option Addr) (len cap : Nat) (zs : List Int) : Prop :=
  (a = none ∧ len = 0 ∧ cap = 0 ∧ zs = []) ∨
  ∃ x, a = some x ∧ len ≤ cap ∧ cap ≤ maxLen ∧ zs.length = cap ∧ (∀ i, i < zs.length → w.cell? (x.add i) = some (.int k (zs.getD i 0))) ∧ ∀ n ∈ zs, (Lit.int k n).wf = true

/-- How far a world is from another: the count of draws, the new blocks. -/
structure GrownP where
  n : Nat
  os : Array Obj
instance : Inhabited GrownP := ⟨⟨0, #[]⟩⟩
/-- A region that draws its order, whose operations only read, and whose callees read, draw and lay blocks: walked once, in the order of the text. -/
theorem wp_region_ext {P : Program} {id : Nat} {Q : Exit → Act → World → Prop} {a : Act} {w : World} {l : List Oper} (hm : P.follows .mixedOrders = true) (hB : Region.lexB .any l.toArray = true)
    (h : wpQuiet P l.toArray (fun w' => ∃ p : GrownP, w' = later w p.n p.os) (fun a' => ∀ w', Ext w w' → Q .normal a' w') l a) : (Code.region id l.toArray true).wp P Q a w :=
  wp_region_quiet (C := fun w' => ∃ p : GrownP, w' = later w p.n p.os) hm hB ⟨⟨w.drawn + 1, #[]⟩, by rw [later_self]⟩ (by
    have e : (fun a' => ∀ w', Ext w w' → Q .normal a' w') = (fun a' => ∀ w', (∃ p : GrownP, w' = later w p.n p.os) → Q .normal a' w') := by
      funext a'
      apply propext
      constructor
      · rintro h w' ⟨⟨n, os⟩, rfl⟩; exact h _ ⟨n, os, rfl⟩
      · rintro h w' ⟨n, os, rfl⟩; exact h _ ⟨⟨n, os⟩, rfl⟩
    rw [e] at h
    simpa using h)
theorem cell_grow_any (w : World) (n : Nat) (os : Array Obj) (b o : Nat) (h : b < w.heap.size) : (later w n os).cell? ⟨b, o, none⟩ = w.cell? ⟨b, o, none⟩ :=
  World.cell?_of_block (later_block w n os h)
/-- A callee's contract, met in such a world: the blocks follow one another. -/
theorem ext_call {P : Program} {f : FuncId} {args : Array Value} {w : World} {n : Nat} {os : Array Obj} {v : Value}
    (h : Calls P f args (later w n os) fun e w' => e = .returned v ∧ Ext (later w n os) w') : Calls P f args (later w n os) fun e w'' => e = .returned v ∧ ∃ p : GrownP, w'' = later w p.n p.os :=
  h.mono fun _ _ ⟨he, q, os', hq⟩ => ⟨he, ⟨q, os ++ os'⟩, by rw [hq]; exact later_later _ _ _ _ _⟩
theorem ext_call_same {P : Program} {f : FuncId} {args : Array Value} {w : World} {n : Nat} {os : Array Obj} {v : Value}
    (h : Calls P f args (later w n os) fun e w' => e = .returned v ∧ later w n os = w') : Calls P f args (later w n os) fun e w'' => e = .returned v ∧ ∃ p : GrownP, w'' = later w p.n p.os :=
  h.mono fun _ _ ⟨he, hw⟩ => ⟨he, ⟨n, os⟩, hw.symm⟩
end Go.Proofs.Ytjefpeppkphgbaa
