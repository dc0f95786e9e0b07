/-
  What the walks of this seat stand on: worlds that have only grown, clocks, lists, codes, sources, records, rows of words. Conditions: none.
-/
import Derived.WalkKit
import Derived.WalkSpells
import Derived.WalkLawsBesides
import Derived.Deep.QuietTactic
import Derived.BigQuiet
import Derived.Sort.Grow
import Derived.Lib.Hide
import Derived.Test.YthenclenabcmgaaProg
import Derived.Laws.IdiomStrings
import Derived.Deep.RegionHeld3
import Derived.Deep.DeepCutAuto
import Derived.Maps.AppendAt
import Derived.OwnWalk
import Derived.RegionTactic
import Derived.Maps.OwnSet
namespace Go.Proofs.Ythenclenabcmgaa
open Go.RowKit Go.Sort

/-- The world w with the blocks os behind its heap, and with another count of draws. -/
def later (w : World) (d : Nat) (os : Array Obj) : World := { heap := w.heap ++ os, tape := w.tape, drawn := d, os := w.os, output := w.output }
theorem later_later (w : World) (d d' : Nat) (os os' : Array Obj) : later (later w d os) d' os' = later w d' (os ++ os') := by simp [later, Array.append_assoc]
theorem later_self (w : World) (d : Nat) : later w d #[] = { w with drawn := d } := by simp [later]
theorem later_size (w : World) (d : Nat) (os : Array Obj) : (later w d os).heap.size = w.heap.size + os.size := by simp [later]
theorem later_block (w : World) (d : Nat) (os : Array Obj) {k : Nat} (h : k < w.heap.size) : (later w d os).heap[k]? = w.heap[k]? := by simp [later, Array.getElem?_append, h]
/-- The world w' is w after some draws, with some new blocks: nothing that was there has changed. -/
def Ext (w w' : World) : Prop := ∃ (d : Nat) (os : Array Obj), w' = later w d os

theorem Ext.refl (w : World) : Ext w w := ⟨w.drawn, #[], by rw [later_self]⟩
theorem Ext.trans {a b c : World} (h : Ext a b) (k : Ext b c) : Ext a c := by
  obtain ⟨n, os, rfl⟩ := h
  obtain ⟨m, os', rfl⟩ := k
  exact ⟨m, os ++ os', later_later _ _ _ _ _⟩
theorem Ext.drew {a w : World} (h : Ext a w) : Ext a w.drew := h.trans ⟨w.drawn + 1, #[], by rw [later_self]; rfl⟩
theorem Ext.drewN {a w : World} (h : Ext a w) (n : Nat) : Ext a (w.drewN n) := h.trans ⟨w.drawn + n, #[], by rw [later_self]; rfl⟩
theorem Ext.alloc {a w : World} (h : Ext a w) (o : Obj) : Ext a (w.alloc o) := h.trans ⟨w.drawn, #[o], by unfold World.alloc later; rw [Array.append_singleton]⟩
theorem Ext.size {a w : World} (h : Ext a w) : a.heap.size ≤ w.heap.size := by
  obtain ⟨n, os, rfl⟩ := h
  rw [later_size]; omega
theorem Ext.block {a w : World} (h : Ext a w) {k : Nat} (hk : k < a.heap.size) : w.heap[k]? = a.heap[k]? := by
  obtain ⟨n, os, rfl⟩ := h
  exact later_block _ _ _ hk
theorem Ext.below {a w : World} (h : Ext a w) : Below a.heap.size a w := by
  have hs := h.size
  have hb : ∀ k, k < a.heap.size → w.heap[k]? = a.heap[k]? := fun k hk => h.block hk
  obtain ⟨n, os, rfl⟩ := h
  exact ⟨rfl, rfl, rfl, hs, hb⟩
theorem Ext.cell {a w : World} (h : Ext a w) {p : Addr} (hp : p.block < a.heap.size) : w.cell? p = a.cell? p := h.below.cell hp
theorem Ext.frozen {a w : World} (h : Ext a w) {p : Addr} (hp : p.block < a.heap.size) : w.frozen? p = a.frozen? p := h.below.frozen hp
/-- The world w' is w after some draws, with some new blocks, and with changes at most in the blocks that S names. -/
structure Chg (S : Nat → Prop) (w w' : World) : Prop where
  os : w'.os = w.os
  tape : w'.tape = w.tape
  output : w'.output = w.output
  size : w.heap.size ≤ w'.heap.size
  block : ∀ k, k < w.heap.size → ¬ S k → w'.heap[k]? = w.heap[k]?
theorem Chg.refl (S : Nat → Prop) (w : World) : Chg S w w := ⟨rfl, rfl, rfl, Nat.le_refl _, fun _ _ _ => rfl⟩
theorem Chg.trans {S : Nat → Prop} {a b c : World} (h : Chg S a b) (k : Chg S b c) : Chg S a c :=
  ⟨k.os.trans h.os, k.tape.trans h.tape, k.output.trans h.output, Nat.le_trans h.size k.size, fun i hi hS => (k.block i (Nat.lt_of_lt_of_le hi h.size) hS).trans (h.block i hi hS)⟩
theorem Chg.mono {S T : Nat → Prop} {a b : World} (h : Chg S a b) (hST : ∀ k, k < a.heap.size → S k → T k) : Chg T a b :=
  ⟨h.os, h.tape, h.output, h.size, fun i hi hT => h.block i hi fun hS => hT (hST i hi hS)⟩
theorem Chg.drew {S : Nat → Prop} {a w : World} (h : Chg S a w) : Chg S a w.drew := h.trans ⟨rfl, rfl, rfl, Nat.le_refl _, fun _ _ _ => rfl⟩
theorem Chg.drewN {S : Nat → Prop} {a w : World} (h : Chg S a w) (n : Nat) : Chg S a (w.drewN n) := h.trans ⟨rfl, rfl, rfl, Nat.le_refl _, fun _ _ _ => rfl⟩
theorem Chg.alloc {S : Nat → Prop} {a w : World} (h : Chg S a w) (o : Obj) : Chg S a (w.alloc o) :=
  h.trans ⟨rfl, rfl, rfl, by simp, fun k hk _ => Below.heap_alloc w o k hk⟩
theorem Chg.setCell {S : Nat → Prop} {a w : World} (h : Chg S a w) {p : Addr} (hp : S p.block ∨ a.heap.size ≤ p.block) (u : Value) : Chg S a (w.setCell p u) := by
  refine ⟨h.os, h.tape, h.output, by simpa [World.setCell] using h.size, fun k hk hS => ?_⟩
  rw [Below.heap_setCell w p u k (by rintro rfl; rcases hp with hp | hp; exact hS hp; omega)]
  exact h.block k hk hS
theorem Chg.grown {S : Nat → Prop} {a w w' : World} {row : Option Nat} (h : Chg S a w) (g : w.grownBy w' row) (hr : ∀ k, row = some k → S k ∨ a.heap.size ≤ k) : Chg S a w' := by
  refine ⟨g.os.trans h.os, g.tape.trans h.tape, g.output.trans h.output, Nat.le_trans h.size g.size, fun k hk hS => ?_⟩
  rw [g.block k (Nat.lt_of_lt_of_le hk h.size) (fun e => by rcases hr k e.symm with h1 | h1; exact hS h1; omega)]
  exact h.block k hk hS
theorem Chg.cell {S : Nat → Prop} {a w : World} (h : Chg S a w) {p : Addr} (hp : p.block < a.heap.size) (hS : ¬ S p.block) : w.cell? p = a.cell? p := World.cell?_of_block (h.block p.block hp hS)
theorem Chg.frozen {S : Nat → Prop} {a w : World} (h : Chg S a w) {p : Addr} (hp : p.block < a.heap.size) (hS : ¬ S p.block) : w.frozen? p = a.frozen? p := World.frozen?_of_block (h.block p.block hp hS)
theorem Ext.chg {a w : World} (h : Ext a w) (S : Nat → Prop) : Chg S a w := by
  have hs := h.size
  have hb : ∀ k, k < a.heap.size → ¬ S k → w.heap[k]? = a.heap[k]? := fun k hk _ => h.block hk
  obtain ⟨n, os, rfl⟩ := h
  exact ⟨rfl, rfl, rfl, hs, hb⟩
theorem Ext.of_chg {a w : World} (h : Chg (fun _ => False) a w) : Ext a w := by
  refine ⟨w.drawn, w.heap.extract a.heap.size, ?_⟩
  obtain ⟨h1, h2, h3, h5, h6⟩ := h
  cases w with
  | mk heap tape drawn os output =>
    simp only at h1 h2 h3 h5 h6
    subst h1 h2 h3
    have hh : heap = a.heap ++ heap.extract a.heap.size := by
      apply Array.ext_getElem?
      intro i
      rw [Array.getElem?_append]
      by_cases hi : i < a.heap.size
      · rw [if_pos hi]; exact h6 i hi (fun h => h)
      · rw [if_neg hi, Array.getElem?_extract]
        split
        · congr 1; omega
        · rename_i hx; simp only [Array.getElem?_eq_none_iff]; simp at hx; omega
    unfold later
    simp only [World.mk.injEq]
    refine ⟨hh, ?_, ?_, ?_, ?_⟩ <;> trivial
/-- A change in new blocks alone is an extension. -/
theorem Ext.chg_new {S : Nat → Prop} {a b c : World} (h : Ext a b) (k : Chg S b c) (hS : ∀ i, S i → a.heap.size ≤ i) : Ext a c := by
  have g := h.chg (fun _ => False)
  exact Ext.of_chg ⟨k.os.trans g.os, k.tape.trans g.tape, k.output.trans g.output, Nat.le_trans g.size k.size,
    fun i hi _ => (k.block i (Nat.lt_of_lt_of_le hi g.size) (fun hi' => absurd (hS i hi') (by omega))).trans (h.block hi)⟩
theorem ext_setCell {a w : World} (h : Ext a w) {p : Addr} (hp : a.heap.size ≤ p.block) (u : Value) : Ext a (w.setCell p u) :=
  Ext.of_chg ((h.chg _).setCell (.inr hp) u)
theorem Ext.grown {a w w' : World} {row : Option Nat} (h : Ext a w) (g : w.grownBy w' row) (hr : ∀ k, row = some k → a.heap.size ≤ k) : Ext a w' :=
  Ext.of_chg ((h.chg _).grown g fun k hk => .inr (hr k hk))

/-- An integer that a Go int holds. -/
def I64 (n : Int) : Prop := -9223372036854775808 ≤ n ∧ n ≤ 9223372036854775807
theorem i64_of_wf {n : Int} (h : (Lit.int .i64 n).wf = true) : I64 n := by
  simp [Lit.wf, IntKind.min, IntKind.max, IntKind.signed, IntKind.bits] at h
  unfold I64
  omega

/-- A slice of integers that came in: nil; or it leads to a row of 'cap' cells, the numbers 'zs' (the first 'len' are its elements). -/
def IsRow (k : IntKind) (w : World) (a : Option Addr) (len cap : Nat) (zs : List Int) : Prop :=
  (a = none ∧ len = 0 ∧ cap = 0 ∧ zs = []) ∨
  ∃ x, a = some x ∧ len ≤ cap ∧ cap ≤ maxLen ∧ zs.length = cap ∧ (∀ i, i < zs.length → w.cell? (x.add i) = some (.int k (zs.getD i 0))) ∧ ∀ n ∈ zs, (Lit.int k n).wf = true

/-- How far a world is from another: the count of draws, the new blocks. -/
structure GrownP where
  n : Nat
  os : Array Obj
instance : Inhabited GrownP := ⟨⟨0, #[]⟩⟩
/-- A region that draws its order, whose operations only read, and whose callees read, draw and lay blocks: walked once, in the order of the text. -/
theorem wp_region_ext {P : Program} {id : Nat} {Q : Exit → Act → World → Prop} {a : Act} {w : World} {l : List Oper} (hm : P.follows .mixedOrders = true) (hB : Region.lexB .any l.toArray = true)
    (h : wpQuiet P l.toArray (fun w' => ∃ p : GrownP, w' = later w p.n p.os) (fun a' => ∀ w', Ext w w' → Q .normal a' w') l a) : (Code.region id l.toArray true).wp P Q a w :=
  wp_region_quiet (C := fun w' => ∃ p : GrownP, w' = later w p.n p.os) hm hB ⟨⟨w.drawn + 1, #[]⟩, by rw [later_self]⟩ (by
    have e : (fun a' => ∀ w', Ext w w' → Q .normal a' w') = (fun a' => ∀ w', (∃ p : GrownP, w' = later w p.n p.os) → Q .normal a' w') := by
      funext a'
      apply propext
      constructor
      · rintro h w' ⟨⟨n, os⟩, rfl⟩; exact h _ ⟨n, os, rfl⟩
      · rintro h w' ⟨n, os, rfl⟩; exact h _ ⟨⟨n, os⟩, rfl⟩
    rw [e] at h
    simpa using h)
theorem cell_grow_any (w : World) (n : Nat) (os : Array Obj) (b o : Nat) (h : b < w.heap.size) : (later w n os).cell? ⟨b, o, none⟩ = w.cell? ⟨b, o, none⟩ :=
  World.cell?_of_block (later_block w n os h)
/-- A callee's contract, met in such a world: the blocks follow one another. -/
theorem ext_call {P : Program} {f : FuncId} {args : Array Value} {w : World} {n : Nat} {os : Array Obj} {v : Value}
    (h : Calls P f args (later w n os) fun e w' => e = .returned v ∧ Ext (later w n os) w') : Calls P f args (later w n os) fun e w'' => e = .returned v ∧ ∃ p : GrownP, w'' = later w p.n p.os :=
  h.mono fun _ _ ⟨he, q, os', hq⟩ => ⟨he, ⟨q, os ++ os'⟩, by rw [hq]; exact later_later _ _ _ _ _⟩
theorem ext_call_same {P : Program} {f : FuncId} {args : Array Value} {w : World} {n : Nat} {os : Array Obj} {v : Value}
    (h : Calls P f args (later w n os) fun e w' => e = .returned v ∧ later w n os = w') : Calls P f args (later w n os) fun e w'' => e = .returned v ∧ ∃ p : GrownP, w'' = later w p.n p.os :=
  h.mono fun _ _ ⟨he, hw⟩ => ⟨he, ⟨n, os⟩, hw.symm⟩
end Go.Proofs.Ythenclenabcmgaa
namespace Go.Proofs.Ythenclenabcmgaa
open Go.RowKit Go.Sort
set_option maxHeartbeats 400000

def tickB (n : Int) : Bool := decide (0 ≤ n) && decide (n ≤ 1073741824)
theorem tickB_true {n : Int} (h : 0 ≤ n ∧ n ≤ 1073741824) : tickB n = true := by simp [tickB, h.1, h.2]
theorem tickB_false {n : Int} (h : n < 0 ∨ 1073741824 < n) : tickB n = false := by simp [tickB]; omega

theorem tick_any (n : Int) (w : World) : Calls Try.prog 46 #[.int .i64 n] w fun e w' => e = .returned (.bool (tickB n)) ∧ w = w' := by
  unfold tickB
  by_cases h : 0 ≤ n
  · have h' : decide (0 ≤ n) = true := by simpa using h
    go_enter Try.func46, Try.ntmps46
    go_wp2
    go_ret
    simp_all
  · have h' : decide (0 ≤ n) = false := by simpa using h
    go_enter Try.func46, Try.ntmps46
    go_wp2
    go_ret
    simp_all
def pickI (v n : Int) : Int := (v % 18446744073709551616) % n
theorem pick_plain (v n : Int) (h1 : 1 ≤ n) (h2 : n ≤ 9223372036854775807) : wrap64 ((IntKind.u64.wrap v).tmod n) = pickI v n := by
  have e : IntKind.u64.wrap v = v % 18446744073709551616 := by simp [IntKind.wrap, IntKind.bits, IntKind.signed]
  unfold pickI wrap64
  rw [e, Int.tmod_eq_emod_of_nonneg (by omega)]
  have := Int.emod_lt_of_pos (v % 18446744073709551616) (show 0 < n by omega)
  have := Int.emod_nonneg (v % 18446744073709551616) (show n ≠ 0 by omega)
  omega
theorem pickI_bd (v n : Int) (h1 : 1 ≤ n) : 0 ≤ pickI v n ∧ pickI v n < n :=
  ⟨Int.emod_nonneg _ (by omega), Int.emod_lt_of_pos _ (by omega)⟩

theorem pick_any (v n : Int) (h1 : 1 ≤ n) (h2 : n ≤ 9223372036854775807) (w : World) :
    Calls Try.prog 5 #[.int .i64 v, .int .i64 n] w fun e w' => e = .returned (.int .i64 (pickI v n)) ∧ w = w' := by
  have H := Lib.hid (pick_plain v n h1 h2)
  go_enter Try.func5, Try.ntmps5
  go_wp2
  go_ret
  exact ⟨by show Ending.returned (.int .i64 (wrap64 ((IntKind.u64.wrap v).tmod n))) = _; rw [H.out], rfl⟩

/-- Advance (23.1). -/
def advI (now n : Int) : Int := if tickB now = false then 0 else if n < 0 then now else if 1073741824 - now < n then 1073741824 else now + n
theorem advI_bad {now n : Int} (h : tickB now = false) : advI now n = 0 := by simp [advI, h]
theorem advI_neg {now n : Int} (h : tickB now = true) (hn : n < 0) : advI now n = now := by simp [advI, h, hn]
theorem advI_far {now n : Int} (h : tickB now = true) (hn : 0 ≤ n) (hf : 1073741824 - now < n) : advI now n = 1073741824 := by simp [advI, h, hf]; omega
theorem advI_sum {now n : Int} (h : tickB now = true) (hn : 0 ≤ n) (hf : n ≤ 1073741824 - now) : advI now n = now + n := by
  have h1 : ¬ n < 0 := by omega
  have h2 : ¬ 1073741824 - now < n := by omega
  simp [advI, h, h1, h2]

/-- Deadline (23.2): the tick and the error. -/
def dlV (now ttl : Int) : Int := if tickB now = true ∧ 1 ≤ ttl ∧ ttl ≤ 1073741824 ∧ ttl ≤ 1073741824 - now then now + ttl else 0
def dlE (now ttl : Int) : Int := if tickB now = true ∧ 1 ≤ ttl ∧ ttl ≤ 1073741824 then (if ttl ≤ 1073741824 - now then 0 else 8) else 3

theorem ret2 {a b c d : Int} (h : a = b) (k : c = d) : Ending.returned (.tuple #[.int .i64 a, .int .i64 c]) = .returned (.tuple #[.int .i64 b, .int .i64 d]) := by rw [h, k]

theorem deadline_any (now ttl : Int) (w : World) : Calls Try.prog 39 #[.int .i64 now, .int .i64 ttl] w fun e w' => e = .returned (.tuple #[.int .i64 (dlV now ttl), .int .i64 (dlE now ttl)]) ∧ w = w' := by
  by_cases ht : 0 ≤ now ∧ now ≤ 1073741824
  · obtain ⟨t0, t1⟩ := ht
    have hb := tickB_true ⟨t0, t1⟩
    have Hb := Lib.hid hb
    by_cases h1 : ttl < 1
    · go_enter Try.func39, Try.ntmps39
      go_wp2_with (go_at_call 46; refine (tick_any _ _).mono ?_; rintro e w' ⟨rfl, rfl⟩)
      go_ret2
      exact ⟨ret2 (by unfold dlV; rw [if_neg (by omega)]) (by unfold dlE; rw [if_neg (by omega)]), rfl⟩
    · by_cases h2 : 1073741824 < ttl
      · go_enter Try.func39, Try.ntmps39
        go_wp2_with (go_at_call 46; refine (tick_any _ _).mono ?_; rintro e w' ⟨rfl, rfl⟩)
        go_ret2
        exact ⟨ret2 (by unfold dlV; rw [if_neg (by omega)]) (by unfold dlE; rw [if_neg (by omega)]), rfl⟩
      · by_cases h3 : 1073741824 - now < ttl
        · go_enter Try.func39, Try.ntmps39
          go_wp2_with (go_at_call 46; refine (tick_any _ _).mono ?_; rintro e w' ⟨rfl, rfl⟩)
          go_ret2
          exact ⟨ret2 (by unfold dlV; rw [if_neg (by omega)]) (by unfold dlE; rw [if_pos ⟨Hb.out, by omega, by omega⟩, if_neg (by omega)]), rfl⟩
        · go_enter Try.func39, Try.ntmps39
          go_wp2_with (go_at_call 46; refine (tick_any _ _).mono ?_; rintro e w' ⟨rfl, rfl⟩)
          go_ret2
          exact ⟨ret2 (by unfold dlV; rw [if_pos ⟨Hb.out, by omega, by omega, by omega⟩]) (by unfold dlE; rw [if_pos ⟨Hb.out, by omega, by omega⟩, if_pos (by omega)]), rfl⟩
  · have hb := tickB_false (show now < 0 ∨ 1073741824 < now by omega)
    have Hb := Lib.hid hb
    go_enter Try.func39, Try.ntmps39
    go_wp2_with (go_at_call 46; refine (tick_any _ _).mono ?_; rintro e w' ⟨rfl, rfl⟩)
    go_ret2
    exact ⟨ret2 (by unfold dlV; rw [if_neg (by rw [Hb.out]; simp)]) (by unfold dlE; rw [if_neg (by rw [Hb.out]; simp)]), rfl⟩

/-- Live (23.3). -/
def liveB (st dl now : Int) : Bool := st == 2 || (st == 1 && decide (now < dl))

theorem live_any (st ow dl now : Int) (nm : ByteArray) (w : World) :
    Calls Try.prog 43 #[.agg #[.int .i64 st, .int .i64 ow, .string nm, .int .i64 dl], .int .i64 now] w fun e w' => e = .returned (.bool (liveB st dl now)) ∧ Ext w w' := by
  unfold liveB
  by_cases h2 : st = 2
  · subst h2
    go_enter Try.func43, Try.ntmps43
    go_wp2
    go_ret
    exact ⟨by simp, (Ext.refl _).alloc _⟩
  · by_cases h1 : st = 1
    · subst h1
      go_enter Try.func43, Try.ntmps43
      go_wp2
      go_ret
      exact ⟨by simp, (Ext.refl _).alloc _⟩
    · go_enter Try.func43, Try.ntmps43
      go_wp2
      go_ret
      exact ⟨by simp [h1, h2], (Ext.refl _).alloc _⟩
end Go.Proofs.Ythenclenabcmgaa
namespace Go.Proofs.Ythenclenabcmgaa
open Go.RowKit Go.Sort
set_option maxHeartbeats 400000

/-- Left (23.3). -/
def leftI (st dl now : Int) : Int := if st = 1 ∧ liveB st dl now = true ∧ tickB dl = true ∧ tickB now = true then dl - now else 0

/-- Some integer of a range is returned, and the world is as it was. -/
def RetIn (lo hi : Int) (w : World) (e : Ending) (w' : World) : Prop := ∃ n, lo ≤ n ∧ n ≤ hi ∧ e = .returned (.int .i64 n) ∧ w = w'

end Go.Proofs.Ythenclenabcmgaa
namespace Go.Proofs.Ythenclenabcmgaa
open Go.RowKit Go.Sort
set_option maxHeartbeats 400000

/-- A record's four fields. -/
structure Rc where
  st : Int
  ow : Int
  nm : ByteArray
  dl : Int
instance : Inhabited Rc := ⟨⟨0, 0, ⟨#[]⟩, 0⟩⟩
def Rc.cells (r : Rc) : List Value := [.int .i64 r.st, .int .i64 r.ow, .string r.nm, .int .i64 r.dl]
/-- The value is a slice whose elements are these records. -/
def Recs (w : World) (v : Value) (rs : List Rc) : Prop :=
  ∃ (a : Option Addr) (cap : Nat), v = .slice a rs.length cap ∧ rs.length ≤ maxLen ∧ ∀ k, k < rs.length → ∃ g, a = some ⟨g, 0, none⟩ ∧ g < w.heap.size ∧
    w.cell? ⟨g, k * 4, none⟩ = some (.int .i64 (rs.getD k default).st) ∧ w.cell? ⟨g, k * 4 + 1, none⟩ = some (.int .i64 (rs.getD k default).ow) ∧
    w.cell? ⟨g, k * 4 + 2, none⟩ = some (.string (rs.getD k default).nm) ∧ w.cell? ⟨g, k * 4 + 3, none⟩ = some (.int .i64 (rs.getD k default).dl)
theorem Recs.ext {w w' : World} {v : Value} {rs : List Rc} (h : Recs w v rs) (x : Ext w w') : Recs w' v rs := by
  obtain ⟨a, cap, h1, h2, h3⟩ := h
  refine ⟨a, cap, h1, h2, fun k hk => ?_⟩
  obtain ⟨g, ha, hg, c0, c1, c2, c3⟩ := h3 k hk
  refine ⟨g, ha, Nat.lt_of_lt_of_le hg x.size, (x.cell hg).trans c0, (x.cell hg).trans c1, (x.cell hg).trans c2, (x.cell hg).trans c3⟩

/-- One record's part in Soonest (23.4). -/
def soonStep (now : Int) (p : Int × Bool) (r : Rc) : Int × Bool := if r.st = 1 ∧ liveB r.st r.dl now = true ∧ (p.2 = false ∨ r.dl < p.1) then (r.dl, true) else p
def soon (now : Int) (rs : List Rc) : Int × Bool := rs.foldl (soonStep now) (0, false)
theorem take_next (rs : List Rc) {k : Nat} (h : k < rs.length) : rs.take (k + 1) = rs.take k ++ [rs.getD k default] := by
  rw [List.take_add_one, List.getD_eq_getElem?_getD, List.getElem?_eq_getElem h]; rfl
theorem soon_next (now : Int) (rs : List Rc) {k : Nat} (h : k < rs.length) : soon now (rs.take (k + 1)) = soonStep now (soon now (rs.take k)) (rs.getD k default) := by
  rw [take_next rs h]; simp [soon]

end Go.Proofs.Ythenclenabcmgaa
namespace Go.Proofs.Ythenclenabcmgaa
open Go.RowKit Go.Sort
set_option maxHeartbeats 400000

def byteAt (s : ByteArray) (k : Nat) : Int := if h : k < s.size then (s[k].toNat : Int) else 0
/-- One byte's part in the sum. -/
def sumStep (y b : Int) : Int := bits BinOp.xor IntKind.u32 y (b % 4294967296) * 16777619 % 4294967296
def sumU (s : ByteArray) : Nat → Int
  | 0 => 2166136261
  | k + 1 => sumStep (sumU s k) (byteAt s k)
def sumI (s : ByteArray) : Int := sumU s s.size
theorem sumU_bd (s : ByteArray) (k : Nat) : 0 ≤ sumU s k ∧ sumU s k < 4294967296 := by
  cases k with
  | zero => simp [sumU]
  | succ k => unfold sumU sumStep; omega
theorem sumI_bd (s : ByteArray) : 0 ≤ sumI s ∧ sumI s < 4294967296 := sumU_bd s _
theorem sum_wrap (s : ByteArray) : wrap64 (sumI s) = sumI s := by
  have := sumI_bd s
  unfold wrap64; omega
def homeI (s : ByteArray) (n : Int) : Int := if n < 1 then 0 else (sumI s).tmod n
theorem und_str : Try.prog.underlying 9 = some .string := by kernel_rfl
theorem und_byte : Try.prog.underlying 5 = some (.int .u8) := by kernel_rfl
theorem bytes_cell (w : World) (s : ByteArray) (c : Nat) (e : TypeId) (f : Nat × Nat) {k : Nat} (hk : k < s.size) : (w.alloc (.cells (bytesRow s c) e f)).drew.cell? ⟨w.heap.size, k, none⟩ = some (.int .u8 (byteAt s k)) := by
  have h1 : (w.alloc (.cells (bytesRow s c) e f)).drew.heap[w.heap.size]? = some (.cells (bytesRow s c) e f) := heap_alloc_new w _
  have h2 : k < s.data.size := hk
  have h3 : (bytesRow s c)[k]? = some (.int .u8 (byteAt s k)) := by
    unfold bytesRow byteAt
    rw [Array.getElem?_append_left (by simpa using h2), dif_pos hk]
    simp
    exact ⟨_, Array.getElem?_eq_getElem h2, rfl⟩
  simp only [World.cell?, h1]
  exact h3

end Go.Proofs.Ythenclenabcmgaa
namespace Go.Proofs.Ythenclenabcmgaa
/-- Strictly ascending. -/
def Asc (l : List (List UInt8)) : Prop := l.Pairwise (fun a b => a < b)
theorem lt_of_le_ne {a b : List UInt8} (h : a ≤ b) (hne : a ≠ b) : a < b := by
  rcases List.le_iff_lt_or_eq.1 h with h | h
  · exact h
  · exact absurd h hne
theorem asc_unique : ∀ {a b : List (List UInt8)}, Asc a → Asc b → (∀ x, x ∈ a ↔ x ∈ b) → a = b
  | [], [], _, _, _ => rfl
  | [], y :: b, _, _, h => absurd ((h y).2 (by simp)) (by simp)
  | x :: a, [], _, _, h => absurd ((h x).1 (by simp)) (by simp)
  | x :: a, y :: b, ha, hb, h => by
    obtain ⟨ha1, ha2⟩ := List.pairwise_cons.1 ha
    obtain ⟨hb1, hb2⟩ := List.pairwise_cons.1 hb
    have hxy : x = y := by
      have h1 := (h x).1 (by simp)
      have h2 := (h y).2 (by simp)
      rcases List.mem_cons.1 h1 with e | m
      · exact e
      · rcases List.mem_cons.1 h2 with e | m2
        · exact e.symm
        · exact absurd (List.lt_trans (ha1 y m2) (hb1 x m)) (List.lt_irrefl _)
    subst hxy
    rw [asc_unique ha2 hb2 fun z => ⟨fun hz => ?_, fun hz => ?_⟩]
    · rcases List.mem_cons.1 ((h z).1 (List.mem_cons_of_mem _ hz)) with e | m
      · subst e; exact absurd (ha1 _ hz) (List.lt_irrefl _)
      · exact m
    · rcases List.mem_cons.1 ((h z).2 (List.mem_cons_of_mem _ hz)) with e | m
      · subst e; exact absurd (hb1 _ hz) (List.lt_irrefl _)
      · exact m
theorem asc_sort {l : List (List UInt8)} (h : l.Nodup) : Asc (l.mergeSort fun x y => decide (x ≤ y)) := by
  have h1 := List.pairwise_mergeSort (le := fun x y : List UInt8 => decide (x ≤ y)) (fun a b c ha hb => by simpa using List.le_trans (by simpa using ha) (by simpa using hb)) (fun a b => by simpa using List.le_total a b) l
  have h2 : (l.mergeSort fun x y => decide (x ≤ y)).Nodup := (List.mergeSort_perm l _).nodup_iff.2 h
  refine (h1.and h2).imp ?_
  intro a b hab
  exact lt_of_le_ne (by simpa using hab.1) hab.2
theorem mem_sort {l : List (List UInt8)} {x : List UInt8} : x ∈ (l.mergeSort fun x y => decide (x ≤ y)) ↔ x ∈ l := (List.mergeSort_perm l _).mem_iff
/-- What Insert makes of an ascending list. -/
theorem asc_insert {l : List (List UInt8)} {s : List UInt8} (h : Asc l) (hs : s ∉ l) {i : Nat} (hi : i ≤ l.length) (hlo : ∀ (hp : 0 < i), l[i - 1]'(by omega) ≤ s) (hhi : ∀ (hp : i < l.length), s < l[i]) : Asc (l.take i ++ s :: l.drop i) := by
  unfold Asc at h ⊢
  have hsp := List.pairwise_append.1 (by rw [List.take_append_drop i l]; exact h : (l.take i ++ l.drop i).Pairwise _)
  obtain ⟨h1, h2, h3⟩ := hsp
  have hlow : ∀ a ∈ l.take i, a < s := by
    intro a ha
    obtain ⟨j, hj, rfl⟩ := List.mem_take_iff_getElem.1 ha
    have hji : j < i := by omega
    have hle : l[j] ≤ s := by
      rcases Nat.lt_or_ge j (i - 1) with hlt | hge
      · have := List.pairwise_iff_getElem.1 h j (i - 1) (by omega) (by omega) hlt
        exact List.le_trans (List.le_of_lt this) (hlo (by omega))
      · have e : j = i - 1 := by omega
        subst e; exact hlo (by omega)
    exact lt_of_le_ne hle fun e => hs (e ▸ List.getElem_mem _)
  have hhigh : ∀ b ∈ l.drop i, s < b := by
    intro b hb
    obtain ⟨j, hj, rfl⟩ := List.mem_drop_iff_getElem.1 hb
    have hil : i < l.length := by omega
    rcases Nat.eq_zero_or_pos j with rfl | hp
    · exact hhi hil
    · exact List.lt_trans (hhi hil) (List.pairwise_iff_getElem.1 h i (i + j) hil (by omega) (by omega))
  refine List.pairwise_append.2 ⟨h1, List.pairwise_cons.2 ⟨hhigh, h2⟩, ?_⟩
  intro a ha b hb
  rcases List.mem_cons.1 hb with rfl | hb
  · exact hlow a ha
  · exact h3 a ha b hb
theorem mem_insert {l : List (List UInt8)} {s x : List UInt8} (i : Nat) : x ∈ l.take i ++ s :: l.drop i ↔ x = s ∨ x ∈ l := by
  constructor
  · intro h
    rcases List.mem_append.1 h with h | h
    · exact .inr (List.mem_of_mem_take h)
    · rcases List.mem_cons.1 h with rfl | h
      · exact .inl rfl
      · exact .inr (List.mem_of_mem_drop h)
  · rintro (rfl | h)
    · simp
    · rw [← List.take_append_drop i l] at h
      rcases List.mem_append.1 h with h | h
      · exact List.mem_append.2 (.inl h)
      · exact List.mem_append.2 (.inr (List.mem_cons_of_mem _ h))
end Go.Proofs.Ythenclenabcmgaa
namespace Go.Proofs.Ythenclenabcmgaa

/-- The bytes of a string as a list, and back. -/
def bs (l : List UInt8) : ByteArray := ⟨l.toArray⟩
theorem bs_list (l : List UInt8) : (bs l).data.toList = l := rfl
theorem list_bs (s : ByteArray) : bs s.data.toList = s := rfl
theorem bs_inj {a b : List UInt8} (h : bs a = bs b) : a = b := by
  have := congrArg (fun s : ByteArray => s.data.toList) h
  simpa [bs] using this
theorem bs_append (a b : List UInt8) : bs (a ++ b) = bs a ++ bs b := by
  apply ByteArray.ext
  simp [bs, ByteArray.data_append]
theorem bs_size (l : List UInt8) : (bs l).size = l.length := by simp [bs, ByteArray.size]

/-- The zigzag code of an integer. -/
def zz (v : Int) : Nat := if 0 ≤ v then (2 * v).toNat else (-2 * v - 1).toNat
def unzz (u : Nat) : Int := if u % 2 = 0 then (u / 2 : Nat) else -((u / 2 : Nat) : Int) - 1
theorem unzz_zz (v : Int) : unzz (zz v) = v := by
  unfold unzz zz
  split
  · rename_i h
    split <;> omega
  · rename_i h
    split <;> omega
theorem zz_lt {v : Int} (h1 : -9223372036854775808 ≤ v) (h2 : v ≤ 9223372036854775807) : zz v < 18446744073709551616 := by
  unfold zz; split <;> omega
theorem zz_unzz (u : Nat) : zz (unzz u) = u := by
  unfold unzz
  split
  · unfold zz; split <;> omega
  · unfold zz; split <;> omega

/-- The bytes of a code, seven bits each, the low ones first. -/
def leb (u : Nat) : List UInt8 :=
  if u < 128 then [UInt8.ofNat u] else UInt8.ofNat (u % 128 + 128) :: leb (u / 128)
termination_by u
decreasing_by omega
theorem leb_small {u : Nat} (h : u < 128) : leb u = [UInt8.ofNat u] := by rw [leb, if_pos h]
theorem leb_big {u : Nat} (h : ¬ u < 128) : leb u = UInt8.ofNat (u % 128 + 128) :: leb (u / 128) := by rw [leb, if_neg h]
theorem leb_pos (u : Nat) : 0 < (leb u).length := by
  by_cases h : u < 128
  · rw [leb_small h]; simp
  · rw [leb_big h]; simp
theorem leb_len : ∀ (k u : Nat), u < 128 ^ (k + 1) → (leb u).length ≤ k + 1
  | 0, u, h => by rw [leb_small (by simpa using h)]; simp
  | k + 1, u, h => by
    by_cases hu : u < 128
    · rw [leb_small hu]; simp
    · rw [leb_big hu]
      have : u / 128 < 128 ^ (k + 1) := by
        rw [Nat.pow_succ] at h
        exact Nat.div_lt_of_lt_mul (by omega)
      have := leb_len k _ this
      simp; omega
theorem leb_ten {u : Nat} (h : u < 18446744073709551616) : (leb u).length ≤ 10 := leb_len 9 u (by omega)
/-- The number at the beginning of some bytes, and how many they are. -/
def getB (k acc : Nat) : List UInt8 → Option (Nat × Nat)
  | [] => none
  | c :: r =>
    if k = 9 ∧ 1 < c.toNat then none
    else if 128 ≤ c.toNat then getB (k + 1) (acc + (c.toNat % 128) * 128 ^ k) r
    else if c.toNat = 0 ∧ 0 < k then none
    else some (acc + c.toNat * 128 ^ k, k + 1)
theorem u8_of {n : Nat} (h : n < 256) : (UInt8.ofNat n).toNat = n := by
  simp [UInt8.toNat_ofNat']; omega
theorem getB_leb (r : List UInt8) : ∀ (z k acc : Nat), k ≤ 9 → z * 128 ^ k < 18446744073709551616 → (0 < k → 0 < z) →
    getB k acc (leb z ++ r) = some (acc + z * 128 ^ k, k + (leb z).length) := by
  intro z
  induction z using Nat.strongRecOn with
  | _ z ih =>
    intro k acc hk hz h0
    by_cases hs : z < 128
    · rw [leb_small hs]
      have h9 : ¬ (k = 9 ∧ 1 < z) := by
        rintro ⟨rfl, h⟩
        have : 2 * 128 ^ 9 ≤ z * 128 ^ 9 := Nat.mul_le_mul_right _ h
        omega
      have hc : (UInt8.ofNat z).toNat = z := u8_of (by omega)
      simp only [List.cons_append, List.nil_append, getB, hc]
      rw [if_neg h9, if_neg (by omega), if_neg (by omega)]
      simp
    · rw [leb_big hs]
      have hm : z % 128 < 128 := Nat.mod_lt _ (by omega)
      have hc : (UInt8.ofNat (z % 128 + 128)).toNat = z % 128 + 128 := u8_of (by omega)
      have hk9 : k ≠ 9 := by
        rintro rfl
        have : 128 * 128 ^ 9 ≤ z * 128 ^ 9 := Nat.mul_le_mul_right _ (by omega)
        omega
      simp only [List.cons_append, getB, hc]
      rw [if_neg (by omega), if_pos (by omega)]
      have hd : z / 128 * 128 ^ (k + 1) ≤ z * 128 ^ k := by
        rw [Nat.pow_succ, Nat.mul_comm (128 ^ k) 128, ← Nat.mul_assoc]
        exact Nat.mul_le_mul_right _ (Nat.div_mul_le_self z 128)
      rw [ih (z / 128) (by omega) (k + 1) _ (by omega) (by omega) (fun _ => by omega)]
      have e1 : (z % 128 + 128) % 128 = z % 128 := by omega
      rw [e1]
      have e2 : z % 128 * 128 ^ k + z / 128 * 128 ^ (k + 1) = z * 128 ^ k := by
        rw [Nat.pow_succ, Nat.mul_comm (128 ^ k) 128, ← Nat.mul_assoc, ← Nat.add_mul]
        congr 1; omega
      simp only [Option.some.injEq, Prod.mk.injEq, List.length_cons]
      refine ⟨by rw [Nat.add_assoc, e2], by omega⟩
/-- What is read is bounded, and no longer than ten bytes or the bytes. -/
theorem getB_bd : ∀ (l : List UInt8) (k acc z n : Nat), k ≤ 9 → acc < 128 ^ k → getB k acc l = some (z, n) → z < 18446744073709551616 ∧ k < n ∧ n ≤ k + l.length ∧ n ≤ 10
  | [], _, _, _, _, _, _, h => by simp [getB] at h
  | c :: r, k, acc, z, n, hk, ha, h => by
    rw [getB] at h
    have hc := UInt8.toNat_lt c
    split at h
    · simp at h
    · rename_i h1
      split at h
      · rename_i h2
        have hk9 : k ≠ 9 := fun e => h1 ⟨e, by omega⟩
        have hp : acc + (c.toNat % 128) * 128 ^ k < 128 ^ (k + 1) := by
          have : c.toNat % 128 ≤ 127 := by omega
          have := Nat.mul_le_mul_right (128 ^ k) this
          rw [Nat.pow_succ]; omega
        obtain ⟨a1, a2, a3, a4⟩ := getB_bd r (k + 1) _ z n (by omega) hp h
        simp only [List.length_cons]
        exact ⟨a1, by omega, by omega, a4⟩
      · split at h
        · simp at h
        · rename_i h2 h3
          simp only [Option.some.injEq, Prod.mk.injEq] at h
          obtain ⟨rfl, rfl⟩ := h
          simp only [List.length_cons]
          refine ⟨?_, by omega, by omega, by omega⟩
          by_cases hk9 : k = 9
          · subst hk9
            have : c.toNat ≤ 1 := Nat.le_of_not_lt fun h => h1 ⟨rfl, h⟩
            have := Nat.mul_le_mul_right (128 ^ 9) this
            omega
          · have h8 : k ≤ 8 := by omega
            have : c.toNat ≤ 127 := by omega
            have := Nat.mul_le_mul_right (128 ^ k) this
            have h9 : (128 : Nat) ^ k ≤ 128 ^ 8 := Nat.pow_le_pow_right (by omega) h8
            omega
/-- The code of an integer. -/
def code (v : Int) : List UInt8 := leb (zz v)
def getI (l : List UInt8) : Option (Int × Nat) := (getB 0 0 l).map fun p => (unzz p.1, p.2)
theorem getI_code {v : Int} (h1 : -9223372036854775808 ≤ v) (h2 : v ≤ 9223372036854775807) (r : List UInt8) : getI (code v ++ r) = some (v, (code v).length) := by
  unfold getI code
  rw [getB_leb r (zz v) 0 0 (by omega) (by simpa using zz_lt h1 h2) (by omega)]
  simp [unzz_zz]
theorem code_pos (v : Int) : 0 < (code v).length := leb_pos _
theorem code_ten {v : Int} (h1 : -9223372036854775808 ≤ v) (h2 : v ≤ 9223372036854775807) : (code v).length ≤ 10 := leb_ten (zz_lt h1 h2)
theorem unzz_bd {u : Nat} (h : u < 18446744073709551616) : -9223372036854775808 ≤ unzz u ∧ unzz u ≤ 9223372036854775807 := by
  unfold unzz; split <;> omega
theorem getI_bd {l : List UInt8} {v : Int} {n : Nat} (h : getI l = some (v, n)) : -9223372036854775808 ≤ v ∧ v ≤ 9223372036854775807 ∧ 0 < n ∧ n ≤ l.length ∧ n ≤ 10 := by
  unfold getI at h
  simp only [Option.map_eq_some_iff, Prod.mk.injEq] at h
  obtain ⟨⟨z, m⟩, h1, rfl, rfl⟩ := h
  obtain ⟨a1, a2, a3, a4⟩ := getB_bd l 0 0 z m (by omega) (by simp) h1
  obtain ⟨b1, b2⟩ := unzz_bd a1
  exact ⟨b1, b2, by omega, by omega, a4⟩
end Go.Proofs.Ythenclenabcmgaa
namespace Go.Proofs.Ythenclenabcmgaa

structure Nm where
  a : ByteArray
  u : ByteArray
  k : ByteArray
structure Ent where
  cl : Int
  op : Int
  ttl : Int
  tick : Int
  names : List Nm
def timedB (op : Int) : Bool := op == 1 || op == 3
/-- Adjacent keys are ascending. -/
def srt : List Nm → Bool
  | [] => true
  | [_] => true
  | x :: y :: r => decide (x.k.data.toList < y.k.data.toList) && srt (y :: r)
def rangeB (e : Ent) : Bool :=
  decide (0 ≤ e.cl) && decide (e.cl ≤ 63) && decide (1 ≤ e.op) && decide (e.op ≤ 6) && (if timedB e.op then decide (1 ≤ e.ttl) && decide (e.ttl ≤ 1073741824) else e.ttl == 0) && decide (0 ≤ e.tick) && decide (e.tick ≤ 1073741824) && decide (1 ≤ e.names.length) && decide (e.names.length ≤ 16)
def asciiB (n : Nm) : Bool := decide (1 ≤ n.a.size) && decide (n.a.size ≤ 63)
/-- The error of an entry. -/
def checkE (e : Ent) : Int := if !rangeB e then 3 else if !srt e.names then 1 else if e.names.all asciiB then 0 else 1
/-- The sum of bytes. -/
def sumB (l : List UInt8) : Nat := (sumI (bs l)).toNat
theorem sumB_lt (l : List UInt8) : sumB l < 4294967296 := by
  have := sumI_bd (bs l)
  unfold sumB; omega
theorem sumB_int (s : ByteArray) : ((sumB s.data.toList : Nat) : Int) = sumI s := by
  have := sumI_bd s
  unfold sumB; rw [list_bs]; omega
/-- The item of a string. -/
def item (s : List UInt8) : List UInt8 := code s.length ++ s
def nameItems (n : Nm) : List UInt8 := item n.a.data.toList ++ item n.u.data.toList ++ item n.k.data.toList
def namesItems : List Nm → List UInt8
  | [] => []
  | n :: r => nameItems n ++ namesItems r
theorem namesItems_append : ∀ a b : List Nm, namesItems (a ++ b) = namesItems a ++ namesItems b
  | [], _ => rfl
  | n :: r, b => by simp [namesItems, namesItems_append r b]
def headItems (e : Ent) : List UInt8 := code e.cl ++ code e.op ++ code e.ttl ++ code e.tick ++ code (e.names.length : Nat)
def bodyE (e : Ent) : List UInt8 := headItems e ++ namesItems e.names
def wrapE (b : List UInt8) : List UInt8 := item b ++ code (sumB b : Nat)
/-- What Encode returns. -/
def encE (e : Ent) : Int × List UInt8 := if checkE e ≠ 0 then (checkE e, []) else if 4096 < (bodyE e).length then (7, []) else (0, wrapE (bodyE e))

/-! ### Reading -/
def numR (s : List UInt8) (at_ : Nat) (bad : Bool) : Int × Nat × Bool :=
  if bad then (0, at_, true) else match getI (s.drop at_) with
    | some (v, k) => (v, at_ + k, false)
    | none => (0, at_, true)
def textR (s : List UInt8) (at_ : Nat) (bad : Bool) : List UInt8 × Nat × Bool :=
  let p := numR s at_ bad
  if p.2.2 = true ∨ p.1 < 0 ∨ (s.length - p.2.1 : Nat) < p.1 then ([], p.2.1, true) else ((s.drop p.2.1).take p.1.toNat, p.2.1 + p.1.toNat, false)
theorem numR_le {s : List UInt8} {t : Nat} {b : Bool} (h : t ≤ s.length) : (numR s t b).2.1 ≤ s.length ∧ t ≤ (numR s t b).2.1 := by
  unfold numR
  split
  · exact ⟨h, Nat.le_refl _⟩
  · split
    · rename_i hg
      obtain ⟨_, _, _, h3, _⟩ := getI_bd hg
      simp at h3 ⊢; omega
    · exact ⟨h, Nat.le_refl _⟩
theorem textR_le {s : List UInt8} {t : Nat} {b : Bool} (h : t ≤ s.length) : (textR s t b).2.1 ≤ s.length ∧ t ≤ (textR s t b).2.1 := by
  obtain ⟨h1, h2⟩ := numR_le (b := b) h
  unfold textR
  simp only
  split
  · exact ⟨h1, h2⟩
  · rename_i hn
    simp only [not_or] at hn
    simp only; omega
theorem numR_bd (s : List UInt8) (t : Nat) (b : Bool) : -9223372036854775808 ≤ (numR s t b).1 ∧ (numR s t b).1 ≤ 9223372036854775807 := by
  unfold numR
  split
  · simp
  · split
    · rename_i hg
      obtain ⟨h1, h2, _⟩ := getI_bd hg
      exact ⟨h1, h2⟩
    · simp
theorem numR_code {v : Int} (h1 : -9223372036854775808 ≤ v) (h2 : v ≤ 9223372036854775807) (p r : List UInt8) : numR (p ++ (code v ++ r)) p.length false = (v, p.length + (code v).length, false) := by
  unfold numR
  rw [List.drop_left, getI_code h1 h2]
  simp
theorem numR_code' {v : Int} (h1 : -9223372036854775808 ≤ v) (h2 : v ≤ 9223372036854775807) {s : List UInt8} {t : Nat} (p r : List UInt8) (hs : s = p ++ (code v ++ r)) (ht : t = p.length) : numR s t false = (v, t + (code v).length, false) := by
  subst hs ht; exact numR_code h1 h2 p r
theorem textR_item {b : List UInt8} (hb : b.length ≤ 9223372036854775807) {s : List UInt8} {t : Nat} (p r : List UInt8) (hs : s = p ++ (item b ++ r)) (ht : t = p.length) : textR s t false = (b, t + (item b).length, false) := by
  have e : numR s t false = ((b.length : Int), t + (code (b.length : Int)).length, false) := numR_code' (by omega) (by omega) p (b ++ r) (by rw [hs, item]; simp) ht
  have hl : s.length = p.length + (code (b.length : Int)).length + b.length + r.length := by rw [hs, item]; simp; omega
  unfold textR
  rw [e]
  simp only
  rw [if_neg (by simp; omega)]
  have hd : s.drop (t + (code (b.length : Int)).length) = b ++ r := by
    rw [hs, ht, item, ← List.drop_drop, List.drop_left, List.append_assoc, List.drop_left]
  rw [hd]
  simp [item]; omega
def nameR (s : List UInt8) (t : Nat) (b : Bool) : Nm × Nat × Bool :=
  let p := textR s t b
  let q := textR s p.2.1 p.2.2
  let r := textR s q.2.1 q.2.2
  (⟨bs p.1, bs q.1, bs r.1⟩, r.2.1, r.2.2)
theorem nameR_le {s : List UInt8} {t : Nat} {b : Bool} (h : t ≤ s.length) : (nameR s t b).2.1 ≤ s.length ∧ t ≤ (nameR s t b).2.1 := by
  unfold nameR
  simp only
  have h1 := textR_le (b := b) h
  have h2 := textR_le (s := s) (b := (textR s t b).2.2) h1.1
  have h3 := textR_le (s := s) (b := (textR s (textR s t b).2.1 (textR s t b).2.2).2.2) h2.1
  exact ⟨h3.1, by omega⟩
def namesR (s : List UInt8) : Nat → Nat → Bool → List Nm × Nat × Bool
  | 0, t, b => ([], t, b)
  | n + 1, t, b => let p := nameR s t b; let q := namesR s n p.2.1 p.2.2; (p.1 :: q.1, q.2.1, q.2.2)
theorem nameR_items {n : Nm} (h1 : n.a.size ≤ 4096) (h2 : n.u.size ≤ 4096) (h3 : n.k.size ≤ 4096) {s : List UInt8} {t : Nat} (p r : List UInt8) (hs : s = p ++ (nameItems n ++ r)) (ht : t = p.length) : nameR s t false = (n, t + (nameItems n).length, false) := by
  have q1 : n.a.data.toList.length ≤ 4096 := h1
  have q2 : n.u.data.toList.length ≤ 4096 := h2
  have q3 : n.k.data.toList.length ≤ 4096 := h3
  have e1 := textR_item (b := n.a.data.toList) (s := s) (t := t) (by omega) p (item n.u.data.toList ++ item n.k.data.toList ++ r) (by rw [hs, nameItems]; simp) ht
  have e2 := textR_item (b := n.u.data.toList) (s := s) (t := t + (item n.a.data.toList).length) (by omega) (p ++ item n.a.data.toList) (item n.k.data.toList ++ r) (by rw [hs, nameItems]; simp) (by rw [ht]; simp)
  have e3 := textR_item (b := n.k.data.toList) (s := s) (t := t + (item n.a.data.toList).length + (item n.u.data.toList).length) (by omega) (p ++ item n.a.data.toList ++ item n.u.data.toList) r (by rw [hs, nameItems]; simp) (by rw [ht]; simp; omega)
  unfold nameR
  simp only [e1, e2, e3]
  simp only [Prod.mk.injEq, and_true]
  refine ⟨rfl, ?_⟩
  simp [nameItems]; omega
theorem namesR_items (s r : List UInt8) : ∀ (l : List Nm) (p : List UInt8) (t : Nat), (∀ n ∈ l, n.a.size ≤ 4096 ∧ n.u.size ≤ 4096 ∧ n.k.size ≤ 4096) → s = p ++ (namesItems l ++ r) → t = p.length → namesR s l.length t false = (l, t + (namesItems l).length, false)
  | [], p, t, _, _, _ => by simp [namesR, namesItems]
  | n :: l, p, t, h, hs, ht => by
    obtain ⟨h1, h2, h3⟩ := h n (by simp)
    have e1 := nameR_items h1 h2 h3 (s := s) (t := t) p (namesItems l ++ r) (by rw [hs, namesItems]; simp) ht
    have e2 := namesR_items s r l (p ++ nameItems n) (t + (nameItems n).length) (fun m hm => h m (by simp [hm])) (by rw [hs, namesItems]; simp) (by rw [ht]; simp)
    simp only [List.length_cons, namesR, e1, e2, namesItems, List.length_append]
    simp; omega
/-- The numbers at the beginning of a body. -/
structure Head where
  cl : Int
  op : Int
  ttl : Int
  tick : Int
  n : Int
  at_ : Nat
  bad : Bool
def headR (s : List UInt8) : Head :=
  let a := numR s 0 false
  let b := numR s a.2.1 a.2.2
  let c := numR s b.2.1 b.2.2
  let d := numR s c.2.1 c.2.2
  let e := numR s d.2.1 d.2.2
  ⟨a.1, b.1, c.1, d.1, e.1, e.2.1, e.2.2⟩
theorem headR_le (s : List UInt8) : (headR s).at_ ≤ s.length := by
  unfold headR
  simp only
  exact (numR_le (numR_le (numR_le (numR_le (numR_le (Nat.zero_le _)).1).1).1).1).1
theorem headR_items {e : Ent} (h1 : I64 e.cl) (h2 : I64 e.op) (h3 : I64 e.ttl) (h4 : I64 e.tick) (h5 : e.names.length ≤ 16) {s : List UInt8} (r : List UInt8) (hs : s = headItems e ++ r) : headR s = ⟨e.cl, e.op, e.ttl, e.tick, e.names.length, (headItems e).length, false⟩ := by
  have e1 := numR_code' h1.1 h1.2 (s := s) (t := 0) [] (code e.op ++ code e.ttl ++ code e.tick ++ code (e.names.length : Nat) ++ r) (by rw [hs, headItems]; simp) rfl
  have e2 := numR_code' h2.1 h2.2 (s := s) (t := 0 + (code e.cl).length) (code e.cl) (code e.ttl ++ code e.tick ++ code (e.names.length : Nat) ++ r) (by rw [hs, headItems]; simp) (by simp)
  have e3 := numR_code' h3.1 h3.2 (s := s) (t := 0 + (code e.cl).length + (code e.op).length) (code e.cl ++ code e.op) (code e.tick ++ code (e.names.length : Nat) ++ r) (by rw [hs, headItems]; simp) (by simp)
  have e4 := numR_code' h4.1 h4.2 (s := s) (t := 0 + (code e.cl).length + (code e.op).length + (code e.ttl).length) (code e.cl ++ code e.op ++ code e.ttl) (code (e.names.length : Nat) ++ r) (by rw [hs, headItems]; simp) (by simp; omega)
  have e5 := numR_code' (v := (e.names.length : Nat)) (by omega) (by omega) (s := s) (t := 0 + (code e.cl).length + (code e.op).length + (code e.ttl).length + (code e.tick).length) (code e.cl ++ code e.op ++ code e.ttl ++ code e.tick) r (by rw [hs, headItems]; simp) (by simp; omega)
  unfold headR
  simp only [e1, e2, e3, e4, e5]
  simp only [Head.mk.injEq, true_and, and_true]
  simp [headItems]; omega
/-- The entry in a body, as the program reads it. -/
def entP (s : List UInt8) : Option Ent :=
  let h := headR s
  if 1 ≤ h.n ∧ h.n ≤ 16 then
    let q := namesR s h.n.toNat h.at_ h.bad
    if q.2.2 then none else some ⟨h.cl, h.op, h.ttl, h.tick, q.1⟩
  else none
/-- The first entry of a journal and its bytes: e's encoding is the beginning of s. -/
def FirstIs (s : List UInt8) (e : Ent) (n : Nat) : Prop := ∃ x, encE e = (0, x) ∧ x <+: s ∧ n = x.length
structure Fits (e : Ent) : Prop where
  cl : I64 e.cl
  op : I64 e.op
  ttl : I64 e.ttl
  tick : I64 e.tick
  len : e.names.length ≤ 16
  pos : 1 ≤ e.names.length
  names : ∀ n ∈ e.names, n.a.size ≤ 4096 ∧ n.u.size ≤ 4096 ∧ n.k.size ≤ 4096
  body : (bodyE e).length ≤ 4096
theorem namesItems_len {n : Nm} : ∀ {l : List Nm}, n ∈ l → n.a.size + n.u.size + n.k.size ≤ (namesItems l).length
  | m :: l, h => by
    rcases List.mem_cons.1 h with rfl | h
    · simp only [namesItems, nameItems, item, List.length_append]
      show n.a.data.toList.length + n.u.data.toList.length + n.k.data.toList.length ≤ _
      omega
    · have := namesItems_len h
      simp only [namesItems, List.length_append]; omega
theorem enc_fits {e : Ent} {x : List UInt8} (h : encE e = (0, x)) : Fits e ∧ x = wrapE (bodyE e) ∧ checkE e = 0 := by
  unfold encE at h
  split at h
  · rename_i hc; simp only [Prod.mk.injEq] at h; exact absurd h.1 hc
  · rename_i hc
    split at h
    · simp at h
    · rename_i hb
      simp only [Prod.mk.injEq, true_and] at h
      simp only [Decidable.not_not] at hc
      have hr : rangeB e = true := by
        cases hr : rangeB e with
        | true => rfl
        | false => unfold checkE at hc; rw [hr] at hc; simp at hc
      simp only [rangeB, Bool.and_eq_true, decide_eq_true_eq] at hr
      obtain ⟨⟨⟨⟨⟨⟨⟨⟨a1, a2⟩, a3⟩, a4⟩, a5⟩, a6⟩, a7⟩, a8⟩, a9⟩ := hr
      have ht : I64 e.ttl := by
        split at a5
        · simp only [Bool.and_eq_true, decide_eq_true_eq] at a5
          exact ⟨by omega, by omega⟩
        · simp only [beq_iff_eq] at a5; rw [a5]; exact ⟨by omega, by omega⟩
      refine ⟨⟨⟨by omega, by omega⟩, ⟨by omega, by omega⟩, ht, ⟨by omega, by omega⟩, a9, a8, fun n hn => ?_, by omega⟩, h.symm, hc⟩
      have := namesItems_len hn
      have hl : (namesItems e.names).length ≤ (bodyE e).length := by simp [bodyE]
      omega
theorem entP_body {e : Ent} (f : Fits e) : entP (bodyE e) = some e := by
  have h := headR_items f.cl f.op f.ttl f.tick f.len (s := bodyE e) (namesItems e.names) rfl
  have hn := namesR_items (bodyE e) [] e.names (headItems e) (headItems e).length f.names (by simp [bodyE]) rfl
  unfold entP
  simp only [h]
  have h1 := f.pos
  have h2 := f.len
  rw [if_pos ⟨by omega, by omega⟩]
  simp only [Int.toNat_natCast, hn]
  rfl
theorem wrap_text {e : Ent} (f : Fits e) (r : List UInt8) : textR (wrapE (bodyE e) ++ r) 0 false = (bodyE e, (item (bodyE e)).length, false) ∧ numR (wrapE (bodyE e) ++ r) (item (bodyE e)).length false = (((sumB (bodyE e) : Nat) : Int), (wrapE (bodyE e)).length, false) := by
  have hb := f.body
  have hs := sumB_lt (bodyE e)
  constructor
  · have := textR_item (b := bodyE e) (s := wrapE (bodyE e) ++ r) (t := 0) (by omega) [] (code (sumB (bodyE e) : Nat) ++ r) (by simp [wrapE]) rfl
    simpa using this
  · have := numR_code' (v := (sumB (bodyE e) : Nat)) (by omega) (by omega) (s := wrapE (bodyE e) ++ r) (t := (item (bodyE e)).length) (item (bodyE e)) r (by simp [wrapE]) rfl
    rw [this]; simp [wrapE]
/-- What the program finds first. -/
def firstP (s : List UInt8) : Option (Ent × Nat) :=
  let b := textR s 0 false
  let c := numR s b.2.1 b.2.2
  if c.2.2 then none else match entP b.1 with
    | none => none
    | some e => if encE e = (0, s.take c.2.1) then some (e, c.2.1) else none
theorem firstP_of {s : List UInt8} {e : Ent} {n : Nat} (h : firstP s = some (e, n)) : FirstIs s e n := by
  unfold firstP at h
  simp only at h
  split at h
  · simp at h
  · split at h
    · simp at h
    · split at h
      · rename_i he
        simp only [Option.some.injEq, Prod.mk.injEq] at h
        obtain ⟨rfl, rfl⟩ := h
        refine ⟨_, he, List.take_prefix _ _, ?_⟩
        have := (numR_le (s := s) (b := (textR s 0 false).2.2) (textR_le (s := s) (b := false) (Nat.zero_le _)).1).1
        rw [List.length_take]; omega
      · simp at h
theorem firstP_is {s : List UInt8} {e : Ent} {n : Nat} (h : FirstIs s e n) : firstP s = some (e, n) := by
  obtain ⟨x, he, ⟨r, rfl⟩, rfl⟩ := h
  obtain ⟨f, rfl, _⟩ := enc_fits he
  obtain ⟨h1, h2⟩ := wrap_text f r
  unfold firstP
  simp only [h1, h2, entP_body f]
  rw [List.take_left, he]
  simp
theorem first_one {s : List UInt8} {e e' : Ent} {n n' : Nat} (h : FirstIs s e n) (k : FirstIs s e' n') : e = e' ∧ n = n' := by
  have := (firstP_is h).symm.trans (firstP_is k)
  simpa using this
/-- The names, as the reference reads them: it stops where one is not in order, and behind seventeen. -/
def namesS (s : List UInt8) : Nat → Nat → Bool → List Nm × Nat × Bool
  | 0, t, b => ([], t, b)
  | n + 1, t, b => if b then ([], t, b) else let p := nameR s t b; let q := namesS s n p.2.1 p.2.2; (p.1 :: q.1, q.2.1, q.2.2)
theorem namesS_ok (s : List UInt8) : ∀ (n t : Nat) (b : Bool), (namesS s n t b).2.2 = false → namesS s n t b = namesR s n t b ∧ b = false
  | 0, _, _, h => ⟨rfl, h⟩
  | n + 1, t, b, h => by
    cases b with
    | true => rw [namesS, if_pos rfl] at h; simp at h
    | false =>
      rw [namesS, if_neg (by simp)] at h ⊢
      simp only at h ⊢
      obtain ⟨h1, h2⟩ := namesS_ok s n _ _ h
      rw [h1]
      exact ⟨by rw [namesR], trivial⟩
theorem namesR_bad (s : List UInt8) : ∀ (n t : Nat), (namesR s n t true).2.2 = true
  | 0, _ => rfl
  | n + 1, t => by
    rw [namesR]
    simp only
    have : (nameR s t true).2.2 = true := by simp [nameR, textR, numR]
    rw [this]
    exact namesR_bad s n _
theorem namesS_of (s : List UInt8) : ∀ (n t : Nat) (b : Bool), (namesR s n t b).2.2 = false → namesS s n t b = namesR s n t b
  | 0, t, b, _ => rfl
  | n + 1, t, b, h => by
    cases b with
    | true => rw [namesR_bad] at h; simp at h
    | false =>
      rw [namesS, if_neg (by simp), namesR]
      rw [namesR] at h
      simp only at h ⊢
      rw [namesS_of s n _ _ h]
theorem namesR_len (s : List UInt8) : ∀ (n t : Nat) (b : Bool), (namesR s n t b).1.length = n
  | 0, _, _ => rfl
  | n + 1, t, b => by rw [namesR]; simp [namesR_len s n]
/-- How many rounds the reference reads. -/
def rounds (n : Int) : Nat := min n.toNat 17
/-- What the reference finds first. -/
def firstS (s : List UInt8) : Option (Ent × Nat) :=
  let b := textR s 0 false
  if b.2.2 then none else
    let h := headR b.1
    let q := namesS b.1 (rounds h.n) h.at_ h.bad
    let e : Ent := ⟨h.cl, h.op, h.ttl, h.tick, q.1⟩
    if q.2.2 = false ∧ (encE e).1 = 0 ∧ (encE e).2 <+: s then some (e, (encE e).2.length) else none
theorem firstS_of {s : List UInt8} {e : Ent} {n : Nat} (h : firstS s = some (e, n)) : FirstIs s e n := by
  unfold firstS at h
  simp only at h
  split at h
  · simp at h
  · split at h
    · rename_i hc
      simp only [Option.some.injEq, Prod.mk.injEq] at h
      obtain ⟨rfl, rfl⟩ := h
      exact ⟨_, Prod.ext hc.2.1 rfl, hc.2.2, rfl⟩
    · simp at h
theorem firstS_is {s : List UInt8} {e : Ent} {n : Nat} (h : FirstIs s e n) : firstS s = some (e, n) := by
  obtain ⟨x, he, ⟨r, rfl⟩, rfl⟩ := h
  obtain ⟨f, rfl, _⟩ := enc_fits he
  obtain ⟨h1, h2⟩ := wrap_text f r
  have hh := headR_items f.cl f.op f.ttl f.tick f.len (s := bodyE e) (namesItems e.names) rfl
  have hn := namesR_items (bodyE e) [] e.names (headItems e) (headItems e).length f.names (by simp [bodyE]) rfl
  have hr : rounds (e.names.length : Int) = e.names.length := by
    have := f.len
    unfold rounds; omega
  have hS : namesS (bodyE e) e.names.length (headItems e).length false = (e.names, (headItems e).length + (namesItems e.names).length, false) := by
    rw [namesS_of _ _ _ _ (by rw [hn]), hn]
  unfold firstS
  simp only [h1, hh, hr, hS, he]
  simp [List.prefix_append]
theorem firstP_none {s : List UInt8} (h : firstP s = none) (e : Ent) (n : Nat) : ¬ FirstIs s e n := fun k => by rw [firstP_is k] at h; simp at h
theorem firstS_eq (s : List UInt8) : firstS s = firstP s := by
  cases h : firstP s with
  | some p => exact firstS_is (firstP_of h)
  | none =>
    cases k : firstS s with
    | none => rfl
    | some p => exact absurd (firstS_of k) (firstP_none h _ _)
theorem wrap_pos (b : List UInt8) : 0 < (wrapE b).length := by
  have := code_pos (sumB b : Nat)
  simp [wrapE]; omega
theorem first_pos {s : List UInt8} {e : Ent} {n : Nat} (h : FirstIs s e n) : 0 < n ∧ n ≤ s.length := by
  obtain ⟨x, he, hp, rfl⟩ := h
  obtain ⟨_, rfl, _⟩ := enc_fits he
  exact ⟨wrap_pos _, hp.length_le⟩
/-- The entries at the beginning of a journal (at most k), and the number of their bytes. -/
def readF : Nat → List UInt8 → List Ent × Nat
  | 0, _ => ([], 0)
  | k + 1, s => match firstP s with
    | none => ([], 0)
    | some (e, n) => let q := readF k (s.drop n); (e :: q.1, n + q.2)
def readJ (s : List UInt8) : List Ent × Nat := readF 4096 s
/-- What Append returns. -/
def appJ (s : List UInt8) (e : Ent) : Int × List UInt8 :=
  if (encE e).1 ≠ 0 then ((encE e).1, []) else
    if 4096 ≤ (readJ s).1.length ∨ 32768 < (readJ s).2 + (encE e).2.length then (7, []) else (0, s.take (readJ s).2 ++ (encE e).2)
theorem readF_le : ∀ (k : Nat) (s : List UInt8), (readF k s).2 ≤ s.length ∧ (readF k s).1.length ≤ k
  | 0, _ => by simp [readF]
  | k + 1, s => by
    rw [readF]
    split
    · simp
    · rename_i e n h
      obtain ⟨h1, h2⟩ := first_pos (firstP_of h)
      obtain ⟨h3, h4⟩ := readF_le k (s.drop n)
      rw [List.length_drop] at h3
      simp only [List.length_cons]
      exact ⟨by omega, by omega⟩
/-- One more round of reading. -/
theorem readF_step {k : Nat} {s : List UInt8} {e : Ent} {n : Nat} (h : FirstIs s e n) : readF (k + 1) s = (e :: (readF k (s.drop n)).1, n + (readF k (s.drop n)).2) := by
  rw [readF, firstP_is h]
theorem readF_stop {k : Nat} {s : List UInt8} (h : ∀ e n, ¬ FirstIs s e n) : readF k s = ([], 0) := by
  cases k with
  | zero => rfl
  | succ k =>
    rw [readF]
    cases hp : firstP s with
    | none => rfl
    | some p => exact absurd (firstP_of hp) (h _ _)
/-- The bytes of entries. -/
def bytesE : List Ent → List UInt8
  | [] => []
  | e :: r => (encE e).2 ++ bytesE r
theorem bytesE_append : ∀ a b : List Ent, bytesE (a ++ b) = bytesE a ++ bytesE b
  | [], _ => rfl
  | e :: r, b => by simp [bytesE, bytesE_append r b]
theorem not_first_nil (e : Ent) (n : Nat) : ¬ FirstIs [] e n := fun h => by
  have := first_pos h
  simp at this; omega
theorem firstIs_enc {e : Ent} (h : (encE e).1 = 0) (r : List UInt8) : FirstIs ((encE e).2 ++ r) e (encE e).2.length :=
  ⟨_, Prod.ext h rfl, List.prefix_append _ _, rfl⟩
/-- All that was written is read again. -/
theorem readF_bytes : ∀ (l : List Ent) (k : Nat) (r : List UInt8), l.length ≤ k → (∀ e ∈ l, (encE e).1 = 0) → readF k (bytesE l ++ r) = (l ++ (readF (k - l.length) r).1, (bytesE l).length + (readF (k - l.length) r).2)
  | [], k, r, _, _ => by simp [bytesE]
  | e :: l, 0, _, h, _ => by simp at h
  | e :: l, k + 1, r, h, he => by
    have h1 := firstIs_enc (he e (by simp)) (bytesE l ++ r)
    rw [bytesE, List.append_assoc, readF_step h1, List.drop_left, readF_bytes l k r (by simpa using h) (fun x hx => he x (by simp [hx]))]
    simp [Nat.add_sub_add_right]; omega
/-- A beginning of a code that is not the whole has no first entry. -/
theorem cut_none {e : Ent} (h : (encE e).1 = 0) {k : Nat} (hk : k < (encE e).2.length) (e' : Ent) (n : Nat) : ¬ FirstIs ((encE e).2.take k) e' n := fun h' => by
  obtain ⟨x, hx, hp, rfl⟩ := h'
  have hq : x <+: (encE e).2 := hp.trans (List.take_prefix _ _)
  have h1 : FirstIs (encE e).2 e' x.length := ⟨x, hx, hq, rfl⟩
  have h2 : FirstIs (encE e).2 e (encE e).2.length := by simpa using firstIs_enc h []
  have := (first_one h1 h2).2
  have hl := hp.length_le
  rw [List.length_take] at hl
  omega
/-- What is read of a journal that is cut: the entries that are complete. -/
theorem read_cut : ∀ (l : List Ent) (k c : Nat), l.length ≤ k → (∀ e ∈ l, (encE e).1 = 0) → c ≤ (bytesE l).length →
    ∃ m, m ≤ l.length ∧ readF k ((bytesE l).take c) = (l.take m, (bytesE (l.take m)).length) ∧ (bytesE (l.take m)).length ≤ c ∧ (∀ e, l[m]? = some e → c < (bytesE (l.take m)).length + (encE e).2.length)
  | [], k, c, _, _, _ => ⟨0, Nat.le_refl _, by simp [bytesE, readF_stop not_first_nil], by simp [bytesE], by simp⟩
  | e :: l, 0, _, h, _, _ => by simp at h
  | e :: l, k + 1, c, h, he, hc => by
    have h0 := he e (by simp)
    by_cases hcl : c < (encE e).2.length
    · refine ⟨0, Nat.zero_le _, ?_, by simp [bytesE], ?_⟩
      · rw [bytesE, List.take_append_of_le_length (by omega)]
        simp [readF_stop (cut_none h0 hcl), bytesE]
      · simp only [List.getElem?_cons_zero, Option.some.injEq, List.take_zero, bytesE, List.length_nil, Nat.zero_add]
        rintro _ rfl
        exact hcl
    · obtain ⟨m, h1, h2, h3, h4⟩ := read_cut l k (c - (encE e).2.length) (by simpa using h) (fun x hx => he x (by simp [hx])) (by rw [bytesE, List.length_append] at hc; omega)
      have ht : (bytesE (e :: l)).take c = (encE e).2 ++ (bytesE l).take (c - (encE e).2.length) := by
        rw [bytesE, List.take_append, List.take_of_length_le (by omega)]
      refine ⟨m + 1, by simpa using h1, ?_, ?_, ?_⟩
      · rw [ht, readF_step (firstIs_enc h0 _), List.drop_left, h2]
        simp [bytesE]
      · rw [List.take_succ_cons, bytesE, List.length_append]; omega
      · intro x hx
        rw [List.getElem?_cons_succ] at hx
        have := h4 x hx
        rw [List.take_succ_cons, bytesE, List.length_append]; omega
end Go.Proofs.Ythenclenabcmgaa
namespace Go.Proofs.Ythenclenabcmgaa
open Go.RowKit Go.Sort
set_option maxHeartbeats 1000000

theorem add_block (a : Addr) (n : Nat) : (a.add n).block = a.block := by unfold Addr.add; split <;> rfl
theorem spot_zero {w : World} {a : Addr} {v : Value} (h : w.cell? (a.add 0) = some v) : a.spot = none := by simpa [Addr.add] using World.cell?_spot h
theorem chg_set (w : World) (b k k' : Nat) (u : Value) : Chg (· = b) w (((w.drewN k).setCell ⟨b, 1, none⟩ u).drewN k') :=
  Chg.drewN (Chg.setCell (S := (· = b)) (p := ⟨b, 1, none⟩) (Chg.drewN (Chg.refl _ w) k) (.inl rfl) u) k'
end Go.Proofs.Ythenclenabcmgaa
namespace Go.Proofs.Ythenclenabcmgaa
open Go.RowKit Go.Sort

end Go.Proofs.Ythenclenabcmgaa
namespace Go.Proofs.Ythenclenabcmgaa
open Go.RowKit Go.Sort
set_option maxHeartbeats 1000000

/-- The first len cells behind a are integers. -/
def RowIn (w : World) (a : Option Addr) (len : Nat) : Prop := len ≤ maxLen ∧ (0 < len → ∃ x, a = some x ∧ x.block < w.heap.size ∧ ∀ j, j < len → ∃ z, w.cell? (x.add j) = some (.int .i64 z) ∧ I64 z)
theorem RowIn.of_row {w : World} {a : Option Addr} {len cap : Nat} {zs : List Int} (h : IsRow .i64 w a len cap zs) : RowIn w a len := by
  refine ⟨?_, fun hl => ?_⟩
  · rcases h with ⟨_, rfl, _⟩ | ⟨x, _, h1, h2, _⟩
    · unfold maxLen; omega
    · omega
  · rcases h with ⟨_, rfl, _⟩ | ⟨x, rfl, h1, h2, h3, h4, h5⟩
    · omega
    · have hc : ∀ j, j < len → x.block < w.heap.size ∧ w.cell? (x.add j) = some (.int .i64 (zs.getD j 0)) := fun j hj => by
        have hc := h4 j (by omega)
        refine ⟨?_, hc⟩
        have hb : (x.add j).block < w.heap.size := by
          rcases Nat.lt_or_ge (x.add j).block w.heap.size with hlt | hge
          · exact hlt
          · simp [World.cell?, Array.getElem?_eq_none hge] at hc
        rwa [add_block] at hb
      refine ⟨x, rfl, (hc 0 hl).1, fun j hj => ⟨zs.getD j 0, (hc j hj).2, ?_⟩⟩
      have hj' : j < zs.length := by omega
      rw [List.getD_eq_getElem?_getD, List.getElem?_eq_getElem hj', Option.getD_some]
      exact i64_of_wf (h5 _ (List.getElem_mem hj'))
/-- Block g holds these four cells, and they may be written. -/
def RecAt (wx : World) (g : Nat) (st ow dl : Int) (nm : ByteArray) : Prop :=
  wx.cell? ⟨g, 0, none⟩ = some (.int .i64 st) ∧ wx.cell? ⟨g, 1, none⟩ = some (.int .i64 ow) ∧ wx.cell? ⟨g, 2, none⟩ = some (.string nm) ∧ wx.cell? ⟨g, 3, none⟩ = some (.int .i64 dl) ∧ ∀ i, wx.frozen? ⟨g, i, none⟩ = false
theorem wrap_dl (u : Nat) (h : u < 40) : IntKind.i64.wrap (1 + (u : Int)) = 1 + (u : Int) := IntWalk.i64_in _ (by omega)
/-- Some record is returned, whose numbers a Go int holds and whose name is short; nothing that was there has changed. -/
def SomeRec (w : World) (e : Ending) (w' : World) : Prop := ∃ (st ow dl : Int) (nm : ByteArray), 0 ≤ st ∧ st < 3 ∧ 0 ≤ ow ∧ ow < 4 ∧ -1 ≤ dl ∧ dl ≤ 40 ∧ nm.size ≤ 3 ∧ e = .returned (.agg #[.int .i64 st, .int .i64 ow, .string nm, .int .i64 dl]) ∧ Ext w w'
theorem ex_size (k : Nat) : ((⟨#[97, 98, 99]⟩ : ByteArray).extract k 3).size ≤ 3 := by simp; omega
end Go.Proofs.Ythenclenabcmgaa
namespace Go.Proofs.Ythenclenabcmgaa
open Go.RowKit Go.Sort
set_option maxHeartbeats 1000000

theorem info_rec : (Try.prog.info? 26).map (fun i => (i.zero, i.size, i.bytes)) = some (some (.agg #[.int .i64 0, .int .i64 0, .string ⟨#[]⟩, .int .i64 0]), 4, 40) := by kernel_rfl
theorem und_recs : Try.prog.underlying 76 = some (.slice 26) := by kernel_rfl

theorem Ext.grownN {a w : World} (h : Ext a w) : a.grownBy w none := by
  have g := h.chg (fun _ => False)
  exact ⟨g.os, g.tape, g.output, g.size, fun k hk _ => h.block hk⟩
theorem own_ext {w w' : World} {base : Nat} {e : TypeId} {size : Nat} {v : Value} {n : Nat} {xs : List Value} (h : w.ownsRow base e size v n xs) (x : Ext w w') : w'.ownsRow base e size v n xs :=
  h.kept x.grownN (Decidable.em _)
theorem lt_of_cell {w : World} {p : Addr} {v : Value} (h : w.cell? p = some v) : p.block < w.heap.size := by
  rcases Nat.lt_or_ge p.block w.heap.size with hlt | hge
  · exact hlt
  · simp [World.cell?, Array.getElem?_eq_none hge] at h
theorem IsRow.ext {k : IntKind} {w w' : World} {a : Option Addr} {len cap : Nat} {zs : List Int} (h : IsRow k w a len cap zs) (x : Ext w w') : IsRow k w' a len cap zs := by
  rcases h with h | ⟨p, h1, h2, h3, h4, h5, h6⟩
  · exact .inl h
  · exact .inr ⟨p, h1, h2, h3, h4, fun i hi => (x.cell (lt_of_cell (h5 i hi))).trans (h5 i hi), h6⟩
theorem IsRow.head {k : IntKind} {w : World} {a : Option Addr} {len cap : Nat} {zs : List Int} (h : IsRow k w a len cap zs) {n : Nat} (hn : n ≤ len) : IsRow k w a n cap zs := by
  rcases h with ⟨h1, h2, h3, h4⟩ | ⟨p, h1, h2, h3, h4, h5, h6⟩
  · exact .inl ⟨h1, by omega, h3, h4⟩
  · exact .inr ⟨p, h1, by omega, h3, h4, h5, h6⟩
theorem IsRow.tail {k : IntKind} {w : World} {p : Addr} {len cap : Nat} {zs : List Int} (h : IsRow k w (some p) len cap zs) {n : Nat} (hn : n ≤ len) : IsRow k w (some (p.add n)) (len - n) (cap - n) (zs.drop n) := by
  rcases h with ⟨h1, _⟩ | ⟨p', h1, h2, h3, h4, h5, h6⟩
  · simp at h1
  · simp only [Option.some.injEq] at h1
    subst h1
    refine .inr ⟨_, rfl, by omega, by omega, by simp; omega, fun i hi => ?_, fun m hm => h6 m (List.mem_of_mem_drop hm)⟩
    simp only [List.length_drop] at hi
    have hc := h5 (n + i) (by omega)
    have e : (zs.drop n).getD i 0 = zs.getD (n + i) 0 := by simp [List.getD_eq_getElem?_getD]
    have e2 : (p.add n).add i = p.add (n + i) := by
      unfold Addr.add; by_cases hi0 : i = 0 <;> by_cases hn0 : n = 0 <;> simp [hi0, hn0, Nat.add_assoc]
    rw [e, e2]; exact hc
theorem IsRow.none {k : IntKind} {w : World} (a : Option Addr) : IsRow k w a 0 0 [] := by
  cases a
  · exact .inl ⟨rfl, rfl, rfl, rfl⟩
  · exact .inr ⟨_, rfl, Nat.le_refl _, Nat.zero_le _, rfl, by simp, by simp⟩
theorem IsRow.some_of {k : IntKind} {w : World} {a : Option Addr} {len cap : Nat} {zs : List Int} (h : IsRow k w a len cap zs) (hl : 0 < len) : ∃ p, a = some p ∧ len ≤ cap ∧ cap ≤ maxLen := by
  rcases h with ⟨_, h2, _⟩ | ⟨p, h1, h2, h3, _⟩
  · omega
  · exact ⟨p, h1, h2, h3⟩
theorem IsRow.len_le {k : IntKind} {w : World} {a : Option Addr} {len cap : Nat} {zs : List Int} (h : IsRow k w a len cap zs) : len ≤ cap ∧ cap ≤ maxLen := by
  rcases h with ⟨_, h2, h3, _⟩ | ⟨p, h1, h2, h3, _⟩
  · subst h2 h3; exact ⟨Nat.le_refl _, Nat.zero_le _⟩
  · exact ⟨h2, h3⟩

theorem IsRow.zs_len {k : IntKind} {w : World} {a : Option Addr} {len cap : Nat} {zs : List Int} (h : IsRow k w a len cap zs) : zs.length = cap := by
  rcases h with ⟨_, _, h3, h4⟩ | ⟨p, _, _, _, h4, _⟩
  · subst h3 h4; rfl
  · exact h4

/-- The record's numbers are small and its name is short. -/
structure Rc.ok (r : Rc) : Prop where
  st0 : 0 ≤ r.st
  st1 : r.st < 3
  ow0 : 0 ≤ r.ow
  ow1 : r.ow < 4
  dl0 : -1 ≤ r.dl
  dl1 : r.dl ≤ 40
  nm1 : r.nm.size ≤ 3
def flatR (rs : List Rc) : List Value := rs.flatMap Rc.cells
theorem flatR_len (rs : List Rc) : (flatR rs).length = rs.length * 4 := by
  induction rs with
  | nil => rfl
  | cons r rs ih => simp [flatR, Rc.cells] at ih ⊢; omega
theorem flatR_snoc (rs : List Rc) (r : Rc) : flatR (rs ++ [r]) = flatR rs ++ r.cells := by simp [flatR]
theorem flatR_at (rs : List Rc) {k : Nat} (hk : k < rs.length) (j : Nat) (hj : j < 4) : (flatR rs)[k * 4 + j]? = (rs.getD k default).cells[j]? := by
  induction rs generalizing k with
  | nil => simp at hk
  | cons r rs ih =>
    have e : flatR (r :: rs) = r.cells ++ flatR rs := by simp [flatR]
    rw [e]
    cases k with
    | zero => rw [List.getElem?_append_left (by simp [Rc.cells]; omega)]; simp
    | succ k =>
      rw [List.getElem?_append_right (by simp [Rc.cells]; omega)]
      have := ih (k := k) (by simpa using hk)
      have e2 : (k + 1) * 4 + j - r.cells.length = k * 4 + j := by simp [Rc.cells]; omega
      rw [e2, this]; simp
theorem add_head (g n : Nat) : (⟨g, 0, none⟩ : Addr).add n = ⟨g, n, none⟩ := by
  unfold Addr.add; by_cases hn : n = 0 <;> simp [hn]
theorem own_shape {w : World} {base : Nat} {e : TypeId} {size : Nat} {v : Value} {n : Nat} {xs : List Value} (h : w.ownsRow base e size v n xs) : ∃ a c, v = .slice a n c := by
  obtain ⟨_, ⟨rfl, rfl⟩ | ⟨g, cap, _, rfl, _⟩⟩ := h
  · exact ⟨_, _, rfl⟩
  · exact ⟨_, _, rfl⟩
theorem own_le {w : World} {base : Nat} {e : TypeId} {size : Nat} {a : Option Addr} {m n c : Nat} {xs : List Value} (h : w.ownsRow base e size (.slice a m c) n xs) : c ≤ maxLen := by
  obtain ⟨_, ⟨h1, _⟩ | ⟨g, cap, _, h1, _, _, _, h2, _⟩⟩ := h
  · simp at h1; omega
  · simp at h1; omega
theorem recs_of_own {w : World} {base : Nat} {v : Value} {rs : List Rc} (h : w.ownsRow base 26 4 v rs.length (flatR rs)) : Recs w v rs := by
  have hc := fun g hg => h.cells (g := g) hg
  have hl := h.lt
  obtain ⟨hlen, ⟨hv, h0⟩ | ⟨g, cap, cur, hv, _, hb, hn, hm, _⟩⟩ := h
  · have hrs : rs = [] := List.length_eq_zero_iff.1 h0
    subst hrs
    exact ⟨none, 0, hv, Nat.zero_le _, fun k hk => by simp at hk⟩
  · refine ⟨_, cap, hv, by omega, fun k hk => ⟨g, rfl, (hl g (by rw [hv]; rfl)).2, ?_, ?_, ?_, ?_⟩⟩
    all_goals have hc := hc g (by rw [hv]; rfl)
    · have hq := hc (k * 4 + 0) _ (by rw [flatR_at rs hk 0 (by omega)]; rfl)
      rw [add_head] at hq; exact hq
    · have hq := hc (k * 4 + 1) _ (by rw [flatR_at rs hk 1 (by omega)]; rfl)
      rw [add_head] at hq; exact hq
    · have hq := hc (k * 4 + 2) _ (by rw [flatR_at rs hk 2 (by omega)]; rfl)
      rw [add_head] at hq; exact hq
    · have hq := hc (k * 4 + 3) _ (by rw [flatR_at rs hk 3 (by omega)]; rfl)
      rw [add_head] at hq; exact hq

/-- Some records are returned: at most six small ones; nothing that was there has changed. -/
def SomeRecs (w : World) (e : Ending) (w' : World) : Prop := ∃ (v : Value) (rs : List Rc), rs.length ≤ 6 ∧ (∀ r ∈ rs, r.ok) ∧ e = .returned v ∧ Recs w' v rs ∧ Ext w w'
def vLen : Value → Nat
  | .slice _ n _ => n
  | _ => 0
def RecsRel (w : World) (l v : Value) (wr : World) : Prop := ∃ (a : Option Addr) (len cap : Nat) (zs : List Int) (rs : List Rc), l = .slice a len cap ∧ IsRow .i64 w a len cap zs ∧ rs.length ≤ 6 ∧ (∀ r ∈ rs, r.ok) ∧
  wr.ownsRow w.heap.size 26 4 v rs.length (flatR rs) ∧ Ext w wr
end Go.Proofs.Ythenclenabcmgaa
namespace Go.Proofs.Ythenclenabcmgaa
open Go.RowKit Go.Sort
set_option maxHeartbeats 1000000

/-- The slice v has n elements of z cells each, the cells xs; they lie in a block of S. -/
def Rd (w : World) (S : Nat → Prop) (z : Nat) (v : Value) (n : Nat) (xs : List Value) : Prop :=
  xs.length = n * z ∧ ∃ A c, v = .slice A n c ∧ n ≤ c ∧ c ≤ maxLen ∧ (0 < n → ∃ g o, A = some ⟨g, o, none⟩ ∧ S g ∧ g < w.heap.size ∧ ∀ j u, xs[j]? = some u → w.cell? ⟨g, o + j, none⟩ = some u)
section
variable {w w' : World} {S T : Nat → Prop} {z n : Nat} {v : Value} {xs : List Value}
theorem Rd.nil (w : World) (S : Nat → Prop) (z : Nat) : Rd w S z (.slice none 0 0) 0 [] := ⟨by simp, none, 0, rfl, Nat.le_refl _, Nat.zero_le _, fun h => absurd h (by omega)⟩
theorem Rd.keep (h : Rd w S z v n xs) (hs : w.heap.size ≤ w'.heap.size) (hk : ∀ k, S k → k < w.heap.size → w'.heap[k]? = w.heap[k]?) : Rd w' S z v n xs := by
  obtain ⟨h1, A, c, rfl, h2, h3, h4⟩ := h
  refine ⟨h1, A, c, rfl, h2, h3, fun hn => ?_⟩
  obtain ⟨g, o, e, hS, hg, hc⟩ := h4 hn
  exact ⟨g, o, e, hS, Nat.lt_of_lt_of_le hg hs, fun j u hu => (World.cell?_of_block (a := ⟨g, o + j, none⟩) (hk g hS hg)).trans (hc j u hu)⟩
theorem Rd.chg (h : Rd w S z v n xs) (c : Chg T w w') (hd : ∀ k, S k → ¬ T k) : Rd w' S z v n xs := h.keep c.size fun k hS hk => c.block k hk (hd k hS)
theorem Rd.ext (h : Rd w S z v n xs) (x : Ext w w') : Rd w' S z v n xs := h.keep x.size fun _ _ hk => x.block hk
theorem Rd.drew (h : Rd w S z v n xs) : Rd w.drew S z v n xs := h
theorem Rd.drewN (h : Rd w S z v n xs) (k : Nat) : Rd (w.drewN k) S z v n xs := h
theorem Rd.mono (h : Rd w S z v n xs) (hST : ∀ k, S k → k < w.heap.size → T k) : Rd w T z v n xs := by
  obtain ⟨h1, A, c, rfl, h2, h3, h4⟩ := h
  refine ⟨h1, A, c, rfl, h2, h3, fun hn => ?_⟩
  obtain ⟨g, o, e, hS, hg, hc⟩ := h4 hn
  exact ⟨g, o, e, hST g hS hg, hg, hc⟩
theorem Rd.len (h : Rd w S z v n xs) : n ≤ maxLen := by
  obtain ⟨_, A, c, _, h2, h3, _⟩ := h
  omega
theorem Rd.at_ (h : Rd w S z v n xs) {k : Nat} (hk : k < n) : ∃ g o c, v = .slice (some ⟨g, o, none⟩) n c ∧ n ≤ c ∧ c ≤ maxLen ∧ S g ∧ g < w.heap.size ∧ ∀ j u, xs[j]? = some u → w.cell? ⟨g, o + j, none⟩ = some u := by
  obtain ⟨h1, A, c, rfl, h2, h3, h4⟩ := h
  obtain ⟨g, o, rfl, hS, hg, hc⟩ := h4 (by omega)
  exact ⟨g, o, c, rfl, h2, h3, hS, hg, hc⟩
theorem Rd.of_own {base : Nat} {e : TypeId} (h : w.ownsRow base e z v n xs) (hS : ∀ k, v.ownBlock = some k → S k) : Rd w S z v n xs := by
  have hc := fun g hg => h.cells (g := g) hg
  have hl := h.lt
  obtain ⟨hlen, ⟨hv, h0⟩ | ⟨g, cap, cur, hv, _, hb, hn, hm, _⟩⟩ := h
  · subst h0 hv
    have hx : xs = [] := List.eq_nil_of_length_eq_zero (by simpa using hlen)
    subst hx
    exact Rd.nil _ _ _
  · refine ⟨hlen, _, cap, hv, hn, hm, fun _ => ⟨g, 0, rfl, hS g (by rw [hv]; rfl), (hl g (by rw [hv]; rfl)).2, fun j u hu => ?_⟩⟩
    have := hc g (by rw [hv]; rfl) j u hu
    rw [add_head] at this
    rw [Nat.zero_add]; exact this
end

section
variable {P : Program} (w : World)
theorem run_append_none (base : Nat) (t ty e : TypeId) (i : TypeInfo) (size : Nat) (ht : P.underlying t = some (.slice e)) (hi : P.info? e = some i)
    (v : Value) (n : Nat) (xs : List Value) (hown : w.ownsRow base e size v n xs) (c : Nat) : (Builtin.append_ #[t, t] ty #[v, .slice none 0 c]).run P w = .ok v w := by
  rcases hown.2 with ⟨rfl, rfl⟩ | ⟨g, cap, cur, rfl, _, _, hnc, _⟩
  · simp [Builtin.append_, run_underlying ht, sizeOf, typeInfo, hi, Builtin.lenOf, Builtin.firstCells]
  · simp [Builtin.append_, run_underlying ht, sizeOf, typeInfo, hi, Builtin.lenOf, Builtin.firstCells, hnc, storeCells]
/-- What append leaves: the slice of both lists, in memory of the call's own. -/
structure Appended (w : World) (base : Nat) (e : TypeId) (size : Nat) (v : Value) (k : Nat) (ys : List Value) (v' : Value) (w' : World) : Prop where
  own : w'.ownsRow base e size v' k ys
  grown : w.grownBy w' v.ownBlock
  at_ : v'.ownBlock = v.ownBlock ∨ v'.ownBlock = some w.heap.size
theorem run_append_rd (base : Nat) (t ty e : TypeId) (i : TypeInfo) (z : Value) (size bytes : Nat) (ht : P.underlying t = some (.slice e)) (hi : P.info? e = some i) (hz : i.zero = some z)
    (hsize : i.size = size) (hby : i.bytes = bytes) (hzs : z.cells.size = size) (hsz : 0 < size)
    (v : Value) (n : Nat) (xs : List Value) (hown : w.ownsRow base e size v n xs)
    (S : Nat → Prop) (x : Value) (m : Nat) (news : List Value) (hr : Rd w S size x m news) (h1 : ∀ u ∈ news, u.oneCell' = true)
    (h63 : n + m ≤ maxLen) (hbytes : (n + m) * bytes ≤ 140737488355328) (hbase : base ≤ w.heap.size) :
    ∃ v' w', (Builtin.append_ #[t, t] ty #[v, x]).run P w = .ok v' w' ∧ Appended w base e size v (n + m) (xs ++ news) v' w' := by
  obtain ⟨hlen, A, c, rfl, _, _, hcells⟩ := hr
  rcases Nat.eq_zero_or_pos m with h0 | h0
  · subst h0
    have hn : news = [] := List.eq_nil_of_length_eq_zero (by simpa using hlen)
    subst hn
    cases A with
    | none => exact ⟨v, w, run_append_none w base t ty e i size ht hi v n xs hown c, by simpa using hown, World.grownBy.refl w _, .inl rfl⟩
    | some ad =>
      obtain ⟨v', w', hrun, h2, h3, _, h5⟩ := run_append_own_at (P := P) w base t ty e i z size bytes ht hi hz hsize hby hzs hsz v n xs hown ad 0 c [] (by simp) (by simp) h1 h63 hbytes hbase
      exact ⟨v', w', hrun, h2, h3, h5⟩
  · obtain ⟨g, o, rfl, _, _, hc⟩ := hcells h0
    obtain ⟨v', w', hrun, h2, h3, _, h5⟩ := run_append_own_at (P := P) w base t ty e i z size bytes ht hi hz hsize hby hzs hsz v n xs hown ⟨g, o, none⟩ m c news hlen (fun j u hu => by
      have e : (⟨g, o, none⟩ : Addr).add j = ⟨g, o + j, none⟩ := by unfold Addr.add; by_cases hj : j = 0 <;> simp [hj]
      rw [e]; exact hc j u hu) h1 h63 hbytes hbase
    exact ⟨v', w', hrun, h2, h3, h5⟩
theorem wp_append_rd {o : Oper} {a : Act} {K : Act → World → Prop} {Q : Exit → Act → World → Prop} (s y : Operand) (t : TypeId)
    (ho : o.op = .call { callee := .builtin .append, args := #[s, y], argTypes := #[t, t] })
    (base : Nat) (e : TypeId) (i : TypeInfo) (z : Value) (size bytes : Nat) (ht : P.underlying t = some (.slice e)) (hi : P.info? e = some i) (hz : i.zero = some z)
    (hsize : i.size = size) (hby : i.bytes = bytes) (hzs : z.cells.size = size) (hsz : 0 < size)
    (v : Value) (n : Nat) (xs : List Value) (hs : a.eval s = v) (hown : w.ownsRow base e size v n xs)
    (S : Nat → Prop) (x : Value) (m : Nat) (news : List Value) (hx : a.eval y = x) (hr : Rd w S size x m news) (h1 : ∀ u ∈ news, u.oneCell' = true)
    (h63 : n + m ≤ maxLen) (hbytes : (n + m) * bytes ≤ 140737488355328) (hbase : base ≤ w.heap.size)
    (h : ∀ v' w', Appended w base e size v (n + m) (xs ++ news) v' w' → K (a.put o.dst v') w') : o.wp P a w K Q := by
  obtain ⟨v', w', hrun, h2⟩ := run_append_rd (P := P) w base t o.type e i z size bytes ht hi hz hsize hby hzs hsz v n xs hown S x m news hr h1 h63 hbytes hbase
  unfold Oper.wp execOp
  simp only [ho, resolve, invoke, builtin, Sem.run_bind, Sem.run_pure, Result.andThen_ok, List.map_toArray, List.map_cons, List.map_nil, hs, hx, hrun]
  exact h v' w' h2
theorem wpList_append_rd {ops : Array Oper} {rest : List Oper} {o : Oper} {a : Act} {Q : Exit → Act → World → Prop} (hgd : o.guard = none) (s y : Operand) (t : TypeId)
    (ho : o.op = .call { callee := .builtin .append, args := #[s, y], argTypes := #[t, t] })
    (base : Nat) (e : TypeId) (i : TypeInfo) (z : Value) (size bytes : Nat) (ht : P.underlying t = some (.slice e)) (hi : P.info? e = some i) (hz : i.zero = some z)
    (hsize : i.size = size) (hby : i.bytes = bytes) (hzs : z.cells.size = size) (hsz : 0 < size)
    (v : Value) (n : Nat) (xs : List Value) (hs : a.eval s = v) (hown : w.ownsRow base e size v n xs)
    (S : Nat → Prop) (x : Value) (m : Nat) (news : List Value) (hx : a.eval y = x) (hr : Rd w S size x m news) (h1 : ∀ u ∈ news, u.oneCell' = true)
    (h63 : n + m ≤ maxLen) (hbytes : (n + m) * bytes ≤ 140737488355328) (hbase : base ≤ w.heap.size)
    (h : ∀ v' w', Appended w base e size v (n + m) (xs ++ news) v' w' → wpList P ops Q rest (a.put o.dst v') w') : wpList P ops Q (o :: rest) a w :=
  wpList_plain hgd fun _ hK => wp_append_rd w s y t ho base e i z size bytes ht hi hz hsize hby hzs hsz v n xs hs hown S x m news hx hr h1 h63 hbytes hbase fun v' w' h2 => hK _ _ (h v' w' h2)
theorem step_append_rd {ops : Array Oper} {o : Oper} {a : Act} {K : Act → World → Prop} {Q : Exit → Act → World → Prop} {E : Prop} (hgd : o.guard = none) (s y : Operand) (t : TypeId)
    (ho : o.op = .call { callee := .builtin .append, args := #[s, y], argTypes := #[t, t] })
    (base : Nat) (e : TypeId) (i : TypeInfo) (z : Value) (size bytes : Nat) (ht : P.underlying t = some (.slice e)) (hi : P.info? e = some i) (hz : i.zero = some z)
    (hsize : i.size = size) (hby : i.bytes = bytes) (hzs : z.cells.size = size) (hsz : 0 < size)
    (v : Value) (n : Nat) (xs : List Value) (hs : a.eval s = v) (hown : w.ownsRow base e size v n xs)
    (S : Nat → Prop) (x : Value) (m : Nat) (news : List Value) (hx : a.eval y = x) (hr : Rd w S size x m news) (h1 : ∀ u ∈ news, u.oneCell' = true)
    (h63 : n + m ≤ maxLen) (hbytes : (n + m) * bytes ≤ 140737488355328) (hbase : base ≤ w.heap.size)
    (h : ∀ v' w', Appended w base e size v (n + m) (xs ++ news) v' w' → K (a.put o.dst v') w') :
    if Region.wanted o (yielded ops a.tmps) = true then Oper.wp P o a w K Q else E := by
  have hw : Region.wanted o (yielded ops a.tmps) = true := by simp [Region.wanted, hgd]
  rw [if_pos hw]
  exact wp_append_rd w s y t ho base e i z size bytes ht hi hz hsize hby hzs hsz v n xs hs hown S x m news hx hr h1 h63 hbytes hbase h
end
end Go.Proofs.Ythenclenabcmgaa
namespace Go.Proofs.Ythenclenabcmgaa
open Go.RowKit Go.Sort
section
variable {P : Program} {ops : Array Oper} {Q : Exit → Act → World → Prop} {md : Region.Mode} {S : World → Prop}
/-- The operation z is still to come. -/
def afterZ (P : Program) (ops : Array Oper) (Q : Exit → Act → World → Prop) (z : Nat) : Exit → Act → World → Prop
  | .normal, a, w => wpOp P ops Q z (fun a' w' => Q .normal a' w') a w
  | e, a, w => Q e a w
theorem wp_afterZ {z : Nat} {o : Oper} {a : Act} {w : World} {K : Act → World → Prop} (h : o.wp P a w K (afterZ P ops Q z)) : o.wp P a w K Q := by
  unfold Oper.wp at *
  generalize (execOp a.eval o).run P w = r at *
  cases r with
  | ok n w' =>
    cases n <;> simp only [Oper.upon] at h ⊢ <;>
      first
        | exact h
        | exact Calls.mono h (fun e w'' he => by
            cases e with
            | returned v => exact he
            | panicked c => exact he
            | outgrown => obtain ⟨a, w, hq⟩ := he; exact ⟨a, w, hq⟩)
        | exact Rows.mono h (fun _ _ he => he)
  | halt x w' => cases x <;> simp only [Oper.upon] at h ⊢ <;> exact h
theorem wpOp_afterZ {z i : Nat} {a : Act} {w : World} {K : Act → World → Prop} (h : wpOp P ops (afterZ P ops Q z) i K a w) : wpOp P ops Q i K a w := by
  unfold wpOp at *
  split
  · simpa [*] using h
  · rename_i o ho
    simp only [ho] at h
    split
    · rename_i hw
      simp only [hw, if_true] at h
      rcases h with h | ⟨h1, a', w', h2⟩
      · exact .inl (wp_afterZ h)
      · exact .inr ⟨h1, a', w', h2⟩
    · rename_i hw; simp only [hw] at h; exact h
/-- z waits for all others, and each operation waits only for earlier ones. -/
def lastB (md : Region.Mode) (ops : Array Oper) (z : Nat) : Bool :=
  (List.range ops.size).all fun j => (j == z || ((ops[z]?).map fun o => o.after.any fun e => Region.binds md e && e.on == j).getD false) && ((ops[j]?).map fun o => o.after.all fun e => !Region.binds md e || decide (e.on < j)).getD false
theorem mem_ready {listed : Array Bool} {i : Nat} : i ∈ Region.ready md ops listed ↔ i < ops.size ∧ listed.getD i true = false ∧ ∃ o, ops[i]? = some o ∧ ∀ e ∈ o.after, Region.binds md e = true → listed.getD e.on false = true := by
  unfold Region.ready
  simp only [List.mem_filter, List.mem_range, Bool.and_eq_true, Bool.not_eq_true']
  constructor
  · rintro ⟨h1, h2, h3⟩
    refine ⟨h1, h2, ops[i], Array.getElem?_eq_getElem h1, ?_⟩
    rw [Array.getElem?_eq_getElem h1] at h3
    simp only [Option.map_some, Option.getD_some, Array.all_eq_true_iff_forall_mem, Bool.or_eq_true, Bool.not_eq_true'] at h3
    intro e he hb
    rcases h3 e he with h | h
    · rw [hb] at h; simp at h
    · exact h
  · rintro ⟨h1, h2, o, ho, h3⟩
    refine ⟨h1, h2, ?_⟩
    rw [ho]
    simp only [Option.map_some, Option.getD_some, Array.all_eq_true_iff_forall_mem, Bool.or_eq_true, Bool.not_eq_true']
    intro e he
    cases hb : Region.binds md e with
    | false => exact .inl rfl
    | true => exact .inr (h3 e he hb)
theorem getD_set {listed : Array Bool} {i j : Nat} {d : Bool} : (listed.setIfInBounds i true).getD j d = if i = j ∧ j < listed.size then true else listed.getD j d := by
  simp only [Array.getD_eq_getD_getElem?, Array.getElem?_setIfInBounds]
  by_cases h : i = j
  · subst h
    by_cases h2 : i < listed.size <;> simp [h2]
  · simp [h]
theorem wpAny_last {z : Nat} (hz : z < ops.size) (hB : lastB md ops z = true) : ∀ (fuel : Nat) (listed : Array Bool) (a : Act) (w : World), listed.size = ops.size → listed.getD z true = false →
    wpAnyH P md ops (afterZ P ops Q z) S fuel (listed.setIfInBounds z true) a w → wpAny P md ops Q (fuel + 1) listed a w := by
  have hB' := hB
  simp only [lastB, List.all_eq_true, List.mem_range, Bool.and_eq_true, Bool.or_eq_true, beq_iff_eq] at hB'
  have hall : ∀ j, j < ops.size → j ≠ z → ∀ oz, ops[z]? = some oz → ∃ e ∈ oz.after, Region.binds md e = true ∧ e.on = j := fun j hj hne oz hoz => by
    rcases (hB' j hj).1 with h | h
    · exact absurd h hne
    · rw [hoz] at h
      simp only [Option.map_some, Option.getD_some, Array.any_eq_true'] at h
      obtain ⟨e, he, h⟩ := h
      simp only [Bool.and_eq_true, beq_iff_eq] at h
      exact ⟨e, he, h⟩
  have hbef : ∀ j, j < ops.size → ∀ o, ops[j]? = some o → ∀ e ∈ o.after, Region.binds md e = true → e.on < j := fun j hj o ho e he hb => by
    have h := (hB' j hj).2
    rw [ho] at h
    simp only [Option.map_some, Option.getD_some, Array.all_eq_true_iff_forall_mem, Bool.or_eq_true, Bool.not_eq_true', decide_eq_true_eq] at h
    rcases h e he with h | h
    · rw [hb] at h; simp at h
    · exact h
  -- something is ready while z is not listed
  have F1 : ∀ listed : Array Bool, listed.size = ops.size → listed.getD z true = false → Region.ready md ops listed ≠ [] := fun listed hs hzl h0 => by
    have hj : ∀ j, j < ops.size → listed.getD j true = true := fun j => by
      induction j using Nat.strongRecOn with
      | _ j ih =>
        intro hj
        cases hl : listed.getD j true with
        | true => rfl
        | false =>
          exfalso
          have : j ∈ Region.ready md ops listed := mem_ready.2 ⟨hj, hl, ops[j], Array.getElem?_eq_getElem hj, fun e he hb => by
            have h1 := hbef j hj _ (Array.getElem?_eq_getElem hj) e he hb
            have h2 := ih e.on h1 (by omega)
            simp only [Array.getD_eq_getD_getElem?] at h2 ⊢
            rw [Array.getElem?_eq_getElem (by omega)] at h2 ⊢
            exact h2⟩
          rw [h0] at this; simp at this
    rw [hj z hz] at hzl; simp at hzl
  have F2 : ∀ (listed : Array Bool) i, listed.size = ops.size → i ≠ z → i ∈ Region.ready md ops listed → i ∈ Region.ready md ops (listed.setIfInBounds z true) := fun listed i hs hne hi => by
    obtain ⟨h1, h2, o, h3, h4⟩ := mem_ready.1 hi
    refine mem_ready.2 ⟨h1, by rw [getD_set, if_neg (fun h => hne h.1.symm)]; exact h2, o, h3, fun e he hb => ?_⟩
    rw [getD_set]
    split
    · rfl
    · exact h4 e he hb
  have F3 : ∀ listed : Array Bool, listed.size = ops.size → z ∈ Region.ready md ops listed → Region.ready md ops (listed.setIfInBounds z true) = [] := fun listed hs hi => by
    obtain ⟨h1, h2, o, h3, h4⟩ := mem_ready.1 hi
    rw [List.eq_nil_iff_forall_not_mem]
    intro j hj
    obtain ⟨j1, j2, _⟩ := mem_ready.1 hj
    rw [getD_set] at j2
    by_cases hjz : z = j
    · rw [if_pos ⟨hjz, by omega⟩] at j2; simp at j2
    · rw [if_neg (fun h => hjz h.1)] at j2
      obtain ⟨e, he, hb, hon⟩ := hall j j1 (fun h => hjz h.symm) o h3
      have h5 := h4 e he hb
      rw [hon] at h5
      simp only [Array.getD_eq_getD_getElem?] at h5 j2
      rw [Array.getElem?_eq_getElem (by omega)] at h5 j2
      simp at h5 j2
      rw [h5] at j2; simp at j2
  intro fuel
  induction fuel with
  | zero =>
    rintro listed a w hs hzl ⟨hr, hq⟩
    refine ⟨fun h => absurd h (F1 listed hs hzl), fun i hi => ?_⟩
    by_cases hiz : i = z
    · subst hiz
      exact wpOp_mono (fun a' w' h => ⟨F3 listed hs hi, h⟩) hq
    · have := F2 listed i hs hiz hi
      rw [hr] at this; simp at this
  | succ fuel ih =>
    rintro listed a w hs hzl ⟨hr, hq⟩
    refine ⟨fun h => absurd h (F1 listed hs hzl), fun i hi => ?_⟩
    by_cases hiz : i = z
    · subst hiz
      have h0 := F3 listed hs hi
      exact wpOp_mono (fun a' w' h => ⟨fun _ => h, by rw [h0]; simp⟩) (hr h0)
    · have h1 := hq i (F2 listed i hs hiz hi)
      refine wpOp_mono (fun a' w' h => ?_) (wpOp_afterZ h1)
      refine ih (listed.setIfInBounds i true) a' w' (by simp [hs]) (by rw [getD_set, if_neg (fun h => hiz h.1)]; exact hzl) ?_
      rw [Array.setIfInBounds_comm true true hiz]
      exact h.2
theorem afterZ_wp {z : Nat} {o : Oper} {a : Act} {w : World} (ho : ops[z]? = some o) (hw : Region.wanted o (yielded ops a.tmps) = true) (h : o.wp P a w (fun a' w' => Q .normal a' w') Q) : afterZ P ops Q z .normal a w := by
  show wpOp P ops Q z (fun a' w' => Q .normal a' w') a w
  unfold wpOp
  rw [ho]
  simp only [hw, if_true]
  exact .inl h
/-- The region, its last operation apart. -/
theorem wp_region_last {id : Nat} {a : Act} {w : World} (z n : Nat) (hn : ops.size = n + 1) (hz : z < ops.size) (hB : lastB .any ops z = true) (hm : P.follows .mixedOrders = true) (hS : S w.drew)
    (h : S w.drew → wpAnyH P .any ops (afterZ P ops Q z) S n ((Array.replicate ops.size false).setIfInBounds z true) a w.drew) : (Code.region id ops true).wp P Q a w := by
  refine wp_region_any hm ?_
  rw [hn]
  have h2 := h hS
  rw [hn] at h2
  have hz' : z < n + 1 := hn ▸ hz
  exact wpAny_last hz hB n _ a _ (by simp [hn]) (by simp [Array.getD_eq_getD_getElem?, hz']) h2
end
end Go.Proofs.Ythenclenabcmgaa
namespace Go.Proofs.Ythenclenabcmgaa
open Go.Maps (Tidy IsMap)

abbrev Kp := ByteArray × Rc
def kb (k : ByteArray) : List UInt8 := k.data.toList
theorem kb_inj {a b : ByteArray} (h : kb a = kb b) : a = b := ByteArray.ext (Array.ext' h)
theorem kb_tri {a b : ByteArray} (h : a ≠ b) : kb a < kb b ∨ kb b < kb a := by
  rcases List.le_total (kb a) (kb b) with h1 | h1
  · exact .inl (lt_of_le_ne h1 fun e => h (kb_inj e))
  · exact .inr (lt_of_le_ne h1 fun e => h (kb_inj e).symm)
theorem kb_lt_ne {a b : ByteArray} (h : kb a < kb b) : a ≠ b := fun e => by subst e; exact List.lt_irrefl _ h
theorem kb_asymm {a b : ByteArray} (h : kb a < kb b) : ¬ kb b < kb a := fun g => List.lt_irrefl _ (List.lt_trans h g)
def getK : List Kp → ByteArray → Rc
  | [], _ => default
  | p :: l, k => if p.1 = k then p.2 else getK l k
def putGo (k : ByteArray) (r : Rc) : Bool → List Kp → List Kp
  | true, [] => []
  | false, [] => [(k, r)]
  | d, p :: l => if p.1 = k then putGo k r d l else if d = false ∧ kb k < kb p.1 then (k, r) :: p :: putGo k r true l else p :: putGo k r d l
def putK (l : List Kp) (k : ByteArray) (r : Rc) : List Kp := putGo k r (r.st == 0) l
def AscP (l : List Kp) : Prop := l.Pairwise (fun a b => kb a.1 < kb b.1)
theorem mem_putGo {k : ByteArray} {r : Rc} {p : Kp} : ∀ {l : List Kp} {d : Bool}, p ∈ putGo k r d l ↔ (p ∈ l ∧ p.1 ≠ k) ∨ (d = false ∧ p = (k, r))
  | [], true => by simp [putGo]
  | [], false => by simp [putGo]
  | q :: l, d => by
    rw [putGo]
    split
    · rename_i hq
      rw [mem_putGo]
      constructor
      · rintro (⟨h1, h2⟩ | h)
        · exact .inl ⟨List.mem_cons_of_mem _ h1, h2⟩
        · exact .inr h
      · rintro (⟨h1, h2⟩ | h)
        · rcases List.mem_cons.1 h1 with h1 | h1
          · subst h1; exact absurd hq h2
          · exact .inl ⟨h1, h2⟩
        · exact .inr h
    · rename_i hq
      split
      · rename_i hd
        simp only [List.mem_cons, mem_putGo (d := true), Bool.true_eq_false, false_and, or_false]
        constructor
        · rintro (h | h | ⟨h1, h2⟩)
          · exact .inr ⟨hd.1, h⟩
          · subst h; exact .inl ⟨.inl rfl, hq⟩
          · exact .inl ⟨.inr h1, h2⟩
        · rintro (⟨h1 | h1, h2⟩ | ⟨_, h⟩)
          · exact .inr (.inl h1)
          · exact .inr (.inr ⟨h1, h2⟩)
          · exact .inl h
      · simp only [List.mem_cons, mem_putGo (d := d)]
        constructor
        · rintro (h | ⟨h1, h2⟩ | h)
          · subst h; exact .inl ⟨.inl rfl, hq⟩
          · exact .inl ⟨.inr h1, h2⟩
          · exact .inr h
        · rintro (⟨h1 | h1, h2⟩ | h)
          · exact .inl h1
          · exact .inr (.inl ⟨h1, h2⟩)
          · exact .inr (.inr h)
theorem asc_putGo {k : ByteArray} {r : Rc} : ∀ {l : List Kp} {d : Bool}, AscP l → AscP (putGo k r d l)
  | [], true, _ => by simp [putGo, AscP]
  | [], false, _ => by simp [putGo, AscP]
  | q :: l, d, h => by
    obtain ⟨h1, h2⟩ := List.pairwise_cons.1 h
    rw [putGo]
    split
    · exact asc_putGo h2
    · rename_i hq
      split
      · rename_i hd
        refine List.pairwise_cons.2 ⟨fun p hp => ?_, List.pairwise_cons.2 ⟨fun p hp => ?_, asc_putGo h2⟩⟩
        · rcases List.mem_cons.1 hp with hp | hp
          · subst hp; exact hd.2
          · rcases mem_putGo.1 hp with ⟨hp, _⟩ | ⟨hf, _⟩
            · exact List.lt_trans hd.2 (h1 p hp)
            · simp at hf
        · rcases mem_putGo.1 hp with ⟨hp, _⟩ | ⟨hf, _⟩
          · exact h1 p hp
          · simp at hf
      · rename_i hd
        refine List.pairwise_cons.2 ⟨fun p hp => ?_, asc_putGo h2⟩
        rcases mem_putGo.1 hp with ⟨hp, _⟩ | ⟨hf, hp⟩
        · exact h1 p hp
        · subst hp
          rcases kb_tri hq with hl | hl
          · exact hl
          · exact absurd ⟨hf, hl⟩ hd
theorem get_putGo_same {k : ByteArray} {r : Rc} : ∀ {l : List Kp} {d : Bool}, getK (putGo k r d l) k = if d then default else r
  | [], true => by simp [putGo, getK]
  | [], false => by simp [putGo, getK]
  | q :: l, d => by
    rw [putGo]
    split
    · exact get_putGo_same
    · rename_i hq
      split
      · rename_i hd; simp [getK, hd.1]
      · rw [getK, if_neg hq]; exact get_putGo_same
theorem get_putGo_other {k k' : ByteArray} {r : Rc} (hne : k' ≠ k) : ∀ {l : List Kp} {d : Bool}, getK (putGo k r d l) k' = getK l k'
  | [], true => by simp [putGo, getK]
  | [], false => by simp [putGo, getK, Ne.symm hne]
  | q :: l, d => by
    rw [putGo]
    split
    · rename_i hq; rw [get_putGo_other hne, getK, if_neg (by rw [hq]; exact fun e => hne e.symm)]
    · rename_i hq
      split
      · rw [getK, if_neg (fun e => hne e.symm), getK, getK]
        split
        · rfl
        · exact get_putGo_other hne
      · rw [getK, getK]
        split
        · rfl
        · exact get_putGo_other hne
theorem len_putGo {k : ByteArray} {r : Rc} : ∀ {l : List Kp} {d : Bool}, AscP l → (putGo k r d l).length + (if ∃ p ∈ l, p.1 = k then 1 else 0) = l.length + (if d then 0 else 1)
  | [], true, _ => by simp [putGo]
  | [], false, _ => by simp [putGo]
  | q :: l, d, h => by
    obtain ⟨h1, h2⟩ := List.pairwise_cons.1 h
    have ih := fun d => len_putGo (k := k) (r := r) (d := d) h2
    rw [putGo]
    split
    · rename_i hq
      have hno : ¬ ∃ p ∈ l, p.1 = k := by
        rintro ⟨p, hp, e⟩
        have := h1 p hp
        rw [e, hq] at this
        exact List.lt_irrefl _ this
      have := ih d
      rw [if_neg hno] at this
      rw [if_pos ⟨q, by simp, hq⟩]
      simp only [List.length_cons]
      omega
    · rename_i hq
      have hiff : (∃ p ∈ q :: l, p.1 = k) ↔ ∃ p ∈ l, p.1 = k := by simp [hq]
      split
      · rename_i hd
        have := ih true
        simp only [hiff, List.length_cons, hd.1] at *
        simp at this ⊢
        omega
      · have := ih d
        simp only [hiff, List.length_cons] at *
        omega
/-- How a record reads. -/
def rcD (r : Rc) : DataW Unit := .agg [.lit (.int .i64 r.st), .lit (.int .i64 r.ow), .lit (.string r.nm.data.toList), .lit (.int .i64 r.dl)]
theorem rcD_inj {a b : Rc} (h : rcD a = rcD b) : a = b := by
  obtain ⟨a1, a2, a3, a4⟩ := a
  obtain ⟨b1, b2, b3, b4⟩ := b
  simp only [rcD, DataW.agg.injEq, List.cons.injEq, DataW.lit.injEq, Lit.int.injEq, Lit.string.injEq, true_and, and_true] at h
  obtain ⟨h1, h2, h3, h4⟩ := h
  have := kb_inj h3
  subst h1 h2 this h4
  rfl
theorem key_lit (k : ByteArray) : WideAt.IsKeyLit (.string (kb k)) := by simp [WideAt.IsKeyLit]
/-- The map reads as this list. -/
structure MapIs (D : DataW Unit) (l : List Kp) : Prop where
  tidy : Tidy D
  asc : AscP l
  get : ∀ k, D.atKey (.string (kb k)) (rcD default) = rcD (getK l k)
  has : ∀ k, Maps.has D (.string (kb k)) = true ↔ ∃ p ∈ l, p.1 = k
  size : Maps.size D = l.length
theorem MapIs.empty : MapIs (.map []) [] := ⟨Maps.tidy_empty, List.Pairwise.nil, fun _ => rfl, fun k => by simp [Maps.has], rfl⟩
theorem lit_ne {k k' : ByteArray} (h : k' ≠ k) : (Lit.string (kb k')) ≠ .string (kb k) := fun e => by
  simp only [Lit.string.injEq] at e
  exact h (kb_inj e)
theorem MapIs.put {D : DataW Unit} {l : List Kp} (h : MapIs D l) (k : ByteArray) (r : Rc) (hr : r.st ≠ 0) : MapIs (D.put (.string (kb k)) (rcD r)) (putK l k r) := by
  have hd : (r.st == 0) = false := by simpa using hr
  unfold putK
  rw [hd]
  have hm := h.tidy.isMap
  refine ⟨h.tidy.put (key_lit k) _, asc_putGo h.asc, fun k' => ?_, fun k' => ?_, ?_⟩
  · by_cases hk : k' = k
    · subst hk
      rw [Maps.atKey_put_same hm (key_lit k'), get_putGo_same]; simp
    · rw [Maps.atKey_put_other (lit_ne hk), h.get, get_putGo_other hk]
  · by_cases hk : k' = k
    · subst hk
      rw [Maps.has_put_same hm (key_lit k')]
      simp only [true_iff]
      exact ⟨(k', r), mem_putGo.2 (.inr ⟨rfl, rfl⟩), rfl⟩
    · rw [Maps.has_put_other (lit_ne hk), h.has]
      constructor
      · rintro ⟨p, hp, e⟩; exact ⟨p, mem_putGo.2 (.inl ⟨hp, by rw [e]; exact hk⟩), e⟩
      · rintro ⟨p, hp, e⟩
        rcases mem_putGo.1 hp with ⟨hp, _⟩ | ⟨_, hp⟩
        · exact ⟨p, hp, e⟩
        · subst hp; exact absurd e.symm hk
  · rw [Maps.size_put h.tidy, h.size]
    have := len_putGo (k := k) (r := r) (d := false) h.asc
    have hh := h.has k
    cases hb : Maps.has D (.string (kb k)) with
    | true => rw [if_pos (hh.1 hb)] at this; simp at this ⊢; omega
    | false => rw [if_neg (fun e => by rw [hh.2 e] at hb; simp at hb)] at this; simp at this ⊢; omega
theorem MapIs.del {D : DataW Unit} {l : List Kp} (h : MapIs D l) (k : ByteArray) (r : Rc) (hr : r.st = 0) : MapIs (D.del (.string (kb k))) (putK l k r) := by
  have hd : (r.st == 0) = true := by simpa using hr
  unfold putK
  rw [hd]
  refine ⟨h.tidy.del _, asc_putGo h.asc, fun k' => ?_, fun k' => ?_, ?_⟩
  · by_cases hk : k' = k
    · subst hk
      rw [Maps.atKey_del_same, get_putGo_same]; simp
    · rw [Maps.atKey_del_other (lit_ne hk), h.get, get_putGo_other hk]
  · by_cases hk : k' = k
    · subst hk
      rw [Maps.has_del_same]
      simp only [Bool.false_eq_true, false_iff]
      rintro ⟨p, hp, e⟩
      rcases mem_putGo.1 hp with ⟨_, hp⟩ | ⟨hf, _⟩
      · exact hp e
      · simp at hf
    · rw [Maps.has_del_other (lit_ne hk), h.has]
      constructor
      · rintro ⟨p, hp, e⟩; exact ⟨p, mem_putGo.2 (.inl ⟨hp, by rw [e]; exact hk⟩), e⟩
      · rintro ⟨p, hp, e⟩
        rcases mem_putGo.1 hp with ⟨hp, _⟩ | ⟨_, hp⟩
        · exact ⟨p, hp, e⟩
        · subst hp; exact absurd e.symm hk
  · have hs := Maps.size_del (k := .string (kb k)) h.tidy
    have := len_putGo (k := k) (r := r) (d := true) h.asc
    have hh := h.has k
    rw [h.size] at hs
    cases hb : Maps.has D (.string (kb k)) with
    | true => rw [if_pos (hh.1 hb)] at this; rw [hb] at hs; simp at this hs ⊢; omega
    | false => rw [if_neg (fun e => by rw [hh.2 e] at hb; simp at hb)] at this; rw [hb] at hs; simp at this hs ⊢; omega
end Go.Proofs.Ythenclenabcmgaa
namespace Go.Proofs.Ythenclenabcmgaa
open Go.RowKit Go.Sort
set_option maxHeartbeats 1000000

/-- Check (24.1). -/
def checkB (st ow dl : Int) (nm : ByteArray) : Bool :=
  (st == 0 && ow == 0 && nm.size == 0 && dl == 0) ||
  (decide (0 ≤ ow) && decide (ow < 64) && decide (1 ≤ nm.size) && decide (nm.size ≤ 63) && ((st == 1 && decide (1 ≤ dl) && decide (dl ≤ 1073741824)) || (st == 2 && dl == 0)))
theorem len_toList (nm : ByteArray) : nm.toList.length = nm.size := by rw [ByteArray.toList_eq]; rfl
theorem size_cases (nm : ByteArray) : (nm.toList = [] ∧ nm.toList.isEmpty = true ∧ nm.size = 0) ∨ (¬ nm.toList = [] ∧ nm.toList.isEmpty = false ∧ 1 ≤ nm.size ∧ (1 : Int) ≤ (nm.size : Int)) := by
  have e := len_toList nm
  cases h : nm.toList with
  | nil => rw [h] at e; exact .inl ⟨rfl, rfl, e.symm⟩
  | cons a l => rw [h] at e; simp only [List.length_cons] at e; exact .inr ⟨by simp, rfl, by omega, by omega⟩
theorem ret_bool {a b : Bool} (h : a = b) : Ending.returned (.bool a) = .returned (.bool b) := by rw [h]
end Go.Proofs.Ythenclenabcmgaa
namespace Go.Proofs.Ythenclenabcmgaa
open Go.RowKit
theorem info_str : (Try.prog.info? 9).map (fun i => (i.zero, i.size, i.bytes)) = some (some (.string ⟨#[]⟩), 1, 16) := by kernel_rfl
end Go.Proofs.Ythenclenabcmgaa
