/-
  What Keys and Held of locks return (25.4), and Slots (25.4).
  Conditions: at most 4096 slots.
-/
import Derived.Test.YtkhfjedeccjnbaaKeys
import Derived.Test.YtkhfjedeccjnbaaSlots
namespace Go.Proofs.Ytkhfjedeccjnbaa
open Go.RowKit Go.Sort
set_option maxHeartbeats 1000000
set_option maxRecDepth 100000

theorem own_base {w : World} {base base' : Nat} {e : TypeId} {size : Nat} {v : Value} {n : Nat} {xs : List Value} (h : w.ownsRow base e size v n xs) (hb : base' ≤ base) : w.ownsRow base' e size v n xs :=
  ⟨h.1, h.2.imp id fun ⟨g, cap, cur, a, b, c⟩ => ⟨g, cap, cur, a, Nat.le_trans hb b, c⟩⟩
theorem keys1_any (o : Int) (w : World) : Calls Try.prog 109 #[.int .i64 o] w fun e w' => e = .returned (.bool true) ∧ Ext w w' := by
  go_enter Try.func109, Try.ntmps109
  go_wp2_with fail
  go_ret
  exact ⟨rfl, Ext.refl _⟩
theorem held1_any (o c : Int) (cb : Nat) (w : World) (hc : w.cell? ⟨cb, 0, none⟩ = some (.int .i64 c)) : Calls Try.prog 110 #[.int .i64 o, .pointer (some ⟨cb, 0, none⟩)] w fun e w' => e = .returned (.bool (o == c)) ∧ Ext w w' := by
  go_enter Try.func110, Try.ntmps110
  go_wp2_with fail
  go_ret
  exact ⟨rfl, Ext.refl _⟩
theorem lkeys_any (b g h n : Nat) (sl : Nat → Option ByteArray) (ow : Nat → Int) (u : Int) (w : World) (hn : n ≤ 4096) (hl : LocksAt w b g h n sl ow u) :
    Calls Try.prog 74 #[.pointer (some ⟨b, 0, none⟩)] w (KeysPost (keysK sl (fun _ => true) n) w) := by
  have hk := keys_any b g h n sl ow u 109 #[] (fun _ => true) w hn hl (enters_of Try.func109 (by kernel_rfl) rfl) (fun wr o _ => keys1_any o wr)
  clear hl
  go_enter Try.func74, Try.ntmps74
  go_wp2_with (go_at_call 108; refine hk.mono ?_; rintro e w1 ⟨v, rfl, ho, hx⟩)
  go_ret
  exact ⟨_, rfl, ho, hx⟩
theorem held_any (b g h n : Nat) (sl : Nat → Option ByteArray) (ow : Nat → Int) (u c : Int) (w : World) (hn : n ≤ 4096) (hl : LocksAt w b g h n sl ow u) :
    Calls Try.prog 75 #[.pointer (some ⟨b, 0, none⟩), .int .i64 c] w (KeysPost (keysK sl (fun j => ow j == c) n) w) := by
  have hx0 : Ext w (w.alloc (.cells #[.int .i64 c] 3)) := (Ext.refl w).alloc _
  have hcell : ∀ wr, Ext (w.alloc (.cells #[.int .i64 c] 3)) wr → wr.cell? ⟨w.heap.size, 0, none⟩ = some (.int .i64 c) := fun wr hx => (hx.cell (p := ⟨w.heap.size, 0, none⟩) (by simp)).trans (by go_simp)
  have hk := keys_any b g h n sl ow u 110 #[.pointer (some ⟨w.heap.size, 0, none⟩)] (fun o => o == c) _ hn (hl.ext hx0) (enters_of Try.func110 (by kernel_rfl) rfl) (fun wr o hx => held1_any o c _ wr (hcell wr hx))
  clear hl
  go_enter Try.func75, Try.ntmps75
  go_wp2_with (go_at_call 108; refine hk.mono ?_; rintro e w1 ⟨v, rfl, ho, hx⟩)
  go_ret
  exact ⟨_, rfl, own_base ho (by simp), hx0.trans hx⟩
theorem lslots_any (b g h n : Nat) (sl : Nat → Option ByteArray) (ow : Nat → Int) (u : Int) (w : World) (hn : n ≤ 4096) (hl : LocksAt w b g h n sl ow u) :
    Calls Try.prog 78 #[.pointer (some ⟨b, 0, none⟩)] w (NewRd 2 n (slotCells n sl) w) := by
  obtain ⟨_, _, _, hb, _, c0, c1, c2, hsl, _⟩ := hl
  have hr := rd_of_slots hsl hn
  go_enter Try.func78, Try.ntmps78
  go_wp2_with fail
  refine (clone_slots _ _ _ _ _ hr (slotCells_one _ _) hn).mono ?_
  rintro e w1 ⟨v, rfl, hv, hx⟩
  go_wp2_with fail
  go_ret
  exact ⟨_, rfl, hv, hx⟩
end Go.Proofs.Ytkhfjedeccjnbaa
