/-
  What slices.Clone and Slots return (25.4, 26.4): a new slice of the same slots.
  Conditions: at most 4096 slots.
-/
import Derived.Test.YtkhfjedeccjnbaaWords
import Derived.Test.YtkhfjedeccjnbaaStore
import Derived.WalkSpells
namespace Go.Proofs.Ytkhfjedeccjnbaa
open Go.RowKit Go.Sort
set_option maxHeartbeats 1000000

/-- The cells of n slots. -/
def slotCells (n : Nat) (sl : Nat → Option ByteArray) : List Value := (List.range (n * 2)).map fun j => if j % 2 = 0 then .bool (sl (j / 2)).isSome else .string ((sl (j / 2)).getD ⟨#[]⟩)
theorem slotCells_len (n : Nat) (sl : Nat → Option ByteArray) : (slotCells n sl).length = n * 2 := by simp [slotCells]
theorem slotCells_at {n : Nat} (sl : Nat → Option ByteArray) {i : Nat} (hi : i < n) : (slotCells n sl)[i * 2]? = some (.bool (sl i).isSome) ∧ (slotCells n sl)[i * 2 + 1]? = some (.string ((sl i).getD ⟨#[]⟩)) := by
  unfold slotCells
  constructor
  · rw [List.getElem?_map, List.getElem?_range (by omega)]
    simp
  · rw [List.getElem?_map, List.getElem?_range (by omega)]
    have e1 : (i * 2 + 1) % 2 = 1 := by omega
    have e2 : (i * 2 + 1) / 2 = i := by omega
    simp [e1, e2]
theorem slotCells_one (n : Nat) (sl : Nat → Option ByteArray) : ∀ u ∈ slotCells n sl, u.oneCell' = true := by
  intro u hu
  unfold slotCells at hu
  obtain ⟨j, _, rfl⟩ := List.mem_map.1 hu
  split <;> rfl
theorem rd_of_slots {w : World} {g n : Nat} {sl : Nat → Option ByteArray} (h : SlotsAt w g n sl) (hn : n ≤ 4096) : Rd w (· = g) 2 (.slice (some ⟨g, 0, none⟩) n n) n (slotCells n sl) := by
  obtain ⟨h1, _, h3⟩ := h
  refine ⟨slotCells_len n sl, _, n, rfl, Nat.le_refl _, by unfold maxLen; omega, fun _ => ⟨g, 0, rfl, rfl, h1, fun j u hu => ?_⟩⟩
  have hj : j < n * 2 := by
    have := (List.getElem?_eq_some_iff.1 hu).1
    rwa [slotCells_len] at this
  obtain ⟨a, b⟩ := h3 (j / 2) (by omega)
  obtain ⟨a', b'⟩ := slotCells_at sl (show j / 2 < n by omega)
  rw [Nat.zero_add]
  rcases (show j = j / 2 * 2 ∨ j = j / 2 * 2 + 1 by omega) with e | e
  · rw [e] at hu ⊢
    rw [a'] at hu
    rw [← hu]; exact a
  · rw [e] at hu ⊢
    rw [b'] at hu
    rw [← hu]; exact b

/-- A new slice that reads as these cells; nothing that was there has changed. -/
def NewRd (z n : Nat) (xs : List Value) (w : World) (e : Ending) (w' : World) : Prop := ∃ v, e = .returned v ∧ Rd w' (fun k => w.heap.size ≤ k) z v n xs ∧ Ext w w'
set_option maxRecDepth 10000 in
theorem clone_slots (v : Value) (n : Nat) (xs : List Value) (S : Nat → Prop) (w : World) (hr : Rd w S 2 v n xs) (h1 : ∀ u ∈ xs, u.oneCell' = true) (hn : n ≤ 4096) :
    Calls Try.prog 111 #[v] w (NewRd 2 n xs w) := by
  obtain ⟨i0, hi, hz0, hz1, hz2⟩ := info_parts info_slot
  have hr' := hr
  obtain ⟨_, A, c, rfl, _, _, hA⟩ := hr'
  cases A with
  | none =>
    have hn0 : n = 0 := by
      rcases Nat.eq_zero_or_pos n with h | h
      · exact h
      · obtain ⟨_, _, e, _⟩ := hA h; simp at e
    subst hn0
    have hx : xs = [] := List.eq_nil_of_length_eq_zero (by simpa using hr.1)
    subst hx
    have k1 := fun w => @Lib.run_eql_slice_nil Try.prog w
    go_enter Try.func111, Try.ntmps111
    go_wp2_with fail
    go_ret
    exact ⟨_, rfl, Rd.nil _ _ _, Ext.refl _⟩
  | some ad =>
    have hr1 := fun o => hr.ext ((Ext.refl w).alloc o)
    have hown : (w.alloc (.cells #[] 91)).ownsRow w.heap.size 91 2 (.slice (some ⟨w.heap.size, 0, none⟩) 0 0) 0 [] := World.ownsRow_lit w #[] 0 (Nat.le_refl _) (Nat.zero_le _) rfl
    have k1 := fun w => @Lib.run_eql_slice_nil Try.prog w
    go_enter Try.func111, Try.ntmps111
    go_wp2_with (at_builtin; refine wpList_append_rd _ rfl _ _ 88 rfl w.heap.size 91 i0 _ 2 24 und_slots hi hz0 hz1 hz2 rfl (by decide) _ 0 [] rfl hown S _ n xs rfl (hr1 _) h1 ?c3 ?c4 ?c5 ?_)
    case c3 => unfold maxLen; omega
    case c4 => omega
    case c5 => simp
    intro v' w1 ha
    have hx1 : Ext w w1 := Ext.grown ((Ext.refl w).alloc _) ha.grown (fun k hk => (hown.lt k hk).1)
    have ho : w1.ownsRow w.heap.size 91 2 v' n xs := by simpa using ha.own
    have Ho := Lib.hid ho
    clear hown ha hr1 hr ho
    go_wp2_with fail
    go_ret
    exact ⟨_, rfl, Rd.of_own Ho.out (fun k hk => (Ho.out.lt k hk).1), hx1⟩
theorem sslots_any (b g h n : Nat) (sl : Nat → Option ByteArray) (f : Nat → Rc) (u : Int) (w : World) (hn : n ≤ 4096) (hl : StoreAt w b g h n sl f u) :
    Calls Try.prog 85 #[.pointer (some ⟨b, 0, none⟩)] w (NewRd 2 n (slotCells n sl) w) := by
  obtain ⟨_, _, _, hb, _, c0, c1, c2, hsl, _⟩ := hl
  have hr := rd_of_slots hsl hn
  go_enter Try.func85, Try.ntmps85
  go_wp2_with fail
  refine (clone_slots _ _ _ _ _ hr (slotCells_one _ _) hn).mono ?_
  rintro e w1 ⟨v, rfl, hv, hx⟩
  go_wp2_with fail
  go_ret
  exact ⟨_, rfl, hv, hx⟩
end Go.Proofs.Ytkhfjedeccjnbaa
