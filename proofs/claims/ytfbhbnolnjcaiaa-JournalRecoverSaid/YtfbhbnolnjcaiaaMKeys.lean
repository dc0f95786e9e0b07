/-
  model.Keys gives the keys of the records in ascending order (28.3).
  Conditions: few records.
-/
import Derived.Test.YtfbhbnolnjcaiaaModA
import Derived.Test.YtfbhbnolnjcaiaaSortAny
import Derived.Sort.KeysCollected
import Derived.Maps.RangeWalk
namespace Go.Proofs.Ytfbhbnolnjcaiaa
open Go.RowKit Go.Sort
open Go.Maps (Keyed string_keyed)
set_option maxHeartbeats 4000000
set_option maxRecDepth 100000

/-- The keys of a list, as bytes. -/
def keysL (l : List Kp) : List (List UInt8) := l.map fun p => kb p.1
theorem keysL_len (l : List Kp) : (keysL l).length = l.length := List.length_map _
theorem keysL_asc {l : List Kp} (h : AscP l) : Asc (keysL l) := List.pairwise_map.2 h
theorem kb_mk (x : List UInt8) : kb ⟨x.toArray⟩ = x := rfl
theorem mem_keysL {l : List Kp} {x : List UInt8} : x ∈ keysL l ↔ ∃ p ∈ l, kb p.1 = x := List.mem_map
theorem keysL_of {D : DataW Unit} {l : List Kp} (h : MapIs D l) {left : Lit → Bool} {ss : List (List UInt8)} (hC : Collected D left ss) (hl : ∀ kl, left kl = false) : (ss.mergeSort fun x y => decide (x ≤ y)) = keysL l := by
  refine asc_unique (asc_sort hC.1) (keysL_asc h.asc) fun x => ?_
  rw [mem_sort, hC.2 x, hl, mem_keysL]
  have hh := h.has ⟨x.toArray⟩
  rw [kb_mk] at hh
  simp only [and_true]
  rw [hh]
  constructor
  · rintro ⟨p, hp, e⟩; exact ⟨p, hp, by rw [e, kb_mk]⟩
  · rintro ⟨p, hp, e⟩; exact ⟨p, hp, kb_inj e⟩
theorem recs_inv (v : Value) (y : DataW Unit × List MemPlace) (h : recR v = some y) : ∃ r, v = rcV r := by
  obtain ⟨r, h1, _⟩ := recR_inv h
  exact ⟨r, h1⟩
theorem keys_inv (key : Value) (kl : Lit) (h : keyOf Try.prog 9 key = some kl) : ∃ x, key = encStr x := by
  obtain ⟨x, hx, _⟩ := Go.Maps.keyOf_str und_str h
  exact ⟨x, hx⟩

theorem mkeys_any (b m : Nat) (cl cap : Int) (l : List Kp) (w : World) (h : ModAt w b m cl cap l) (hll : l.length ≤ 4000) :
    Calls Try.prog 18 #[.pointer (some ⟨b, 0, none⟩)] w (KeysPost (keysL l) w) := by
  obtain ⟨i0, hi, hz0, hz1, hz2⟩ := info_parts info_str
  obtain ⟨D, hown, hD⟩ := h.map
  have c2 := h.c2
  have hml := h.map.lt
  have HD := Lib.hid hD
  have hsz := hD.size
  clear hD h
  go_enter Try.func18, Try.ntmps18
  go_wp2_with (first
    | (at_range; refine wpList_range_own _ rfl _ 81 rfl 9 26 str_key und_map recR m l.length D rfl hown ?_; intro w0 hrg0 hg0 hs0))
  go_frame
  have hlow := hrg0
  clear hown
  go_loopw [3] (fun v wr => ∃ (left : Lit → Bool) (cnt : Nat) (ss : List (List UInt8)), wr.ranges Try.prog 9 recR m w.heap.size l.length D left cnt ∧ ss.length + cnt ≤ l.length ∧ wr.ownsRow w.heap.size 9 1 v ss.length (ss.map encStr) ∧ Collected D left ss ∧ Ext w wr)
    (fun _ wr => wr.rangeLeft m w.heap.size)
  case atStart => exact ⟨_, _, [], hrg0, by rw [hsz]; simp, World.ownsRow_nil _ _ _ _, Collected.start D, (Ext.refl w).grown hg0 (fun k hk => by cases hk)⟩
  case round =>
    obtain ⟨left, cnt, ss, hrg, hcs, hrow, hC, hx⟩ := hrel
    obtain ⟨la, lc, rfl⟩ := own_shape hrow
    have hxs := hx.size
    go_wp2_with (first
      | (at_next; refine wpList_next_ranges _ rfl _ rfl 9 str_key recR encStr rcV keys_inv recs_inv m w.heap.size l.length _ _ _ rfl hrg ?_ ?_))
    · intro hc0 hl0
      go_wp2_with (go_at_call 47; refine (sort_any w.heap.size _ ss _ hrow (by omega)).mono ?_; rintro e w' ⟨rfl, hs, hgs⟩)
      go_ret
      rw [keysL_of HD.out hC hl0] at hs
      have hle : (keysL l).length = ss.length := by rw [← keysL_of HD.out hC hl0, List.length_mergeSort]
      rw [← hle] at hs ⊢
      exact ⟨_, rfl, hs, hx.grown hgs fun k hk => (hrow.lt k hk).1⟩
    · intro x c kl yd yp w2 cnt2 hkey hlk hv hat hrg2 hlt hg2 hs2 hen
      obtain ⟨x', ex, rfl, _⟩ := Go.Maps.keyOf_str und_str hkey
      obtain rfl : x = x' := encStr_inj ex
      have hrow2 := hrow.kept hg2 (Or.inr (row_ne_iter hrow hrg).symm)
      have hx2 := hx.grown hg2 (fun k hk => by cases hk; exact Nat.le_refl _)
      have hxs2 := hx2.size
      clear hs2
      go_wp2_with (first
        | (at_builtin; refine wpList_append_own _ rfl _ _ 53 rfl w.heap.size 9 i0 _ 1 16 und_strs hi hz0 hz1 hz2 rfl (by decide) _ _ _ rfl (hrow2.alloc _) ⟨w2.heap.size, 0, none⟩ 1 1 [encStr x] rfl rfl (cell_one_new _ _ _) (by simp [Value.oneCell', encStr]) (by unfold maxLen at *; omega) (by omega) (by simp; omega) ?_; intro v' w3 hown' hg3 hnil3; go_frame))
      have hrg3 := (hrg2.alloc _).kept hg3 (row_ne_low hrow2 hml) (row_ne_iter hrow2 hrg2)
      go_roundw
      case rel =>
        refine ⟨_, cnt2, ss ++ [x], hrg3, by simp; omega, by simpa using hown', hC.step hlk hat, ?_⟩
        exact (hx2.alloc _).grown hg3 (fun j hj => (hrow2.lt j hj).1)
      case measure => rw [hrg3.left_eq, hrg.left_eq]; exact hlt
end Go.Proofs.Ytfbhbnolnjcaiaa
