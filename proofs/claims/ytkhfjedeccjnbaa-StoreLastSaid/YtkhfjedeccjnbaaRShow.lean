/-
  The reference's slots as they are shown (25.4, 26.4).
  Conditions: the table is whole in memory; at most 4096 slots.
-/
import Derived.Test.YtkhfjedeccjnbaaTIns
import Derived.Test.YtkhfjedeccjnbaaSlots
namespace Go.Proofs.Ytkhfjedeccjnbaa
open Go.RowKit Go.Sort
set_option maxHeartbeats 2000000
set_option maxRecDepth 100000

/-- The cells of the first i slots. -/
def shownK (sl : Nat → Option ByteArray) : Nat → List Value
  | 0 => []
  | i + 1 => shownK sl i ++ [.bool (sl i).isSome, .string ((sl i).getD ⟨#[]⟩)]
theorem shownK_len (sl : Nat → Option ByteArray) : ∀ i, (shownK sl i).length = i * 2
  | 0 => rfl
  | i + 1 => by rw [shownK, List.length_append, shownK_len sl i]; simp; omega
theorem shownK_at (sl : Nat → Option ByteArray) : ∀ {n i : Nat}, i < n → (shownK sl n)[i * 2]? = some (.bool (sl i).isSome) ∧ (shownK sl n)[i * 2 + 1]? = some (.string ((sl i).getD ⟨#[]⟩))
  | 0, i, h => absurd h (by omega)
  | n + 1, i, h => by
    have hl := shownK_len sl n
    rw [shownK]
    rcases (show i < n ∨ i = n by omega) with h1 | rfl
    · obtain ⟨a, b⟩ := shownK_at sl h1
      rw [List.getElem?_append_left (by omega), List.getElem?_append_left (by omega)]
      exact ⟨a, b⟩
    · rw [List.getElem?_append_right (by omega), List.getElem?_append_right (by omega), hl]
      simp
theorem shownK_all (sl : Nat → Option ByteArray) (n : Nat) : shownK sl n = slotCells n sl := by
  apply List.ext_getElem?
  intro j
  rcases Nat.lt_or_ge j (n * 2) with h | h
  · obtain ⟨a, b⟩ := shownK_at sl (show j / 2 < n by omega)
    obtain ⟨c, d⟩ := slotCells_at sl (show j / 2 < n by omega)
    rcases (show j = j / 2 * 2 ∨ j = j / 2 * 2 + 1 by omega) with e | e
    · rw [e, a, c]
    · rw [e, b, d]
  · rw [List.getElem?_eq_none (by rw [shownK_len]; exact h), List.getElem?_eq_none (by rw [slotCells_len]; exact h)]
theorem shownK_one (sl : Nat → Option ByteArray) (n : Nat) : ∀ u ∈ shownK sl n, u.oneCell' = true := by
  rw [shownK_all]; exact slotCells_one n sl
theorem slot_one {x : Bool} {s : ByteArray} : ∀ u ∈ [Value.bool x, Value.string s], u.oneCell' = true := by
  intro u hu
  simp at hu
  rcases hu with rfl | rfl <;> rfl
theorem rshown_any (S : Nat → Prop) (t n : Nat) (sl : Nat → Option ByteArray) (L : Nat) (w : World) (hn : n ≤ 4096) (h : TabIs w S t n sl L) :
    Calls Try.prog 86 #[.pointer (some ⟨t, 0, none⟩)] w (NewRd 2 n (slotCells n sl) w) := by
  obtain ⟨i0, hi, hz0, hz1, hz2⟩ := info_parts info_slot
  obtain ⟨s, f, kv, ks, S0, h1, _, _, _, h5, h6, h7, _⟩ := h
  obtain ⟨hts, htl, htf, c0, c1, hsl, hsf, hsc⟩ := h1
  have H5 := Lib.hid h5
  have H7 := Lib.hid h7
  have Hsc := Lib.hid hsc
  obtain ⟨_, A, cp, rfl, hk1, hk2, _⟩ := h5
  unfold maxLen at hk2
  clear h7 hsc
  go_enter Try.func86, Try.ntmps86
  go_wp2_with fail
  go_loopw [11, 3] (fun o v wr => ∃ i : Nat, i ≤ n ∧ o = .int .i64 (i : Int) ∧ wr.ownsRow w.heap.size 91 2 v i (shownK sl i) ∧ Ext w wr) (fun o _ _ => n - (intOf o).toNat)
  case atStart => exact ⟨0, by omega, rfl, World.ownsRow_nil _ _ _ _, Ext.refl _⟩
  case round =>
    obtain ⟨i, hi', rfl, ho, hx⟩ := hrel
    have Hx := Lib.hid hx
    have Ho := Lib.hid ho
    have d1 := (hx.cell (p := ⟨t, 1, none⟩) htl).trans c1
    by_cases hin : i < n
    · have hd : decide ((i : Int) < (n : Int)) = true := by simpa using hin
      have d0 := (hx.cell (p := ⟨s, i, none⟩) hsl).trans (Hsc.out i hin)
      have i0' : (0 : Int) ≤ (i : Int) := by omega
      have i1' : (i : Int) < (n : Int) := by omega
      have hbl := fun k hk => (Ho.out.lt k hk).1
      have hz := Hx.out.size
      obtain ⟨a1, k1, hv1⟩ := own_shape Ho.out
      subst hv1
      rcases H7.out i hin with ⟨e1, e2⟩ | ⟨j, k, e1, e2, e3⟩
      · rw [e2] at d0
        have He1 := Lib.hid e1
        clear e1 e2 hx ho c0 c1
        go_wp2_with (at_builtin; refine wpList_append_own_at _ rfl _ _ 88 rfl w.heap.size 91 i0 _ 2 24 und_slots hi hz0 hz1 hz2 rfl (by decide) _ i _ rfl (Ho.out.alloc _) ⟨wr.heap.size, 0, none⟩ 1 1 [.bool false, .string ⟨#[]⟩] rfl rfl ?c1 ?c2 ?c3 ?c4 ?c5 ?_)
        try (case c1 => first | done | (intro j u hu; (rcases j with _ | _ | j) <;> simp at hu <;> subst hu <;> (first | rfl | go_simp)))
        try (case c2 => exact slot_one)
        try (case c3 => unfold maxLen; omega)
        try (case c4 => omega)
        try (case c5 => first | omega | (simp; omega))
        intro v2 w2 ho3 hg2 _ _
        have hx2 : Ext w w2 := Ext.grown (Hx.out.alloc _) hg2 hbl
        have ho4 : w2.ownsRow w.heap.size 91 2 v2 (i + 1) (shownK sl (i + 1)) := by
          rw [shownK, He1.out]; exact ho3
        obtain ⟨a2, k2, hv2⟩ := own_shape ho4
        subst hv2
        have Ho4 := Lib.hid ho4
        have Hx2 := Lib.hid hx2
        clear ho4 ho3 hx2 hg2 hbl
        go_wp2_with fail
        go_roundw
        case rel => exact ⟨i + 1, by omega, by go_num, Ho4.out, Hx2.out⟩
        case measure => simp [intOf]; omega
      · rw [e2] at d0
        have hjl : j < ks.length := (List.getElem?_eq_some_iff.1 e3).1
        obtain ⟨g, o, c, ev, hc1, hc2, _, _, hrd⟩ := (H5.out.ext hx).at_ hjl
        simp only [Value.slice.injEq, true_and] at ev
        obtain ⟨rfl, rfl⟩ := ev
        have d2 := hrd j _ (map_string_at e3)
        have j0 : (0 : Int) ≤ (j : Int) := by omega
        have j1 : (j : Int) < (ks.length : Int) := by omega
        have hd2 : decide ((j : Int) < 0) = false := by simp
        have He1 := Lib.hid e1
        clear e1 e2 e3 hx ho hrd c0 c1
        go_wp2_with (at_builtin; refine wpList_append_own_at _ rfl _ _ 88 rfl w.heap.size 91 i0 _ 2 24 und_slots hi hz0 hz1 hz2 rfl (by decide) _ i _ rfl (Ho.out.alloc _) ⟨wr.heap.size, 0, none⟩ 1 1 [.bool true, .string k] rfl rfl ?e1 ?e2 ?e3 ?e4 ?e5 ?_)
        try (case e1 => first | done | (intro j u hu; (rcases j with _ | _ | j) <;> simp at hu <;> subst hu <;> (first | rfl | go_simp)))
        try (case e2 => exact slot_one)
        try (case e3 => unfold maxLen; omega)
        try (case e4 => omega)
        try (case e5 => first | omega | (simp; omega))
        intro v2 w2 ho3 hg2 _ _
        have hx2 : Ext w w2 := Ext.grown (Hx.out.alloc _) hg2 hbl
        have ho4 : w2.ownsRow w.heap.size 91 2 v2 (i + 1) (shownK sl (i + 1)) := by
          rw [shownK, He1.out]; exact ho3
        obtain ⟨a2, k2, hv2⟩ := own_shape ho4
        subst hv2
        have Ho4 := Lib.hid ho4
        have Hx2 := Lib.hid hx2
        clear ho4 ho3 hx2 hg2 hbl
        go_wp2_with fail
        go_roundw
        case rel => exact ⟨i + 1, by omega, by go_num, Ho4.out, Hx2.out⟩
        case measure => simp [intOf]; omega
    · have hd : decide ((i : Int) < (n : Int)) = false := by simp; omega
      have hie : i = n := by omega
      subst hie
      clear hx c0 c1
      go_wp2_with fail
      go_ret
      rw [shownK_all] at ho
      exact ⟨_, rfl, Rd.of_own ho (fun k hk => (ho.lt k hk).1), Hx.out⟩
end Go.Proofs.Ytkhfjedeccjnbaa
