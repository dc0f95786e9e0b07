/-
  What Keys of a store returns (26.4).
  Conditions: at most 4096 slots.
-/
import Derived.Test.YtkhfjedeccjnbaaKeys
import Derived.Test.YtkhfjedeccjnbaaStore
namespace Go.Proofs.Ytkhfjedeccjnbaa
open Go.RowKit Go.Sort
set_option maxHeartbeats 4000000
set_option maxRecDepth 100000

theorem skeys_any (b g h n : Nat) (sl : Nat → Option ByteArray) (f : Nat → Rc) (u : Int) (w : World) (hn : n ≤ 4096) (hl : StoreAt w b g h n sl f u) :
    Calls Try.prog 87 #[.pointer (some ⟨b, 0, none⟩)] w (KeysPost (keysK sl (fun _ => true) n) w) := by
  obtain ⟨i0, hi, hz0, hz1, hz2⟩ := info_parts info_str
  have Hl := Lib.hid hl
  obtain ⟨_, _, _, hb, _, c0, c1, c2, _, _⟩ := hl
  go_enter Try.func87, Try.ntmps87
  go_wp2_with fail
  go_loopw [11, 3] (fun o l wr => ∃ i : Nat, i ≤ n ∧ o = .int .i64 (i : Int) ∧ wr.ownsRow w.heap.size 9 1 l (colK sl (fun _ => true) i).length ((colK sl (fun _ => true) i).map encStr) ∧ Ext w wr) (fun o _ _ => n - (intOf o).toNat)
  case atStart => exact ⟨0, by omega, rfl, World.ownsRow_nil _ _ _ _, Ext.refl w⟩
  case round =>
    obtain ⟨i, hi', rfl, ho, hx⟩ := hrel
    clear hb c0 c1 c2
    have hlr := Hl.out.ext hx
    obtain ⟨_, _, _, hb, _, c0, c1, _, hsl, _⟩ := hlr
    by_cases hlt : i < n
    · have hd : decide ((i : Int) < (n : Int)) = true := by simpa using hlt
      have i0' : (0 : Int) ≤ (i : Int) := by omega
      have i1' : (i : Int) < (n : Int) := by omega
      obtain ⟨d0, d1⟩ := hsl.2.2 i hlt
      have hgl := hsl.1
      have hlen := colK_len sl (fun _ => true) i
      have Ho := Lib.hid ho
      have Hx := Lib.hid hx
      clear hsl ho hx
      cases hsi : sl i with
      | none =>
        have Hsi := Lib.hid hsi
        rw [hsi] at d0 d1
        simp only [Option.isSome, Option.getD] at d0 d1
        clear hsi
        go_wp2_with fail
        go_roundw
        case rel => exact ⟨i + 1, by omega, by go_num, by rw [colK_none Hsi.out]; exact Ho.out.alloc _, Hx.out.alloc _⟩
        case measure => simp [intOf]; omega
      | some k =>
        have Hsi := Lib.hid hsi
        rw [hsi] at d0 d1
        simp only [Option.isSome, Option.getD] at d0 d1
        clear hsi
        have ho2 := Ho.out.alloc (.cells #[.bool true, .string k] 91)
        have hbl := fun k hk => (Ho.out.lt k hk).1
        have hz := Hx.out.size
        obtain ⟨a1, k1, hv1⟩ := own_shape Ho.out
        subst hv1
        go_wp2_with (at_builtin; refine wpList_append_own_at _ rfl _ _ 77 rfl w.heap.size 9 i0 _ 1 16 und_strs hi hz0 hz1 hz2 rfl (by decide) _ (colK sl (fun _ => true) i).length _ rfl (ho2.alloc _) ⟨wr.heap.size + 1, 0, none⟩ 1 1 [.string k] rfl rfl ?c1 ?c2 ?c3 ?c4 ?c5 ?_)
        case c2 => first | rfl | (intro u hu; simp at hu; subst hu; rfl)
        case c3 => unfold maxLen; omega
        case c4 => omega
        case c5 => first | omega | (simp; omega)
        intro v2 w2 ho3 hg2 _ _
        have hx2 : Ext w w2 := Ext.grown ((Hx.out.alloc (.cells #[.bool true, .string k] 91)).alloc (.cells #[.string k] 9)) hg2 hbl
        have ho4 : w2.ownsRow w.heap.size 9 1 v2 (colK sl (fun _ => true) (i + 1)).length ((colK sl (fun _ => true) (i + 1)).map encStr) := by
          rw [colK_take Hsi.out rfl]
          simpa [enc_key] using ho3
        have Ho4 := Lib.hid ho4
        have Hx2 := Lib.hid hx2
        clear ho4 ho3 hx2 hg2 ho2 hbl
        go_wp2_with fail
        go_roundw
        case rel => exact ⟨i + 1, by omega, by go_num, Ho4.out, Hx2.out⟩
        case measure => simp [intOf]; omega
    · have hd : decide ((i : Int) < (n : Int)) = false := by simp; omega
      have hii : i = n := by omega
      subst hii
      have hlen := colK_len sl (fun _ => true) i
      have hsrt := sort_any w.heap.size _ _ wr ho (by omega)
      have hbl := fun k hk => (ho.lt k hk).1
      have Hx := Lib.hid hx
      have Hbl := Lib.hid hbl
      clear hsl hx ho hbl
      go_wp2_with (go_at_call 115; refine hsrt.mono ?_; rintro e w1 ⟨rfl, ho1, hg1⟩)
      go_ret
      exact ⟨_, rfl, by rw [keysK_len]; exact ho1, Ext.grown Hx.out hg1 Hbl.out⟩
end Go.Proofs.Ytkhfjedeccjnbaa
