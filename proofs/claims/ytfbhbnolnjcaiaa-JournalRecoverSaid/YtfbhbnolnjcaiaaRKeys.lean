/-
  The reference's Keys (28.3).
  Conditions: few records.
-/
import Derived.Test.YtfbhbnolnjcaiaaMKeys
import Derived.Test.YtfbhbnolnjcaiaaModF
import Derived.Test.YtfbhbnolnjcaiaaModE
namespace Go.Proofs.Ytfbhbnolnjcaiaa
open Go.RowKit Go.Sort
set_option maxHeartbeats 4000000
set_option maxRecDepth 100000

theorem rkeysK_any {S : Nat → Prop} (v : Value) (l : List Kp) (w : World) (hl : KeptAt w S v l) (hll : l.length ≤ 100000) :
    Calls Try.prog 48 #[v] w (KeysPost (keysL l) w) := by
  obtain ⟨A, c, rfl⟩ := hl.shape
  obtain ⟨i0, hi, hz0, hz1, hz2⟩ := info_parts info_str
  have Hl := Lib.hid hl
  clear hl
  go_enter Try.func48, Try.ntmps48
  go_wp2_with fail
  go_loopw [8, 3] (fun o v wr => ∃ k : Nat, k ≤ l.length ∧ o = .int .i64 (k : Int) ∧ wr.ownsRow w.heap.size 9 1 v k (((keysL l).take k).map encStr) ∧ Ext w wr) (fun o _ _ => l.length - (intOf o).toNat)
  case atStart => exact ⟨0, by omega, rfl, World.ownsRow_nil _ _ _ _, Ext.refl w⟩
  case round =>
    obtain ⟨k, hk, rfl, hown, hx⟩ := hrel
    obtain ⟨la, lc, rfl⟩ := own_shape hown
    have Hx := Lib.hid hx
    have Hown := Lib.hid hown
    clear hx hown
    by_cases hlt : k < l.length
    · have hd : decide ((k : Int) < (l.length : Int)) = true := by simpa using hlt
      obtain ⟨p, hpk⟩ : ∃ p, l[k]? = some p := ⟨l[k], by simp [hlt]⟩
      obtain ⟨g, o, c', hv, p1, p2, _, b1, x0, x1, x2, x3, x4⟩ := KeptAt.get (Rd.ext Hl.out Hx.out) hpk
      simp only [Value.slice.injEq, true_and] at hv
      obtain ⟨rfl, rfl⟩ := hv
      have j0 : (0 : Int) ≤ (k : Int) := by omega
      have j1 : (k : Int) < (l.length : Int) := by omega
      have Hkk := Lib.hid (show (keysL l)[k]? = some (kb p.1) by simp [keysL, hpk])
      clear hpk
      go_upto_region 5 with fail
      have z0 : (wr.alloc (.cells #[.string p.1, .int .i64 p.2.st, .int .i64 p.2.ow, .string p.2.nm, .int .i64 p.2.dl] 133)).cell? ⟨wr.heap.size, 0, none⟩ = some (.string p.1) := by go_simp
      have hxW : Ext wr (wr.alloc (.cells #[.string p.1, .int .i64 p.2.st, .int .i64 p.2.ow, .string p.2.nm, .int .i64 p.2.dl] 133)) := (Ext.refl wr).alloc _
      obtain ⟨bb, hbb⟩ : ∃ c, wr.heap.size = c := ⟨_, rfl⟩
      obtain ⟨W1, hW1⟩ : ∃ W, wr.alloc (.cells #[.string p.1, .int .i64 p.2.st, .int .i64 p.2.ow, .string p.2.nm, .int .i64 p.2.dl] 133) = W := ⟨_, rfl⟩
      rw [hW1] at z0 hxW
      rw [hW1]
      rw [hbb] at z0
      rw [hbb]
      have Hx1 := Lib.hid (Hx.out.trans hxW)
      have Hown1 := Lib.hid (own_ext Hown.out hxW)
      have hrl := rd_litM W1 #[.string p.1] 9 1 (by rfl)
      have hbz : w.heap.size ≤ (W1.alloc (.cells #[.string p.1] 9)).heap.size := by have := Hx1.out.size; simp; omega
      clear hW1 hbb hxW Hx Hown x0 x1 x2 x3 x4 b1
      go_wp2_with (at_builtin; refine wpList_append_rd _ rfl _ _ 53 rfl w.heap.size 9 i0 _ 1 16 und_strs hi hz0 hz1 hz2 rfl (by decide) _ k _ rfl (Hown1.out.alloc _) (fun _ => True) _ 1 _ rfl hrl (by simp [Value.oneCell']) (by unfold maxLen; omega) (by omega) hbz ?_; intro v' w6 ha; obtain ⟨a3, c3', hv3⟩ := own_shape ha.own; subst hv3)
      have hend : w6.ownsRow w.heap.size 9 1 (.slice a3 (k + 1) c3') (k + 1) (((keysL l).take (k + 1)).map encStr) := by
        rw [take_at Hkk.out, List.map_append, List.map_cons, List.map_nil, show encStr (kb p.1) = .string p.1 from enc_key p.1]
        exact ha.own
      have hx6 := (Hx1.out.alloc _).grown ha.grown fun k hk => (Hown1.out.lt k hk).1
      have Hend := Lib.hid hend
      have Hx6 := Lib.hid hx6
      clear ha hend hx6 hrl hbz
      go_roundw
      case rel => exact ⟨k + 1, by omega, by go_num, Hend.out, Hx6.out⟩
      case measure => simp [intOf]; omega
    · have hd : decide ((k : Int) < (l.length : Int)) = false := by simp; omega
      obtain rfl : k = l.length := by omega
      have ho := Hown.out
      rw [List.take_of_length_le (by rw [keysL_len]; exact Nat.le_refl _)] at ho
      have Ho := Lib.hid ho
      clear ho
      go_wp2_with fail
      go_ret
      refine ⟨_, rfl, ?_, Hx.out⟩
      rw [keysL_len]
      exact Ho.out
theorem rmkeys_any (S : Nat → Prop) (b : Nat) (cl cap : Int) (l : List Kp) (w : World) (h : RModAt w S b cl cap l) (hll : l.length ≤ 100000) :
    Calls Try.prog 19 #[.pointer (some ⟨b, 0, none⟩)] w (KeysPost (keysL l) w) := by
  obtain ⟨v, c2, hv⟩ := h.c2
  obtain ⟨A, c, rfl⟩ := hv.shape
  have hb := h.lt
  have Hv := Lib.hid hv
  clear h hv
  go_enter Try.func19, Try.ntmps19
  go_wp2_with fail
  refine (rkeysK_any _ l _ Hv.out hll).mono ?_
  rintro x w1 ⟨v2, rfl, ho, hx⟩
  have Ho := Lib.hid ho
  have Hx := Lib.hid hx
  clear ho hx
  go_wp2_with fail
  go_ret
  exact ⟨_, rfl, Ho.out, Hx.out⟩
end Go.Proofs.Ytfbhbnolnjcaiaa
