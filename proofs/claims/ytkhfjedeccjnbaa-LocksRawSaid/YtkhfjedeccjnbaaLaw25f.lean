/-
  The walk of LocksRaw: it returns true and changes nothing that was there.
  Conditions: the strings' lengths are those of Go strings.
-/
import Derived.Test.YtkhfjedeccjnbaaLaw25e
namespace Go.Proofs.Ytkhfjedeccjnbaa
open Go.RowKit Go.Sort
set_option maxHeartbeats 8000000

theorem six_str (a b : ByteArray) (ha : a.size ≤ maxLen) (hb : b.size ≤ maxLen) (k : Nat) (hk : k < 6) :
    ∃ s : ByteArray, s.size ≤ maxLen ∧ ∀ w, (Instr.index 93 (.agg #[.string a, .string b, .string a, .string ⟨#[]⟩, .string b, .string a]) (.int .i64 (k : Int))).run Try.prog w = .ok (.string s) w := by
  rcases (show k = 0 ∨ k = 1 ∨ k = 2 ∨ k = 3 ∨ k = 4 ∨ k = 5 by omega) with rfl | rfl | rfl | rfl | rfl | rfl
  · exact ⟨a, ha, fun _ => by kernel_rfl⟩
  · exact ⟨b, hb, fun _ => by kernel_rfl⟩
  · exact ⟨a, ha, fun _ => by kernel_rfl⟩
  · exact ⟨⟨#[]⟩, by decide, fun _ => by kernel_rfl⟩
  · exact ⟨b, hb, fun _ => by kernel_rfl⟩
  · exact ⟨a, ha, fun _ => by kernel_rfl⟩
set_option maxRecDepth 100000
namespace locksRaw
theorem walk (s1 s2 : ByteArray) (a2 a3 : Int) (w : World) (hs1 : s1.size ≤ maxLen) (hs2 : s2.size ≤ maxLen) (_ : I64 a2) (_ : I64 a3) :
    Calls Try.prog 24 #[.string s1, .string s2, .int .i64 a2, .int .i64 a3] w fun e w' => e = .returned (.bool true) ∧ Below w.heap.size w w' := by
  go_enter Try.func24, Try.ntmps24
  go_wp2_with fail
  refine (new_any 4 _).mono ?_
  rintro e w1 (⟨hp, _⟩ | ⟨_, b, g, h, rfl, hb, hg, hh, hl, hx⟩)
  · exact absurd hp (by decide)
  have hl1 : LocksAt w1 b g h 4 (fun _ => none) (fun _ => 0) 0 := hl
  have Hl1 := Lib.hid hl1
  have Hx1 := Lib.hid hx
  clear hl hx hl1
  go_wp2_with fail
  refine (rnew_any 4 _).mono ?_
  rintro e w2 (⟨hp, _⟩ | ⟨_, yb, t, s, rfl, h1, h2, h3, bt, bs, hT, hB, hx2⟩)
  · exact absurd hp (by decide)
  have hT' : TableAt w2 t s 4 (fun _ => -1) (.slice none 0 0) := hT
  have HB := Lib.hid (lboth_new Hx1.out hb hg hh Hl1.out hx2 h1 h2 h3 bt bs hT' hB (by omega))
  clear hT hT' hB hx2 h1 h2 h3 bt bs Hl1 Hx1
  go_wp2_with fail
  go_loopw [40] (fun o wr => ∃ k : Nat, k ≤ 6 ∧ o = .int .i64 (k : Int) ∧ ∃ sl ow u S os L, LBoth w b yb 4 g h wr sl ow u S os L ∧ L ≤ k) (fun o _ => (6 - intOf o).toNat)
  case atStart => exact ⟨0, by omega, rfl, _, _, _, _, _, _, HB.out, Nat.le_refl _⟩
  case round =>
    clear HB
    obtain ⟨k, hk6, rfl, sl, ow, u, S, os, L, hB, hL⟩ := hrel
    have HB := Lib.hid hB
    clear hB
    by_cases hk : k < 6
    · have hd : decide ((k : Int) < 6) = true := by simp; omega
      obtain ⟨sk, hsk, hix⟩ := six_str s1 s2 hs1 hs2 k hk
      go_upto_if 47 with fail
      clear hix
      go_cut [15] from 44 to 49 (fun o wx => ∃ who, o = .int .i64 who ∧ wx = wr)
      case first =>
        obtain ⟨bb, hbb⟩ : ∃ bb, ((k : Int) % 2 == 1) = bb := ⟨_, rfl⟩
        cases bb
        · go_wp2_with fail
          go_meet
          exact ⟨_, rfl, rfl⟩
        · go_wp2_with (go_at_call 29; refine (pick_any _ _ (by omega) (by omega) _).mono ?_; rintro e w' ⟨rfl, rfl⟩)
          go_meet
          exact ⟨_, rfl, rfl⟩
      case rest =>
        obtain ⟨who, rfl, rfl⟩ := hcut
        go_wp2_with fail
        refine (HB.out.acqx (by omega) sk hsk who (by omega)).mono ?_
        rintro e w8 ⟨code, rfl, hc8, hy⟩
        have Hy := Lib.hid hy
        clear hc8 hy
        go_wp2_with fail
        refine Hy.out.mono ?_
        rintro e w9 ⟨rfl, sl', ow', u', S', os', hB9, hS9, hc9⟩
        have HB9 := Lib.hid hB9
        clear hB9 hS9 hc9 Hy
        go_wp2_with fail
        refine (HB9.out.ownx (by omega) sk hsk).mono ?_
        rintro e w10 ⟨rfl, hx8⟩
        have HB10 := Lib.hid (HB9.out.on hx8)
        clear hx8 HB9
        obtain ⟨ov, hov⟩ : ∃ ov, lkOwner os' sk = ov := ⟨_, rfl⟩
        have Hov := Lib.hid hov
        rw [hov]
        clear hov
        go_wp2_with fail
        refine (HB10.out.owny sk).mono ?_
        rintro e w11 ⟨rfl, hx9⟩
        have HB11 := Lib.hid (HB10.out.on hx9)
        clear hx9 HB10
        rw [Hov.out]
        by_cases hk2 : 2 < k
        · have hd2 : decide ((2 : Int) < (k : Int)) = true := by simp; omega
          go_wp2_with fail
          refine (HB11.out.relx (by omega) s1 hs1 _ (by omega)).mono ?_
          rintro e w12 ⟨code2, rfl, hc12, hy⟩
          have Hy := Lib.hid hy
          clear hc12 hy
          go_wp2_with fail
          refine Hy.out.mono ?_
          rintro e w13 ⟨rfl, sl2, ow2, u2, S2, os2, hB13, hS13, hc13⟩
          have HB13 := Lib.hid hB13
          clear hB13 hS13 hc13 Hy
          go_wp2_with fail
          go_roundw
          case rel => exact ⟨k + 1, by omega, by go_num, sl2, ow2, u2, S2, os2, _, HB13.out, by omega⟩
          case measure => simp [intOf]; omega
        · have hd2 : decide ((2 : Int) < (k : Int)) = false := by simp; omega
          go_wp2_with fail
          go_roundw
          case rel => exact ⟨k + 1, by omega, by go_num, sl', ow', u', S', os', _, HB11.out, by omega⟩
          case measure => simp [intOf]; omega
    · have hd : decide ((k : Int) < 6) = false := by simp; omega
      go_wp2_with fail
      refine (awake25 _).mono ?_
      rintro e w4 ⟨rfl, hx4⟩
      have HB4 := Lib.hid (HB.out.on hx4)
      clear hx4 HB
      go_wp2_with fail
      refine (HB4.out.agrees (by omega)).mono ?_
      rintro e w5 ⟨rfl, hx5⟩
      have Hx5 := Lib.hid (HB4.out.ext.trans hx5)
      clear hx5
      go_wp2_with fail
      go_ret
      exact ⟨rfl, Ext.below Hx5.out⟩
end locksRaw
end Go.Proofs.Ytkhfjedeccjnbaa
