/-
  The walk of LocksProbes: it returns true and changes nothing that was there.
  Conditions: none.
-/
import Derived.Test.YtkhfjedeccjnbaaHeld
import Derived.Test.YtkhfjedeccjnbaaWay
import Derived.Deep.CutBlock
namespace Go.Proofs.Ytkhfjedeccjnbaa
open Go.RowKit Go.Sort
set_option maxHeartbeats 8000000

/-- The cells of a slice of n slots in memory. -/
theorem rd_slot {w : World} {S : Nat → Prop} {g o n c : Nat} {sl : Nat → Option ByteArray} (h : Rd w S 2 (.slice (some ⟨g, o, none⟩) n c) n (slotCells n sl)) {i : Nat} (hi : i < n) :
    w.cell? ⟨g, o + i * 2, none⟩ = some (.bool (sl i).isSome) ∧ w.cell? ⟨g, o + i * 2 + 1, none⟩ = some (.string ((sl i).getD ⟨#[]⟩)) := by
  obtain ⟨g', o', c', e, _, _, _, _, hc⟩ := h.at_ hi
  simp only [Value.slice.injEq, Option.some.injEq, Addr.mk.injEq] at e
  obtain ⟨⟨rfl, rfl, _⟩, _⟩ := e
  obtain ⟨a, b⟩ := slotCells_at sl hi
  have h2 := hc _ _ b
  rw [← Nat.add_assoc] at h2
  exact ⟨hc _ _ a, h2⟩
/-- What the table of the walk is like. -/
def PrI (n B b g h sb : Nat) (w wr : World) : Prop := ∃ sl ow u, LocksAt wr b g h n sl ow u ∧ LOk n sl u ∧ LOwn n sl ow ∧ Src B wr sb ∧ Ext w wr
set_option maxRecDepth 100000
namespace locksProbes
theorem walk (a : Option Addr) (len cap : Nat) (zs : List Int) (a1 : Int) (w : World) (hrow : IsRow .i64 w a len cap zs) (_ : I64 a1) :
    Calls Try.prog 22 #[.slice a len cap, .int .i64 a1] w fun e w' => e = .returned (.bool true) ∧ Below w.heap.size w w' := by
  have hpb := pickI_bd a1 3 (by omega)
  obtain ⟨q, hq⟩ : ∃ q : Nat, pickI a1 3 = (q : Int) := ⟨(pickI a1 3).toNat, by omega⟩
  have hq1 : q < 3 := by omega
  have hq2 : (0 : Int) ≤ (q : Int) := by omega
  have hq3 : (q : Int) < 3 := by omega
  obtain ⟨n, hnc, hn4, hn16, hpw⟩ : ∃ n : Nat, (∀ w : World, (w.alloc (.cells #[.int .i64 4, .int .i64 8, .int .i64 16] 3)).cell? ⟨w.heap.size, q, none⟩ = some (.int .i64 (n : Int))) ∧ 4 ≤ n ∧ n ≤ 16 ∧ powB (n : Int) 2 = true := by
    rcases (show q = 0 ∨ q = 1 ∨ q = 2 by omega) with rfl | rfl | rfl
    · exact ⟨4, fun w => by go_simp, by omega, by omega, by decide⟩
    · exact ⟨8, fun w => by go_simp, by omega, by omega, by decide⟩
    · exact ⟨16, fun w => by go_simp, by omega, by omega, by decide⟩
  clear hpb
  have Hpw := Lib.hid hpw
  clear hpw
  go_enter Try.func22, Try.ntmps22
  go_wp2_with (go_at_call 29; refine (pick_any _ _ (by omega) (by omega) _).mono ?_; rintro e w' ⟨rfl, rfl⟩; rw [hq])
  refine (new_any (n : Int) _).mono ?_
  rintro e w1 (⟨hp, _⟩ | ⟨_, b, g, h, rfl, hb, hg, hh, hl, hx⟩)
  · exact absurd hp (by rw [Hpw.out]; decide)
  have hx1 : Ext w w1 := ((Ext.refl w).alloc _).trans hx
  have hl1 : LocksAt w1 b g h n (fun _ => none) (fun _ => 0) 0 := by simpa using hl
  have hz0 := ((Ext.refl w).alloc (.cells #[.int .i64 4, .int .i64 8, .int .i64 16] 3)).size
  have hb := Nat.le_trans hz0 hb
  have hg := Nat.le_trans hz0 hg
  have hh := Nat.le_trans hz0 hh
  have hS : ∀ i, (i = b ∨ i = g ∨ i = h) → w.heap.size ≤ i := by rintro i (rfl | rfl | rfl) <;> assumption
  clear hl hx hnc hz0
  go_wp2_with fail
  refine (from_any _ _ _ _).mono ?_
  rintro e w2 ⟨rfl, rfl⟩
  have hsrc : Src w.heap.size (w1.alloc (.cells #[.slice a len cap, .int .i64 0] 104)) w1.heap.size := src_of_row hrow hx1
  have hbl : b < w1.heap.size := hl1.2.2.2.1
  have hgl : g < w1.heap.size := hl1.2.2.2.2.2.2.2.2.1.1
  have hhl : h < w1.heap.size := hl1.2.2.2.2.2.2.2.2.2.1
  have hl2 := hl1.ext ((Ext.refl _).alloc (.cells #[.slice a len cap, .int .i64 0] 104))
  have hx2 := hx1.alloc (.cells #[.slice a len cap, .int .i64 0] 104)
  obtain ⟨sb, hsb⟩ : ∃ sb, w1.heap.size = sb := ⟨_, rfl⟩
  rw [hsb] at hsrc hbl hgl hhl
  have hsB : w.heap.size ≤ sb := by rw [← hsb]; exact hx1.size
  obtain ⟨w2, hw2⟩ : ∃ w2, w1.alloc (.cells #[.slice a len cap, .int .i64 0] 104) = w2 := ⟨_, rfl⟩
  rw [hw2] at hsrc hl2 hx2 ⊢
  rw [hsb]
  have HP := Lib.hid (show PrI n w.heap.size b g h sb w w2 from ⟨_, _, _, hl2, lok_new (by omega), lown_new n, hsrc, hx2⟩)
  clear hsb hw2 hl1 hx1 hrow hsrc hl2 hx2
  go_wp2_with fail
  go_loopw [9] (fun o wr => ∃ k : Nat, k ≤ 60 ∧ o = .int .i64 (k : Int) ∧ PrI n w.heap.size b g h sb w wr) (fun o _ => (60 - intOf o).toNat)
  case atStart => exact ⟨0, by omega, rfl, HP.out⟩
  case round =>
    clear HP
    obtain ⟨k, hk60, rfl, sl, ow, u, hl, ho, hw, hsrc, hx⟩ := hrel
    by_cases hk : k < 60
    · have hd : decide ((k : Int) < 60) = true := by simp; omega
      have Hl := Lib.hid hl
      have Ho := Lib.hid ho
      have Hw := Lib.hid hw
      have Hx := Lib.hid hx
      clear hl ho hw hx
      go_wp2_with fail
      refine (left_src _ _ _ hsrc).mono ?_
      rintro e w3 ⟨⟨v, rfl⟩, hsrc3, hc3⟩
      have Hl3 := Lib.hid (Hl.out.chg_far hc3 (by omega) (by omega) (by omega))
      have Hx3 := Lib.hid (Hx.out.chg_new hc3 (fun i hi => by subst hi; exact hsB))
      clear hsrc hc3 Hl Hx
      cases v
      · go_wp2_with fail
        refine (awake25 _).mono ?_
        rintro e w4 ⟨rfl, hx4⟩
        have Hx4 := Lib.hid (Hx3.out.trans hx4)
        clear hx4
        go_wp2_with fail
        go_ret
        exact ⟨rfl, Ext.below Hx4.out⟩
      · go_wp2_with fail
        refine (key_any _ _ _ hsrc3).mono ?_
        rintro e w4 ⟨s1, hs1, rfl, hsrc4, hc4⟩
        have Hl4 := Lib.hid (Hl3.out.chg_far hc4 (by omega) (by omega) (by omega))
        have Hx4 := Lib.hid (Hx3.out.chg_new hc4 (fun i hi => by subst hi; exact hsB))
        clear hc4 hsrc3 Hl3 Hx3
        go_wp2_with fail
        refine (next_any _ _ (by omega) (by omega) _ _ hsrc4).mono ?_
        rintro e w5 ⟨v, hv, rfl, hsrc5, hc5, _⟩
        have Hl5 := Lib.hid (Hl4.out.chg_far hc5 (by omega) (by omega) (by omega))
        have Hx5 := Lib.hid (Hx4.out.chg_new hc5 (fun i hi => by subst hi; exact hsB))
        clear hc5 hsrc4 Hl4 Hx4
        go_wp2_with fail
        refine (next_any _ _ (by omega) (by omega) _ _ hsrc5).mono ?_
        rintro e w6 ⟨v2, hv2, rfl, hsrc6, hc6, _⟩
        have Hl6 := Lib.hid (Hl5.out.chg_far hc6 (by omega) (by omega) (by omega))
        have Hx6 := Lib.hid (Hx5.out.chg_new hc6 (fun i hi => by subst hi; exact hsB))
        clear hc6 hsrc5 Hl5 Hx5
        go_upto_if 53 with fail
        go_cut [10] from 51 to 61 (fun o wx => o = .string s1 ∧ PrI n w.heap.size b g h sb w wx)
        case first =>
          obtain ⟨fu, hfu, hfree⟩ := Ho.out.free
          have hks : s1.size ≤ maxLen := by rw [hs1]; unfold maxLen; omega
          have hbd := Ho.out.tab.bd
          by_cases hv0 : v2 = 0
          · subst hv0
            go_wp2_with fail
            refine (acquire_any b g h n sl ow u _ _ _ (by omega) (by omega) hks Hl6.out (by omega) (by omega) fu hfu hfree).mono ?_
            rintro e w7 ⟨code, sl7, ow7, u7, rfl, hsp, hl7, hc7⟩
            have Hl7 := Lib.hid hl7
            have Ho7 := Lib.hid (Ho.out.acq hks hsp)
            have Hw7 := Lib.hid (Ho.out.ownAcq Hw.out hsp)
            have hsrc7 := hsrc6.chg hc7 (by rintro (e | e | e) <;> omega) (by intro i hi hb; have := hS i hb; omega)
            have Hx7 := Lib.hid (Hx6.out.chg_new hc7 hS)
            clear hl7 hsp hc7 hsrc6 Hl6 Hx6 hfree
            go_wp2_with fail
            go_meet
            exact ⟨rfl, sl7, ow7, u7, Hl7.out, Ho7.out, Hw7.out, hsrc7, Hx7.out⟩
          · have hv1 : (v2 : Int) ≠ 0 := by omega
            have hv3 : ((v2 : Int) == 0) = false := by simpa using hv1
            clear hv1
            go_wp2_with fail
            refine (release_any b g h n sl ow u _ _ _ (by omega) hks Hl6.out Ho.out.tab Ho.out.keys fu hfu hfree).mono ?_
            rintro e w7 ⟨code, sl7, ow7, u7, rfl, hsp, hl7, hc7⟩
            have Hl7 := Lib.hid hl7
            have Ho7 := Lib.hid (Ho.out.rel hsp)
            have Hw7 := Lib.hid (Ho.out.ownRel Hw.out hsp)
            have hsrc7 := hsrc6.chg hc7 (by rintro (e | e | e) <;> omega) (by intro i hi hb; have := hS i hb; omega)
            have Hx7 := Lib.hid (Hx6.out.chg_new hc7 hS)
            clear hl7 hsp hc7 hsrc6 Hl6 Hx6 hfree
            go_wp2_with fail
            go_meet
            exact ⟨rfl, sl7, ow7, u7, Hl7.out, Ho7.out, Hw7.out, hsrc7, Hx7.out⟩
        case rest =>
          clear Ho Hw Hl6 Hx6 hsrc6
          obtain ⟨rfl, sl, ow, u, hl, ho, hw, hsrc, hx⟩ := hcut
          have Hl := Lib.hid hl
          have Ho := Lib.hid ho
          have Hw := Lib.hid hw
          have Hx := Lib.hid hx
          have Hs := Lib.hid hsrc
          clear hl ho hw hx hsrc
          go_wp2_with fail
          refine (lslots_any b g h n sl ow u _ (by omega) Hl.out).mono ?_
          rintro e w7 ⟨v7, rfl, hr7, hx7⟩
          obtain ⟨g7, o7, c7, rfl, hc70, hc71, _, _, _⟩ := hr7.at_ (show 0 < n by omega)
          have Hr7 := Lib.hid hr7
          have Hl7 := Lib.hid (Hl.out.ext hx7)
          have Hx7 := Lib.hid (Hx.out.trans hx7)
          have Hs7 := Lib.hid (Hs.out.ext hx7)
          clear hr7 hx7 Hl Hx Hs
          go_wp2_with fail
          refine (lkeys_any b g h n sl ow u _ (by omega) Hl7.out).mono ?_
          rintro e w8 ⟨v8, rfl, ho8, hx8⟩
          obtain ⟨a8, k8, hv8⟩ := own_shape ho8
          subst hv8
          have hr8 : Rd w8 (fun _ => True) 1 _ _ _ := Rd.of_own ho8 (fun _ _ => trivial)
          have hlen : (keysK sl (fun _ => true) n).length ≤ n := by rw [keysK_len]; exact colK_len _ _ _
          have hnum := keysK_num Ho.out.tab
          obtain ⟨ks, hks⟩ : ∃ ks, keysK sl (fun _ => true) n = ks := ⟨_, rfl⟩
          rw [hks] at hr8 hlen hnum
          rw [hks]
          have Hks := Lib.hid hks
          have Hnum := Lib.hid hnum
          clear hnum
          have Hr8 := Lib.hid hr8
          have Hr7 := Lib.hid (Hr7.out.ext hx8)
          have Hl8 := Lib.hid (Hl7.out.ext hx8)
          have Hx8 := Lib.hid (Hx7.out.trans hx8)
          have Hs8 := Lib.hid (Hs7.out.ext hx8)
          clear ho8 hx8 hr8 hks Hl7 Hx7 Hs7
          have hc72 : c7 ≤ 9223372036854775807 := by unfold maxLen at hc71; omega
          go_wp2_with fail
          go_loopw [14, 72] (fun us o wr => ∃ i : Nat, i ≤ n ∧ us = .int .i64 (cnt sl i : Nat) ∧ o = .int .i64 (i : Int) ∧ Ext w8 wr) (fun _ o _ => n - (intOf o).toNat)
          case atStart => exact ⟨0, by omega, rfl, rfl, Ext.refl _⟩
          case round =>
            obtain ⟨i, hi, rfl, rfl, hxr⟩ := hrel
            by_cases hin : i < n
            · have hd2 : decide ((i : Int) < (n : Int)) = true := by simpa using hin
              obtain ⟨d0, d1⟩ := rd_slot (Hr7.out.ext hxr) hin
              have i0 : (0 : Int) ≤ (i : Int) := by omega
              have i1 : (i : Int) < (n : Int) := by omega
              have hcs : cnt sl (i + 1) = cnt sl i + if (sl i).isSome then 1 else 0 := rfl
              have hcl := cnt_le sl i
              have Hxr := Lib.hid hxr
              clear hxr
              cases hsi : (sl i).isSome
              · rw [hsi] at d0 hcs
                have Hcs := Lib.hid hcs
                clear hcs hsi
                go_wp2_with fail
                go_roundw
                case rel => exact ⟨i + 1, by omega, by rw [Hcs.out]; simp, by go_num, Hxr.out.alloc _⟩
                case measure => simp [intOf]; omega
              · rw [hsi] at d0 hcs
                have Hcs := Lib.hid hcs
                clear hcs hsi
                go_wp2_with fail
                go_roundw
                case rel => exact ⟨i + 1, by omega, by rw [Hcs.out]; first | (simp; done) | (simp; go_num), by go_num, Hxr.out.alloc _⟩
                case measure => simp [intOf]; omega
            · have hd2 : decide ((i : Int) < (n : Int)) = false := by simp; omega
              have hin2 : i = n := by omega
              subst hin2
              have Hr7 := Lib.hid (Hr7.out.ext hxr)
              have Hr8 := Lib.hid (Hr8.out.ext hxr)
              have Hl8 := Lib.hid (Hl8.out.ext hxr)
              have Hx8 := Lib.hid (Hx8.out.trans hxr)
              have Hs8 := Lib.hid (Hs8.out.ext hxr)
              clear hxr
              go_wp2_with fail
              go_loopw [83] (fun o wq => ∃ j : Nat, j ≤ ks.length ∧ o = .int .i64 (j : Int) ∧ Ext wr wq) (fun o _ => ks.length - (intOf o).toNat)
              case atStart => exact ⟨0, by omega, rfl, Ext.refl _⟩
              case round =>
                obtain ⟨j, hj, rfl, hxq⟩ := hrel
                by_cases hjn : j < ks.length
                · have hd3 : decide ((j : Int) < (ks.length : Int)) = true := by simpa using hjn
                  obtain ⟨x, hx⟩ : ∃ x, ks[j]? = some x := ⟨ks[j], by simp [hjn]⟩
                  obtain ⟨i0, key, hi0, hsi0, _, hkx⟩ := keysK_at (by rw [Hks.out]; exact hx)
                  obtain ⟨g9, o9, c9, e9, h91, h92, _, _, hc9⟩ := (Hr8.out.ext hxq).at_ hjn
                  have d0 := hc9 j (.string key) (by rw [List.getElem?_map, hx, ← hkx]; simp [enc_key])
                  simp only [Value.slice.injEq, true_and] at e9
                  obtain ⟨rfl, rfl⟩ := e9
                  have hks := Ho.out.keys i0 key hi0 hsi0
                  obtain ⟨hD, hoff, hway⟩ := Ho.out.tab.way ⟨hi0, hsi0⟩
                  obtain ⟨hh0, hhI⟩ := homeN_lt key (show 0 < i by omega)
                  obtain ⟨D, hDe⟩ : ∃ D, dist i (homeN key i) i0 = D := ⟨_, rfl⟩
                  rw [hDe] at hD hoff hway
                  have j0 : (0 : Int) ≤ (j : Int) := by omega
                  have j1 : (j : Int) < (ks.length : Int) := by omega
                  have hc92 : k8 ≤ 9223372036854775807 := by unfold maxLen at h92; omega
                  have Hrq := Lib.hid (Hr7.out.ext hxq)
                  have Hlq := Lib.hid (Hl8.out.ext hxq)
                  have Hxq := Lib.hid hxq
                  have Hway := Lib.hid hway
                  have Hsi0 := Lib.hid hsi0
                  have Hoff := Lib.hid hoff
                  have HhI := Lib.hid hhI
                  clear hx hkx hxq hway hsi0 hDe hc9 hoff hhI
                  have hne0 : ((i : Int) == 0) = false := by simp; omega
                  go_wp2_with (go_at_call 46; refine (rhome_any _ _ _ hks).mono ?_; rintro e w9 ⟨rfl, rfl⟩; rw [HhI.out])
                  go_loopw [19, 20] (fun o st wz => ∃ d : Nat, d ≤ D ∧ o = .int .i64 (off i (homeN key i) d : Nat) ∧ st = .int .i64 (d : Int) ∧ wz = wr) (fun _ st _ => D - (intOf st).toNat)
                  case atStart => exact ⟨0, by omega, by rw [off_zero hh0], rfl, rfl⟩
                  case round =>
                    obtain ⟨d, hdD, rfl, rfl, rfl⟩ := hrel
                    have hpo := off_lt hh0 (show d < i by omega)
                    obtain ⟨po, hpoe⟩ : ∃ po, off i (homeN key i) d = po := ⟨_, rfl⟩
                    have hd4 : decide ((d : Int) < (i : Int)) = true := by simp; omega
                    rw [hpoe] at hpo ⊢
                    obtain ⟨e0, e1⟩ := rd_slot Hrq.out hpo
                    have p0 : (0 : Int) ≤ (po : Int) := by omega
                    have p1 : (po : Int) < (i : Int) := by omega
                    by_cases hlt : d < D
                    · obtain ⟨k', hk', hkne⟩ := Hway.out d hlt
                      rw [hpoe] at hk'
                      rw [hk'] at e0 e1
                      simp only [Option.isSome, Option.getD] at e0 e1
                      have hbn := bytes_ne hkne
                      have hnx := nx_tmod hpo
                      have Hos := Lib.hid (off_succ hh0 (show d + 1 < i by omega))
                      have Hpoe := Lib.hid hpoe
                      clear hk' hkne hpoe
                      go_wp2_with fail
                      go_roundw
                      case rel => exact ⟨d + 1, by omega, by rw [Hos.out, Hpoe.out], by go_num, trivial⟩
                      case measure => simp [intOf]; omega
                    · have hdD2 : d = D := by omega
                      subst hdD2
                      have hpi : po = i0 := by rw [← hpoe]; exact Hoff.out
                      subst hpi
                      rw [Hsi0.out] at e0 e1
                      simp only [Option.isSome, Option.getD] at e0 e1
                      clear hpoe
                      obtain ⟨fu, hfu, hfree⟩ := Ho.out.free
                      have Hfree := Lib.hid hfree
                      clear hfree
                      go_wp2_with fail
                      refine (owner_any b g h i sl ow u key _ (by omega) (by omega) hks Hlq.out fu hfu Hfree.out).mono ?_
                      rintro e w9 ⟨p9, ok9, hf9, rfl, hx9⟩
                      obtain ⟨rfl, rfl, hpos⟩ := Ho.out.ownFind Hw.out ⟨hi0, Hsi0.out⟩ hf9
                      have hdp : decide (ow p9 < 0) = false := by simp; omega
                      have Hx9 := Lib.hid (Hxq.out.trans hx9)
                      simp only [if_true]
                      clear hx9 hf9 hpos
                      go_wp2_with fail
                      go_roundw
                      case rel => exact ⟨j + 1, by omega, by go_num, Hx9.out⟩
                      case measure => simp [intOf]; omega
                · have hje : j = ks.length := by omega
                  subst hje
                  have hd3 : decide ((ks.length : Int) < (ks.length : Int)) = false := by simp
                  have hcn : ((cnt sl i : Nat) : Int) = (ks.length : Int) := by rw [Hnum.out, Ho.out.tab.num]
                  have hroom := Ho.out.room
                  have hge : ¬ i ≤ ks.length := by have hnum := Hnum.out; omega
                  have hkl : k + 1 ≤ 60 := by omega
                  have Hfin := Lib.hid (show PrI i w.heap.size b g h sb w wr from ⟨sl, ow, u, Hl8.out.ext hxq, Ho.out, Hw.out, Hs8.out.ext hxq, Hx8.out.trans hxq⟩)
                  rw [hcn]
                  clear hxq hroom hcn
                  go_wp2_with fail
                  go_roundw
                  case rel => exact ⟨k + 1, hkl, by go_num, Hfin.out⟩
                  case measure => simp [intOf]; omega
    · have hd : decide ((k : Int) < 60) = false := by simp; omega
      have Hx := Lib.hid hx
      clear hl ho hw hsrc hx
      go_wp2_with fail
      refine (awake25 _).mono ?_
      rintro e w4 ⟨rfl, hx4⟩
      have Hx4 := Lib.hid (Hx.out.trans hx4)
      clear hx4
      go_wp2_with fail
      go_ret
      exact ⟨rfl, Ext.below Hx4.out⟩
end locksProbes
end Go.Proofs.Ytkhfjedeccjnbaa
