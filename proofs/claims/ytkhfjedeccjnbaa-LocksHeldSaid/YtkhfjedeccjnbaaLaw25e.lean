/-
  The walk of LocksScript: it returns true and changes nothing that was there.
  Conditions: none.
-/
import Derived.Test.YtkhfjedeccjnbaaAgree
import Derived.Deep.CutBlock
namespace Go.Proofs.Ytkhfjedeccjnbaa
open Go.RowKit Go.Sort
set_option maxHeartbeats 8000000

theorem lboth_new {w0 w1 w2 : World} {xb g h yb t s n : Nat} (hw : Ext w0 w1) (hb : w0.heap.size ≤ xb) (hg : w0.heap.size ≤ g) (hh : w0.heap.size ≤ h) (hl : LocksAt w1 xb g h n (fun _ => none) (fun _ => 0) 0) (hx2 : Ext w1 w2)
    (h1 : w1.heap.size ≤ yb) (h2 : w1.heap.size ≤ t) (h3 : w1.heap.size ≤ s) (bt : yb ≠ t) (bs : yb ≠ s) (hT : TableAt w2 t s n (fun _ => -1) (.slice none 0 0)) (hB : w2.heap[yb]? = some (.cells #[.pointer (some ⟨t, 0, none⟩), .slice none 0 0] 102)) (hn : 0 < n) :
    LBoth w0 xb yb n g h w2 (fun _ => none) (fun _ => 0) 0 (fun k => k = yb ∨ k = t ∨ k = s) [] 0 := by
  have l1 := hl.2.2.2.1
  have l2 := hl.2.2.2.2.2.2.2.2.1.1
  have l3 := hl.2.2.2.2.2.2.2.2.2.1
  have hz := hw.size
  refine ⟨hl.ext hx2, rlk_new hT bt bs hB, lok_new hn, lcpl_new n, hw.trans hx2, hb, hg, hh, ?_, ?_⟩
  · rintro k (rfl | rfl | rfl) <;> omega
  · rintro k (rfl | rfl | rfl) <;> (refine ⟨?_, ?_, ?_⟩ <;> omega)
/-- What the locks of the walk are like. -/
def ScI (w : World) (xb yb n g h sb k : Nat) (wr : World) : Prop := ∃ sl ow u S os L, LBoth w xb yb n g h wr sl ow u S os L ∧ L ≤ k ∧ (∀ i, S i → i ≠ sb) ∧ Src w.heap.size wr sb
set_option maxRecDepth 100000
namespace locksScript
theorem walk (a : Option Addr) (len cap : Nat) (zs : List Int) (a1 : Int) (w : World) (hrow : IsRow .i64 w a len cap zs) (_ : I64 a1) :
    Calls Try.prog 23 #[.slice a len cap, .int .i64 a1] w fun e w' => e = .returned (.bool true) ∧ Below w.heap.size w w' := by
  have hpb := pickI_bd a1 4 (by omega)
  obtain ⟨q, hq⟩ : ∃ q : Nat, pickI a1 4 = (q : Int) := ⟨(pickI a1 4).toNat, by omega⟩
  have hq1 : q < 4 := by omega
  have hq2 : (0 : Int) ≤ (q : Int) := by omega
  have hq3 : (q : Int) < 4 := by omega
  obtain ⟨n, hnc, hn2, hn16, hpw⟩ : ∃ n : Nat, (∀ w : World, (w.alloc (.cells #[.int .i64 2, .int .i64 4, .int .i64 8, .int .i64 16] 3)).cell? ⟨w.heap.size, q, none⟩ = some (.int .i64 (n : Int))) ∧ 2 ≤ n ∧ n ≤ 16 ∧ powB (n : Int) 2 = true := by
    rcases (show q = 0 ∨ q = 1 ∨ q = 2 ∨ q = 3 by omega) with rfl | rfl | rfl | rfl
    · exact ⟨2, fun w => by go_simp, by omega, by omega, by decide⟩
    · exact ⟨4, fun w => by go_simp, by omega, by omega, by decide⟩
    · exact ⟨8, fun w => by go_simp, by omega, by omega, by decide⟩
    · exact ⟨16, fun w => by go_simp, by omega, by omega, by decide⟩
  clear hpb
  have Hpw := Lib.hid hpw
  clear hpw
  go_enter Try.func23, Try.ntmps23
  go_wp2_with (go_at_call 29; refine (pick_any _ _ (by omega) (by omega) _).mono ?_; rintro e w' ⟨rfl, rfl⟩; rw [hq])
  refine (new_any (n : Int) _).mono ?_
  rintro e w1 (⟨hp, _⟩ | ⟨_, b, g, h, rfl, hb, hg, hh, hl, hx⟩)
  · exact absurd hp (by rw [Hpw.out]; decide)
  have hx1 : Ext w w1 := ((Ext.refl w).alloc _).trans hx
  have hl1 : LocksAt w1 b g h n (fun _ => none) (fun _ => 0) 0 := by simpa using hl
  have hz0 := ((Ext.refl w).alloc (.cells #[.int .i64 2, .int .i64 4, .int .i64 8, .int .i64 16] 3)).size
  have hb := Nat.le_trans hz0 hb
  have hg := Nat.le_trans hz0 hg
  have hh := Nat.le_trans hz0 hh
  have Hl1 := Lib.hid hl1
  have Hx1 := Lib.hid hx1
  clear hl hx hnc hz0 hl1 hx1
  go_wp2_with fail
  refine (rnew_any (n : Int) _).mono ?_
  rintro e w2 (⟨hp, _⟩ | ⟨_, yb, t, s, rfl, h1, h2, h3, bt, bs, hT, hB, hx2⟩)
  · exact absurd hp (by rw [Hpw.out]; decide)
  have hT' : TableAt w2 t s n (fun _ => -1) (.slice none 0 0) := by simpa using hT
  have HB := Lib.hid (lboth_new Hx1.out hb hg hh Hl1.out hx2 h1 h2 h3 bt bs hT' hB (by omega))
  have hyl : b < w2.heap.size ∧ g < w2.heap.size ∧ h < w2.heap.size := ⟨HB.out.x.2.2.2.1, HB.out.x.2.2.2.2.2.2.2.2.1.1, HB.out.x.2.2.2.2.2.2.2.2.2.1⟩
  have hSl : ∀ i, (i = yb ∨ i = t ∨ i = s) → i < w2.heap.size := HB.out.y.low
  clear hT hT' hB hx2 h1 h2 h3 bt bs Hl1 Hx1
  go_wp2_with fail
  refine (from_any _ _ _ _).mono ?_
  rintro e w3 ⟨rfl, rfl⟩
  have hsrc : Src w.heap.size (w2.alloc (.cells #[.slice a len cap, .int .i64 0] 104)) w2.heap.size := src_of_row hrow HB.out.ext
  have hB3 := HB.out.on ((Ext.refl _).alloc (.cells #[.slice a len cap, .int .i64 0] 104))
  have hsB := HB.out.ext.size
  obtain ⟨sb, hsb⟩ : ∃ sb, w2.heap.size = sb := ⟨_, rfl⟩
  rw [hsb] at hsrc hyl hSl hsB
  obtain ⟨w3, hw3⟩ : ∃ w3, w2.alloc (.cells #[.slice a len cap, .int .i64 0] 104) = w3 := ⟨_, rfl⟩
  rw [hw3] at hsrc hB3 ⊢
  rw [hsb]
  have HP := Lib.hid (show ScI w b yb n g h sb 0 w3 from ⟨_, _, _, _, _, _, hB3, Nat.le_refl _, fun i hi => Nat.ne_of_lt (hSl i hi), hsrc⟩)
  obtain ⟨hbl, hgl, hhl⟩ := hyl
  have f1 : b ≠ sb := by omega
  have f2 : g ≠ sb := by omega
  have f3 : h ≠ sb := by omega
  have hfar : ∀ i, (i = b ∨ i = g ∨ i = h) → i ≠ sb := by rintro i (rfl | rfl | rfl) <;> assumption
  clear hsb hw3 hrow hsrc hB3 HB hSl hbl hgl hhl
  go_wp2_with fail
  go_loopw [11] (fun o wr => ∃ k : Nat, k ≤ 60 ∧ o = .int .i64 (k : Int) ∧ ScI w b yb n g h sb k wr) (fun o _ => (60 - intOf o).toNat)
  case atStart => exact ⟨0, by omega, rfl, HP.out⟩
  case round =>
    clear HP
    obtain ⟨k, hk60, rfl, sl, ow, u, S, os, L, hB, hL, hfS, hsrc⟩ := hrel
    by_cases hk : k < 60
    · have hd : decide ((k : Int) < 60) = true := by simp; omega
      have HB := Lib.hid hB
      clear hB
      go_wp2_with fail
      refine (left_src _ _ _ hsrc).mono ?_
      rintro e w3 ⟨⟨v, rfl⟩, hsrc3, hc3⟩
      have HB3 := Lib.hid (HB.out.far hc3 hsB f1 f2 f3 hfS)
      clear hsrc hc3 HB
      cases v
      · go_wp2_with fail
        refine (awake25 _).mono ?_
        rintro e w4 ⟨rfl, hx4⟩
        have HB4 := Lib.hid (HB3.out.on hx4)
        clear hx4 HB3
        go_wp2_with fail
        refine (HB4.out.agrees (by omega)).mono ?_
        rintro e w5 ⟨rfl, hx5⟩
        have Hx5 := Lib.hid (HB4.out.ext.trans hx5)
        clear hx5
        go_wp2_with fail
        go_ret
        exact ⟨rfl, Ext.below Hx5.out⟩
      · go_wp2_with fail
        refine (key_any _ _ _ hsrc3).mono ?_
        rintro e w4 ⟨s1, hs1, rfl, hsrc4, hc4⟩
        have HB4 := Lib.hid (HB3.out.far hc4 hsB f1 f2 f3 hfS)
        clear hc4 hsrc3 HB3
        go_wp2_with fail
        refine (next_any _ _ (by omega) (by omega) _ _ hsrc4).mono ?_
        rintro e w5 ⟨v1, hv1, rfl, hsrc5, hc5, _⟩
        have HB5 := Lib.hid (HB4.out.far hc5 hsB f1 f2 f3 hfS)
        clear hc5 hsrc4 HB4
        go_wp2_with fail
        refine (next_any _ _ (by omega) (by omega) _ _ hsrc5).mono ?_
        rintro e w6 ⟨v2, hv2, rfl, hsrc6, hc6, _⟩
        have HB6 := Lib.hid (HB5.out.far hc6 hsB f1 f2 f3 hfS)
        clear hc6 hsrc5 HB5
        have v10 : (0 : Int) ≤ (v1 : Int) := by omega
        have v20 : (0 : Int) ≤ (v2 : Int) := by omega
        go_wp2_with fail
        refine (next_any _ _ (by omega) (by omega) _ _ hsrc6).mono ?_
        rintro e w7 ⟨v3, hv3, rfl, hsrc7, hc7, _⟩
        have HB7 := Lib.hid (HB6.out.far hc7 hsB f1 f2 f3 hfS)
        clear hc7 hsrc6 HB6
        have hks : s1.size ≤ maxLen := by rw [hs1]; unfold maxLen; omega
        go_upto_if 58 with fail
        go_cut [12] from 56 to 76 (fun o wx => o = .string s1 ∧ ScI w b yb n g h sb (k + 1) wx)
        case first =>
          by_cases hv : (v3 : Int) < 3
          · have hdv : decide ((v3 : Int) < 3) = true := by simpa using hv
            go_wp2_with fail
            refine (HB7.out.acqx (by omega) s1 hks _ (by omega)).mono ?_
            rintro e w8 ⟨code, rfl, hc8, hy⟩
            have hsrc8 := hsrc7.chg hc8 (fun h => hfar _ h rfl) (fun i hi h => absurd (HB7.out.new i h) (by omega))
            have Hy := Lib.hid hy
            clear hc8 hy hsrc7
            go_wp2_with fail
            refine Hy.out.mono ?_
            rintro e w9 ⟨rfl, sl', ow', u', S', os', hB9, hS9, hc9⟩
            have hsl := hsrc8.lt
            have hsrc9 := hsrc8.chg hc9 (fun h => hfS _ h rfl) (fun i hi h => absurd (HB7.out.hS i h) (by omega))
            have hf9 : ∀ i, S' i → i ≠ sb := fun i hi => by
              rcases hS9 i hi with h | h
              · exact hfS i h
              · omega
            have HB9 := Lib.hid hB9
            clear hB9 hS9 hc9 Hy
            go_wp2_with fail
            go_meet
            exact ⟨rfl, sl', ow', u', S', os', _, HB9.out, by omega, hf9, hsrc9⟩
          · have hdv : decide ((v3 : Int) < 3) = false := by simpa using hv
            go_wp2_with fail
            refine (HB7.out.relx (by omega) s1 hks _ (by omega)).mono ?_
            rintro e w8 ⟨code, rfl, hc8, hy⟩
            have hsrc8 := hsrc7.chg hc8 (fun h => hfar _ h rfl) (fun i hi h => absurd (HB7.out.new i h) (by omega))
            have Hy := Lib.hid hy
            clear hc8 hy hsrc7
            go_wp2_with fail
            refine Hy.out.mono ?_
            rintro e w9 ⟨rfl, sl', ow', u', S', os', hB9, hS9, hc9⟩
            have hsl := hsrc8.lt
            have hsrc9 := hsrc8.chg hc9 (fun h => hfS _ h rfl) (fun i hi h => absurd (HB7.out.hS i h) (by omega))
            have hf9 : ∀ i, S' i → i ≠ sb := fun i hi => by
              rcases hS9 i hi with h | h
              · exact hfS i h
              · omega
            have HB9 := Lib.hid hB9
            clear hB9 hS9 hc9 Hy
            go_wp2_with fail
            go_meet
            exact ⟨rfl, sl', ow', u', S', os', _, HB9.out, by omega, hf9, hsrc9⟩
        case rest =>
          clear HB7 hsrc7
          obtain ⟨rfl, sl, ow, u, S, os, L, hB, hL, hfS, hsrc⟩ := hcut
          have HB := Lib.hid hB
          have Hs := Lib.hid hsrc
          clear hB hsrc
          go_wp2_with fail
          refine (HB.out.ownx (by omega) s1 hks).mono ?_
          rintro e w8 ⟨rfl, hx8⟩
          have HB8 := Lib.hid (HB.out.on hx8)
          have Hs8 := Lib.hid (Hs.out.ext hx8)
          clear hx8 HB Hs
          obtain ⟨ov, hov⟩ : ∃ ov, lkOwner os s1 = ov := ⟨_, rfl⟩
          have Hov := Lib.hid hov
          rw [hov]
          clear hov
          go_wp2_with fail
          refine (HB8.out.owny s1).mono ?_
          rintro e w9 ⟨rfl, hx9⟩
          have HB9 := Lib.hid (HB8.out.on hx9)
          have Hs9 := Lib.hid (Hs8.out.ext hx9)
          clear hx9 HB8 Hs8
          rw [Hov.out]
          go_wp2_with fail
          refine (HB9.out.agrees (by omega)).mono ?_
          rintro e w10 ⟨rfl, hx10⟩
          have HB10 := Lib.hid (HB9.out.on hx10)
          have Hs10 := Lib.hid (Hs9.out.ext hx10)
          clear hx10 HB9 Hs9
          go_wp2_with fail
          go_roundw
          case rel => exact ⟨k + 1, by omega, by go_num, sl, ow, u, S, os, L, HB10.out, hL, hfS, Hs10.out⟩
          case measure => simp [intOf]; omega
    · have hd : decide ((k : Int) < 60) = false := by simp; omega
      have HB3 := Lib.hid hB
      clear hB hsrc
      go_wp2_with fail
      refine (awake25 _).mono ?_
      rintro e w4 ⟨rfl, hx4⟩
      have HB4 := Lib.hid (HB3.out.on hx4)
      clear hx4 HB3
      go_wp2_with fail
      refine (HB4.out.agrees (by omega)).mono ?_
      rintro e w5 ⟨rfl, hx5⟩
      have Hx5 := Lib.hid (HB4.out.ext.trans hx5)
      clear hx5
      go_wp2_with fail
      go_ret
      exact ⟨rfl, Ext.below Hx5.out⟩
end locksScript
end Go.Proofs.Ytkhfjedeccjnbaa
