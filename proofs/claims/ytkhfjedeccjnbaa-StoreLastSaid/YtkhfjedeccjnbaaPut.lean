/-
  What double and Put of a store do (26.3).
  Conditions: keys' lengths are those of Go strings; at least one slot of a table is unused.
-/
import Derived.Test.YtkhfjedeccjnbaaStore2
import Derived.StillTailTactics
namespace Go.Proofs.Ytkhfjedeccjnbaa
open Go.RowKit Go.Sort
set_option maxHeartbeats 1000000

theorem StoreAt.chg {w w' : World} {b g h n : Nat} {sl : Nat → Option ByteArray} {f : Nat → Rc} {u : Int} {S : Nat → Prop} (k : StoreAt w b g h n sl f u) (c : Chg S w w') (h1 : ¬ S b) (h2 : ¬ S g) (h3 : ¬ S h) : StoreAt w' b g h n sl f u :=
  k.keep c.size (c.block b k.2.2.2.1 h1) (c.block g k.2.2.2.2.2.2.2.2.1.1 h2) (c.block h k.2.2.2.2.2.2.2.2.2.1 h3)
/-- The loop of double: the first i slots have been put into the new store. -/
def DblRel (w : World) (b g h n : Nat) (sl : Nat → Option ByteArray) (f : Nat → Rc) (u : Int) (y gy hy : Nat) (i : Nat) (wr : World) : Prop :=
  StoreAt wr b g h n sl f u ∧ w.heap.size ≤ y ∧ w.heap.size ≤ gy ∧ w.heap.size ≤ hy ∧ (∃ s r v, StoreAt wr y gy hy (2 * n) s r v ∧ Dbl rc0 (2 * n) sl f i s r v) ∧ Ext w wr
theorem dbl_first {w : World} {b g h n : Nat} {sl : Nat → Option ByteArray} {f : Nat → Rc} {u : Int} (hl : StoreAt w b g h n sl f u) {w1 : World} (hx : Ext w w1) {y gy hy : Nat} (h1 : w.heap.size ≤ y) (h2 : w.heap.size ≤ gy) (h3 : w.heap.size ≤ hy)
    (hs : StoreAt w1 y gy hy (2 * n) (fun _ => none) (fun _ => rc0) 0) : DblRel w b g h n sl f u y gy hy 0 w1 :=
  ⟨hl.ext hx, h1, h2, h3, ⟨_, _, _, hs, rfl, rfl, rfl⟩, hx⟩
/-- After double: the store has twice as many slots; its slots and records lie in new blocks. -/
def SDblPost (b n : Nat) (sl : Nat → Option ByteArray) (f : Nat → Rc) (w : World) (e : Ending) (w' : World) : Prop :=
  e = .returned (.tuple #[]) ∧ ∃ gy hy s r v, w.heap.size ≤ gy ∧ w.heap.size ≤ hy ∧ StoreAt w' b gy hy (2 * n) s r v ∧ Dbl rc0 (2 * n) sl f n s r v ∧ Chg (· = b) w w'
def DblCut (w : World) (b g h n : Nat) (sl : Nat → Option ByteArray) (f : Nat → Rc) (u : Int) (s2 : Value) (wx : World) : Prop :=
  ∃ y gy hy, s2 = .pointer (some ⟨y, 0, none⟩) ∧ DblRel w b g h n sl f u y gy hy 0 wx
theorem StoreAt.copy {w : World} {b gb hb nb y gy hy n : Nat} {sb sl : Nat → Option ByteArray} {fb f : Nat → Rc} {ub u : Int} (kb : StoreAt w b gb hb nb sb fb ub) (k : StoreAt w y gy hy n sl f u) (h1 : b ≠ gy) (h2 : b ≠ hy) :
    StoreAt (((w.setCell ⟨b, 0, none⟩ (.slice (some ⟨gy, 0, none⟩) n n)).setCell ⟨b, 1, none⟩ (.slice (some ⟨hy, 0, none⟩) n n)).setCell ⟨b, 2, none⟩ (.int .i64 u)) b gy hy n sl f u := by
  obtain ⟨_, _, _, k4, k5, k6, k7, k8, _, _⟩ := kb
  obtain ⟨_, _, q3, q4, q5, q6, q7, q8, q9, q10⟩ := k
  refine ⟨h1, h2, q3, by simpa [World.setCell] using k4, fun j => by go_simp, by go_simp, by go_simp, by go_simp, ?_, ?_⟩
  · exact ((q9.far (q := ⟨b, 0, none⟩) (Ne.symm h1) _).far (q := ⟨b, 1, none⟩) (Ne.symm h1) _).far (q := ⟨b, 2, none⟩) (Ne.symm h1) _
  · exact ((q10.far (q := ⟨b, 0, none⟩) (Ne.symm h2) _).far (q := ⟨b, 1, none⟩) (Ne.symm h2) _).far (q := ⟨b, 2, none⟩) (Ne.symm h2) _
set_option maxRecDepth 100000 in
theorem sdouble_any (b g h n : Nat) (sl : Nat → Option ByteArray) (f : Nat → Rc) (u : Int) (w : World) (o : StOk n sl u) (hl : StoreAt w b g h n sl f u) :
    Calls Try.prog 103 #[.pointer (some ⟨b, 0, none⟩)] w (SDblPost b n sl f w) := by
  have hn := o.lo
  have hm := o.hi
  have k1 := make_slots (2 * n) (by omega)
  have k2 := make_recs (2 * n) (by omega)
  have ec : ((2 * n : Nat) : Int) = 2 * (n : Int) := by omega
  rw [ec] at k1 k2
  have Hl := Lib.hid hl
  have hbl := hl.2.2.2.1
  have hgl : g < w.heap.size := hl.2.2.2.2.2.2.2.2.1.1
  have hhl : h < w.heap.size := hl.2.2.2.2.2.2.2.2.2.1
  obtain ⟨_, _, _, hb, _, c0, c1, c2, _, _⟩ := hl
  clear ec
  go_enter Try.func103, Try.ntmps103
  go_wp2_with fail
  go_cut [2] (fun s2 wx => DblCut w b g h n sl f u s2 wx)
  case first =>
    go_region
    · go_wp2_with fail
      go_meet
      obtain ⟨x1, x2, x3⟩ := heap3 w _ _ _
      exact ⟨w.heap.size + 2, w.heap.size, w.heap.size + 1, rfl, dbl_first Hl.out (by repeat' (first | exact Ext.refl _ | assumption | apply Ext.alloc | apply Ext.drewN | apply Ext.drew | (refine Ext.trans ?_ (by assumption)) | (refine ext_setCell ?_ (by first | (simp; done) | (simp; omega)) _))) (by omega) (by omega) (by omega) (store_new x3 x1 x2 (by omega) (by omega) (by omega))⟩
    · go_wp2_with fail
      go_meet
      obtain ⟨x1, x2, x3⟩ := heap3 w _ _ _
      exact ⟨w.heap.size + 2, w.heap.size + 1, w.heap.size, rfl, dbl_first Hl.out (by repeat' (first | exact Ext.refl _ | assumption | apply Ext.alloc | apply Ext.drewN | apply Ext.drew | (refine Ext.trans ?_ (by assumption)) | (refine ext_setCell ?_ (by first | (simp; done) | (simp; omega)) _))) (by omega) (by omega) (by omega) (store_new x3 x2 x1 (by omega) (by omega) (by omega))⟩
  case rest =>
    obtain ⟨y, gy, hy, rfl, hrel0⟩ := hcut
    clear c0 c1 c2 k1 k2
    have Hrel0 := Lib.hid hrel0
    obtain ⟨hl0, hy1, hy2, hy3, _, hx0⟩ := hrel0
    obtain ⟨_, _, _, _, _, c0, c1, c2, _, _⟩ := hl0
    go_wp2_with fail
    clear hx0
    go_loopw [26] (fun o wr => ∃ i : Nat, i ≤ n ∧ o = .int .i64 (i : Int) ∧ DblRel w b g h n sl f u y gy hy i wr) (fun o _ => n - (intOf o).toNat)
    case atStart => exact ⟨0, by omega, rfl, Hrel0.out⟩
    case round =>
      clear c0 c1 c2 Hrel0
      obtain ⟨i, hi, rfl, hlr, _, _, _, ⟨s, r, v, hsr, hdbl⟩, hx⟩ := hrel
      obtain ⟨t1, hv, _⟩ := dbl_inv o.tab (show 0 < 2 * n by omega) hi hdbl
      have hcnt := cnt_le sl i
      have hv0 : 0 ≤ v := by omega
      have hvn : v ≤ n := by omega
      have hlr' := hlr
      obtain ⟨_, _, _, hb, _, c0, c1, c2, hsl, _, _, hrc⟩ := hlr'
      by_cases hin : i < n
      · have hd : decide ((i : Int) < (n : Int)) = true := by simpa using hin
        obtain ⟨d0, d1⟩ := hsl.2.2 i hin
        obtain ⟨e0, e1, e2, e3⟩ := hrc i hin
        obtain ⟨fu, hfu, hfree⟩ := t1.free (by omega)
        clear hsl hrc
        have Hv := Lib.hid hv
        have Hlr := Lib.hid hlr
        have Hsr := Lib.hid hsr
        have Hx := Lib.hid hx
        clear hv hlr hsr hx
        cases hsi : sl i with
        | none =>
          have Hsi := Lib.hid hsi
          rw [hsi] at d0 d1
          simp only [Option.isSome, Option.getD] at d0 d1
          clear hsi
          go_wp2_with fail
          go_roundw
          case rel => exact ⟨i + 1, by omega, by go_num, (Hlr.out.ext (by repeat' (first | exact Ext.refl _ | assumption | apply Ext.alloc | apply Ext.drewN | apply Ext.drew | (refine Ext.trans ?_ (by assumption)) | (refine ext_setCell ?_ (by first | (simp; done) | (simp; omega)) _)))), hy1, hy2, hy3, ⟨s, r, v, Hsr.out.ext (by repeat' (first | exact Ext.refl _ | assumption | apply Ext.alloc | apply Ext.drewN | apply Ext.drew | (refine Ext.trans ?_ (by assumption)) | (refine ext_setCell ?_ (by first | (simp; done) | (simp; omega)) _))), .inl ⟨Hsi.out, hdbl⟩⟩, (Hx.out.trans (by repeat' (first | exact Ext.refl _ | assumption | apply Ext.alloc | apply Ext.drewN | apply Ext.drew | (refine Ext.trans ?_ (by assumption)) | (refine ext_setCell ?_ (by first | (simp; done) | (simp; omega)) _))))⟩
          case measure => simp [intOf]; omega
        | some k =>
          have Hsi := Lib.hid hsi
          have hks := o.keys i k hin hsi
          rw [hsi] at d0 d1
          simp only [Option.isSome, Option.getD] at d0 d1
          clear hsi
          have hg1 : ∀ o, Ext wr (wr.alloc o) := fun o => (Ext.refl wr).alloc o
          have i0 : (0 : Int) ≤ (i : Int) := by omega
          have i1 : (i : Int) < (n : Int) := by omega
          have ho := Hlr.out.2.2.2.2.2.2.2.2.2.1
          have yl1 := Hsr.out.2.2.2.1
          have yl2 := Hsr.out.2.2.2.2.2.2.2.2.1.1
          have yl3 := Hsr.out.2.2.2.2.2.2.2.2.2.1
          go_wp2_with fail
          go_region_held3 (fun w' => w'.cell? ⟨wr.heap.size, 1, none⟩ = some (.string k) ∧ w'.cell? ⟨b, 1, none⟩ = some (.slice (some ⟨h, 0, none⟩) n n) ∧ w'.cell? ⟨h, i * 4, none⟩ = some (.int .i64 (f i).st) ∧ w'.cell? ⟨h, i * 4 + 1, none⟩ = some (.int .i64 (f i).ow) ∧ w'.cell? ⟨h, i * 4 + 2, none⟩ = some (.string (f i).nm) ∧ w'.cell? ⟨h, i * 4 + 3, none⟩ = some (.int .i64 (f i).dl)) (go_keep)
            ((go_at_call 104; refine (sins_any y gy hy (2 * n) s r v k (f i) _ (by omega) (by omega) hks (Hsr.out.ext (by repeat' (first | exact Ext.refl _ | assumption | apply Ext.alloc | apply Ext.drewN | apply Ext.drew | (refine Ext.trans ?_ (by assumption)) | (refine ext_setCell ?_ (by first | (simp; done) | (simp; omega)) _)))) hv0 (by omega) fu hfu hfree).mono ?_; rintro e w' ⟨rfl, p, ok, hf, hl', hc'⟩; have q1 := (hc'.cell (p := ⟨wr.heap.size, 1, none⟩) (by simp) (by simp only; omega)).trans (show _ = some (Value.string k) by go_simp); have q2 := (hc'.cell (p := ⟨b, 1, none⟩) (by simp; omega) (by simp only; omega)).trans (show _ = some (Value.slice (some ⟨h, 0, none⟩) n n) by go_simp); have q3 := (hc'.cell (p := ⟨h, i * 4, none⟩) (by simp; omega) (by simp only; omega)).trans (show _ = some (Value.int .i64 (f i).st) by go_simp); have q4 := (hc'.cell (p := ⟨h, i * 4 + 1, none⟩) (by simp; omega) (by simp only; omega)).trans (show _ = some (Value.int .i64 (f i).ow) by go_simp); have q5 := (hc'.cell (p := ⟨h, i * 4 + 2, none⟩) (by simp; omega) (by simp only; omega)).trans (show _ = some (Value.string (f i).nm) by go_simp); have q6 := (hc'.cell (p := ⟨h, i * 4 + 3, none⟩) (by simp; omega) (by simp only; omega)).trans (show _ = some (Value.int .i64 (f i).dl) by go_simp)))
          all_goals
            have hno := dbl_new o.tab (show 0 < 2 * n by omega) hin hdbl Hsi.out
            obtain ⟨rfl, _⟩ := Tab.miss hno hf
            have hx1 : Ext w (wr.alloc (.cells #[.bool true, .string k] 91)).drew := (Hx.out.alloc _).drew
            have hx2 := hx1.chg_new hc' (by rintro j (rfl | rfl | rfl) <;> assumption)
            have hl2 : StoreAt w' b g h n sl f u := (Hlr.out.ext (((Ext.refl wr).alloc (.cells #[.bool true, .string k] 91)).drew)).chg hc' (by omega) (by omega) (by omega)
            have Hl' := Lib.hid hl'
            have Hl2 := Lib.hid hl2
            have Hx2 := Lib.hid hx2
            clear hl' hl2 hx1 hx2 hc'
            go_wp2_with fail
            go_roundw
            case rel => exact ⟨i + 1, by omega, by go_num, Hl2.out, hy1, hy2, hy3, ⟨_, _, _, Hl'.out, .inr ⟨k, p, s, r, v, Hsi.out, hdbl, hf, rfl, rfl, rfl⟩⟩, Hx2.out⟩
            case measure => simp [intOf]; omega
      · have hd : decide ((i : Int) < (n : Int)) = false := by simp; omega
        have hii : i = n := by omega
        have Hlr := Lib.hid hlr
        have Hsr := Lib.hid hsr
        have Hx := Lib.hid hx
        have hsr' := hsr
        have hbf := hlr.2.2.2.2.1
        obtain ⟨_, _, _, hyl, _, y0, y1, y2, _, _⟩ := hsr'
        subst hii
        clear hlr hsr hx hv hsl hrc
        go_wp2_with fail
        go_end0
        refine ⟨rfl, gy, hy, s, r, v, hy2, hy3, Hlr.out.copy Hsr.out (by omega) (by omega), hdbl, ?_⟩
        have hc := Hx.out.chg (· = b)
        exact ((hc.setCell (p := ⟨b, 0, none⟩) (.inl rfl) _).setCell (p := ⟨b, 1, none⟩) (.inl rfl) _).setCell (p := ⟨b, 2, none⟩) (.inl rfl) _
end Go.Proofs.Ytkhfjedeccjnbaa
