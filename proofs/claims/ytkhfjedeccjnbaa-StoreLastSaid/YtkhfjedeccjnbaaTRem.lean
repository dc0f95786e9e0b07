/-
  What the reference's Remove does to a table (25.3): the same as the program's.
  Conditions: the slot has a key; at least one slot is unused; lengths within a process's reach.
-/
import Derived.Test.YtkhfjedeccjnbaaTIns
import Derived.Test.YtkhfjedeccjnbaaRel
import Derived.Deep.DeepCutAuto
import Derived.Deep.CutBlock
namespace Go.Proofs.Ytkhfjedeccjnbaa
open Go.RowKit Go.Sort
set_option maxHeartbeats 2000000

theorem inside_iff {n g h i : Nat} (hg : g < n) (hh : h < n) (hi : i < n) : (1 ≤ dist n g h ∧ dist n g h ≤ dist n g i) ↔ dist n h i < dist n g i := by
  unfold dist; (repeat' split) <;> omega
theorem enc_rem {n : Nat} {f : Nat → Int} {ks : List ByteArray} {sl : Nat → Option ByteArray} (h : Enc n f ks sl) (p : Nat) : Enc n (upd f p (-1)) ks (upd sl p none) := by
  intro i hi
  by_cases hip : i = p
  · subst hip
    exact .inl ⟨upd_same _ _ _, upd_same _ _ _⟩
  · rw [upd_other _ _ hip, upd_other _ _ hip]; exact h i hi
theorem enc_move {n : Nat} {f : Nat → Int} {ks : List ByteArray} {sl : Nat → Option ByteArray} (h : Enc n f ks sl) {g p : Nat} {k : ByteArray} (hp : p < n) (hk : sl p = some k) : Enc n (upd (upd f g (f p)) p (-1)) ks (upd (upd sl g (some k)) p none) := by
  intro i hi
  by_cases hip : i = p
  · subst hip
    exact .inl ⟨upd_same _ _ _, upd_same _ _ _⟩
  · rw [upd_other _ _ hip, upd_other _ _ hip]
    by_cases hig : i = g
    · subst hig
      rw [upd_same, upd_same]
      rcases h p hp with ⟨e, _⟩ | ⟨j, k', e1, e2, e3⟩
      · rw [hk] at e; simp at e
      · rw [hk] at e1; simp at e1; subst e1
        exact .inr ⟨j, k, rfl, e2, e3⟩
    · rw [upd_other _ _ hig, upd_other _ _ hig]; exact h i hi
/-- The relation of Remove's loop. -/
def RRel (w : World) (t s n : Nat) (kv : Value) (ks : List ByteArray) (s0 : RmS Unit) (ga po : Value) (wr : World) : Prop :=
  ∃ j f, ga = .int .i64 ((rmIter n j s0).gap : Nat) ∧ po = .int .i64 ((rmIter n j s0).pos : Nat) ∧ TableAt wr t s n f kv ∧ Enc n f ks (rmIter n j s0).sl ∧ Chg (· = s) w wr
def RRemPost (S : Nat → Prop) (t n : Nat) (sl : Nat → Option ByteArray) (gap : Nat) (L : Nat) (w : World) (e : Ending) (w' : World) : Prop :=
  e = .returned (.tuple #[]) ∧ ∃ s', RmDone n (rmStart n sl (fun _ => ()) gap) s' ∧ TabIs w' S t n s'.sl L ∧ Chg S w w'
set_option maxRecDepth 100000 in
theorem rremove_any (S : Nat → Prop) (t n : Nat) (sl : Nat → Option ByteArray) (u : Int) (L : Nat) (gap : Nat) (key : ByteArray) (w : World) (hm : n ≤ 4096) (hL : L ≤ 1000000) (hk : ∀ i k, i < n → sl i = some k → k.size ≤ maxLen) (hg : Has n sl key gap) (tb : Tab n sl u) (fu : Nat) (hfu : fu < n) (hfree : sl fu = none) (h : TabIs w S t n sl L) :
    Calls Try.prog 106 #[.pointer (some ⟨t, 0, none⟩), .int .i64 (gap : Int)] w (RRemPost S t n sl gap L w) := by
  have hgl := hg.1
  have hr0 := rinv_start tb (fun _ => ()) hgl hfu hfree (by rw [hg.2]; simp)
  obtain ⟨s, f, kv, ks, S0, h1, hSt, hSs, hS0, h5, h6, h7, h8⟩ := h
  have hlen : ks.length ≤ 1000000 := by omega
  have hn0 : ((n : Int) == 0) = false := by simp; omega
  have hnx := nx_tmod hgl
  have Hk0 := Lib.hid (show ∀ i k, i < n → (rmStart n sl (fun _ => ()) gap).sl i = some k → k.size ≤ maxLen from fun i k hi h => by
    change upd sl gap none i = some k at h
    by_cases hig : i = gap
    · rw [hig, upd_same] at h; simp at h
    · rw [upd_other _ _ hig] at h; exact hk i k hi h)
  have ht1 := h1.set hgl (-1)
  have hrel0 : RRel w t s n kv ks (rmStart n sl (fun _ => ()) gap) (.int .i64 (gap : Int)) (.int .i64 (nx n gap : Nat)) (w.setCell ⟨s, gap, none⟩ (.int .i64 (-1))) :=
    ⟨0, _, rfl, rfl, ht1, enc_rem h7 gap, (Chg.refl (· = s) w).setCell (p := ⟨s, gap, none⟩) (.inl rfl) _⟩
  have Hrel0 := Lib.hid hrel0
  have H5 := Lib.hid h5
  have Hr0 := Lib.hid hr0
  have H7 := Lib.hid h7
  have hbt := h8 t hSt
  have hbs := h8 s hSs
  obtain ⟨hts, htl, htf, c0, c1, hsl, hsf, hsc⟩ := h1
  have c2 := hsc gap hgl
  clear hrel0 ht1 hr0 h7 hk h5 hsc
  go_enter Try.func106, Try.ntmps106
  go_wp2_with fail
  go_loopw [1, 5] (fun ga po wr => RRel w t s n kv ks (rmStart n sl (fun _ => ()) gap) ga po wr) (fun _ po _ => dist n (intOf po).toNat fu)
  case atStart => exact Hrel0.out
  case round =>
    clear Hrel0 c0 c1 c2 htf hsf
    obtain ⟨j, f1, hrel⟩ := hrel
    have hi := Hr0.out.iter j
    have hks := iter_key Hr0.out Hk0.out j
    have hnext : rmIter n (j + 1) (rmStart n sl (fun _ => ()) gap) = rmStep n (rmIter n j (rmStart n sl (fun _ => ()) gap)) := rfl
    obtain ⟨st, hst⟩ : ∃ st, rmIter n j (rmStart n sl (fun _ => ()) gap) = st := ⟨_, rfl⟩
    rw [hst] at hi hks hnext
    simp only [hst] at hrel
    have Hs := Lib.hid hst
    have Hnext := Lib.hid hnext
    clear hst hnext
    obtain ⟨sl', pay', ga, po⟩ := st
    obtain ⟨gapL, posL, gapN, _, fuN, fuG, ahead, near, _, _⟩ := hi
    simp only at hrel gapL posL gapN fuN fuG ahead near hks
    obtain ⟨rfl, rfl, htr, henc, hcr⟩ := hrel
    have Htr := Lib.hid htr
    have Henc := Lib.hid henc
    have Hcr := Lib.hid hcr
    have h5r := H5.out.chg hcr (fun k hk => (hS0 k hk).2.2)
    obtain ⟨_, htl1, htf1, d0, d1, _, hsf1, hsc1⟩ := htr
    have d2 := hsc1 po posL
    have d3 := hsc1 ga gapL
    clear hcr
    rcases henc po posL with ⟨e1, e2⟩ | ⟨q, k, e1, e2, e3⟩
    · rw [e2] at d2
      have He1 := Lib.hid e1
      clear e1 e2 hsc1 henc
      go_wp2_with fail
      go_end0
      refine ⟨rfl, _, ⟨j, Hs.out.symm, He1.out⟩, ⟨s, f1, kv, ks, S0, Htr.out, hSt, hSs, hS0, h5r, h6, Henc.out, fun k hk => Nat.lt_of_lt_of_le (h8 k hk) Hcr.out.size⟩, Hcr.out.mono fun k _ hk => by subst hk; exact hSs⟩
    · have hsz := hks po k posL e1
      rw [e2] at d2
      have He1 := Lib.hid e1
      have He2 := Lib.hid e2
      have hd0 : decide ((0 : Int) ≤ (q : Int)) = true := by simp
      have hql : q < ks.length := (List.getElem?_eq_some_iff.1 e3).1
      obtain ⟨g, o, c, rfl, hc1, hc2, _, _, hrd⟩ := h5r.at_ hql
      have d4 := hrd q _ (map_string_at e3)
      have q0 : (0 : Int) ≤ (q : Int) := by omega
      have q1 : (q : Int) < (ks.length : Int) := by omega
      have p0 : (0 : Int) ≤ (po : Int) := by omega
      have p1 : (po : Int) < (n : Int) := by omega
      unfold maxLen at hc2
      obtain ⟨h0, hh⟩ := homeN_lt k (show 0 < n by omega)
      have hgn := nx_tmod gapL
      clear e1 e2 e3 hsc1 henc hks hrd h5r
      go_wp2_with fail
      go_quiet ((go_at_call 46; exact Calls.quiet_of_same ((rhome_any _ _ _ hsz).mono fun _ _ h => ⟨h.1, h.2.symm⟩)))
      go_upto_block 2 with fail
      have hgp : ga ≠ po := fun e => by rw [e, dist_self] at ahead; omega
      go_cut [7, 8] (fun s7 s8 wx => s7 = .bool (decide (dist n (homeN k n) po < dist n ga po)) ∧ ∃ a, wx = wr.drewN a)
      case first =>
        obtain ⟨hm', hhm⟩ : ∃ x, homeN k n = x := ⟨_, rfl⟩
        rw [hhm] at h0 hh
        have Hhm := Lib.hid hhm
        have hdp := (off_dist gapL posL).2
        have hst : off n ga 1 = nx n ga := by rw [show 1 = 0 + 1 from rfl, off_succ gapL (by omega), off_zero gapL]
        have Hst := Lib.hid hst
        have Hh := Lib.hid hh
        clear hst hh hhm
        go_wp2_with fail
        go_loopw [7, 8] (fun s7 s8 wx => ∃ (e : Nat) (ins : Bool), 1 ≤ e ∧ e ≤ dist n ga po ∧ s8 = .int .i64 (off n ga e : Nat) ∧ s7 = .bool ins ∧ ins = decide (1 ≤ dist n ga hm' ∧ dist n ga hm' < e) ∧ ∃ a, wx = wr.drewN a) (fun _ s8 _ => dist n (intOf s8).toNat po)
        case atStart => exact ⟨1, false, by omega, ahead, by rw [Hst.out], rfl, by simp; omega, _, rfl⟩
        case round =>
          obtain ⟨e, ins, he1, he2, rfl, rfl, hins, a, rfl⟩ := hrel
          have Hins := Lib.hid hins
          clear hins
          have hpl := off_lt gapL (show e < n by omega)
          have hde := dist_off gapL (show e < n by omega)
          have hoe := off_dist gapL posL
          have hoh := (off_dist gapL h0).1
          have hnx8 := nx_tmod hpl
          have hsucc : e + 1 < n → off n ga (e + 1) = nx n (off n ga e) := fun h => off_succ gapL h
          obtain ⟨p8, hp8⟩ : ∃ p8, off n ga e = p8 := ⟨_, rfl⟩
          rw [hp8] at hpl hde hnx8 hsucc ⊢
          have hlast : p8 = po ↔ e = dist n ga po := ⟨fun h => by rw [← hde, h], fun h => by rw [← hp8, h]; exact hoe.1⟩
          have hhome : p8 = hm' ↔ e = dist n ga hm' := ⟨fun h => by rw [← hde, h], fun h => by rw [← hp8, h]; exact hoh⟩
          have Hsucc := Lib.hid hsucc
          have Hlast := Lib.hid hlast
          have Hhome := Lib.hid hhome
          have hnext : ∀ ins', ins' = decide (1 ≤ dist n ga hm' ∧ dist n ga hm' ≤ e) → p8 ≠ po → e + 1 < n ∧ e + 1 ≤ dist n ga po ∧ ins' = decide (1 ≤ dist n ga hm' ∧ dist n ga hm' < e + 1) := fun ins' h1 h2 => by
            have : e ≠ dist n ga po := fun h => h2 (hlast.2 h)
            exact ⟨by omega, by omega, by rw [h1]; congr 1; simp only [eq_iff_iff]; omega⟩
          have hfin : ∀ ins', ins' = decide (1 ≤ dist n ga hm' ∧ dist n ga hm' ≤ e) → p8 = po → ins' = decide (dist n hm' po < dist n ga po) := fun ins' h1 h2 => by
            rw [h1, hlast.1 h2]
            congr 1
            simp only [eq_iff_iff]
            exact inside_iff gapL h0 posL
          have Hnext := Lib.hid hnext
          have Hfin := Lib.hid hfin
          have hmeas : p8 ≠ po → dist n (nx n p8) po < dist n p8 po := fun h => dist_nx hpl posL h
          have Hmeas := Lib.hid hmeas
          clear hp8 hde hoe hoh hsucc hlast hhome hnext hfin hmeas
          cases ins
          · by_cases hq : p8 = hm'
            · have hqd : ((p8 : Int) == homeI k n) = true := by rw [Hh.out]; simp; omega
              have Hv := Lib.hid (show true = decide (1 ≤ dist n ga hm' ∧ dist n ga hm' ≤ e) by have := Hhome.out.1 hq; simp; omega)
              have Hq := Lib.hid hq
              clear hq
              by_cases hl : p8 = po
              · have hld : ((p8 : Int) == (po : Int)) = true := by simp; omega
                have Hl := Lib.hid hl
                clear hl
                go_wp2_with fail
                go_meet
                exact ⟨by rw [Hhm.out, ← Hfin.out _ Hv.out Hl.out], _, rfl⟩
              · have hld : ((p8 : Int) == (po : Int)) = false := by simp; omega
                have Hl := Lib.hid hl
                clear hl
                go_wp2_with fail
                go_roundw
                case rel => exact ⟨e + 1, true, by omega, (Hnext.out _ Hv.out Hl.out).2.1, by rw [Hsucc.out (Hnext.out _ Hv.out Hl.out).1], rfl, (Hnext.out _ Hv.out Hl.out).2.2, _, rfl⟩
                case measure => simpa [intOf] using Hmeas.out Hl.out
            · have hqd : ((p8 : Int) == homeI k n) = false := by rw [Hh.out]; simp; omega
              have Hv := Lib.hid (show false = decide (1 ≤ dist n ga hm' ∧ dist n ga hm' ≤ e) by
                have h1 := of_decide_eq_false Hins.out.symm
                have h2 : ¬ e = dist n ga hm' := fun h => hq (Hhome.out.2 h)
                exact (decide_eq_false (by omega)).symm)
              have Hq := Lib.hid hq
              clear hq
              by_cases hl : p8 = po
              · have hld : ((p8 : Int) == (po : Int)) = true := by simp; omega
                have Hl := Lib.hid hl
                clear hl
                go_wp2_with fail
                go_meet
                exact ⟨by rw [Hhm.out, ← Hfin.out _ Hv.out Hl.out], _, rfl⟩
              · have hld : ((p8 : Int) == (po : Int)) = false := by simp; omega
                have Hl := Lib.hid hl
                clear hl
                go_wp2_with fail
                go_roundw
                case rel => exact ⟨e + 1, false, by omega, (Hnext.out _ Hv.out Hl.out).2.1, by rw [Hsucc.out (Hnext.out _ Hv.out Hl.out).1], rfl, (Hnext.out _ Hv.out Hl.out).2.2, _, rfl⟩
                case measure => simpa [intOf] using Hmeas.out Hl.out
          · have Hv := Lib.hid (show true = decide (1 ≤ dist n ga hm' ∧ dist n ga hm' ≤ e) by
              have h1 := of_decide_eq_true Hins.out.symm
              exact (decide_eq_true (by omega)).symm)
            by_cases hl : p8 = po
            · have hld : ((p8 : Int) == (po : Int)) = true := by simp; omega
              have Hl := Lib.hid hl
              clear hl
              go_wp2_with fail
              go_meet
              exact ⟨by rw [Hhm.out, ← Hfin.out _ Hv.out Hl.out], _, rfl⟩
            · have hld : ((p8 : Int) == (po : Int)) = false := by simp; omega
              have Hl := Lib.hid hl
              clear hl
              go_wp2_with fail
              go_roundw
              case rel => exact ⟨e + 1, true, by omega, (Hnext.out _ Hv.out Hl.out).2.1, by rw [Hsucc.out (Hnext.out _ Hv.out Hl.out).1], rfl, (Hnext.out _ Hv.out Hl.out).2.2, _, rfl⟩
              case measure => simpa [intOf] using Hmeas.out Hl.out
      case rest =>
        obtain ⟨rfl, a, rfl⟩ := hcut
        by_cases hcnd : dist n (homeN k n) po < dist n ga po
        · have hd : decide (dist n (homeN k n) po < dist n ga po) = true := by simpa using hcnd
          have Hst := Lib.hid (show rmIter n (j + 1) (rmStart n sl (fun _ => ()) gap) = ⟨sl', pay', ga, nx n po⟩ by rw [Hnext.out]; simp only [rmStep, He1.out, if_pos hcnd])
          have hnxp := nx_tmod posL
          have Hm := Lib.hid (show dist n (nx n po) fu < dist n po fu from dist_nx posL hfu fun e => by have h := He1.out; rw [e, fuN] at h; simp at h)
          clear hcnd
          go_wp2_with fail
          go_roundw
          case rel =>
            refine ⟨j + 1, f1, ?_, ?_, ?_, ?_, ?_⟩
            · rw [Hst.out]
            · rw [Hst.out]
            · exact Htr.out.keep (Nat.le_refl _) rfl rfl
            · rw [Hst.out]; exact Henc.out
            · exact Hcr.out.drewN a
          case measure => simpa [intOf] using Hm.out
        · have hd : decide (dist n (homeN k n) po < dist n ga po) = false := by simpa using hcnd
          have Hst := Lib.hid (show rmIter n (j + 1) (rmStart n sl (fun _ => ()) gap) = ⟨upd (upd sl' ga (some k)) po none, upd pay' ga (pay' po), po, nx n po⟩ by rw [Hnext.out]; simp only [rmStep, He1.out, if_neg hcnd])
          have hnxp := nx_tmod posL
          have Hm := Lib.hid (show dist n (nx n po) fu < dist n po fu from dist_nx posL hfu fun e => by have h := He1.out; rw [e, fuN] at h; simp at h)
          have hne : po ≠ ga := fun e => hgp e.symm
          clear hcnd
          go_wp2_with fail
          go_region
          all_goals
            go_wp2_with fail
            go_roundw
            case rel =>
              refine ⟨j + 1, upd (upd f1 ga (f1 po)) po (-1), ?_, ?_, ?_, ?_, ?_⟩
              · rw [Hst.out]
              · rw [Hst.out]
              · rw [He2.out]
                repeat (first | (with_reducible apply TableAt.drew) | (with_reducible refine TableAt.set (p := po) ?_ posL (-1)) | (with_reducible refine TableAt.set (p := ga) (f := f1) ?_ gapL _))
                exact Htr.out.keep (Nat.le_refl _) rfl rfl
              · rw [Hst.out]; exact enc_move Henc.out posL He1.out
              · exact ((Hcr.out.drewN _).setCell (p := ⟨s, ga, none⟩) (.inl rfl) _).setCell (p := ⟨s, po, none⟩) (.inl rfl) _
            case measure => simpa [intOf] using Hm.out
end Go.Proofs.Ytkhfjedeccjnbaa
