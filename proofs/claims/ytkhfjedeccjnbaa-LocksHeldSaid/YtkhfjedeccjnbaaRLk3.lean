/-
  What the reference's Release does, and the number that it returns (25.3).
  Conditions: the locks are whole in memory; lengths within a process's reach.
-/
import Derived.Test.YtkhfjedeccjnbaaRLk2
namespace Go.Proofs.Ytkhfjedeccjnbaa
open Go.RowKit Go.Sort
set_option maxHeartbeats 4000000
set_option maxRecDepth 100000

/-- The locks of other keys. -/
def others (os : List Rc) (key : ByteArray) : List Rc := os.filter fun r => !decide (r.nm = key)
theorem others_next {os : List Rc} {key : ByteArray} {i : Nat} {r : Rc} (h : os[i]? = some r) : others (os.take (i + 1)) key = others (os.take i) key ++ if r.nm = key then [] else [r] := by
  have hi := (List.getElem?_eq_some_iff.1 h).1
  have he : os[i] = r := by rw [List.getElem?_eq_getElem hi] at h; simpa using h
  unfold others
  rw [List.take_succ_eq_append_getElem hi, List.filter_append, he]
  by_cases hk : r.nm = key <;> simp [hk]
theorem others_len (os : List Rc) (key : ByteArray) (i : Nat) : (others (os.take i) key).length ≤ i := by
  unfold others
  exact Nat.le_trans (List.length_filter_le _ _) (by rw [List.length_take]; exact Nat.min_le_left _ _)
theorem place_has {n : Nat} {sl : Nat → Option ByteArray} {key : ByteArray} {p : Nat} {r : Int} (h : (∃ p, Has n sl key p ∧ r = (p : Nat)) ∨ ((∀ i, ¬ Has n sl key i) ∧ r = -1)) (k : Has n sl key p) : ∃ p2 : Nat, Has n sl key p2 ∧ r = (p2 : Nat) := by
  rcases h with h | ⟨h, _⟩
  · exact h
  · exact absurd k (h p)
def RRelPost (S : Nat → Prop) (b n : Nat) (sl : Nat → Option ByteArray) (os : List Rc) (L : Nat) (key : ByteArray) (c : Int) (w : World) (e : Ending) (w' : World) : Prop :=
  ∃ code sl' os' S', e = .returned (.int .i64 code) ∧ RRelSpec n sl os key c code sl' os' ∧ RLkIs w' S' b n sl' os' L ∧ (∀ k, S' k → S k ∨ w.heap.size ≤ k) ∧ Chg S w w'
theorem rrelease_any (S : Nat → Prop) (b n : Nat) (sl : Nat → Option ByteArray) (os : List Rc) (L : Nat) (key : ByteArray) (c u : Int) (w : World) (hn : n ≤ 4096) (hL : L ≤ 900000) (hos : os.length ≤ 900000) (tb : Tab n sl u) (hks : ∀ i k, i < n → sl i = some k → k.size ≤ maxLen) (hhas : 0 ≤ lkOwner os key → ∃ p, Has n sl key p) (fu : Nat) (hfu : fu < n) (hfree : sl fu = none) (h : RLkIs w S b n sl os L) :
    Calls Try.prog 80 #[.pointer (some ⟨b, 0, none⟩), .string key, .int .i64 c] w (RRelPost S b n sl os L key c w) := by
  have H := Lib.hid h
  have Hhas := Lib.hid hhas
  have Hfree := Lib.hid hfree
  have Hks := Lib.hid hks
  obtain ⟨ov, hov⟩ : ∃ x, lkOwner os key = x := ⟨_, rfl⟩
  have Hov := Lib.hid hov
  clear h hhas hfree hov hks
  go_enter Try.func80, Try.ntmps80
  go_wp2_with fail
  refine (rlowner_any S b n sl os L key w H.out).mono ?_
  rintro e w1 ⟨rfl, hx1⟩
  rw [Hov.out]
  have H1 := Lib.hid (H.out.ext hx1)
  have Hx1 := Lib.hid hx1
  clear hx1
  by_cases hc : 0 ≤ c ∧ c < 64
  · have hc0 : decide (c < 0) = false := by simp; omega
    have hc1 : decide (64 ≤ c) = false := by simp; omega
    by_cases h3 : ov < 0
    · have hb2 : decide (ov < 0) = true := by simpa using h3
      go_wp2_with fail
      go_ret
      exact ⟨23, sl, os, S, rfl, .inr ⟨hc, .inl ⟨by rw [Hov.out]; exact h3, rfl, rfl, rfl⟩⟩, H1.out, fun k hk => .inl hk, Hx1.out.chg _⟩
    · have hb2 : decide (ov < 0) = false := by simpa using h3
      have h4 : 0 ≤ ov := by omega
      by_cases h1 : ov = c
      · have hb : (ov != c) = false := by simpa using h1
        have H2 := Lib.hid h1
        clear h1
        obtain ⟨p, hp⟩ := Hhas.out (by rw [Hov.out]; exact h4)
        obtain ⟨t, rv, St, Sr, hC⟩ := H1.out
        have HC := Lib.hid hC
        obtain ⟨c0, c1, cf, hSb, hT, hr, hst, _, hlow⟩ := hC
        have hbl := hlow b hSb
        have hnSt : ¬ St b := fun h => (hst b h).2.1 rfl
        have HT := Lib.hid hT
        have Hr := Lib.hid hr
        have Hp := Lib.hid hp
        obtain ⟨_, A, cp, rfl, hk1, hk2, _⟩ := hr
        unfold maxLen at hk2
        obtain ⟨i1, hj, hy0, hy1, hy2⟩ := info_parts info_rec
        clear hT hp
        go_wp2_with fail
        go_region_held3 (fun w' => w'.cell? ⟨b, 0, none⟩ = some (.pointer (some ⟨t, 0, none⟩))) (go_keep)
          (first
            | (go_at_call 105; refine (rplace_any St t n sl L key _ hn (HT.out.ext (by repeat' (first | exact Ext.refl _ | assumption | apply Ext.alloc | apply Ext.drewN | apply Ext.drew | (refine Ext.trans ?_ (by assumption)) | (refine ext_setCell ?_ (by first | (simp; done) | (simp; omega)) _))))).mono ?_; rintro e w2 ⟨r2, rfl, hpl, rfl⟩; obtain ⟨p2, hp2, rfl⟩ := place_has hpl Hp.out; have Hp2 := Lib.hid hp2; clear hp2 hpl)
            | (go_at_call 106; refine (rremove_any St t n sl u L p2 key _ hn (by omega) Hks.out Hp2.out tb fu hfu Hfree.out (HT.out.ext (by repeat' (first | exact Ext.refl _ | assumption | apply Ext.alloc | apply Ext.drewN | apply Ext.drew | (refine Ext.trans ?_ (by assumption)) | (refine ext_setCell ?_ (by first | (simp; done) | (simp; omega)) _))))).mono ?_; rintro e w3 ⟨rfl, s3, hd3, hT3, hc3⟩; have hc3 : Chg St w1 w3 := Chg.trans ((show Ext w1 _ from (by repeat' (first | exact Ext.refl _ | assumption | apply Ext.alloc | apply Ext.drewN | apply Ext.drew | (refine Ext.trans ?_ (by assumption)) | (refine ext_setCell ?_ (by first | (simp; done) | (simp; omega)) _)))).chg St) hc3; have Hd3 := Lib.hid hd3; have HT3 := Lib.hid hT3; have Hc3 := Lib.hid hc3; have q0 := (hc3.cell (p := ⟨b, 0, none⟩) hbl hnSt).trans c0; clear hd3 hT3 hc3))
        have hz3 := Hc3.out.size
        have q1 := (Hc3.out.cell (p := ⟨b, 1, none⟩) hbl hnSt).trans c1
        have qf := fun j => (Hc3.out.frozen (p := ⟨b, j, none⟩) hbl hnSt).trans (cf j)
        have hb3l : b < w3.heap.size := by omega
        have Hr3 := Lib.hid (Hr.out.chg Hc3.out (fun k hk h => (hst k h).2.2 hk))
        have hw3 : ∀ wx, Ext w3 wx → Ext w3 wx := fun _ h => h
        clear c0 c1 cf hst hlow
        go_wp2_with fail
        go_loopw [44, 8] (fun o v wr => ∃ i : Nat, i ≤ os.length ∧ o = .int .i64 (i : Int) ∧ wr.ownsRow w3.heap.size 30 4 v (others (os.take i) key).length (flatR (others (os.take i) key)) ∧ Ext w3 wr) (fun o _ _ => os.length - (intOf o).toNat)
        case atStart => exact ⟨0, by omega, rfl, World.ownsRow_nil _ _ _ _, (by repeat' (first | exact Ext.refl _ | assumption | apply Ext.alloc | apply Ext.drewN | apply Ext.drew | (refine Ext.trans ?_ (by assumption)) | (refine ext_setCell ?_ (by first | (simp; done) | (simp; omega)) _)))⟩
        case round =>
          obtain ⟨i, hi, rfl, ho, hx⟩ := hrel
          have Ho := Lib.hid ho
          have Hx := Lib.hid hx
          have hol := others_len os key i
          by_cases hin : i < os.length
          · have hd : decide ((i : Int) < (os.length : Int)) = true := by simpa using hin
            obtain ⟨g, o, cc, ev, hcc1, hcc2, _, _, hrd⟩ := (Hr3.out.ext hx).at_ hin
            simp only [Value.slice.injEq, true_and] at ev
            obtain ⟨rfl, rfl⟩ := ev
            obtain ⟨r, hrr⟩ : ∃ r, os.getD i default = r := ⟨_, rfl⟩
            have hri : os[i]? = some r := by rw [← hrr]; simp [List.getD_eq_getElem?_getD, hin]
            have m0 := hrd (i * 4 + 0) _ (by rw [flatR_at _ hin 0 (by omega)]; rfl)
            have m1 := hrd (i * 4 + 1) _ (by rw [flatR_at _ hin 1 (by omega)]; rfl)
            have m2 := hrd (i * 4 + 2) _ (by rw [flatR_at _ hin 2 (by omega)]; rfl)
            have m3 := hrd (i * 4 + 3) _ (by rw [flatR_at _ hin 3 (by omega)]; rfl)
            rw [hrr] at m0 m1 m2 m3
            simp only [Nat.add_zero] at m0
            simp only [← Nat.add_assoc] at m1 m2 m3
            have i0 : (0 : Int) ≤ (i : Int) := by omega
            have i1' : (i : Int) < (os.length : Int) := by omega
            have Hnext := Lib.hid (others_next (key := key) hri)
            clear hrr hri hrd hx ho q0 q1 qf
            by_cases hk : r.nm = key
            · have hke : (r.nm.toList == key.toList) = true := by rw [hk]; simp
              have Hk := Lib.hid hk
              clear hk
              go_wp2_with fail
              go_roundw
              case rel => exact ⟨i + 1, by omega, by go_num, by rw [Hnext.out, if_pos Hk.out, List.append_nil]; exact Ho.out.alloc _, Hx.out.alloc _⟩
              case measure => simp [intOf]; omega
            · have hke := bytes_ne hk
              have Hk := Lib.hid hk
              have hbl2 := fun k hk => (Ho.out.lt k hk).1
              have hz := Hx.out.size
              obtain ⟨a1, k1, hv1⟩ := own_shape Ho.out
              subst hv1
              clear hk
              go_wp2_with (at_builtin; refine wpList_append_own_at _ rfl _ _ 35 rfl w3.heap.size 30 i1 _ 4 40 und_recs hj hy0 hy1 hy2 rfl (by decide) _ (others (os.take i) key).length _ rfl ((Ho.out.alloc (.cells #[.int .i64 r.st, .int .i64 r.ow, .string r.nm, .int .i64 r.dl] 30)).alloc _) ⟨wr.heap.size + 1, 0, none⟩ 1 1 [.int .i64 r.st, .int .i64 r.ow, .string r.nm, .int .i64 r.dl] rfl rfl ?c1 ?c2 ?c3 ?c4 ?c5 ?_)
              try (case c1 => first | done | (intro j u hu; (rcases j with _ | _ | _ | _ | j) <;> simp at hu <;> subst hu <;> (first | rfl | go_simp)))
              try (case c2 => exact rec_one)
              try (case c3 => unfold maxLen; omega)
              try (case c4 => omega)
              try (case c5 => first | omega | (simp; omega))
              intro v2 w2 ho3 hg2 _ _
              have hx2 : Ext w3 w2 := Ext.grown ((Hx.out.alloc (.cells #[.int .i64 r.st, .int .i64 r.ow, .string r.nm, .int .i64 r.dl] 30)).alloc _) hg2 hbl2
              have ho4 : w2.ownsRow w3.heap.size 30 4 v2 (others (os.take (i + 1)) key).length (flatR (others (os.take (i + 1)) key)) := by
                rw [Hnext.out, if_neg Hk.out, flatR_snoc, List.length_append]; exact ho3
              have Ho4 := Lib.hid ho4
              have Hx2 := Lib.hid hx2
              clear ho4 ho3 hx2 hg2 hbl2
              go_wp2_with fail
              go_roundw
              case rel => exact ⟨i + 1, by omega, by go_num, Ho4.out, Hx2.out⟩
              case measure => simp [intOf]; omega
          · have hd : decide ((i : Int) < (os.length : Int)) = false := by simp; omega
            have hie : i = os.length := by omega
            subst hie
            have ho5 := ho
            rw [List.take_length] at ho5
            have hfin := rlk_fin HC.out HT3.out (fun k hk => .inl hk) Hc3.out hx ho5
            have Hfin := Lib.hid hfin
            have e0 := (hx.cell (p := ⟨b, 0, none⟩) hb3l).trans q0
            have e1 := (hx.cell (p := ⟨b, 1, none⟩) hb3l).trans q1
            have ef := fun j => (hx.frozen (p := ⟨b, j, none⟩) hb3l).trans (qf j)
            obtain ⟨a1, k1, hv1⟩ := own_shape ho5
            subst hv1
            clear ho hfin hx ho5 q0 q1 qf
            go_wp2_with fail
            go_ret
            obtain ⟨f1, f2, f3⟩ := Hfin.out
            exact ⟨0, s3.sl, others os key, _, rfl, .inr ⟨hc, .inr (.inr ⟨by rw [Hov.out]; exact h4, by rw [Hov.out]; exact H2.out, rfl, ⟨p2, Hp2.out, s3, Hd3.out, rfl⟩, rfl⟩)⟩, f1, fun k hk => (f2 k hk).imp id (Nat.le_trans Hx1.out.size), (Hx1.out.chg S).trans f3⟩
      · have hb : (ov != c) = true := by simpa using h1
        have H2 := Lib.hid h1
        clear h1
        go_wp2_with fail
        go_ret
        exact ⟨25, sl, os, S, rfl, .inr ⟨hc, .inr (.inl ⟨by rw [Hov.out]; exact h4, by rw [Hov.out]; exact H2.out, rfl, rfl, rfl⟩)⟩, H1.out, fun k hk => .inl hk, Hx1.out.chg _⟩
  · by_cases hc0 : c < 0
    · have hd0 : decide (c < 0) = true := by simpa using hc0
      go_wp2_with fail
      go_ret
      exact ⟨3, sl, os, S, rfl, .inl ⟨hc, rfl, rfl, rfl⟩, H1.out, fun k hk => .inl hk, Hx1.out.chg _⟩
    · have hd0 : decide (c < 0) = false := by simpa using hc0
      have hd1 : decide (64 ≤ c) = true := by simp; omega
      go_wp2_with fail
      go_ret
      exact ⟨3, sl, os, S, rfl, .inl ⟨hc, rfl, rfl, rfl⟩, H1.out, fun k hk => .inl hk, Hx1.out.chg _⟩
end Go.Proofs.Ytkhfjedeccjnbaa
