/-
  What the reference's Owner, Acquire and Release return and do (25.2, 25.3, 25.4).
  Conditions: the locks are whole in memory; lengths within a process's reach.
-/
import Derived.Test.YtkhfjedeccjnbaaRLk
import Derived.Deep.RegionHeld3
namespace Go.Proofs.Ytkhfjedeccjnbaa
open Go.RowKit Go.Sort
set_option maxHeartbeats 4000000
set_option maxRecDepth 100000

theorem rlowner_any (S : Nat → Prop) (b n : Nat) (sl : Nat → Option ByteArray) (os : List Rc) (L : Nat) (key : ByteArray) (w : World) (h : RLkIs w S b n sl os L) :
    Calls Try.prog 81 #[.pointer (some ⟨b, 0, none⟩), .string key] w fun e w' => e = .returned (.int .i64 (lkOwner os key)) ∧ Ext w w' := by
  obtain ⟨t, rv, St, Sr, c0, c1, _, hSb, _, hr, _, _, hlow⟩ := h
  have hbl := hlow b hSb
  have Hr := Lib.hid hr
  obtain ⟨_, A, cp, rfl, hk1, hk2, _⟩ := hr
  unfold maxLen at hk2
  go_enter Try.func81, Try.ntmps81
  go_wp2_with fail
  go_loopw [12] (fun o wr => ∃ i : Nat, i ≤ os.length ∧ o = .int .i64 (i : Int) ∧ (∀ j r', j < i → os[j]? = some r' → r'.nm ≠ key) ∧ Ext w wr) (fun o _ => os.length - (intOf o).toNat)
  case atStart => exact ⟨0, by omega, rfl, fun j r' h => absurd h (by omega), Ext.refl _⟩
  case round =>
    obtain ⟨i, hi, rfl, hno, hx⟩ := hrel
    have Hno := Lib.hid hno
    have Hx := Lib.hid hx
    by_cases hin : i < os.length
    · have hd : decide ((i : Int) < (os.length : Int)) = true := by simpa using hin
      obtain ⟨g, o, cc, ev, hc1, hc2, _, _, hrd⟩ := (Hr.out.ext hx).at_ hin
      simp only [Value.slice.injEq, true_and] at ev
      obtain ⟨rfl, rfl⟩ := ev
      obtain ⟨r, hrr⟩ : ∃ r, os.getD i default = r := ⟨_, rfl⟩
      have hri : os[i]? = some r := by rw [← hrr]; simp [List.getD_eq_getElem?_getD, hin]
      have m0 := hrd (i * 4 + 0) _ (by rw [flatR_at _ hin 0 (by omega)]; rfl)
      have m1 := hrd (i * 4 + 1) _ (by rw [flatR_at _ hin 1 (by omega)]; rfl)
      have m2 := hrd (i * 4 + 2) _ (by rw [flatR_at _ hin 2 (by omega)]; rfl)
      have m3 := hrd (i * 4 + 3) _ (by rw [flatR_at _ hin 3 (by omega)]; rfl)
      rw [hrr] at m0 m1 m2 m3
      simp only [Nat.add_zero] at m0
      simp only [← Nat.add_assoc] at m1 m2 m3
      have i0 : (0 : Int) ≤ (i : Int) := by omega
      have i1 : (i : Int) < (os.length : Int) := by omega
      have Hri := Lib.hid hri
      clear hrr hri hrd hx hno
      by_cases hk : r.nm = key
      · have H := Lib.hid (lkOwner_at Hri.out hk Hno.out)
        have hke : (r.nm.toList == key.toList) = true := by rw [hk]; simp
        clear hk
        go_wp2_with fail
        go_ret
        exact ⟨by rw [H.out]; rfl, Hx.out.alloc _⟩
      · have hke := bytes_ne hk
        have Hk := Lib.hid hk
        clear hk
        go_wp2_with fail
        go_roundw
        case rel =>
          refine ⟨i + 1, by omega, by go_num, fun j r' hj hr' => ?_, Hx.out.alloc _⟩
          rcases (show j < i ∨ j = i by omega) with h | rfl
          · exact Hno.out j r' h hr'
          · rw [Hri.out] at hr'; simp at hr'; subst hr'; exact Hk.out
        case measure => simp [intOf]; omega
    · have hd : decide ((i : Int) < (os.length : Int)) = false := by simp; omega
      have hie : i = os.length := by omega
      have H := Lib.hid (show lkOwner os key = -1 from lkOwner_end (fun j r' hj => hno j r' (by omega)))
      clear hx hno hie
      go_wp2_with fail
      go_ret
      exact ⟨by rw [H.out]; rfl, Hx.out⟩

theorem rlk_fin {w2 w3 w6 : World} {S St St' Sr : Nat → Prop} {b n : Nat} {sl sl' : Nat → Option ByteArray} {os os' : List Rc} {L L' t : Nat} {rv v6 : Value}
    (hC : RLkC w2 S b n sl os L t rv St Sr) (hT : TabIs w3 St' t n sl' L') (hS' : ∀ k, St' k → St k ∨ w2.heap.size ≤ k) (hc : Chg St w2 w3) (hx : Ext w3 w6) (ho : w6.ownsRow w3.heap.size 30 4 v6 os'.length (flatR os')) :
    RLkIs (w6.setCell ⟨b, 1, none⟩ v6) (fun k => k = b ∨ St' k ∨ v6.ownBlock = some k) b n sl' os' L' ∧ (∀ k, (k = b ∨ St' k ∨ v6.ownBlock = some k) → S k ∨ w2.heap.size ≤ k) ∧ Chg S w2 (w6.setCell ⟨b, 1, none⟩ v6) := by
  have hbl := hC.low b hC.sb
  have hnb : ¬ St b := fun h => (hC.st b h).2.1 rfl
  have hz3 := hc.size
  have hz6 := hx.size
  have hb3 : b < w3.heap.size := by omega
  have e0 := (hx.cell (p := ⟨b, 0, none⟩) hb3).trans ((hc.cell (p := ⟨b, 0, none⟩) hbl hnb).trans hC.c0)
  have e1 := (hx.cell (p := ⟨b, 1, none⟩) hb3).trans ((hc.cell (p := ⟨b, 1, none⟩) hbl hnb).trans hC.c1)
  have ef := fun j => (hx.frozen (p := ⟨b, j, none⟩) hb3).trans ((hc.frozen (p := ⟨b, j, none⟩) hbl hnb).trans (hC.fr j))
  have l6 := fun k hk => ho.lt k hk
  have lT := hT.low
  have hc7 : Chg (· = b) w6 (w6.setCell ⟨b, 1, none⟩ v6) := (Chg.refl (· = b) w6).setCell (p := ⟨b, 1, none⟩) (.inl rfl) v6
  have hz7 := hc7.size
  have hbT : ∀ k, St' k → k ≠ b := fun k hk e => by
    subst e
    rcases hS' k hk with h | h
    · exact hnb h
    · omega
  refine ⟨⟨t, v6, St', (fun k => v6.ownBlock = some k), by go_simp, by go_simp, fun j => by go_simp, .inl rfl, (hT.ext hx).chg hc7 hbT, ?_, fun k hk => ⟨.inr (.inl hk), hbT k hk, fun h => ?_⟩, fun k hk => ⟨.inr (.inr hk), ?_⟩, fun k hk => ?_⟩, fun k hk => ?_, ?_⟩
  · have hr : Rd w6 (fun k => v6.ownBlock = some k) 4 v6 os'.length (flatR os') := Rd.of_own ho fun k hk => hk
    exact hr.chg hc7 (fun k hk e => by subst e; have := (l6 k hk).1; omega)
  · have := (l6 k h).1; have := lT k hk; omega
  · have := (l6 k hk).1; omega
  · rcases hk with rfl | hk | hk
    · omega
    · have := lT k hk; omega
    · have := (l6 k hk).2; omega
  · rcases hk with rfl | hk | hk
    · exact .inl hC.sb
    · exact (hS' k hk).imp (fun h => (hC.st k h).1) id
    · have := (l6 k hk).1; exact .inr (by omega)
  · have q1 : Chg S w2 w3 := hc.mono fun k _ hk => (hC.st k hk).1
    exact (q1.trans (hx.chg S)).trans (hc7.mono fun k _ hk => by subst hk; exact hC.sb)
def RAcqPost (S : Nat → Prop) (b n : Nat) (sl : Nat → Option ByteArray) (os : List Rc) (L : Nat) (key : ByteArray) (c : Int) (w : World) (e : Ending) (w' : World) : Prop :=
  ∃ code sl' os' S', e = .returned (.int .i64 code) ∧ RAcqSpec n sl os key c code sl' os' ∧ RLkIs w' S' b n sl' os' (L + 1) ∧ (∀ k, S' k → S k ∨ w.heap.size ≤ k) ∧ Chg S w w'
theorem racquire_any (S : Nat → Prop) (b n : Nat) (sl : Nat → Option ByteArray) (os : List Rc) (L : Nat) (key : ByteArray) (c : Int) (w : World) (hn0 : 0 < n) (hn : n ≤ 4096) (hL : L ≤ 900000) (hos : os.length ≤ 900000) (hs : key.size ≤ maxLen) (hno : lkOwner os key < 0 → ∀ i, ¬ Has n sl key i) (fu : Nat) (hfu : fu < n) (hfree : sl fu = none) (h : RLkIs w S b n sl os L) :
    Calls Try.prog 79 #[.pointer (some ⟨b, 0, none⟩), .string key, .int .i64 c] w (RAcqPost S b n sl os L key c w) := by
  have H := Lib.hid h
  have Hno := Lib.hid hno
  have Hfree := Lib.hid hfree
  obtain ⟨ov, hov⟩ : ∃ x, lkOwner os key = x := ⟨_, rfl⟩
  have Hov := Lib.hid hov
  clear h hno hfree hov
  go_enter Try.func79, Try.ntmps79
  go_wp2_with fail
  refine (rlowner_any S b n sl os L key w H.out).mono ?_
  rintro e w1 ⟨rfl, hx1⟩
  rw [Hov.out]
  have H1 := Lib.hid (H.out.ext hx1)
  have Hx1 := Lib.hid hx1
  clear hx1
  by_cases hc : 0 ≤ c ∧ c < 64
  · have hc0 : decide (c < 0) = false := by simp; omega
    have hc1 : decide (64 ≤ c) = false := by simp; omega
    by_cases h1 : ov = c
    · have hb : (ov == c) = true := by simpa using h1
      have H2 := Lib.hid h1
      clear h1
      go_wp2_with fail
      go_ret
      exact ⟨0, sl, os, S, rfl, .inr ⟨hc, .inl ⟨by rw [Hov.out, H2.out], rfl, rfl, rfl⟩⟩, H1.out.more (Nat.le_succ _), fun k hk => .inl hk, Hx1.out.chg _⟩
    · have hb : (ov == c) = false := by simpa using h1
      have H2 := Lib.hid h1
      clear h1
      by_cases h3 : 0 ≤ ov
      · have hb2 : decide (0 ≤ ov) = true := by simpa using h3
        go_wp2_with fail
        go_ret
        exact ⟨27, sl, os, S, rfl, .inr ⟨hc, .inr (.inl ⟨by rw [Hov.out]; exact H2.out, by rw [Hov.out]; exact h3, rfl, rfl, rfl⟩)⟩, H1.out.more (Nat.le_succ _), fun k hk => .inl hk, Hx1.out.chg _⟩
      · have hb2 : decide (0 ≤ ov) = false := by simpa using h3
        obtain ⟨t, rv, St, Sr, hC⟩ := H1.out
        have HC := Lib.hid hC
        obtain ⟨c0, c1, cf, hSb, hT, hr, hst, _, hlow⟩ := hC
        have hbl := hlow b hSb
        have hnSt : ¬ St b := fun h => (hst b h).2.1 rfl
        obtain ⟨s, f, kv, ks, S0, ht1, hSt, _⟩ := hT
        obtain ⟨_, htl, _, d0, d1, _⟩ := ht1
        have Hr := Lib.hid hr
        obtain ⟨_, A, cp, rfl, hk1, hk2, _⟩ := hr
        unfold maxLen at hk2
        have hlt : t < w1.heap.size := htl
        by_cases h4 : n < os.length + 2
        · have hb3 : decide ((n : Int) < (os.length : Int) + 2) = true := by simp; omega
          have hb4 : (n : Int) < (os.length : Int) + 2 := by omega
          go_wp2_with fail
          go_quiet (fail)
          go_wp2_with fail
          go_ret
          exact ⟨7, sl, os, S, rfl, .inr ⟨hc, .inr (.inr (.inl ⟨by rw [Hov.out]; exact H2.out, by rw [Hov.out]; omega, h4, rfl, rfl, rfl⟩))⟩, (H1.out.more (Nat.le_succ _)).ext ((Ext.refl _).drewN _), fun k hk => .inl hk, (Hx1.out.drewN _).chg _⟩
        · have hb3 : decide ((n : Int) < (os.length : Int) + 2) = false := by simp; omega
          have hb4 : ¬ (n : Int) < (os.length : Int) + 2 := by omega
          have hnoo := Hno.out (by rw [Hov.out]; omega)
          obtain ⟨i1, hj, hy0, hy1, hy2⟩ := info_parts info_rec
          have Hnoo := Lib.hid hnoo
          clear hnoo htl
          go_wp2_with fail
          go_quiet (fail)
          go_wp2_with fail
          refine (rinsert_any St t n sl L key _ hn0 hn (by omega) hs Hnoo.out fu hfu Hfree.out (HC.out.tab.ext ((Ext.refl _).drewN _))).mono ?_
          rintro e w3 ⟨rfl, p, St', hf, hT', hS', hc3⟩
          have hc3 : Chg St w1 w3 := Chg.trans (((Ext.refl w1).drewN _).chg St) hc3
          have hS' : ∀ k, St' k → St k ∨ w1.heap.size ≤ k := hS'
          have Hf := Lib.hid hf
          have HT' := Lib.hid hT'
          have HS' := Lib.hid hS'
          have Hc3 := Lib.hid hc3
          have q0 := (hc3.cell (p := ⟨b, 0, none⟩) hbl hnSt).trans c0
          have q1 := (hc3.cell (p := ⟨b, 1, none⟩) hbl hnSt).trans c1
          have qf := fun j => (hc3.frozen (p := ⟨b, j, none⟩) hbl hnSt).trans (cf j)
          have hb3l : b < w3.heap.size := by have := hc3.size; omega
          have Hr3 := Lib.hid (Hr.out.chg hc3 (fun k hk h => (hst k h).2.2 hk))
          clear hf hT' hS' hc3 c0 c1 cf d0 d1 hst hlow
          go_wp2_with (at_builtin; refine wpList_append_rd _ rfl _ _ 35 rfl w3.heap.size 30 i1 _ 4 40 und_recs hj hy0 hy1 hy2 rfl (by decide) (.slice none 0 0) 0 [] rfl (World.ownsRow_nil _ _ _ _) Sr _ os.length (flatR os) rfl Hr3.out (flatR_one _) ?c3 ?c4 ?c5 ?_)
          case c3 => unfold maxLen; omega
          case c4 => omega
          case c5 => exact Nat.le_refl _
          intro v5 w5 ha5
          have ho5 : w5.ownsRow w3.heap.size 30 4 v5 os.length (flatR os) := by simpa using ha5.own
          have hx5 : Ext w3 w5 := Ext.grown (Ext.refl _) ha5.grown (fun k hk => by simp [Value.ownBlock] at hk)
          have hb5 := fun k hk => (ho5.lt k hk).1
          obtain ⟨a5, k5, hv5⟩ := own_shape ho5
          subst hv5
          have Hx5 := Lib.hid hx5
          have hz5 := hx5.size
          clear ha5 hx5
          go_wp2_with (at_builtin; refine wpList_append_own_at _ rfl _ _ 35 rfl w3.heap.size 30 i1 _ 4 40 und_recs hj hy0 hy1 hy2 rfl (by decide) _ os.length _ rfl (ho5.alloc _) ⟨w5.heap.size, 0, none⟩ 1 1 [.int .i64 0, .int .i64 c, .string key, .int .i64 0] rfl rfl ?c1 ?c2 ?c3 ?c4 ?c5 ?_)
          case c1 => first | done | (intro j u hu; (rcases j with _ | _ | _ | _ | j) <;> simp at hu <;> subst hu <;> (first | rfl | go_simp))
          case c2 => exact rec_one
          case c3 => unfold maxLen; omega
          case c4 => omega
          case c5 => simp; omega
          intro v6 w6 ho6 hg6 _ _
          have hx6 : Ext w3 w6 := Ext.grown (Hx5.out.alloc _) hg6 hb5
          obtain ⟨a6, k6, hv6⟩ := own_shape ho6
          subst hv6
          have ho7 : w6.ownsRow w3.heap.size 30 4 (.slice a6 (os.length + 1) k6) (os ++ [(⟨0, c, key, 0⟩ : Rc)]).length (flatR (os ++ [(⟨0, c, key, 0⟩ : Rc)])) := by
            rw [flatR_snoc, List.length_append]; exact ho6
          have hfin := rlk_fin HC.out HT'.out HS'.out Hc3.out hx6 ho7
          have Hfin := Lib.hid hfin
          have e0 := (hx6.cell (p := ⟨b, 0, none⟩) hb3l).trans q0
          have e1 := (hx6.cell (p := ⟨b, 1, none⟩) hb3l).trans q1
          have ef := fun j => (hx6.frozen (p := ⟨b, j, none⟩) hb3l).trans (qf j)
          clear ho6 hg6 ho7 hfin hx6 ho5 q0 q1 qf
          go_wp2_with fail
          go_ret
          obtain ⟨f1, f2, f3⟩ := Hfin.out
          exact ⟨0, upd sl p (some key), os ++ [(⟨0, c, key, 0⟩ : Rc)], _, rfl, .inr ⟨hc, .inr (.inr (.inr ⟨by rw [Hov.out]; exact H2.out, by rw [Hov.out]; omega, h4, rfl, ⟨p, Hf.out, rfl⟩, rfl⟩))⟩, f1, fun k hk => (f2 k hk).imp id (Nat.le_trans Hx1.out.size), (Hx1.out.chg S).trans f3⟩
  · by_cases hc0 : c < 0
    · have hd0 : decide (c < 0) = true := by simpa using hc0
      go_wp2_with fail
      go_ret
      exact ⟨3, sl, os, S, rfl, .inl ⟨hc, rfl, rfl, rfl⟩, H1.out.more (Nat.le_succ _), fun k hk => .inl hk, Hx1.out.chg _⟩
    · have hd0 : decide (c < 0) = false := by simpa using hc0
      have hd1 : decide (64 ≤ c) = true := by simp; omega
      go_wp2_with fail
      go_ret
      exact ⟨3, sl, os, S, rfl, .inl ⟨hc, rfl, rfl, rfl⟩, H1.out.more (Nat.le_succ _), fun k hk => .inl hk, Hx1.out.chg _⟩
end Go.Proofs.Ytkhfjedeccjnbaa
