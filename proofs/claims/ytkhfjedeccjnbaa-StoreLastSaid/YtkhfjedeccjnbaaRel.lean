/-
  What Remove does to a table of locks, called by Release (25.3).
  Conditions: keys' lengths are those of Go strings; at least one slot of the table is unused.
-/
import Derived.Test.YtkhfjedeccjnbaaShift
namespace Go.Proofs.Ytkhfjedeccjnbaa
open Go.RowKit Go.Sort
set_option maxHeartbeats 1000000

theorem dist_tmod {n a b : Nat} (h1 : a < n) (h2 : b < n) : ((b : Int) - (a : Int) + (n : Int)).tmod (n : Int) = (dist n a b : Nat) := by
  rw [Int.tmod_eq_emod_of_nonneg (by omega)]
  unfold dist
  split
  · rw [Int.add_emod_right, Int.emod_eq_of_lt (by omega) (by omega)]; omega
  · rw [Int.emod_eq_of_lt (by omega) (by omega)]; omega

theorem LocksAt.move {w w' : World} {b g h n : Nat} {sl : Nat → Option ByteArray} {ow ow' : Nat → Int} {u : Int} (k : LocksAt w b g h n sl ow u) (hi : IntsAt w' h n ow') (hc : Chg (· = h) w w') : LocksAt w' b g h n sl ow' u := by
  obtain ⟨h1, h2, h3, h4, h5, h6, h7, h8, h9, h10⟩ := k
  have hb := hc.block b h4 h2
  have hg := hc.block g h9.1 h3
  exact ⟨h1, h2, h3, Nat.lt_of_lt_of_le h4 hc.size, fun j => (World.frozen?_of_block (a := ⟨b, j, none⟩) hb).trans (h5 j), (World.cell?_of_block (a := ⟨b, 0, none⟩) hb).trans h6, (World.cell?_of_block (a := ⟨b, 1, none⟩) hb).trans h7, (World.cell?_of_block (a := ⟨b, 2, none⟩) hb).trans h8, h9.keep hc.size hg, hi⟩

def MovePost (h n : Nat) (ow : Nat → Int) (p q : Nat) (w : World) (e : Ending) (w' : World) : Prop :=
  e = .returned (.tuple #[]) ∧ IntsAt w' h n (upd ow p (ow q)) ∧ Chg (· = h) w w' ∧ w'.heap.size = w.heap.size
theorem move_any (cb b h n : Nat) (ow : Nat → Int) (p q : Nat) (hp : p < n) (hq : q < n) (w : World) (hc : w.cell? ⟨cb, 0, none⟩ = some (.pointer (some ⟨b, 0, none⟩))) (hb : w.cell? ⟨b, 1, none⟩ = some (.slice (some ⟨h, 0, none⟩) n n)) (hi : IntsAt w h n ow) :
    Calls Try.prog 100 #[.int .i64 (p : Int), .int .i64 (q : Int), .pointer (some ⟨cb, 0, none⟩)] w (MovePost h n ow p q w) := by
  have hi' := Lib.hid hi
  obtain ⟨h1, h2, h3⟩ := hi
  have c1 := h3 p hp
  have c2 := h3 q hq
  clear h3
  go_enter Try.func100, Try.ntmps100
  go_region
  all_goals
    go_end0
    exact ⟨rfl, (hi'.out.set hp _).keep (Nat.le_refl _) rfl, ((Chg.refl (· = h) w).setCell (p := ⟨h, p, none⟩) (.inl rfl) _).drew, by simp [World.setCell]⟩

theorem iter_holds {P : Type} {n fu : Nat} {s0 : RmS P} (h0 : RInv n fu s0) (j : Nat) (k : ByteArray) (c : P) : Holds n (rmIter n j s0).sl (rmIter n j s0).pay k c ↔ Holds n s0.sl s0.pay k c := by
  induction j with
  | zero => exact Iff.rfl
  | succ j ih => rw [rmIter]; exact ((h0.iter j).holds k c).trans ih
theorem iter_key {P : Type} {n fu : Nat} {s0 : RmS P} (h0 : RInv n fu s0) {B : Nat} (hk : ∀ i k, i < n → s0.sl i = some k → k.size ≤ B) (j : Nat) : ∀ i k, i < n → (rmIter n j s0).sl i = some k → k.size ≤ B := fun i k hi h => by
  obtain ⟨i', hi', h1, _⟩ := (iter_holds h0 j k _).1 ⟨i, hi, h, rfl⟩
  exact hk i' k hi' h1
/-- After Remove: the loop is at its end, and the table in memory is what it left. -/
def RemPost (b g h n : Nat) (u : Int) (s0 : RmS Int) (w : World) (e : Ending) (w' : World) : Prop :=
  e = .returned (.tuple #[]) ∧ ∃ s, RmDone n s0 s ∧ LocksAt w' b g h n s.sl s.pay u ∧ Chg (fun k => k = g ∨ k = h) w w'
theorem remove_any (cb b g h n : Nat) (sl : Nat → Option ByteArray) (ow : Nat → Int) (u : Int) (gap : Nat) (hm : n ≤ 4096) (w : World) (hc : w.cell? ⟨cb, 0, none⟩ = some (.pointer (some ⟨b, 0, none⟩))) (hcg : cb ≠ g) (hch : cb ≠ h) (hl : LocksAt w b g h n sl ow u)
    (hk : ∀ i k, i < n → sl i = some k → k.size ≤ maxLen) (key : ByteArray) (hg : Has n sl key gap) (t : Tab n sl u) (fu : Nat) (hfu : fu < n) (hf : sl fu = none) :
    Calls Try.prog 99 #[.slice (some ⟨g, 0, none⟩) n n, .int .i64 (gap : Int), .func (.func 100) #[] #[.pointer (some ⟨cb, 0, none⟩)]] w (RemPost b g h n u (rmStart n sl ow gap) w) := by
  have hgl := hg.1
  have hcbl : cb < w.heap.size := by
    rcases Nat.lt_or_ge cb w.heap.size with h1 | h1
    · exact h1
    · simp [World.cell?, Array.getElem?_eq_none h1] at hc
  have hr0 := rinv_start t ow hgl hfu hf (by rw [hg.2]; simp)
  have hn0 : ((n : Int) == 0) = false := by simp; omega
  have hnx := nx_tmod hgl
  have hl' := hl
  obtain ⟨hbg, hbh, hgh, hb, hbf, _, _, _, hsl, _⟩ := hl'
  have hgf := hsl.2.1
  obtain ⟨c0, c1⟩ := hsl.2.2 gap hgl
  have hl1 := hl.setSlot hgl none
  have hc1 : Chg (fun k => k = g ∨ k = h) w ((w.setCell ⟨g, gap * 2, none⟩ (.bool false)).setCell ⟨g, gap * 2 + 1, none⟩ (.string ⟨#[]⟩)) := ((Chg.refl _ w).setCell (.inl (.inl rfl)) _).setCell (.inl (.inl rfl)) _
  have Hk0 := Lib.hid (show ∀ i k, i < n → (rmStart n sl ow gap).sl i = some k → k.size ≤ maxLen from fun i k hi h => by
    change upd sl gap none i = some k at h
    by_cases hig : i = gap
    · rw [hig, upd_same] at h; simp at h
    · rw [upd_other _ _ hig] at h; exact hk i k hi h)
  clear hk
  have Hl1 := Lib.hid hl1
  have Hc1 := Lib.hid hc1
  have Hr0 := Lib.hid hr0
  clear hl hl1 hc1 hr0 hsl
  go_enter Try.func99, Try.ntmps99
  go_wp2_with fail
  go_loopw [1, 7] (fun ga po wr => ∃ j, let s := rmIter n j (rmStart n sl ow gap); ga = .int .i64 (s.gap : Int) ∧ po = .int .i64 (s.pos : Int) ∧ LocksAt wr b g h n s.sl s.pay u ∧ Chg (fun k => k = g ∨ k = h) w wr) (fun _ po _ => dist n (intOf po).toNat fu)
  case atStart => exact ⟨0, rfl, rfl, Hl1.out, Hc1.out⟩
  case round =>
    obtain ⟨j, hrel⟩ := hrel
    have hi := Hr0.out.iter j
    have hks := iter_key Hr0.out Hk0.out j
    have hnext : rmIter n (j + 1) (rmStart n sl ow gap) = rmStep n (rmIter n j (rmStart n sl ow gap)) := rfl
    obtain ⟨s, hs⟩ : ∃ s, rmIter n j (rmStart n sl ow gap) = s := ⟨_, rfl⟩
    rw [hs] at hi hks hnext
    simp only [hs] at hrel
    have Hs := Lib.hid hs
    have Hnext := Lib.hid hnext
    clear hs hnext
    obtain ⟨sl', ow', ga, po⟩ := s
    obtain ⟨gapL, posL, gapN, _, fuN, fuG, ahead, near, _, _⟩ := hi
    simp only at hrel gapL posL gapN fuN fuG ahead near hks
    obtain ⟨rfl, rfl, hlr, hcr⟩ := hrel
    have hlr' := hlr
    obtain ⟨_, _, _, hb1, hbf1, _, _, _, hsl1, _⟩ := hlr'
    have hgf1 := hsl1.2.1
    obtain ⟨d0, d1⟩ := hsl1.2.2 po posL
    have Hlr := Lib.hid hlr
    have Hcr := Lib.hid hcr
    clear hlr hcr
    cases hsp : sl' po with
    | none =>
      have Hsp := Lib.hid hsp
      rw [hsp] at d0 d1
      simp only [Option.isSome, Option.getD] at d0 d1
      clear hsp hsl1
      go_wp2_with fail
      go_end0
      exact ⟨rfl, _, ⟨j, Hs.out.symm, Hsp.out⟩, Hlr.out, Hcr.out⟩
    | some k =>
      have Hsp := Lib.hid hsp
      have hsz := hks po k posL hsp
      rw [hsp] at d0 d1
      simp only [Option.isSome, Option.getD] at d0 d1
      clear hsp hsl1 hks
      obtain ⟨h0, hh⟩ := homeN_lt k (show 0 < n by omega)
      have e1 := dist_tmod h0 posL
      have e2 := dist_tmod gapL posL
      have e3 := nx_tmod posL
      have hpf : po ≠ fu := fun e => by rw [e, fuN] at Hsp; simpa using Hsp.out
      have hmeas := dist_nx posL hfu hpf
      by_cases hcnd : dist n (homeN k n) po < dist n ga po
      · have hd : decide (dist n (homeN k n) po < dist n ga po) = true := by simpa using hcnd
        have Hst := Lib.hid (show rmIter n (j + 1) (rmStart n sl ow gap) = ⟨sl', ow', ga, nx n po⟩ by rw [Hnext.out]; simp only [rmStep, Hsp.out, if_pos hcnd])
        go_wp2_with (go_at_call 45; refine (home_any _ _ _ hsz).mono ?_; rintro e w1 ⟨rfl, hy⟩)
        go_region
        all_goals
          go_wp2_with fail
          go_roundw
          case rel =>
            refine ⟨j + 1, ?_⟩
            simp only [Hst.out]
            refine ⟨by trivial, by trivial, ?_, ?_⟩
            · have hz := Hlr.out.ext hy
              repeat (first | assumption | apply LocksAt.drew)
            · have hz := Hcr.out.trans (hy.chg _)
              repeat (first | assumption | apply Chg.drew)
          case measure => simpa [intOf] using hmeas
      · have hd : decide (dist n (homeN k n) po < dist n ga po) = false := by simpa using hcnd
        have Hst := Lib.hid (show rmIter n (j + 1) (rmStart n sl ow gap) = ⟨upd (upd sl' ga (some k)) po none, upd ow' ga (ow' po), po, nx n po⟩ by rw [Hnext.out]; simp only [rmStep, Hsp.out, if_neg hcnd])
        have hne : po ≠ ga := fun e => by rw [e, dist_self] at ahead; omega
        have k1 : ga * 2 ≠ po * 2 := by omega
        have k2 : ga * 2 + 1 ≠ po * 2 := by omega
        have k3 : ga * 2 ≠ po * 2 + 1 := by omega
        have k4 : ga * 2 + 1 ≠ po * 2 + 1 := by omega
        go_wp2_with (go_at_call 45; refine (home_any _ _ _ hsz).mono ?_; rintro e w1 ⟨rfl, hy⟩; have hz := (Hlr.out.ext hy).2.2.2.2.2.2.2.2.1; have z1 := hz.2.1; obtain ⟨z2, z3⟩ := hz.2.2 po posL; obtain ⟨z4, z5⟩ := hz.2.2 ga gapL; rw [Hsp.out] at z2 z3; rw [gapN] at z4 z5; simp only [Option.isSome, Option.getD] at z2 z3 z4 z5; clear hz)
        go_region
        all_goals
          go_wp2_with fail
          have hL := (((Hlr.out.ext hy).setSlot gapL (some k)).setSlot posL none).drew
          have hW : Chg (fun k => k = g ∨ k = h) w ((((w1.setCell ⟨g, ga * 2, none⟩ (.bool true)).setCell ⟨g, ga * 2 + 1, none⟩ (.string k)).setCell ⟨g, po * 2, none⟩ (.bool false)).setCell ⟨g, po * 2 + 1, none⟩ (.string ⟨#[]⟩)).drew :=
            (((((Hcr.out.trans (hy.chg _)).setCell (.inl (.inl rfl)) _).setCell (.inl (.inl rfl)) _).setCell (.inl (.inl rfl)) _).setCell (.inl (.inl rfl)) _).drew
          refine (move_any cb b h n ow' ga po gapL posL _ ((hW.cell (p := ⟨cb, 0, none⟩) hcbl (by rintro (e | e); exact hcg e; exact hch e)).trans hc) hL.2.2.2.2.2.2.1 hL.2.2.2.2.2.2.2.2.2).mono ?_
          rintro e w2 ⟨rfl, hi2, hc2, hs2⟩
          have hL2 := Lib.hid (hL.move hi2 hc2)
          have hW2 := Lib.hid (hW.trans (hc2.mono fun i _ hi => Or.inr hi))
          clear hL hW hi2 hc2
          go_wp2_with fail
          go_roundw
          case rel =>
            refine ⟨j + 1, ?_⟩
            simp only [Hst.out]
            exact ⟨by trivial, by trivial, hL2.out, hW2.out⟩
          case measure => simpa [intOf] using hmeas
end Go.Proofs.Ytkhfjedeccjnbaa
