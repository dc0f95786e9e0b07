/-
  Locks beside their reference, in memory: Acquire, Release, Owner and all that they show agree (25.2, 25.3, 25.4).
  Conditions: at most 2048 slots; lengths within a process's reach.
-/
import Derived.Test.YtkhfjedeccjnbaaRLk3
import Derived.Test.YtkhfjedeccjnbaaRSort
import Derived.Test.YtkhfjedeccjnbaaRShow
import Derived.Test.YtkhfjedeccjnbaaSame
namespace Go.Proofs.Ytkhfjedeccjnbaa
open Go.RowKit Go.Sort
set_option maxHeartbeats 2000000
set_option maxRecDepth 100000

theorem rlkeys_any (S : Nat → Prop) (b n : Nat) (sl : Nat → Option ByteArray) (os : List Rc) (L : Nat) (u : Int) (w : World) (hn : n ≤ 2048) (tb : Tab n sl u) (h : RLkIs w S b n sl os L) :
    Calls Try.prog 113 #[.pointer (some ⟨b, 0, none⟩)] w (SortedPost n sl w) := by
  obtain ⟨t, rv, St, Sr, c0, _, _, hSb, hT, _, _, _, hlow⟩ := h
  have hbl := hlow b hSb
  go_enter Try.func113, Try.ntmps113
  go_wp2_with fail
  refine (rsorted_any St t n sl L u w hn tb hT).mono ?_
  rintro e w1 ⟨hs, ha, hm, v, rfl, ho, hx⟩
  have Ho := Lib.hid ho
  have Hm := Lib.hid hm
  clear ho hm
  go_wp2_with fail
  go_ret
  exact ⟨hs, ha, Hm.out, _, rfl, Ho.out, hx⟩
theorem rlslots_any (S : Nat → Prop) (b n : Nat) (sl : Nat → Option ByteArray) (os : List Rc) (L : Nat) (w : World) (hn : n ≤ 4096) (h : RLkIs w S b n sl os L) :
    Calls Try.prog 114 #[.pointer (some ⟨b, 0, none⟩)] w (NewRd 2 n (slotCells n sl) w) := by
  obtain ⟨t, rv, St, Sr, c0, _, _, hSb, hT, _, _, _, hlow⟩ := h
  have hbl := hlow b hSb
  go_enter Try.func114, Try.ntmps114
  go_wp2_with fail
  refine (rshown_any St t n sl L w hn hT).mono ?_
  rintro e w1 ⟨v, rfl, ho, hx⟩
  have Ho := Lib.hid ho
  clear ho
  go_wp2_with fail
  go_ret
  exact ⟨_, rfl, Ho.out, hx⟩

/-- Locks at block xb and their reference at block yb: the same slots, the same locks; all of it is newer than the world w0. -/
structure LBoth (w0 : World) (xb yb n g h : Nat) (wr : World) (sl : Nat → Option ByteArray) (ow : Nat → Int) (u : Int) (S : Nat → Prop) (os : List Rc) (L : Nat) : Prop where
  x : LocksAt wr xb g h n sl ow u
  y : RLkIs wr S yb n sl os L
  ok : LOk n sl u
  cpl : LCpl n sl ow u os
  ext : Ext w0 wr
  hb : w0.heap.size ≤ xb
  hg : w0.heap.size ≤ g
  hh : w0.heap.size ≤ h
  hS : ∀ k, S k → w0.heap.size ≤ k
  dis : ∀ k, S k → k ≠ xb ∧ k ≠ g ∧ k ≠ h
section
variable {w0 : World} {xb yb n g h : Nat} {wr : World} {sl : Nat → Option ByteArray} {ow : Nat → Int} {u : Int} {S : Nat → Prop} {os : List Rc} {L : Nat}
theorem LBoth.on {w' : World} (b : LBoth w0 xb yb n g h wr sl ow u S os L) (x : Ext wr w') : LBoth w0 xb yb n g h w' sl ow u S os L :=
  ⟨b.x.ext x, b.y.ext x, b.ok, b.cpl, b.ext.trans x, b.hb, b.hg, b.hh, b.hS, b.dis⟩
theorem LBoth.far {w' : World} {sb : Nat} (b : LBoth w0 xb yb n g h wr sl ow u S os L) (c : Chg (· = sb) wr w') (hs : w0.heap.size ≤ sb) (h1 : xb ≠ sb) (h2 : g ≠ sb) (h3 : h ≠ sb) (h4 : ∀ k, S k → k ≠ sb) : LBoth w0 xb yb n g h w' sl ow u S os L :=
  ⟨b.x.chg_far c h1 h2 h3, b.y.chg c h4, b.ok, b.cpl, b.ext.chg_new c (fun i hi => by subst hi; exact hs), b.hb, b.hg, b.hh, b.hS, b.dis⟩
theorem LBoth.after {w1 w2 : World} (b : LBoth w0 xb yb n g h wr sl ow u S os L) {sl' : Nat → Option ByteArray} {ow' : Nat → Int} {u' : Int} {os' : List Rc} {S' : Nat → Prop} {L' : Nat} (hx : LocksAt w1 xb g h n sl' ow' u') (h1 : Ext w0 w1) (hy : RLkIs w2 S' yb n sl' os' L') (ok' : LOk n sl' u') (cpl' : LCpl n sl' ow' u' os') (hS' : ∀ k, S' k → S k ∨ w1.heap.size ≤ k) (hc : Chg S w1 w2) :
    LBoth w0 xb yb n g h w2 sl' ow' u' S' os' L' := by
  have n1 : ¬ S xb := fun h => (b.dis xb h).1 rfl
  have n2 : ¬ S g := fun h => (b.dis g h).2.1 rfl
  have n3 : ¬ S h := fun h' => (b.dis h h').2.2 rfl
  have l1 := hx.2.2.2.1
  have l2 := hx.2.2.2.2.2.2.2.2.1.1
  have l3 := hx.2.2.2.2.2.2.2.2.2.1
  have hz := h1.size
  refine ⟨hx.keep hc.size (hc.block xb l1 n1) (hc.block g l2 n2) (hc.block h l3 n3), hy, ok', cpl', h1.chg_new hc b.hS, b.hb, b.hg, b.hh, fun k hk => ?_, fun k hk => ?_⟩
  · rcases hS' k hk with h | h
    · exact b.hS k h
    · omega
  · rcases hS' k hk with h | h
    · exact b.dis k h
    · refine ⟨?_, ?_, ?_⟩ <;> omega
/-- What the reference's method, called next, does to both. -/
def BothPost (w0 : World) (xb yb n g h : Nat) (S : Nat → Prop) (L : Nat) (code : Int) (w1 : World) (e : Ending) (w2 : World) : Prop :=
  e = .returned (.int .i64 code) ∧ ∃ sl' ow' u' S' os', LBoth w0 xb yb n g h w2 sl' ow' u' S' os' L ∧ (∀ k, S' k → S k ∨ w1.heap.size ≤ k) ∧ Chg S w1 w2
theorem LBoth.nS (b : LBoth w0 xb yb n g h wr sl ow u S os L) : ∀ k, S k → ¬ (k = xb ∨ k = g ∨ k = h) := fun k hk e => by
  obtain ⟨h1, h2, h3⟩ := b.dis k hk
  rcases e with e | e | e
  · exact h1 e
  · exact h2 e
  · exact h3 e
theorem LBoth.new (b : LBoth w0 xb yb n g h wr sl ow u S os L) : ∀ k, (k = xb ∨ k = g ∨ k = h) → w0.heap.size ≤ k := by
  rintro k (rfl | rfl | rfl)
  · exact b.hb
  · exact b.hg
  · exact b.hh
theorem LBoth.acqx (b : LBoth w0 xb yb n g h wr sl ow u S os L) (hn : n ≤ 2048) (key : ByteArray) (hk : key.size ≤ maxLen) (c : Int) (hL : L ≤ 900000) :
    Calls Try.prog 59 #[.pointer (some ⟨xb, 0, none⟩), .string key, .int .i64 c] wr fun e w1 => ∃ code, e = .returned (.int .i64 code) ∧ Chg (fun k => k = xb ∨ k = g ∨ k = h) wr w1 ∧
      Calls Try.prog 79 #[.pointer (some ⟨yb, 0, none⟩), .string key, .int .i64 c] w1 (BothPost w0 xb yb n g h S (L + 1) code w1) := by
  obtain ⟨fu, hfu, hfree⟩ := b.ok.free
  have hbd := b.ok.tab.bd
  have hnum := b.cpl.num
  have hroom := b.ok.room
  refine (acquire_any xb g h n sl ow u key c wr b.ok.tab.pos (by omega) hk b.x hbd.1 hbd.2 fu hfu hfree).mono ?_
  rintro e w1 ⟨code, sl', ow', u', rfl, hsp, hl, hc⟩
  refine ⟨code, rfl, hc, ?_⟩
  refine (racquire_any S yb n sl os L key c w1 b.ok.tab.pos (by omega) hL (by omega) hk (fun h => b.cpl.hasnt h) fu hfu hfree (b.y.chg hc b.nS)).mono ?_
  rintro e w2 ⟨code2, sl2, os2, S2, rfl, hr, hy, hS2, hc2⟩
  obtain ⟨rfl, rfl, hcp⟩ := both_acq b.ok b.cpl hsp hr
  exact ⟨rfl, _, _, _, S2, os2, b.after hl (b.ext.chg_new hc b.new) hy (b.ok.acq hk hsp) hcp hS2 hc2, hS2, hc2⟩
theorem LBoth.relx (b : LBoth w0 xb yb n g h wr sl ow u S os L) (hn : n ≤ 2048) (key : ByteArray) (hk : key.size ≤ maxLen) (c : Int) (hL : L ≤ 900000) :
    Calls Try.prog 62 #[.pointer (some ⟨xb, 0, none⟩), .string key, .int .i64 c] wr fun e w1 => ∃ code, e = .returned (.int .i64 code) ∧ Chg (fun k => k = xb ∨ k = g ∨ k = h) wr w1 ∧
      Calls Try.prog 80 #[.pointer (some ⟨yb, 0, none⟩), .string key, .int .i64 c] w1 (BothPost w0 xb yb n g h S L code w1) := by
  obtain ⟨fu, hfu, hfree⟩ := b.ok.free
  have hbd := b.ok.tab.bd
  have hnum := b.cpl.num
  have hroom := b.ok.room
  refine (release_any xb g h n sl ow u key c wr (by omega) hk b.x b.ok.tab b.ok.keys fu hfu hfree).mono ?_
  rintro e w1 ⟨code, sl', ow', u', rfl, hsp, hl, hc⟩
  refine ⟨code, rfl, hc, ?_⟩
  refine (rrelease_any S yb n sl os L key c u w1 (by omega) hL (by omega) b.ok.tab b.ok.keys (fun h => b.cpl.has h) fu hfu hfree (b.y.chg hc b.nS)).mono ?_
  rintro e w2 ⟨code2, sl2, os2, S2, rfl, hr, hy, hS2, hc2⟩
  obtain ⟨rfl, rfl, hcp⟩ := both_rel b.ok b.cpl hsp hr
  exact ⟨rfl, _, _, _, S2, os2, b.after hl (b.ext.chg_new hc b.new) hy (b.ok.rel hsp) hcp hS2 hc2, hS2, hc2⟩
theorem LBoth.ownx (b : LBoth w0 xb yb n g h wr sl ow u S os L) (hn : n ≤ 2048) (key : ByteArray) (hk : key.size ≤ maxLen) :
    Calls Try.prog 63 #[.pointer (some ⟨xb, 0, none⟩), .string key] wr fun e w' => e = .returned (.int .i64 (lkOwner os key)) ∧ Ext wr w' := by
  obtain ⟨fu, hfu, hfree⟩ := b.ok.free
  refine (owner_any xb g h n sl ow u key wr b.ok.tab.pos (by omega) hk b.x fu hfu hfree).mono ?_
  rintro e w1 ⟨p, ok, hf, rfl, hx⟩
  exact ⟨by rw [b.cpl.owner b.ok.tab hf], hx⟩
theorem LBoth.owny (b : LBoth w0 xb yb n g h wr sl ow u S os L) (key : ByteArray) :
    Calls Try.prog 81 #[.pointer (some ⟨yb, 0, none⟩), .string key] wr fun e w' => e = .returned (.int .i64 (lkOwner os key)) ∧ Ext wr w' :=
  rlowner_any S yb n sl os L key wr b.y
theorem LBoth.agrees (b : LBoth w0 xb yb n g h wr sl ow u S os L) (hn : n ≤ 2048) :
    Calls Try.prog 82 #[.pointer (some ⟨xb, 0, none⟩), .pointer (some ⟨yb, 0, none⟩)] wr fun e w' => e = .returned (.bool true) ∧ Ext wr w' := by
  have hnum := b.cpl.num
  have hroom := b.ok.room
  have hol : os.length ≤ 2048 := by omega
  have B := Lib.hid b
  clear b hnum hroom
  go_enter Try.func82, Try.ntmps82
  go_wp2_with fail
  go_loopw [5] (fun o wq => ∃ c : Int, -1 ≤ c ∧ c ≤ 5 ∧ o = .int .i64 c ∧ Ext wr wq) (fun o _ => (5 - intOf o).toNat)
  case atStart => exact ⟨-1, by omega, by omega, rfl, Ext.refl _⟩
  case round =>
    obtain ⟨c, hc0, hc1, rfl, hx⟩ := hrel
    have Hx := Lib.hid hx
    clear hx
    by_cases hc : c < 5
    · have hd : decide (c < 5) = true := by simpa using hc
      have hB := B.out.on Hx.out
      have HB := Lib.hid hB
      clear hB
      go_wp2_with fail
      refine (held_any xb g h n sl ow u c _ (by omega) HB.out.x).mono ?_
      rintro e w1 ⟨v1, rfl, ho1, hx1⟩
      have HB1 := Lib.hid (HB.out.on hx1)
      have Ho1 := Lib.hid ho1
      have Hx1 := Lib.hid hx1
      clear ho1 hx1
      go_wp2_with fail
      refine (rheld_any S yb n sl os L c _ hol HB1.out.cpl.dis HB1.out.y).mono ?_
      rintro e w2 ⟨hs, ha, hm, v2, rfl, ho2, hx2⟩
      have hke := HB1.out.cpl.held HB1.out.ok.tab c ha hm
      have hr1 : Rd w2 (fun _ => True) 1 v1 hs.length (hs.map encStr) := by
        have := Ho1.out; rw [hke] at this
        exact (Rd.of_own this (fun _ _ => trivial)).ext hx2
      have hr2 : Rd w2 (fun _ => True) 1 v2 hs.length (hs.map encStr) := Rd.of_own ho2 (fun _ _ => trivial)
      have Hr1 := Lib.hid hr1
      have Hr2 := Lib.hid hr2
      have Hx2 := Lib.hid ((Hx.out.trans Hx1.out).trans hx2)
      clear hr1 hr2 ho2 hx2 hke ha hm Ho1 Hx1
      go_wp2_with fail
      refine (same_str v1 v2 hs.length hs _ _ _ Hr1.out Hr2.out).mono ?_
      rintro e w3 ⟨rfl, hx3⟩
      have Hx3 := Lib.hid (Hx2.out.trans hx3)
      clear hx3
      go_wp2_with fail
      go_roundw
      case rel => exact ⟨c + 1, by omega, by omega, by go_num, Hx3.out⟩
      case measure => simp [intOf]; omega
    · have hd : decide (c < 5) = false := by simpa using hc
      have hB := B.out.on Hx.out
      have HB := Lib.hid hB
      clear hB
      go_wp2_with fail
      refine (lkeys_any xb g h n sl ow u _ (by omega) HB.out.x).mono ?_
      rintro e w1 ⟨v1, rfl, ho1, hx1⟩
      have HB1 := Lib.hid (HB.out.on hx1)
      have Ho1 := Lib.hid ho1
      have Hx1 := Lib.hid (Hx.out.trans hx1)
      clear ho1 hx1
      go_wp2_with fail
      refine (rlkeys_any S yb n sl os L u _ hn HB1.out.ok.tab HB1.out.y).mono ?_
      rintro e w2 ⟨hs, ha, hm, v2, rfl, ho2, hx2⟩
      have hke := tab_sorted HB1.out.ok.tab ha hm
      have hr1 : Rd w2 (fun _ => True) 1 v1 hs.length (hs.map encStr) := by
        have := Ho1.out; rw [hke] at this
        exact (Rd.of_own this (fun _ _ => trivial)).ext hx2
      have hr2 : Rd w2 (fun _ => True) 1 v2 hs.length (hs.map encStr) := Rd.of_own ho2 (fun _ _ => trivial)
      have Hr1 := Lib.hid hr1
      have Hr2 := Lib.hid hr2
      have HB2 := Lib.hid (HB1.out.on hx2)
      have Hx2 := Lib.hid (Hx1.out.trans hx2)
      clear hr1 hr2 ho2 hx2 hke ha hm Ho1 Hx1
      go_wp2_with fail
      refine (same_str v1 v2 hs.length hs _ _ _ Hr1.out Hr2.out).mono ?_
      rintro e w3 ⟨rfl, hx3⟩
      have HB3 := Lib.hid (HB2.out.on hx3)
      have Hx3 := Lib.hid (Hx2.out.trans hx3)
      clear hx3 Hx2
      go_wp2_with fail
      refine (lslots_any xb g h n sl ow u _ (by omega) HB3.out.x).mono ?_
      rintro e w4 ⟨v4, rfl, hr4, hx4⟩
      have HB4 := Lib.hid (HB3.out.on hx4)
      have Hr4 := Lib.hid hr4
      have Hx4 := Lib.hid (Hx3.out.trans hx4)
      clear hx4 hr4 Hx3
      go_wp2_with fail
      refine (rlslots_any S yb n sl os L _ (by omega) HB4.out.y).mono ?_
      rintro e w5 ⟨v5, rfl, hr5, hx5⟩
      have Hr5 := Lib.hid hr5
      have Hr4 := Lib.hid (Hr4.out.ext hx5)
      have Hx5 := Lib.hid (Hx4.out.trans hx5)
      clear hx5 hr5 Hx4
      go_wp2_with fail
      refine (same_slots v4 v5 n sl _ _ _ Hr4.out Hr5.out).mono ?_
      rintro e w6 ⟨rfl, hx6⟩
      have Hx6 := Lib.hid (Hx5.out.trans hx6)
      clear hx6
      go_wp2_with fail
      go_ret
      exact ⟨rfl, Hx6.out⟩
end
end Go.Proofs.Ytkhfjedeccjnbaa
