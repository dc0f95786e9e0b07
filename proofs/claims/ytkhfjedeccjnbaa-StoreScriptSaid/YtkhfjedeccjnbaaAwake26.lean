/-
  The example of chapter 26 that its laws check.
  Conditions: none.
-/
import Derived.Test.YtkhfjedeccjnbaaPut2
import Derived.Test.YtkhfjedeccjnbaaSlots
import Derived.Deep.RegionHeld3
namespace Go.Proofs.Ytkhfjedeccjnbaa
open Go.RowKit Go.Sort
set_option maxHeartbeats 4000000

/-- The record of the example. -/
def rcN : Rc := ⟨2, 0, ⟨#[110]⟩, 0⟩
theorem rcN_check : rcN.check = true := by decide
def letters : List ByteArray := [⟨#[97]⟩, ⟨#[98]⟩, ⟨#[99]⟩]
theorem letters_new : ∀ k, k < 3 → letters.getD k ⟨#[]⟩ ∉ letters.take k := fun k hk => by
  rcases (show k = 0 ∨ k = 1 ∨ k = 2 by omega) with rfl | rfl | rfl <;> simp [letters]
theorem letters_next : ∀ k, k < 3 → letters.take (k + 1) = letters.take k ++ [letters.getD k ⟨#[]⟩] := fun k hk => by
  rcases (show k = 0 ∨ k = 1 ∨ k = 2 by omega) with rfl | rfl | rfl <;> rfl
/-- The table of the example after k letters. -/
def AwTab (k : Nat) (sl : Nat → Option ByteArray) (f : Nat → Rc) (u : Int) : Prop := StOk 4 sl u ∧ u = (k : Nat) ∧ ∀ key c, Holds 4 sl f key c ↔ key ∈ letters.take k ∧ c = rcN
theorem st_new : StOk 4 (fun _ => none) 0 := ⟨tab_new (by omega), by omega, by omega, by omega, by decide, by simp⟩
theorem aw_start : AwTab 0 (fun _ => none) (fun _ => rc0) 0 := ⟨st_new, rfl, fun key c => ⟨fun ⟨i, _, h, _⟩ => by simp at h, fun h => by simp at h⟩⟩
theorem holds_none {P : Type} {n : Nat} {sl : Nat → Option ByteArray} {f : Nat → P} {key : ByteArray} (h : ∀ c, ¬ Holds n sl f key c) (i : Nat) : ¬ Has n sl key i := fun hi => h _ ⟨i, hi.1, hi.2, rfl⟩
theorem aw_step {k : Nat} {sl : Nat → Option ByteArray} {f : Nat → Rc} {u : Int} (h : AwTab k sl f u) (hk : k < 3) {code : Int} {n' : Nat} {sl' : Nat → Option ByteArray} {f' : Nat → Rc} {u' : Int} (s : PutSpec 4 sl f u (letters.getD k ⟨#[]⟩) rcN code n' sl' f' u') :
    code = 0 ∧ n' = 4 ∧ AwTab (k + 1) sl' f' u' := by
  obtain ⟨o, hu, hH⟩ := h
  have hno : ∀ i, ¬ Has 4 sl (letters.getD k ⟨#[]⟩) i := holds_none (f := f) fun c hc => letters_new k hk ((hH _ c).1 hc).1
  have hks : (letters.getD k ⟨#[]⟩).size ≤ maxLen := by
    rcases (show k = 0 ∨ k = 1 ∨ k = 2 by omega) with rfl | rfl | rfl <;> decide
  rcases put_new o rcN_check (by decide) hno s with ⟨_, h, _⟩ | ⟨rfl, hu', ⟨rfl, _⟩ | ⟨_, h, _⟩⟩
  · omega
  · obtain ⟨o', hH'⟩ := put_ok_holds o hks (by decide) s
    refine ⟨rfl, rfl, o', by omega, fun key c => (hH' key c).trans ?_⟩
    rw [letters_next k hk, List.mem_append, List.mem_singleton, hH]
    constructor
    · rintro (⟨rfl, rfl⟩ | ⟨_, a, b⟩)
      · exact ⟨.inr rfl, rfl⟩
      · exact ⟨.inl a, b⟩
    · rintro ⟨a | a, b⟩
      · by_cases e : key = letters.getD k ⟨#[]⟩
        · exact .inl ⟨e, b⟩
        · exact .inr ⟨e, a, b⟩
      · exact .inl ⟨a, b⟩
  · omega
/-- The fourth key makes the table double. -/
theorem aw_last {sl : Nat → Option ByteArray} {f : Nat → Rc} {u : Int} (h : AwTab 3 sl f u) {code : Int} {n' : Nat} {sl' : Nat → Option ByteArray} {f' : Nat → Rc} {u' : Int} (s : PutSpec 4 sl f u ⟨#[100]⟩ rcN code n' sl' f' u') :
    code = 0 ∧ n' = 8 ∧ u' = 4 ∧ StOk 8 sl' u' ∧ Holds 8 sl' f' ⟨#[99]⟩ rcN := by
  obtain ⟨o, hu, hH⟩ := h
  have hno : ∀ i, ¬ Has 4 sl ⟨#[100]⟩ i := holds_none (f := f) fun c hc => by
    have := ((hH _ c).1 hc).1
    simp [letters] at this
  rcases put_new o rcN_check (by decide) hno s with ⟨_, h, _⟩ | ⟨rfl, hu', ⟨_, h⟩ | ⟨rfl, _, _⟩⟩
  · omega
  · omega
  · obtain ⟨o', hH'⟩ := put_ok_holds o (show (⟨#[100]⟩ : ByteArray).size ≤ maxLen by decide) (by decide) s
    exact ⟨rfl, rfl, by omega, o', (hH' _ _).2 (.inr ⟨by simp, (hH _ _).2 ⟨by simp [letters], rfl⟩⟩)⟩

def AwRel (w : World) (b rb : Nat) (k : Nat) (wr : World) : Prop :=
  w.heap.size ≤ b ∧ w.heap.size ≤ rb ∧ rb ≠ b ∧ RecAt wr rb 2 0 0 ⟨#[110]⟩ ∧ Ext w wr ∧ ∃ g h sl f u, w.heap.size ≤ g ∧ w.heap.size ≤ h ∧ rb ≠ g ∧ rb ≠ h ∧ StoreAt wr b g h 4 sl f u ∧ AwTab k sl f u
theorem RecAt.chg {w w' : World} {S : Nat → Prop} {g : Nat} {st ow dl : Int} {nm : ByteArray} (h : RecAt w g st ow dl nm) (c : Chg S w w') (hS : ¬ S g) : RecAt w' g st ow dl nm := by
  obtain ⟨c0, c1, c2, c3, c4⟩ := h
  exact ⟨(c.cell (lt_of_cell c0) hS).trans c0, (c.cell (lt_of_cell c1) hS).trans c1, (c.cell (lt_of_cell c2) hS).trans c2, (c.cell (lt_of_cell c3) hS).trans c3, fun i => (c.frozen (p := ⟨g, i, none⟩) (show g < _ from lt_of_cell c0) hS).trans (c4 i)⟩
theorem RecAt.ext {w w' : World} {g : Nat} {st ow dl : Int} {nm : ByteArray} (h : RecAt w g st ow dl nm) (x : Ext w w') : RecAt w' g st ow dl nm := h.chg (x.chg fun _ => False) fun h => h
theorem sget_val (b g h n : Nat) (sl : Nat → Option ByteArray) (f : Nat → Rc) (u : Int) (key : ByteArray) (st ow dl : Int) (nm : ByteArray) (w : World) (o : StOk n sl u) (hs : key.size ≤ maxLen) (hl : StoreAt w b g h n sl f u) (hv : Val rc0 n sl f key ⟨st, ow, nm, dl⟩) :
    Calls Try.prog 70 #[.pointer (some ⟨b, 0, none⟩), .string key] w fun e w' => e = .returned (.agg #[.int .i64 st, .int .i64 ow, .string nm, .int .i64 dl]) ∧ Ext w w' := by
  obtain ⟨fu, hfu, hfree⟩ := o.free
  have h1 := o.lo
  have h2 := o.hi
  refine (sget_any b g h n sl f u key w (by omega) (by omega) hs hl fu hfu hfree).mono ?_
  rintro e w' ⟨p, ok, hf, rfl, hx⟩
  have e := val_same o.tab (val_find (c0 := rc0) o.tab (f := f) hf) hv
  exact ⟨by rw [e]; rfl, hx⟩
set_option maxRecDepth 100000
theorem awake26 (w : World) : Calls Try.prog 66 #[] w fun e w' => e = .returned (.bool true) ∧ Ext w w' := by
  have i0 : ∀ w, (Instr.index 110 (.agg #[.string ⟨#[97]⟩, .string ⟨#[98]⟩, .string ⟨#[99]⟩]) (.int .i64 0)).run Try.prog w = .ok (.string ⟨#[97]⟩) w := fun _ => by kernel_rfl
  have i1 : ∀ w, (Instr.index 110 (.agg #[.string ⟨#[97]⟩, .string ⟨#[98]⟩, .string ⟨#[99]⟩]) (.int .i64 1)).run Try.prog w = .ok (.string ⟨#[98]⟩) w := fun _ => by kernel_rfl
  have i2 : ∀ w, (Instr.index 110 (.agg #[.string ⟨#[97]⟩, .string ⟨#[98]⟩, .string ⟨#[99]⟩]) (.int .i64 2)).run Try.prog w = .ok (.string ⟨#[99]⟩) w := fun _ => by kernel_rfl
  go_enter Try.func66, Try.ntmps66
  go_wp2_with fail
  refine (snew_any 4 _).mono ?_
  rintro e w1 (⟨hp, _⟩ | ⟨_, b, g, h, rfl, hb, hg, hh, hl, hx⟩)
  · exact absurd hp (by decide)
  have hl1 : StoreAt w1 b g h 4 (fun _ => none) (fun _ => rc0) 0 := hl
  have hsz := hx.size
  have hrel0 : AwRel w b w1.heap.size 0 (w1.alloc (.cells #[.int .i64 2, .int .i64 0, .string ⟨#[110]⟩, .int .i64 0] 30)) := by
    refine ⟨hb, hsz, by have := hl1.2.2.2.1; omega, ⟨by go_simp, by go_simp, by go_simp, by go_simp, fun i => by go_simp⟩, hx.alloc _, g, h, _, _, _, hg, hh, by have := hl1.2.2.2.2.2.2.2.2.1.1; omega, by have := hl1.2.2.2.2.2.2.2.2.2.1; omega, hl1.ext ((Ext.refl _).alloc _), aw_start⟩
  have Hrel0 := Lib.hid hrel0
  clear hl hl1 hrel0 hx
  go_wp2_with fail
  go_loopw [19] (fun o wr => ∃ k : Nat, k ≤ 3 ∧ o = .int .i64 (k : Int) ∧ AwRel w b w1.heap.size k wr) (fun o _ => 3 - (intOf o).toNat)
  case atStart => exact ⟨0, by omega, rfl, Hrel0.out⟩
  case round =>
    clear Hrel0
    obtain ⟨k, hk3, rfl, hb1, hrb, hrbb, hr, hx, g1, h1, sl, f, u, hg1, hh1, hrg, hrh, hl, ht⟩ := hrel
    have o := ht.1
    have Hr := Lib.hid hr
    have Hx := Lib.hid hx
    have Hl := Lib.hid hl
    have Ht := Lib.hid ht
    obtain ⟨r0, r1, r2, r3, r4⟩ := hr
    clear hx hl ht
    by_cases hk : k < 3
    · have hkey : ∃ key : ByteArray, letters.getD k ⟨#[]⟩ = key ∧ key.size ≤ maxLen ∧ ∀ w, (Instr.index 110 (.agg #[.string ⟨#[97]⟩, .string ⟨#[98]⟩, .string ⟨#[99]⟩]) (.int .i64 (k : Int))).run Try.prog w = .ok (.string key) w := by
        rcases (show k = 0 ∨ k = 1 ∨ k = 2 by omega) with rfl | rfl | rfl
        · exact ⟨_, rfl, by decide, i0⟩
        · exact ⟨_, rfl, by decide, i1⟩
        · exact ⟨_, rfl, by decide, i2⟩
      obtain ⟨key, hkey, hks, hidx⟩ := hkey
      have Hkey := Lib.hid hkey
      have hd : decide ((k : Int) < 3) = true := by simp; omega
      clear hkey
      go_wp2_with fail
      refine (sput_any b g1 h1 4 sl f u key 2 0 0 ⟨#[110]⟩ _ o hks Hl.out).mono ?_
      rintro e w2 ⟨code, n', g2, h2, sl2, f2, u2, rfl, hs, hl2, hgh, hc⟩
      have hs' : PutSpec 4 sl f u (letters.getD k ⟨#[]⟩) rcN code n' sl2 f2 u2 := by rw [Hkey.out]; exact hs
      obtain ⟨rfl, rfl, ht2⟩ := aw_step Ht.out hk hs'
      have hx2 := Hx.out.chg_new hc (by rintro i (rfl | rfl | rfl) <;> assumption)
      have hr2 := Hr.out.chg hc (by omega)
      have hrbl := lt_of_cell r0
      simp only at hrbl
      have hsx := Hx.out.size
      have hrel2 : AwRel w b w1.heap.size (k + 1) w2 := ⟨hb1, hrb, hrbb, hr2, hx2, g2, h2, sl2, f2, u2, by omega, by omega, by omega, by omega, hl2, ht2⟩
      have Hrel2 := Lib.hid hrel2
      clear hs hs' hl2 hc ht2 hx2 hr2 hrel2 i0 i1 i2
      go_wp2_with fail
      go_roundw
      case rel => exact ⟨k + 1, by omega, by go_num, Hrel2.out⟩
      case measure => simp [intOf]; omega
    · have hd : decide ((k : Int) < 3) = false := by simp; omega
      have hk3' : k = 3 := by omega
      subst hk3'
      clear i0 i1 i2
      go_wp2_with fail
      refine (sslots_any b g1 h1 4 sl f u _ (by omega) Hl.out).mono ?_
      rintro e w2 ⟨v, rfl, ⟨_, A, c, rfl, _⟩, hx2⟩
      have Hr2 := Lib.hid (Hr.out.chg (hx2.chg (fun _ => False)) (fun h => h))
      have Hx2 := Lib.hid (Hx.out.trans hx2)
      have Hl2 := Lib.hid (Hl.out.ext hx2)
      clear hx2 r0 r1 r2 r3 r4
      obtain ⟨r0, r1, r2, r3, r4⟩ := Hr2.out
      go_wp2_with fail
      have hnS : ¬ (w1.heap.size = b ∨ w1.heap.size = g1 ∨ w1.heap.size = h1) := by rintro (e | e | e); exact hrbb e; exact hrg e; exact hrh e
      go_region_held3 (fun w' => w'.cell? ⟨w1.heap.size, 0, none⟩ = some (.int .i64 2) ∧ w'.cell? ⟨w1.heap.size, 1, none⟩ = some (.int .i64 0) ∧ w'.cell? ⟨w1.heap.size, 2, none⟩ = some (.string ⟨#[110]⟩) ∧ w'.cell? ⟨w1.heap.size, 3, none⟩ = some (.int .i64 0)) (go_keep)
        (first
          | (go_at_call 68; refine (sput_any b g1 h1 4 sl f u ⟨#[100]⟩ 2 0 0 ⟨#[110]⟩ _ o (by decide) (Hl2.out.ext (by repeat' (first | exact Ext.refl _ | assumption | apply Ext.alloc | apply Ext.drewN | apply Ext.drew | (refine Ext.trans ?_ (by assumption)) | (refine ext_setCell ?_ (by first | (simp; done) | (simp; omega)) _))))).mono ?_; rintro e w3 ⟨code, n', g2, h2, sl2, f2, u2, rfl, hs, hl3, hgh, hc⟩; obtain ⟨rfl, rfl, rfl, o3, hold⟩ := aw_last Ht.out hs; have Hold := Lib.hid hold; have Hl3 := Lib.hid hl3; have Hx3 := Lib.hid ((Hx2.out.trans (show Ext w2 w2.drew from (by repeat' (first | exact Ext.refl _ | assumption | apply Ext.alloc | apply Ext.drewN | apply Ext.drew | (refine Ext.trans ?_ (by assumption)) | (refine ext_setCell ?_ (by first | (simp; done) | (simp; omega)) _))))).chg_new hc (by rintro i (rfl | rfl | rfl) <;> assumption)); have Hr3 := Lib.hid ((Hr2.out.ext (show Ext w2 w2.drew from (by repeat' (first | exact Ext.refl _ | assumption | apply Ext.alloc | apply Ext.drewN | apply Ext.drew | (refine Ext.trans ?_ (by assumption)) | (refine ext_setCell ?_ (by first | (simp; done) | (simp; omega)) _))))).chg hc hnS); obtain ⟨q0, q1, q2, q3, q4⟩ := Hr3.out; clear hs hl3 hc hold)
          | (go_at_call 85; refine (sslots_any b g2 h2 8 sl2 f2 4 _ (by omega) Hl3.out).mono ?_; rintro e w4 ⟨v, rfl, ⟨_, A4, c4, rfl, _⟩, hx4⟩; have Hl4 := Lib.hid (Hl3.out.ext hx4); have Hr4 := Lib.hid (Hr3.out.ext hx4); obtain ⟨p0, p1, p2, p3, p4⟩ := Hr4.out; have Hx4 := Lib.hid (Hx3.out.trans hx4); clear hx4)
          | (go_at_call 72; refine (slen_any b g2 h2 8 sl2 f2 4 _ Hl4.out).mono ?_; rintro e w5 ⟨rfl, rfl⟩)
          | (go_at_call 70; refine (sget_val b g2 h2 8 sl2 f2 4 ⟨#[99]⟩ 2 0 0 ⟨#[110]⟩ _ o3 (by decide) Hl4.out (.inl Hold.out)).mono ?_; rintro e w6 ⟨rfl, hx6⟩; obtain ⟨t0, t1, t2, t3, t4⟩ := Hr4.out.ext hx6; have Hx6 := Lib.hid (Hx4.out.trans hx6); clear hx6))
      all_goals
        go_wp2_with fail
        go_ret
        exact ⟨rfl, Hx6.out⟩
end Go.Proofs.Ytkhfjedeccjnbaa
