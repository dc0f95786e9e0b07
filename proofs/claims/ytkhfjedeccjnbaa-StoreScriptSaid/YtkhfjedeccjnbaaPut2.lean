/-
  What Put of a store does, and the number that it returns (26.3).
  Conditions: keys' lengths are those of Go strings; the store's table is whole.
-/
import Derived.Test.YtkhfjedeccjnbaaPut
namespace Go.Proofs.Ytkhfjedeccjnbaa
open Go.RowKit Go.Sort
set_option maxHeartbeats 4000000

def SPutPost (b g h n : Nat) (sl : Nat → Option ByteArray) (f : Nat → Rc) (u : Int) (key : ByteArray) (r : Rc) (w : World) (e : Ending) (w' : World) : Prop :=
  ∃ code n' g' h' sl' f' u', e = .returned (.int .i64 code) ∧ PutSpec n sl f u key r code n' sl' f' u' ∧ StoreAt w' b g' h' n' sl' f' u' ∧ ((g' = g ∧ h' = h) ∨ (w.heap.size ≤ g' ∧ w.heap.size ≤ h')) ∧ Chg (fun k => k = b ∨ k = g ∨ k = h) w w'
/-- Put's own variables: the store and the record. -/
def PutVars (cb b : Nat) (st ow dl : Int) (nm : ByteArray) (w : World) : Prop :=
  w.cell? ⟨cb, 0, none⟩ = some (.pointer (some ⟨b, 0, none⟩)) ∧ w.cell? ⟨cb + 1, 0, none⟩ = some (.int .i64 st) ∧ w.cell? ⟨cb + 1, 1, none⟩ = some (.int .i64 ow) ∧ w.cell? ⟨cb + 1, 2, none⟩ = some (.string nm) ∧ w.cell? ⟨cb + 1, 3, none⟩ = some (.int .i64 dl)
theorem PutVars.keep {cb b : Nat} {st ow dl : Int} {nm : ByteArray} {w w' : World} {S : Nat → Prop} (h : PutVars cb b st ow dl nm w) (c : Chg S w w') (h1 : ¬ S cb) (h2 : ¬ S (cb + 1)) : PutVars cb b st ow dl nm w' := by
  obtain ⟨c0, c1, c2, c3, c4⟩ := h
  exact ⟨(c.cell (lt_of_cell c0) h1).trans c0, (c.cell (lt_of_cell c1) h2).trans c1, (c.cell (lt_of_cell c2) h2).trans c2, (c.cell (lt_of_cell c3) h2).trans c3, (c.cell (lt_of_cell c4) h2).trans c4⟩
theorem PutVars.ext {cb b : Nat} {st ow dl : Int} {nm : ByteArray} {w w' : World} (h : PutVars cb b st ow dl nm w) (x : Ext w w') : PutVars cb b st ow dl nm w' :=
  h.keep (x.chg fun _ => False) (fun h => h) (fun h => h)
theorem putVars_new (w : World) (b : Nat) (st ow dl : Int) (nm : ByteArray) (t t' : TypeId) : PutVars w.heap.size b st ow dl nm ((w.alloc (.cells #[.pointer (some ⟨b, 0, none⟩)] t)).alloc (.cells #[.int .i64 st, .int .i64 ow, .string nm, .int .i64 dl] t')) := by
  refine ⟨?_, ?_, ?_, ?_, ?_⟩ <;> go_simp
theorem sput_any (b g h n : Nat) (sl : Nat → Option ByteArray) (f : Nat → Rc) (u : Int) (key : ByteArray) (st ow dl : Int) (nm : ByteArray) (w : World) (o : StOk n sl u) (hs : key.size ≤ maxLen) (hl : StoreAt w b g h n sl f u) :
    Calls Try.prog 68 #[.pointer (some ⟨b, 0, none⟩), .string key, .agg #[.int .i64 st, .int .i64 ow, .string nm, .int .i64 dl]] w (SPutPost b g h n sl f u key ⟨st, ow, nm, dl⟩ w) := by
  have hn := o.lo
  have hm := o.hi
  obtain ⟨hu0, hun⟩ := o.tab.bd
  have hbl := hl.2.2.2.1
  have hgl : g < w.heap.size := hl.2.2.2.2.2.2.2.2.1.1
  have hhl : h < w.heap.size := hl.2.2.2.2.2.2.2.2.2.1
  have hx0 : Ext w ((w.alloc (.cells #[.pointer (some ⟨b, 0, none⟩)] 64)).alloc (.cells #[.int .i64 st, .int .i64 ow, .string nm, .int .i64 dl] 30)) := ((Ext.refl w).alloc _).alloc _
  have hv0 := putVars_new w b st ow dl nm 64 30
  have HV0 := Lib.hid hv0
  obtain ⟨v0, v1, v2, v3, v4⟩ := hv0
  cases hck : checkB st ow dl nm
  · have Hck := Lib.hid hck
    have Hl := Lib.hid hl
    have Hx0 := Lib.hid hx0
    clear hl hx0
    go_enter Try.func68, Try.ntmps68
    go_wp2_with (go_at_call 52; refine (check_any _ _ _ _ _).mono ?_; rintro e w1 ⟨rfl, hx1⟩; rw [hck])
    go_ret
    exact ⟨1, n, g, h, sl, f, u, rfl, .inl ⟨Hck.out, rfl, rfl, rfl, rfl, rfl⟩, Hl.out.ext (Hx0.out.trans hx1), .inl ⟨rfl, rfl⟩, (Hx0.out.trans hx1).chg _⟩
  · have Hck := Lib.hid hck
    obtain ⟨fu, hfu, hfree⟩ := o.free
    have Hl := Lib.hid hl
    have Hx0 := Lib.hid hx0
    clear hl hx0
    go_enter Try.func68, Try.ntmps68
    go_wp2_with fail
    refine (check_any _ _ _ _ _).mono ?_
    rintro e w1 ⟨rfl, hx1⟩
    rw [hck]
    have hv1 := HV0.out.ext hx1
    have hl1 := Hl.out.ext (Hx0.out.trans hx1)
    have HV1 := Lib.hid hv1
    have Hx1 := Lib.hid (Hx0.out.trans hx1)
    have Hl1 := Lib.hid hl1
    clear v0 v1 v2 v3 v4 hx1 hck
    obtain ⟨v0, v1, v2, v3, v4⟩ := hv1
    obtain ⟨_, _, _, _, _, c0, c1, c2, hsl, _⟩ := hl1
    go_wp2_with fail
    refine (find_any _ _ _ _ _ (by omega) (by omega) hs hsl fu hfu hfree).mono ?_
    rintro e w2 ⟨p, ok, rfl, hf, hx2⟩
    have hp := hf.lt
    have hv2 := HV1.out.ext hx2
    have hl2 := Hl1.out.ext hx2
    have HV2 := Lib.hid hv2
    have Hx2 := Lib.hid (Hx1.out.trans hx2)
    have Hl2 := Lib.hid hl2
    have hsz2 := (Hx0.out.trans ((Ext.refl _))).size
    have hz2 : w.heap.size + 2 ≤ w2.heap.size := by
      have := lt_of_cell hv2.2.1
      simp only at this
      omega
    clear v0 v1 v2 v3 v4 c0 c1 c2 hsl hx2 hsz2
    obtain ⟨v0, v1, v2, v3, v4⟩ := hv2
    obtain ⟨_, _, _, hb2, hbf2, c0, c1, c2, _, hh2, hhf2, hr2⟩ := hl2
    obtain ⟨d0, d1, d2, d3⟩ := hr2 p hp
    clear hr2
    by_cases hst : st = 0
    · subst hst
      cases ok
      · go_wp2_with fail
        go_ret
        exact ⟨0, n, g, h, sl, f, u, rfl, .inr ⟨Hck.out, p, false, hf, .inr (.inl ⟨rfl, rfl, rfl, rfl, rfl, rfl, rfl⟩)⟩, Hl2.out, .inl ⟨rfl, rfl⟩, Hx2.out.chg _⟩
      · have hhas := find_has hf
        go_wp2_with fail
        refine (sremove_any w.heap.size b g h n sl f u p (by omega) _ HV2.out.1 (by omega) (by omega) Hl2.out o.keys key hhas o.tab fu hfu hfree).mono ?_
        rintro e w3 ⟨rfl, s, hdone, hl3, hc3⟩
        have hv3 := HV2.out.keep hc3 (by omega) (by omega)
        have Hl3 := Lib.hid hl3
        have Hc3 := Lib.hid ((Hx2.out.chg (fun k => k = b ∨ k = g ∨ k = h)).trans (hc3.mono fun i _ hi => Or.inr hi))
        clear v0 v1 v2 v3 v4 c0 c1 c2 d0 d1 d2 d3 hc3
        obtain ⟨v0, v1, v2, v3, v4⟩ := hv3
        obtain ⟨_, _, _, hb3, hbf3, c0, c1, c2, _, _⟩ := hl3
        go_wp2_with fail
        go_ret
        exact ⟨0, n, g, h, s.sl, s.pay, u - 1, rfl, .inr ⟨Hck.out, p, true, hf, .inl ⟨rfl, rfl, rfl, rfl, rfl, s, hdone, rfl, rfl⟩⟩, Hl3.out.setUsed _, .inl ⟨rfl, rfl⟩, Hc3.out.setCell (.inl (.inl rfl)) _⟩
    · have hst' : (st == 0) = false := by simpa using hst
      have Hst := Lib.hid hst
      clear hst
      cases ok
      · by_cases hfull : 3 * (n : Int) ≤ 4 * u
        · have hfd : decide (3 * (n : Int) ≤ 4 * u) = true := by simpa using hfull
          have Hfull := Lib.hid hfull
          clear hfull
          by_cases hmax : n = 2048
          · have hmd : ((n : Int) == 2048) = true := by simp; omega
            have Hmax := Lib.hid hmax
            clear hmax
            go_wp2_with fail
            refine (sfull_any b g h n sl f u _ (by omega) hu0 hun Hl2.out).mono ?_
            rintro e w3 ⟨rfl, hx3⟩
            rw [hfd]
            have hv3 := HV2.out.ext hx3
            have hl3 := Hl2.out.ext hx3
            have Hx3 := Lib.hid (Hx2.out.trans hx3)
            have Hl3 := Lib.hid hl3
            clear v0 v1 v2 v3 v4 c0 c1 c2 d0 d1 d2 d3 hx3
            obtain ⟨v0, v1, v2, v3, v4⟩ := hv3
            obtain ⟨_, _, _, hb3, hbf3, c0, c1, c2, _, _⟩ := hl3
            go_wp2_with fail
            go_ret
            exact ⟨7, n, g, h, sl, f, u, rfl, .inr ⟨Hck.out, p, false, hf, .inr (.inr (.inr (.inl ⟨Hst.out, rfl, Hfull.out, Hmax.out, rfl, rfl, rfl, rfl, rfl⟩)))⟩, Hl3.out, .inl ⟨rfl, rfl⟩, Hx3.out.chg _⟩
          · have hmd : ((n : Int) == 2048) = false := by simp; omega
            have Hmax := Lib.hid hmax
            clear hmax
            go_wp2_with fail
            refine (sfull_any b g h n sl f u _ (by omega) hu0 hun Hl2.out).mono ?_
            rintro e w3 ⟨rfl, hx3⟩
            rw [hfd]
            have hv3 := HV2.out.ext hx3
            have hl3 := Hl2.out.ext hx3
            have HV3 := Lib.hid hv3
            have Hx3 := Lib.hid (Hx2.out.trans hx3)
            have Hl3 := Lib.hid hl3
            clear v0 v1 v2 v3 v4 c0 c1 c2 d0 d1 d2 d3 hx3
            obtain ⟨v0, v1, v2, v3, v4⟩ := hv3
            obtain ⟨_, _, _, hb3, hbf3, c0, c1, c2, _, _⟩ := hl3
            go_wp2_with fail
            refine (sfull_any b g h n sl f u _ (by omega) hu0 hun Hl3.out).mono ?_
            rintro e w4 ⟨rfl, hx4⟩
            rw [hfd]
            have hv4 := HV3.out.ext hx4
            have hl4 := Hl3.out.ext hx4
            have HV4 := Lib.hid hv4
            have Hx4 := Lib.hid (Hx3.out.trans hx4)
            have Hl4 := Lib.hid hl4
            clear v0 v1 v2 v3 v4 c0 c1 c2 hx4
            obtain ⟨v0, v1, v2, v3, v4⟩ := hv4
            clear hl4
            go_wp2_with fail
            refine (sdouble_any b g h n sl f u _ o Hl4.out).mono ?_
            rintro e w5 ⟨rfl, gy, hy, s, r, v, hgy, hhy, hl5, hd, hc5⟩
            have hz4 := Hx4.out.size
            have hv5 := HV4.out.keep hc5 (by omega) (by omega)
            have hc5' := (Hx4.out.chg (fun k => k = b ∨ k = g ∨ k = h)).trans (hc5.mono fun i _ hi => Or.inl hi)
            obtain ⟨t1, hv, _⟩ := dbl_inv o.tab (show 0 < 2 * n by omega) (Nat.le_refl n) hd
            have hv' : v = u := by rw [hv, o.tab.num]
            obtain ⟨fq, hfq, hfreeq⟩ := t1.free (by omega)
            have Hl5 := Lib.hid hl5
            have Hc5 := Lib.hid hc5'
            have Hd := Lib.hid hd
            clear v0 v1 v2 v3 v4 hc5 hc5' hv hl5 hd
            obtain ⟨v0, v1, v2, v3, v4⟩ := hv5
            have hv1 : 0 ≤ v := by omega
            have hv2 : v ≤ (2 * n : Nat) := by omega
            clear hv'
            go_wp2_with fail
            refine (sins_any b gy hy (2 * n) s r v key ⟨st, ow, nm, dl⟩ _ (by omega) (by omega) hs Hl5.out hv1 hv2 fq hfq hfreeq).mono ?_
            rintro e w6 ⟨rfl, q, ok, hq, hl6, hc6⟩
            have hno : ∀ i, ¬ Has (2 * n) s key i := fun i hi => by
              obtain ⟨_, _, hH⟩ := dbl_inv o.tab (show 0 < 2 * n by omega) (Nat.le_refl n) Hd.out
              obtain ⟨j, a1, a2, _⟩ := (hH key _).1 ⟨i, hi.1, hi.2, rfl⟩
              have := (o.tab.hit (key := key) ⟨a1, a2⟩ hf).1
              simp at this
            obtain ⟨rfl, _⟩ := Tab.miss hno hq
            have hcc : Chg (fun k => k = b ∨ k = g ∨ k = h) w w6 := by
              refine ⟨hc6.os.trans Hc5.out.os, hc6.tape.trans Hc5.out.tape, hc6.output.trans Hc5.out.output, Nat.le_trans Hc5.out.size hc6.size, fun k hk hS => ?_⟩
              exact (hc6.block k (Nat.lt_of_lt_of_le hk Hc5.out.size) (by omega)).trans (Hc5.out.block k hk hS)
            have Hcc := Lib.hid hcc
            clear hcc hc6
            go_wp2_with fail
            go_ret
            exact ⟨0, 2 * n, gy, hy, _, _, _, rfl, .inr ⟨Hck.out, p, false, hf, .inr (.inr (.inr (.inr (.inl ⟨Hst.out, rfl, Hfull.out, Hmax.out, rfl, rfl, s, r, v, q, Hd.out, hq, rfl, rfl, rfl⟩))))⟩, hl6, .inr ⟨by omega, by omega⟩, Hcc.out⟩
        · have hfd : decide (3 * (n : Int) ≤ 4 * u) = false := by simpa using hfull
          have Hfull := Lib.hid hfull
          clear hfull
          go_wp2_with fail
          refine (sfull_any b g h n sl f u _ (by omega) hu0 hun Hl2.out).mono ?_
          rintro e w3 ⟨rfl, hx3⟩
          rw [hfd]
          have hv3 := HV2.out.ext hx3
          have HV3 := Lib.hid hv3
          have Hx3 := Lib.hid (Hx2.out.trans hx3)
          have Hl3 := Lib.hid (Hl2.out.ext hx3)
          clear v0 v1 v2 v3 v4 c0 c1 c2 d0 d1 d2 d3 hx3
          obtain ⟨v0, v1, v2, v3, v4⟩ := hv3
          go_wp2_with fail
          refine (sfull_any b g h n sl f u _ (by omega) hu0 hun Hl3.out).mono ?_
          rintro e w4 ⟨rfl, hx4⟩
          rw [hfd]
          have hv4 := HV3.out.ext hx4
          have Hx4 := Lib.hid (Hx3.out.trans hx4)
          have Hl4 := Lib.hid (Hl3.out.ext hx4)
          clear v0 v1 v2 v3 v4 hx4
          obtain ⟨v0, v1, v2, v3, v4⟩ := hv4
          go_wp2_with fail
          refine (sins_any b g h n sl f u key ⟨st, ow, nm, dl⟩ _ (by omega) (by omega) hs Hl4.out hu0 hun fu hfu hfree).mono ?_
          rintro e w6 ⟨rfl, q, ok, hq, hl6, hc6⟩
          obtain ⟨rfl, rfl⟩ := hf.same hq
          have Hcc := Lib.hid ((Hx4.out.chg (fun k => k = b ∨ k = g ∨ k = h)).trans hc6)
          clear hc6
          go_wp2_with fail
          go_ret
          exact ⟨0, n, g, h, _, _, _, rfl, .inr ⟨Hck.out, p, false, hf, .inr (.inr (.inr (.inr (.inr ⟨Hst.out, rfl, (by have := Hfull.out; omega), rfl, rfl, rfl, rfl, rfl⟩))))⟩, hl6, .inl ⟨rfl, rfl⟩, Hcc.out⟩
      · go_wp2_with fail
        go_region
        all_goals
          go_wp2_with fail
          go_ret
          refine ⟨0, n, g, h, sl, upd f p ⟨st, ow, nm, dl⟩, u, rfl, .inr ⟨Hck.out, p, true, hf, .inr (.inr (.inl ⟨Hst.out, rfl, rfl, rfl, rfl, rfl, rfl⟩))⟩, ?_, .inl ⟨rfl, rfl⟩, ?_⟩
          · have hl := Hl2.out
            repeat (first | (with_reducible exact hl) | (with_reducible apply StoreAt.drew) | (with_reducible refine StoreAt.setRc (f := f) ?_ hp st ow dl nm))
          · have hx := Hx2.out.chg (fun k => k = b ∨ k = g ∨ k = h)
            repeat (first | (with_reducible exact hx) | (with_reducible apply Chg.drew) | (with_reducible refine Chg.setCell ?_ (.inl (by simp)) _))
end Go.Proofs.Ytkhfjedeccjnbaa
