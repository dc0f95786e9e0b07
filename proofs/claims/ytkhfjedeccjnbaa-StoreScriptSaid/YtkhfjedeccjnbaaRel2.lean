/-
  What Release returns and does (25.3).
  Conditions: keys' lengths are those of Go strings; at least one slot of the table is unused.
-/
import Derived.Test.YtkhfjedeccjnbaaRel
namespace Go.Proofs.Ytkhfjedeccjnbaa
open Go.RowKit Go.Sort
set_option maxHeartbeats 1000000

theorem lt_of_cell' {w : World} {p : Addr} {v : Value} (h : w.cell? p = some v) : p.block < w.heap.size := by
  rcases Nat.lt_or_ge p.block w.heap.size with hlt | hge
  · exact hlt
  · simp [World.cell?, Array.getElem?_eq_none hge] at h
/-- What Release does with a table, and the number that it returns. -/
def RelSpec (n : Nat) (sl : Nat → Option ByteArray) (ow : Nat → Int) (u : Int) (key : ByteArray) (c code : Int) (sl' : Nat → Option ByteArray) (ow' : Nat → Int) (u' : Int) : Prop :=
  (¬ (0 ≤ c ∧ c < 64) ∧ code = 3 ∧ sl' = sl ∧ ow' = ow ∧ u' = u) ∨
  ((0 ≤ c ∧ c < 64) ∧ ∃ p ok, FindAt n sl key p ok ∧
    ((ok = false ∧ code = 23 ∧ sl' = sl ∧ ow' = ow ∧ u' = u) ∨ (ok = true ∧ ow p ≠ c ∧ code = 25 ∧ sl' = sl ∧ ow' = ow ∧ u' = u) ∨
     (ok = true ∧ ow p = c ∧ code = 0 ∧ u' = u - 1 ∧ ∃ s, RmDone n (rmStart n sl ow p) s ∧ sl' = s.sl ∧ ow' = s.pay)))
def RelPost (b g h n : Nat) (sl : Nat → Option ByteArray) (ow : Nat → Int) (u : Int) (key : ByteArray) (c : Int) (w : World) (e : Ending) (w' : World) : Prop :=
  ∃ code sl' ow' u', e = .returned (.int .i64 code) ∧ RelSpec n sl ow u key c code sl' ow' u' ∧ LocksAt w' b g h n sl' ow' u' ∧ Chg (fun k => k = b ∨ k = g ∨ k = h) w w'
theorem release_any (b g h n : Nat) (sl : Nat → Option ByteArray) (ow : Nat → Int) (u : Int) (key : ByteArray) (c : Int) (w : World) (hm : n ≤ 4096) (hs : key.size ≤ maxLen) (hl : LocksAt w b g h n sl ow u) (t : Tab n sl u) (hk : ∀ i k, i < n → sl i = some k → k.size ≤ maxLen) (fu : Nat) (hfu : fu < n) (hfree : sl fu = none) :
    Calls Try.prog 62 #[.pointer (some ⟨b, 0, none⟩), .string key, .int .i64 c] w (RelPost b g h n sl ow u key c w) := by
  have hn := t.pos
  by_cases hc : 0 ≤ c ∧ c < 64
  · have hcb : (decide (0 ≤ c) && decide (c < 64)) = true := by simp [hc.1, hc.2]
    have Hc := Lib.hid hc
    have hx0 : ∀ o, Ext w (w.alloc o) := fun o => (Ext.refl w).alloc o
    have hl0 := hl.ext (hx0 (.cells #[.pointer (some ⟨b, 0, none⟩)] 41))
    have hl0' := hl0
    obtain ⟨_, _, _, hb, hbf, c0, c1, c2, hsl, hih⟩ := hl0'
    have hgl : g < w.heap.size := hl.2.2.2.2.2.2.2.2.1.1
    have hhl : h < w.heap.size := hl.2.2.2.2.2.2.2.2.2.1
    have Hl0 := Lib.hid hl0
    clear hc hl hl0
    go_enter Try.func62, Try.ntmps62
    go_wp2_with (go_at_call 97; refine (client_any _ _).mono ?_; rintro e w1 ⟨rfl, rfl⟩; rw [hcb])
    refine (find_any _ _ _ _ _ hn hm hs hsl fu hfu hfree).mono ?_
    rintro e w1 ⟨p, ok, rfl, hf, hx⟩
    clear hbf c0 c1 c2 hsl hih
    have hp := hf.lt
    have hl1 := Hl0.out.ext hx
    have hx1 := (hx0 (.cells #[.pointer (some ⟨b, 0, none⟩)] 41)).trans hx
    have hcc : w1.cell? ⟨w.heap.size, 0, none⟩ = some (.pointer (some ⟨b, 0, none⟩)) := (hx.cell (by simp)).trans (by go_simp)
    have hl1' := hl1
    obtain ⟨_, _, _, hb1, hbf1, d0, d1, d2, _, hi1⟩ := hl1'
    have d3 := hi1.2.2 p hp
    clear hi1
    have Hl1 := Lib.hid hl1
    have Hx1 := Lib.hid hx1
    obtain ⟨hu0, hun⟩ := t.bd
    clear hl1 hx1 hx
    cases ok
    · go_wp2_with fail
      go_ret
      exact ⟨23, sl, ow, u, rfl, .inr ⟨Hc.out, p, false, hf, .inl ⟨rfl, rfl, rfl, rfl, rfl⟩⟩, Hl1.out, Hx1.out.chg _⟩
    · by_cases ho : ow p = c
      · have ho' : (ow p != c) = false := by simpa using ho
        have Ho := Lib.hid ho
        clear ho
        have hhas : Has n sl key p := ⟨hp, by obtain ⟨_, _, _, _, he⟩ := hf; simpa using he⟩
        go_wp2_with fail
        refine (remove_any w.heap.size b g h n sl ow u p hm _ hcc (by omega) (by omega) Hl1.out hk key hhas t fu hfu hfree).mono ?_
        rintro e w2 ⟨rfl, s, hdone, hl2, hc2⟩
        have hcc2 := (hc2.cell (p := ⟨w.heap.size, 0, none⟩) (lt_of_cell' hcc) (by simp only; omega)).trans hcc
        have hl2' := hl2
        obtain ⟨_, _, _, hb2, hbf2, y0, y1, y2, _, _⟩ := hl2'
        have Hl2 := Lib.hid hl2
        have Hc2 := Lib.hid hc2
        clear hl2 hc2
        go_wp2_with fail
        go_ret
        have hS : Chg (fun k => k = b ∨ k = g ∨ k = h) w w2 := (Hx1.out.chg _).trans (Hc2.out.mono fun i _ hi => Or.inr hi)
        exact ⟨0, s.sl, s.pay, u - 1, rfl, .inr ⟨Hc.out, p, true, hf, .inr (.inr ⟨rfl, Ho.out, rfl, rfl, s, hdone, rfl, rfl⟩)⟩, Hl2.out.setUsed _, hS.setCell (.inl (.inl rfl)) _⟩
      · have ho' : (ow p != c) = true := by simpa using ho
        have Ho := Lib.hid ho
        clear ho
        go_wp2_with fail
        go_ret
        exact ⟨25, sl, ow, u, rfl, .inr ⟨Hc.out, p, true, hf, .inr (.inl ⟨rfl, Ho.out, rfl, rfl, rfl, rfl⟩)⟩, Hl1.out, Hx1.out.chg _⟩
  · have hcb : (decide (0 ≤ c) && decide (c < 64)) = false := by
      rw [Bool.and_eq_false_iff]; simp only [decide_eq_false_iff_not]; omega
    have Hc := Lib.hid hc
    have Hl := Lib.hid hl
    clear hc hl
    go_enter Try.func62, Try.ntmps62
    go_wp2_with (go_at_call 97; refine (client_any _ _).mono ?_; rintro e w1 ⟨rfl, rfl⟩; rw [hcb])
    go_ret
    exact ⟨3, sl, ow, u, rfl, .inl ⟨Hc.out, rfl, rfl, rfl, rfl⟩, Hl.out.ext (by repeat' (first | exact Ext.refl _ | assumption | apply Ext.alloc | apply Ext.drewN | apply Ext.drew | (refine Ext.trans ?_ (by assumption)) | (refine ext_setCell ?_ (by first | (simp; done) | (simp; omega)) _))), (Chg.refl _ _).alloc _⟩
end Go.Proofs.Ytkhfjedeccjnbaa
