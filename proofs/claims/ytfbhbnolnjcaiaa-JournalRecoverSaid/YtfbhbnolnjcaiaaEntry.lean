/-
  Entries of a journal: the check of both programs is the plain law's.
  Conditions: the entry's names read as a list.
-/
import Derived.Test.YtfbhbnolnjcaiaaNames
namespace Go.Proofs.Ytfbhbnolnjcaiaa
open Go.RowKit Go.Sort
set_option maxHeartbeats 4000000
set_option maxRecDepth 10000

/-- The value of an entry whose names are the slice v. -/
def entV (e : Ent) (v : Value) : Value := .agg #[.int .i64 e.cl, .int .i64 e.op, .int .i64 e.ttl, .int .i64 e.tick, v]
theorem range_parts {e : Ent} (h : rangeB e = true) : 0 ≤ e.cl ∧ e.cl ≤ 63 ∧ 1 ≤ e.op ∧ e.op ≤ 6 ∧ (if timedB e.op then decide (1 ≤ e.ttl) && decide (e.ttl ≤ 1073741824) else e.ttl == 0) = true ∧ 0 ≤ e.tick ∧ e.tick ≤ 1073741824 ∧ 1 ≤ e.names.length ∧ e.names.length ≤ 16 := by
  simp only [rangeB, Bool.and_eq_true, decide_eq_true_eq] at h
  obtain ⟨⟨⟨⟨⟨⟨⟨⟨a1, a2⟩, a3⟩, a4⟩, a5⟩, a6⟩, a7⟩, a8⟩, a9⟩ := h
  exact ⟨a1, a2, a3, a4, a5, a6, a7, a8, a9⟩
theorem range_timed {e : Ent} (h : rangeB e = true) : (e.op = 1 ∧ 1 ≤ e.ttl ∧ e.ttl ≤ 1073741824) ∨ (e.op = 3 ∧ 1 ≤ e.ttl ∧ e.ttl ≤ 1073741824) ∨ (e.op ≠ 1 ∧ e.op ≠ 3 ∧ e.ttl = 0) := by
  obtain ⟨_, _, _, _, h5, _⟩ := range_parts h
  by_cases h1 : e.op = 1
  · simp [h1, timedB] at h5; exact .inl ⟨h1, h5⟩
  · by_cases h3 : e.op = 3
    · simp [h3, timedB] at h5; exact .inr (.inl ⟨h3, h5⟩)
    · simp [h1, h3, timedB] at h5; exact .inr (.inr ⟨h1, h3, h5⟩)
theorem check_any {S : Nat → Prop} (e : Ent) (v : Value) (w : World) (hn : NmsAt w S v e.names) :
    Calls Try.prog 114 #[entV e v] w fun x w' => x = .returned (.int .i64 (checkE e)) ∧ Ext w w' := by
  obtain ⟨A, c, rfl⟩ := hn.shape
  have hlm := hn.len
  unfold maxLen at hlm
  cases hr : rangeB e with
  | false =>
    have Hck := Lib.hid (show checkE e = 3 by unfold checkE; rw [hr]; rfl)
    have Hr := Lib.hid hr
    obtain ⟨cl, op, ttl, tick, names⟩ := e
    simp only at hn hlm
    clear hn hr
    unfold entV
    go_enter Try.func114, Try.ntmps114
    go_wp2_with (go_at_call 126; refine (within_any _ _ _ _).mono ?_; rintro e' w' ⟨rfl, rfl⟩)
    all_goals first
      | (go_ret; exact ⟨by rw [Hck.out]; rfl, (by repeat' (first | exact Ext.refl _ | assumption | apply Ext.alloc | apply Ext.drewN | apply Ext.drew | (refine Ext.trans ?_ (by assumption)) | (refine ext_setCell ?_ (by first | (simp; done) | (simp; omega)) _)))⟩)
      | (exfalso; have hf := Hr.out; simp_all [rangeB, timedB]; done)
      | (exfalso; have hf := Hr.out; simp_all [rangeB, timedB]; omega)
  | true =>
    obtain ⟨a1, a2, a3, a4, _, a6, a7, a8, a9⟩ := range_parts hr
    have htm := range_timed hr
    have Hck := Lib.hid (show checkE e = if srt e.names then (if e.names.all asciiB then 0 else 1) else 1 by unfold checkE; rw [hr]; cases srt e.names <;> simp)
    have Hn := Lib.hid hn
    obtain ⟨cl, op, ttl, tick, names⟩ := e
    simp only at a1 a2 a3 a4 a6 a7 a8 a9 htm Hn Hck hlm
    have c8 : (1 : Int) ≤ (names.length : Int) := by omega
    have c9 : (names.length : Int) ≤ 16 := by omega
    have Hx0 := Lib.hid ((Ext.refl w).alloc (.cells #[.int .i64 cl, .int .i64 op, .int .i64 ttl, .int .i64 tick, .slice A names.length c] 103))
    have k4 : (w.alloc (.cells #[.int .i64 cl, .int .i64 op, .int .i64 ttl, .int .i64 tick, .slice A names.length c] 103)).cell? ⟨w.heap.size, 4, none⟩ = some (.slice A names.length c) := by go_simp
    have kl : w.heap.size < (w.alloc (.cells #[.int .i64 cl, .int .i64 op, .int .i64 ttl, .int .i64 tick, .slice A names.length c] 103)).heap.size := by simp
    have Hk4 := Lib.hid k4
    unfold entV
    clear hn hr k4
    go_enter Try.func114, Try.ntmps114
    rcases htm with ⟨rfl, b1, b2⟩ | ⟨rfl, b1, b2⟩ | ⟨b1, b2, rfl⟩
    all_goals
      go_wp2_with (go_at_call 126; refine (within_any _ _ _ _).mono ?_; rintro e' w' ⟨rfl, rfl⟩)
      refine (sorted_any _ _ _ (Hn.out.ext Hx0.out)).mono ?_
      rintro x w2 ⟨rfl, hx2⟩
      have k4 := (hx2.cell (p := ⟨w.heap.size, 4, none⟩) kl).trans Hk4.out
      have Hx2 := Lib.hid (Hx0.out.trans hx2)
      cases hs : srt names with
      | false =>
        have Hs := Lib.hid hs
        clear hs hx2
        go_wp2_with fail
        go_ret
        exact ⟨by rw [Hck.out, Hs.out]; rfl, Hx2.out⟩
      | true =>
        have Hs := Lib.hid hs
        have hb : w.heap.size < w2.heap.size := Nat.lt_of_lt_of_le kl hx2.size
        clear hs hx2 Hx0 Hk4
        go_wp2_with fail
        go_loopw [62] (fun o wr => ∃ i : Nat, i ≤ names.length ∧ o = .int .i64 (i : Int) ∧ (∀ j n, j < i → names[j]? = some n → asciiB n = true) ∧ Ext w wr) (fun o _ => names.length - (intOf o).toNat)
        case atStart => exact ⟨0, by omega, rfl, fun j n h => by omega, Hx2.out⟩
        case round =>
          obtain ⟨i, hil, rfl, hall, hx⟩ := hrel
          have Hall := Lib.hid hall
          have Hx := Lib.hid hx
          clear hall hx
          by_cases hlt : i < names.length
          · have hd : decide ((i : Int) < (names.length : Int)) = true := by simpa using hlt
            obtain ⟨g, o, c', hv, hc1, hc2, _, hg, hcell⟩ := (Hn.out.ext Hx.out).get (j := i) hlt
            simp only [Value.slice.injEq, true_and] at hv
            obtain ⟨rfl, rfl⟩ := hv
            obtain ⟨n, hnm⟩ : ∃ n, names[i]? = some n := ⟨names[i], by simp [hlt]⟩
            obtain ⟨c0, c1, c2⟩ := hcell _ _ hnm
            have q0 : (0 : Int) ≤ (i : Int) := by omega
            have q1 : (i : Int) < (names.length : Int) := by omega
            have q5 : c ≤ 9223372036854775807 := by unfold maxLen at hc2; omega
            have Hnm := Lib.hid hnm
            clear hcell hnm
            cases hb : asciiB n with
            | true =>
              have hw1 : 1 ≤ n.a.size ∧ n.a.size ≤ 63 := by simpa [asciiB] using hb
              obtain ⟨hw1, hw2⟩ := hw1
              have hw3 : (1 : Int) ≤ (n.a.size : Int) := by omega
              have hw4 : (n.a.size : Int) ≤ 63 := by omega
              have Hb := Lib.hid hb
              clear hb
              go_wp2_with (go_at_call 126; refine (within_any _ _ _ _).mono ?_; rintro e' w' ⟨rfl, rfl⟩)
              go_roundw
              case rel =>
                refine ⟨i + 1, by omega, by go_num, fun j m hj hm => ?_, Hx.out.alloc _⟩
                by_cases hji : j = i
                · subst hji
                  rw [Hnm.out] at hm
                  simp only [Option.some.injEq] at hm
                  subst hm
                  exact Hb.out
                · exact Hall.out j m (by omega) hm
              case measure => simp [intOf]; omega
            | false =>
              have hw1 : n.a.size < 1 ∨ 63 < n.a.size := by simp [asciiB] at hb; omega
              have Hno := Lib.hid (show names.all asciiB = false by
                rw [← Bool.not_eq_true, List.all_eq_true]
                intro h
                have := h n (List.mem_of_getElem? Hnm.out)
                rw [hb] at this; simp at this)
              clear hb
              have hw2 : (decide ((1 : Int) ≤ (n.a.size : Int)) && decide ((n.a.size : Int) ≤ 63)) = false := by rcases hw1 with h | h <;> simp <;> omega
              go_wp2_with (go_at_call 126; refine (within_any _ _ _ _).mono ?_; rintro e' w' ⟨rfl, rfl⟩; rw [hw2])
              go_ret
              exact ⟨by rw [Hck.out, Hs.out, Hno.out]; rfl, Hx.out.alloc _⟩
          · have hd : decide ((i : Int) < (names.length : Int)) = false := by simp; omega
            have Hyes := Lib.hid (show names.all asciiB = true from List.all_eq_true.2 fun n hn => by
              obtain ⟨j, hj⟩ := List.getElem?_of_mem hn
              exact Hall.out j n (by have := (List.getElem?_eq_some_iff.1 hj).1; omega) hj)
            go_wp2_with fail
            go_ret
            exact ⟨by rw [Hck.out, Hs.out, Hyes.out]; rfl, Hx.out⟩
end Go.Proofs.Ytfbhbnolnjcaiaa
