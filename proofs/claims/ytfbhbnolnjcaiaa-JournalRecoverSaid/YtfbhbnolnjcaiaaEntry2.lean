/-
  Entries of a journal: the reference's check is the plain law's.
  Conditions: the entry's names read as a list.
-/
import Derived.Test.YtfbhbnolnjcaiaaEntry
namespace Go.Proofs.Ytfbhbnolnjcaiaa
open Go.RowKit Go.Sort
set_option maxHeartbeats 4000000
set_option maxRecDepth 10000

theorem rcheckE_any {S : Nat → Prop} (e : Ent) (v : Value) (w : World) (hn : NmsAt w S v e.names) :
    Calls Try.prog 105 #[entV e v] w fun x w' => x = .returned (.int .i64 (checkE e)) ∧ Ext w w' := by
  obtain ⟨A, c, rfl⟩ := hn.shape
  have hlm := hn.len
  unfold maxLen at hlm
  cases hr : rangeB e with
  | false =>
    have Hck := Lib.hid (show checkE e = 3 by unfold checkE; rw [hr]; rfl)
    have Hr := Lib.hid hr
    obtain ⟨cl, op, ttl, tick, names⟩ := e
    simp only at hn hlm
    clear hn hr
    unfold entV
    go_enter Try.func105, Try.ntmps105
    rcases (show op = 1 ∨ op = 3 ∨ (op ≠ 1 ∧ op ≠ 3 ∧ ttl = 0) ∨ (op ≠ 1 ∧ op ≠ 3 ∧ ttl ≠ 0) by omega) with rfl | rfl | ⟨h1, h3, rfl⟩ | ⟨h1, h3, h0⟩
    all_goals
      go_wp2_with fail
      all_goals first
        | (go_ret; exact ⟨by rw [Hck.out]; rfl, (by repeat' (first | exact Ext.refl _ | assumption | apply Ext.alloc | apply Ext.drewN | apply Ext.drew | (refine Ext.trans ?_ (by assumption)) | (refine ext_setCell ?_ (by first | (simp; done) | (simp; omega)) _)))⟩)
        | (exfalso; have hf := Hr.out; simp_all [rangeB, timedB]; done)
        | (exfalso; have hf := Hr.out; simp_all [rangeB, timedB]; omega)
  | true =>
    obtain ⟨a1, a2, a3, a4, _, a6, a7, a8, a9⟩ := range_parts hr
    have htm := range_timed hr
    have Hck := Lib.hid (show checkE e = if srt e.names then (if e.names.all asciiB then 0 else 1) else 1 by unfold checkE; rw [hr]; cases srt e.names <;> simp)
    have Hn := Lib.hid hn
    obtain ⟨cl, op, ttl, tick, names⟩ := e
    simp only at a1 a2 a3 a4 a6 a7 a8 a9 htm Hn Hck hlm
    have c8 : (1 : Int) ≤ (names.length : Int) := by omega
    have c9 : (names.length : Int) ≤ 16 := by omega
    have Hx0 := Lib.hid ((Ext.refl w).alloc (.cells #[.int .i64 cl, .int .i64 op, .int .i64 ttl, .int .i64 tick, .slice A names.length c] 103))
    have k4 : (w.alloc (.cells #[.int .i64 cl, .int .i64 op, .int .i64 ttl, .int .i64 tick, .slice A names.length c] 103)).cell? ⟨w.heap.size, 4, none⟩ = some (.slice A names.length c) := by go_simp
    have kl : w.heap.size < (w.alloc (.cells #[.int .i64 cl, .int .i64 op, .int .i64 ttl, .int .i64 tick, .slice A names.length c] 103)).heap.size := by simp
    have Hk4 := Lib.hid k4
    unfold entV
    clear hn hr k4
    go_enter Try.func105, Try.ntmps105
    rcases htm with ⟨rfl, b1, b2⟩ | ⟨rfl, b1, b2⟩ | ⟨b1, b2, rfl⟩
    all_goals
      go_wp2_with fail
      refine (rsorted_any _ _ _ (Hn.out.ext Hx0.out)).mono ?_
      rintro x w2 ⟨rfl, hx2⟩
      have k4 := (hx2.cell (p := ⟨w.heap.size, 4, none⟩) kl).trans Hk4.out
      have Hx2 := Lib.hid (Hx0.out.trans hx2)
      cases hs : srt names with
      | false =>
        have Hs := Lib.hid hs
        clear hs hx2
        go_wp2_with fail
        go_ret
        exact ⟨by rw [Hck.out, Hs.out]; rfl, Hx2.out⟩
      | true =>
        have Hs := Lib.hid hs
        have hb : w.heap.size < w2.heap.size := Nat.lt_of_lt_of_le kl hx2.size
        clear hs hx2 Hx0 Hk4
        go_wp2_with fail
        go_loopw [83] (fun o wr => ∃ i : Nat, i ≤ names.length ∧ o = .int .i64 (i : Int) ∧ (∀ j n, j < i → names[j]? = some n → asciiB n = true) ∧ Ext w wr) (fun o _ => names.length - (intOf o).toNat)
        case atStart => exact ⟨0, by omega, rfl, fun j n h => by omega, Hx2.out⟩
        case round =>
          obtain ⟨i, hil, rfl, hall, hx⟩ := hrel
          have Hall := Lib.hid hall
          have Hx := Lib.hid hx
          clear hall hx
          by_cases hlt : i < names.length
          · have hd : decide ((i : Int) < (names.length : Int)) = true := by simpa using hlt
            obtain ⟨g, o, c', hv, hc1, hc2, _, hg, hcell⟩ := (Hn.out.ext Hx.out).get (j := i) hlt
            simp only [Value.slice.injEq, true_and] at hv
            obtain ⟨rfl, rfl⟩ := hv
            obtain ⟨n, hnm⟩ : ∃ n, names[i]? = some n := ⟨names[i], by simp [hlt]⟩
            obtain ⟨c0, c1, c2⟩ := hcell _ _ hnm
            have q0 : (0 : Int) ≤ (i : Int) := by omega
            have q1 : (i : Int) < (names.length : Int) := by omega
            have q5 : c ≤ 9223372036854775807 := by unfold maxLen at hc2; omega
            have Hnm := Lib.hid hnm
            clear hcell hnm
            cases hb : asciiB n with
            | true =>
              have hw1 : 1 ≤ n.a.size ∧ n.a.size ≤ 63 := by simpa [asciiB] using hb
              obtain ⟨hw1, hw2⟩ := hw1
              have hw3 : (1 : Int) ≤ (n.a.size : Int) := by omega
              have hw4 : (n.a.size : Int) ≤ 63 := by omega
              have Hb := Lib.hid hb
              clear hb
              go_wp2_with fail
              go_roundw
              case rel =>
                refine ⟨i + 1, by omega, by go_num, fun j m hj hm => ?_, Hx.out.alloc _⟩
                by_cases hji : j = i
                · subst hji
                  rw [Hnm.out] at hm
                  simp only [Option.some.injEq] at hm
                  subst hm
                  exact Hb.out
                · exact Hall.out j m (by omega) hm
              case measure => simp [intOf]; omega
            | false =>
              have hw1 : n.a.size < 1 ∨ 63 < n.a.size := by simp [asciiB] at hb; omega
              have Hno := Lib.hid (show names.all asciiB = false by
                rw [← Bool.not_eq_true, List.all_eq_true]
                intro h
                have := h n (List.mem_of_getElem? Hnm.out)
                rw [hb] at this; simp at this)
              clear hb
              go_wp2_with fail
              all_goals first
                | (go_ret; exact ⟨by rw [Hck.out, Hs.out, Hno.out]; rfl, Hx.out.alloc _⟩)
                | (exfalso; omega)
          · have hd : decide ((i : Int) < (names.length : Int)) = false := by simp; omega
            have Hyes := Lib.hid (show names.all asciiB = true from List.all_eq_true.2 fun n hn => by
              obtain ⟨j, hj⟩ := List.getElem?_of_mem hn
              exact Hall.out j n (by have := (List.getElem?_eq_some_iff.1 hj).1; omega) hj)
            go_wp2_with fail
            go_ret
            exact ⟨by rw [Hck.out, Hs.out, Hyes.out]; rfl, Hx.out⟩
end Go.Proofs.Ytfbhbnolnjcaiaa
