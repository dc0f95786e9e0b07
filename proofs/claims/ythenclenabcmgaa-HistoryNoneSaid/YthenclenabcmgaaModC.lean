/-
  model.permitted and the reference's proper (28.2).
  Conditions: none.
-/
import Derived.Test.YthenclenabcmgaaModB
namespace Go.Proofs.Ythenclenabcmgaa
open Go.RowKit Go.Sort Go.Shelf
set_option maxHeartbeats 2000000
set_option maxRecDepth 20000

theorem permitted_any {S : Nat → Prop} (b : Nat) (cl client op ttl now : Int) (v : Value) (ns : List Nm) (w : World) (c0 : w.cell? ⟨b, 0, none⟩ = some (.int .i64 cl)) (hn : NmsAt w S v ns) :
    Calls Try.prog 31 #[.pointer (some ⟨b, 0, none⟩), .int .i64 client, .int .i64 op, .int .i64 ttl, v, .int .i64 now] w fun e w' => e = .returned (.bool (properB cl client op ttl now ns)) ∧ Ext w w' := by
  obtain ⟨A, c, rfl⟩ := hn.shape
  have hlm := hn.len
  unfold maxLen at hlm
  have Hn := Lib.hid hn
  clear hn
  rcases proper_cases cl client op ttl now ns with ⟨hp, h⟩ | ⟨q1, q2, q3, q4, q5, q6, h⟩
  · rw [hp]
    clear hp
    rcases h with h1 | ⟨h1, h2⟩ | ⟨h1, h2, h3⟩ | ⟨h1, h2, h3, h4⟩ | ⟨h1, h2, h3, h4, h5⟩ | ⟨h1, h2, h3, h4, h5, h6⟩
    · have d1 : decide (client < 0) = true := by simpa using h1
      go_enter Try.func31, Try.ntmps31
      go_wp2_with fail
      go_ret
      exact ⟨rfl, (by repeat' (first | exact Ext.refl _ | assumption | apply Ext.alloc | apply Ext.drewN | apply Ext.drew | (refine Ext.trans ?_ (by assumption)) | (refine ext_setCell ?_ (by first | (simp; done) | (simp; omega)) _)))⟩
    · have d1 : decide (client < 0) = false := by simpa using h1
      have d2 : decide (cl ≤ client) = true := by simpa using h2
      go_enter Try.func31, Try.ntmps31
      go_wp2_with fail
      go_ret
      exact ⟨rfl, (by repeat' (first | exact Ext.refl _ | assumption | apply Ext.alloc | apply Ext.drewN | apply Ext.drew | (refine Ext.trans ?_ (by assumption)) | (refine ext_setCell ?_ (by first | (simp; done) | (simp; omega)) _)))⟩
    · have d1 : decide (client < 0) = false := by simpa using h1
      have d2 : decide (cl ≤ client) = false := by simpa using h2
      have d3 : decide (op < 1) = true := by simpa using h3
      go_enter Try.func31, Try.ntmps31
      go_wp2_with fail
      go_ret
      exact ⟨rfl, (by repeat' (first | exact Ext.refl _ | assumption | apply Ext.alloc | apply Ext.drewN | apply Ext.drew | (refine Ext.trans ?_ (by assumption)) | (refine ext_setCell ?_ (by first | (simp; done) | (simp; omega)) _)))⟩
    · have d1 : decide (client < 0) = false := by simpa using h1
      have d2 : decide (cl ≤ client) = false := by simpa using h2
      have d3 : decide (op < 1) = false := by simpa using h3
      have d4 : decide (7 < op) = true := by simpa using h4
      go_enter Try.func31, Try.ntmps31
      go_wp2_with fail
      go_ret
      exact ⟨rfl, (by repeat' (first | exact Ext.refl _ | assumption | apply Ext.alloc | apply Ext.drewN | apply Ext.drew | (refine Ext.trans ?_ (by assumption)) | (refine ext_setCell ?_ (by first | (simp; done) | (simp; omega)) _)))⟩
    · have d1 : decide (client < 0) = false := by simpa using h1
      have d2 : decide (cl ≤ client) = false := by simpa using h2
      have d3 : decide (op < 1) = false := by simpa using h3
      have d4 : decide (7 < op) = false := by simpa using h4
      have d5 : decide (now < 0) = true := by simpa using h5
      go_enter Try.func31, Try.ntmps31
      go_wp2_with fail
      go_ret
      exact ⟨rfl, (by repeat' (first | exact Ext.refl _ | assumption | apply Ext.alloc | apply Ext.drewN | apply Ext.drew | (refine Ext.trans ?_ (by assumption)) | (refine ext_setCell ?_ (by first | (simp; done) | (simp; omega)) _)))⟩
    · have d1 : decide (client < 0) = false := by simpa using h1
      have d2 : decide (cl ≤ client) = false := by simpa using h2
      have d3 : decide (op < 1) = false := by simpa using h3
      have d4 : decide (7 < op) = false := by simpa using h4
      have d5 : decide (now < 0) = false := by simpa using h5
      have d6 : decide (1073741824 < now) = true := by simpa using h6
      go_enter Try.func31, Try.ntmps31
      go_wp2_with fail
      go_ret
      exact ⟨rfl, (by repeat' (first | exact Ext.refl _ | assumption | apply Ext.alloc | apply Ext.drewN | apply Ext.drew | (refine Ext.trans ?_ (by assumption)) | (refine ext_setCell ?_ (by first | (simp; done) | (simp; omega)) _)))⟩
  have d1 : decide (client < 0) = false := by simpa using q1
  have d2 : decide (cl ≤ client) = false := by simpa using q2
  have d3 : decide (op < 1) = false := by simpa using q3
  have d4 : decide (7 < op) = false := by simpa using q4
  have d5 : decide (now < 0) = false := by simpa using q5
  have d6 : decide (1073741824 < now) = false := by simpa using q6
  clear q1 q2 q3 q4 q5 q6
  rcases h with ⟨hp, h⟩ | ⟨h, h'⟩
  · rw [hp]
    clear hp
    rcases h with ⟨ht, h⟩ | ⟨ht, h1, h⟩ | ⟨ht, h⟩
    · have d7 : decide (ttl < 1) = true := by simpa using h
      go_enter Try.func31, Try.ntmps31
      go_wp2_with (go_at_call 35; refine (mtimed_any _ _).mono ?_; rintro e w1 ⟨rfl, rfl⟩; rw [ht])
      go_ret
      exact ⟨rfl, (by repeat' (first | exact Ext.refl _ | assumption | apply Ext.alloc | apply Ext.drewN | apply Ext.drew | (refine Ext.trans ?_ (by assumption)) | (refine ext_setCell ?_ (by first | (simp; done) | (simp; omega)) _)))⟩
    · have d7 : decide (ttl < 1) = false := by simpa using h1
      have d8 : decide (1073741824 < ttl) = true := by simpa using h
      go_enter Try.func31, Try.ntmps31
      go_wp2_with (go_at_call 35; refine (mtimed_any _ _).mono ?_; rintro e w1 ⟨rfl, rfl⟩; rw [ht])
      go_ret
      exact ⟨rfl, (by repeat' (first | exact Ext.refl _ | assumption | apply Ext.alloc | apply Ext.drewN | apply Ext.drew | (refine Ext.trans ?_ (by assumption)) | (refine ext_setCell ?_ (by first | (simp; done) | (simp; omega)) _)))⟩
    · have d7 : (ttl == 0) = false := by simpa using h
      go_enter Try.func31, Try.ntmps31
      go_wp2_with (go_at_call 35; refine (mtimed_any _ _).mono ?_; rintro e w1 ⟨rfl, rfl⟩; rw [ht])
      go_ret
      exact ⟨rfl, (by repeat' (first | exact Ext.refl _ | assumption | apply Ext.alloc | apply Ext.drewN | apply Ext.drew | (refine Ext.trans ?_ (by assumption)) | (refine ext_setCell ?_ (by first | (simp; done) | (simp; omega)) _)))⟩
  have T : ∃ b1 b2 : Bool, (timedB op = true ∧ decide (ttl < 1) = false ∧ decide (1073741824 < ttl) = false) ∨ (timedB op = false ∧ (ttl == 0) = true) := by
    refine ⟨true, true, ?_⟩
    rcases h with ⟨ht, h1, h2⟩ | ⟨ht, h1⟩
    · exact .inl ⟨ht, by simpa using h1, by simpa using h2⟩
    · exact .inr ⟨ht, by simpa using h1⟩
  clear h
  obtain ⟨_, _, T⟩ := T
  rcases h' with ⟨hp, h⟩ | ⟨l1, l2, hq, hp⟩
  · rw [hp]
    clear hp
    rcases h with h | ⟨h1, h⟩ | ⟨h1, h2, h3, h⟩
    · have d9 : decide ((ns.length : Int) < 1) = true := by simp; omega
      rcases T with ⟨ht, t1, t2⟩ | ⟨ht, t1⟩ <;> (
        go_enter Try.func31, Try.ntmps31
        go_wp2_with (go_at_call 35; refine (mtimed_any _ _).mono ?_; rintro e w1 ⟨rfl, rfl⟩; rw [ht])
        go_ret
        exact ⟨rfl, (by repeat' (first | exact Ext.refl _ | assumption | apply Ext.alloc | apply Ext.drewN | apply Ext.drew | (refine Ext.trans ?_ (by assumption)) | (refine ext_setCell ?_ (by first | (simp; done) | (simp; omega)) _)))⟩)
    · have d9 : decide ((ns.length : Int) < 1) = false := by simp; omega
      have d10 : decide ((16 : Int) < (ns.length : Int)) = true := by simp; omega
      rcases T with ⟨ht, t1, t2⟩ | ⟨ht, t1⟩ <;> (
        go_enter Try.func31, Try.ntmps31
        go_wp2_with (go_at_call 35; refine (mtimed_any _ _).mono ?_; rintro e w1 ⟨rfl, rfl⟩; rw [ht])
        go_ret
        exact ⟨rfl, (by repeat' (first | exact Ext.refl _ | assumption | apply Ext.alloc | apply Ext.drewN | apply Ext.drew | (refine Ext.trans ?_ (by assumption)) | (refine ext_setCell ?_ (by first | (simp; done) | (simp; omega)) _)))⟩)
    · have d9 : decide ((ns.length : Int) < 1) = false := by simp; omega
      have d10 : decide ((16 : Int) < (ns.length : Int)) = false := by simp; omega
      have d11 : (op == 7) = true := by simpa using h3
      have d12 : decide ((1 : Int) < (ns.length : Int)) = true := by simp; omega
      clear h1 h2 h3 h
      rcases T with ⟨ht, t1, t2⟩ | ⟨ht, t1⟩ <;> (
        go_enter Try.func31, Try.ntmps31
        go_wp2_with (go_at_call 35; refine (mtimed_any _ _).mono ?_; rintro e w1 ⟨rfl, rfl⟩; rw [ht])
        go_ret
        exact ⟨rfl, (by repeat' (first | exact Ext.refl _ | assumption | apply Ext.alloc | apply Ext.drewN | apply Ext.drew | (refine Ext.trans ?_ (by assumption)) | (refine ext_setCell ?_ (by first | (simp; done) | (simp; omega)) _)))⟩)
  · rw [hp]
    clear hp
    have d9 : decide ((ns.length : Int) < 1) = false := by simp; omega
    have d10 : decide ((16 : Int) < (ns.length : Int)) = false := by simp; omega
    have Q : ((op == 7) = false) ∨ ((op == 7) = true ∧ decide ((1 : Int) < (ns.length : Int)) = false) := by
      rcases hq with h | ⟨h, h'⟩
      · exact .inl (by simpa using h)
      · exact .inr ⟨by simpa using h, by simp; omega⟩
    clear hq l1 l2
    cases hs : srt ns with
    | false =>
      rcases T with ⟨ht, t1, t2⟩ | ⟨ht, t1⟩ <;> rcases Q with q1 | ⟨q1, q2⟩ <;> (
        go_enter Try.func31, Try.ntmps31
        go_wp2_with (go_at_call 35; refine (mtimed_any _ _).mono ?_; rintro e w1 ⟨rfl, rfl⟩; rw [ht])
        refine (sorted_any _ ns _ Hn.out).mono ?_
        rintro e w1 ⟨rfl, hx⟩
        rw [hs]
        have Hx := Lib.hid hx
        clear hx
        go_wp2_with fail
        go_ret
        exact ⟨rfl, Hx.out⟩)
    | true =>
      rcases T with ⟨ht, t1, t2⟩ | ⟨ht, t1⟩ <;> rcases Q with q1 | ⟨q1, q2⟩ <;> (
        go_enter Try.func31, Try.ntmps31
        go_wp2_with (go_at_call 35; refine (mtimed_any _ _).mono ?_; rintro e w1 ⟨rfl, rfl⟩; rw [ht])
        refine (sorted_any _ ns _ Hn.out).mono ?_
        rintro e w1 ⟨rfl, hx⟩
        rw [hs]
        have Hx := Lib.hid hx
        have Hn1 := Lib.hid (Hn.out.ext hx)
        clear hx
        go_wp2_with fail
        refine (contains_any _ ns _ Hn1.out).mono ?_
        rintro e w2 ⟨rfl, hx2⟩
        have Hx2 := Lib.hid (Hx.out.trans hx2)
        clear hx2
        go_wp2_with fail
        go_ret
        exact ⟨by simp, Hx2.out⟩)
end Go.Proofs.Ythenclenabcmgaa
