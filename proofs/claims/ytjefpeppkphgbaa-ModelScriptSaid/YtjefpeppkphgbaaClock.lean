/-
  What the functions of chapter 23 compute, in the program and in its reference, and the helpers Pick and tick.
  Conditions: none beyond the ranges that each theorem names.
-/
import Derived.Test.YtjefpeppkphgbaaProg
import Derived.Test.YtjefpeppkphgbaaBase
namespace Go.Proofs.Ytjefpeppkphgbaa
open Go.RowKit Go.Sort
set_option maxHeartbeats 400000

def tickB (n : Int) : Bool := decide (0 ≤ n) && decide (n ≤ 1073741824)
theorem tickB_true {n : Int} (h : 0 ≤ n ∧ n ≤ 1073741824) : tickB n = true := by simp [tickB, h.1, h.2]
theorem tickB_false {n : Int} (h : n < 0 ∨ 1073741824 < n) : tickB n = false := by simp [tickB]; omega

theorem tick_any (n : Int) (w : World) : Calls Try.prog 118 #[.int .i64 n] w fun e w' => e = .returned (.bool (tickB n)) ∧ w = w' := by
  unfold tickB
  by_cases h : 0 ≤ n
  · have h' : decide (0 ≤ n) = true := by simpa using h
    go_enter Try.func118, Try.ntmps118
    go_wp2
    go_ret
    simp_all
  · have h' : decide (0 ≤ n) = false := by simpa using h
    go_enter Try.func118, Try.ntmps118
    go_wp2
    go_ret
    simp_all
def pickI (v n : Int) : Int := (v % 18446744073709551616) % n
theorem pick_plain (v n : Int) (h1 : 1 ≤ n) (h2 : n ≤ 9223372036854775807) : wrap64 ((IntKind.u64.wrap v).tmod n) = pickI v n := by
  have e : IntKind.u64.wrap v = v % 18446744073709551616 := by simp [IntKind.wrap, IntKind.bits, IntKind.signed]
  unfold pickI wrap64
  rw [e, Int.tmod_eq_emod_of_nonneg (by omega)]
  have := Int.emod_lt_of_pos (v % 18446744073709551616) (show 0 < n by omega)
  have := Int.emod_nonneg (v % 18446744073709551616) (show n ≠ 0 by omega)
  omega
theorem pickI_bd (v n : Int) (h1 : 1 ≤ n) : 0 ≤ pickI v n ∧ pickI v n < n :=
  ⟨Int.emod_nonneg _ (by omega), Int.emod_lt_of_pos _ (by omega)⟩

theorem pick_any (v n : Int) (h1 : 1 ≤ n) (h2 : n ≤ 9223372036854775807) (w : World) :
    Calls Try.prog 18 #[.int .i64 v, .int .i64 n] w fun e w' => e = .returned (.int .i64 (pickI v n)) ∧ w = w' := by
  have H := Lib.hid (pick_plain v n h1 h2)
  go_enter Try.func18, Try.ntmps18
  go_wp2
  go_ret
  exact ⟨by show Ending.returned (.int .i64 (wrap64 ((IntKind.u64.wrap v).tmod n))) = _; rw [H.out], rfl⟩

/-- Advance (23.1). -/
def advI (now n : Int) : Int := if tickB now = false then 0 else if n < 0 then now else if 1073741824 - now < n then 1073741824 else now + n
theorem advI_bad {now n : Int} (h : tickB now = false) : advI now n = 0 := by simp [advI, h]
theorem advI_neg {now n : Int} (h : tickB now = true) (hn : n < 0) : advI now n = now := by simp [advI, h, hn]
theorem advI_far {now n : Int} (h : tickB now = true) (hn : 0 ≤ n) (hf : 1073741824 - now < n) : advI now n = 1073741824 := by simp [advI, h, hf]; omega
theorem advI_sum {now n : Int} (h : tickB now = true) (hn : 0 ≤ n) (hf : n ≤ 1073741824 - now) : advI now n = now + n := by
  have h1 : ¬ n < 0 := by omega
  have h2 : ¬ 1073741824 - now < n := by omega
  simp [advI, h, h1, h2]

/-- Deadline (23.2): the tick and the error. -/
def dlV (now ttl : Int) : Int := if tickB now = true ∧ 1 ≤ ttl ∧ ttl ≤ 1073741824 ∧ ttl ≤ 1073741824 - now then now + ttl else 0
def dlE (now ttl : Int) : Int := if tickB now = true ∧ 1 ≤ ttl ∧ ttl ≤ 1073741824 then (if ttl ≤ 1073741824 - now then 0 else 8) else 3

theorem ret2 {a b c d : Int} (h : a = b) (k : c = d) : Ending.returned (.tuple #[.int .i64 a, .int .i64 c]) = .returned (.tuple #[.int .i64 b, .int .i64 d]) := by rw [h, k]

theorem deadline_any (now ttl : Int) (w : World) : Calls Try.prog 97 #[.int .i64 now, .int .i64 ttl] w fun e w' => e = .returned (.tuple #[.int .i64 (dlV now ttl), .int .i64 (dlE now ttl)]) ∧ w = w' := by
  by_cases ht : 0 ≤ now ∧ now ≤ 1073741824
  · obtain ⟨t0, t1⟩ := ht
    have hb := tickB_true ⟨t0, t1⟩
    have Hb := Lib.hid hb
    by_cases h1 : ttl < 1
    · go_enter Try.func97, Try.ntmps97
      go_wp2_with (go_at_call 118; refine (tick_any _ _).mono ?_; rintro e w' ⟨rfl, rfl⟩)
      go_ret2
      exact ⟨ret2 (by unfold dlV; rw [if_neg (by omega)]) (by unfold dlE; rw [if_neg (by omega)]), rfl⟩
    · by_cases h2 : 1073741824 < ttl
      · go_enter Try.func97, Try.ntmps97
        go_wp2_with (go_at_call 118; refine (tick_any _ _).mono ?_; rintro e w' ⟨rfl, rfl⟩)
        go_ret2
        exact ⟨ret2 (by unfold dlV; rw [if_neg (by omega)]) (by unfold dlE; rw [if_neg (by omega)]), rfl⟩
      · by_cases h3 : 1073741824 - now < ttl
        · go_enter Try.func97, Try.ntmps97
          go_wp2_with (go_at_call 118; refine (tick_any _ _).mono ?_; rintro e w' ⟨rfl, rfl⟩)
          go_ret2
          exact ⟨ret2 (by unfold dlV; rw [if_neg (by omega)]) (by unfold dlE; rw [if_pos ⟨Hb.out, by omega, by omega⟩, if_neg (by omega)]), rfl⟩
        · go_enter Try.func97, Try.ntmps97
          go_wp2_with (go_at_call 118; refine (tick_any _ _).mono ?_; rintro e w' ⟨rfl, rfl⟩)
          go_ret2
          exact ⟨ret2 (by unfold dlV; rw [if_pos ⟨Hb.out, by omega, by omega, by omega⟩]) (by unfold dlE; rw [if_pos ⟨Hb.out, by omega, by omega⟩, if_pos (by omega)]), rfl⟩
  · have hb := tickB_false (show now < 0 ∨ 1073741824 < now by omega)
    have Hb := Lib.hid hb
    go_enter Try.func97, Try.ntmps97
    go_wp2_with (go_at_call 118; refine (tick_any _ _).mono ?_; rintro e w' ⟨rfl, rfl⟩)
    go_ret2
    exact ⟨ret2 (by unfold dlV; rw [if_neg (by rw [Hb.out]; simp)]) (by unfold dlE; rw [if_neg (by rw [Hb.out]; simp)]), rfl⟩

/-- Live (23.3). -/
def liveB (st dl now : Int) : Bool := st == 2 || (st == 1 && decide (now < dl))

theorem live_any (st ow dl now : Int) (nm : ByteArray) (w : World) :
    Calls Try.prog 101 #[.agg #[.int .i64 st, .int .i64 ow, .string nm, .int .i64 dl], .int .i64 now] w fun e w' => e = .returned (.bool (liveB st dl now)) ∧ Ext w w' := by
  unfold liveB
  by_cases h2 : st = 2
  · subst h2
    go_enter Try.func101, Try.ntmps101
    go_wp2
    go_ret
    exact ⟨by simp, (Ext.refl _).alloc _⟩
  · by_cases h1 : st = 1
    · subst h1
      go_enter Try.func101, Try.ntmps101
      go_wp2
      go_ret
      exact ⟨by simp, (Ext.refl _).alloc _⟩
    · go_enter Try.func101, Try.ntmps101
      go_wp2
      go_ret
      exact ⟨by simp [h1, h2], (Ext.refl _).alloc _⟩
theorem rlive_any (st ow dl now : Int) (nm : ByteArray) (w : World) :
    Calls Try.prog 73 #[.agg #[.int .i64 st, .int .i64 ow, .string nm, .int .i64 dl], .int .i64 now] w fun e w' => e = .returned (.bool (liveB st dl now)) ∧ Ext w w' := by
  unfold liveB
  by_cases h2 : st = 2
  · subst h2
    go_enter Try.func73, Try.ntmps73
    go_wp2
    go_ret
    exact ⟨by simp, (Ext.refl _).alloc _⟩
  · by_cases h1 : st = 1
    · subst h1
      go_enter Try.func73, Try.ntmps73
      go_wp2
      go_ret
      exact ⟨by simp, (Ext.refl _).alloc _⟩
    · go_enter Try.func73, Try.ntmps73
      go_wp2
      go_ret
      exact ⟨by simp [h1, h2], (Ext.refl _).alloc _⟩
end Go.Proofs.Ytjefpeppkphgbaa
