/-
  The home of a key and the numbers of slots that are permitted (25.1), in the program and in its reference.
  Conditions: the key's length is that of a Go string.
-/
import Derived.Test.YtkhfjedeccjnbaaSum
namespace Go.Proofs.Ytkhfjedeccjnbaa
open Go.RowKit Go.Sort
set_option maxHeartbeats 400000

theorem home_plain (s : ByteArray) {n : Int} (h : 1 ≤ n) : (sumI s).tmod n = homeI s n := by
  unfold homeI; rw [if_neg (by omega)]
theorem home_lt (s : ByteArray) {n : Nat} (h : 0 < n) : 0 ≤ homeI s n ∧ homeI s n < n := by
  have h1 := sumI_bd s
  rw [← home_plain s (by omega), Int.tmod_eq_emod_of_nonneg h1.1]
  exact ⟨Int.emod_nonneg _ (by omega), Int.emod_lt_of_pos _ (by omega)⟩
theorem home_any (s : ByteArray) (n : Int) (w : World) (hs : s.size ≤ maxLen) : Calls Try.prog 45 #[.string s, .int .i64 n] w fun e w' => e = .returned (.int .i64 (homeI s n)) ∧ Ext w w' := by
  by_cases h : n < 1
  · have H := Lib.hid (show homeI s n = 0 by simp [homeI, h])
    go_enter Try.func45, Try.ntmps45
    go_wp2
    go_ret
    exact ⟨by rw [H.out]; rfl, Ext.refl _⟩
  · have H := Lib.hid (home_plain s (n := n) (by omega))
    have hn : (n == 0) = false := by simp; omega
    go_enter Try.func45, Try.ntmps45
    go_wp2_with (go_at_call 94; refine (sum_any _ _ hs).mono ?_; rintro e w1 ⟨rfl, hy⟩)
    go_ret
    exact ⟨by rw [← H.out]; rfl, hy⟩
theorem rhome_any (s : ByteArray) (n : Int) (w : World) (hs : s.size ≤ maxLen) : Calls Try.prog 46 #[.string s, .int .i64 n] w fun e w' => e = .returned (.int .i64 (homeI s n)) ∧ w = w' := by
  by_cases h : n < 1
  · have H := Lib.hid (show homeI s n = 0 by simp [homeI, h])
    go_enter Try.func46, Try.ntmps46
    go_wp2
    go_ret
    exact ⟨by rw [H.out]; rfl, rfl⟩
  · have H := Lib.hid (home_plain s (n := n) (by omega))
    have hn : (n == 0) = false := by simp; omega
    go_enter Try.func46, Try.ntmps46
    go_wp2_with (go_at_call 95; refine (rsum_any _ _ hs).mono ?_; rintro e w1 ⟨rfl, rfl⟩)
    go_ret
    exact ⟨by rw [← H.out]; rfl, rfl⟩

theorem client_any (c : Int) (w : World) : Calls Try.prog 97 #[.int .i64 c] w fun e w' => e = .returned (.bool (decide (0 ≤ c) && decide (c < 64))) ∧ w = w' := by
  by_cases h : 0 ≤ c
  · have hd : decide (0 ≤ c) = true := by simpa using h
    go_enter Try.func97, Try.ntmps97
    go_wp2
    go_ret
    simp_all
  · have hd : decide (0 ≤ c) = false := by simpa using h
    go_enter Try.func97, Try.ntmps97
    go_wp2
    go_ret
    simp_all

/-- The number is a power of two from lo to 2048. -/
def powB (n lo : Int) : Bool := decide (lo ≤ n) && (decide (n ≤ 2048) && bits BinOp.and IntKind.i64 n (n - 1) == 0)
theorem power_any (n lo : Int) (hl : 1 ≤ lo) (w : World) : Calls Try.prog 91 #[.int .i64 n, .int .i64 lo] w fun e w' => e = .returned (.bool (powB n lo)) ∧ w = w' := by
  unfold powB
  by_cases h : lo ≤ n
  · have hd : decide (lo ≤ n) = true := by simpa using h
    by_cases h2 : n ≤ 2048
    · have hd2 : decide (n ≤ 2048) = true := by simpa using h2
      go_enter Try.func91, Try.ntmps91
      go_wp2
      go_ret
      simp_all
    · have hd2 : decide (n ≤ 2048) = false := by simpa using h2
      go_enter Try.func91, Try.ntmps91
      go_wp2
      go_ret
      simp_all
  · have hd : decide (lo ≤ n) = false := by simpa using h
    go_enter Try.func91, Try.ntmps91
    go_wp2
    go_ret
    simp_all
def pows : List Int := [2, 4, 8, 16, 32, 64, 128, 256, 512, 1024, 2048, 4096]
theorem pows_next : ∀ p ∈ pows, p ≤ 2048 → 2 * p ∈ pows ∧ p * 2 = 2 * p ∧ p < 2 * p ∧ ∀ q ∈ pows, q < 2 * p → q ≤ p := by decide
theorem pows_bd : ∀ p ∈ pows, 2 ≤ p ∧ p ≤ 4096 := by decide
theorem pows_all : ((List.range 2049).all fun n => (decide (2 ≤ n) && bits BinOp.and IntKind.i64 (n : Int) ((n : Int) - 1) == 0) == pows.contains (n : Int)) = true := by kernel_rfl
theorem pow_spec {n lo : Int} (hl : 2 ≤ lo) : powB n lo = true ↔ lo ≤ n ∧ n ≤ 2048 ∧ n ∈ pows := by
  unfold powB
  simp only [Bool.and_eq_true, decide_eq_true_eq]
  constructor
  · rintro ⟨h1, h2, h3⟩
    refine ⟨h1, h2, ?_⟩
    have := List.all_eq_true.1 pows_all n.toNat (List.mem_range.2 (by omega))
    rw [show ((n.toNat : Nat) : Int) = n by omega, h3, decide_eq_true (by omega)] at this
    simpa using this
  · rintro ⟨h1, h2, h3⟩
    refine ⟨h1, h2, ?_⟩
    have := List.all_eq_true.1 pows_all n.toNat (List.mem_range.2 (by omega))
    rw [show ((n.toNat : Nat) : Int) = n by omega, decide_eq_true (by omega), List.contains_iff_mem.2 h3] at this
    simpa using this
theorem rpower_any (n lo : Int) (hl : lo ∈ pows) (w : World) : Calls Try.prog 92 #[.int .i64 n, .int .i64 lo] w fun e w' => e = .returned (.bool (powB n lo)) ∧ w = w' := by
  have hb := pows_bd lo hl
  go_enter Try.func92, Try.ntmps92
  go_wp2_with fail
  go_loopw [5] (fun o wr => ∃ p : Int, o = .int .i64 p ∧ p ∈ pows ∧ lo ≤ p ∧ (∀ q ∈ pows, lo ≤ q → q < p → n ≠ q) ∧ w = wr) (fun o _ => (4096 - intOf o).toNat)
  case atStart => exact ⟨lo, rfl, hl, Int.le_refl _, fun q _ h1 h2 => absurd h1 (by omega), rfl⟩
  case round =>
    obtain ⟨p, rfl, hp, hlp, hq, rfl⟩ := hrel
    have hpb := pows_bd p hp
    obtain ⟨hp2, hp4⟩ := hpb
    by_cases h : p ≤ 2048
    · have hd : decide (p ≤ 2048) = true := by simpa using h
      obtain ⟨h1, h2, h3, h4⟩ := pows_next p hp h
      by_cases hn : n = p
      · have H := Lib.hid (show powB n lo = true from (pow_spec (by omega)).2 ⟨by omega, by omega, hn ▸ hp⟩)
        subst hn
        clear hq h4
        go_wp2_with fail
        go_ret
        exact ⟨by rw [H.out]; rfl, rfl⟩
      · have hn' : (n == p) = false := by simpa using hn
        have Hq := Lib.hid hq
        have H4 := Lib.hid h4
        clear hq h4 hn
        go_wp2_with fail
        go_roundw
        case rel => exact ⟨2 * p, by rw [← h2], h1, by omega, fun q k1 k2 k3 => by rcases (show q < p ∨ q = p by have := H4.out q k1 k3; omega) with k | k; exact Hq.out q k1 k2 k; rw [k]; simpa using hn', trivial⟩
        case measure => simp [intOf]; omega
    · have hd : decide (p ≤ 2048) = false := by simpa using h
      have H := Lib.hid (show powB n lo = false by
        rw [← Bool.not_eq_true, pow_spec (by omega)]
        rintro ⟨k1, k2, k3⟩
        exact hq n k3 k1 (by omega) rfl)
      clear hq
      go_wp2_with fail
      go_ret
      exact ⟨by rw [H.out]; rfl, rfl⟩
end Go.Proofs.Ytkhfjedeccjnbaa
