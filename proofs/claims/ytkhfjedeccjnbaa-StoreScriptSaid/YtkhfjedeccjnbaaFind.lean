/-
  Where Find stops (25.2).
  Conditions: keys' lengths are those of Go strings; at least one slot of the table is unused.
-/
import Derived.Test.YtkhfjedeccjnbaaTab
namespace Go.Proofs.Ytkhfjedeccjnbaa
open Go.RowKit Go.Sort
set_option maxHeartbeats 1000000

theorem bytes_ne {a b : ByteArray} (h : a ≠ b) : (a.toList == b.toList) = false := by
  rw [ByteArray.toList_eq, ByteArray.toList_eq]
  rw [beq_eq_false_iff_ne]
  intro e
  apply h
  cases a; cases b
  simpa using e
/-- The slot behind slot i, in a ring of n. -/
def nx (n i : Nat) : Nat := if i + 1 = n then 0 else i + 1
/-- The slot that lies d behind slot h. -/
def off (n h d : Nat) : Nat := if h + d < n then h + d else h + d - n
/-- How far slot b lies behind slot a. -/
def dist (n a b : Nat) : Nat := if a ≤ b then b - a else b + n - a
theorem nx_lt {n i : Nat} (h : i < n) : nx n i < n := by unfold nx; split <;> omega
theorem off_lt {n h d : Nat} (h1 : h < n) (h2 : d < n) : off n h d < n := by unfold off; split <;> omega
theorem off_zero {n h : Nat} (h1 : h < n) : off n h 0 = h := by unfold off; split <;> omega
theorem off_succ {n h d : Nat} (h1 : h < n) (h2 : d + 1 < n) : off n h (d + 1) = nx n (off n h d) := by unfold off nx; (repeat' split) <;> omega
theorem off_dist {n a b : Nat} (h1 : a < n) (h2 : b < n) : off n a (dist n a b) = b ∧ dist n a b < n := by unfold off dist; (repeat' split) <;> omega
theorem dist_nx {n a b : Nat} (h1 : a < n) (h2 : b < n) (h : a ≠ b) : dist n (nx n a) b < dist n a b := by unfold dist nx; (repeat' split) <;> omega
theorem nx_tmod {n i : Nat} (h : i < n) : ((i : Int) + 1).tmod (n : Int) = ((nx n i : Nat) : Int) := by
  rw [Int.tmod_eq_emod_of_nonneg (by omega)]
  unfold nx
  split
  · rename_i e; rw [show (i : Int) + 1 = n by omega]; simp
  · rw [Int.emod_eq_of_lt (by omega) (by omega)]; omega
/-- The home of a key as a number of a slot. -/
def homeN (s : ByteArray) (n : Nat) : Nat := (homeI s n).toNat
theorem homeN_lt (s : ByteArray) {n : Nat} (h : 0 < n) : homeN s n < n ∧ homeI s n = (homeN s n : Int) := by
  have := home_lt s h
  unfold homeN; omega
/-- From the key's home on, the slots before slot p are used by other keys; and p is unused, or the key's. -/
def FindAt (n : Nat) (sl : Nat → Option ByteArray) (key : ByteArray) (p : Nat) (ok : Bool) : Prop :=
  ∃ d, d < n ∧ p = off n (homeN key n) d ∧ (∀ i, i < d → ∃ k, sl (off n (homeN key n) i) = some k ∧ k ≠ key) ∧ sl p = if ok then some key else none
theorem FindAt.lt {n : Nat} {sl : Nat → Option ByteArray} {key : ByteArray} {p : Nat} {ok : Bool} (h : FindAt n sl key p ok) : p < n := by
  obtain ⟨d, h1, h2, _⟩ := h
  rw [h2]; exact off_lt (homeN_lt key (by omega)).1 h1
def FindPost (n : Nat) (sl : Nat → Option ByteArray) (key : ByteArray) (w : World) (e : Ending) (w' : World) : Prop :=
  ∃ (p : Nat) (ok : Bool), e = .returned (.tuple #[.int .i64 (p : Int), .bool ok]) ∧ FindAt n sl key p ok ∧ Ext w w'
theorem find_any (g n : Nat) (sl : Nat → Option ByteArray) (key : ByteArray) (w : World) (hn : 0 < n) (hm : n ≤ 4096) (hs : key.size ≤ maxLen) (ht : SlotsAt w g n sl) (u : Nat) (hu : u < n) (hfree : sl u = none) :
    Calls Try.prog 98 #[.slice (some ⟨g, 0, none⟩) n n, .string key] w (FindPost n sl key w) := by
  obtain ⟨h0, hh⟩ := homeN_lt key hn
  obtain ⟨_, _, hc⟩ := ht
  have hg : g < w.heap.size := by assumption
  have hn0 : ((n : Int) == 0) = false := by simp; omega
  go_enter Try.func98, Try.ntmps98
  go_wp2_with (go_at_call 45; refine (home_any _ _ _ hs).mono ?_; rintro e w1 ⟨rfl, hy⟩)
  go_loopw [6] (fun o wr => ∃ d : Nat, d < n ∧ o = .int .i64 (off n (homeN key n) d : Nat) ∧ (∀ i, i < d → ∃ k, sl (off n (homeN key n) i) = some k ∧ k ≠ key) ∧ Ext w wr) (fun o _ => dist n (intOf o).toNat u)
  case atStart => exact ⟨0, hn, by rw [off_zero h0, ← hh], fun i hi => absurd hi (by omega), hy⟩
  case round =>
    obtain ⟨d, hd, rfl, hb, hx⟩ := hrel
    have hp := off_lt h0 hd
    obtain ⟨p, hpe⟩ : ∃ p, off n (homeN key n) d = p := ⟨_, rfl⟩
    rw [hpe] at hp ⊢
    obtain ⟨c0, c1⟩ := hc p hp
    have hc0 := (hx.cell (p := ⟨g, p * 2, none⟩) hg).trans c0
    have hc1 := (hx.cell (p := ⟨g, p * 2 + 1, none⟩) hg).trans c1
    have Hb := Lib.hid hb
    clear c0 c1 hb
    cases hsl : sl p with
    | none =>
      have Hsl := Lib.hid hsl
      rw [hsl] at hc0 hc1
      simp only [Option.isSome, Option.getD] at hc0 hc1
      clear hsl
      go_wp2_with fail
      go_ret2
      exact ⟨p, false, rfl, ⟨d, hd, hpe.symm, Hb.out, by simpa using Hsl.out⟩, hx⟩
    | some k =>
      have Hsl := Lib.hid hsl
      rw [hsl] at hc0 hc1
      simp only [Option.isSome, Option.getD] at hc0 hc1
      clear hsl
      by_cases hk : k = key
      · subst hk
        go_wp2_with fail
        go_ret2
        exact ⟨p, true, rfl, ⟨d, hd, hpe.symm, Hb.out, by simpa using Hsl.out⟩, hx⟩
      · have hk' := bytes_ne hk
        have hnx := nx_tmod hp
        go_wp2_with fail
        go_roundw
        case rel =>
          have hd1 : d + 1 < n := by
            obtain ⟨q1, q2⟩ := off_dist h0 hu
            rcases Nat.lt_or_ge d (dist n (homeN key n) u) with hlt | hge
            · omega
            · exfalso
              rcases Nat.lt_or_ge (dist n (homeN key n) u) d with k1 | k1
              · obtain ⟨k2, k3, _⟩ := Hb.out _ k1
                rw [q1, hfree] at k3; simp at k3
              · have k2 : d = dist n (homeN key n) u := by omega
                rw [k2, q1] at hpe
                have k3 := Hsl.out
                rw [← hpe, hfree] at k3; simp at k3
          refine ⟨d + 1, hd1, by rw [off_succ h0 hd1, hpe], fun i hi => ?_, hx⟩
          rcases (show i < d ∨ i = d by omega) with hi | hi
          · exact Hb.out i hi
          · rw [hi, hpe]; exact ⟨k, Hsl.out, hk⟩
        case measure =>
          have hpu : p ≠ u := fun e => by
            have k3 := Hsl.out
            rw [e, hfree] at k3; simp at k3
          have := dist_nx hp hu hpu
          simpa [intOf] using this
end Go.Proofs.Ytkhfjedeccjnbaa
