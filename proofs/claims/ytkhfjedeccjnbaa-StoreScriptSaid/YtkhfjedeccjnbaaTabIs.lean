/-
  The reference's table as a table of keys (25.1): Place and Len.
  Conditions: the table is whole in memory; lengths within a process's reach.
-/
import Derived.Test.YtkhfjedeccjnbaaWords
import Derived.Test.YtkhfjedeccjnbaaStLaw
namespace Go.Proofs.Ytkhfjedeccjnbaa
open Go.RowKit Go.Sort
set_option maxHeartbeats 2000000

/-- The number in slot i is that of its key among the keys, or -1. -/
def Enc (n : Nat) (f : Nat → Int) (ks : List ByteArray) (sl : Nat → Option ByteArray) : Prop :=
  ∀ i, i < n → (sl i = none ∧ f i = -1) ∨ ∃ (j : Nat) (k : ByteArray), sl i = some k ∧ f i = (j : Int) ∧ ks[j]? = some k
/-- Block t is a table of the reference with n slots, which hold sl; S are its blocks; at most L keys were ever put into it. -/
def TabIs (w : World) (S : Nat → Prop) (t n : Nat) (sl : Nat → Option ByteArray) (L : Nat) : Prop :=
  ∃ s f kv ks S0, TableAt w t s n f kv ∧ S t ∧ S s ∧ (∀ k, S0 k → S k ∧ k ≠ t ∧ k ≠ s) ∧ Rd w S0 1 kv ks.length (ks.map Value.string) ∧ ks.length ≤ L ∧ Enc n f ks sl ∧ ∀ k, S k → k < w.heap.size
theorem TabIs.low {w : World} {S : Nat → Prop} {t n : Nat} {sl : Nat → Option ByteArray} {L : Nat} (h : TabIs w S t n sl L) : ∀ k, S k → k < w.heap.size := by
  obtain ⟨_, _, _, _, _, _, _, _, _, _, _, _, h⟩ := h
  exact h
theorem TabIs.chg {w w' : World} {S T : Nat → Prop} {t n : Nat} {sl : Nat → Option ByteArray} {L : Nat} (h : TabIs w S t n sl L) (c : Chg T w w') (hd : ∀ k, S k → ¬ T k) : TabIs w' S t n sl L := by
  obtain ⟨s, f, kv, ks, S0, h1, h2, h3, h4, h5, h6, h7, h8⟩ := h
  exact ⟨s, f, kv, ks, S0, h1.keep c.size (c.block t (h8 t h2) (hd t h2)) (c.block s (h8 s h3) (hd s h3)), h2, h3, h4, h5.chg c (fun k hk => hd k (h4 k hk).1), h6, h7, fun k hk => Nat.lt_of_lt_of_le (h8 k hk) c.size⟩
theorem TabIs.ext {w w' : World} {S : Nat → Prop} {t n : Nat} {sl : Nat → Option ByteArray} {L : Nat} (h : TabIs w S t n sl L) (x : Ext w w') : TabIs w' S t n sl L := h.chg (x.chg fun _ => False) fun _ _ h => h
theorem TabIs.more {w : World} {S : Nat → Prop} {t n : Nat} {sl : Nat → Option ByteArray} {L L' : Nat} (h : TabIs w S t n sl L) (hL : L ≤ L') : TabIs w S t n sl L' := by
  obtain ⟨s, f, kv, ks, S0, h1, h2, h3, h4, h5, h6, h7, h8⟩ := h
  exact ⟨s, f, kv, ks, S0, h1, h2, h3, h4, h5, by omega, h7, h8⟩
theorem map_string_at {ks : List ByteArray} {j : Nat} {k : ByteArray} (h : ks[j]? = some k) : (ks.map Value.string)[j]? = some (.string k) := by simp [h]

def PlacePost (n : Nat) (sl : Nat → Option ByteArray) (key : ByteArray) (w : World) (e : Ending) (w' : World) : Prop :=
  ∃ r : Int, e = .returned (.int .i64 r) ∧ ((∃ p, Has n sl key p ∧ r = (p : Nat)) ∨ ((∀ i, ¬ Has n sl key i) ∧ r = -1)) ∧ w = w'
theorem rplace_any (S : Nat → Prop) (t n : Nat) (sl : Nat → Option ByteArray) (L : Nat) (key : ByteArray) (w : World) (hn : n ≤ 4096) (h : TabIs w S t n sl L) :
    Calls Try.prog 105 #[.pointer (some ⟨t, 0, none⟩), .string key] w (PlacePost n sl key w) := by
  obtain ⟨s, f, kv, ks, S0, h1, _, _, _, h5, h6, h7, _⟩ := h
  obtain ⟨hts, htl, htf, c0, c1, hsl, hsf, hsc⟩ := h1
  go_enter Try.func105, Try.ntmps105
  go_wp2_with fail
  go_loopw [12] (fun o wr => ∃ i : Nat, i ≤ n ∧ o = .int .i64 (i : Int) ∧ (∀ j, j < i → ¬ Has n sl key j) ∧ w = wr) (fun o _ => n - (intOf o).toNat)
  case atStart => exact ⟨0, by omega, rfl, fun j hj => absurd hj (by omega), rfl⟩
  case round =>
    obtain ⟨i, hi, rfl, hno, rfl⟩ := hrel
    have Hno := Lib.hid hno
    clear hno
    by_cases hin : i < n
    · have hd : decide ((i : Int) < (n : Int)) = true := by simpa using hin
      have d0 := hsc i hin
      rcases h7 i hin with ⟨e1, e2⟩ | ⟨j, k, e1, e2, e3⟩
      · rw [e2] at d0
        have He1 := Lib.hid e1
        clear e1 e2 hsc h7
        go_wp2_with fail
        go_roundw
        case rel =>
          refine ⟨i + 1, by omega, by go_num, fun j hj hj2 => ?_, by trivial⟩
          rcases (show j < i ∨ j = i by omega) with h | h
          · exact Hno.out j h hj2
          · subst h; have := hj2.2; rw [He1.out] at this; simp at this
        case measure => simp [intOf]; omega
      · rw [e2] at d0
        have hjl : j < ks.length := (List.getElem?_eq_some_iff.1 e3).1
        obtain ⟨g, o, c, rfl, hc1, hc2, _, _, hrd⟩ := h5.at_ hjl
        have d1 := hrd j _ (map_string_at e3)
        have j0 : (0 : Int) ≤ (j : Int) := by omega
        have j1 : (j : Int) < (ks.length : Int) := by omega
        have hd0 : decide ((0 : Int) ≤ (j : Int)) = true := by simp
        unfold maxLen at hc2
        have He1 := Lib.hid e1
        clear e1 e2 e3 hsc h7 h5 hrd
        by_cases hk : k = key
        · subst hk
          go_wp2_with fail
          go_ret
          exact ⟨_, rfl, .inl ⟨i, ⟨hin, He1.out⟩, rfl⟩, rfl⟩
        · have hk' := bytes_ne hk
          have Hk := Lib.hid hk
          clear hk
          go_wp2_with fail
          go_roundw
          case rel =>
            refine ⟨i + 1, by omega, by go_num, fun j hj hj2 => ?_, by trivial⟩
            rcases (show j < i ∨ j = i by omega) with h | h
            · exact Hno.out j h hj2
            · subst h; have := hj2.2; rw [He1.out] at this; simp at this; exact Hk.out this
          case measure => simp [intOf]; omega
    · have hd : decide ((i : Int) < (n : Int)) = false := by simp; omega
      go_wp2_with fail
      go_ret
      exact ⟨_, rfl, .inr ⟨fun j hj => Hno.out j (by have := hj.1; omega) hj, rfl⟩, rfl⟩
theorem rlen_any (S : Nat → Prop) (t n : Nat) (sl : Nat → Option ByteArray) (L : Nat) (w : World) (hn : n ≤ 4096) (h : TabIs w S t n sl L) :
    Calls Try.prog 73 #[.pointer (some ⟨t, 0, none⟩)] w fun e w' => e = .returned (.int .i64 (cnt sl n : Nat)) ∧ w = w' := by
  obtain ⟨s, f, kv, ks, S0, h1, _, _, _, h5, h6, h7, _⟩ := h
  obtain ⟨hts, htl, htf, c0, c1, hsl, hsf, hsc⟩ := h1
  go_enter Try.func73, Try.ntmps73
  go_wp2_with fail
  go_loopw [11, 3] (fun o q wr => ∃ i : Nat, i ≤ n ∧ o = .int .i64 (i : Int) ∧ q = .int .i64 (cnt sl i : Nat) ∧ w = wr) (fun o _ _ => n - (intOf o).toNat)
  case atStart => exact ⟨0, by omega, rfl, rfl, rfl⟩
  case round =>
    obtain ⟨i, hi, rfl, rfl, rfl⟩ := hrel
    have hcl := cnt_le sl i
    by_cases hin : i < n
    · have hd : decide ((i : Int) < (n : Int)) = true := by simpa using hin
      have d0 := hsc i hin
      rcases h7 i hin with ⟨e1, e2⟩ | ⟨j, k, e1, e2, e3⟩
      · rw [e2] at d0
        have hcn : cnt sl (i + 1) = cnt sl i := by rw [cnt, e1]; rfl
        have Hcn := Lib.hid hcn
        clear e1 e2 hsc h7 hcn
        go_wp2_with fail
        go_roundw
        case rel => exact ⟨i + 1, by omega, by go_num, by rw [Hcn.out], by trivial⟩
        case measure => simp [intOf]; omega
      · rw [e2] at d0
        have hd0 : decide ((0 : Int) ≤ (j : Int)) = true := by simp
        have hcn : cnt sl (i + 1) = cnt sl i + 1 := by rw [cnt, e1]; rfl
        have Hcn := Lib.hid hcn
        clear e1 e2 e3 hsc h7 hcn
        go_wp2_with fail
        go_roundw
        case rel => exact ⟨i + 1, by omega, by go_num, (by rw [Hcn.out]; go_num), by trivial⟩
        case measure => simp [intOf]; omega
    · have hd : decide ((i : Int) < (n : Int)) = false := by simp; omega
      have hii : i = n := by omega
      subst hii
      go_wp2_with fail
      go_ret
      exact ⟨rfl, rfl⟩
end Go.Proofs.Ytkhfjedeccjnbaa
