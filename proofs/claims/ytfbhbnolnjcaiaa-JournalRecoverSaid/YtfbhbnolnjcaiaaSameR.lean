/-
  Same of two slices that read as the same list of records returns true.
  Conditions: none.
-/
import Derived.Test.YtfbhbnolnjcaiaaModF
namespace Go.Proofs.Ytfbhbnolnjcaiaa
open Go.RowKit Go.Sort
set_option maxHeartbeats 1000000

theorem same_recs (va vb : Value) (l : List Rc) (S T : Nat → Prop) (w : World) (ha : RecsAt w S va l) (hb : RecsAt w T vb l) :
    Calls Try.prog 25 #[va, vb] w fun e w' => e = .returned (.bool true) ∧ Ext w w' := by
  have Ha := Lib.hid ha
  have Hb := Lib.hid hb
  obtain ⟨_, A, ca, rfl, ha1, ha2, _⟩ := ha
  obtain ⟨_, B, cb, rfl, hb1, hb2, _⟩ := hb
  obtain ⟨n, hn⟩ : ∃ n, l.length = n := ⟨_, rfl⟩
  rw [hn] at ha1 hb1 ⊢
  have Hn := Lib.hid hn
  unfold maxLen at ha2 hb2
  clear hn
  go_enter Try.func25, Try.ntmps25
  go_wp2_with fail
  go_loopw [13] (fun o wr => ∃ i : Nat, i ≤ n ∧ o = .int .i64 (i : Int) ∧ Ext w wr) (fun o _ => n - (intOf o).toNat)
  case atStart => exact ⟨0, by omega, rfl, Ext.refl _⟩
  case round =>
    obtain ⟨i, hi, rfl, hx⟩ := hrel
    by_cases hin : i < n
    · have hd : decide ((i : Int) < (n : Int)) = true := by simpa using hin
      obtain ⟨r, hr⟩ : ∃ r, l[i]? = some r := ⟨l[i]'(by have := Hn.out; omega), by simp⟩
      obtain ⟨ga, oa, c1, e1, _, _, _, x0, x1, x2, x3⟩ := recsAt_get (Rd.ext Ha.out hx) hr
      obtain ⟨gb, ob, c2, e2, _, _, _, y0, y1, y2, y3⟩ := recsAt_get (Rd.ext Hb.out hx) hr
      rw [Hn.out] at e1 e2
      simp only [Value.slice.injEq, true_and] at e1 e2
      obtain ⟨rfl, rfl⟩ := e1
      obtain ⟨rfl, rfl⟩ := e2
      have i0 : (0 : Int) ≤ (i : Int) := by omega
      have i1 : (i : Int) < (n : Int) := by omega
      have Hx := Lib.hid hx
      clear hx hr
      go_wp2_with fail
      go_quiet (fail)
      go_wp2_with fail
      go_roundw
      case rel => exact ⟨i + 1, by omega, by go_num, Hx.out.drewN _⟩
      case measure => simp [intOf]; omega
    · have hd : decide ((i : Int) < (n : Int)) = false := by simp; omega
      go_wp2_with fail
      go_ret
      exact ⟨rfl, hx⟩
end Go.Proofs.Ytfbhbnolnjcaiaa
