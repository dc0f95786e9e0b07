/-
  Same of two slices that read as the same list of strings returns true.
  Conditions: none.
-/
import Derived.Test.YtfbhbnolnjcaiaaGround
import Derived.Test.YtfbhbnolnjcaiaaSortAny
namespace Go.Proofs.Ytfbhbnolnjcaiaa
open Go.RowKit Go.Sort
set_option maxHeartbeats 1000000

theorem same_str (va vb : Value) (n : Nat) (l : List (List UInt8)) (S T : Nat → Prop) (w : World) (ha : Rd w S 1 va n (l.map encStr)) (hb : Rd w T 1 vb n (l.map encStr)) :
    Calls Try.prog 17 #[va, vb] w fun e w' => e = .returned (.bool true) ∧ Ext w w' := by
  have hln : l.length = n := by have := ha.1; simpa using this
  have Ha := Lib.hid ha
  have Hb := Lib.hid hb
  have Hln := Lib.hid hln
  obtain ⟨_, A, ca, rfl, ha1, ha2, _⟩ := ha
  obtain ⟨_, B, cb, rfl, hb1, hb2, _⟩ := hb
  unfold maxLen at ha2 hb2
  clear hln
  go_enter Try.func17, Try.ntmps17
  go_wp2_with fail
  go_loopw [13] (fun o wr => ∃ i : Nat, i ≤ n ∧ o = .int .i64 (i : Int) ∧ Ext w wr) (fun o _ => n - (intOf o).toNat)
  case atStart => exact ⟨0, by omega, rfl, Ext.refl _⟩
  case round =>
    obtain ⟨i, hi, rfl, hx⟩ := hrel
    by_cases hin : i < n
    · have hd : decide ((i : Int) < (n : Int)) = true := by simpa using hin
      obtain ⟨ga, oa, c1, e1, _, _, _, _, hc1⟩ := (Ha.out.ext hx).at_ hin
      obtain ⟨gb, ob, c2, e2, _, _, _, _, hc2⟩ := (Hb.out.ext hx).at_ hin
      simp only [Value.slice.injEq, true_and] at e1 e2
      obtain ⟨rfl, rfl⟩ := e1
      obtain ⟨rfl, rfl⟩ := e2
      obtain ⟨x, hxx⟩ : ∃ x, l[i]? = some x := ⟨l[i]'(by have := Hln.out; omega), by simp⟩
      have d1 : wr.cell? ⟨ga, oa + i, none⟩ = some (.string ⟨⟨x⟩⟩) := hc1 i _ (by rw [List.getElem?_map, hxx]; rfl)
      have d2 : wr.cell? ⟨gb, ob + i, none⟩ = some (.string ⟨⟨x⟩⟩) := hc2 i _ (by rw [List.getElem?_map, hxx]; rfl)
      have i0 : (0 : Int) ≤ (i : Int) := by omega
      have i1 : (i : Int) < (n : Int) := by omega
      have Hx := Lib.hid hx
      clear hc1 hc2 hx hxx
      go_wp2_with fail
      go_quiet (fail)
      go_wp2_with fail
      go_roundw
      case rel => exact ⟨i + 1, by omega, by go_num, Hx.out.drewN _⟩
      case measure => simp [intOf]; omega
    · have hd : decide ((i : Int) < (n : Int)) = false := by simp; omega
      go_wp2_with fail
      go_ret
      exact ⟨rfl, hx⟩
end Go.Proofs.Ytfbhbnolnjcaiaa
