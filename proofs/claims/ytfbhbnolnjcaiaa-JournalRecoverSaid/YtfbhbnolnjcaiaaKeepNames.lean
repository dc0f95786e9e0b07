/-
  keep.Names makes at most four names of letters.
  Conditions: the list reads as integers.
-/
import Derived.Test.YtfbhbnolnjcaiaaApp
import Derived.Test.YtfbhbnolnjcaiaaGround
namespace Go.Proofs.Ytfbhbnolnjcaiaa
open Go.RowKit Go.Sort
set_option maxHeartbeats 4000000
set_option maxRecDepth 20000

/-- Names of letters: two bytes, two bytes, one byte. -/
def Small (l : List Nm) : Prop := ∀ n ∈ l, n.a.size = 2 ∧ n.u.size = 2 ∧ n.k.size = 1 ∧ n.k ≠ ⟨#[122]⟩
abbrev ltr (k : Nat) : ByteArray := (⟨#[97, 98, 99, 100]⟩ : ByteArray).extract k (k + 1)
theorem letters_one : ∀ k, k < 4 → (ltr k).size = 1 := by decide
theorem letters_not : ∀ k, k < 4 → ltr k ≠ ⟨#[122]⟩ := by decide
def NamesRel (w : World) (sb : Nat) (v : Value) (m k : Nat) (wr : World) : Prop :=
  ∃ ns : List Nm, ns.length = m ∧ m ≤ k ∧ Small ns ∧ wr.ownsRow (w.heap.size + 1) 68 3 v m (nmsCells ns) ∧ Src w.heap.size wr sb ∧ Ext w wr ∧ sb < wr.heap.size
def NamesPost (w : World) (e : Ending) (w' : World) : Prop :=
  ∃ v ns, e = .returned v ∧ Small ns ∧ ns.length ≤ 4 ∧ NmsAt w' (fun k => w.heap.size ≤ k) v ns ∧ Ext w w'
theorem names_any (a : Option Addr) (len cap : Nat) (w : World) (hrow : RowIn w a len) : Calls Try.prog 15 #[.slice a len cap] w (NamesPost w) := by
  obtain ⟨i0, hi, hz0, hz1, hz2⟩ := info_parts info_name
  have hsrc : Src w.heap.size (w.alloc (.cells #[.slice a len cap, .int .i64 0] 124)) w.heap.size := src_of_rowIn hrow (Ext.refl w)
  have hrel0 : NamesRel w w.heap.size (.slice none 0 0) 0 0 (w.alloc (.cells #[.slice a len cap, .int .i64 0] 124)) := ⟨[], rfl, Nat.le_refl _, by simp [Small], World.ownsRow_nil _ _ _ _, hsrc, (Ext.refl w).alloc _, by simp⟩
  have Hrel0 := Lib.hid hrel0
  clear hrel0 hsrc hrow
  go_enter Try.func15, Try.ntmps15
  go_wp2_with fail
  refine (from_any _ _ _ _).mono ?_
  rintro e w2 ⟨rfl, rfl⟩
  go_wp2_with fail
  go_loopw [4, 5] (fun v o wr => ∃ m k : Nat, k ≤ 4 ∧ o = .int .i64 (k : Int) ∧ NamesRel w w.heap.size v m k wr) (fun _ o _ => 4 - (intOf o).toNat)
  case atStart => exact ⟨0, 0, by omega, rfl, Hrel0.out⟩
  case round =>
    clear Hrel0
    obtain ⟨m, k, hk4, rfl, ns, hnl, hmk, hsm, hown, hsrc, hx, hlt⟩ := hrel
    obtain ⟨a1, c1, rfl⟩ := own_shape hown
    have Hown := Lib.hid hown
    have Hx := Lib.hid hx
    have Hsm := Lib.hid hsm
    have Hnl := Lib.hid hnl
    clear hown hx hsm hnl
    by_cases hk : k < 4
    · have hd : decide ((k : Int) < 4) = true := by simp; omega
      go_wp2_with fail
      refine (next_any _ _ (by omega) (by omega) _ _ hsrc).mono ?_
      rintro e w3 ⟨z, hz, rfl, hsrc3, hc3, hz3⟩
      have Hown3 := Lib.hid (Hown.out.kept (w' := w3) (row := some w.heap.size) ⟨hc3.os, hc3.tape, hc3.output, hc3.size, fun i hi hne => hc3.block i hi (fun e => hne (by rw [e]))⟩ (.inr fun e => by have := (Hown.out.lt _ e).1; omega))
      have Hx3 := Lib.hid (Hx.out.chg_new hc3 (fun i hi => by omega))
      have hlt3 := Nat.lt_of_lt_of_le hlt hc3.size
      clear hsrc hc3 hz3 Hown Hx
      by_cases hz0' : z = 0
      · subst hz0'
        have q0 : (0 : Int) ≤ (k : Int) := by omega
        have q1 : (k : Int) ≤ (k : Int) + 1 := by omega
        have q2 : (k : Int) + 1 ≤ 4 := by omega
        have hone := letters_one k hk
        have hnot := letters_not k hk
        have hsm2 : Small (ns ++ [⟨ltr k ++ ltr k, ltr k ++ ltr k, ltr k⟩]) := by
          intro n hn
          rcases List.mem_append.1 hn with hn | hn
          · exact Hsm.out n hn
          · simp only [List.mem_singleton] at hn
            subst hn
            simp only [ByteArray.size_append]
            exact ⟨by omega, by omega, by omega, hnot⟩
        have Hsm2 := Lib.hid hsm2
        have hbz : w.heap.size + 1 ≤ (w3.alloc (.cells #[.string (ltr k ++ ltr k), .string (ltr k ++ ltr k), .string (ltr k)] 68)).heap.size := by simp; omega
        clear hsm2 hone hnot
        go_wp2_with (at_builtin; refine wpList_append_rd _ rfl _ _ 29 rfl (w.heap.size + 1) 68 i0 _ 3 48 und_names hi hz0 hz1 hz2 rfl (by decide) _ m _ rfl (Hown3.out.alloc _) (fun _ => True) _ 1 _ rfl (rd_name w3 _ _ _) (by simp [Value.oneCell']) (by unfold maxLen; omega) (by omega) hbz ?_; intro v' w4 ha; obtain ⟨a3, c3, hv3⟩ := own_shape ha.own; subst hv3)
        have hcg : Chg (fun i => w.heap.size + 1 ≤ i) w3 w4 := ((Chg.refl _ w3).alloc _).grown ha.grown (fun j hj => .inl (Hown3.out.lt j hj).1)
        have Hend := Lib.hid (show NamesRel w w.heap.size (.slice a3 (m + 1) c3) (m + 1) (k + 1) w4 from ⟨ns ++ [⟨ltr k ++ ltr k, ltr k ++ ltr k, ltr k⟩], by simp [Hnl.out], by omega, Hsm2.out, by rw [nmsCells_append]; exact ha.own, hsrc3.chg hcg (by omega) (by intro j hj; omega), Hx3.out.chg_new hcg (fun i hi => by omega), by have := hcg.size; omega⟩)
        clear ha hcg hsrc3
        go_roundw
        case rel => exact ⟨m + 1, k + 1, by omega, by go_num, Hend.out⟩
        case measure => simp [intOf]; omega
      · have hzn : ((z : Int) == 0) = false := by simp; omega
        go_wp2_with fail
        go_roundw
        case rel => exact ⟨m, k + 1, by omega, by go_num, ns, Hnl.out, by omega, Hsm.out, Hown3.out, hsrc3, Hx3.out, hlt3⟩
        case measure => simp [intOf]; omega
    · have hd : decide ((k : Int) < 4) = false := by simp; omega
      go_wp2_with fail
      go_ret
      exact ⟨_, ns, rfl, Hsm.out, by rw [Hnl.out]; omega, by unfold NmsAt; rw [Hnl.out]; exact Rd.of_own Hown.out fun q hq => by have := (Hown.out.lt q hq).1; omega, Hx.out⟩
end Go.Proofs.Ytfbhbnolnjcaiaa
