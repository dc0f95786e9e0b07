/-
  The comparison that history.Order hands to the library's stable sort (32.3).
  Conditions: the operations lie in memory.
-/
import Derived.Test.YthenclenabcmgaaStabE
import Derived.Test.YthenclenabcmgaaOps
namespace Go.Proofs.Ythenclenabcmgaa
open Go.RowKit Go.Sort Go.Shelf
set_option maxHeartbeats 4000000
set_option maxRecDepth 100000

def cfI (x y : Int) : Int := if x < y then -1 else if y < x then 1 else 0
theorem isnan_any (x : Int) (w : World) : Calls Try.prog 30 #[.int .i64 x] w fun e w' => e = .returned (.bool false) ∧ w = w' := by
  go_enter Try.func30, Try.ntmps30
  go_wp2
  go_ret
  simp
theorem compare_any (x y : Int) (w : World) : Calls Try.prog 25 #[.int .i64 x, .int .i64 y] w fun e w' => e = .returned (.int .i64 (cfI x y)) ∧ w = w' := by
  by_cases h1 : x < y
  · have H := Lib.hid (show cfI x y = -1 by simp [cfI, h1])
    go_enter Try.func25, Try.ntmps25
    go_wp2_with (go_at_call 30; refine (isnan_any _ _).mono ?_; rintro e w' ⟨rfl, rfl⟩)
    go_ret
    exact ⟨by rw [H.out]; rfl, rfl⟩
  · by_cases h2 : y < x
    · have H := Lib.hid (show cfI x y = 1 by simp [cfI, h1, h2])
      go_enter Try.func25, Try.ntmps25
      go_wp2_with (go_at_call 30; refine (isnan_any _ _).mono ?_; rintro e w' ⟨rfl, rfl⟩)
      go_ret
      exact ⟨by rw [H.out]; rfl, rfl⟩
    · have H := Lib.hid (show cfI x y = 0 by simp [cfI, h1, h2])
      go_enter Try.func25, Try.ntmps25
      go_wp2_with (go_at_call 30; refine (isnan_any _ _).mono ?_; rintro e w' ⟨rfl, rfl⟩)
      go_ret
      exact ⟨by rw [H.out]; rfl, rfl⟩
theorem same_grown {P : Program} {f : FuncId} {args : Array Value} {w : World} {v : Value} (h : Calls P f args w fun e w' => e = .returned v ∧ w = w') : Calls P f args w fun e w' => e = .returned v ∧ ∃ q os', w' = grow (w.drewN q) os' :=
  h.mono fun _ _ ⟨he, hw⟩ => ⟨he, 0, #[], by rw [grow_empty, ← hw]; rfl⟩
theorem closure_any {S : Nat → Prop} (B i j : Nat) (A : Option Addr) (C : Nat) (os : List Opn) (a b : Opn) (W : World) (hB : W.cell? ⟨B, 0, none⟩ = some (.slice A os.length C)) (ho : OpsAt W S (.slice A os.length C) os) (ha : os[i]? = some a) (hb : os[j]? = some b) :
    Calls Try.prog 24 #[.int .i64 i, .int .i64 j, .pointer (some ⟨B, 0, none⟩)] W fun e w' => e = .returned (.int .i64 (cfI a.dec b.dec)) ∧ ∃ q os', w' = grow (W.drewN q) os' := by
  have mixed := mixed_on
  obtain ⟨g, p, c, hv, h1, h2, _, hA, _⟩ := ho.get ha
  obtain ⟨g', p', c', hv', _, _, _, hA', _⟩ := ho.get hb
  simp only [Value.slice.injEq, true_and] at hv hv'
  obtain ⟨rfl, rfl⟩ := hv
  simp only [Option.some.injEq, Addr.mk.injEq, and_true] at hv'
  obtain ⟨⟨rfl, rfl⟩, rfl⟩ := hv'
  have hi := (List.getElem?_eq_some_iff.1 ha).1
  have hj := (List.getElem?_eq_some_iff.1 hb).1
  have hBl := lt_of_cell hB
  have kB := fun n os => cell_grown (w := W) hBl hB n os
  have ka := fun n os => cell_grown (w := W) (a := ⟨g, p + i * 23 + 13, none⟩) hA.1 hA.dec n os
  have kb := fun n os => cell_grown (w := W) (a := ⟨g, p + j * 23 + 13, none⟩) hA'.1 hA'.dec n os
  have hc := fun n os => same_grown (compare_any a.dec b.dec (grow (W.drewN n) os))
  have q1 : (0 : Int) ≤ (i : Int) := by omega
  have q2 : (i : Int) < (os.length : Int) := by omega
  have q3 : (0 : Int) ≤ (j : Int) := by omega
  have q4 : (j : Int) < (os.length : Int) := by omega
  obtain ⟨n, hn⟩ : ∃ n, os.length = n := ⟨_, rfl⟩
  rw [hn] at q2 q4 kB
  clear hn ha hb hA hA' ho hB h1 hi hj
  go_enter Try.func24, Try.ntmps24
  go_wp2_with fail
  go_quiet_grown (first | (go_at_call 25; refine Calls.grown_of (hc _ _)))
  go_wp2_with fail
  go_ret
  exact ⟨rfl, _, _, rfl⟩
end Go.Proofs.Ythenclenabcmgaa
