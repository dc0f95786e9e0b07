/-
  A region that draws its order and whose last operation waits for all the others: what is held of the world need not be held behind that last one.
  Conditions: the last operation waits for all others, and each waits only for earlier ones.
-/
import Derived.Test.YtjefpeppkphgbaaBase
import Derived.Deep.RegionHeld3
namespace Go.Proofs.Ytjefpeppkphgbaa
open Go.RowKit Go.Sort
section
variable {P : Program} {ops : Array Oper} {Q : Exit → Act → World → Prop} {md : Region.Mode} {S : World → Prop}
/-- The operation z is still to come. -/
def afterZ (P : Program) (ops : Array Oper) (Q : Exit → Act → World → Prop) (z : Nat) : Exit → Act → World → Prop
  | .normal, a, w => wpOp P ops Q z (fun a' w' => Q .normal a' w') a w
  | e, a, w => Q e a w
theorem wp_afterZ {z : Nat} {o : Oper} {a : Act} {w : World} {K : Act → World → Prop} (h : o.wp P a w K (afterZ P ops Q z)) : o.wp P a w K Q := by
  unfold Oper.wp at *
  generalize (execOp a.eval o).run P w = r at *
  cases r with
  | ok n w' =>
    cases n <;> simp only [Oper.upon] at h ⊢ <;>
      first
        | exact h
        | exact Calls.mono h (fun e w'' he => by
            cases e with
            | returned v => exact he
            | panicked c => exact he
            | outgrown => obtain ⟨a, w, hq⟩ := he; exact ⟨a, w, hq⟩)
        | exact Rows.mono h (fun _ _ he => he)
  | halt x w' => cases x <;> simp only [Oper.upon] at h ⊢ <;> exact h
theorem wpOp_afterZ {z i : Nat} {a : Act} {w : World} {K : Act → World → Prop} (h : wpOp P ops (afterZ P ops Q z) i K a w) : wpOp P ops Q i K a w := by
  unfold wpOp at *
  split
  · simpa [*] using h
  · rename_i o ho
    simp only [ho] at h
    split
    · rename_i hw
      simp only [hw, if_true] at h
      rcases h with h | ⟨h1, a', w', h2⟩
      · exact .inl (wp_afterZ h)
      · exact .inr ⟨h1, a', w', h2⟩
    · rename_i hw; simp only [hw] at h; exact h
/-- z waits for all others, and each operation waits only for earlier ones. -/
def lastB (md : Region.Mode) (ops : Array Oper) (z : Nat) : Bool :=
  (List.range ops.size).all fun j => (j == z || ((ops[z]?).map fun o => o.after.any fun e => Region.binds md e && e.on == j).getD false) && ((ops[j]?).map fun o => o.after.all fun e => !Region.binds md e || decide (e.on < j)).getD false
theorem mem_ready {listed : Array Bool} {i : Nat} : i ∈ Region.ready md ops listed ↔ i < ops.size ∧ listed.getD i true = false ∧ ∃ o, ops[i]? = some o ∧ ∀ e ∈ o.after, Region.binds md e = true → listed.getD e.on false = true := by
  unfold Region.ready
  simp only [List.mem_filter, List.mem_range, Bool.and_eq_true, Bool.not_eq_true']
  constructor
  · rintro ⟨h1, h2, h3⟩
    refine ⟨h1, h2, ops[i], Array.getElem?_eq_getElem h1, ?_⟩
    rw [Array.getElem?_eq_getElem h1] at h3
    simp only [Option.map_some, Option.getD_some, Array.all_eq_true_iff_forall_mem, Bool.or_eq_true, Bool.not_eq_true'] at h3
    intro e he hb
    rcases h3 e he with h | h
    · rw [hb] at h; simp at h
    · exact h
  · rintro ⟨h1, h2, o, ho, h3⟩
    refine ⟨h1, h2, ?_⟩
    rw [ho]
    simp only [Option.map_some, Option.getD_some, Array.all_eq_true_iff_forall_mem, Bool.or_eq_true, Bool.not_eq_true']
    intro e he
    cases hb : Region.binds md e with
    | false => exact .inl rfl
    | true => exact .inr (h3 e he hb)
theorem getD_set {listed : Array Bool} {i j : Nat} {d : Bool} : (listed.setIfInBounds i true).getD j d = if i = j ∧ j < listed.size then true else listed.getD j d := by
  simp only [Array.getD_eq_getD_getElem?, Array.getElem?_setIfInBounds]
  by_cases h : i = j
  · subst h
    by_cases h2 : i < listed.size <;> simp [h2]
  · simp [h]
theorem wpAny_last {z : Nat} (hz : z < ops.size) (hB : lastB md ops z = true) : ∀ (fuel : Nat) (listed : Array Bool) (a : Act) (w : World), listed.size = ops.size → listed.getD z true = false →
    wpAnyH P md ops (afterZ P ops Q z) S fuel (listed.setIfInBounds z true) a w → wpAny P md ops Q (fuel + 1) listed a w := by
  have hB' := hB
  simp only [lastB, List.all_eq_true, List.mem_range, Bool.and_eq_true, Bool.or_eq_true, beq_iff_eq] at hB'
  have hall : ∀ j, j < ops.size → j ≠ z → ∀ oz, ops[z]? = some oz → ∃ e ∈ oz.after, Region.binds md e = true ∧ e.on = j := fun j hj hne oz hoz => by
    rcases (hB' j hj).1 with h | h
    · exact absurd h hne
    · rw [hoz] at h
      simp only [Option.map_some, Option.getD_some, Array.any_eq_true'] at h
      obtain ⟨e, he, h⟩ := h
      simp only [Bool.and_eq_true, beq_iff_eq] at h
      exact ⟨e, he, h⟩
  have hbef : ∀ j, j < ops.size → ∀ o, ops[j]? = some o → ∀ e ∈ o.after, Region.binds md e = true → e.on < j := fun j hj o ho e he hb => by
    have h := (hB' j hj).2
    rw [ho] at h
    simp only [Option.map_some, Option.getD_some, Array.all_eq_true_iff_forall_mem, Bool.or_eq_true, Bool.not_eq_true', decide_eq_true_eq] at h
    rcases h e he with h | h
    · rw [hb] at h; simp at h
    · exact h
  -- something is ready while z is not listed
  have F1 : ∀ listed : Array Bool, listed.size = ops.size → listed.getD z true = false → Region.ready md ops listed ≠ [] := fun listed hs hzl h0 => by
    have hj : ∀ j, j < ops.size → listed.getD j true = true := fun j => by
      induction j using Nat.strongRecOn with
      | _ j ih =>
        intro hj
        cases hl : listed.getD j true with
        | true => rfl
        | false =>
          exfalso
          have : j ∈ Region.ready md ops listed := mem_ready.2 ⟨hj, hl, ops[j], Array.getElem?_eq_getElem hj, fun e he hb => by
            have h1 := hbef j hj _ (Array.getElem?_eq_getElem hj) e he hb
            have h2 := ih e.on h1 (by omega)
            simp only [Array.getD_eq_getD_getElem?] at h2 ⊢
            rw [Array.getElem?_eq_getElem (by omega)] at h2 ⊢
            exact h2⟩
          rw [h0] at this; simp at this
    rw [hj z hz] at hzl; simp at hzl
  have F2 : ∀ (listed : Array Bool) i, listed.size = ops.size → i ≠ z → i ∈ Region.ready md ops listed → i ∈ Region.ready md ops (listed.setIfInBounds z true) := fun listed i hs hne hi => by
    obtain ⟨h1, h2, o, h3, h4⟩ := mem_ready.1 hi
    refine mem_ready.2 ⟨h1, by rw [getD_set, if_neg (fun h => hne h.1.symm)]; exact h2, o, h3, fun e he hb => ?_⟩
    rw [getD_set]
    split
    · rfl
    · exact h4 e he hb
  have F3 : ∀ listed : Array Bool, listed.size = ops.size → z ∈ Region.ready md ops listed → Region.ready md ops (listed.setIfInBounds z true) = [] := fun listed hs hi => by
    obtain ⟨h1, h2, o, h3, h4⟩ := mem_ready.1 hi
    rw [List.eq_nil_iff_forall_not_mem]
    intro j hj
    obtain ⟨j1, j2, _⟩ := mem_ready.1 hj
    rw [getD_set] at j2
    by_cases hjz : z = j
    · rw [if_pos ⟨hjz, by omega⟩] at j2; simp at j2
    · rw [if_neg (fun h => hjz h.1)] at j2
      obtain ⟨e, he, hb, hon⟩ := hall j j1 (fun h => hjz h.symm) o h3
      have h5 := h4 e he hb
      rw [hon] at h5
      simp only [Array.getD_eq_getD_getElem?] at h5 j2
      rw [Array.getElem?_eq_getElem (by omega)] at h5 j2
      simp at h5 j2
      rw [h5] at j2; simp at j2
  intro fuel
  induction fuel with
  | zero =>
    rintro listed a w hs hzl ⟨hr, hq⟩
    refine ⟨fun h => absurd h (F1 listed hs hzl), fun i hi => ?_⟩
    by_cases hiz : i = z
    · subst hiz
      exact wpOp_mono (fun a' w' h => ⟨F3 listed hs hi, h⟩) hq
    · have := F2 listed i hs hiz hi
      rw [hr] at this; simp at this
  | succ fuel ih =>
    rintro listed a w hs hzl ⟨hr, hq⟩
    refine ⟨fun h => absurd h (F1 listed hs hzl), fun i hi => ?_⟩
    by_cases hiz : i = z
    · subst hiz
      have h0 := F3 listed hs hi
      exact wpOp_mono (fun a' w' h => ⟨fun _ => h, by rw [h0]; simp⟩) (hr h0)
    · have h1 := hq i (F2 listed i hs hiz hi)
      refine wpOp_mono (fun a' w' h => ?_) (wpOp_afterZ h1)
      refine ih (listed.setIfInBounds i true) a' w' (by simp [hs]) (by rw [getD_set, if_neg (fun h => hiz h.1)]; exact hzl) ?_
      rw [Array.setIfInBounds_comm true true hiz]
      exact h.2
theorem afterZ_wp {z : Nat} {o : Oper} {a : Act} {w : World} (ho : ops[z]? = some o) (hw : Region.wanted o (yielded ops a.tmps) = true) (h : o.wp P a w (fun a' w' => Q .normal a' w') Q) : afterZ P ops Q z .normal a w := by
  show wpOp P ops Q z (fun a' w' => Q .normal a' w') a w
  unfold wpOp
  rw [ho]
  simp only [hw, if_true]
  exact .inl h
/-- The region, its last operation apart. -/
theorem wp_region_last {id : Nat} {a : Act} {w : World} (z n : Nat) (hn : ops.size = n + 1) (hz : z < ops.size) (hB : lastB .any ops z = true) (hm : P.follows .mixedOrders = true) (hS : S w.drew)
    (h : S w.drew → wpAnyH P .any ops (afterZ P ops Q z) S n ((Array.replicate ops.size false).setIfInBounds z true) a w.drew) : (Code.region id ops true).wp P Q a w := by
  refine wp_region_any hm ?_
  rw [hn]
  have h2 := h hS
  rw [hn] at h2
  have hz' : z < n + 1 := hn ▸ hz
  exact wpAny_last hz hB n _ a _ (by simp [hn]) (by simp [Array.getD_eq_getD_getElem?, hz']) h2
end
end Go.Proofs.Ytjefpeppkphgbaa
