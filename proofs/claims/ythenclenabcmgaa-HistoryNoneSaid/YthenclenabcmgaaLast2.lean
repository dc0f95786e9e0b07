/-
  A region whose last operation waits for all others, some through one that stands between.
  Conditions: the program follows mixed orders.
-/
import Derived.Test.YthenclenabcmgaaSrch
namespace Go.Proofs.Ythenclenabcmgaa
open Go.RowKit Go.Sort
section
variable {P : Program} {md : Region.Mode} {ops : Array Oper} {Q : Exit → Act → World → Prop} {S : World → Prop}
/-- z waits for j. -/
def waitsB (md : Region.Mode) (ops : Array Oper) (z j : Nat) : Bool := ((ops[z]?).map fun o => o.after.any fun e => Region.binds md e && e.on == j).getD false
/-- z waits for all others at most through one between, and each waits only for earlier ones. -/
def lastB2 (md : Region.Mode) (ops : Array Oper) (z : Nat) : Bool :=
  (List.range ops.size).all fun j => (j == z || waitsB md ops z j || (List.range ops.size).any fun k => !(k == z) && waitsB md ops z k && waitsB md ops k j) && ((ops[j]?).map fun o => o.after.all fun e => !Region.binds md e || decide (e.on < j)).getD false
theorem waitsB_spec {z j : Nat} {oz : Oper} (h : waitsB md ops z j = true) (hoz : ops[z]? = some oz) : ∃ e ∈ oz.after, Region.binds md e = true ∧ e.on = j := by
  unfold waitsB at h
  rw [hoz] at h
  simp only [Option.map_some, Option.getD_some, Array.any_eq_true'] at h
  obtain ⟨e, he, h⟩ := h
  simp only [Bool.and_eq_true, beq_iff_eq] at h
  exact ⟨e, he, h⟩
/-- What is listed has all it waits for listed. -/
def Closed (md : Region.Mode) (ops : Array Oper) (listed : Array Bool) : Prop := ∀ k, listed.getD k false = true → ∀ o, ops[k]? = some o → ∀ e ∈ o.after, Region.binds md e = true → listed.getD e.on false = true
theorem Closed.set {listed : Array Bool} {i : Nat} (h : Closed md ops listed) (hs : listed.size = ops.size) (hi : i ∈ Region.ready md ops listed) : Closed md ops (listed.setIfInBounds i true) := by
  intro k hk o ho e he hb
  obtain ⟨h1, h2, o', h3, h4⟩ := mem_ready.1 hi
  rw [getD_set]
  split
  · rfl
  · rw [getD_set] at hk
    by_cases hki : i = k
    · subst hki
      rw [ho] at h3
      cases h3
      exact h4 e he hb
    · rw [if_neg (fun h => hki h.1)] at hk
      exact h k hk o ho e he hb
theorem wpAny_last2 {z : Nat} (hz : z < ops.size) (hB : lastB2 md ops z = true) : ∀ (fuel : Nat) (listed : Array Bool) (a : Act) (w : World), listed.size = ops.size → listed.getD z true = false → Closed md ops listed →
    wpAnyH P md ops (afterZ P ops Q z) S fuel (listed.setIfInBounds z true) a w → wpAny P md ops Q (fuel + 1) listed a w := by
  have hB' := hB
  simp only [lastB2, List.all_eq_true, List.mem_range, Bool.and_eq_true, Bool.or_eq_true, beq_iff_eq, List.any_eq_true, Bool.not_eq_true'] at hB'
  have hbef : ∀ j, j < ops.size → ∀ o, ops[j]? = some o → ∀ e ∈ o.after, Region.binds md e = true → e.on < j := fun j hj o ho e he hb => by
    have h := (hB' j hj).2
    rw [ho] at h
    simp only [Option.map_some, Option.getD_some, Array.all_eq_true_iff_forall_mem, Bool.or_eq_true, Bool.not_eq_true', decide_eq_true_eq] at h
    rcases h e he with h | h
    · rw [hb] at h; simp at h
    · exact h
  have F1 : ∀ listed : Array Bool, listed.size = ops.size → listed.getD z true = false → Region.ready md ops listed ≠ [] := fun listed hs hzl h0 => by
    have hj : ∀ j, j < ops.size → listed.getD j true = true := fun j => by
      induction j using Nat.strongRecOn with
      | _ j ih =>
        intro hj
        cases hl : listed.getD j true with
        | true => rfl
        | false =>
          exfalso
          have : j ∈ Region.ready md ops listed := mem_ready.2 ⟨hj, hl, ops[j], Array.getElem?_eq_getElem hj, fun e he hb => by
            have h1 := hbef j hj _ (Array.getElem?_eq_getElem hj) e he hb
            have h2 := ih e.on h1 (by omega)
            simp only [Array.getD_eq_getD_getElem?] at h2 ⊢
            rw [Array.getElem?_eq_getElem (by omega)] at h2 ⊢
            exact h2⟩
          rw [h0] at this; simp at this
    rw [hj z hz] at hzl; simp at hzl
  have F2 : ∀ (listed : Array Bool) i, listed.size = ops.size → i ≠ z → i ∈ Region.ready md ops listed → i ∈ Region.ready md ops (listed.setIfInBounds z true) := fun listed i hs hne hi => by
    obtain ⟨h1, h2, o, h3, h4⟩ := mem_ready.1 hi
    refine mem_ready.2 ⟨h1, by rw [getD_set, if_neg (fun h => hne h.1.symm)]; exact h2, o, h3, fun e he hb => ?_⟩
    rw [getD_set]
    split
    · rfl
    · exact h4 e he hb
  have F3 : ∀ listed : Array Bool, listed.size = ops.size → Closed md ops listed → z ∈ Region.ready md ops listed → Region.ready md ops (listed.setIfInBounds z true) = [] := fun listed hs hcl hi => by
    obtain ⟨h1, h2, o, h3, h4⟩ := mem_ready.1 hi
    rw [List.eq_nil_iff_forall_not_mem]
    intro j hj
    obtain ⟨j1, j2, _⟩ := mem_ready.1 hj
    rw [getD_set] at j2
    by_cases hjz : z = j
    · rw [if_pos ⟨hjz, by omega⟩] at j2; simp at j2
    · rw [if_neg (fun h => hjz h.1)] at j2
      have h5 : listed.getD j false = true := by
        rcases (hB' j j1).1 with (h | h) | ⟨k, hk, ⟨hkz, h⟩, h'⟩
        · exact absurd h.symm hjz
        · obtain ⟨e, he, hb, hon⟩ := waitsB_spec h h3
          rw [← hon]; exact h4 e he hb
        · obtain ⟨e, he, hb, hon⟩ := waitsB_spec h h3
          have h6 := h4 e he hb
          rw [hon] at h6
          obtain ⟨e', he', hb', hon'⟩ := waitsB_spec h' (Array.getElem?_eq_getElem hk)
          rw [← hon']; exact hcl k h6 _ (Array.getElem?_eq_getElem hk) e' he' hb'
      simp only [Array.getD_eq_getD_getElem?] at h5 j2
      rw [Array.getElem?_eq_getElem (by omega)] at h5 j2
      simp at h5 j2
      rw [h5] at j2; simp at j2
  intro fuel
  induction fuel with
  | zero =>
    rintro listed a w hs hzl hcl ⟨hr, hq⟩
    refine ⟨fun h => absurd h (F1 listed hs hzl), fun i hi => ?_⟩
    by_cases hiz : i = z
    · subst hiz
      exact wpOp_mono (fun a' w' h => ⟨F3 listed hs hcl hi, h⟩) hq
    · have := F2 listed i hs hiz hi
      rw [hr] at this; simp at this
  | succ fuel ih =>
    rintro listed a w hs hzl hcl ⟨hr, hq⟩
    refine ⟨fun h => absurd h (F1 listed hs hzl), fun i hi => ?_⟩
    by_cases hiz : i = z
    · subst hiz
      have h0 := F3 listed hs hcl hi
      exact wpOp_mono (fun a' w' h => ⟨fun _ => h, by rw [h0]; simp⟩) (hr h0)
    · have h1 := hq i (F2 listed i hs hiz hi)
      refine wpOp_mono (fun a' w' h => ?_) (wpOp_afterZ h1)
      refine ih (listed.setIfInBounds i true) a' w' (by simp [hs]) (by rw [getD_set, if_neg (fun h => hiz h.1)]; exact hzl) (hcl.set hs hi) ?_
      rw [Array.setIfInBounds_comm true true hiz]
      exact h.2
/-- The region, its last operation apart. -/
theorem wp_region_last2 {id : Nat} {a : Act} {w : World} (z n : Nat) (hn : ops.size = n + 1) (hz : z < ops.size) (hB : lastB2 .any ops z = true) (hm : P.follows .mixedOrders = true) (hS : S w.drew)
    (h : S w.drew → wpAnyH P .any ops (afterZ P ops Q z) S n ((Array.replicate ops.size false).setIfInBounds z true) a w.drew) : (Code.region id ops true).wp P Q a w := by
  refine wp_region_any hm ?_
  rw [hn]
  have h2 := h hS
  rw [hn] at h2
  have hz' : z < n + 1 := hn ▸ hz
  refine wpAny_last2 hz hB n _ a _ (by simp [hn]) (by simp [Array.getD_eq_getD_getElem?, hz']) (fun k hk => ?_) h2
  simp only [Array.getD_eq_getD_getElem?, Array.getElem?_replicate] at hk
  by_cases hkn : k < n + 1 <;> simp [hkn] at hk
end
end Go.Proofs.Ythenclenabcmgaa
