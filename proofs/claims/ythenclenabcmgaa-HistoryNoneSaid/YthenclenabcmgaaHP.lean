/-
  Check of histories as a law on lists (32.1). No program.
  Conditions: none.
-/
import Derived.Test.YthenclenabcmgaaOrdP
import Derived.Test.YthenclenabcmgaaModA
namespace Go.Proofs.Ythenclenabcmgaa
/-- The last operation of a client before the place i. -/
def lastOf (os : List Opn) : Nat → Int → Option Opn
  | 0, _ => none
  | i + 1, c => match os[i]? with | some o => if o.cl = c then some o else lastOf os i c | none => lastOf os i c
def lastAns (os : List Opn) (i : Nat) (c : Int) : Option Int := (lastOf os i c).map Opn.ans
def seenD (os : List Opn) (i : Nat) (d : Int) : Bool := (os.take i).any fun o => o.dec == d
def begB (os : List Opn) (i : Nat) (o : Opn) : Bool := match os[i - 1]? with | some p => decide (0 < i) && decide (o.begun ≤ p.begun) | none => false
def lateB (os : List Opn) (i : Nat) (o : Opn) : Bool := match lastAns os i o.cl with | some a => a == -1 || decide (o.begun ≤ a) | none => false
/-- The operation at the place i is consistent with those before it. -/
def okAt (cl : Int) (os : List Opn) (i : Nat) : Bool := match os[i]? with | some o => consB cl o && !begB os i o && !(o.dec != -1 && seenD os i o.dec) && !lateB os i o | none => true
def checkL (cl cp : Int) (os : List Opn) : Int × Int :=
  if confE cl cp ≠ 0 then (0, confE cl cp) else if 4096 < os.length then (0, 7) else match (List.range os.length).find? (fun i => !okAt cl os i) with | some i => ((i : Int), 4) | none => (0, 0)
theorem find_range_some {p : Nat → Bool} {n i : Nat} (hi : i < n) (hp : p i = true) (hb : ∀ j, j < i → p j = false) : (List.range n).find? p = some i := by
  have e : List.range n = List.range i ++ (i :: (List.range' (i + 1) (n - i - 1))) := by
    rw [List.range_eq_range', List.range_eq_range', ← List.range'_succ, show n = i + (n - i) by omega]
    rw [← List.range'_append_1]
    simp only [Nat.zero_add, Nat.add_sub_cancel_left]
    congr 2
    omega
  rw [e, List.find?_append]
  have h1 : (List.range i).find? p = none := by
    rw [List.find?_eq_none]
    intro x hx
    rw [hb x (List.mem_range.1 hx)]; simp
  rw [h1]
  simp [hp]
theorem checkL_bad {cl cp : Int} {os : List Opn} (hc : confE cl cp = 0) (hl : ¬ 4096 < os.length) {i : Nat} (hi : i < os.length) (hb : okAt cl os i = false) (ho : ∀ j, j < i → okAt cl os j = true) : checkL cl cp os = ((i : Int), 4) := by
  unfold checkL
  rw [if_neg (by omega), if_neg hl, find_range_some hi (by rw [hb]; rfl) (fun j hj => by rw [ho j hj]; rfl)]
theorem checkL_good {cl cp : Int} {os : List Opn} (hc : confE cl cp = 0) (hl : ¬ 4096 < os.length) (ho : ∀ j, j < os.length → okAt cl os j = true) : checkL cl cp os = (0, 0) := by
  unfold checkL
  rw [if_neg (by omega), if_neg hl]
  have : (List.range os.length).find? (fun i => !okAt cl os i) = none := by
    rw [List.find?_eq_none]
    intro x hx
    rw [ho x (List.mem_range.1 hx)]; simp
  rw [this]
theorem seenD_next (os : List Opn) {i : Nat} {o : Opn} (h : os[i]? = some o) (d : Int) : seenD os (i + 1) d = true ↔ d = o.dec ∨ seenD os i d = true := by
  unfold seenD
  rw [List.take_add_one, h, List.any_append]
  simp only [Option.toList_some, List.any_cons, List.any_nil, Bool.or_false, Bool.or_eq_true, beq_iff_eq]
  constructor
  · rintro (h | h)
    · exact .inr h
    · exact .inl h.symm
  · rintro (h | h)
    · exact .inr h.symm
    · exact .inl h
theorem lastAns_next (os : List Opn) {i : Nat} {o : Opn} (h : os[i]? = some o) (c : Int) : lastAns os (i + 1) c = if o.cl = c then some o.ans else lastAns os i c := by
  have e : lastOf os (i + 1) c = if o.cl = c then some o else lastOf os i c := by
    show (match os[i]? with | some o => if o.cl = c then some o else lastOf os i c | none => lastOf os i c) = _
    rw [h]
  unfold lastAns
  rw [e]
  by_cases hc : o.cl = c
  · rw [if_pos hc, if_pos hc]; rfl
  · rw [if_neg hc, if_neg hc]
end Go.Proofs.Ythenclenabcmgaa
