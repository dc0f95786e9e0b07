/-
  The search for an order (32.5), as a law on lists. No program.
  Conditions: none.
-/
import Derived.Test.YthenclenabcmgaaEarly
namespace Go.Proofs.Ythenclenabcmgaa

/-- What extend leaves: whether it has found an order, whether the budget broke it off, the steps left, the order. -/
structure Sx where
  found : Bool
  broken : Bool
  left : Nat
  ord : List Nat
def explB (cl cp : Int) (os : List Opn) (ord : List Nat) : Bool := (runO cl cp os ord ([], 0, true)).isNone
/-- The candidates, one after the other. -/
def tryL (cl cp : Int) (os : List Opn) (rec : Nat → List Nat → Sx) : List Nat → Nat → List Nat → Sx
  | [], left, ord => ⟨false, false, left, ord⟩
  | i :: c, left, ord =>
    if ord.contains i then tryL cl cp os rec c left ord
    else if left = 0 then ⟨false, true, 0, ord⟩
    else if earlyB os ord i then tryL cl cp os rec c (left - 1) ord
    else if explB cl cp os (ord ++ [i]) then
      (if (rec (left - 1) (ord ++ [i])).found || (rec (left - 1) (ord ++ [i])).broken then rec (left - 1) (ord ++ [i]) else tryL cl cp os rec c (rec (left - 1) (ord ++ [i])).left ord)
    else tryL cl cp os rec c (left - 1) ord
/-- The order is extended by d operations more. -/
def extL (cl cp : Int) (os : List Opn) : Nat → Nat → List Nat → Sx
  | 0, left, ord => ⟨true, false, left, ord⟩
  | d + 1, left, ord => tryL cl cp os (extL cl cp os d) (List.range os.length) left ord
def searchL (cl cp : Int) (os : List Opn) (budget : Int) : List Nat × Int × Int :=
  if (checkL cl cp os).2 ≠ 0 then ([], 0, (checkL cl cp os).2)
  else if (os.any fun o => o.ans == -1) = true then ([], 0, 26)
  else if budget < 1 ∨ 1048576 < budget then ([], 0, 3)
  else if (extL cl cp os os.length budget.toNat []).broken then ([], 0, 28)
  else if (extL cl cp os os.length budget.toNat []).found then ((extL cl cp os os.length budget.toNat []).ord, budget - (extL cl cp os os.length budget.toNat []).left, 0)
  else ([], budget - (extL cl cp os os.length budget.toNat []).left, 23)
theorem tryL_in {cl cp : Int} {os : List Opn} {rec : Nat → List Nat → Sx} {i : Nat} {c : List Nat} {left : Nat} {ord : List Nat} (h : ord.contains i = true) : tryL cl cp os rec (i :: c) left ord = tryL cl cp os rec c left ord := by
  rw [tryL, if_pos h]
theorem tryL_broke {cl cp : Int} {os : List Opn} {rec : Nat → List Nat → Sx} {i : Nat} {c : List Nat} {ord : List Nat} (h : ord.contains i = false) : tryL cl cp os rec (i :: c) 0 ord = ⟨false, true, 0, ord⟩ := by
  rw [tryL, if_neg (by rw [h]; simp), if_pos rfl]
theorem tryL_early {cl cp : Int} {os : List Opn} {rec : Nat → List Nat → Sx} {i : Nat} {c : List Nat} {left : Nat} {ord : List Nat} (h : ord.contains i = false) (he : earlyB os ord i = true) : tryL cl cp os rec (i :: c) (left + 1) ord = tryL cl cp os rec c left ord := by
  rw [tryL, if_neg (by rw [h]; simp), if_neg (by omega), if_pos he, Nat.add_sub_cancel]
theorem tryL_not {cl cp : Int} {os : List Opn} {rec : Nat → List Nat → Sx} {i : Nat} {c : List Nat} {left : Nat} {ord : List Nat} (h : ord.contains i = false) (he : earlyB os ord i = false) (hx : explB cl cp os (ord ++ [i]) = false) : tryL cl cp os rec (i :: c) (left + 1) ord = tryL cl cp os rec c left ord := by
  rw [tryL, if_neg (by rw [h]; simp), if_neg (by omega), if_neg (by rw [he]; simp), if_neg (by rw [hx]; simp), Nat.add_sub_cancel]
theorem tryL_end {cl cp : Int} {os : List Opn} {rec : Nat → List Nat → Sx} {i : Nat} {c : List Nat} {left : Nat} {ord : List Nat} (h : ord.contains i = false) (he : earlyB os ord i = false) (hx : explB cl cp os (ord ++ [i]) = true) (hr : (rec left (ord ++ [i])).found = true ∨ (rec left (ord ++ [i])).broken = true) :
    tryL cl cp os rec (i :: c) (left + 1) ord = rec left (ord ++ [i]) := by
  rw [tryL, if_neg (by rw [h]; simp), if_neg (by omega), if_neg (by rw [he]; simp), if_pos hx, Nat.add_sub_cancel, if_pos (by rcases hr with hr | hr <;> simp [hr])]
theorem tryL_back {cl cp : Int} {os : List Opn} {rec : Nat → List Nat → Sx} {i : Nat} {c : List Nat} {left : Nat} {ord : List Nat} (h : ord.contains i = false) (he : earlyB os ord i = false) (hx : explB cl cp os (ord ++ [i]) = true) (h1 : (rec left (ord ++ [i])).found = false) (h2 : (rec left (ord ++ [i])).broken = false) :
    tryL cl cp os rec (i :: c) (left + 1) ord = tryL cl cp os rec c (rec left (ord ++ [i])).left ord := by
  rw [tryL, if_neg (by rw [h]; simp), if_neg (by omega), if_neg (by rw [he]; simp), if_pos hx, Nat.add_sub_cancel, if_neg (by simp [h1, h2])]
end Go.Proofs.Ythenclenabcmgaa
