/-
  A replay of no operations; the operations of an order performed one after the other, as a law (32.4).
  Conditions: as named.
-/
import Derived.Test.YthenclenabcmgaaPerf
import Derived.Test.YthenclenabcmgaaDoLaw
namespace Go.Proofs.Ythenclenabcmgaa
open Go.RowKit Go.Sort
set_option maxHeartbeats 8000000
set_option maxRecDepth 100000

theorem start_any (cl cp : Int) (hc : confE cl cp = 0) (w : World) : Calls Try.prog 20 #[.agg #[.int .i64 cl, .int .i64 cp]] w fun e w' =>
    ∃ rb b m, e = .returned (.pointer (some ⟨rb, 0, none⟩)) ∧ RepAt w' rb b m cl cp [] 0 ∧ w.heap.size ≤ rb ∧ w.heap.size ≤ m ∧ Ext w w' := by
  have x0 : Ext w (w.alloc (.cells #[.int .i64 cl, .int .i64 cp] 37)) := (Ext.refl w).alloc _
  have X0 := Lib.hid x0
  clear x0
  go_enter Try.func20, Try.ntmps20
  go_wp2_with fail
  refine (mnew_any cl cp _).mono ?_
  rintro x w1 (⟨h0, _⟩ | ⟨_, b, m, rfl, hmod, hb, hm, hx1⟩)
  · omega
  have hs := X0.out.size
  have hbl := hmod.lt
  have hml := hmod.map.lt
  have HM := Lib.hid hmod
  have HX := Lib.hid (X0.out.trans hx1)
  have Hb := Lib.hid hb
  have Hm := Lib.hid hm
  clear hmod hx1 hb hm
  go_wp2_with fail
  go_ret
  refine ⟨w1.heap.size, b, m, rfl, ⟨by go_simp, by go_simp, by simp, by omega, by omega, by go_simp, HM.out.ext ((Ext.refl _).alloc _)⟩, HX.out.size, Nat.le_trans hs Hm.out, HX.out.alloc _⟩

/-- The records, the tick, and whether no tick was read so far. -/
abbrev RSt := List Kp × Int × Bool
def tickS (st : RSt) (o : Opn) : Int := if st.2.2 = true ∧ o.bad.e = 0 then o.res.tick else st.2.1
def firstS' (st : RSt) (o : Opn) : Bool := if st.2.2 = true ∧ o.bad.e = 0 then false else st.2.2
def stepL (cl cp : Int) (st : RSt) (o : Opn) : Int × RSt := ((perfL cl cp st.1 (tickS st o) o).1, (perfL cl cp st.1 (tickS st o) o).2.1, (perfL cl cp st.1 (tickS st o) o).2.2, firstS' st o)
/-- The first operation of an order that is not explained, and its error. -/
def runO (cl cp : Int) (os : List Opn) : List Nat → RSt → Option (Nat × Int)
  | [], _ => none
  | i :: r, st => match os[i]? with
    | some o => if (stepL cl cp st o).1 ≠ 0 then some (i, (stepL cl cp st o).1) else runO cl cp os r (stepL cl cp st o).2
    | none => none
/-- The state behind the first operations of an order. -/
def stO (cl cp : Int) (os : List Opn) (l : List Nat) (st : RSt) : RSt := l.foldl (fun st i => match os[i]? with | some o => (stepL cl cp st o).2 | none => st) st
theorem stO_next {cl cp : Int} {os : List Opn} {l : List Nat} {st : RSt} {k i : Nat} {o : Opn} (hi : l[k]? = some i) (ho : os[i]? = some o) : stO cl cp os (l.take (k + 1)) st = (stepL cl cp (stO cl cp os (l.take k) st) o).2 := by
  unfold stO
  rw [List.take_add_one, hi, Option.toList_some, List.foldl_append]
  simp [ho]
theorem runO_from {cl cp : Int} {os : List Opn} : ∀ {l : List Nat} {st : RSt} {k : Nat}, (∀ j, j < k → ∀ i o, l[j]? = some i → os[i]? = some o → (stepL cl cp (stO cl cp os (l.take j) st) o).1 = 0) → (∀ i ∈ l, ∃ o, os[i]? = some o) → runO cl cp os l st = runO cl cp os (l.drop k) (stO cl cp os (l.take k) st)
  | l, st, 0, _, _ => by simp [stO]
  | [], st, k + 1, _, _ => by simp [stO]
  | i :: r, st, k + 1, h, hm => by
    obtain ⟨o, ho⟩ := hm i (List.mem_cons_self ..)
    have h0 := h 0 (by omega) i o rfl ho
    simp only [List.take_zero, stO, List.foldl_nil] at h0
    rw [runO, ho]
    simp only [h0, ne_eq, not_true_eq_false, if_false, List.drop_succ_cons]
    have e : stO cl cp os ((i :: r).take (k + 1)) st = stO cl cp os (r.take k) (stepL cl cp st o).2 := by simp [stO, ho]
    rw [e]
    refine runO_from (l := r) (st := (stepL cl cp st o).2) (k := k) (fun j hj i' o' h1 h2 => ?_) fun x hx => hm x (List.mem_cons_of_mem _ hx)
    have := h (j + 1) (by omega) i' o' (by simpa using h1) h2
    rwa [show stO cl cp os ((i :: r).take (j + 1)) st = stO cl cp os (r.take j) (stepL cl cp st o).2 by simp [stO, ho]] at this
theorem runO_hit {cl cp : Int} {os : List Opn} {l : List Nat} {st : RSt} {k i : Nat} {o : Opn} (h : ∀ j, j < k → ∀ i o, l[j]? = some i → os[i]? = some o → (stepL cl cp (stO cl cp os (l.take j) st) o).1 = 0) (hm : ∀ i ∈ l, ∃ o, os[i]? = some o) (hi : l[k]? = some i) (ho : os[i]? = some o) (he : (stepL cl cp (stO cl cp os (l.take k) st) o).1 ≠ 0) :
    runO cl cp os l st = some (i, (stepL cl cp (stO cl cp os (l.take k) st) o).1) := by
  rw [runO_from h hm]
  have : l.drop k = i :: l.drop (k + 1) := drop_at hi
  rw [this, runO, ho]
  simp only [if_pos he]
theorem runO_end {cl cp : Int} {os : List Opn} {l : List Nat} {st : RSt} (h : ∀ j, j < l.length → ∀ i o, l[j]? = some i → os[i]? = some o → (stepL cl cp (stO cl cp os (l.take j) st) o).1 = 0) (hm : ∀ i ∈ l, ∃ o, os[i]? = some o) : runO cl cp os l st = none := by
  rw [runO_from h hm, List.drop_length]
  rfl
end Go.Proofs.Ythenclenabcmgaa
