/-
  Get and Len of the model and of its reference (28.3).
  Conditions: keys within a process's reach.
-/
import Derived.Test.YthenclenabcmgaaModA
namespace Go.Proofs.Ythenclenabcmgaa
open Go.RowKit Go.Sort
set_option maxHeartbeats 2000000
set_option maxRecDepth 20000

def kpCells (p : Kp) : List Value := [.string p.1, .int .i64 p.2.st, .int .i64 p.2.ow, .string p.2.nm, .int .i64 p.2.dl]
def kpsCells : List Kp → List Value
  | [] => []
  | p :: l => kpCells p ++ kpsCells l
theorem kpsCells_len : ∀ l : List Kp, (kpsCells l).length = l.length * 5
  | [] => rfl
  | p :: l => by rw [kpsCells, List.length_append, kpsCells_len l]; simp [kpCells]; omega
theorem kpsCells_append : ∀ a b : List Kp, kpsCells (a ++ b) = kpsCells a ++ kpsCells b
  | [], _ => rfl
  | p :: a, b => by simp [kpsCells, kpsCells_append a b]
theorem kpsCells_at : ∀ {l : List Kp} {j : Nat} {p : Kp}, l[j]? = some p → (kpsCells l)[j * 5]? = some (.string p.1) ∧ (kpsCells l)[j * 5 + 1]? = some (.int .i64 p.2.st) ∧ (kpsCells l)[j * 5 + 2]? = some (.int .i64 p.2.ow) ∧ (kpsCells l)[j * 5 + 3]? = some (.string p.2.nm) ∧ (kpsCells l)[j * 5 + 4]? = some (.int .i64 p.2.dl)
  | q :: l, 0, p, h => by
    simp only [List.getElem?_cons_zero, Option.some.injEq] at h
    subst h
    simp [kpsCells, kpCells]
  | q :: l, j + 1, p, h => by
    obtain ⟨h1, h2, h3, h4, h5⟩ := kpsCells_at (l := l) (j := j) (p := p) (by simpa using h)
    have e : ∀ i, (kpsCells (q :: l))[(j + 1) * 5 + i]? = (kpsCells l)[j * 5 + i]? := fun i => by
      rw [kpsCells, List.getElem?_append_right (by simp [kpCells]; omega)]
      congr 1
      simp [kpCells]; omega
    exact ⟨(e 0).trans h1, (e 1).trans h2, (e 2).trans h3, (e 3).trans h4, (e 4).trans h5⟩
theorem kps_one (l : List Kp) : ∀ u ∈ kpsCells l, u.oneCell' = true := by
  induction l with
  | nil => simp [kpsCells]
  | cons p l ih =>
    intro u hu
    rw [kpsCells] at hu
    rcases List.mem_append.1 hu with hu | hu
    · simp [kpCells] at hu
      rcases hu with rfl | rfl | rfl | rfl | rfl <;> rfl
    · exact ih u hu
/-- The value is a slice of records with their keys. -/
def KeptAt (w : World) (S : Nat → Prop) (v : Value) (l : List Kp) : Prop := Rd w S 5 v l.length (kpsCells l)
theorem KeptAt.get {w : World} {S : Nat → Prop} {v : Value} {l : List Kp} (h : KeptAt w S v l) {j : Nat} {p : Kp} (hp : l[j]? = some p) :
    ∃ g o c, v = .slice (some ⟨g, o, none⟩) l.length c ∧ l.length ≤ c ∧ c ≤ maxLen ∧ S g ∧ g < w.heap.size ∧
      w.cell? ⟨g, o + j * 5, none⟩ = some (.string p.1) ∧ w.cell? ⟨g, o + j * 5 + 1, none⟩ = some (.int .i64 p.2.st) ∧ w.cell? ⟨g, o + j * 5 + 2, none⟩ = some (.int .i64 p.2.ow) ∧ w.cell? ⟨g, o + j * 5 + 3, none⟩ = some (.string p.2.nm) ∧ w.cell? ⟨g, o + j * 5 + 4, none⟩ = some (.int .i64 p.2.dl) := by
  obtain ⟨g, o, c, h1, h2, h3, h4, h5, h6⟩ := Rd.at_ h (List.getElem?_eq_some_iff.1 hp).1
  obtain ⟨q1, q2, q3, q4, q5⟩ := kpsCells_at hp
  exact ⟨g, o, c, h1, h2, h3, h4, h5, h6 _ _ q1, h6 _ _ q2, h6 _ _ q3, h6 _ _ q4, h6 _ _ q5⟩
theorem KeptAt.shape {w : World} {S : Nat → Prop} {v : Value} {l : List Kp} (h : KeptAt w S v l) : ∃ A c, v = .slice A l.length c := by
  obtain ⟨_, A, c, h, _⟩ := h
  exact ⟨A, c, h⟩
theorem getK_drop {l : List Kp} {k : Nat} {p : Kp} {key : ByteArray} (h : l[k]? = some p) : getK (l.drop k) key = if p.1 = key then p.2 else getK (l.drop (k + 1)) key := by
  rw [drop_at h, getK]
theorem def_rc : (default : Rc) = ⟨0, 0, ⟨#[]⟩, 0⟩ := rfl
/-- The reference's model in block b, its list in blocks of S. -/
structure RModAt (w : World) (S : Nat → Prop) (b : Nat) (cl cap : Int) (l : List Kp) : Prop where
  c0 : w.cell? ⟨b, 0, none⟩ = some (.int .i64 cl)
  c1 : w.cell? ⟨b, 1, none⟩ = some (.int .i64 cap)
  c2 : ∃ v, w.cell? ⟨b, 2, none⟩ = some v ∧ KeptAt w S v l
  fz : ∀ i, w.frozen? ⟨b, i, none⟩ = false
  lt : b < w.heap.size
  nS : ¬ S b
theorem RModAt.chg {S T : Nat → Prop} {w w' : World} {b : Nat} {cl cap : Int} {l : List Kp} (h : RModAt w S b cl cap l) (c : Chg T w w') (hb : ¬ T b) (hS : ∀ k, S k → ¬ T k) : RModAt w' S b cl cap l := by
  obtain ⟨v, h1, h2⟩ := h.c2
  exact ⟨(c.cell (p := ⟨b, 0, none⟩) h.lt hb).trans h.c0, (c.cell (p := ⟨b, 1, none⟩) h.lt hb).trans h.c1, ⟨v, (c.cell (p := ⟨b, 2, none⟩) h.lt hb).trans h1, Rd.chg h2 c hS⟩, fun i => (c.frozen (p := ⟨b, i, none⟩) h.lt hb).trans (h.fz i), Nat.lt_of_lt_of_le h.lt c.size, h.nS⟩
theorem RModAt.ext {S : Nat → Prop} {w w' : World} {b : Nat} {cl cap : Int} {l : List Kp} (h : RModAt w S b cl cap l) (x : Ext w w') : RModAt w' S b cl cap l := h.chg (x.chg (fun _ => False)) (fun h => h) (fun _ _ h => h)
def RNewPost (cl cap : Int) (w : World) (e : Ending) (w' : World) : Prop :=
  (confE cl cap = 3 ∧ e = .returned (.tuple #[.pointer none, .int .i64 3]) ∧ Ext w w') ∨
  (confE cl cap = 0 ∧ ∃ b, e = .returned (.tuple #[.pointer (some ⟨b, 0, none⟩), .int .i64 0]) ∧ RModAt w' (fun _ => False) b cl cap [] ∧ w.heap.size ≤ b ∧ Ext w w')
end Go.Proofs.Ythenclenabcmgaa
