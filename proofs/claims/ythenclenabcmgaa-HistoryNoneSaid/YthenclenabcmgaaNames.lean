/-
  Names in memory; both programs' Sorted tell whether the keys are ascending.
  Conditions: the slice reads as these names.
-/
import Derived.Test.YthenclenabcmgaaReader
import Derived.Test.YthenclenabcmgaaGround
import Derived.Sort.Walk0
namespace Go.Proofs.Ythenclenabcmgaa
open Go.RowKit Go.Sort
set_option maxHeartbeats 2000000
set_option maxRecDepth 10000

def nmCells (n : Nm) : List Value := [.string n.a, .string n.u, .string n.k]
def nmsCells : List Nm → List Value
  | [] => []
  | n :: r => nmCells n ++ nmsCells r
theorem nmsCells_len : ∀ l : List Nm, (nmsCells l).length = l.length * 3
  | [] => rfl
  | n :: r => by rw [nmsCells, List.length_append, nmsCells_len r]; simp [nmCells]; omega
theorem nmsCells_append : ∀ a b : List Nm, nmsCells (a ++ b) = nmsCells a ++ nmsCells b
  | [], _ => rfl
  | n :: r, b => by simp [nmsCells, nmsCells_append r b]
theorem nmsCells_at : ∀ {l : List Nm} {j : Nat} {n : Nm}, l[j]? = some n → (nmsCells l)[j * 3]? = some (.string n.a) ∧ (nmsCells l)[j * 3 + 1]? = some (.string n.u) ∧ (nmsCells l)[j * 3 + 2]? = some (.string n.k)
  | m :: r, 0, n, h => by
    simp only [List.getElem?_cons_zero, Option.some.injEq] at h
    subst h
    simp [nmsCells, nmCells]
  | m :: r, j + 1, n, h => by
    obtain ⟨h1, h2, h3⟩ := nmsCells_at (l := r) (j := j) (n := n) (by simpa using h)
    have hm : (nmCells m).length = 3 := rfl
    have e : ∀ k, (nmsCells (m :: r))[(j + 1) * 3 + k]? = (nmsCells r)[j * 3 + k]? := fun k => by
      rw [nmsCells, List.getElem?_append_right (by omega), hm]
      congr 1; omega
    refine ⟨?_, ?_, ?_⟩
    · have := e 0; simp only [Nat.add_zero] at this; rw [this, h1]
    · rw [e 1, h2]
    · rw [e 2, h3]
theorem nmsCells_one (l : List Nm) : ∀ u ∈ nmsCells l, u.oneCell' = true := by
  induction l with
  | nil => simp [nmsCells]
  | cons n r ih =>
    intro u hu
    rw [nmsCells, List.mem_append] at hu
    rcases hu with hu | hu
    · simp only [nmCells, List.mem_cons, List.not_mem_nil, or_false] at hu
      rcases hu with rfl | rfl | rfl <;> rfl
    · exact ih u hu
/-- The slice v reads as these names. -/
def NmsAt (w : World) (S : Nat → Prop) (v : Value) (l : List Nm) : Prop := Rd w S 3 v l.length (nmsCells l)
theorem NmsAt.get {w : World} {S : Nat → Prop} {v : Value} {l : List Nm} (h : NmsAt w S v l) {j : Nat} (hj : j < l.length) :
    ∃ g o c, v = .slice (some ⟨g, o, none⟩) l.length c ∧ l.length ≤ c ∧ c ≤ maxLen ∧ S g ∧ g < w.heap.size ∧ ∀ i n, l[i]? = some n → w.cell? ⟨g, o + i * 3, none⟩ = some (.string n.a) ∧ w.cell? ⟨g, o + i * 3 + 1, none⟩ = some (.string n.u) ∧ w.cell? ⟨g, o + i * 3 + 2, none⟩ = some (.string n.k) := by
  obtain ⟨g, o, c, h1, h2, h3, h4, h5, h6⟩ := h.at_ hj
  refine ⟨g, o, c, h1, h2, h3, h4, h5, fun i n hi => ?_⟩
  obtain ⟨q1, q2, q3⟩ := nmsCells_at hi
  exact ⟨h6 _ _ q1, by rw [Nat.add_assoc]; exact h6 _ _ q2, by rw [Nat.add_assoc]; exact h6 _ _ q3⟩
theorem NmsAt.ext {w w' : World} {S : Nat → Prop} {v : Value} {l : List Nm} (h : NmsAt w S v l) (x : Ext w w') : NmsAt w' S v l := Rd.ext h x
theorem NmsAt.shape {w : World} {S : Nat → Prop} {v : Value} {l : List Nm} (h : NmsAt w S v l) : ∃ A c, v = .slice A l.length c := by
  obtain ⟨_, A, c, h, _⟩ := h
  exact ⟨A, c, h⟩
def keyOfN (n : Nm) : List UInt8 := n.k.data.toList
theorem srt_iff : ∀ l : List Nm, srt l = true ↔ ∀ i a b, l[i]? = some a → l[i + 1]? = some b → keyOfN a < keyOfN b
  | [] => by simp [srt]
  | [x] => by simp [srt]
  | x :: y :: r => by
    rw [srt, Bool.and_eq_true, decide_eq_true_eq, srt_iff (y :: r)]
    constructor
    · rintro ⟨h1, h2⟩ i a b ha hb
      cases i with
      | zero => simp at ha hb; subst ha hb; exact h1
      | succ i => exact h2 i a b (by simpa using ha) (by simpa using hb)
    · intro h
      exact ⟨h 0 x y rfl rfl, fun i a b ha hb => h (i + 1) a b (by simpa using ha) (by simpa using hb)⟩
theorem less_of {x s : ByteArray} (h : s.data.toList < x.data.toList) : Op.bytesLess x.toList s.toList = false ∧ (x.toList == s.toList) = false := by
  rw [Go.Proofs.bytesLess_eq, ByteArray.toList_eq, ByteArray.toList_eq]
  exact ⟨by simpa using List.le_of_lt h, by simp; intro e; rw [e] at h; exact List.lt_irrefl _ h⟩
theorem less_not {x s : ByteArray} (h : ¬ s.data.toList < x.data.toList) : (Op.bytesLess x.toList s.toList || x.toList == s.toList) = true := by
  rw [Go.Proofs.bytesLess_eq, ByteArray.toList_eq, ByteArray.toList_eq]
  by_cases e : x.data.toList = s.data.toList
  · simp [e]
  · have := lt_of_le_ne (List.not_lt.1 h) e
    simp [this]
theorem sorted_any {S : Nat → Prop} (v : Value) (l : List Nm) (w : World) (hn : NmsAt w S v l) :
    Calls Try.prog 36 #[v] w fun e w' => e = .returned (.bool (srt l)) ∧ Ext w w' := by
  obtain ⟨A, c, rfl⟩ := hn.shape
  have hlm := hn.len
  unfold maxLen at hlm
  have Hn := Lib.hid hn
  clear hn
  go_enter Try.func36, Try.ntmps36
  go_wp2_with fail
  go_loopw [3] (fun o wr => ∃ i : Nat, 1 ≤ i ∧ o = .int .i64 (i : Int) ∧ (∀ j a b, j + 1 < i → l[j]? = some a → l[j + 1]? = some b → keyOfN a < keyOfN b) ∧ (i = 1 ∨ i ≤ l.length) ∧ Ext w wr) (fun o _ => l.length + 1 - (intOf o).toNat)
  case atStart => exact ⟨1, Nat.le_refl _, rfl, fun j a b h => by omega, .inl rfl, Ext.refl _⟩
  case round =>
    obtain ⟨i, hi, rfl, hso, hil, hx⟩ := hrel
    have Hso := Lib.hid hso
    have Hx := Lib.hid hx
    clear hso hx
    by_cases hlt : i < l.length
    · have hd : decide ((i : Int) < (l.length : Int)) = true := by simpa using hlt
      obtain ⟨g, o, c', hv, hc1, hc2, _, hg, hcell⟩ := (Hn.out.ext Hx.out).get (j := i) hlt
      simp only [Value.slice.injEq, true_and] at hv
      obtain ⟨rfl, rfl⟩ := hv
      obtain ⟨a, ha⟩ : ∃ a, l[i - 1]? = some a := ⟨l[i - 1], by simp⟩
      obtain ⟨b, hb⟩ : ∃ b, l[i]? = some b := ⟨l[i], by simp [hlt]⟩
      have c1 := (hcell _ _ ha).2.2
      have c2 := (hcell _ _ hb).2.2
      obtain ⟨p, rfl⟩ : ∃ p, i = p + 1 := ⟨i - 1, by omega⟩
      simp only [Nat.add_sub_cancel] at ha c1
      have q0 : (0 : Int) ≤ (p : Int) := by omega
      have q1 : (p : Int) < (l.length : Int) := by omega
      have q2 : (0 : Int) ≤ ((p + 1 : Nat) : Int) := by omega
      have q3 : ((p + 1 : Nat) : Int) < (l.length : Int) := by omega
      have q4 : IntKind.i64.wrap (((p + 1 : Nat) : Int) - 1) = (p : Int) := by rw [IntWalk.i64_in _ (by omega)]; omega
      have q5 : c ≤ 9223372036854775807 := by unfold maxLen at hc2; omega
      have Ha := Lib.hid ha
      have Hb := Lib.hid hb
      clear hcell ha hb
      by_cases hk : keyOfN a < keyOfN b
      · obtain ⟨f1, f2⟩ := less_of hk
        have Hk := Lib.hid hk
        clear hk
        go_wp2_with fail
        go_region
        go_wp2_with fail
        go_roundw
        case rel =>
          refine ⟨p + 2, by omega, by go_num, fun j x y hj hx hy => ?_, by omega, Hx.out.drew⟩
          by_cases hj2 : j = p
          · subst hj2
            rw [Ha.out] at hx
            rw [Hb.out] at hy
            simp only [Option.some.injEq] at hx hy
            subst hx hy
            exact Hk.out
          · exact Hso.out j x y (by omega) hx hy
        case measure => simp [intOf]; omega
      · have f1 := less_not hk
        have Hno := Lib.hid (show srt l = false from by
          rw [← Bool.not_eq_true, srt_iff]
          intro h
          exact hk (h p a b Ha.out Hb.out))
        clear hk
        go_wp2_with fail
        go_region
        go_wp2_with fail
        go_ret
        exact ⟨by rw [Hno.out]; rfl, Hx.out.drew⟩
    · have hd : decide ((i : Int) < (l.length : Int)) = false := by simp; omega
      have Hall := Lib.hid (show srt l = true from (srt_iff l).2 fun j a b ha hb => Hso.out j a b (by have := (List.getElem?_eq_some_iff.1 hb).1; omega) ha hb)
      go_wp2_with fail
      go_ret
      exact ⟨by rw [Hall.out]; rfl, Hx.out⟩
end Go.Proofs.Ythenclenabcmgaa
