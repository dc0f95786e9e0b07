/-
  The plain law of the reference's list of records (ascending keys) beside a map as it reads.
  Conditions: none.
-/
import Derived.Test.YtjefpeppkphgbaaSoon
import Derived.Test.YtjefpeppkphgbaaAsc
import Derived.Maps.OwnSet
namespace Go.Proofs.Ytjefpeppkphgbaa
open Go.Maps (Tidy IsMap)

abbrev Kp := ByteArray × Rc
def kb (k : ByteArray) : List UInt8 := k.data.toList
theorem kb_inj {a b : ByteArray} (h : kb a = kb b) : a = b := ByteArray.ext (Array.ext' h)
theorem kb_tri {a b : ByteArray} (h : a ≠ b) : kb a < kb b ∨ kb b < kb a := by
  rcases List.le_total (kb a) (kb b) with h1 | h1
  · exact .inl (lt_of_le_ne h1 fun e => h (kb_inj e))
  · exact .inr (lt_of_le_ne h1 fun e => h (kb_inj e).symm)
theorem kb_lt_ne {a b : ByteArray} (h : kb a < kb b) : a ≠ b := fun e => by subst e; exact List.lt_irrefl _ h
theorem kb_asymm {a b : ByteArray} (h : kb a < kb b) : ¬ kb b < kb a := fun g => List.lt_irrefl _ (List.lt_trans h g)
def getK : List Kp → ByteArray → Rc
  | [], _ => default
  | p :: l, k => if p.1 = k then p.2 else getK l k
def putGo (k : ByteArray) (r : Rc) : Bool → List Kp → List Kp
  | true, [] => []
  | false, [] => [(k, r)]
  | d, p :: l => if p.1 = k then putGo k r d l else if d = false ∧ kb k < kb p.1 then (k, r) :: p :: putGo k r true l else p :: putGo k r d l
def putK (l : List Kp) (k : ByteArray) (r : Rc) : List Kp := putGo k r (r.st == 0) l
def AscP (l : List Kp) : Prop := l.Pairwise (fun a b => kb a.1 < kb b.1)
theorem mem_putGo {k : ByteArray} {r : Rc} {p : Kp} : ∀ {l : List Kp} {d : Bool}, p ∈ putGo k r d l ↔ (p ∈ l ∧ p.1 ≠ k) ∨ (d = false ∧ p = (k, r))
  | [], true => by simp [putGo]
  | [], false => by simp [putGo]
  | q :: l, d => by
    rw [putGo]
    split
    · rename_i hq
      rw [mem_putGo]
      constructor
      · rintro (⟨h1, h2⟩ | h)
        · exact .inl ⟨List.mem_cons_of_mem _ h1, h2⟩
        · exact .inr h
      · rintro (⟨h1, h2⟩ | h)
        · rcases List.mem_cons.1 h1 with h1 | h1
          · subst h1; exact absurd hq h2
          · exact .inl ⟨h1, h2⟩
        · exact .inr h
    · rename_i hq
      split
      · rename_i hd
        simp only [List.mem_cons, mem_putGo (d := true), Bool.true_eq_false, false_and, or_false]
        constructor
        · rintro (h | h | ⟨h1, h2⟩)
          · exact .inr ⟨hd.1, h⟩
          · subst h; exact .inl ⟨.inl rfl, hq⟩
          · exact .inl ⟨.inr h1, h2⟩
        · rintro (⟨h1 | h1, h2⟩ | ⟨_, h⟩)
          · exact .inr (.inl h1)
          · exact .inr (.inr ⟨h1, h2⟩)
          · exact .inl h
      · simp only [List.mem_cons, mem_putGo (d := d)]
        constructor
        · rintro (h | ⟨h1, h2⟩ | h)
          · subst h; exact .inl ⟨.inl rfl, hq⟩
          · exact .inl ⟨.inr h1, h2⟩
          · exact .inr h
        · rintro (⟨h1 | h1, h2⟩ | h)
          · exact .inl h1
          · exact .inr (.inl ⟨h1, h2⟩)
          · exact .inr (.inr h)
theorem asc_putGo {k : ByteArray} {r : Rc} : ∀ {l : List Kp} {d : Bool}, AscP l → AscP (putGo k r d l)
  | [], true, _ => by simp [putGo, AscP]
  | [], false, _ => by simp [putGo, AscP]
  | q :: l, d, h => by
    obtain ⟨h1, h2⟩ := List.pairwise_cons.1 h
    rw [putGo]
    split
    · exact asc_putGo h2
    · rename_i hq
      split
      · rename_i hd
        refine List.pairwise_cons.2 ⟨fun p hp => ?_, List.pairwise_cons.2 ⟨fun p hp => ?_, asc_putGo h2⟩⟩
        · rcases List.mem_cons.1 hp with hp | hp
          · subst hp; exact hd.2
          · rcases mem_putGo.1 hp with ⟨hp, _⟩ | ⟨hf, _⟩
            · exact List.lt_trans hd.2 (h1 p hp)
            · simp at hf
        · rcases mem_putGo.1 hp with ⟨hp, _⟩ | ⟨hf, _⟩
          · exact h1 p hp
          · simp at hf
      · rename_i hd
        refine List.pairwise_cons.2 ⟨fun p hp => ?_, asc_putGo h2⟩
        rcases mem_putGo.1 hp with ⟨hp, _⟩ | ⟨hf, hp⟩
        · exact h1 p hp
        · subst hp
          rcases kb_tri hq with hl | hl
          · exact hl
          · exact absurd ⟨hf, hl⟩ hd
theorem get_putGo_same {k : ByteArray} {r : Rc} : ∀ {l : List Kp} {d : Bool}, getK (putGo k r d l) k = if d then default else r
  | [], true => by simp [putGo, getK]
  | [], false => by simp [putGo, getK]
  | q :: l, d => by
    rw [putGo]
    split
    · exact get_putGo_same
    · rename_i hq
      split
      · rename_i hd; simp [getK, hd.1]
      · rw [getK, if_neg hq]; exact get_putGo_same
theorem get_putGo_other {k k' : ByteArray} {r : Rc} (hne : k' ≠ k) : ∀ {l : List Kp} {d : Bool}, getK (putGo k r d l) k' = getK l k'
  | [], true => by simp [putGo, getK]
  | [], false => by simp [putGo, getK, Ne.symm hne]
  | q :: l, d => by
    rw [putGo]
    split
    · rename_i hq; rw [get_putGo_other hne, getK, if_neg (by rw [hq]; exact fun e => hne e.symm)]
    · rename_i hq
      split
      · rw [getK, if_neg (fun e => hne e.symm), getK, getK]
        split
        · rfl
        · exact get_putGo_other hne
      · rw [getK, getK]
        split
        · rfl
        · exact get_putGo_other hne
theorem len_putGo {k : ByteArray} {r : Rc} : ∀ {l : List Kp} {d : Bool}, AscP l → (putGo k r d l).length + (if ∃ p ∈ l, p.1 = k then 1 else 0) = l.length + (if d then 0 else 1)
  | [], true, _ => by simp [putGo]
  | [], false, _ => by simp [putGo]
  | q :: l, d, h => by
    obtain ⟨h1, h2⟩ := List.pairwise_cons.1 h
    have ih := fun d => len_putGo (k := k) (r := r) (d := d) h2
    rw [putGo]
    split
    · rename_i hq
      have hno : ¬ ∃ p ∈ l, p.1 = k := by
        rintro ⟨p, hp, e⟩
        have := h1 p hp
        rw [e, hq] at this
        exact List.lt_irrefl _ this
      have := ih d
      rw [if_neg hno] at this
      rw [if_pos ⟨q, by simp, hq⟩]
      simp only [List.length_cons]
      omega
    · rename_i hq
      have hiff : (∃ p ∈ q :: l, p.1 = k) ↔ ∃ p ∈ l, p.1 = k := by simp [hq]
      split
      · rename_i hd
        have := ih true
        simp only [hiff, List.length_cons, hd.1] at *
        simp at this ⊢
        omega
      · have := ih d
        simp only [hiff, List.length_cons] at *
        omega
/-- How a record reads. -/
def rcD (r : Rc) : DataW Unit := .agg [.lit (.int .i64 r.st), .lit (.int .i64 r.ow), .lit (.string r.nm.data.toList), .lit (.int .i64 r.dl)]
theorem rcD_inj {a b : Rc} (h : rcD a = rcD b) : a = b := by
  obtain ⟨a1, a2, a3, a4⟩ := a
  obtain ⟨b1, b2, b3, b4⟩ := b
  simp only [rcD, DataW.agg.injEq, List.cons.injEq, DataW.lit.injEq, Lit.int.injEq, Lit.string.injEq, true_and, and_true] at h
  obtain ⟨h1, h2, h3, h4⟩ := h
  have := kb_inj h3
  subst h1 h2 this h4
  rfl
theorem key_lit (k : ByteArray) : WideAt.IsKeyLit (.string (kb k)) := by simp [WideAt.IsKeyLit]
/-- The map reads as this list. -/
structure MapIs (D : DataW Unit) (l : List Kp) : Prop where
  tidy : Tidy D
  asc : AscP l
  get : ∀ k, D.atKey (.string (kb k)) (rcD default) = rcD (getK l k)
  has : ∀ k, Maps.has D (.string (kb k)) = true ↔ ∃ p ∈ l, p.1 = k
  size : Maps.size D = l.length
theorem MapIs.empty : MapIs (.map []) [] := ⟨Maps.tidy_empty, List.Pairwise.nil, fun _ => rfl, fun k => by simp [Maps.has], rfl⟩
theorem lit_ne {k k' : ByteArray} (h : k' ≠ k) : (Lit.string (kb k')) ≠ .string (kb k) := fun e => by
  simp only [Lit.string.injEq] at e
  exact h (kb_inj e)
theorem MapIs.put {D : DataW Unit} {l : List Kp} (h : MapIs D l) (k : ByteArray) (r : Rc) (hr : r.st ≠ 0) : MapIs (D.put (.string (kb k)) (rcD r)) (putK l k r) := by
  have hd : (r.st == 0) = false := by simpa using hr
  unfold putK
  rw [hd]
  have hm := h.tidy.isMap
  refine ⟨h.tidy.put (key_lit k) _, asc_putGo h.asc, fun k' => ?_, fun k' => ?_, ?_⟩
  · by_cases hk : k' = k
    · subst hk
      rw [Maps.atKey_put_same hm (key_lit k'), get_putGo_same]; simp
    · rw [Maps.atKey_put_other (lit_ne hk), h.get, get_putGo_other hk]
  · by_cases hk : k' = k
    · subst hk
      rw [Maps.has_put_same hm (key_lit k')]
      simp only [true_iff]
      exact ⟨(k', r), mem_putGo.2 (.inr ⟨rfl, rfl⟩), rfl⟩
    · rw [Maps.has_put_other (lit_ne hk), h.has]
      constructor
      · rintro ⟨p, hp, e⟩; exact ⟨p, mem_putGo.2 (.inl ⟨hp, by rw [e]; exact hk⟩), e⟩
      · rintro ⟨p, hp, e⟩
        rcases mem_putGo.1 hp with ⟨hp, _⟩ | ⟨_, hp⟩
        · exact ⟨p, hp, e⟩
        · subst hp; exact absurd e.symm hk
  · rw [Maps.size_put h.tidy, h.size]
    have := len_putGo (k := k) (r := r) (d := false) h.asc
    have hh := h.has k
    cases hb : Maps.has D (.string (kb k)) with
    | true => rw [if_pos (hh.1 hb)] at this; simp at this ⊢; omega
    | false => rw [if_neg (fun e => by rw [hh.2 e] at hb; simp at hb)] at this; simp at this ⊢; omega
theorem MapIs.del {D : DataW Unit} {l : List Kp} (h : MapIs D l) (k : ByteArray) (r : Rc) (hr : r.st = 0) : MapIs (D.del (.string (kb k))) (putK l k r) := by
  have hd : (r.st == 0) = true := by simpa using hr
  unfold putK
  rw [hd]
  refine ⟨h.tidy.del _, asc_putGo h.asc, fun k' => ?_, fun k' => ?_, ?_⟩
  · by_cases hk : k' = k
    · subst hk
      rw [Maps.atKey_del_same, get_putGo_same]; simp
    · rw [Maps.atKey_del_other (lit_ne hk), h.get, get_putGo_other hk]
  · by_cases hk : k' = k
    · subst hk
      rw [Maps.has_del_same]
      simp only [Bool.false_eq_true, false_iff]
      rintro ⟨p, hp, e⟩
      rcases mem_putGo.1 hp with ⟨_, hp⟩ | ⟨hf, _⟩
      · exact hp e
      · simp at hf
    · rw [Maps.has_del_other (lit_ne hk), h.has]
      constructor
      · rintro ⟨p, hp, e⟩; exact ⟨p, mem_putGo.2 (.inl ⟨hp, by rw [e]; exact hk⟩), e⟩
      · rintro ⟨p, hp, e⟩
        rcases mem_putGo.1 hp with ⟨hp, _⟩ | ⟨_, hp⟩
        · exact ⟨p, hp, e⟩
        · subst hp; exact absurd e.symm hk
  · have hs := Maps.size_del (k := .string (kb k)) h.tidy
    have := len_putGo (k := k) (r := r) (d := true) h.asc
    have hh := h.has k
    rw [h.size] at hs
    cases hb : Maps.has D (.string (kb k)) with
    | true => rw [if_pos (hh.1 hb)] at this; rw [hb] at hs; simp at this hs ⊢; omega
    | false => rw [if_neg (fun e => by rw [hh.2 e] at hb; simp at hb)] at this; rw [hb] at hs; simp at this hs ⊢; omega
end Go.Proofs.Ytjefpeppkphgbaa
