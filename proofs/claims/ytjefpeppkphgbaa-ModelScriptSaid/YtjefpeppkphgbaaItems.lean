/-
  Plain law of the journal: entries, their encoding, and what is read at the beginning of a journal.
-/
import Derived.Test.YtjefpeppkphgbaaCode
import Derived.Test.YtjefpeppkphgbaaSum
namespace Go.Proofs.Ytjefpeppkphgbaa

structure Nm where
  a : ByteArray
  u : ByteArray
  k : ByteArray
structure Ent where
  cl : Int
  op : Int
  ttl : Int
  tick : Int
  names : List Nm
def timedB (op : Int) : Bool := op == 1 || op == 3
/-- Adjacent keys are ascending. -/
def srt : List Nm → Bool
  | [] => true
  | [_] => true
  | x :: y :: r => decide (x.k.data.toList < y.k.data.toList) && srt (y :: r)
def rangeB (e : Ent) : Bool :=
  decide (0 ≤ e.cl) && decide (e.cl ≤ 63) && decide (1 ≤ e.op) && decide (e.op ≤ 6) && (if timedB e.op then decide (1 ≤ e.ttl) && decide (e.ttl ≤ 1073741824) else e.ttl == 0) && decide (0 ≤ e.tick) && decide (e.tick ≤ 1073741824) && decide (1 ≤ e.names.length) && decide (e.names.length ≤ 16)
def asciiB (n : Nm) : Bool := decide (1 ≤ n.a.size) && decide (n.a.size ≤ 63)
/-- The error of an entry. -/
def checkE (e : Ent) : Int := if !rangeB e then 3 else if !srt e.names then 1 else if e.names.all asciiB then 0 else 1
/-- The sum of bytes. -/
def sumB (l : List UInt8) : Nat := (sumI (bs l)).toNat
theorem sumB_lt (l : List UInt8) : sumB l < 4294967296 := by
  have := sumI_bd (bs l)
  unfold sumB; omega
theorem sumB_int (s : ByteArray) : ((sumB s.data.toList : Nat) : Int) = sumI s := by
  have := sumI_bd s
  unfold sumB; rw [list_bs]; omega
/-- The item of a string. -/
def item (s : List UInt8) : List UInt8 := code s.length ++ s
def nameItems (n : Nm) : List UInt8 := item n.a.data.toList ++ item n.u.data.toList ++ item n.k.data.toList
def namesItems : List Nm → List UInt8
  | [] => []
  | n :: r => nameItems n ++ namesItems r
theorem namesItems_append : ∀ a b : List Nm, namesItems (a ++ b) = namesItems a ++ namesItems b
  | [], _ => rfl
  | n :: r, b => by simp [namesItems, namesItems_append r b]
def headItems (e : Ent) : List UInt8 := code e.cl ++ code e.op ++ code e.ttl ++ code e.tick ++ code (e.names.length : Nat)
def bodyE (e : Ent) : List UInt8 := headItems e ++ namesItems e.names
def wrapE (b : List UInt8) : List UInt8 := item b ++ code (sumB b : Nat)
/-- What Encode returns. -/
def encE (e : Ent) : Int × List UInt8 := if checkE e ≠ 0 then (checkE e, []) else if 4096 < (bodyE e).length then (7, []) else (0, wrapE (bodyE e))

/-! ### Reading -/
def numR (s : List UInt8) (at_ : Nat) (bad : Bool) : Int × Nat × Bool :=
  if bad then (0, at_, true) else match getI (s.drop at_) with
    | some (v, k) => (v, at_ + k, false)
    | none => (0, at_, true)
def textR (s : List UInt8) (at_ : Nat) (bad : Bool) : List UInt8 × Nat × Bool :=
  let p := numR s at_ bad
  if p.2.2 = true ∨ p.1 < 0 ∨ (s.length - p.2.1 : Nat) < p.1 then ([], p.2.1, true) else ((s.drop p.2.1).take p.1.toNat, p.2.1 + p.1.toNat, false)
theorem numR_le {s : List UInt8} {t : Nat} {b : Bool} (h : t ≤ s.length) : (numR s t b).2.1 ≤ s.length ∧ t ≤ (numR s t b).2.1 := by
  unfold numR
  split
  · exact ⟨h, Nat.le_refl _⟩
  · split
    · rename_i hg
      obtain ⟨_, _, _, h3, _⟩ := getI_bd hg
      simp at h3 ⊢; omega
    · exact ⟨h, Nat.le_refl _⟩
theorem textR_le {s : List UInt8} {t : Nat} {b : Bool} (h : t ≤ s.length) : (textR s t b).2.1 ≤ s.length ∧ t ≤ (textR s t b).2.1 := by
  obtain ⟨h1, h2⟩ := numR_le (b := b) h
  unfold textR
  simp only
  split
  · exact ⟨h1, h2⟩
  · rename_i hn
    simp only [not_or] at hn
    simp only; omega
theorem numR_bd (s : List UInt8) (t : Nat) (b : Bool) : -9223372036854775808 ≤ (numR s t b).1 ∧ (numR s t b).1 ≤ 9223372036854775807 := by
  unfold numR
  split
  · simp
  · split
    · rename_i hg
      obtain ⟨h1, h2, _⟩ := getI_bd hg
      exact ⟨h1, h2⟩
    · simp
theorem numR_code {v : Int} (h1 : -9223372036854775808 ≤ v) (h2 : v ≤ 9223372036854775807) (p r : List UInt8) : numR (p ++ (code v ++ r)) p.length false = (v, p.length + (code v).length, false) := by
  unfold numR
  rw [List.drop_left, getI_code h1 h2]
  simp
theorem numR_code' {v : Int} (h1 : -9223372036854775808 ≤ v) (h2 : v ≤ 9223372036854775807) {s : List UInt8} {t : Nat} (p r : List UInt8) (hs : s = p ++ (code v ++ r)) (ht : t = p.length) : numR s t false = (v, t + (code v).length, false) := by
  subst hs ht; exact numR_code h1 h2 p r
theorem textR_item {b : List UInt8} (hb : b.length ≤ 9223372036854775807) {s : List UInt8} {t : Nat} (p r : List UInt8) (hs : s = p ++ (item b ++ r)) (ht : t = p.length) : textR s t false = (b, t + (item b).length, false) := by
  have e : numR s t false = ((b.length : Int), t + (code (b.length : Int)).length, false) := numR_code' (by omega) (by omega) p (b ++ r) (by rw [hs, item]; simp) ht
  have hl : s.length = p.length + (code (b.length : Int)).length + b.length + r.length := by rw [hs, item]; simp; omega
  unfold textR
  rw [e]
  simp only
  rw [if_neg (by simp; omega)]
  have hd : s.drop (t + (code (b.length : Int)).length) = b ++ r := by
    rw [hs, ht, item, ← List.drop_drop, List.drop_left, List.append_assoc, List.drop_left]
  rw [hd]
  simp [item]; omega
def nameR (s : List UInt8) (t : Nat) (b : Bool) : Nm × Nat × Bool :=
  let p := textR s t b
  let q := textR s p.2.1 p.2.2
  let r := textR s q.2.1 q.2.2
  (⟨bs p.1, bs q.1, bs r.1⟩, r.2.1, r.2.2)
theorem nameR_le {s : List UInt8} {t : Nat} {b : Bool} (h : t ≤ s.length) : (nameR s t b).2.1 ≤ s.length ∧ t ≤ (nameR s t b).2.1 := by
  unfold nameR
  simp only
  have h1 := textR_le (b := b) h
  have h2 := textR_le (s := s) (b := (textR s t b).2.2) h1.1
  have h3 := textR_le (s := s) (b := (textR s (textR s t b).2.1 (textR s t b).2.2).2.2) h2.1
  exact ⟨h3.1, by omega⟩
def namesR (s : List UInt8) : Nat → Nat → Bool → List Nm × Nat × Bool
  | 0, t, b => ([], t, b)
  | n + 1, t, b => let p := nameR s t b; let q := namesR s n p.2.1 p.2.2; (p.1 :: q.1, q.2.1, q.2.2)
theorem nameR_items {n : Nm} (h1 : n.a.size ≤ 4096) (h2 : n.u.size ≤ 4096) (h3 : n.k.size ≤ 4096) {s : List UInt8} {t : Nat} (p r : List UInt8) (hs : s = p ++ (nameItems n ++ r)) (ht : t = p.length) : nameR s t false = (n, t + (nameItems n).length, false) := by
  have q1 : n.a.data.toList.length ≤ 4096 := h1
  have q2 : n.u.data.toList.length ≤ 4096 := h2
  have q3 : n.k.data.toList.length ≤ 4096 := h3
  have e1 := textR_item (b := n.a.data.toList) (s := s) (t := t) (by omega) p (item n.u.data.toList ++ item n.k.data.toList ++ r) (by rw [hs, nameItems]; simp) ht
  have e2 := textR_item (b := n.u.data.toList) (s := s) (t := t + (item n.a.data.toList).length) (by omega) (p ++ item n.a.data.toList) (item n.k.data.toList ++ r) (by rw [hs, nameItems]; simp) (by rw [ht]; simp)
  have e3 := textR_item (b := n.k.data.toList) (s := s) (t := t + (item n.a.data.toList).length + (item n.u.data.toList).length) (by omega) (p ++ item n.a.data.toList ++ item n.u.data.toList) r (by rw [hs, nameItems]; simp) (by rw [ht]; simp; omega)
  unfold nameR
  simp only [e1, e2, e3]
  simp only [Prod.mk.injEq, and_true]
  refine ⟨rfl, ?_⟩
  simp [nameItems]; omega
theorem namesR_items (s r : List UInt8) : ∀ (l : List Nm) (p : List UInt8) (t : Nat), (∀ n ∈ l, n.a.size ≤ 4096 ∧ n.u.size ≤ 4096 ∧ n.k.size ≤ 4096) → s = p ++ (namesItems l ++ r) → t = p.length → namesR s l.length t false = (l, t + (namesItems l).length, false)
  | [], p, t, _, _, _ => by simp [namesR, namesItems]
  | n :: l, p, t, h, hs, ht => by
    obtain ⟨h1, h2, h3⟩ := h n (by simp)
    have e1 := nameR_items h1 h2 h3 (s := s) (t := t) p (namesItems l ++ r) (by rw [hs, namesItems]; simp) ht
    have e2 := namesR_items s r l (p ++ nameItems n) (t + (nameItems n).length) (fun m hm => h m (by simp [hm])) (by rw [hs, namesItems]; simp) (by rw [ht]; simp)
    simp only [List.length_cons, namesR, e1, e2, namesItems, List.length_append]
    simp; omega
/-- The numbers at the beginning of a body. -/
structure Head where
  cl : Int
  op : Int
  ttl : Int
  tick : Int
  n : Int
  at_ : Nat
  bad : Bool
def headR (s : List UInt8) : Head :=
  let a := numR s 0 false
  let b := numR s a.2.1 a.2.2
  let c := numR s b.2.1 b.2.2
  let d := numR s c.2.1 c.2.2
  let e := numR s d.2.1 d.2.2
  ⟨a.1, b.1, c.1, d.1, e.1, e.2.1, e.2.2⟩
theorem headR_le (s : List UInt8) : (headR s).at_ ≤ s.length := by
  unfold headR
  simp only
  exact (numR_le (numR_le (numR_le (numR_le (numR_le (Nat.zero_le _)).1).1).1).1).1
theorem headR_items {e : Ent} (h1 : I64 e.cl) (h2 : I64 e.op) (h3 : I64 e.ttl) (h4 : I64 e.tick) (h5 : e.names.length ≤ 16) {s : List UInt8} (r : List UInt8) (hs : s = headItems e ++ r) : headR s = ⟨e.cl, e.op, e.ttl, e.tick, e.names.length, (headItems e).length, false⟩ := by
  have e1 := numR_code' h1.1 h1.2 (s := s) (t := 0) [] (code e.op ++ code e.ttl ++ code e.tick ++ code (e.names.length : Nat) ++ r) (by rw [hs, headItems]; simp) rfl
  have e2 := numR_code' h2.1 h2.2 (s := s) (t := 0 + (code e.cl).length) (code e.cl) (code e.ttl ++ code e.tick ++ code (e.names.length : Nat) ++ r) (by rw [hs, headItems]; simp) (by simp)
  have e3 := numR_code' h3.1 h3.2 (s := s) (t := 0 + (code e.cl).length + (code e.op).length) (code e.cl ++ code e.op) (code e.tick ++ code (e.names.length : Nat) ++ r) (by rw [hs, headItems]; simp) (by simp)
  have e4 := numR_code' h4.1 h4.2 (s := s) (t := 0 + (code e.cl).length + (code e.op).length + (code e.ttl).length) (code e.cl ++ code e.op ++ code e.ttl) (code (e.names.length : Nat) ++ r) (by rw [hs, headItems]; simp) (by simp; omega)
  have e5 := numR_code' (v := (e.names.length : Nat)) (by omega) (by omega) (s := s) (t := 0 + (code e.cl).length + (code e.op).length + (code e.ttl).length + (code e.tick).length) (code e.cl ++ code e.op ++ code e.ttl ++ code e.tick) r (by rw [hs, headItems]; simp) (by simp; omega)
  unfold headR
  simp only [e1, e2, e3, e4, e5]
  simp only [Head.mk.injEq, true_and, and_true]
  simp [headItems]; omega
/-- The entry in a body, as the program reads it. -/
def entP (s : List UInt8) : Option Ent :=
  let h := headR s
  if 1 ≤ h.n ∧ h.n ≤ 16 then
    let q := namesR s h.n.toNat h.at_ h.bad
    if q.2.2 then none else some ⟨h.cl, h.op, h.ttl, h.tick, q.1⟩
  else none
/-- The first entry of a journal and its bytes: e's encoding is the beginning of s. -/
def FirstIs (s : List UInt8) (e : Ent) (n : Nat) : Prop := ∃ x, encE e = (0, x) ∧ x <+: s ∧ n = x.length
structure Fits (e : Ent) : Prop where
  cl : I64 e.cl
  op : I64 e.op
  ttl : I64 e.ttl
  tick : I64 e.tick
  len : e.names.length ≤ 16
  pos : 1 ≤ e.names.length
  names : ∀ n ∈ e.names, n.a.size ≤ 4096 ∧ n.u.size ≤ 4096 ∧ n.k.size ≤ 4096
  body : (bodyE e).length ≤ 4096
theorem namesItems_len {n : Nm} : ∀ {l : List Nm}, n ∈ l → n.a.size + n.u.size + n.k.size ≤ (namesItems l).length
  | m :: l, h => by
    rcases List.mem_cons.1 h with rfl | h
    · simp only [namesItems, nameItems, item, List.length_append]
      show n.a.data.toList.length + n.u.data.toList.length + n.k.data.toList.length ≤ _
      omega
    · have := namesItems_len h
      simp only [namesItems, List.length_append]; omega
theorem enc_fits {e : Ent} {x : List UInt8} (h : encE e = (0, x)) : Fits e ∧ x = wrapE (bodyE e) ∧ checkE e = 0 := by
  unfold encE at h
  split at h
  · rename_i hc; simp only [Prod.mk.injEq] at h; exact absurd h.1 hc
  · rename_i hc
    split at h
    · simp at h
    · rename_i hb
      simp only [Prod.mk.injEq, true_and] at h
      simp only [Decidable.not_not] at hc
      have hr : rangeB e = true := by
        cases hr : rangeB e with
        | true => rfl
        | false => unfold checkE at hc; rw [hr] at hc; simp at hc
      simp only [rangeB, Bool.and_eq_true, decide_eq_true_eq] at hr
      obtain ⟨⟨⟨⟨⟨⟨⟨⟨a1, a2⟩, a3⟩, a4⟩, a5⟩, a6⟩, a7⟩, a8⟩, a9⟩ := hr
      have ht : I64 e.ttl := by
        split at a5
        · simp only [Bool.and_eq_true, decide_eq_true_eq] at a5
          exact ⟨by omega, by omega⟩
        · simp only [beq_iff_eq] at a5; rw [a5]; exact ⟨by omega, by omega⟩
      refine ⟨⟨⟨by omega, by omega⟩, ⟨by omega, by omega⟩, ht, ⟨by omega, by omega⟩, a9, a8, fun n hn => ?_, by omega⟩, h.symm, hc⟩
      have := namesItems_len hn
      have hl : (namesItems e.names).length ≤ (bodyE e).length := by simp [bodyE]
      omega
theorem entP_body {e : Ent} (f : Fits e) : entP (bodyE e) = some e := by
  have h := headR_items f.cl f.op f.ttl f.tick f.len (s := bodyE e) (namesItems e.names) rfl
  have hn := namesR_items (bodyE e) [] e.names (headItems e) (headItems e).length f.names (by simp [bodyE]) rfl
  unfold entP
  simp only [h]
  have h1 := f.pos
  have h2 := f.len
  rw [if_pos ⟨by omega, by omega⟩]
  simp only [Int.toNat_natCast, hn]
  rfl
theorem wrap_text {e : Ent} (f : Fits e) (r : List UInt8) : textR (wrapE (bodyE e) ++ r) 0 false = (bodyE e, (item (bodyE e)).length, false) ∧ numR (wrapE (bodyE e) ++ r) (item (bodyE e)).length false = (((sumB (bodyE e) : Nat) : Int), (wrapE (bodyE e)).length, false) := by
  have hb := f.body
  have hs := sumB_lt (bodyE e)
  constructor
  · have := textR_item (b := bodyE e) (s := wrapE (bodyE e) ++ r) (t := 0) (by omega) [] (code (sumB (bodyE e) : Nat) ++ r) (by simp [wrapE]) rfl
    simpa using this
  · have := numR_code' (v := (sumB (bodyE e) : Nat)) (by omega) (by omega) (s := wrapE (bodyE e) ++ r) (t := (item (bodyE e)).length) (item (bodyE e)) r (by simp [wrapE]) rfl
    rw [this]; simp [wrapE]
/-- What the program finds first. -/
def firstP (s : List UInt8) : Option (Ent × Nat) :=
  let b := textR s 0 false
  let c := numR s b.2.1 b.2.2
  if c.2.2 then none else match entP b.1 with
    | none => none
    | some e => if encE e = (0, s.take c.2.1) then some (e, c.2.1) else none
theorem firstP_of {s : List UInt8} {e : Ent} {n : Nat} (h : firstP s = some (e, n)) : FirstIs s e n := by
  unfold firstP at h
  simp only at h
  split at h
  · simp at h
  · split at h
    · simp at h
    · split at h
      · rename_i he
        simp only [Option.some.injEq, Prod.mk.injEq] at h
        obtain ⟨rfl, rfl⟩ := h
        refine ⟨_, he, List.take_prefix _ _, ?_⟩
        have := (numR_le (s := s) (b := (textR s 0 false).2.2) (textR_le (s := s) (b := false) (Nat.zero_le _)).1).1
        rw [List.length_take]; omega
      · simp at h
theorem firstP_is {s : List UInt8} {e : Ent} {n : Nat} (h : FirstIs s e n) : firstP s = some (e, n) := by
  obtain ⟨x, he, ⟨r, rfl⟩, rfl⟩ := h
  obtain ⟨f, rfl, _⟩ := enc_fits he
  obtain ⟨h1, h2⟩ := wrap_text f r
  unfold firstP
  simp only [h1, h2, entP_body f]
  rw [List.take_left, he]
  simp
theorem first_one {s : List UInt8} {e e' : Ent} {n n' : Nat} (h : FirstIs s e n) (k : FirstIs s e' n') : e = e' ∧ n = n' := by
  have := (firstP_is h).symm.trans (firstP_is k)
  simpa using this
/-- The names, as the reference reads them: it stops where one is not in order, and behind seventeen. -/
def namesS (s : List UInt8) : Nat → Nat → Bool → List Nm × Nat × Bool
  | 0, t, b => ([], t, b)
  | n + 1, t, b => if b then ([], t, b) else let p := nameR s t b; let q := namesS s n p.2.1 p.2.2; (p.1 :: q.1, q.2.1, q.2.2)
theorem namesS_ok (s : List UInt8) : ∀ (n t : Nat) (b : Bool), (namesS s n t b).2.2 = false → namesS s n t b = namesR s n t b ∧ b = false
  | 0, _, _, h => ⟨rfl, h⟩
  | n + 1, t, b, h => by
    cases b with
    | true => rw [namesS, if_pos rfl] at h; simp at h
    | false =>
      rw [namesS, if_neg (by simp)] at h ⊢
      simp only at h ⊢
      obtain ⟨h1, h2⟩ := namesS_ok s n _ _ h
      rw [h1]
      exact ⟨by rw [namesR], trivial⟩
theorem namesR_bad (s : List UInt8) : ∀ (n t : Nat), (namesR s n t true).2.2 = true
  | 0, _ => rfl
  | n + 1, t => by
    rw [namesR]
    simp only
    have : (nameR s t true).2.2 = true := by simp [nameR, textR, numR]
    rw [this]
    exact namesR_bad s n _
theorem namesS_of (s : List UInt8) : ∀ (n t : Nat) (b : Bool), (namesR s n t b).2.2 = false → namesS s n t b = namesR s n t b
  | 0, t, b, _ => rfl
  | n + 1, t, b, h => by
    cases b with
    | true => rw [namesR_bad] at h; simp at h
    | false =>
      rw [namesS, if_neg (by simp), namesR]
      rw [namesR] at h
      simp only at h ⊢
      rw [namesS_of s n _ _ h]
theorem namesR_len (s : List UInt8) : ∀ (n t : Nat) (b : Bool), (namesR s n t b).1.length = n
  | 0, _, _ => rfl
  | n + 1, t, b => by rw [namesR]; simp [namesR_len s n]
/-- How many rounds the reference reads. -/
def rounds (n : Int) : Nat := min n.toNat 17
/-- What the reference finds first. -/
def firstS (s : List UInt8) : Option (Ent × Nat) :=
  let b := textR s 0 false
  if b.2.2 then none else
    let h := headR b.1
    let q := namesS b.1 (rounds h.n) h.at_ h.bad
    let e : Ent := ⟨h.cl, h.op, h.ttl, h.tick, q.1⟩
    if q.2.2 = false ∧ (encE e).1 = 0 ∧ (encE e).2 <+: s then some (e, (encE e).2.length) else none
theorem firstS_of {s : List UInt8} {e : Ent} {n : Nat} (h : firstS s = some (e, n)) : FirstIs s e n := by
  unfold firstS at h
  simp only at h
  split at h
  · simp at h
  · split at h
    · rename_i hc
      simp only [Option.some.injEq, Prod.mk.injEq] at h
      obtain ⟨rfl, rfl⟩ := h
      exact ⟨_, Prod.ext hc.2.1 rfl, hc.2.2, rfl⟩
    · simp at h
theorem firstS_is {s : List UInt8} {e : Ent} {n : Nat} (h : FirstIs s e n) : firstS s = some (e, n) := by
  obtain ⟨x, he, ⟨r, rfl⟩, rfl⟩ := h
  obtain ⟨f, rfl, _⟩ := enc_fits he
  obtain ⟨h1, h2⟩ := wrap_text f r
  have hh := headR_items f.cl f.op f.ttl f.tick f.len (s := bodyE e) (namesItems e.names) rfl
  have hn := namesR_items (bodyE e) [] e.names (headItems e) (headItems e).length f.names (by simp [bodyE]) rfl
  have hr : rounds (e.names.length : Int) = e.names.length := by
    have := f.len
    unfold rounds; omega
  have hS : namesS (bodyE e) e.names.length (headItems e).length false = (e.names, (headItems e).length + (namesItems e.names).length, false) := by
    rw [namesS_of _ _ _ _ (by rw [hn]), hn]
  unfold firstS
  simp only [h1, hh, hr, hS, he]
  simp [List.prefix_append]
theorem firstP_none {s : List UInt8} (h : firstP s = none) (e : Ent) (n : Nat) : ¬ FirstIs s e n := fun k => by rw [firstP_is k] at h; simp at h
theorem firstS_eq (s : List UInt8) : firstS s = firstP s := by
  cases h : firstP s with
  | some p => exact firstS_is (firstP_of h)
  | none =>
    cases k : firstS s with
    | none => rfl
    | some p => exact absurd (firstS_of k) (firstP_none h _ _)
theorem wrap_pos (b : List UInt8) : 0 < (wrapE b).length := by
  have := code_pos (sumB b : Nat)
  simp [wrapE]; omega
theorem first_pos {s : List UInt8} {e : Ent} {n : Nat} (h : FirstIs s e n) : 0 < n ∧ n ≤ s.length := by
  obtain ⟨x, he, hp, rfl⟩ := h
  obtain ⟨_, rfl, _⟩ := enc_fits he
  exact ⟨wrap_pos _, hp.length_le⟩
/-- The entries at the beginning of a journal (at most k), and the number of their bytes. -/
def readF : Nat → List UInt8 → List Ent × Nat
  | 0, _ => ([], 0)
  | k + 1, s => match firstP s with
    | none => ([], 0)
    | some (e, n) => let q := readF k (s.drop n); (e :: q.1, n + q.2)
def readJ (s : List UInt8) : List Ent × Nat := readF 4096 s
/-- What Append returns. -/
def appJ (s : List UInt8) (e : Ent) : Int × List UInt8 :=
  if (encE e).1 ≠ 0 then ((encE e).1, []) else
    if 4096 ≤ (readJ s).1.length ∨ 32768 < (readJ s).2 + (encE e).2.length then (7, []) else (0, s.take (readJ s).2 ++ (encE e).2)
theorem readF_le : ∀ (k : Nat) (s : List UInt8), (readF k s).2 ≤ s.length ∧ (readF k s).1.length ≤ k
  | 0, _ => by simp [readF]
  | k + 1, s => by
    rw [readF]
    split
    · simp
    · rename_i e n h
      obtain ⟨h1, h2⟩ := first_pos (firstP_of h)
      obtain ⟨h3, h4⟩ := readF_le k (s.drop n)
      rw [List.length_drop] at h3
      simp only [List.length_cons]
      exact ⟨by omega, by omega⟩
/-- One more round of reading. -/
theorem readF_step {k : Nat} {s : List UInt8} {e : Ent} {n : Nat} (h : FirstIs s e n) : readF (k + 1) s = (e :: (readF k (s.drop n)).1, n + (readF k (s.drop n)).2) := by
  rw [readF, firstP_is h]
theorem readF_stop {k : Nat} {s : List UInt8} (h : ∀ e n, ¬ FirstIs s e n) : readF k s = ([], 0) := by
  cases k with
  | zero => rfl
  | succ k =>
    rw [readF]
    cases hp : firstP s with
    | none => rfl
    | some p => exact absurd (firstP_of hp) (h _ _)
/-- The bytes of entries. -/
def bytesE : List Ent → List UInt8
  | [] => []
  | e :: r => (encE e).2 ++ bytesE r
theorem bytesE_append : ∀ a b : List Ent, bytesE (a ++ b) = bytesE a ++ bytesE b
  | [], _ => rfl
  | e :: r, b => by simp [bytesE, bytesE_append r b]
theorem not_first_nil (e : Ent) (n : Nat) : ¬ FirstIs [] e n := fun h => by
  have := first_pos h
  simp at this; omega
theorem firstIs_enc {e : Ent} (h : (encE e).1 = 0) (r : List UInt8) : FirstIs ((encE e).2 ++ r) e (encE e).2.length :=
  ⟨_, Prod.ext h rfl, List.prefix_append _ _, rfl⟩
/-- All that was written is read again. -/
theorem readF_bytes : ∀ (l : List Ent) (k : Nat) (r : List UInt8), l.length ≤ k → (∀ e ∈ l, (encE e).1 = 0) → readF k (bytesE l ++ r) = (l ++ (readF (k - l.length) r).1, (bytesE l).length + (readF (k - l.length) r).2)
  | [], k, r, _, _ => by simp [bytesE]
  | e :: l, 0, _, h, _ => by simp at h
  | e :: l, k + 1, r, h, he => by
    have h1 := firstIs_enc (he e (by simp)) (bytesE l ++ r)
    rw [bytesE, List.append_assoc, readF_step h1, List.drop_left, readF_bytes l k r (by simpa using h) (fun x hx => he x (by simp [hx]))]
    simp [Nat.add_sub_add_right]; omega
/-- A beginning of a code that is not the whole has no first entry. -/
theorem cut_none {e : Ent} (h : (encE e).1 = 0) {k : Nat} (hk : k < (encE e).2.length) (e' : Ent) (n : Nat) : ¬ FirstIs ((encE e).2.take k) e' n := fun h' => by
  obtain ⟨x, hx, hp, rfl⟩ := h'
  have hq : x <+: (encE e).2 := hp.trans (List.take_prefix _ _)
  have h1 : FirstIs (encE e).2 e' x.length := ⟨x, hx, hq, rfl⟩
  have h2 : FirstIs (encE e).2 e (encE e).2.length := by simpa using firstIs_enc h []
  have := (first_one h1 h2).2
  have hl := hp.length_le
  rw [List.length_take] at hl
  omega
/-- What is read of a journal that is cut: the entries that are complete. -/
theorem read_cut : ∀ (l : List Ent) (k c : Nat), l.length ≤ k → (∀ e ∈ l, (encE e).1 = 0) → c ≤ (bytesE l).length →
    ∃ m, m ≤ l.length ∧ readF k ((bytesE l).take c) = (l.take m, (bytesE (l.take m)).length) ∧ (bytesE (l.take m)).length ≤ c ∧ (∀ e, l[m]? = some e → c < (bytesE (l.take m)).length + (encE e).2.length)
  | [], k, c, _, _, _ => ⟨0, Nat.le_refl _, by simp [bytesE, readF_stop not_first_nil], by simp [bytesE], by simp⟩
  | e :: l, 0, _, h, _, _ => by simp at h
  | e :: l, k + 1, c, h, he, hc => by
    have h0 := he e (by simp)
    by_cases hcl : c < (encE e).2.length
    · refine ⟨0, Nat.zero_le _, ?_, by simp [bytesE], ?_⟩
      · rw [bytesE, List.take_append_of_le_length (by omega)]
        simp [readF_stop (cut_none h0 hcl), bytesE]
      · simp only [List.getElem?_cons_zero, Option.some.injEq, List.take_zero, bytesE, List.length_nil, Nat.zero_add]
        rintro _ rfl
        exact hcl
    · obtain ⟨m, h1, h2, h3, h4⟩ := read_cut l k (c - (encE e).2.length) (by simpa using h) (fun x hx => he x (by simp [hx])) (by rw [bytesE, List.length_append] at hc; omega)
      have ht : (bytesE (e :: l)).take c = (encE e).2 ++ (bytesE l).take (c - (encE e).2.length) := by
        rw [bytesE, List.take_append, List.take_of_length_le (by omega)]
      refine ⟨m + 1, by simpa using h1, ?_, ?_, ?_⟩
      · rw [ht, readF_step (firstIs_enc h0 _), List.drop_left, h2]
        simp [bytesE]
      · rw [List.take_succ_cons, bytesE, List.length_append]; omega
      · intro x hx
        rw [List.getElem?_cons_succ] at hx
        have := h4 x hx
        rw [List.take_succ_cons, bytesE, List.length_append]; omega
end Go.Proofs.Ytjefpeppkphgbaa
