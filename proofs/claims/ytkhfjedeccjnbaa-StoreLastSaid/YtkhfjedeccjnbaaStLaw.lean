/-
  The plain law of stores: what doubling a table does, and what Get returns behind Put (26.2, 26.3).
  Conditions: none.
-/
import Derived.Test.YtkhfjedeccjnbaaShift
import Derived.Test.YtkhfjedeccjnbaaCheck
import Derived.Test.YtkhfjedeccjnbaaSoon
namespace Go.Proofs.Ytkhfjedeccjnbaa
open Go.RowKit Go.Sort
set_option maxHeartbeats 1000000

theorem FindAt.same {n : Nat} {sl : Nat → Option ByteArray} {key : ByteArray} {p q : Nat} {ok ok' : Bool} (h : FindAt n sl key p ok) (k : FindAt n sl key q ok') : p = q ∧ ok = ok' := by
  obtain ⟨d, h1, h2, h3, h4⟩ := h
  obtain ⟨e, k1, k2, k3, k4⟩ := k
  have hd : d = e := by
    rcases Nat.lt_trichotomy d e with hlt | heq | hgt
    · exfalso
      obtain ⟨x, x1, x2⟩ := k3 d hlt
      rw [← h2, h4] at x1
      cases ok <;> simp at x1
      exact x2 x1.symm
    · exact heq
    · exfalso
      obtain ⟨x, x1, x2⟩ := h3 e hgt
      rw [← k2, k4] at x1
      cases ok' <;> simp at x1
      exact x2 x1.symm
  subst hd
  have hp : p = q := by rw [h2, k2]
  subst hp
  refine ⟨rfl, ?_⟩
  rw [h4] at k4
  cases ok <;> cases ok' <;> simp at k4 <;> rfl

/-- The table of m slots after the first i slots of another table have been put into it. -/
def Dbl {P : Type} (c0 : P) (m : Nat) (sl : Nat → Option ByteArray) (f : Nat → P) : Nat → (Nat → Option ByteArray) → (Nat → P) → Int → Prop
  | 0, s, r, u => s = (fun _ => none) ∧ r = (fun _ => c0) ∧ u = 0
  | i + 1, s, r, u => (sl i = none ∧ Dbl c0 m sl f i s r u) ∨ ∃ k p s0 r0 u0, sl i = some k ∧ Dbl c0 m sl f i s0 r0 u0 ∧ FindAt m s0 k p false ∧ s = upd s0 p (some k) ∧ r = upd r0 p (f i) ∧ u = u0 + 1
theorem cnt_zero (n : Nat) : cnt (fun _ => none) n = 0 := by
  induction n with
  | zero => rfl
  | succ n ih => rw [cnt, ih]; rfl
theorem dbl_inv {P : Type} {c0 : P} {m n : Nat} {sl : Nat → Option ByteArray} {f : Nat → P} {u : Int} (_ : Tab n sl u) (hm : 0 < m) {i : Nat} (hi : i ≤ n) : ∀ {s : Nat → Option ByteArray} {r : Nat → P} {v : Int}, Dbl c0 m sl f i s r v →
    Tab m s v ∧ v = (cnt sl i : Nat) ∧ ∀ k c, Holds m s r k c ↔ ∃ j, j < i ∧ sl j = some k ∧ f j = c := by
  induction i with
  | zero =>
    rintro s r v ⟨rfl, rfl, rfl⟩
    refine ⟨tab_new hm, rfl, fun k c => ⟨?_, ?_⟩⟩
    · rintro ⟨i, _, h, _⟩; simp at h
    · rintro ⟨j, h, _⟩; omega
  | succ i ih =>
    rintro s r v (⟨hn, hd⟩ | ⟨k, p, s0, r0, u0, hk, hd, hf, rfl, rfl, rfl⟩)
    · obtain ⟨h1, h2, h3⟩ := ih (by omega) hd
      refine ⟨h1, by rw [h2, cnt, hn]; rfl, fun k c => (h3 k c).trans ⟨?_, ?_⟩⟩
      · rintro ⟨j, a, b, d⟩; exact ⟨j, by omega, b, d⟩
      · rintro ⟨j, a, b, d⟩
        rcases (show j < i ∨ j = i by omega) with h | rfl
        · exact ⟨j, h, b, d⟩
        · rw [hn] at b; simp at b
    · obtain ⟨h1, h2, h3⟩ := ih (by omega) hd
      have hpn := hf
      obtain ⟨_, _, _, _, hpn⟩ := hpn
      simp at hpn
      refine ⟨h1.ins hf, by rw [h2, cnt, hk]; simp, fun k' c => ⟨?_, ?_⟩⟩
      · rintro ⟨x, hx, a, b⟩
        by_cases hxp : x = p
        · subst hxp
          rw [upd_same] at a b
          simp at a
          subst a
          exact ⟨i, by omega, hk, b⟩
        · rw [upd_other _ _ hxp] at a b
          obtain ⟨j, y1, y2, y3⟩ := (h3 k' c).1 ⟨x, hx, a, b⟩
          exact ⟨j, by omega, y2, y3⟩
      · rintro ⟨j, a, b, d⟩
        rcases (show j < i ∨ j = i by omega) with h | rfl
        · obtain ⟨x, hx, y1, y2⟩ := (h3 k' c).2 ⟨j, h, b, d⟩
          have hxp : x ≠ p := fun e => by rw [e, hpn] at y1; simp at y1
          exact ⟨x, hx, by rw [upd_other _ _ hxp]; exact y1, by rw [upd_other _ _ hxp]; exact y2⟩
        · rw [hk] at b
          simp at b
          subst b
          exact ⟨p, hf.lt, by rw [upd_same], by rw [upd_same]; exact d⟩
/-- The key of slot i is not yet in the new table. -/
theorem dbl_new {P : Type} {c0 : P} {m n : Nat} {sl : Nat → Option ByteArray} {f : Nat → P} {u : Int} (t : Tab n sl u) (hm : 0 < m) {i : Nat} (hi : i < n) {s : Nat → Option ByteArray} {r : Nat → P} {v : Int} (hd : Dbl c0 m sl f i s r v) {k : ByteArray} (hk : sl i = some k) (x : Nat) : ¬ Has m s k x := by
  rintro ⟨h1, h2⟩
  obtain ⟨_, _, h3⟩ := dbl_inv t hm (by omega) hd
  obtain ⟨j, a, b, _⟩ := (h3 k _).1 ⟨x, h1, h2, rfl⟩
  have := t.dis j i k (by omega) hi b hk
  omega
theorem dbl_same {P Q : Type} {c0 : P} {d0 : Q} {m : Nat} {sl : Nat → Option ByteArray} {f : Nat → P} {g : Nat → Q} {i : Nat} : ∀ {s s' : Nat → Option ByteArray} {r : Nat → P} {r' : Nat → Q} {v v' : Int}, Dbl c0 m sl f i s r v → Dbl d0 m sl g i s' r' v' → s = s' ∧ v = v' := by
  induction i with
  | zero => rintro s s' r r' v v' ⟨rfl, _, rfl⟩ ⟨rfl, _, rfl⟩; exact ⟨rfl, rfl⟩
  | succ i ih =>
    rintro s s' r r' v v' (⟨h1, h2⟩ | ⟨k, p, s0, r0, u0, h1, h2, h3, rfl, rfl, rfl⟩) (⟨k1, k2⟩ | ⟨k', p', s0', r0', u0', k1, k2, k3, rfl, rfl, rfl⟩)
    · exact ih h2 k2
    · rw [h1] at k1; simp at k1
    · rw [h1] at k1; simp at k1
    · obtain ⟨rfl, rfl⟩ := ih h2 k2
      rw [h1] at k1; simp at k1; subst k1
      obtain ⟨rfl, _⟩ := h3.same k3
      exact ⟨rfl, rfl⟩
theorem rm_same {P Q : Type} {n : Nat} (sl : Nat → Option ByteArray) (f : Nat → P) (g : Nat → Q) (gap : Nat) (j : Nat) :
    (rmIter n j (rmStart n sl f gap)).sl = (rmIter n j (rmStart n sl g gap)).sl ∧ (rmIter n j (rmStart n sl f gap)).gap = (rmIter n j (rmStart n sl g gap)).gap ∧ (rmIter n j (rmStart n sl f gap)).pos = (rmIter n j (rmStart n sl g gap)).pos := by
  induction j with
  | zero => exact ⟨rfl, rfl, rfl⟩
  | succ j ih =>
    rw [rmIter, rmIter]
    generalize rmIter n j (rmStart n sl f gap) = s at *
    generalize rmIter n j (rmStart n sl g gap) = s' at *
    obtain ⟨a, b, c, d⟩ := s
    obtain ⟨a', b', c', d'⟩ := s'
    obtain ⟨h1, h2, h3⟩ := ih
    simp only at h1 h2 h3
    subst h1 h2 h3
    unfold rmStep
    simp only
    cases a d with
    | none => exact ⟨rfl, rfl, rfl⟩
    | some k => simp only; split <;> exact ⟨rfl, rfl, rfl⟩
theorem rm_stop {P : Type} {n : Nat} {s0 : RmS P} {j : Nat} (h : (rmIter n j s0).sl (rmIter n j s0).pos = none) (d : Nat) : rmIter n (j + d) s0 = rmIter n j s0 := by
  induction d with
  | zero => rfl
  | succ d ih => rw [← Nat.add_assoc, rmIter, ih, rmStep, h]
theorem rmDone_same {P Q : Type} {n : Nat} {sl : Nat → Option ByteArray} {f : Nat → P} {g : Nat → Q} {gap : Nat} {s : RmS P} {s' : RmS Q} (h : RmDone n (rmStart n sl f gap) s) (k : RmDone n (rmStart n sl g gap) s') : s.sl = s'.sl := by
  obtain ⟨i, rfl, h1⟩ := h
  obtain ⟨j, rfl, k1⟩ := k
  have a := rm_stop h1 j
  have b := rm_stop k1 i
  rw [Nat.add_comm] at b
  rw [← a, ← b]
  exact (rm_same sl f g gap (i + j)).1

/-- A store's table: every key is found, at most three quarters of the slots are used, their number is a power of two. -/
structure StOk (n : Nat) (sl : Nat → Option ByteArray) (u : Int) : Prop where
  tab : Tab n sl u
  load : 4 * u ≤ 3 * (n : Int)
  lo : 4 ≤ n
  hi : n ≤ 2048
  pw : (n : Int) ∈ pows
  keys : ∀ i k, i < n → sl i = some k → k.size ≤ maxLen
theorem StOk.free {n : Nat} {sl : Nat → Option ByteArray} {u : Int} (h : StOk n sl u) : ∃ i, i < n ∧ sl i = none := h.tab.free (by have := h.load; have := h.lo; omega)
theorem keys_upd {n : Nat} {sl : Nat → Option ByteArray} {B : Nat} (h : ∀ i k, i < n → sl i = some k → k.size ≤ B) {key : ByteArray} (hk : key.size ≤ B) (p : Nat) : ∀ i k, i < n → upd sl p (some key) i = some k → k.size ≤ B := fun i k hi e => by
  by_cases hip : i = p
  · rw [hip, upd_same] at e; simp at e; rw [← e]; exact hk
  · rw [upd_other _ _ hip] at e; exact h i k hi e
/-- The record of a key: that of its slot, or none. -/
def Val {P : Type} (c0 : P) (n : Nat) (sl : Nat → Option ByteArray) (f : Nat → P) (key : ByteArray) (r : P) : Prop := Holds n sl f key r ∨ ((∀ i, ¬ Has n sl key i) ∧ r = c0)
theorem Holds.has {P : Type} {n : Nat} {sl : Nat → Option ByteArray} {f : Nat → P} {key : ByteArray} {r : P} (h : Holds n sl f key r) : ∃ i, Has n sl key i ∧ f i = r := by
  obtain ⟨i, a, b, c⟩ := h
  exact ⟨i, ⟨a, b⟩, c⟩
theorem val_same {P : Type} {c0 : P} {n : Nat} {sl : Nat → Option ByteArray} {u : Int} (t : Tab n sl u) {f : Nat → P} {key : ByteArray} {r r' : P} (h : Val c0 n sl f key r) (k : Val c0 n sl f key r') : r = r' := by
  rcases h with h | ⟨h1, h2⟩
  · obtain ⟨i, a, b⟩ := h.has
    rcases k with k | ⟨k1, _⟩
    · obtain ⟨j, c, d⟩ := k.has
      have := t.dis i j key a.1 c.1 a.2 c.2
      subst this
      rw [← b, ← d]
    · exact absurd a (k1 i)
  · rcases k with k | ⟨_, k2⟩
    · obtain ⟨j, c, d⟩ := k.has
      exact absurd c (h1 j)
    · rw [h2, k2]
theorem val_find {P : Type} {c0 : P} {n : Nat} {sl : Nat → Option ByteArray} {u : Int} (t : Tab n sl u) {f : Nat → P} {key : ByteArray} {p : Nat} {ok : Bool} (h : FindAt n sl key p ok) : Val c0 n sl f key (if ok then f p else c0) := by
  by_cases hx : ∃ i, Has n sl key i
  · obtain ⟨i, hi⟩ := hx
    obtain ⟨rfl, rfl⟩ := t.hit hi h
    exact .inl ⟨p, hi.1, hi.2, rfl⟩
  · have hno : ∀ i, ¬ Has n sl key i := fun i hi => hx ⟨i, hi⟩
    obtain ⟨rfl, _⟩ := Tab.miss hno h
    exact .inr ⟨hno, rfl⟩

/-- The record that is not there. -/
def rc0 : Rc := ⟨0, 0, ⟨#[]⟩, 0⟩
def Rc.check (r : Rc) : Bool := checkB r.st r.ow r.dl r.nm
theorem check_free {r : Rc} (h : r.check = true) (h0 : r.st = 0) : r = rc0 := by
  obtain ⟨st, ow, nm, dl⟩ := r
  simp only at h0
  subst h0
  simp only [Rc.check, checkB, Bool.or_eq_true, Bool.and_eq_true, beq_iff_eq, decide_eq_true_eq] at h
  have hnm : nm.size = 0 ∧ ow = 0 ∧ dl = 0 := by
    rcases h with ⟨⟨⟨_, h1⟩, h2⟩, h3⟩ | ⟨_, ⟨⟨h, _⟩, _⟩ | ⟨h, _⟩⟩
    · exact ⟨h2, h1, h3⟩
    · omega
    · omega
  obtain ⟨h1, rfl, rfl⟩ := hnm
  have : nm = ⟨#[]⟩ := by
    obtain ⟨a⟩ := nm
    have : a.size = 0 := h1
    have := Array.eq_empty_of_size_eq_zero this
    rw [this]
  rw [this]; rfl
/-- What Put does with a store, and the number that it returns. -/
def PutSpec (n : Nat) (sl : Nat → Option ByteArray) (f : Nat → Rc) (u : Int) (key : ByteArray) (r : Rc) (code : Int) (n' : Nat) (sl' : Nat → Option ByteArray) (f' : Nat → Rc) (u' : Int) : Prop :=
  (r.check = false ∧ code = 1 ∧ n' = n ∧ sl' = sl ∧ f' = f ∧ u' = u) ∨
  (r.check = true ∧ ∃ p ok, FindAt n sl key p ok ∧
    ((r.st = 0 ∧ ok = true ∧ code = 0 ∧ n' = n ∧ u' = u - 1 ∧ ∃ s, RmDone n (rmStart n sl f p) s ∧ sl' = s.sl ∧ f' = s.pay) ∨
     (r.st = 0 ∧ ok = false ∧ code = 0 ∧ n' = n ∧ sl' = sl ∧ f' = f ∧ u' = u) ∨
     (r.st ≠ 0 ∧ ok = true ∧ code = 0 ∧ n' = n ∧ sl' = sl ∧ f' = upd f p r ∧ u' = u) ∨
     (r.st ≠ 0 ∧ ok = false ∧ 3 * (n : Int) ≤ 4 * u ∧ n = 2048 ∧ code = 7 ∧ n' = n ∧ sl' = sl ∧ f' = f ∧ u' = u) ∨
     (r.st ≠ 0 ∧ ok = false ∧ 3 * (n : Int) ≤ 4 * u ∧ n ≠ 2048 ∧ code = 0 ∧ n' = 2 * n ∧ ∃ s1 f1 u1 q, Dbl rc0 (2 * n) sl f n s1 f1 u1 ∧ FindAt (2 * n) s1 key q false ∧ sl' = upd s1 q (some key) ∧ f' = upd f1 q r ∧ u' = u1 + 1) ∨
     (r.st ≠ 0 ∧ ok = false ∧ ¬ 3 * (n : Int) ≤ 4 * u ∧ code = 0 ∧ n' = n ∧ sl' = upd sl p (some key) ∧ f' = upd f p r ∧ u' = u + 1)))
theorem pows_four : ∀ p ∈ pows, 4 ≤ p → p % 4 = 0 := by decide
theorem pows_dbl : ∀ p ∈ pows, p ≤ 2048 → p ≠ 2048 → 2 * p ∈ pows ∧ 2 * p ≤ 2048 := by decide
/-- What is there behind a Put, key by key. -/
def PutHolds (n : Nat) (sl : Nat → Option ByteArray) (f : Nat → Rc) (key : ByteArray) (r : Rc) (n' : Nat) (sl' : Nat → Option ByteArray) (f' : Nat → Rc) : Prop :=
  (∀ k c, Holds n' sl' f' k c ↔ (k = key ∧ c = r) ∨ (k ≠ key ∧ Holds n sl f k c)) ∨ (r = rc0 ∧ ∀ k c, Holds n' sl' f' k c ↔ k ≠ key ∧ Holds n sl f k c)
theorem holds_upd {P : Type} {n : Nat} {sl : Nat → Option ByteArray} {u : Int} (t : Tab n sl u) {f : Nat → P} {key : ByteArray} {p : Nat} (hp : Has n sl key p) (r : P) (k : ByteArray) (c : P) : Holds n sl (upd f p r) k c ↔ (k = key ∧ c = r) ∨ (k ≠ key ∧ Holds n sl f k c) := by
  constructor
  · rintro ⟨i, hi, a, b⟩
    by_cases hip : i = p
    · subst hip
      rw [hp.2] at a; simp at a
      rw [upd_same] at b
      exact .inl ⟨a.symm, b.symm⟩
    · rw [upd_other _ _ hip] at b
      refine .inr ⟨fun e => hip (t.dis i p key hi hp.1 (by rw [← e]; exact a) hp.2), i, hi, a, b⟩
  · rintro (⟨rfl, rfl⟩ | ⟨hk, i, hi, a, b⟩)
    · exact ⟨p, hp.1, hp.2, upd_same _ _ _⟩
    · have hip : i ≠ p := fun e => by rw [e, hp.2] at a; simp at a; exact hk a.symm
      exact ⟨i, hi, a, by rw [upd_other _ _ hip]; exact b⟩
theorem holds_ins {P : Type} {n : Nat} {sl : Nat → Option ByteArray} {f : Nat → P} {key : ByteArray} {p : Nat} (hp : p < n) (hn : sl p = none) (hno : ∀ i, ¬ Has n sl key i) (r : P) (k : ByteArray) (c : P) : Holds n (upd sl p (some key)) (upd f p r) k c ↔ (k = key ∧ c = r) ∨ (k ≠ key ∧ Holds n sl f k c) := by
  constructor
  · rintro ⟨i, hi, a, b⟩
    by_cases hip : i = p
    · subst hip
      rw [upd_same] at a b; simp at a
      exact .inl ⟨a.symm, b.symm⟩
    · rw [upd_other _ _ hip] at a b
      exact .inr ⟨fun e => hno i ⟨hi, by rw [← e]; exact a⟩, i, hi, a, b⟩
  · rintro (⟨rfl, rfl⟩ | ⟨hk, i, hi, a, b⟩)
    · exact ⟨p, hp, upd_same _ _ _, upd_same _ _ _⟩
    · have hip : i ≠ p := fun e => by rw [e, hn] at a; simp at a
      exact ⟨i, hi, by rw [upd_other _ _ hip]; exact a, by rw [upd_other _ _ hip]; exact b⟩
theorem find_none {n : Nat} {sl : Nat → Option ByteArray} {key : ByteArray} {p : Nat} (h : FindAt n sl key p false) : sl p = none := by
  obtain ⟨_, _, _, _, h⟩ := h
  simpa using h
theorem find_has {n : Nat} {sl : Nat → Option ByteArray} {key : ByteArray} {p : Nat} (h : FindAt n sl key p true) : Has n sl key p := by
  have hl := h.lt
  obtain ⟨_, _, _, _, h⟩ := h
  exact ⟨hl, by simpa using h⟩
theorem cnt_congr {sl sl' : Nat → Option ByteArray} {n : Nat} (h : ∀ i, i < n → sl i = sl' i) : cnt sl n = cnt sl' n := by
  induction n with
  | zero => rfl
  | succ n ih => rw [cnt, cnt, ih (fun i hi => h i (by omega)), h n (by omega)]
theorem put_law {n : Nat} {sl : Nat → Option ByteArray} {f : Nat → Rc} {u : Int} (o : StOk n sl u) {key : ByteArray} (hk : key.size ≤ maxLen) {r : Rc} {code : Int} {n' : Nat} {sl' : Nat → Option ByteArray} {f' : Nat → Rc} {u' : Int} (s : PutSpec n sl f u key r code n' sl' f' u') :
    StOk n' sl' u' ∧ ((code = 0 ∧ r.check = true ∧ PutHolds n sl f key r n' sl' f') ∨ (code ≠ 0 ∧ n' = n ∧ sl' = sl ∧ f' = f ∧ u' = u)) := by
  have o' := o
  obtain ⟨t, load, lo, hi, pw, keys⟩ := o'
  rcases s with ⟨h, rfl, rfl, rfl, rfl, rfl⟩ | ⟨hc, p, ok, hf, s⟩
  · exact ⟨o, .inr ⟨by omega, rfl, rfl, rfl, rfl⟩⟩
  rcases s with ⟨h0, rfl, rfl, rfl, rfl, s, hd, rfl, rfl⟩ | ⟨h0, rfl, rfl, rfl, rfl, rfl, rfl⟩ | ⟨h0, rfl, rfl, rfl, rfl, rfl, rfl⟩ | ⟨h0, rfl, hfull, hmax, rfl, rfl, rfl, rfl, rfl⟩ | ⟨h0, rfl, hfull, hmax, rfl, rfl, s1, f1, u1, q, hd, hq, rfl, rfl, rfl⟩ | ⟨h0, rfl, hfull, rfl, rfl, rfl, rfl, rfl⟩
  · have hr := check_free hc h0
    have hh := find_has hf
    obtain ⟨fu, hfu, hfree⟩ := o.free
    obtain ⟨t', hH, _⟩ := rm_tab t f hh hfu hfree hd
    refine ⟨⟨t', by omega, lo, hi, pw, fun i k hi hk => ?_⟩, .inl ⟨rfl, hc, .inr ⟨hr, hH⟩⟩⟩
    obtain ⟨_, j, hj, a, _⟩ := (hH k _).1 ⟨i, hi, hk, rfl⟩
    exact keys j k hj a
  · have hr := check_free hc h0
    have hno : ∀ i, ¬ Has n' sl' key i := fun i hi => by simpa using (t.hit hi hf).1
    refine ⟨o, .inl ⟨rfl, hc, .inr ⟨hr, fun k c => ⟨fun h => ⟨fun e => ?_, h⟩, fun h => h.2⟩⟩⟩⟩
    obtain ⟨i, a, _⟩ := h.has
    exact hno i (e ▸ a)
  · have hh := find_has hf
    exact ⟨o, .inl ⟨rfl, hc, .inl (holds_upd t hh r)⟩⟩
  · exact ⟨o, .inr ⟨by omega, rfl, rfl, rfl, rfl⟩⟩
  · have hm : 0 < 2 * n := by omega
    obtain ⟨t1, hu1, hH1⟩ := dbl_inv t hm (Nat.le_refl n) hd
    have hu : u1 = u := by rw [hu1, t.num]
    have hno : ∀ i, ¬ Has (2 * n) s1 key i := fun i hi => by simpa using (t1.hit hi hq).1
    have hno0 : ∀ i, ¬ Has n sl key i := fun i hi => by simpa using (t.hit hi hf).1
    obtain ⟨pw2, hi2⟩ := pows_dbl _ pw (by omega) (by omega)
    refine ⟨⟨t1.ins hq, by push_cast; omega, by omega, by omega, by push_cast; exact pw2, keys_upd (fun i k hi hk => ?_) hk q⟩, .inl ⟨rfl, hc, .inl fun k c => (holds_ins hq.lt (find_none hq) hno r k c).trans ?_⟩⟩
    · obtain ⟨j, hj, a, _⟩ := (hH1 k _).1 ⟨i, hi, hk, rfl⟩
      exact keys j k hj a
    · have e : Holds (2 * n) s1 f1 k c ↔ Holds n sl f k c := hH1 k c
      rw [e]
  · have hno : ∀ i, ¬ Has n' sl key i := fun i hi => by simpa using (t.hit hi hf).1
    have h4 := pows_four _ pw (by omega)
    exact ⟨⟨t.ins hf, by omega, lo, hi, pw, keys_upd keys hk p⟩, .inl ⟨rfl, hc, .inl fun k c => holds_ins hf.lt (find_none hf) hno r k c⟩⟩
theorem put_val {n : Nat} {sl : Nat → Option ByteArray} {f : Nat → Rc} {key : ByteArray} {r : Rc} {n' : Nat} {sl' : Nat → Option ByteArray} {f' : Nat → Rc} (h : PutHolds n sl f key r n' sl' f') {k : ByteArray} {c : Rc} (v : Val rc0 n sl f k c) : Val rc0 n' sl' f' k (if k = key then r else c) := by
  have none_of : (∀ c, ¬ Holds n' sl' f' k c) → ∀ i, ¬ Has n' sl' k i := fun h i hi => h _ ⟨i, hi.1, hi.2, rfl⟩
  rcases h with h | ⟨rfl, h⟩
  · by_cases hk : k = key
    · rw [if_pos hk]
      exact .inl ((h k r).2 (.inl ⟨hk, rfl⟩))
    · rw [if_neg hk]
      rcases v with v | ⟨v, rfl⟩
      · exact .inl ((h k c).2 (.inr ⟨hk, v⟩))
      · refine .inr ⟨none_of fun c hc => ?_, rfl⟩
        rcases (h k c).1 hc with ⟨e, _⟩ | ⟨_, hc⟩
        · exact hk e
        · obtain ⟨i, a, _⟩ := hc.has
          exact v i a
  · by_cases hk : k = key
    · rw [if_pos hk]
      exact .inr ⟨none_of fun c hc => ((h k c).1 hc).1 hk, rfl⟩
    · rw [if_neg hk]
      rcases v with v | ⟨v, rfl⟩
      · exact .inl ((h k c).2 ⟨hk, v⟩)
      · refine .inr ⟨none_of fun c hc => ?_, rfl⟩
        obtain ⟨i, a, _⟩ := ((h k c).1 hc).2.has
        exact v i a
theorem put_new {n : Nat} {sl : Nat → Option ByteArray} {f : Nat → Rc} {u : Int} (o : StOk n sl u) {key : ByteArray} {r : Rc} (hc : r.check = true) (hst : r.st ≠ 0) (hno : ∀ i, ¬ Has n sl key i) {code : Int} {n' : Nat} {sl' : Nat → Option ByteArray} {f' : Nat → Rc} {u' : Int} (s : PutSpec n sl f u key r code n' sl' f' u') :
    (3 * (n : Int) ≤ 4 * u ∧ n = 2048 ∧ code = 7 ∧ n' = n ∧ sl' = sl ∧ f' = f ∧ u' = u) ∨ (code = 0 ∧ u' = u + 1 ∧ ((n' = n ∧ ¬ 3 * (n : Int) ≤ 4 * u) ∨ (n' = 2 * n ∧ 3 * (n : Int) ≤ 4 * u ∧ n ≠ 2048))) := by
  rcases s with ⟨h, _⟩ | ⟨_, p, ok, hf, s⟩
  · rw [hc] at h; simp at h
  · obtain ⟨rfl, _⟩ := Tab.miss hno hf
    rcases s with ⟨h0, _⟩ | ⟨h0, _⟩ | ⟨_, h0, _⟩ | ⟨_, _, hfull, hmax, rfl, rfl, rfl, rfl, rfl⟩ | ⟨_, _, hfull, hmax, rfl, rfl, s1, f1, u1, q, hd, hq, rfl, rfl, rfl⟩ | ⟨_, _, hfull, rfl, rfl, rfl, rfl, rfl⟩
    · exact absurd h0 hst
    · exact absurd h0 hst
    · simp at h0
    · exact .inl ⟨hfull, hmax, rfl, rfl, rfl, rfl, rfl⟩
    · obtain ⟨_, hu1, _⟩ := dbl_inv o.tab (show 0 < 2 * n by have := o.lo; omega) (Nat.le_refl n) hd
      have := o.tab.num
      exact .inr ⟨rfl, by omega, .inr ⟨rfl, hfull, hmax⟩⟩
    · exact .inr ⟨rfl, rfl, .inl ⟨rfl, hfull⟩⟩
theorem put_ok_holds {n : Nat} {sl : Nat → Option ByteArray} {f : Nat → Rc} {u : Int} (o : StOk n sl u) {key : ByteArray} (hk : key.size ≤ maxLen) {r : Rc} (hst : r.st ≠ 0) {n' : Nat} {sl' : Nat → Option ByteArray} {f' : Nat → Rc} {u' : Int} (s : PutSpec n sl f u key r 0 n' sl' f' u') :
    StOk n' sl' u' ∧ ∀ k c, Holds n' sl' f' k c ↔ (k = key ∧ c = r) ∨ (k ≠ key ∧ Holds n sl f k c) := by
  obtain ⟨o', ⟨_, _, h | ⟨h, _⟩⟩ | ⟨h, _⟩⟩ := put_law o hk s
  · exact ⟨o', h⟩
  · rw [h] at hst; exact absurd rfl hst
  · exact absurd rfl h
end Go.Proofs.Ytkhfjedeccjnbaa
