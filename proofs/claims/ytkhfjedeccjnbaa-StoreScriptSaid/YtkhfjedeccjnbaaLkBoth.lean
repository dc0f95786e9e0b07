/-
  The plain law of locks beside their reference: the same answers, the same slots (25.2, 25.3, 25.4).
  Conditions: none.
-/
import Derived.Test.YtkhfjedeccjnbaaWay
namespace Go.Proofs.Ytkhfjedeccjnbaa
open Go.RowKit Go.Sort
set_option maxHeartbeats 1000000

/-- The client of a key in the reference's list of locks, or -1. -/
def lkOwner (os : List Rc) (key : ByteArray) : Int := match os.find? (fun r => decide (r.nm = key)) with
  | some r => r.ow
  | none => -1
theorem lkOwner_none {os : List Rc} {key : ByteArray} (h : ∀ r ∈ os, r.nm ≠ key) : lkOwner os key = -1 := by
  unfold lkOwner
  rw [List.find?_eq_none.2 (fun r hr => by simpa using h r hr)]
theorem lkOwner_some {os : List Rc} {key : ByteArray} (h : ∃ r ∈ os, r.nm = key) : ∃ r ∈ os, r.nm = key ∧ lkOwner os key = r.ow := by
  obtain ⟨r, hr, hk⟩ := h
  unfold lkOwner
  cases hf : os.find? (fun r => decide (r.nm = key)) with
  | none => exact absurd hk (by simpa using List.find?_eq_none.1 hf r hr)
  | some r' =>
    refine ⟨r', List.mem_of_find?_eq_some hf, ?_, rfl⟩
    simpa using List.find?_some hf
/-- The first lock of the key is lock i. -/
theorem lkOwner_at {os : List Rc} {key : ByteArray} {i : Nat} {r : Rc} (hi : os[i]? = some r) (hk : r.nm = key) (hno : ∀ j r', j < i → os[j]? = some r' → r'.nm ≠ key) : lkOwner os key = r.ow := by
  induction os generalizing i with
  | nil => simp at hi
  | cons a os ih =>
    cases i with
    | zero =>
      simp at hi; subst hi
      simp [lkOwner, hk]
    | succ i =>
      have ha : a.nm ≠ key := hno 0 a (by omega) (by simp)
      have := ih (i := i) (by simpa using hi) (fun j r' hj h => hno (j + 1) r' (by omega) (by simpa using h))
      rw [← this]
      simp [lkOwner, ha]
theorem lkOwner_end {os : List Rc} {key : ByteArray} (hno : ∀ j r', j < os.length → os[j]? = some r' → r'.nm ≠ key) : lkOwner os key = -1 :=
  lkOwner_none fun r hr => by
    obtain ⟨j, hj, rfl⟩ := List.getElem_of_mem hr
    exact hno j _ hj (List.getElem?_eq_getElem hj)
/-- The reference's list of locks speaks of the same locks. -/
structure LCpl (n : Nat) (sl : Nat → Option ByteArray) (ow : Nat → Int) (u : Int) (os : List Rc) : Prop where
  holds : ∀ key c, Holds n sl ow key c ↔ ∃ r ∈ os, r.nm = key ∧ r.ow = c
  num : (os.length : Int) = u
  dis : (os.map (·.nm)).Nodup
  own : ∀ r ∈ os, 0 ≤ r.ow ∧ r.ow < 64
theorem lcpl_new (n : Nat) : LCpl n (fun _ => none) (fun _ => 0) 0 [] :=
  ⟨fun key c => ⟨fun ⟨i, _, h, _⟩ => by simp at h, fun ⟨r, h, _⟩ => by simp at h⟩, rfl, by simp, by simp⟩
section
variable {n : Nat} {sl : Nat → Option ByteArray} {ow : Nat → Int} {u : Int} {os : List Rc} {key : ByteArray}
theorem LCpl.owner (k : LCpl n sl ow u os) (t : Tab n sl u) {p : Nat} {ok : Bool} (f : FindAt n sl key p ok) : lkOwner os key = if ok then ow p else -1 := by
  cases ok
  · refine lkOwner_none fun r hr e => ?_
    obtain ⟨i, hi, hs, _⟩ := (k.holds key r.ow).2 ⟨r, hr, e, rfl⟩
    have := (t.hit ⟨hi, hs⟩ f).1
    simp at this
  · have hh := find_has f
    obtain ⟨r, hr, e, _⟩ := (k.holds key (ow p)).1 ⟨p, hh.1, hh.2, rfl⟩
    obtain ⟨r', hr', e', h⟩ := lkOwner_some ⟨r, hr, e⟩
    obtain ⟨i, hi, hs, ho⟩ := (k.holds key r'.ow).2 ⟨r', hr', e', rfl⟩
    have hip := t.dis i p key hi hh.1 hs hh.2
    rw [h, ← ho, hip]; rfl
theorem LCpl.has (k : LCpl n sl ow u os) (h : 0 ≤ lkOwner os key) : ∃ p, Has n sl key p := by
  by_cases hx : ∃ r ∈ os, r.nm = key
  · obtain ⟨r, hr, e⟩ := hx
    obtain ⟨i, hi, hs, _⟩ := (k.holds key r.ow).2 ⟨r, hr, e, rfl⟩
    exact ⟨i, hi, hs⟩
  · rw [lkOwner_none (fun r hr e => hx ⟨r, hr, e⟩)] at h
    omega
theorem LCpl.hasnt (k : LCpl n sl ow u os) (h : lkOwner os key < 0) (i : Nat) : ¬ Has n sl key i := fun hi => by
  obtain ⟨r, hr, e⟩ := (k.holds key (ow i)).1 ⟨i, hi.1, hi.2, rfl⟩
  obtain ⟨r', hr', _, e2⟩ := lkOwner_some ⟨r, hr, e.1⟩
  have := (k.own r' hr').1
  omega
/-- What the reference's Acquire does. -/
def RAcqSpec (n : Nat) (sl : Nat → Option ByteArray) (os : List Rc) (key : ByteArray) (c code : Int) (sl' : Nat → Option ByteArray) (os' : List Rc) : Prop :=
  (¬ (0 ≤ c ∧ c < 64) ∧ code = 3 ∧ sl' = sl ∧ os' = os) ∨
  ((0 ≤ c ∧ c < 64) ∧
    ((lkOwner os key = c ∧ code = 0 ∧ sl' = sl ∧ os' = os) ∨
     (lkOwner os key ≠ c ∧ 0 ≤ lkOwner os key ∧ code = 27 ∧ sl' = sl ∧ os' = os) ∨
     (lkOwner os key ≠ c ∧ lkOwner os key < 0 ∧ n < os.length + 2 ∧ code = 7 ∧ sl' = sl ∧ os' = os) ∨
     (lkOwner os key ≠ c ∧ lkOwner os key < 0 ∧ ¬ n < os.length + 2 ∧ code = 0 ∧ (∃ p, FindAt n sl key p false ∧ sl' = upd sl p (some key)) ∧ os' = os ++ [⟨0, c, key, 0⟩])))
theorem both_acq (o : LOk n sl u) (k : LCpl n sl ow u os) {c code : Int} {sl' : Nat → Option ByteArray} {ow' : Nat → Int} {u' : Int} (s : AcqSpec n sl ow u key c code sl' ow' u') {code2 : Int} {sl2 : Nat → Option ByteArray} {os2 : List Rc} (r : RAcqSpec n sl os key c code2 sl2 os2) :
    code2 = code ∧ sl2 = sl' ∧ LCpl n sl' ow' u' os2 := by
  rcases s with ⟨hc, rfl, rfl, rfl, rfl⟩ | ⟨hc, p, ok, f, s⟩
  · rcases r with ⟨_, rfl, rfl, rfl⟩ | ⟨h, _⟩
    · exact ⟨rfl, rfl, k⟩
    · exact absurd h hc
  rcases r with ⟨h, _⟩ | ⟨_, r⟩
  · exact absurd hc h
  have ho := k.owner o.tab f
  have hbd : ok = true → 0 ≤ ow p := fun e => by
    subst e
    have hh := find_has f
    obtain ⟨r, hr, _, e⟩ := (k.holds key (ow p)).1 ⟨p, hh.1, hh.2, rfl⟩
    rw [← e]; exact (k.own r hr).1
  have hnum := k.num
  rcases s with ⟨rfl, h1, rfl, rfl, rfl, rfl⟩ | ⟨rfl, h1, rfl, rfl, rfl, rfl⟩ | ⟨rfl, h1, rfl, rfl, rfl, rfl⟩ | ⟨rfl, h1, rfl, rfl, rfl, rfl⟩
  · have hb := hbd rfl
    simp only [if_true] at ho
    rw [ho] at r
    rcases r with ⟨h, _⟩ | ⟨_, _, rfl, rfl, rfl⟩ | ⟨_, h, _⟩ | ⟨_, h, _⟩
    · exact absurd h h1
    · exact ⟨rfl, rfl, k⟩
    · omega
    · omega
  · simp only [if_true] at ho
    rw [ho] at r
    rcases r with ⟨_, rfl, rfl, rfl⟩ | ⟨h, _⟩ | ⟨h, _⟩ | ⟨h, _⟩
    · exact ⟨rfl, rfl, k⟩
    · exact absurd h1 h
    · exact absurd h1 h
    · exact absurd h1 h
  · simp only [Bool.false_eq_true, if_false] at ho
    rw [ho] at r
    rcases r with ⟨h, _⟩ | ⟨_, h, _⟩ | ⟨_, _, _, rfl, rfl, rfl⟩ | ⟨_, _, h, _⟩
    · omega
    · omega
    · exact ⟨rfl, rfl, k⟩
    · omega
  · simp only [Bool.false_eq_true, if_false] at ho
    have hno := k.hasnt (key := key) (by omega)
    rw [ho] at r
    rcases r with ⟨h, _⟩ | ⟨_, h, _⟩ | ⟨_, _, h, _⟩ | ⟨_, _, _, rfl, ⟨q, fq, rfl⟩, rfl⟩
    · omega
    · omega
    · omega
    · obtain ⟨rfl, _⟩ := f.same fq
      refine ⟨rfl, rfl, fun a b => ?_, by simp; omega, ?_, ?_⟩
      · rw [holds_ins f.lt (find_none f) hno c a b, k.holds]
        constructor
        · rintro (⟨rfl, rfl⟩ | ⟨_, r, hr, h⟩)
          · exact ⟨⟨0, b, a, 0⟩, by simp, rfl, rfl⟩
          · exact ⟨r, by simp [hr], h⟩
        · rintro ⟨r, hr, h1, h2⟩
          rcases List.mem_append.1 hr with hr | hr
          · refine .inr ⟨fun e => ?_, r, hr, h1, h2⟩
            obtain ⟨i, hi, hs, _⟩ := (k.holds key r.ow).2 ⟨r, hr, by rw [h1, e], rfl⟩
            exact hno i ⟨hi, hs⟩
          · rw [List.mem_singleton] at hr
            subst hr
            exact .inl ⟨h1.symm, h2.symm⟩
      · rw [List.map_append, List.nodup_append]
        refine ⟨k.dis, by simp, fun a ha b hb e => ?_⟩
        simp at hb
        obtain ⟨r, hr, rfl⟩ := List.mem_map.1 ha
        obtain ⟨i, hi, hs, _⟩ := (k.holds key r.ow).2 ⟨r, hr, by rw [e, hb], rfl⟩
        exact hno i ⟨hi, hs⟩
      · intro r hr
        rcases List.mem_append.1 hr with hr | hr
        · exact k.own r hr
        · rw [List.mem_singleton] at hr
          subst hr
          exact hc
theorem len_filter {os : List Rc} {key : ByteArray} (hd : (os.map (·.nm)).Nodup) (h : ∃ r ∈ os, r.nm = key) : (os.filter fun r => !decide (r.nm = key)).length + 1 = os.length := by
  induction os with
  | nil => obtain ⟨r, h, _⟩ := h; simp at h
  | cons a os ih =>
    rw [List.map_cons, List.nodup_cons] at hd
    by_cases ha : a.nm = key
    · have hx : os.filter (fun r => !decide (r.nm = key)) = os := List.filter_eq_self.2 fun r hr => by
        have : r.nm ≠ key := fun e => hd.1 (by rw [ha, ← e]; exact List.mem_map_of_mem hr)
        simpa using this
      rw [List.filter_cons]
      simp [ha, hx]
    · have hx := ih hd.2 (by
        obtain ⟨r, hr, e⟩ := h
        rcases List.mem_cons.1 hr with rfl | hr
        · exact absurd e ha
        · exact ⟨r, hr, e⟩)
      rw [List.filter_cons]
      simp [ha]
      omega
/-- What the reference's Release does. -/
def RRelSpec (n : Nat) (sl : Nat → Option ByteArray) (os : List Rc) (key : ByteArray) (c code : Int) (sl' : Nat → Option ByteArray) (os' : List Rc) : Prop :=
  (¬ (0 ≤ c ∧ c < 64) ∧ code = 3 ∧ sl' = sl ∧ os' = os) ∨
  ((0 ≤ c ∧ c < 64) ∧
    ((lkOwner os key < 0 ∧ code = 23 ∧ sl' = sl ∧ os' = os) ∨
     (0 ≤ lkOwner os key ∧ lkOwner os key ≠ c ∧ code = 25 ∧ sl' = sl ∧ os' = os) ∨
     (0 ≤ lkOwner os key ∧ lkOwner os key = c ∧ code = 0 ∧ (∃ p, Has n sl key p ∧ ∃ s, RmDone n (rmStart n sl (fun _ => ()) p) s ∧ sl' = s.sl) ∧ os' = os.filter fun r => !decide (r.nm = key))))
theorem both_rel (o : LOk n sl u) (k : LCpl n sl ow u os) {c code : Int} {sl' : Nat → Option ByteArray} {ow' : Nat → Int} {u' : Int} (s : RelSpec n sl ow u key c code sl' ow' u') {code2 : Int} {sl2 : Nat → Option ByteArray} {os2 : List Rc} (r : RRelSpec n sl os key c code2 sl2 os2) :
    code2 = code ∧ sl2 = sl' ∧ LCpl n sl' ow' u' os2 := by
  rcases s with ⟨hc, rfl, rfl, rfl, rfl⟩ | ⟨hc, p, ok, f, s⟩
  · rcases r with ⟨_, rfl, rfl, rfl⟩ | ⟨h, _⟩
    · exact ⟨rfl, rfl, k⟩
    · exact absurd h hc
  rcases r with ⟨h, _⟩ | ⟨_, r⟩
  · exact absurd hc h
  have ho := k.owner o.tab f
  have hbd : ok = true → 0 ≤ ow p := fun e => by
    subst e
    have hh := find_has f
    obtain ⟨r, hr, _, e⟩ := (k.holds key (ow p)).1 ⟨p, hh.1, hh.2, rfl⟩
    rw [← e]; exact (k.own r hr).1
  have hnum := k.num
  rcases s with ⟨rfl, rfl, rfl, rfl, rfl⟩ | ⟨rfl, h1, rfl, rfl, rfl, rfl⟩ | ⟨rfl, h1, rfl, rfl, s, hd, rfl, rfl⟩
  · simp only [Bool.false_eq_true, if_false] at ho
    rw [ho] at r
    rcases r with ⟨_, rfl, rfl, rfl⟩ | ⟨h, _⟩ | ⟨h, _⟩
    · exact ⟨rfl, rfl, k⟩
    · omega
    · omega
  · have hb := hbd rfl
    simp only [if_true] at ho
    rw [ho] at r
    rcases r with ⟨h, _⟩ | ⟨_, _, rfl, rfl, rfl⟩ | ⟨_, h, _⟩
    · omega
    · exact ⟨rfl, rfl, k⟩
    · exact absurd h h1
  · have hb := hbd rfl
    simp only [if_true] at ho
    rw [ho] at r
    rcases r with ⟨h, _⟩ | ⟨_, h, _⟩ | ⟨_, _, rfl, ⟨q, hq, s2, hd2, rfl⟩, rfl⟩
    · omega
    · exact absurd h1 h
    · have hh := find_has f
      have hqp := o.tab.dis q p key hq.1 hh.1 hq.2 hh.2
      subst hqp
      obtain ⟨fu, hfu, hfree⟩ := o.free
      obtain ⟨_, hH, _⟩ := rm_tab o.tab ow hh hfu hfree hd
      refine ⟨rfl, rmDone_same hd2 hd, fun a b => ?_, ?_, ?_, ?_⟩
      · rw [hH, k.holds]
        constructor
        · rintro ⟨h0, r, hr, h1, h2⟩
          exact ⟨r, List.mem_filter.2 ⟨hr, by simpa [h1] using h0⟩, h1, h2⟩
        · rintro ⟨r, hr, h1, h2⟩
          obtain ⟨hr, h3⟩ := List.mem_filter.1 hr
          exact ⟨by rw [← h1]; simpa using h3, r, hr, h1, h2⟩
      · obtain ⟨r, hr, e, _⟩ := (k.holds key (ow q)).1 ⟨q, hh.1, hh.2, rfl⟩
        have := len_filter k.dis ⟨r, hr, e⟩
        omega
      · exact (List.filter_sublist.map _).nodup k.dis
      · exact fun r hr => k.own r (List.mem_filter.1 hr).1
/-- What the clients' keys are. -/
theorem LCpl.held (k : LCpl n sl ow u os) (t : Tab n sl u) (c : Int) {hs : List (List UInt8)} (ha : Asc hs) (hm : ∀ x, x ∈ hs ↔ ∃ r ∈ os, r.ow = c ∧ r.nm.data.toList = x) : keysK sl (fun j => ow j == c) n = hs := by
  refine asc_unique (keysK_asc t.dis) ha fun x => ?_
  rw [mem_keysK, hm]
  constructor
  · rintro ⟨j, key, hj, h1, h2, rfl⟩
    obtain ⟨r, hr, e1, e2⟩ := (k.holds key (ow j)).1 ⟨j, hj, h1, rfl⟩
    exact ⟨r, hr, e2.trans (by simpa using h2), by rw [e1]⟩
  · rintro ⟨r, hr, e1, rfl⟩
    obtain ⟨j, hj, h1, h2⟩ := (k.holds r.nm r.ow).2 ⟨r, hr, rfl, rfl⟩
    exact ⟨j, r.nm, hj, h1, by rw [h2]; simpa using e1, rfl⟩
theorem tab_sorted (t : Tab n sl u) {hs : List (List UInt8)} (ha : Asc hs) (hm : ∀ x, x ∈ hs ↔ ∃ j k, j < n ∧ sl j = some k ∧ k.data.toList = x) : keysK sl (fun _ => true) n = hs := by
  refine asc_unique (keysK_asc t.dis) ha fun x => ?_
  rw [mem_keysK, hm]
  simp
end
end Go.Proofs.Ytkhfjedeccjnbaa
