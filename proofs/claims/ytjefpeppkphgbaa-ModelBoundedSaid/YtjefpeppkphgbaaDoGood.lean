/-
  All records stay valid, and of clients of the desk (28.2), in plain words.
  Conditions: none.
-/
import Derived.Test.YtjefpeppkphgbaaDoLaw2
namespace Go.Proofs.Ytjefpeppkphgbaa
open Go.RowKit

/-- A record that is valid and of a client of the desk. -/
def GoodR (cl : Int) (r : Rc) : Prop := checkB r.st r.ow r.dl r.nm = true ∧ r.ow < cl
/-- All records are valid, and of clients of the desk. -/
def GoodL (cl : Int) (l : List Kp) : Prop := ∀ p ∈ l, GoodR cl p.2
theorem held_of {st ow dl s client now : Int} (h : ownedE st ow dl s client now = 0) : st = s := by
  simp only [ownedE] at h
  cases hl : liveB st dl now <;> simp [hl] at h
  omega
theorem good_after {cl op client now dl : Int} {n : Nm} {r : Rc} (hr : r.st ≠ 0 → GoodR cl r) (ht : testE r.st r.ow r.dl op client now = 0) (h1 : 1 ≤ op) (h7 : op ≤ 7) (c0 : 0 ≤ client) (c1 : client < cl) (hcl : cl ≤ 64)
    (hn : goodN n = true) (hd : timedB op = true → 1 ≤ dl ∧ dl ≤ 1073741824) : (afterR op client dl n r).st = 0 ∨ GoodR cl (afterR op client dl n r) := by
  have hn' : 1 ≤ n.a.size ∧ n.a.size ≤ 63 := by simpa [goodN] using hn
  rcases (show op = 1 ∨ op = 2 ∨ op = 3 ∨ op = 4 ∨ op = 5 ∨ op = 6 ∨ op = 7 by omega) with rfl | rfl | rfl | rfl | rfl | rfl | rfl
  · have hd' := hd rfl
    refine .inr ⟨?_, by simpa [afterR, afOw] using c1⟩
    simp [checkB, afterR, afSt, afOw, afNm, afDl, c0, hn', hd']
    omega
  · have hs : r.st = 1 := held_of (s := 1) (by simpa [testE] using ht)
    obtain ⟨hc, ho⟩ := hr (by omega)
    refine .inr ⟨?_, by simpa [afterR, afOw] using ho⟩
    simp [checkB, afterR, afSt, afOw, afNm, afDl, hs] at hc ⊢
    omega
  · have hs : r.st = 1 := held_of (s := 1) (by simpa [testE] using ht)
    have hd' := hd rfl
    obtain ⟨hc, ho⟩ := hr (by omega)
    refine .inr ⟨?_, by simpa [afterR, afOw] using ho⟩
    simp [checkB, afterR, afSt, afOw, afNm, afDl, hs] at hc ⊢
    omega
  · exact .inl rfl
  · exact .inl rfl
  · exact .inl rfl
  · by_cases hs : r.st = 0
    · exact .inl hs
    · exact .inr (hr hs)
theorem good_putK {cl : Int} {l : List Kp} (h : GoodL cl l) {k : ByteArray} {r : Rc} (hr : r.st = 0 ∨ GoodR cl r) : GoodL cl (putK l k r) := by
  intro p hp
  rcases mem_putGo.1 hp with ⟨hp, _⟩ | ⟨hd, hp⟩
  · exact h p hp
  · subst hp
    rcases hr with h0 | h1
    · simp [h0] at hd
    · exact h1
theorem good_getK {cl : Int} {l : List Kp} (h : GoodL cl l) {k : ByteArray} (hs : (getK l k).st ≠ 0) : GoodR cl (getK l k) := by
  rcases getK_cases k l with ⟨h1, _⟩ | ⟨p, hp, _, h3⟩
  · rw [h1] at hs; exact absurd rfl hs
  · rw [h3]; exact h p hp
theorem good_putAll {cl op client now dl : Int} (h1 : 1 ≤ op) (h7 : op ≤ 7) (c0 : 0 ≤ client) (c1 : client < cl) (hcl : cl ≤ 64) (hd : timedB op = true → 1 ≤ dl ∧ dl ≤ 1073741824) :
    ∀ {ps : List (Nm × Rc)} {l : List Kp}, GoodL cl l → (∀ p ∈ ps, testE p.2.st p.2.ow p.2.dl op client now = 0 ∧ goodN p.1 = true ∧ (p.2.st ≠ 0 → GoodR cl p.2)) → GoodL cl (putAll op client dl l ps)
  | [], _, h, _ => h
  | p :: ps, l, h, hp => by
    obtain ⟨t1, t2, t3⟩ := hp p (by simp)
    rw [putAll_cons]
    exact good_putAll h1 h7 c0 c1 hcl hd (good_putK h (good_after t3 t1 h1 h7 c0 c1 hcl t2 hd)) fun q hq => hp q (by simp [hq])
/-- All records stay valid. -/
theorem good_do {cl cap client op ttl now : Int} {l : List Kp} {ns : List Nm} (hcl : cl ≤ 64) (h : GoodL cl l) : GoodL cl (doL cl cap l client op ttl now ns) := by
  unfold doL
  split
  · rename_i hp
    have hP : Proper cl client op ttl now ns := of_decide_eq_true hp.1
    have hg := judge_go hp.2
    have hov : ¬ (timedB op = true ∧ 1073741824 - now < ttl) := by
      intro ho
      have := hp.2
      unfold judgeR at this
      rw [if_pos ho] at this
      simp at this
    refine good_putAll (now := now) hP.o0 hP.o1 hP.c0 hP.c1 hcl (fun ht => ?_) h fun p hpm => ?_
    · have h1 := hP.t1 ht
      have h2 := hP.n0
      have h3 : ¬ 1073741824 - now < ttl := fun e => hov ⟨ht, e⟩
      omega
    · have ht := judge_none hg p hpm
      obtain ⟨n, hn, rfl⟩ := List.mem_map.1 hpm
      exact ⟨ht, List.all_eq_true.1 hP.good n hn, good_getK h⟩
  · exact h
theorem getK_mem {l : List Kp} (h : AscP l) {p : Kp} (hp : p ∈ l) : getK l p.1 = p.2 := by
  rcases getK_cases p.1 l with ⟨_, h2⟩ | ⟨q, hq, e, h3⟩
  · exact absurd ⟨p, hp, rfl⟩ h2
  · rw [h3]
    by_cases hpq : p = q
    · rw [hpq]
    · exfalso
      have h4 : kb p.1 < kb q.1 ∨ kb q.1 < kb p.1 := by
        obtain ⟨i, hi, rfl⟩ := List.mem_iff_getElem.1 hp
        obtain ⟨j, hj, rfl⟩ := List.mem_iff_getElem.1 hq
        rcases Nat.lt_trichotomy i j with h5 | h5 | h5
        · exact .inl (List.pairwise_iff_getElem.1 h i j hi hj h5)
        · subst h5; exact absurd rfl hpq
        · exact .inr (List.pairwise_iff_getElem.1 h j i hj hi h5)
      rw [e] at h4
      rcases h4 with h4 | h4 <;> exact List.lt_irrefl _ h4
/-- There are never more records than the desk may have (as 'do_cap'), the keys ascend, none is free. -/
structure Bounded (cl cap : Int) (l : List Kp) : Prop where
  asc : AscP l
  nz : NZ l
  good : GoodL cl l
  cap : (l.length : Int) ≤ cap
theorem Bounded.start {cl cap : Int} (h : 0 ≤ cap) : Bounded cl cap [] := ⟨List.Pairwise.nil, by simp [NZ], by simp [GoodL], by simpa using h⟩
theorem asc_putAll {op client dl : Int} : ∀ (ps : List (Nm × Rc)) {l : List Kp}, AscP l → AscP (putAll op client dl l ps)
  | [], _, h => h
  | p :: ps, l, h => by rw [putAll_cons]; exact asc_putAll ps (asc_putGo h)
theorem asc_do {cl cap client op ttl now : Int} {l : List Kp} {ns : List Nm} (h : AscP l) : AscP (doL cl cap l client op ttl now ns) := by
  unfold doL
  split
  · exact asc_putAll _ h
  · exact h
theorem Bounded.turn {cl cap client op ttl now : Int} {l : List Kp} {ns : List Nm} (h : Bounded cl cap l) (hcl : cl ≤ 64) : Bounded cl cap (doL cl cap l client op ttl now ns) :=
  ⟨asc_do h.asc, nz_do h.nz, good_do hcl h.good, do_cap h.asc h.nz h.cap⟩
/-- All keys are within a process's reach. -/
def KeyS (l : List Kp) : Prop := ∀ p ∈ l, p.1.size ≤ maxLen
theorem keyS_putK {l : List Kp} {k : ByteArray} {r : Rc} (h : KeyS l) (hk : k.size ≤ maxLen) : KeyS (putK l k r) := by
  intro p hp
  rcases mem_putGo.1 hp with ⟨hp, _⟩ | ⟨_, hp⟩
  · exact h p hp
  · subst hp; exact hk
theorem keyS_putAll {op client dl : Int} : ∀ (ps : List (Nm × Rc)) {l : List Kp}, KeyS l → (∀ p ∈ ps, p.1.k.size ≤ maxLen) → KeyS (putAll op client dl l ps)
  | [], _, h, _ => h
  | p :: ps, l, h, hp => by rw [putAll_cons]; exact keyS_putAll ps (keyS_putK h (hp p (by simp))) fun q hq => hp q (by simp [hq])
theorem keyS_do {cl cap client op ttl now : Int} {l : List Kp} {ns : List Nm} (h : KeyS l) (hn : ∀ n ∈ ns, n.k.size ≤ maxLen) : KeyS (doL cl cap l client op ttl now ns) := by
  unfold doL
  split
  · refine keyS_putAll _ h fun p hp => ?_
    obtain ⟨n, hn', rfl⟩ := List.mem_map.1 hp
    exact hn n hn'
  · exact h
theorem Bounded.at {cl cap : Int} {l : List Kp} (h : Bounded cl cap l) {i : Nat} {p : Kp} (hp : l[i]? = some p) : getK l p.1 = p.2 ∧ p.2.st ≠ 0 ∧ GoodR cl p.2 :=
  ⟨getK_mem h.asc (List.mem_of_getElem? hp), h.nz p (List.mem_of_getElem? hp), h.good p (List.mem_of_getElem? hp)⟩
theorem Bounded.step {cl cap : Int} {l : List Kp} (h : Bounded cl cap l) {i : Nat} {p q : Kp} (hp : l[i]? = some p) (hq : l[i + 1]? = some q) : kb p.1 < kb q.1 := by
  obtain ⟨hi, rfl⟩ := List.getElem?_eq_some_iff.1 hp
  obtain ⟨hj, rfl⟩ := List.getElem?_eq_some_iff.1 hq
  exact List.pairwise_iff_getElem.1 h.asc i (i + 1) hi hj (by omega)
end Go.Proofs.Ytjefpeppkphgbaa
