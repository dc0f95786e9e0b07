/-
  The plain laws of Do (28.2). Conditions: none.
-/
import Derived.Test.YthenclenabcmgaaJudge
import Derived.Test.YthenclenabcmgaaGround
namespace Go.Proofs.Ythenclenabcmgaa

/-- No record of the list is free. -/
def NZ (l : List Kp) : Prop := ∀ p ∈ l, p.2.st ≠ 0
theorem nz_put {l : List Kp} (h : NZ l) (k : ByteArray) (r : Rc) : NZ (putK l k r) := by
  intro p hp
  rcases mem_putGo.1 hp with ⟨hp, _⟩ | ⟨hd, hp⟩
  · exact h p hp
  · subst hp
    simpa using hd
theorem getK_cases (k : ByteArray) : ∀ l : List Kp, (getK l k = default ∧ ¬ ∃ p ∈ l, p.1 = k) ∨ ∃ p ∈ l, p.1 = k ∧ getK l k = p.2
  | [] => .inl ⟨rfl, by simp⟩
  | p :: l => by
    rw [getK]
    by_cases h : p.1 = k
    · exact .inr ⟨p, by simp, h, if_pos h⟩
    · rw [if_neg h]
      rcases getK_cases k l with ⟨h1, h2⟩ | ⟨q, h1, h2, h3⟩
      · exact .inl ⟨h1, by rintro ⟨q, hq, e⟩; rcases List.mem_cons.1 hq with rfl | hq; exact h e; exact h2 ⟨q, hq, e⟩⟩
      · exact .inr ⟨q, by simp [h1], h2, h3⟩
theorem get_zero {l : List Kp} (h : NZ l) {k : ByteArray} (hs : (getK l k).st = 0) : getK l k = default := by
  rcases getK_cases k l with ⟨h1, _⟩ | ⟨p, h1, _, h3⟩
  · exact h1
  · rw [h3] at hs; exact absurd hs (h p h1)
theorem get_not {l : List Kp} (h : NZ l) {k : ByteArray} : (getK l k).st = 0 ↔ ¬ ∃ p ∈ l, p.1 = k := by
  rcases getK_cases k l with ⟨h1, h2⟩ | ⟨p, h1, h2, h3⟩
  · exact ⟨fun _ => h2, fun _ => by rw [h1]; rfl⟩
  · exact ⟨fun hs => by rw [h3] at hs; exact absurd hs (h p h1), fun hn => absurd ⟨p, h1, h2⟩ hn⟩
theorem getK_putK_same (l : List Kp) (k : ByteArray) (r : Rc) : getK (putK l k r) k = if r.st = 0 then default else r := by
  unfold putK
  rw [get_putGo_same]
  simp
theorem getK_putK_other (l : List Kp) {k k' : ByteArray} (h : k' ≠ k) (r : Rc) : getK (putK l k r) k' = getK l k' := get_putGo_other h
abbrev PW (ps : List (Nm × Rc)) : Prop := ps.Pairwise (fun a b => a.1.k ≠ b.1.k)
theorem putAll_cons (op client dl : Int) (l : List Kp) (p : Nm × Rc) (ps : List (Nm × Rc)) : putAll op client dl l (p :: ps) = putAll op client dl (putK l p.1.k (afterR op client dl p.1 p.2)) ps := rfl
theorem getK_putAll_other {op client dl : Int} {k : ByteArray} : ∀ {ps : List (Nm × Rc)} {l : List Kp}, (∀ p ∈ ps, p.1.k ≠ k) → getK (putAll op client dl l ps) k = getK l k
  | [], _, _ => rfl
  | p :: ps, l, h => by
    rw [putAll_cons, getK_putAll_other (fun q hq => h q (by simp [hq])), getK_putK_other _ (fun e => h p (by simp) e.symm)]
theorem getK_putAll_mem {op client dl : Int} : ∀ {ps : List (Nm × Rc)} {l : List Kp}, PW ps → ∀ p ∈ ps, getK (putAll op client dl l ps) p.1.k = if (afterR op client dl p.1 p.2).st = 0 then default else afterR op client dl p.1 p.2
  | [], _, _, p, hp => by simp at hp
  | q :: ps, l, h, p, hp => by
    obtain ⟨h1, h2⟩ := List.pairwise_cons.1 h
    rw [putAll_cons]
    rcases List.mem_cons.1 hp with rfl | hp
    · rw [getK_putAll_other (fun x hx => fun e => h1 x hx e.symm), getK_putK_same]
    · exact getK_putAll_mem h2 p hp
theorem srt_pw : ∀ {l : List Nm}, srt l = true → l.Pairwise (fun a b => keyOfN a < keyOfN b)
  | [], _ => List.Pairwise.nil
  | [x], _ => by simp
  | x :: y :: r, h => by
    rw [srt, Bool.and_eq_true, decide_eq_true_eq] at h
    have ih := srt_pw h.2
    refine List.pairwise_cons.2 ⟨fun z hz => ?_, ih⟩
    rcases List.mem_cons.1 hz with rfl | hz
    · exact h.1
    · exact List.lt_trans h.1 ((List.pairwise_cons.1 ih).1 z hz)
theorem withR_pw {l : List Kp} {ns : List Nm} (h : srt ns = true) : PW (withR l ns) := by
  unfold withR PW
  rw [List.pairwise_map]
  exact (srt_pw h).imp fun hab e => by unfold keyOfN at hab; rw [e] at hab; exact List.lt_irrefl _ hab
theorem judge_none {cap op client now : Int} : ∀ {ps : List (Nm × Rc)} {i : Nat} {c : Int}, judgeGo cap op client now i c ps = none → ∀ p ∈ ps, testE p.2.st p.2.ow p.2.dl op client now = 0
  | [], _, _, _, p, hp => by simp at hp
  | q :: ps, i, c, h, p, hp => by
    rw [judgeGo] at h
    split at h
    · rename_i h0
      rcases List.mem_cons.1 hp with rfl | hp
      · unfold oneE at h0
        split at h0
        · simp at h0
        · exact h0
      · exact judge_none h p hp
    · simp at h
theorem judge_go {cap op client ttl now count : Int} {ps : List (Nm × Rc)} (h : (judgeR cap op client ttl now count ps).e = 0) : judgeGo cap op client now 0 count ps = none := by
  unfold judgeR at h
  split at h
  · simp at h
  · cases hj : judgeGo cap op client now 0 count ps with
    | none => rfl
    | some x =>
      obtain ⟨e, i, n⟩ := x
      rw [hj] at h
      simp only at h
      exfalso
      have : ∀ {ps : List (Nm × Rc)} {i : Nat} {c : Int} {e j n}, judgeGo cap op client now i c ps = some (e, j, n) → e ≠ 0 := by
        intro ps
        induction ps with
        | nil => intro i c e j n h; simp [judgeGo] at h
        | cons p ps ih =>
          intro i c e j n h
          rw [judgeGo] at h
          split at h
          · exact ih h
          · rename_i h0; simp only [Option.some.injEq, Prod.mk.injEq] at h; rw [← h.1]; exact h0
      exact this hj h
theorem after_zero {op client dl now : Int} {n : Nm} {r : Rc} (ht : testE r.st r.ow r.dl op client now = 0) (h1 : 1 ≤ op) (h7 : op ≤ 7) (hr : r.st = 0 → r = default) (h0 : (afterR op client dl n r).st = 0) : afterR op client dl n r = default := by
  have hnl : r.st = 0 → liveB r.st r.dl now = false := fun h => by simp [liveB, h]
  rcases (show op = 1 ∨ op = 2 ∨ op = 3 ∨ op = 4 ∨ op = 5 ∨ op = 6 ∨ op = 7 by omega) with rfl | rfl | rfl | rfl | rfl | rfl | rfl
  · simp [afterR, afSt] at h0
  · simp [afterR, afSt] at h0
  · have hs : r.st = 0 := by simpa [afterR, afSt] using h0
    simp [testE, ownedE, hnl hs] at ht
  · rfl
  · rfl
  · rfl
  · have hs : r.st = 0 := by simpa [afterR, afSt] using h0
    have := hr hs
    rw [this]; rfl
/-- After OK each record is as After says. -/
theorem do_ok {cl cap client op ttl now : Int} {l : List Kp} {ns : List Nm} (hz : NZ l) (h : (doR cl cap l client op ttl now ns).e = 0) {n : Nm} (hn : n ∈ ns) : getK (doL cl cap l client op ttl now ns) n.k = afterR op client (now + ttl) n (getK l n.k) := by
  unfold doR at h
  by_cases hp : properB cl client op ttl now ns = true
  · rw [if_pos hp] at h
    have hP : Proper cl client op ttl now ns := of_decide_eq_true hp
    unfold doL
    rw [if_pos ⟨hp, h⟩]
    have hm : (n, getK l n.k) ∈ withR l ns := List.mem_map.2 ⟨n, hn, rfl⟩
    rw [getK_putAll_mem (withR_pw hP.srt) _ hm]
    simp only
    split
    · rename_i h0
      exact (after_zero (judge_none (judge_go h) _ hm) hP.o0 hP.o1 (get_zero hz) h0).symm
    · rfl
  · rw [if_neg hp] at h; simp at h
/-- After an error all are as before. -/
theorem do_bad {cl cap client op ttl now : Int} {l : List Kp} {ns : List Nm} (h : (doR cl cap l client op ttl now ns).e ≠ 0) : doL cl cap l client op ttl now ns = l := by
  unfold doL
  rw [if_neg]
  rintro ⟨hp, h0⟩
  unfold doR at h
  rw [if_pos hp] at h
  exact h h0
theorem nz_do {cl cap client op ttl now : Int} {l : List Kp} {ns : List Nm} (hz : NZ l) : NZ (doL cl cap l client op ttl now ns) := by
  unfold doL
  split
  · have : ∀ (ps : List (Nm × Rc)) (l : List Kp), NZ l → NZ (putAll op client (now + ttl) l ps) := by
      intro ps
      induction ps with
      | nil => intro l h; exact h
      | cons p ps ih => intro l h; rw [putAll_cons]; exact ih _ (nz_put h _ _)
    exact this _ _ hz
  · exact hz
end Go.Proofs.Ythenclenabcmgaa
namespace Go.Proofs.Ythenclenabcmgaa

theorem put_step {l : List Kp} (ha : AscP l) (hz : NZ l) {n : Nm} {op client dl now : Int} (ht : testE (getK l n.k).st (getK l n.k).ow (getK l n.k).dl op client now = 0) (h1 : 1 ≤ op) (h7 : op ≤ 7) :
    ((putK l n.k (afterR op client dl n (getK l n.k))).length : Int) ≤ nextC op l.length (getK l n.k) := by
  obtain ⟨r, hr⟩ : ∃ r, getK l n.k = r := ⟨_, rfl⟩
  have hzero := get_zero hz (k := n.k)
  have hnot := get_not hz (k := n.k)
  rw [hr] at ht hzero hnot ⊢
  have hc : (l.length : Int) ≤ nextC op l.length r := by unfold nextC; split <;> omega
  have hlen := len_putGo (k := n.k) (r := afterR op client dl n r) (d := (afterR op client dl n r).st == 0) ha
  unfold putK
  by_cases hs : (afterR op client dl n r).st = 0
  · have hb : ((afterR op client dl n r).st == 0) = true := by simpa using hs
    rw [hb] at hlen ⊢
    simp only [if_true] at hlen
    split at hlen <;> omega
  · have hb : ((afterR op client dl n r).st == 0) = false := by simpa using hs
    rw [hb] at hlen ⊢
    by_cases hp : ∃ p ∈ l, p.1 = n.k
    · rw [if_pos hp] at hlen; simp at hlen; omega
    · rw [if_neg hp] at hlen
      have hr0 := hnot.2 hp
      have hnl : liveB r.st r.dl now = false := by simp [liveB, hr0]
      have hop : op = 1 := by
        rcases (show op = 1 ∨ op = 2 ∨ op = 3 ∨ op = 4 ∨ op = 5 ∨ op = 6 ∨ op = 7 by omega) with rfl | rfl | rfl | rfl | rfl | rfl | rfl
        · rfl
        · simp [testE, ownedE, hnl] at ht
        · simp [testE, ownedE, hnl] at ht
        · simp [afterR, afSt] at hs
        · simp [afterR, afSt] at hs
        · simp [afterR, afSt] at hs
        · simp [afterR, afSt, hr0] at hs
      subst hop
      have : nextC 1 l.length r = l.length + 1 := by unfold nextC growsI; simp [hr0]
      rw [this]
      simp at hlen
      omega
theorem nextC_mono {op c c' : Int} (r : Rc) (h : c ≤ c') : nextC op c r ≤ nextC op c' r := by unfold nextC; split <;> omega
theorem countTo_mono {op : Int} : ∀ (ps : List (Nm × Rc)) {c c' : Int}, c ≤ c' → countTo op c ps ≤ countTo op c' ps
  | [], _, _, h => h
  | p :: ps, _, _, h => countTo_mono ps (nextC_mono p.2 h)
theorem putAll_len {op client dl now : Int} (h1 : 1 ≤ op) (h7 : op ≤ 7) : ∀ {ps : List (Nm × Rc)} {l : List Kp}, AscP l → NZ l → PW ps → (∀ p ∈ ps, getK l p.1.k = p.2) → (∀ p ∈ ps, testE p.2.st p.2.ow p.2.dl op client now = 0) → ((putAll op client dl l ps).length : Int) ≤ countTo op l.length ps
  | [], l, _, _, _, _, _ => Int.le_refl _
  | p :: ps, l, ha, hz, hp, hg, ht => by
    obtain ⟨h3, h4⟩ := List.pairwise_cons.1 hp
    have hgp := hg p (by simp)
    have htp := ht p (by simp)
    rw [putAll_cons]
    have hs := put_step (n := p.1) (client := client) (dl := dl) (now := now) ha hz (by rw [hgp]; exact htp) h1 h7
    rw [hgp] at hs
    have ih := putAll_len (dl := dl) h1 h7 (ps := ps) (l := putK l p.1.k (afterR op client dl p.1 p.2)) (asc_putGo ha) (nz_put hz _ _) h4 (fun q hq => by rw [getK_putK_other _ (fun e => h3 q hq e.symm)]; exact hg q (by simp [hq])) (fun q hq => ht q (by simp [hq]))
    exact Int.le_trans ih (countTo_mono ps hs)
theorem judge_cap {cap op client now : Int} : ∀ {ps : List (Nm × Rc)} {i : Nat} {c : Int}, judgeGo cap op client now i c ps = none → c ≤ cap → countTo op c ps ≤ cap
  | [], _, _, _, h => h
  | p :: ps, i, c, h, hc => by
    rw [judgeGo] at h
    split at h
    · rename_i h0
      have hnx : nextC op c p.2 ≤ cap := by
        unfold nextC
        split
        · rename_i hg
          unfold oneE at h0
          split at h0
          · simp at h0
          · rename_i hn
            rcases Int.lt_or_le c cap with h2 | h2
            · omega
            · exact absurd ⟨h0, hg, h2⟩ hn
        · exact hc
      show countTo op (nextC op c p.2) ps ≤ cap
      exact judge_cap h hnx
    · simp at h
/-- There are never more records than the desk may have. -/
theorem do_cap {cl cap client op ttl now : Int} {l : List Kp} {ns : List Nm} (ha : AscP l) (hz : NZ l) (hc : (l.length : Int) ≤ cap) : ((doL cl cap l client op ttl now ns).length : Int) ≤ cap := by
  unfold doL
  split
  · rename_i h
    have hP : Proper cl client op ttl now ns := of_decide_eq_true h.1
    have hg := judge_go h.2
    refine Int.le_trans (putAll_len hP.o0 hP.o1 (now := now) ha hz (withR_pw hP.srt) (fun p hp => ?_) (fun p hp => judge_none hg p hp)) (judge_cap hg hc)
    obtain ⟨n, _, rfl⟩ := List.mem_map.1 hp
    rfl
  · exact hc
/-- One step of the search for the reason. -/
theorem judge_step {cap op client now c e : Int} {i j : Nat} {nm : ByteArray} {p : Nm × Rc} {ps : List (Nm × Rc)} (h : judgeGo cap op client now i c (p :: ps) = some (e, j, nm)) :
    (oneE cap op client now c p.2 = 0 ∧ judgeGo cap op client now (i + 1) (nextC op c p.2) ps = some (e, j, nm)) ∨ (oneE cap op client now c p.2 = e ∧ e ≠ 0 ∧ i = j ∧ p.1.a = nm) := by
  rw [judgeGo] at h
  split at h
  · rename_i h0; exact .inl ⟨h0, h⟩
  · rename_i h0
    simp only [Option.some.injEq, Prod.mk.injEq] at h
    exact .inr ⟨h.1, by rw [← h.1]; exact h0, h.2.1, h.2.2⟩
theorem judge_le {cap op client now e : Int} {j : Nat} {nm : ByteArray} : ∀ {ps : List (Nm × Rc)} {i : Nat} {c : Int}, judgeGo cap op client now i c ps = some (e, j, nm) → i ≤ j ∧ j < i + ps.length ∧ ∃ p, ps[j - i]? = some p ∧ p.1.a = nm
  | [], _, _, h => by simp [judgeGo] at h
  | p :: ps, i, c, h => by
    rcases judge_step h with ⟨_, h1⟩ | ⟨_, _, h1, h2⟩
    · obtain ⟨h3, h4, q, h5, h6⟩ := judge_le h1
      refine ⟨by omega, by simp only [List.length_cons]; omega, q, ?_, h6⟩
      rw [show j - i = (j - (i + 1)) + 1 by omega, List.getElem?_cons_succ]
      exact h5
    · subst h1
      exact ⟨Nat.le_refl _, by simp, p, by simp, h2⟩
/-- An error that is about a name. -/
theorem least {cl cap client op ttl now : Int} {l : List Kp} {ns : List Nm} (h0 : (doR cl cap l client op ttl now ns).e ≠ 0) (h1 : (doR cl cap l client op ttl now ns).e ≠ 1) (h8 : (doR cl cap l client op ttl now ns).e ≠ 8) :
    ∃ (j : Nat) (n : Nm), ns[j]? = some n ∧ (doR cl cap l client op ttl now ns).at_ = (j : Int) ∧ (doR cl cap l client op ttl now ns).nm = n.a ∧ (doR cl cap l client op ttl now ns).tick = now ∧ judgeGo cap op client now 0 l.length (withR l ns) = some ((doR cl cap l client op ttl now ns).e, j, n.a) := by
  unfold doR at *
  split at h0
  · rename_i hp
    rw [if_pos hp] at *
    unfold judgeR at *
    split at h0
    · rename_i ho
      rw [if_pos ho] at h8
      exact absurd rfl h8
    · rename_i ho
      rw [if_neg ho] at *
      cases hj : judgeGo cap op client now 0 l.length (withR l ns) with
      | none => rw [hj] at h0; exact absurd rfl h0
      | some x =>
        obtain ⟨e, j, nm⟩ := x
        obtain ⟨_, h3, p, h4, h5⟩ := judge_le hj
        rw [Nat.sub_zero] at h4
        have h6 : j < ns.length := by have := withR_len l ns; omega
        have h7 : ns[j]? = some ns[j] := by simp [h6]
        have h9 := withR_at (l := l) h7
        rw [h9] at h4
        simp only [Option.some.injEq] at h4
        subst h4
        simp only at h5
        subst h5
        exact ⟨j, ns[j], h7, rfl, rfl, rfl, rfl⟩
  · rename_i hp
    rw [if_neg hp] at h1
    exact absurd rfl h1
end Go.Proofs.Ythenclenabcmgaa
namespace Go.Proofs.Ythenclenabcmgaa
open Go.RowKit

/-- A record that is valid and of a client of the desk. -/
def GoodR (cl : Int) (r : Rc) : Prop := checkB r.st r.ow r.dl r.nm = true ∧ r.ow < cl
/-- All records are valid, and of clients of the desk. -/
def GoodL (cl : Int) (l : List Kp) : Prop := ∀ p ∈ l, GoodR cl p.2
theorem held_of {st ow dl s client now : Int} (h : ownedE st ow dl s client now = 0) : st = s := by
  simp only [ownedE] at h
  cases hl : liveB st dl now <;> simp [hl] at h
  omega
theorem good_after {cl op client now dl : Int} {n : Nm} {r : Rc} (hr : r.st ≠ 0 → GoodR cl r) (ht : testE r.st r.ow r.dl op client now = 0) (h1 : 1 ≤ op) (h7 : op ≤ 7) (c0 : 0 ≤ client) (c1 : client < cl) (hcl : cl ≤ 64)
    (hn : goodN n = true) (hd : timedB op = true → 1 ≤ dl ∧ dl ≤ 1073741824) : (afterR op client dl n r).st = 0 ∨ GoodR cl (afterR op client dl n r) := by
  have hn' : 1 ≤ n.a.size ∧ n.a.size ≤ 63 := by simpa [goodN] using hn
  rcases (show op = 1 ∨ op = 2 ∨ op = 3 ∨ op = 4 ∨ op = 5 ∨ op = 6 ∨ op = 7 by omega) with rfl | rfl | rfl | rfl | rfl | rfl | rfl
  · have hd' := hd rfl
    refine .inr ⟨?_, by simpa [afterR, afOw] using c1⟩
    simp [checkB, afterR, afSt, afOw, afNm, afDl, c0, hn', hd']
    omega
  · have hs : r.st = 1 := held_of (s := 1) (by simpa [testE] using ht)
    obtain ⟨hc, ho⟩ := hr (by omega)
    refine .inr ⟨?_, by simpa [afterR, afOw] using ho⟩
    simp [checkB, afterR, afSt, afOw, afNm, afDl, hs] at hc ⊢
    omega
  · have hs : r.st = 1 := held_of (s := 1) (by simpa [testE] using ht)
    have hd' := hd rfl
    obtain ⟨hc, ho⟩ := hr (by omega)
    refine .inr ⟨?_, by simpa [afterR, afOw] using ho⟩
    simp [checkB, afterR, afSt, afOw, afNm, afDl, hs] at hc ⊢
    omega
  · exact .inl rfl
  · exact .inl rfl
  · exact .inl rfl
  · by_cases hs : r.st = 0
    · exact .inl hs
    · exact .inr (hr hs)
theorem good_putK {cl : Int} {l : List Kp} (h : GoodL cl l) {k : ByteArray} {r : Rc} (hr : r.st = 0 ∨ GoodR cl r) : GoodL cl (putK l k r) := by
  intro p hp
  rcases mem_putGo.1 hp with ⟨hp, _⟩ | ⟨hd, hp⟩
  · exact h p hp
  · subst hp
    rcases hr with h0 | h1
    · simp [h0] at hd
    · exact h1
theorem good_getK {cl : Int} {l : List Kp} (h : GoodL cl l) {k : ByteArray} (hs : (getK l k).st ≠ 0) : GoodR cl (getK l k) := by
  rcases getK_cases k l with ⟨h1, _⟩ | ⟨p, hp, _, h3⟩
  · rw [h1] at hs; exact absurd rfl hs
  · rw [h3]; exact h p hp
theorem good_putAll {cl op client now dl : Int} (h1 : 1 ≤ op) (h7 : op ≤ 7) (c0 : 0 ≤ client) (c1 : client < cl) (hcl : cl ≤ 64) (hd : timedB op = true → 1 ≤ dl ∧ dl ≤ 1073741824) :
    ∀ {ps : List (Nm × Rc)} {l : List Kp}, GoodL cl l → (∀ p ∈ ps, testE p.2.st p.2.ow p.2.dl op client now = 0 ∧ goodN p.1 = true ∧ (p.2.st ≠ 0 → GoodR cl p.2)) → GoodL cl (putAll op client dl l ps)
  | [], _, h, _ => h
  | p :: ps, l, h, hp => by
    obtain ⟨t1, t2, t3⟩ := hp p (by simp)
    rw [putAll_cons]
    exact good_putAll h1 h7 c0 c1 hcl hd (good_putK h (good_after t3 t1 h1 h7 c0 c1 hcl t2 hd)) fun q hq => hp q (by simp [hq])
/-- All records stay valid. -/
theorem good_do {cl cap client op ttl now : Int} {l : List Kp} {ns : List Nm} (hcl : cl ≤ 64) (h : GoodL cl l) : GoodL cl (doL cl cap l client op ttl now ns) := by
  unfold doL
  split
  · rename_i hp
    have hP : Proper cl client op ttl now ns := of_decide_eq_true hp.1
    have hg := judge_go hp.2
    have hov : ¬ (timedB op = true ∧ 1073741824 - now < ttl) := by
      intro ho
      have := hp.2
      unfold judgeR at this
      rw [if_pos ho] at this
      simp at this
    refine good_putAll (now := now) hP.o0 hP.o1 hP.c0 hP.c1 hcl (fun ht => ?_) h fun p hpm => ?_
    · have h1 := hP.t1 ht
      have h2 := hP.n0
      have h3 : ¬ 1073741824 - now < ttl := fun e => hov ⟨ht, e⟩
      omega
    · have ht := judge_none hg p hpm
      obtain ⟨n, hn, rfl⟩ := List.mem_map.1 hpm
      exact ⟨ht, List.all_eq_true.1 hP.good n hn, good_getK h⟩
  · exact h
theorem getK_mem {l : List Kp} (h : AscP l) {p : Kp} (hp : p ∈ l) : getK l p.1 = p.2 := by
  rcases getK_cases p.1 l with ⟨_, h2⟩ | ⟨q, hq, e, h3⟩
  · exact absurd ⟨p, hp, rfl⟩ h2
  · rw [h3]
    by_cases hpq : p = q
    · rw [hpq]
    · exfalso
      have h4 : kb p.1 < kb q.1 ∨ kb q.1 < kb p.1 := by
        obtain ⟨i, hi, rfl⟩ := List.mem_iff_getElem.1 hp
        obtain ⟨j, hj, rfl⟩ := List.mem_iff_getElem.1 hq
        rcases Nat.lt_trichotomy i j with h5 | h5 | h5
        · exact .inl (List.pairwise_iff_getElem.1 h i j hi hj h5)
        · subst h5; exact absurd rfl hpq
        · exact .inr (List.pairwise_iff_getElem.1 h j i hj hi h5)
      rw [e] at h4
      rcases h4 with h4 | h4 <;> exact List.lt_irrefl _ h4
/-- There are never more records than the desk may have (as 'do_cap'), the keys ascend, none is free. -/
structure Bounded (cl cap : Int) (l : List Kp) : Prop where
  asc : AscP l
  nz : NZ l
  good : GoodL cl l
  cap : (l.length : Int) ≤ cap
theorem Bounded.start {cl cap : Int} (h : 0 ≤ cap) : Bounded cl cap [] := ⟨List.Pairwise.nil, by simp [NZ], by simp [GoodL], by simpa using h⟩
theorem asc_putAll {op client dl : Int} : ∀ (ps : List (Nm × Rc)) {l : List Kp}, AscP l → AscP (putAll op client dl l ps)
  | [], _, h => h
  | p :: ps, l, h => by rw [putAll_cons]; exact asc_putAll ps (asc_putGo h)
theorem asc_do {cl cap client op ttl now : Int} {l : List Kp} {ns : List Nm} (h : AscP l) : AscP (doL cl cap l client op ttl now ns) := by
  unfold doL
  split
  · exact asc_putAll _ h
  · exact h
theorem Bounded.turn {cl cap client op ttl now : Int} {l : List Kp} {ns : List Nm} (h : Bounded cl cap l) (hcl : cl ≤ 64) : Bounded cl cap (doL cl cap l client op ttl now ns) :=
  ⟨asc_do h.asc, nz_do h.nz, good_do hcl h.good, do_cap h.asc h.nz h.cap⟩
/-- All keys are within a process's reach. -/
def KeyS (l : List Kp) : Prop := ∀ p ∈ l, p.1.size ≤ maxLen
theorem keyS_putK {l : List Kp} {k : ByteArray} {r : Rc} (h : KeyS l) (hk : k.size ≤ maxLen) : KeyS (putK l k r) := by
  intro p hp
  rcases mem_putGo.1 hp with ⟨hp, _⟩ | ⟨_, hp⟩
  · exact h p hp
  · subst hp; exact hk
theorem keyS_putAll {op client dl : Int} : ∀ (ps : List (Nm × Rc)) {l : List Kp}, KeyS l → (∀ p ∈ ps, p.1.k.size ≤ maxLen) → KeyS (putAll op client dl l ps)
  | [], _, h, _ => h
  | p :: ps, l, h, hp => by rw [putAll_cons]; exact keyS_putAll ps (keyS_putK h (hp p (by simp))) fun q hq => hp q (by simp [hq])
theorem keyS_do {cl cap client op ttl now : Int} {l : List Kp} {ns : List Nm} (h : KeyS l) (hn : ∀ n ∈ ns, n.k.size ≤ maxLen) : KeyS (doL cl cap l client op ttl now ns) := by
  unfold doL
  split
  · refine keyS_putAll _ h fun p hp => ?_
    obtain ⟨n, hn', rfl⟩ := List.mem_map.1 hp
    exact hn n hn'
  · exact h
theorem Bounded.at {cl cap : Int} {l : List Kp} (h : Bounded cl cap l) {i : Nat} {p : Kp} (hp : l[i]? = some p) : getK l p.1 = p.2 ∧ p.2.st ≠ 0 ∧ GoodR cl p.2 :=
  ⟨getK_mem h.asc (List.mem_of_getElem? hp), h.nz p (List.mem_of_getElem? hp), h.good p (List.mem_of_getElem? hp)⟩
theorem Bounded.step {cl cap : Int} {l : List Kp} (h : Bounded cl cap l) {i : Nat} {p q : Kp} (hp : l[i]? = some p) (hq : l[i + 1]? = some q) : kb p.1 < kb q.1 := by
  obtain ⟨hi, rfl⟩ := List.getElem?_eq_some_iff.1 hp
  obtain ⟨hj, rfl⟩ := List.getElem?_eq_some_iff.1 hq
  exact List.pairwise_iff_getElem.1 h.asc i (i + 1) hi hj (by omega)
end Go.Proofs.Ythenclenabcmgaa
