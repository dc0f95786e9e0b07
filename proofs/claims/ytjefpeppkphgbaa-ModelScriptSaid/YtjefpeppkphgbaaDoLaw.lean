/-
  What an operation does to the records (28.2), in plain words.
  Conditions: none.
-/
import Derived.Test.YtjefpeppkphgbaaJudge
namespace Go.Proofs.Ytjefpeppkphgbaa

/-- No record of the list is free. -/
def NZ (l : List Kp) : Prop := ∀ p ∈ l, p.2.st ≠ 0
theorem nz_put {l : List Kp} (h : NZ l) (k : ByteArray) (r : Rc) : NZ (putK l k r) := by
  intro p hp
  rcases mem_putGo.1 hp with ⟨hp, _⟩ | ⟨hd, hp⟩
  · exact h p hp
  · subst hp
    simpa using hd
theorem getK_cases (k : ByteArray) : ∀ l : List Kp, (getK l k = default ∧ ¬ ∃ p ∈ l, p.1 = k) ∨ ∃ p ∈ l, p.1 = k ∧ getK l k = p.2
  | [] => .inl ⟨rfl, by simp⟩
  | p :: l => by
    rw [getK]
    by_cases h : p.1 = k
    · exact .inr ⟨p, by simp, h, if_pos h⟩
    · rw [if_neg h]
      rcases getK_cases k l with ⟨h1, h2⟩ | ⟨q, h1, h2, h3⟩
      · exact .inl ⟨h1, by rintro ⟨q, hq, e⟩; rcases List.mem_cons.1 hq with rfl | hq; exact h e; exact h2 ⟨q, hq, e⟩⟩
      · exact .inr ⟨q, by simp [h1], h2, h3⟩
theorem get_zero {l : List Kp} (h : NZ l) {k : ByteArray} (hs : (getK l k).st = 0) : getK l k = default := by
  rcases getK_cases k l with ⟨h1, _⟩ | ⟨p, h1, _, h3⟩
  · exact h1
  · rw [h3] at hs; exact absurd hs (h p h1)
theorem get_not {l : List Kp} (h : NZ l) {k : ByteArray} : (getK l k).st = 0 ↔ ¬ ∃ p ∈ l, p.1 = k := by
  rcases getK_cases k l with ⟨h1, h2⟩ | ⟨p, h1, h2, h3⟩
  · exact ⟨fun _ => h2, fun _ => by rw [h1]; rfl⟩
  · exact ⟨fun hs => by rw [h3] at hs; exact absurd hs (h p h1), fun hn => absurd ⟨p, h1, h2⟩ hn⟩
theorem getK_putK_same (l : List Kp) (k : ByteArray) (r : Rc) : getK (putK l k r) k = if r.st = 0 then default else r := by
  unfold putK
  rw [get_putGo_same]
  simp
theorem getK_putK_other (l : List Kp) {k k' : ByteArray} (h : k' ≠ k) (r : Rc) : getK (putK l k r) k' = getK l k' := get_putGo_other h
abbrev PW (ps : List (Nm × Rc)) : Prop := ps.Pairwise (fun a b => a.1.k ≠ b.1.k)
theorem putAll_cons (op client dl : Int) (l : List Kp) (p : Nm × Rc) (ps : List (Nm × Rc)) : putAll op client dl l (p :: ps) = putAll op client dl (putK l p.1.k (afterR op client dl p.1 p.2)) ps := rfl
theorem getK_putAll_other {op client dl : Int} {k : ByteArray} : ∀ {ps : List (Nm × Rc)} {l : List Kp}, (∀ p ∈ ps, p.1.k ≠ k) → getK (putAll op client dl l ps) k = getK l k
  | [], _, _ => rfl
  | p :: ps, l, h => by
    rw [putAll_cons, getK_putAll_other (fun q hq => h q (by simp [hq])), getK_putK_other _ (fun e => h p (by simp) e.symm)]
theorem getK_putAll_mem {op client dl : Int} : ∀ {ps : List (Nm × Rc)} {l : List Kp}, PW ps → ∀ p ∈ ps, getK (putAll op client dl l ps) p.1.k = if (afterR op client dl p.1 p.2).st = 0 then default else afterR op client dl p.1 p.2
  | [], _, _, p, hp => by simp at hp
  | q :: ps, l, h, p, hp => by
    obtain ⟨h1, h2⟩ := List.pairwise_cons.1 h
    rw [putAll_cons]
    rcases List.mem_cons.1 hp with rfl | hp
    · rw [getK_putAll_other (fun x hx => fun e => h1 x hx e.symm), getK_putK_same]
    · exact getK_putAll_mem h2 p hp
theorem srt_pw : ∀ {l : List Nm}, srt l = true → l.Pairwise (fun a b => keyOfN a < keyOfN b)
  | [], _ => List.Pairwise.nil
  | [x], _ => by simp
  | x :: y :: r, h => by
    rw [srt, Bool.and_eq_true, decide_eq_true_eq] at h
    have ih := srt_pw h.2
    refine List.pairwise_cons.2 ⟨fun z hz => ?_, ih⟩
    rcases List.mem_cons.1 hz with rfl | hz
    · exact h.1
    · exact List.lt_trans h.1 ((List.pairwise_cons.1 ih).1 z hz)
theorem withR_pw {l : List Kp} {ns : List Nm} (h : srt ns = true) : PW (withR l ns) := by
  unfold withR PW
  rw [List.pairwise_map]
  exact (srt_pw h).imp fun hab e => by unfold keyOfN at hab; rw [e] at hab; exact List.lt_irrefl _ hab
theorem judge_none {cap op client now : Int} : ∀ {ps : List (Nm × Rc)} {i : Nat} {c : Int}, judgeGo cap op client now i c ps = none → ∀ p ∈ ps, testE p.2.st p.2.ow p.2.dl op client now = 0
  | [], _, _, _, p, hp => by simp at hp
  | q :: ps, i, c, h, p, hp => by
    rw [judgeGo] at h
    split at h
    · rename_i h0
      rcases List.mem_cons.1 hp with rfl | hp
      · unfold oneE at h0
        split at h0
        · simp at h0
        · exact h0
      · exact judge_none h p hp
    · simp at h
theorem judge_go {cap op client ttl now count : Int} {ps : List (Nm × Rc)} (h : (judgeR cap op client ttl now count ps).e = 0) : judgeGo cap op client now 0 count ps = none := by
  unfold judgeR at h
  split at h
  · simp at h
  · cases hj : judgeGo cap op client now 0 count ps with
    | none => rfl
    | some x =>
      obtain ⟨e, i, n⟩ := x
      rw [hj] at h
      simp only at h
      exfalso
      have : ∀ {ps : List (Nm × Rc)} {i : Nat} {c : Int} {e j n}, judgeGo cap op client now i c ps = some (e, j, n) → e ≠ 0 := by
        intro ps
        induction ps with
        | nil => intro i c e j n h; simp [judgeGo] at h
        | cons p ps ih =>
          intro i c e j n h
          rw [judgeGo] at h
          split at h
          · exact ih h
          · rename_i h0; simp only [Option.some.injEq, Prod.mk.injEq] at h; rw [← h.1]; exact h0
      exact this hj h
theorem after_zero {op client dl now : Int} {n : Nm} {r : Rc} (ht : testE r.st r.ow r.dl op client now = 0) (h1 : 1 ≤ op) (h7 : op ≤ 7) (hr : r.st = 0 → r = default) (h0 : (afterR op client dl n r).st = 0) : afterR op client dl n r = default := by
  have hnl : r.st = 0 → liveB r.st r.dl now = false := fun h => by simp [liveB, h]
  rcases (show op = 1 ∨ op = 2 ∨ op = 3 ∨ op = 4 ∨ op = 5 ∨ op = 6 ∨ op = 7 by omega) with rfl | rfl | rfl | rfl | rfl | rfl | rfl
  · simp [afterR, afSt] at h0
  · simp [afterR, afSt] at h0
  · have hs : r.st = 0 := by simpa [afterR, afSt] using h0
    simp [testE, ownedE, hnl hs] at ht
  · rfl
  · rfl
  · rfl
  · have hs : r.st = 0 := by simpa [afterR, afSt] using h0
    have := hr hs
    rw [this]; rfl
/-- After OK each record is as After says. -/
theorem do_ok {cl cap client op ttl now : Int} {l : List Kp} {ns : List Nm} (hz : NZ l) (h : (doR cl cap l client op ttl now ns).e = 0) {n : Nm} (hn : n ∈ ns) : getK (doL cl cap l client op ttl now ns) n.k = afterR op client (now + ttl) n (getK l n.k) := by
  unfold doR at h
  by_cases hp : properB cl client op ttl now ns = true
  · rw [if_pos hp] at h
    have hP : Proper cl client op ttl now ns := of_decide_eq_true hp
    unfold doL
    rw [if_pos ⟨hp, h⟩]
    have hm : (n, getK l n.k) ∈ withR l ns := List.mem_map.2 ⟨n, hn, rfl⟩
    rw [getK_putAll_mem (withR_pw hP.srt) _ hm]
    simp only
    split
    · rename_i h0
      exact (after_zero (judge_none (judge_go h) _ hm) hP.o0 hP.o1 (get_zero hz) h0).symm
    · rfl
  · rw [if_neg hp] at h; simp at h
/-- After an error all are as before. -/
theorem do_bad {cl cap client op ttl now : Int} {l : List Kp} {ns : List Nm} (h : (doR cl cap l client op ttl now ns).e ≠ 0) : doL cl cap l client op ttl now ns = l := by
  unfold doL
  rw [if_neg]
  rintro ⟨hp, h0⟩
  unfold doR at h
  rw [if_pos hp] at h
  exact h h0
theorem nz_do {cl cap client op ttl now : Int} {l : List Kp} {ns : List Nm} (hz : NZ l) : NZ (doL cl cap l client op ttl now ns) := by
  unfold doL
  split
  · have : ∀ (ps : List (Nm × Rc)) (l : List Kp), NZ l → NZ (putAll op client (now + ttl) l ps) := by
      intro ps
      induction ps with
      | nil => intro l h; exact h
      | cons p ps ih => intro l h; rw [putAll_cons]; exact ih _ (nz_put h _ _)
    exact this _ _ hz
  · exact hz
end Go.Proofs.Ytjefpeppkphgbaa
