/-
  How many records an operation leaves, which name an error is about, and that all records stay valid (28.2), in plain words.
  Conditions: none.
-/
import Derived.Test.YtjefpeppkphgbaaDoLaw
import Derived.Test.YtjefpeppkphgbaaCheck
namespace Go.Proofs.Ytjefpeppkphgbaa

theorem put_step {l : List Kp} (ha : AscP l) (hz : NZ l) {n : Nm} {op client dl now : Int} (ht : testE (getK l n.k).st (getK l n.k).ow (getK l n.k).dl op client now = 0) (h1 : 1 ≤ op) (h7 : op ≤ 7) :
    ((putK l n.k (afterR op client dl n (getK l n.k))).length : Int) ≤ nextC op l.length (getK l n.k) := by
  obtain ⟨r, hr⟩ : ∃ r, getK l n.k = r := ⟨_, rfl⟩
  have hzero := get_zero hz (k := n.k)
  have hnot := get_not hz (k := n.k)
  rw [hr] at ht hzero hnot ⊢
  have hc : (l.length : Int) ≤ nextC op l.length r := by unfold nextC; split <;> omega
  have hlen := len_putGo (k := n.k) (r := afterR op client dl n r) (d := (afterR op client dl n r).st == 0) ha
  unfold putK
  by_cases hs : (afterR op client dl n r).st = 0
  · have hb : ((afterR op client dl n r).st == 0) = true := by simpa using hs
    rw [hb] at hlen ⊢
    simp only [if_true] at hlen
    split at hlen <;> omega
  · have hb : ((afterR op client dl n r).st == 0) = false := by simpa using hs
    rw [hb] at hlen ⊢
    by_cases hp : ∃ p ∈ l, p.1 = n.k
    · rw [if_pos hp] at hlen; simp at hlen; omega
    · rw [if_neg hp] at hlen
      have hr0 := hnot.2 hp
      have hnl : liveB r.st r.dl now = false := by simp [liveB, hr0]
      have hop : op = 1 := by
        rcases (show op = 1 ∨ op = 2 ∨ op = 3 ∨ op = 4 ∨ op = 5 ∨ op = 6 ∨ op = 7 by omega) with rfl | rfl | rfl | rfl | rfl | rfl | rfl
        · rfl
        · simp [testE, ownedE, hnl] at ht
        · simp [testE, ownedE, hnl] at ht
        · simp [afterR, afSt] at hs
        · simp [afterR, afSt] at hs
        · simp [afterR, afSt] at hs
        · simp [afterR, afSt, hr0] at hs
      subst hop
      have : nextC 1 l.length r = l.length + 1 := by unfold nextC growsI; simp [hr0]
      rw [this]
      simp at hlen
      omega
theorem nextC_mono {op c c' : Int} (r : Rc) (h : c ≤ c') : nextC op c r ≤ nextC op c' r := by unfold nextC; split <;> omega
theorem countTo_mono {op : Int} : ∀ (ps : List (Nm × Rc)) {c c' : Int}, c ≤ c' → countTo op c ps ≤ countTo op c' ps
  | [], _, _, h => h
  | p :: ps, _, _, h => countTo_mono ps (nextC_mono p.2 h)
theorem putAll_len {op client dl now : Int} (h1 : 1 ≤ op) (h7 : op ≤ 7) : ∀ {ps : List (Nm × Rc)} {l : List Kp}, AscP l → NZ l → PW ps → (∀ p ∈ ps, getK l p.1.k = p.2) → (∀ p ∈ ps, testE p.2.st p.2.ow p.2.dl op client now = 0) → ((putAll op client dl l ps).length : Int) ≤ countTo op l.length ps
  | [], l, _, _, _, _, _ => Int.le_refl _
  | p :: ps, l, ha, hz, hp, hg, ht => by
    obtain ⟨h3, h4⟩ := List.pairwise_cons.1 hp
    have hgp := hg p (by simp)
    have htp := ht p (by simp)
    rw [putAll_cons]
    have hs := put_step (n := p.1) (client := client) (dl := dl) (now := now) ha hz (by rw [hgp]; exact htp) h1 h7
    rw [hgp] at hs
    have ih := putAll_len (dl := dl) h1 h7 (ps := ps) (l := putK l p.1.k (afterR op client dl p.1 p.2)) (asc_putGo ha) (nz_put hz _ _) h4 (fun q hq => by rw [getK_putK_other _ (fun e => h3 q hq e.symm)]; exact hg q (by simp [hq])) (fun q hq => ht q (by simp [hq]))
    exact Int.le_trans ih (countTo_mono ps hs)
theorem judge_cap {cap op client now : Int} : ∀ {ps : List (Nm × Rc)} {i : Nat} {c : Int}, judgeGo cap op client now i c ps = none → c ≤ cap → countTo op c ps ≤ cap
  | [], _, _, _, h => h
  | p :: ps, i, c, h, hc => by
    rw [judgeGo] at h
    split at h
    · rename_i h0
      have hnx : nextC op c p.2 ≤ cap := by
        unfold nextC
        split
        · rename_i hg
          unfold oneE at h0
          split at h0
          · simp at h0
          · rename_i hn
            rcases Int.lt_or_le c cap with h2 | h2
            · omega
            · exact absurd ⟨h0, hg, h2⟩ hn
        · exact hc
      show countTo op (nextC op c p.2) ps ≤ cap
      exact judge_cap h hnx
    · simp at h
/-- There are never more records than the desk may have. -/
theorem do_cap {cl cap client op ttl now : Int} {l : List Kp} {ns : List Nm} (ha : AscP l) (hz : NZ l) (hc : (l.length : Int) ≤ cap) : ((doL cl cap l client op ttl now ns).length : Int) ≤ cap := by
  unfold doL
  split
  · rename_i h
    have hP : Proper cl client op ttl now ns := of_decide_eq_true h.1
    have hg := judge_go h.2
    refine Int.le_trans (putAll_len hP.o0 hP.o1 (now := now) ha hz (withR_pw hP.srt) (fun p hp => ?_) (fun p hp => judge_none hg p hp)) (judge_cap hg hc)
    obtain ⟨n, _, rfl⟩ := List.mem_map.1 hp
    rfl
  · exact hc
/-- One step of the search for the reason. -/
theorem judge_step {cap op client now c e : Int} {i j : Nat} {nm : ByteArray} {p : Nm × Rc} {ps : List (Nm × Rc)} (h : judgeGo cap op client now i c (p :: ps) = some (e, j, nm)) :
    (oneE cap op client now c p.2 = 0 ∧ judgeGo cap op client now (i + 1) (nextC op c p.2) ps = some (e, j, nm)) ∨ (oneE cap op client now c p.2 = e ∧ e ≠ 0 ∧ i = j ∧ p.1.a = nm) := by
  rw [judgeGo] at h
  split at h
  · rename_i h0; exact .inl ⟨h0, h⟩
  · rename_i h0
    simp only [Option.some.injEq, Prod.mk.injEq] at h
    exact .inr ⟨h.1, by rw [← h.1]; exact h0, h.2.1, h.2.2⟩
theorem judge_le {cap op client now e : Int} {j : Nat} {nm : ByteArray} : ∀ {ps : List (Nm × Rc)} {i : Nat} {c : Int}, judgeGo cap op client now i c ps = some (e, j, nm) → i ≤ j ∧ j < i + ps.length ∧ ∃ p, ps[j - i]? = some p ∧ p.1.a = nm
  | [], _, _, h => by simp [judgeGo] at h
  | p :: ps, i, c, h => by
    rcases judge_step h with ⟨_, h1⟩ | ⟨_, _, h1, h2⟩
    · obtain ⟨h3, h4, q, h5, h6⟩ := judge_le h1
      refine ⟨by omega, by simp only [List.length_cons]; omega, q, ?_, h6⟩
      rw [show j - i = (j - (i + 1)) + 1 by omega, List.getElem?_cons_succ]
      exact h5
    · subst h1
      exact ⟨Nat.le_refl _, by simp, p, by simp, h2⟩
/-- An error that is about a name. -/
theorem least {cl cap client op ttl now : Int} {l : List Kp} {ns : List Nm} (h0 : (doR cl cap l client op ttl now ns).e ≠ 0) (h1 : (doR cl cap l client op ttl now ns).e ≠ 1) (h8 : (doR cl cap l client op ttl now ns).e ≠ 8) :
    ∃ (j : Nat) (n : Nm), ns[j]? = some n ∧ (doR cl cap l client op ttl now ns).at_ = (j : Int) ∧ (doR cl cap l client op ttl now ns).nm = n.a ∧ (doR cl cap l client op ttl now ns).tick = now ∧ judgeGo cap op client now 0 l.length (withR l ns) = some ((doR cl cap l client op ttl now ns).e, j, n.a) := by
  unfold doR at *
  split at h0
  · rename_i hp
    rw [if_pos hp] at *
    unfold judgeR at *
    split at h0
    · rename_i ho
      rw [if_pos ho] at h8
      exact absurd rfl h8
    · rename_i ho
      rw [if_neg ho] at *
      cases hj : judgeGo cap op client now 0 l.length (withR l ns) with
      | none => rw [hj] at h0; exact absurd rfl h0
      | some x =>
        obtain ⟨e, j, nm⟩ := x
        obtain ⟨_, h3, p, h4, h5⟩ := judge_le hj
        rw [Nat.sub_zero] at h4
        have h6 : j < ns.length := by have := withR_len l ns; omega
        have h7 : ns[j]? = some ns[j] := by simp [h6]
        have h9 := withR_at (l := l) h7
        rw [h9] at h4
        simp only [Option.some.injEq] at h4
        subst h4
        simp only at h5
        subst h5
        exact ⟨j, ns[j], h7, rfl, rfl, rfl, rfl⟩
  · rename_i hp
    rw [if_neg hp] at h1
    exact absurd rfl h1
end Go.Proofs.Ytjefpeppkphgbaa
