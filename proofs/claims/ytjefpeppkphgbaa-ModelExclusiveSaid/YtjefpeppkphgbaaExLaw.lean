/-
  One name, held, expired, held by another and confirmed (28.2), in plain words; and what the walk of it carries.
  Conditions: none.
-/
import Derived.Test.YtjefpeppkphgbaaMSt
import Derived.Test.YtjefpeppkphgbaaDoLaw2
namespace Go.Proofs.Ytjefpeppkphgbaa
open Go.RowKit Go.Sort
set_option maxHeartbeats 2000000
set_option maxRecDepth 20000

def zN : Nm := ⟨⟨#[122, 122]⟩, ⟨#[]⟩, ⟨#[122]⟩⟩
theorem proper_z {cl client op ttl now : Int} (h0 : 0 ≤ client) (h1 : client < cl) (ho : (op = 1 ∧ 1 ≤ ttl ∧ ttl ≤ 1073741824) ∨ (op = 2 ∧ ttl = 0)) (hn : 0 ≤ now) (hm : now ≤ 1073741824) : properB cl client op ttl now [zN] = true := by
  have hs : srt [zN] = true := rfl
  have hg : [zN].all goodN = true := by decide
  unfold properB
  rcases ho with ⟨rfl, h2, h3⟩ | ⟨rfl, rfl⟩
  · exact decide_eq_true ⟨h0, h1, by omega, by omega, hn, hm, fun _ => ⟨h2, h3⟩, fun h => by simp [timedB] at h, by simp, by simp, by simp, hs, hg⟩
  · exact decide_eq_true ⟨h0, h1, by omega, by omega, hn, hm, fun h => by simp [timedB] at h, fun _ => rfl, by simp, by simp, by simp, hs, hg⟩
theorem one_do {cl cap client op ttl now : Int} {l : List Kp} (hp : properB cl client op ttl now [zN] = true) (ho : ¬ (timedB op = true ∧ 1073741824 - now < ttl)) :
    (doR cl cap l client op ttl now [zN]).e = oneE cap op client now l.length (getK l zN.k) ∧ doL cl cap l client op ttl now [zN] = if oneE cap op client now l.length (getK l zN.k) = 0 then putK l zN.k (afterR op client (now + ttl) zN (getK l zN.k)) else l := by
  have hw : withR l [zN] = [(zN, getK l zN.k)] := rfl
  by_cases h0 : oneE cap op client now l.length (getK l zN.k) = 0
  · have hg : judgeGo cap op client now 0 l.length [(zN, getK l zN.k)] = none := by rw [judgeGo, if_pos h0, judgeGo]
    have hj := judge_fine ho hg
    refine ⟨?_, ?_⟩
    · unfold doR; rw [if_pos hp, hw, hj, h0]
    · unfold doL; rw [hw, hj, if_pos h0]; exact if_pos ⟨hp, rfl⟩
  · have hg : judgeGo cap op client now 0 l.length [(zN, getK l zN.k)] = some (oneE cap op client now l.length (getK l zN.k), 0, zN.a) := by rw [judgeGo, if_neg h0]
    have hj := judge_stop ho hg
    refine ⟨?_, ?_⟩
    · unfold doR; rw [if_pos hp, hw, hj]
    · unfold doL; rw [hw, hj, if_neg h0]; exact if_neg fun q => h0 q.2
theorem do_other {cl cap client op ttl now : Int} {l : List Kp} {ns : List Nm} {k : ByteArray} (h : ∀ n ∈ ns, n.k ≠ k) : getK (doL cl cap l client op ttl now ns) k = getK l k := by
  unfold doL
  split
  · refine getK_putAll_other fun p hp => ?_
    obtain ⟨n, hn, rfl⟩ := List.mem_map.1 hp
    exact h n hn
  · rfl
/-- The first Hold. -/
theorem ex_first {cl cap x la : Int} {l : List Kp} (hz : getK l zN.k = default) (h0 : 0 ≤ x) (h1 : x < cl) (hl : 0 ≤ la) (hl2 : la ≤ 1000) :
    (cap ≤ l.length ∧ (doR cl cap l x 1 5 la [zN]).e = 7 ∧ doL cl cap l x 1 5 la [zN] = l) ∨ (¬ cap ≤ l.length ∧ (doR cl cap l x 1 5 la [zN]).e = 0 ∧ doL cl cap l x 1 5 la [zN] = putK l zN.k ⟨1, x, zN.a, la + 5⟩) := by
  obtain ⟨h2, h3⟩ := one_do (cap := cap) (l := l) (proper_z h0 h1 (.inl ⟨rfl, by omega, by omega⟩) hl (by omega) : properB cl x 1 5 la [zN] = true) (by omega)
  rw [hz] at h2 h3
  by_cases hc : cap ≤ (l.length : Int)
  · have : oneE cap 1 x la l.length default = 7 := by unfold oneE; rw [if_pos ⟨rfl, by decide, hc⟩]
    rw [this] at h2 h3
    exact .inl ⟨hc, h2, h3⟩
  · have : oneE cap 1 x la l.length default = 0 := by unfold oneE; rw [if_neg fun q => hc q.2.2]; rfl
    rw [this] at h2 h3
    exact .inr ⟨hc, h2, h3⟩
theorem get_z (l : List Kp) (r : Rc) (h : r.st ≠ 0) : getK (putK l zN.k r) zN.k = r := by rw [getK_putK_same, if_neg h]
theorem ex_second {cl cap y la x : Int} {l : List Kp} (hz : getK l zN.k = ⟨1, x, zN.a, la + 5⟩) (h0 : 0 ≤ y) (h1 : y < cl) (hl : 0 ≤ la) (hl2 : la ≤ 1000) :
    (doR cl cap l y 1 5 (la + 4) [zN]).e = 24 ∧ doL cl cap l y 1 5 (la + 4) [zN] = l := by
  obtain ⟨h2, h3⟩ := one_do (cap := cap) (l := l) (proper_z h0 h1 (.inl ⟨rfl, by omega, by omega⟩) (by omega) (by omega) : properB cl y 1 5 (la + 4) [zN] = true) (by omega)
  rw [hz] at h2 h3
  have hl3 : la + 4 < la + 5 := by omega
  have : oneE cap 1 y (la + 4) l.length ⟨1, x, zN.a, la + 5⟩ = 24 := by simp [oneE, testE, liveB, hl3]
  rw [this] at h2 h3
  exact ⟨h2, h3⟩
theorem ex_third {cl cap y la x : Int} {l : List Kp} (hz : getK l zN.k = ⟨1, x, zN.a, la + 5⟩) (h0 : 0 ≤ y) (h1 : y < cl) (hl : 0 ≤ la) (hl2 : la ≤ 1000) :
    (doR cl cap l y 1 5 (la + 5) [zN]).e = 0 ∧ doL cl cap l y 1 5 (la + 5) [zN] = putK l zN.k ⟨1, y, zN.a, la + 10⟩ := by
  obtain ⟨h2, h3⟩ := one_do (cap := cap) (l := l) (proper_z h0 h1 (.inl ⟨rfl, by omega, by omega⟩) (by omega) (by omega) : properB cl y 1 5 (la + 5) [zN] = true) (by omega)
  rw [hz] at h2 h3
  have : oneE cap 1 y (la + 5) l.length ⟨1, x, zN.a, la + 5⟩ = 0 := by simp [oneE, testE, liveB, growsI]
  rw [this] at h2 h3
  refine ⟨h2, ?_⟩
  rw [h3, if_pos rfl]
  show putK l zN.k ⟨1, y, zN.a, la + 5 + 5⟩ = _
  rw [show la + 5 + 5 = la + 10 by omega]
theorem ex_fourth {cl cap y la : Int} {l : List Kp} (hz : getK l zN.k = ⟨1, y, zN.a, la + 10⟩) (h0 : 0 ≤ y) (h1 : y < cl) (hl : 0 ≤ la) (hl2 : la ≤ 1000) :
    (doR cl cap l y 2 0 (la + 9) [zN]).e = 0 ∧ doL cl cap l y 2 0 (la + 9) [zN] = putK l zN.k ⟨2, y, zN.a, 0⟩ := by
  obtain ⟨h2, h3⟩ := one_do (cap := cap) (l := l) (proper_z h0 h1 (.inr ⟨rfl, rfl⟩) (by omega) (by omega) : properB cl y 2 0 (la + 9) [zN] = true) (by simp [timedB])
  rw [hz] at h2 h3
  have hl3 : la + 9 < la + 10 := by omega
  have : oneE cap 2 y (la + 9) l.length ⟨1, y, zN.a, la + 10⟩ = 0 := by simp [oneE, testE, ownedE, liveB, growsI, hl3]
  rw [this] at h2 h3
  exact ⟨h2, h3⟩
theorem ex_fifth {cl cap x y : Int} {l : List Kp} (hz : getK l zN.k = ⟨2, y, zN.a, 0⟩) (h0 : 0 ≤ x) (h1 : x < cl) :
    (doR cl cap l x 1 5 1073741819 [zN]).e = 24 ∧ doL cl cap l x 1 5 1073741819 [zN] = l := by
  obtain ⟨h2, h3⟩ := one_do (cap := cap) (l := l) (proper_z h0 h1 (.inl ⟨rfl, by omega, by omega⟩) (by omega) (by omega) : properB cl x 1 5 1073741819 [zN] = true) (by omega)
  rw [hz] at h2 h3
  have : oneE cap 1 x 1073741819 l.length ⟨2, y, zN.a, 0⟩ = 24 := by simp [oneE, testE, liveB]
  rw [this] at h2 h3
  exact ⟨h2, h3⟩
/-- Behind some calls with the one name. -/
structure XSt (w wr : World) (b m nb fb : Nat) (cl cp : Int) (l : List Kp) (ts : List (Nat × Int)) : Prop where
  mod : ModAt wr b m cl cp l
  ext : Ext w wr
  hw : w.heap.size ≤ m
  nms : NmsAt wr (fun k => k = nb) (.slice (some ⟨nb, 0, none⟩) 1 1) [zN]
  nm : nb ≠ m
  f0 : wr.cell? ⟨fb, 0, none⟩ = some (.int .i64 cl)
  f1 : wr.cell? ⟨fb, 1, none⟩ = some (.int .i64 cp)
  fm : fb ≠ m
  fl : fb < wr.heap.size
  ts : ∀ p ∈ ts, p.1 ≠ m ∧ p.1 < wr.heap.size ∧ wr.cell? ⟨p.1, 0, none⟩ = some (.int .i64 p.2)
theorem XSt.chg {w wr w2 : World} {b m nb fb : Nat} {cl cp : Int} {l l2 : List Kp} {ts : List (Nat × Int)} (h : XSt w wr b m nb fb cl cp l ts) (hm : ModAt w2 b m cl cp l2) (c : Chg (· = m) wr w2) : XSt w w2 b m nb fb cl cp l2 ts :=
  ⟨hm, h.ext.chg_new c (fun i hi => by have := h.hw; omega), h.hw, Rd.chg h.nms c (fun k hk e => h.nm (hk.symm.trans e)), h.nm, (c.cell (p := ⟨fb, 0, none⟩) h.fl h.fm).trans h.f0, (c.cell (p := ⟨fb, 1, none⟩) h.fl h.fm).trans h.f1, h.fm, Nat.lt_of_lt_of_le h.fl c.size,
    fun p hp => ⟨(h.ts p hp).1, Nat.lt_of_lt_of_le (h.ts p hp).2.1 c.size, (c.cell (p := ⟨p.1, 0, none⟩) (h.ts p hp).2.1 (h.ts p hp).1).trans (h.ts p hp).2.2⟩⟩
theorem XSt.ext' {w wr w2 : World} {b m nb fb : Nat} {cl cp : Int} {l : List Kp} {ts : List (Nat × Int)} (h : XSt w wr b m nb fb cl cp l ts) (x : Ext wr w2) : XSt w w2 b m nb fb cl cp l ts :=
  h.chg (h.mod.ext x) (x.chg _)
theorem XSt.resp {w wr : World} {b m nb fb : Nat} {cl cp : Int} {l : List Kp} {ts : List (Nat × Int)} (h : XSt w wr b m nb fb cl cp l ts) (R : Resp) :
    XSt w (wr.alloc (.cells #[.int .i64 R.e, .int .i64 R.at_, .string R.nm, .int .i64 R.rc.st, .int .i64 R.rc.ow, .string R.rc.nm, .int .i64 R.rc.dl, .int .i64 R.tick] 68)) b m nb fb cl cp l ((wr.heap.size, R.e) :: ts) := by
  have h2 := h.ext' ((Ext.refl wr).alloc (.cells #[.int .i64 R.e, .int .i64 R.at_, .string R.nm, .int .i64 R.rc.st, .int .i64 R.rc.ow, .string R.rc.nm, .int .i64 R.rc.dl, .int .i64 R.tick] 68))
  refine ⟨h2.mod, h2.ext, h2.hw, h2.nms, h2.nm, h2.f0, h2.f1, h2.fm, h2.fl, fun p hp => ?_⟩
  rcases List.mem_cons.1 hp with rfl | hp
  · refine ⟨?_, by simp, by simp only; go_simp⟩
    have := h.mod.map.lt
    simp only; omega
  · exact h2.ts p hp
theorem XSt.call {w wr : World} {b m nb fb : Nat} {cl cp : Int} {l : List Kp} {ts : List (Nat × Int)} (h : XSt w wr b m nb fb cl cp l ts) (hl : l.length ≤ 100000) (client op ttl now : Int) :
    Calls Try.prog 36 #[.pointer (some ⟨b, 0, none⟩), .int .i64 client, .int .i64 op, .int .i64 ttl, .slice (some ⟨nb, 0, none⟩) 1 1, .int .i64 now] wr fun e w' => e = .returned (respV (doR cl cp l client op ttl now [zN])) ∧ XSt w w' b m nb fb cl cp (doL cl cp l client op ttl now [zN]) ts :=
  (mdo_any b m cl cp client op ttl now l _ [zN] wr h.mod hl (by intro n hn; simp at hn; subst hn; decide) h.nms (fun e => h.nm e.symm)).mono fun e w' ⟨h1, h2, h3⟩ => ⟨h1, h.chg h2 h3⟩
end Go.Proofs.Ytjefpeppkphgbaa
