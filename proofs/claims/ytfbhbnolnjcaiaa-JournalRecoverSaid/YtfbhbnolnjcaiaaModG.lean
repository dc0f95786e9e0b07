/-
  The reference's Judge answers as the plain law says (28.2).
  Conditions: what Do demands of its arguments.
-/
import Derived.Test.YtfbhbnolnjcaiaaModF
namespace Go.Proofs.Ytfbhbnolnjcaiaa
open Go.RowKit Go.Sort Go.Shelf
set_option maxHeartbeats 4000000
set_option maxRecDepth 20000

theorem judge_any {S T : Nat → Prop} (cl cap count client op ttl now : Int) (v rv : Value) (ps : List (Nm × Rc)) (w : World) (hp : Proper cl client op ttl now (ps.map Prod.fst)) (hc0 : 0 ≤ count) (hc1 : count ≤ 1000000)
    (hn : NmsAt w S v (ps.map Prod.fst)) (hr : RecsAt w T rv (ps.map Prod.snd)) :
    Calls Try.prog 43 #[.agg #[.int .i64 cl, .int .i64 cap], .int .i64 client, .int .i64 op, .int .i64 ttl, v, rv, .int .i64 count, .int .i64 now] w fun e w' => e = .returned (respV (judgeR cap op client ttl now count ps)) ∧ Ext w w' := by
  have hl0 := hp.l0
  have hl1 := hp.l1
  rw [List.length_map] at hl0 hl1
  have n0 := hp.n0
  have n1 := hp.n1
  clear hp
  obtain ⟨A, cA, rfl⟩ := hn.shape
  obtain ⟨_, B, cB, rfl, hB1, hB2, _⟩ := id hr
  obtain ⟨nn, hnn⟩ : ∃ n, ps.length = n := ⟨_, rfl⟩
  have hm1 : (ps.map Prod.fst).length = nn := by simp [hnn]
  have hm2 : (ps.map Prod.snd).length = nn := by simp [hnn]
  rw [hm1, hm2]
  have Hm1 := Lib.hid hm1
  have Hm2 := Lib.hid hm2
  have Hnn := Lib.hid hnn
  rw [hnn] at hl0 hl1
  have Hn := Lib.hid hn
  have Hr := Lib.hid hr
  clear hn hr hm1 hm2 hnn hB1 hB2
  obtain ⟨cb, hcb⟩ : ∃ b, w.heap.size = b := ⟨_, rfl⟩
  have Hcb := Lib.hid hcb
  have kinds : (timedB op = true ∧ decide (1073741824 - now < ttl) = true ∧ (timedB op = true ∧ 1073741824 - now < ttl)) ∨ (timedB op = true ∧ decide (1073741824 - now < ttl) = false ∧ ¬ (timedB op = true ∧ 1073741824 - now < ttl)) ∨ (timedB op = false ∧ True ∧ ¬ (timedB op = true ∧ 1073741824 - now < ttl)) := by
    cases hT : timedB op with
    | true =>
      by_cases h : 1073741824 - now < ttl
      · exact .inl ⟨rfl, by simpa using h, rfl, h⟩
      · exact .inr (.inl ⟨rfl, by simpa using h, fun q => h q.2⟩)
    | false => exact .inr (.inr ⟨rfl, trivial, by simp⟩)
  rcases kinds with ⟨hT, hov, hno⟩ | hrest
  · have Hj := Lib.hid (judge_over (cap := cap) (client := client) (count := count) (ps := ps) hno)
    clear hno hcb
    go_enter Try.func43, Try.ntmps43
    go_wp2_with (go_at_call 76; refine (rtimed_any _ _).mono ?_; rintro e w1 ⟨rfl, rfl⟩; rw [hT])
    refine bodyPost_ret (v := respV ⟨8, -1, ⟨#[]⟩, default, now⟩) (by simp [results, Try.results43, go_sem, respV, def_rc]) rfl ⟨by rw [Hj.out], ?_⟩
    (repeat refine ext_setCell ?_ (by first | (simp; done) | (simp; omega)) _)
    exact ((Ext.refl w).alloc _).alloc _
  rcases hrest with ⟨hT, hov, hno⟩ | ⟨hT, hov, hno⟩
  all_goals
    have Hno := Lib.hid hno
    clear hno
    go_enter Try.func43, Try.ntmps43
    go_wp2_with (go_at_call 76; refine (rtimed_any _ _).mono ?_; rintro e w1 ⟨rfl, rfl⟩; rw [hT])
    have hz0 : RZ ((w.alloc (.cells #[.int .i64 cl, .int .i64 cap] 37)).alloc (.cells #[.int .i64 0, .int .i64 0, .string ⟨#[]⟩, .int .i64 0, .int .i64 0, .string ⟨#[]⟩, .int .i64 0, .int .i64 0] 28)) (cb + 1) := by
      have := rz_new (w.alloc (.cells #[.int .i64 cl, .int .i64 cap] 37))
      rw [show (w.alloc (.cells #[.int .i64 cl, .int .i64 cap] 37)).heap.size = cb + 1 by simp [hcb]] at this
      exact this
    have hcf : ((w.alloc (.cells #[.int .i64 cl, .int .i64 cap] 37)).alloc (.cells #[.int .i64 0, .int .i64 0, .string ⟨#[]⟩, .int .i64 0, .int .i64 0, .string ⟨#[]⟩, .int .i64 0, .int .i64 0] 28)).cell? ⟨cb, 1, none⟩ = some (.int .i64 cap) := by rw [← hcb]; go_simp
    have hxw : Ext w ((w.alloc (.cells #[.int .i64 cl, .int .i64 cap] 37)).alloc (.cells #[.int .i64 0, .int .i64 0, .string ⟨#[]⟩, .int .i64 0, .int .i64 0, .string ⟨#[]⟩, .int .i64 0, .int .i64 0] 28)) := ((Ext.refl w).alloc _).alloc _
    have hsz : ((w.alloc (.cells #[.int .i64 cl, .int .i64 cap] 37)).alloc (.cells #[.int .i64 0, .int .i64 0, .string ⟨#[]⟩, .int .i64 0, .int .i64 0, .string ⟨#[]⟩, .int .i64 0, .int .i64 0] 28)).heap.size = cb + 2 := by simp [hcb]
    obtain ⟨W0, hW0⟩ : ∃ W, (w.alloc (.cells #[.int .i64 cl, .int .i64 cap] 37)).alloc (.cells #[.int .i64 0, .int .i64 0, .string ⟨#[]⟩, .int .i64 0, .int .i64 0, .string ⟨#[]⟩, .int .i64 0, .int .i64 0] 28) = W := ⟨_, rfl⟩
    rw [hW0] at hz0 hcf hxw hsz
    rw [hW0]
    clear hW0 hcb
    have Hz0 := Lib.hid hz0
    have Hcf := Lib.hid hcf
    have Hxw := Lib.hid hxw
    have Hsz := Lib.hid hsz
    clear hz0 hcf hxw hsz
    go_loopw [33, 6] (fun o s wr => ∃ (i : Nat) (c : Int), i ≤ nn ∧ o = .int .i64 (i : Int) ∧ s = .int .i64 c ∧ JudgeTo cap op client now count ps i c ∧ Ext W0 wr) (fun o _ _ => nn - (intOf o).toNat)
    case atStart => exact ⟨0, count, by omega, rfl, rfl, JudgeTo.start _ _ _ _ _ _, Ext.refl _⟩
    case round =>
      obtain ⟨i, c, hi, rfl, rfl, hj, hx⟩ := hrel
      have hbd := hj.bd
      have hc2 : c ≤ 1000016 := by omega
      have hc3 : 0 ≤ c := by omega
      clear hbd
      have Hj := Lib.hid hj
      have Hx := Lib.hid hx
      have hcbl : cb + 2 ≤ wr.heap.size := by have := hx.size; have := Hsz.out; omega
      have Hwl := Lib.hid hcbl
      clear hj hx
      by_cases hlt : i < nn
      · have hdc : decide ((i : Int) < (nn : Int)) = true := by simpa using hlt
        obtain ⟨⟨n, r⟩, hp⟩ : ∃ p, ps[i]? = some p := ⟨ps[i]'(by have := Hnn.out; omega), by simp⟩
        have hp1 : (ps.map Prod.fst)[i]? = some n := by rw [List.getElem?_map, hp]; rfl
        have hp2 : (ps.map Prod.snd)[i]? = some r := by rw [List.getElem?_map, hp]; rfl
        have hxr := Hxw.out.trans Hx.out
        obtain ⟨g, o, c', hv1, p1, p2, _, b1, hcell⟩ := (NmsAt.ext Hn.out hxr).get (j := i) (by rw [Hm1.out]; exact hlt)
        obtain ⟨x1, x2, x3⟩ := hcell _ _ hp1
        obtain ⟨g2, o2, c2', hv2, p3, p4, b2, y0, y1, y2, y3⟩ := recsAt_get (Rd.ext Hr.out hxr) hp2
        rw [Hm1.out] at hv1 p1
        rw [Hm2.out] at hv2 p3
        simp only [Value.slice.injEq, true_and] at hv1 hv2
        obtain ⟨rfl, rfl⟩ := hv1
        obtain ⟨rfl, rfl⟩ := hv2
        have i0 : (0 : Int) ≤ (i : Int) := by omega
        have i1 : (i : Int) < (nn : Int) := by omega
        have Hp := Lib.hid hp
        have Hxr := Lib.hid hxr
        clear hcell hp hp1 hp2 hxr
        obtain ⟨t, ht⟩ : ∃ t, testE r.st r.ow r.dl op client now = t := ⟨_, rfl⟩
        obtain ⟨gr, hgr⟩ : ∃ g, growsI r.st op = g := ⟨_, rfl⟩
        have Hgr := Lib.hid hgr
        go_wp2_with fail
        refine (rtest_any _ _ _ _ _ _ _ _).mono ?_
        rintro x w1 ⟨rfl, hy⟩
        rw [ht]
        have e0 : w1.cell? ⟨wr.heap.size, 0, none⟩ = some (.int .i64 r.st) := (hy.cell (by simp)).trans (by go_simp)
        have e1 : w1.cell? ⟨wr.heap.size, 1, none⟩ = some (.int .i64 r.ow) := (hy.cell (by simp)).trans (by go_simp)
        have e2 : w1.cell? ⟨wr.heap.size, 2, none⟩ = some (.string r.nm) := (hy.cell (by simp)).trans (by go_simp)
        have e3 : w1.cell? ⟨wr.heap.size, 3, none⟩ = some (.int .i64 r.dl) := (hy.cell (by simp)).trans (by go_simp)
        have hx1 : Ext wr w1 := ((Ext.refl wr).alloc _).trans hy
        have x1 := (hx1.cell (p := ⟨g, o + i * 3, none⟩) b1).trans x1
        have hcf : w1.cell? ⟨cb, 1, none⟩ = some (.int .i64 cap) := ((Hx.out.trans hx1).cell (p := ⟨cb, 1, none⟩) (by have := Hsz.out; simp only; omega)).trans Hcf.out
        obtain ⟨z0, z1, z2, z3, z4, z5, z6, z7, zf, zl⟩ := Hz0.out.ext (Hx.out.trans hx1)
        have b3 : g < w1.heap.size := Nat.lt_of_lt_of_le b1 hx1.size
        have Hx1 := Lib.hid hx1
        have Ht := Lib.hid ht
        clear hy x2 x3 y0 y1 y2 y3 hx1 ht b2
        by_cases ht0 : t = 0
        · subst ht0
          go_wp2_with fail
          refine (rgrows_any _ _ _ _ _ _).mono ?_
          rintro x w2 ⟨rfl, hy⟩
          rw [hgr]
          have x1 := (hy.cell (p := ⟨g, o + i * 3, none⟩) b3).trans x1
          have Hx2 := Lib.hid (Hx1.out.trans hy)
          have hcf : w2.cell? ⟨cb, 1, none⟩ = some (.int .i64 cap) := ((Hx.out.trans Hx2.out).cell (p := ⟨cb, 1, none⟩) (by have := Hsz.out; simp only; omega)).trans Hcf.out
          clear z0 z1 z2 z3 z4 z5 z6 z7 zf zl
          obtain ⟨z0, z1, z2, z3, z4, z5, z6, z7, zf, zl⟩ := Hz0.out.ext (Hx.out.trans Hx2.out)
          have b4 : g < w2.heap.size := Nat.lt_of_lt_of_le b3 hy.size
          clear hy e0 e1 e2 e3 hgr Hx1
          have K : (decide (0 < gr) = true ∧ decide (cap ≤ c) = true ∧ (0 < gr ∧ cap ≤ c)) ∨ (decide (0 < gr) = true ∧ decide (cap ≤ c) = false ∧ (0 < gr ∧ ¬ cap ≤ c)) ∨ (decide (0 < gr) = false ∧ ¬ 0 < gr) := by
            by_cases h1 : 0 < gr
            · by_cases h2 : cap ≤ c
              · exact .inl ⟨by simpa using h1, by simpa using h2, h1, h2⟩
              · exact .inr (.inl ⟨by simpa using h1, by simpa using h2, h1, h2⟩)
            · exact .inr (.inr ⟨by simpa using h1, h1⟩)
          rcases K with ⟨k1, k2, k3, k4⟩ | ⟨k1, k2, k3, k4⟩ | ⟨k1, k3⟩
          · have hone := oneE_full (cap := cap) (c := c) Ht.out (by rw [Hgr.out]; exact k3) k4
            have Hst := Lib.hid (judge_stop Hno.out (Hj.out.stop (p := (n, r)) Hp.out (by rw [hone]; decide)))
            simp only at Hst
            rw [hone] at Hst
            clear hone k3 k4
            go_wp2_with fail
            refine bodyPost_ret (v := respV ⟨7, i, n.a, default, now⟩) (by simp [results, Try.results43, go_sem, respV, def_rc, *]) rfl ⟨by rw [Hst.out], ?_⟩
            (repeat refine ext_setCell ?_ (by first | (have := Hcb.out; simp; omega) | (have := Hcb.out; simp only; omega)) _)
            exact Hxr.out.trans Hx2.out
          · have hone := oneE_room (cap := cap) (c := c) Ht.out (fun q => k4 q.2)
            have hj1 := Hj.out.next (p := (n, r)) Hp.out hone
            have q2 : nextC op c r = c + 1 := by unfold nextC; rw [Hgr.out, if_pos k3]
            simp only at hj1
            rw [q2] at hj1
            have Hj1 := Lib.hid hj1
            have Hend := Lib.hid (Hx.out.trans Hx2.out)
            clear hone hj1 q2 k3 k4 z0 z1 z2 z3 z4 z5 z6 z7 zf zl
            go_wp2_with fail
            go_roundw
            case rel => exact ⟨i + 1, _, by omega, by go_num, rfl, Hj1.out, Hend.out⟩
            case measure => simp [intOf]; omega
          · have hone := oneE_room (cap := cap) (c := c) Ht.out (fun q => k3 (by have := q.1; rw [Hgr.out] at this; exact this))
            have hj1 := Hj.out.next (p := (n, r)) Hp.out hone
            have q2 : nextC op c r = c := by unfold nextC; rw [Hgr.out, if_neg k3]
            simp only at hj1
            rw [q2] at hj1
            have Hj1 := Lib.hid hj1
            have Hend := Lib.hid (Hx.out.trans Hx2.out)
            clear hone hj1 q2 k3 z0 z1 z2 z3 z4 z5 z6 z7 zf zl
            go_wp2_with fail
            go_roundw
            case rel => exact ⟨i + 1, _, by omega, by go_num, rfl, Hj1.out, Hend.out⟩
            case measure => simp [intOf]; omega
        · have ht1 : (t == 0) = false := by simpa using ht0
          have hone := oneE_bad (cap := cap) (c := c) Ht.out ht0
          have Hst := Lib.hid (judge_stop Hno.out (Hj.out.stop (p := (n, r)) Hp.out (by rw [hone]; exact ht0)))
          simp only at Hst
          rw [hone] at Hst
          clear hone ht0 e0 e1 e2 e3 hgr
          go_wp2_with fail
          refine bodyPost_ret (v := respV ⟨t, i, n.a, default, now⟩) (by simp [results, Try.results43, go_sem, respV, def_rc, *]) rfl ⟨by rw [Hst.out], ?_⟩
          (repeat refine ext_setCell ?_ (by first | (have := Hcb.out; simp; omega) | (have := Hcb.out; simp only; omega)) _)
          exact Hxr.out.trans Hx1.out
      · have hdc : decide ((i : Int) < (nn : Int)) = false := by simp; omega
        obtain rfl : i = nn := by omega
        have Hdone := Lib.hid (show judgeGo cap op client now 0 count ps = none from by
          have := Hj.out
          rw [← Hnn.out] at this
          exact this.done)
        obtain ⟨⟨n, r⟩, ps', rfl⟩ : ∃ p ps', ps = p :: ps' := by
          cases ps with
          | nil => have := Hnn.out; simp at this; omega
          | cons p ps' => exact ⟨p, ps', rfl⟩
        have Hjf := Lib.hid (judge_fine Hno.out Hdone.out)
        simp only at Hjf
        obtain ⟨z0, z1, z2, z3, z4, z5, z6, z7, zf, zl⟩ := Hz0.out.ext Hx.out
        by_cases h7 : op = 7
        · subst h7
          obtain ⟨g2, o2, c2', hv2, p3, p4, b2, y0, y1, y2, y3⟩ := recsAt_get (Rd.ext Hr.out (Hxw.out.trans Hx.out)) (j := 0) (r := r) rfl
          rw [Hm2.out] at hv2 p3
          simp only [Value.slice.injEq, true_and] at hv2
          obtain ⟨rfl, rfl⟩ := hv2
          simp only [Nat.zero_mul, Nat.add_zero] at y0 y1 y2 y3
          have i1 : (0 : Int) < (i : Int) := by omega
          obtain ⟨lv, hlv⟩ : ∃ b, liveB r.st r.dl now = b := ⟨_, rfl⟩
          go_wp2_with fail
          refine (rlive_any _ _ _ _ _ _).mono ?_
          rintro x w5 ⟨rfl, hy⟩
          rw [hlv]
          have Hy := Lib.hid (((Ext.refl wr).alloc _).trans hy)
          have t0 : w5.cell? ⟨wr.heap.size, 0, none⟩ = some (.int .i64 0) := (hy.cell (by simp)).trans (by go_simp)
          have t1 : w5.cell? ⟨wr.heap.size, 1, none⟩ = some (.int .i64 (-1)) := (hy.cell (by simp)).trans (by go_simp)
          have t2 : w5.cell? ⟨wr.heap.size, 2, none⟩ = some (.string ⟨#[]⟩) := (hy.cell (by simp)).trans (by go_simp)
          have t3 : w5.cell? ⟨wr.heap.size, 3, none⟩ = some (.int .i64 0) := (hy.cell (by simp)).trans (by go_simp)
          have t4 : w5.cell? ⟨wr.heap.size, 4, none⟩ = some (.int .i64 0) := (hy.cell (by simp)).trans (by go_simp)
          have t5 : w5.cell? ⟨wr.heap.size, 5, none⟩ = some (.string ⟨#[]⟩) := (hy.cell (by simp)).trans (by go_simp)
          have t6 : w5.cell? ⟨wr.heap.size, 6, none⟩ = some (.int .i64 0) := (hy.cell (by simp)).trans (by go_simp)
          have t7 : w5.cell? ⟨wr.heap.size, 7, none⟩ = some (.int .i64 now) := (hy.cell (by simp)).trans (by go_simp)
          have tf : ∀ j, w5.frozen? ⟨wr.heap.size, j, none⟩ = false := fun j => (hy.frozen (by simp)).trans (by go_simp)
          have tl : wr.heap.size < w5.heap.size := Nat.lt_of_lt_of_le (by simp) hy.size
          clear z0 z1 z2 z3 z4 z5 z6 z7 zf zl
          obtain ⟨z0, z1, z2, z3, z4, z5, z6, z7, zf, zl⟩ := Hz0.out.ext (Hx.out.trans Hy.out)
          have y0 := (Hy.out.cell (p := ⟨g2, o2, none⟩) b2).trans y0
          have y1 := (Hy.out.cell (p := ⟨g2, o2 + 1, none⟩) b2).trans y1
          have y2 := (Hy.out.cell (p := ⟨g2, o2 + 2, none⟩) b2).trans y2
          have y3 := (Hy.out.cell (p := ⟨g2, o2 + 3, none⟩) b2).trans y3
          have hne : ¬ wr.heap.size = cb + 1 := by omega
          have Hlv := Lib.hid hlv
          clear hy hlv
          cases lv with
          | true =>
            have Hj' := Lib.hid (show judgeR cap 7 client ttl now count ((n, r) :: ps') = ⟨0, -1, ⟨#[]⟩, r, now⟩ by rw [Hjf.out]; simp [Hlv.out])
            clear Hjf
            go_wp2_with fail
            refine bodyPost_ret (v := respV ⟨0, -1, ⟨#[]⟩, r, now⟩) (by simp [results, Try.results43, go_sem, respV, *]) rfl ⟨by rw [Hj'.out], ?_⟩
            (repeat refine ext_setCell ?_ (by first | (have := Hcb.out; simp; omega) | (have := Hcb.out; have := Hwl.out; simp only; omega)) _)
            exact (Hxw.out.trans Hx.out).trans Hy.out
          | false =>
            have Hj' := Lib.hid (show judgeR cap 7 client ttl now count ((n, r) :: ps') = ⟨0, -1, ⟨#[]⟩, default, now⟩ by rw [Hjf.out]; simp [Hlv.out])
            clear Hjf
            go_wp2_with fail
            refine bodyPost_ret (v := respV ⟨0, -1, ⟨#[]⟩, default, now⟩) (by simp [results, Try.results43, go_sem, respV, def_rc, *]) rfl ⟨by rw [Hj'.out], ?_⟩
            (repeat refine ext_setCell ?_ (by first | (have := Hcb.out; simp; omega) | (have := Hcb.out; have := Hwl.out; simp only; omega)) _)
            exact (Hxw.out.trans Hx.out).trans Hy.out
        · have h7' : (op == 7) = false := by simpa using h7
          have Hj' := Lib.hid (show judgeR cap op client ttl now count ((n, r) :: ps') = ⟨0, -1, ⟨#[]⟩, default, now⟩ by rw [Hjf.out, if_neg fun q => h7 q.1])
          clear Hjf h7
          go_wp2_with fail
          refine bodyPost_ret (v := respV ⟨0, -1, ⟨#[]⟩, default, now⟩) (by simp [results, Try.results43, go_sem, respV, def_rc, *]) rfl ⟨by rw [Hj'.out], ?_⟩
          refine Ext.alloc ?_ _
          (repeat refine ext_setCell ?_ (by first | (have := Hcb.out; simp; omega) | (have := Hcb.out; have := Hwl.out; simp only; omega)) _)
          exact Hxw.out.trans Hx.out
end Go.Proofs.Ytfbhbnolnjcaiaa
