/-
  history.Check answers as the law on lists says (32.1).
  Conditions: the operations lie in memory.
-/
import Derived.Test.YthenclenabcmgaaHChk
namespace Go.Proofs.Ythenclenabcmgaa
open Go.RowKit Go.Sort
set_option maxHeartbeats 8000000
set_option maxRecDepth 100000

theorem cons_cases (cl : Int) (o : Opn) : (decide (o.cl < 0) = true ∧ consB cl o = false) ∨ (decide (o.cl < 0) = false ∧ decide (cl ≤ o.cl) = true ∧ consB cl o = false) ∨ (decide (o.cl < 0) = false ∧ decide (cl ≤ o.cl) = false ∧ decide (o.begun < 0) = true ∧ consB cl o = false) ∨
    (decide (o.cl < 0) = false ∧ decide (cl ≤ o.cl) = false ∧ decide (o.begun < 0) = false ∧ (o.dec == -1) = true ∧ consB cl o = (o.ans == -1)) ∨
    (decide (o.cl < 0) = false ∧ decide (cl ≤ o.cl) = false ∧ decide (o.begun < 0) = false ∧ (o.dec == -1) = false ∧ decide (o.begun < o.dec) = false ∧ consB cl o = false) ∨
    (decide (o.cl < 0) = false ∧ decide (cl ≤ o.cl) = false ∧ decide (o.begun < 0) = false ∧ (o.dec == -1) = false ∧ decide (o.begun < o.dec) = true ∧ (o.ans == -1) = true ∧ consB cl o = true) ∨
    (decide (o.cl < 0) = false ∧ decide (cl ≤ o.cl) = false ∧ decide (o.begun < 0) = false ∧ (o.dec == -1) = false ∧ decide (o.begun < o.dec) = true ∧ (o.ans == -1) = false ∧ consB cl o = decide (o.dec < o.ans)) := by
  by_cases h1 : o.cl < 0
  · exact .inl ⟨by simpa using h1, by simp [consB, h1]⟩
  by_cases h2 : cl ≤ o.cl
  · exact .inr (.inl ⟨by simpa using h1, by simpa using h2, by simp [consB, h2]⟩)
  by_cases h3 : o.begun < 0
  · exact .inr (.inr (.inl ⟨by simpa using h1, by simpa using h2, by simpa using h3, by simp [consB, h3]⟩))
  have h0 : ¬ (o.cl < 0 ∨ cl ≤ o.cl ∨ o.begun < 0) := by omega
  by_cases h4 : o.dec = -1
  · exact .inr (.inr (.inr (.inl ⟨by simpa using h1, by simpa using h2, by simpa using h3, by simpa using h4, by unfold consB; rw [if_neg h0, if_pos h4]⟩)))
  by_cases h5 : o.begun < o.dec
  · by_cases h6 : o.ans = -1
    · exact .inr (.inr (.inr (.inr (.inr (.inl ⟨by simpa using h1, by simpa using h2, by simpa using h3, by simpa using h4, by simpa using h5, by simpa using h6, by unfold consB; rw [if_neg h0, if_neg h4]; simp [h5, h6]⟩)))))
    · exact .inr (.inr (.inr (.inr (.inr (.inr ⟨by simpa using h1, by simpa using h2, by simpa using h3, by simpa using h4, by simpa using h5, by simpa using h6, by unfold consB; rw [if_neg h0, if_neg h4]; simp [h5, h6]⟩)))))
  · exact .inr (.inr (.inr (.inr (.inl ⟨by simpa using h1, by simpa using h2, by simpa using h3, by simpa using h4, by simpa using h5, by unfold consB; rw [if_neg h0, if_neg h4]; simp [h5]⟩))))
theorem cons_any (cl cp : Int) (o : Opn) (w : World) : Calls Try.prog 16 #[.agg #[.int .i64 cl, .int .i64 cp], opV o] w fun e w' => e = .returned (.bool (consB cl o)) ∧ Ext w w' := by
  rcases cons_cases cl o with ⟨d1, hc⟩ | ⟨d1, d2, hc⟩ | ⟨d1, d2, d3, hc⟩ | ⟨d1, d2, d3, d4, hc⟩ | ⟨d1, d2, d3, d4, d5, hc⟩ | ⟨d1, d2, d3, d4, d5, d6, hc⟩ | ⟨d1, d2, d3, d4, d5, d6, hc⟩ <;> (
    rw [hc]
    clear hc
    unfold opV
    go_enter Try.func16, Try.ntmps16
    go_wp2_with fail
    go_ret
    exact ⟨rfl, ((Ext.refl w).alloc _).alloc _⟩)
theorem wpList_storeOp2 {ops : Array Oper} {rest : List Oper} {dst : Option Nat} {x y : Operand} {t : TypeId} {pos : String} {af : Array Edge} {a : Act} {w : World} {Q : Exit → Act → World → Prop} {o : Opn} {c : Array Value} {s : Nat} (hs : w.heap.size = s) (hc : c.size = 23) (hx : a.eval x = .pointer (some ⟨s, 0, none⟩)) (hy : a.eval y = opV o) (hnv : o.nv.oneCell' = true) (hK : wpList Try.prog ops Q rest (a.put dst undef) (w.alloc (opO o))) :
    wpList Try.prog ops Q ({ dst := dst, op := .store 31 x y, type := t, pos := pos, after := af, guard := none } :: rest) a (w.alloc (.cells c 31)) := by
  subst hs
  exact wpList_storeOp hc hx hy hnv hK
theorem OpAt.drewO {w : World} {b p : Nat} {o : Opn} (h : OpAt w b p o) : OpAt w.drew b p o := h
/-- Numbers that a Go int holds. -/
structure Opn.fits (o : Opn) : Prop where
  cl : I64 o.cl
  dec : I64 o.dec
/-- What a round of Check holds. -/
structure ChkI (w : World) (fb m1 m2 : Nat) (cl cp : Int) (os : List Opn) (i : Nat) (wr : World) : Prop where
  ints : ∃ ks, IntsAt wr m1 ks ∧ ks.length = i ∧ ∀ k, k ∈ ks ↔ seenD os i k = true
  last : LastAt wr m2 i (lastAns os i)
  ext : Ext w wr
  c0 : wr.cell? ⟨fb, 0, none⟩ = some (.int .i64 cl)
  c1 : wr.cell? ⟨fb, 1, none⟩ = some (.int .i64 cp)
  lo : w.heap.size ≤ fb ∧ w.heap.size ≤ m1 ∧ w.heap.size ≤ m2 ∧ fb ≠ m1 ∧ fb ≠ m2 ∧ m1 ≠ m2 ∧ fb < wr.heap.size
  oks : ∀ j, j < i → okAt cl os j = true
theorem ChkI.grow {w : World} {fb m1 m2 : Nat} {cl cp : Int} {os : List Opn} {i : Nat} {wr w' : World} (h : ChkI w fb m1 m2 cl cp os i wr) (x : Ext wr w') : ChkI w fb m1 m2 cl cp os i w' := by
  obtain ⟨ks, h1, h2, h3⟩ := h.ints
  exact ⟨⟨ks, h1.ext x, h2, h3⟩, h.last.ext x, h.ext.trans x, (x.cell (p := ⟨fb, 0, none⟩) h.lo.2.2.2.2.2.2).trans h.c0, (x.cell (p := ⟨fb, 1, none⟩) h.lo.2.2.2.2.2.2).trans h.c1, ⟨h.lo.1, h.lo.2.1, h.lo.2.2.1, h.lo.2.2.2.1, h.lo.2.2.2.2.1, h.lo.2.2.2.2.2.1, Nat.lt_of_lt_of_le h.lo.2.2.2.2.2.2 x.size⟩, h.oks⟩
theorem chk_any {S : Nat → Prop} (cl cp : Int) (v : Value) (os : List Opn) (w : World) (ho : OpsAt w S v os) (hf : ∀ o ∈ os, o.fits) :
    Calls Try.prog 8 #[.agg #[.int .i64 cl, .int .i64 cp], v] w fun e w' => e = .returned (.tuple #[.int .i64 (checkL cl cp os).1, .int .i64 (checkL cl cp os).2]) ∧ Ext w w' := by
  obtain ⟨A, C, rfl⟩ := ho.shape
  have hmm := @run_makeMap Try.prog
  have x0 : Ext w (w.alloc (.cells #[.int .i64 cl, .int .i64 cp] 37)) := (Ext.refl w).alloc _
  have f0 : (w.alloc (.cells #[.int .i64 cl, .int .i64 cp] 37)).cell? ⟨w.heap.size, 0, none⟩ = some (.int .i64 cl) := by go_simp
  have f1 : (w.alloc (.cells #[.int .i64 cl, .int .i64 cp] 37)).cell? ⟨w.heap.size, 1, none⟩ = some (.int .i64 cp) := by go_simp
  have fl : w.heap.size < (w.alloc (.cells #[.int .i64 cl, .int .i64 cp] 37)).heap.size := by simp
  obtain ⟨n, hnn⟩ : ∃ n, os.length = n := ⟨_, rfl⟩
  have Hnn := Lib.hid hnn
  have Ho := Lib.hid (ho.mono (T := fun k => k < w.heap.size) fun k _ hk => hk)
  have Hf := Lib.hid hf
  have X0 := Lib.hid x0
  have F0 := Lib.hid f0
  have F1 := Lib.hid f1
  have Fl := Lib.hid fl
  rw [hnn]
  clear ho hf x0 f0 f1 fl hnn
  rcases confE_or cl cp with hc | hc
  · have HR := Lib.hid (show checkL cl cp os = (0, 3) by unfold checkL; rw [hc]; rfl)
    go_enter Try.func8, Try.ntmps8
    go_wp2_with fail
    refine (mnew_any cl cp _).mono ?_
    rintro x w1 (⟨_, rfl, hx1⟩ | ⟨h0, _⟩)
    · have Hx1 := Lib.hid (X0.out.trans hx1)
      clear hx1
      go_wp2_with fail
      go_ret2
      rw [HR.out]
      exact ⟨rfl, Hx1.out⟩
    · omega
  · have Hc := Lib.hid hc
    by_cases hn4 : 4096 < n
    · have hd4 : decide ((4096 : Int) < (n : Int)) = true := by simp; omega
      have HR := Lib.hid (show checkL cl cp os = (0, 7) by unfold checkL; rw [if_neg (by omega), if_pos (by rw [Hnn.out]; exact hn4)])
      go_enter Try.func8, Try.ntmps8
      go_wp2_with fail
      refine (mnew_any cl cp _).mono ?_
      rintro x w1 (⟨h0, _⟩ | ⟨_, b, m, rfl, _, _, _, hx1⟩)
      · omega
      · have Hx1 := Lib.hid (X0.out.trans hx1)
        clear hx1
        go_wp2_with fail
        go_ret2
        rw [HR.out]
        exact ⟨rfl, Hx1.out⟩
    · have hd4 : decide ((4096 : Int) < (n : Int)) = false := by simp; omega
      go_enter Try.func8, Try.ntmps8
      go_wp2_with fail
      refine (mnew_any cl cp _).mono ?_
      rintro x w1 (⟨h0, _⟩ | ⟨_, b, m, rfl, _, _, _, hx1⟩)
      · omega
      have f0 := (hx1.cell (p := ⟨w.heap.size, 0, none⟩) Fl.out).trans F0.out
      have f1 := (hx1.cell (p := ⟨w.heap.size, 1, none⟩) Fl.out).trans F1.out
      have fl := Nat.lt_of_lt_of_le Fl.out hx1.size
      have Hx1 := Lib.hid (X0.out.trans hx1)
      clear hx1 hc hd4
      have hI : ChkI w w.heap.size w1.heap.size (w1.heap.size + 1) cl cp os 0 ((w1.alloc (.map #[] 0)).alloc (.map #[] 0)) := by
        have y1 : Ext w1 ((w1.alloc (.map #[] 0)).alloc (.map #[] 0)) := ((Ext.refl w1).alloc _).alloc _
        refine ⟨⟨[], (ints_made w1).ext ((Ext.refl _).alloc _), rfl, fun k => by simp [seenD]⟩, ?_, Hx1.out.trans y1, (y1.cell (p := ⟨w.heap.size, 0, none⟩) fl).trans f0, (y1.cell (p := ⟨w.heap.size, 1, none⟩) fl).trans f1, ⟨Nat.le_refl _, Hx1.out.size, by have := Hx1.out.size; omega, by omega, by omega, by omega, by simp; omega⟩, fun j hj => by omega⟩
        have := last_made (w1.alloc (.map #[] 0))
        rw [show (w1.alloc (.map #[] 0)).heap.size = w1.heap.size + 1 by simp] at this
        exact this
      have HI := Lib.hid hI
      clear hI f0 f1 fl
      go_upto_region 8 with fail
      obtain ⟨fb, hfb⟩ : ∃ f, w.heap.size = f := ⟨_, rfl⟩
      obtain ⟨m1, hm1⟩ : ∃ f, w1.heap.size = f := ⟨_, rfl⟩
      obtain ⟨wA, hwA⟩ : ∃ W, (w1.alloc (.map #[] 0)).alloc (.map #[] 0) = W := ⟨_, rfl⟩
      have hI := HI.out
      rw [hwA] at hI ⊢
      have hI2 : ChkI w fb m1 (m1 + 1) cl cp os 0 wA := by rw [← hfb, ← hm1]; exact hI
      simp only [hm1, hfb]
      have HI2 := Lib.hid hI2
      clear hI hI2 HI hwA hm1 hfb Hx1 X0 F0 F1 Fl
      go_wp2_with fail
      go_loopw [29] (fun o wr => ∃ i : Nat, i ≤ n ∧ o = .int .i64 (i : Int) ∧ ChkI w fb m1 (m1 + 1) cl cp os i wr) (fun o _ => n - (intOf o).toNat)
      case atStart => exact ⟨0, by omega, rfl, HI2.out⟩
      case round =>
        obtain ⟨i, hi, rfl, hI⟩ := hrel
        have HI := Lib.hid hI
        clear hI HI2
        by_cases hin : i < n
        · have hd : decide ((i : Int) < (n : Int)) = true := by simp; omega
          obtain ⟨o, hoi⟩ : ∃ o, os[i]? = some o := ⟨os[i]'(by rw [Hnn.out]; exact hin), by rw [List.getElem?_eq_getElem]⟩
          obtain ⟨g, p, c, hv, hc1, hc2, _, hA, hN⟩ := (Ho.out.ext HI.out.ext).get hoi
          simp only [Value.slice.injEq] at hv
          obtain ⟨rfl, _, rfl⟩ := hv
          rw [Hnn.out] at hc1
          have hC : C ≤ 9223372036854775807 := by unfold maxLen at hc2; omega
          obtain ⟨nA, nC, hnv⟩ := hN.shape
          have hone : o.nv.oneCell' = true := by rw [hnv]; rfl
          have hfits := Hf.out o (List.mem_of_getElem? hoi)
          have HA := Lib.hid hA
          have Hoi := Lib.hid hoi
          have xA : Ext wr (wr.alloc (opO o)) := (Ext.refl wr).alloc _
          have hN1 := op_new wr o
          have hcl1 : (wr.alloc (opO o)).cell? ⟨wr.heap.size, 0, none⟩ = some (.int .i64 o.cl) := hN1.2 0 (by omega)
          obtain ⟨ob, b, hlook, hone2, hob⟩ := (HI.out.last.ext xA).look hfits.cl
          have Hfits := Lib.hid hfits
          have Hob := Lib.hid hob
          clear hN hnv hA hfits hob hN1 hoi
          go_upto_region 12 with (first | (refine wpList_loadOp HA.out rfl ?_) | (refine wpList_storeOp rfl rfl rfl hone ?_) | (refine wpList_storeOp2 (s := wr.heap.size + 1) (by simp) rfl rfl rfl hone2 ?_))
          have hI1 := (HI.out.grow xA).grow ((Ext.refl _).alloc (opO ob))
          have hN2 : OpAt ((wr.alloc (opO o)).alloc (opO ob)) wr.heap.size 0 o := (op_new wr o).ext ((Ext.refl _).alloc _)
          have hB2 : OpAt ((wr.alloc (opO o)).alloc (opO ob)) (wr.heap.size + 1) 0 ob := by
            have := op_new (wr.alloc (opO o)) ob
            rwa [show (wr.alloc (opO o)).heap.size = wr.heap.size + 1 by simp] at this
          have hnew : w.heap.size ≤ wr.heap.size := HI.out.ext.size
          have hfar : m1 < wr.heap.size ∧ m1 + 1 < wr.heap.size := by
            obtain ⟨ks, h1, _⟩ := HI.out.ints
            exact ⟨h1.lt, HI.out.last.lt⟩
          obtain ⟨W, hW⟩ : ∃ W, (wr.alloc (opO o)).alloc (opO ob) = W := ⟨_, rfl⟩
          obtain ⟨e, he⟩ : ∃ e, wr.heap.size = e := ⟨_, rfl⟩
          rw [hW] at hI1 hN2 hB2 ⊢
          rw [he] at hN2 hB2 hnew hfar
          simp only [he]
          have c0 := hI1.c0
          have c1 := hI1.c1
          have HI1 := Lib.hid hI1
          have HN2 := Lib.hid hN2
          have HB2 := Lib.hid hB2
          clear hI1 hN2 hB2 xA hcl1 hlook hW he HI
          go_wp2_with (refine wpList_loadOp HN2.out rfl ?_)
          refine (cons_any cl cp o _).mono ?_
          rintro x w2 ⟨rfl, hx2⟩
          have hI2 := HI1.out.grow hx2
          have hN3 := HN2.out.ext hx2
          have hB3 := HB2.out.ext hx2
          have HI2 := Lib.hid hI2
          have HN3 := Lib.hid hN3
          have HB3 := Lib.hid hB3
          clear hx2 HI1 HN2 HB2 c0 c1 hI2 hN3 hB3
          have bad : okAt cl os i = false → Hid (checkL cl cp os = ((i : Int), 4)) := fun h => checkL_bad Hc.out (by rw [Hnn.out]; exact hn4) (by rw [Hnn.out]; exact hin) h HI2.out.oks
          have BAD := Lib.hid bad
          clear bad
          cases hcb : consB cl o with
          | false =>
            have HR := BAD.out (by simp [okAt, Hoi.out, hcb])
            go_wp2_with fail
            go_ret2
            rw [HR.out]
            exact ⟨rfl, HI2.out.ext⟩
          | true =>
            have hw13 := HI2.out.ext
            go_upto_region 13 with fail
            go_cut [41] (fun v wx => v = .bool (begB os i o) ∧ wx = w2.drew)
            case first =>
              have hbg := HN3.out.begun
              by_cases h0 : 0 < i
              · obtain ⟨k, hk1, hk2⟩ : ∃ k, k + 1 ≤ i ∧ i ≤ k + 1 := ⟨i - 1, by omega, by omega⟩
                obtain ⟨q, hq⟩ : ∃ q, os[k]? = some q := ⟨os[k]'(by rw [Hnn.out]; omega), List.getElem?_eq_getElem _⟩
                obtain ⟨g', p', c', hv', _, _, _, hQ, _⟩ := (Ho.out.ext hw13).get hq
                simp only [Value.slice.injEq, Option.some.injEq, Addr.mk.injEq, and_true, true_and] at hv'
                obtain ⟨⟨rfl, rfl⟩, _⟩ := hv'
                have hqb := hQ.begun
                have rk : (i : Int) - 1 = (k : Int) := by omega
                have wk : IntKind.i64.wrap (k : Int) = (k : Int) := by rw [IntWalk.i64_in _ (by omega)]
                have hz : (0 : Int) < (i : Int) := by omega
                have q0 : (0 : Int) ≤ (k : Int) := by omega
                have q1 : (k : Int) < (n : Int) := by omega
                have hB : begB os i o = decide (o.begun ≤ q.begun) := by
                  unfold begB
                  rw [show i - 1 = k by omega, hq]
                  simp [h0]
                have HB := Lib.hid hB
                clear hB hQ hq hk1 hk2
                go_wp2_with fail
                go_region
                go_wp2_with fail
                go_meet
                exact ⟨by rw [HB.out], rfl⟩
              · have hz : ¬ (0 : Int) < (i : Int) := by omega
                have hB : begB os i o = false := by
                  unfold begB
                  split
                  · simp [h0]
                  · rfl
                have HB := Lib.hid hB
                clear hB
                go_wp2_with fail
                go_region
                go_wp2_with fail
                go_meet
                exact ⟨by rw [HB.out], rfl⟩
            case rest =>
              obtain ⟨rfl, rfl⟩ := hcut
              cases hbb : begB os i o with
              | true =>
                have HR := BAD.out (by simp [okAt, Hoi.out, hbb])
                go_wp2_with fail
                go_ret2
                rw [HR.out]
                exact ⟨rfl, HI2.out.ext.drew⟩
              | false =>
                obtain ⟨ks, hks, hkl, hkm⟩ := HI2.out.ints
                have hdc := HN3.out.dec
                have hbg := HN3.out.begun
                have hba := HB3.out.ans
                have hclk : w2.drew.cell? ⟨e, 0, none⟩ = some (.int .i64 o.cl) := HN3.out.2 0 (by omega)
                have hl1 := IntsAt.look (w := w2.drew) (m := m1) (ks := ks) hks Hfits.out.dec
                have HKS := Lib.hid hks
                have HKM := Lib.hid hkm
                clear hks hkm
                by_cases hsd : (o.dec != -1 && seenD os i o.dec) = true
                · have HR := BAD.out (by simp only [okAt, Hoi.out, hsd]; simp)
                  simp only [Bool.and_eq_true] at hsd
                  obtain ⟨hs1, hs2⟩ := hsd
                  have hin2 : decide (o.dec ∈ ks) = true := by simpa using (HKM.out o.dec).2 hs2
                  rw [hin2] at hl1
                  clear hs2 hin2
                  go_wp2_with fail
                  go_ret2
                  rw [HR.out]
                  exact ⟨rfl, HI2.out.ext.drew⟩
                · have hsd' : (o.dec != -1 && seenD os i o.dec) = false := by simpa using hsd
                  have hsel : (o.dec != -1) = false ∨ ((o.dec != -1) = true ∧ decide (o.dec ∈ ks) = false) := by
                    cases hq : (o.dec != -1) with
                    | false => exact .inl rfl
                    | true =>
                      rw [hq, Bool.true_and] at hsd'
                      refine .inr ⟨rfl, ?_⟩
                      have : ¬ o.dec ∈ ks := fun hm => by rw [(HKM.out o.dec).1 hm] at hsd'; simp at hsd'
                      simpa using this
                  have HSD := Lib.hid hsd'
                  clear hsd hsd'
                  go_upto_region 14 with fail
                  go_cut [41] (fun v wx => v = .bool false ∧ wx = w2.drew)
                  case first =>
                    rcases hsel with hs | ⟨hs, hs2⟩
                    · go_wp2_with fail
                      go_meet
                      exact ⟨rfl, rfl⟩
                    · rw [hs2] at hl1
                      clear hs2
                      go_wp2_with fail
                      go_meet
                      exact ⟨rfl, rfl⟩
                  case rest =>
                    obtain ⟨rfl, rfl⟩ := hcut
                    clear hsel hl1
                    go_upto_region 15 with fail
                    go_cut [41] (fun v wx => v = .bool (lateB os i o) ∧ wx = w2.drew)
                    case first =>
                      rcases Hob.out with ⟨h1, rfl⟩ | ⟨h1, rfl⟩
                      · have HL := Lib.hid (show lateB os i o = false by unfold lateB; rw [h1])
                        clear h1
                        go_wp2_with fail
                        go_meet
                        exact ⟨by rw [HL.out], rfl⟩
                      · by_cases h2 : ob.ans = -1
                        · have HL := Lib.hid (show lateB os i o = true by unfold lateB; rw [h1]; simp [h2])
                          have h2' : (ob.ans == -1) = true := by simpa using h2
                          clear h1 h2
                          go_wp2_with fail
                          go_meet
                          exact ⟨by rw [HL.out], rfl⟩
                        · have HL := Lib.hid (show lateB os i o = decide (o.begun ≤ ob.ans) by unfold lateB; rw [h1]; simp [h2])
                          have h2' : (ob.ans == -1) = false := by simpa using h2
                          clear h1 h2
                          go_wp2_with fail
                          go_meet
                          exact ⟨by rw [HL.out], rfl⟩
                    case rest =>
                      obtain ⟨rfl, rfl⟩ := hcut
                      cases hlb : lateB os i o with
                      | true =>
                        have HR := BAD.out (by simp [okAt, Hoi.out, hlb])
                        go_wp2_with fail
                        go_ret2
                        rw [HR.out]
                        exact ⟨rfl, HI2.out.ext.drew⟩
                      | false =>
                        have hok : okAt cl os i = true := by simp only [okAt, Hoi.out, hcb, hbb, HSD.out, hlb]; rfl
                        obtain ⟨w3, hrun3, hL3, hC3⟩ := last_put (w := w2.drew) HI2.out.last (by unfold maxLen; omega) Hfits.out.cl hone
                        have hN4 : OpAt w3 e 0 o := OpAt.chg (S := (· = m1 + 1)) (w := w2.drew) HN3.out hC3 (by omega)
                        have hdc4 := hN4.dec
                        have hks3 : IntsAt w3 m1 ks := IntsAt.chg (w := w2.drew) HKS.out hC3 (by omega)
                        obtain ⟨w4, hrun4, hK4, hC4⟩ := ints_put hks3 (by rw [hkl]; unfold maxLen; omega) Hfits.out.dec
                        have hlo := HI2.out.lo
                        have hI4 : ChkI w fb m1 (m1 + 1) cl cp os (i + 1) w4 := by
                          have f3 : ∀ k, w3.cell? ⟨fb, k, none⟩ = w2.cell? ⟨fb, k, none⟩ := fun k => hC3.cell (p := ⟨fb, k, none⟩) hlo.2.2.2.2.2.2 hlo.2.2.2.2.1
                          have f4 : ∀ k, w4.cell? ⟨fb, k, none⟩ = w3.cell? ⟨fb, k, none⟩ := fun k => hC4.cell (p := ⟨fb, k, none⟩) (Nat.lt_of_lt_of_le hlo.2.2.2.2.2.2 hC3.size) hlo.2.2.2.1
                          refine ⟨⟨o.dec :: ks, hK4, by simp [hkl], fun k => ?_⟩, ?_, (HI2.out.ext.drew.chg_new hC3 fun k hk => by rw [hk]; exact hlo.2.2.1).chg_new hC4 fun k hk => by rw [hk]; exact hlo.2.1, (f4 0).trans ((f3 0).trans HI2.out.c0), (f4 1).trans ((f3 1).trans HI2.out.c1), ⟨hlo.1, hlo.2.1, hlo.2.2.1, hlo.2.2.2.1, hlo.2.2.2.2.1, hlo.2.2.2.2.2.1, Nat.lt_of_lt_of_le (Nat.lt_of_lt_of_le hlo.2.2.2.2.2.2 hC3.size) hC4.size⟩, fun j hj => ?_⟩
                          · rw [seenD_next os Hoi.out, List.mem_cons, HKM.out]
                          · have := hL3.chg hC4 (by omega)
                            rwa [show (fun c => if o.cl = c then some o.ans else lastAns os i c) = lastAns os (i + 1) from funext fun c => (lastAns_next os Hoi.out c).symm] at this
                          · by_cases ej : j = i
                            · rw [ej]; exact hok
                            · exact HI2.out.oks j (by omega)
                        have HI4 := Lib.hid hI4
                        clear hI4 hK4 hC4 hks3 hL3 hC3 hN4 hok hlo
                        go_wp2_with (refine wpList_loadOp HN3.out.drewO rfl ?_)
                        go_roundw
                        case rel => exact ⟨i + 1, by omega, by go_num, HI4.out⟩
                        case measure => simp [intOf]; omega
        · have hd : decide ((i : Int) < (n : Int)) = false := by simp; omega
          have HR := Lib.hid (checkL_good Hc.out (by rw [Hnn.out]; exact hn4) (fun j hj => HI.out.oks j (by rw [Hnn.out] at hj; omega)))
          go_wp2_with fail
          go_ret2
          rw [HR.out]
          exact ⟨rfl, HI.out.ext⟩
end Go.Proofs.Ythenclenabcmgaa
