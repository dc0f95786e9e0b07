/-
  history.Replay performs the operations in the order of their decisions (32.4).
  Conditions: the operations lie in memory.
-/
import Derived.Test.YthenclenabcmgaaExpl
namespace Go.Proofs.Ythenclenabcmgaa
open Go.RowKit Go.Sort
set_option maxHeartbeats 8000000
set_option maxRecDepth 100000

def replL (cl cp : Int) (os : List Opn) : Int × Int :=
  if (checkL cl cp os).2 ≠ 0 then checkL cl cp os else match runO cl cp os (ordL os) ([], 0, true) with | some (i, e) => ((i : Int), e) | none => (0, 0)
theorem checkL_ok {cl cp : Int} {os : List Opn} (h : (checkL cl cp os).2 = 0) : confE cl cp = 0 ∧ os.length ≤ 4096 := by
  unfold checkL at h
  split at h
  · rename_i h1; exact absurd h h1
  · rename_i h1
    split at h
    · simp at h
    · rename_i h2
      exact ⟨by omega, by omega⟩
theorem replay_any {S : Nat → Prop} (cl cp : Int) (v : Value) (os : List Opn) (w : World) (ho : OpsAt w S v os) (hf : ∀ o ∈ os, o.fits) (hk : KeyOk os) :
    Calls Try.prog 12 #[.agg #[.int .i64 cl, .int .i64 cp], v] w fun e w' => e = .returned (.tuple #[.int .i64 (replL cl cp os).1, .int .i64 (replL cl cp os).2]) ∧ Ext w w' := by
  obtain ⟨A, C, rfl⟩ := ho.shape
  have x0 : Ext w (w.alloc (.cells #[.int .i64 cl, .int .i64 cp] 37)) := (Ext.refl w).alloc _
  have f0 : (w.alloc (.cells #[.int .i64 cl, .int .i64 cp] 37)).cell? ⟨w.heap.size, 0, none⟩ = some (.int .i64 cl) := by go_simp
  have f1 : (w.alloc (.cells #[.int .i64 cl, .int .i64 cp] 37)).cell? ⟨w.heap.size, 1, none⟩ = some (.int .i64 cp) := by go_simp
  have fl : w.heap.size < (w.alloc (.cells #[.int .i64 cl, .int .i64 cp] 37)).heap.size := by simp
  obtain ⟨n, hnn⟩ : ∃ n, os.length = n := ⟨_, rfl⟩
  have Hnn := Lib.hid hnn
  have Ho := Lib.hid (ho.mono (T := fun k => k < w.heap.size) fun k _ hk => hk)
  have HC := Lib.hid (chk_any cl cp _ os _ (ho.ext x0) hf)
  have Hk := Lib.hid hk
  have X0 := Lib.hid x0
  have F0 := Lib.hid f0
  have F1 := Lib.hid f1
  have Fl := Lib.hid fl
  rw [hnn] at HC ⊢
  clear ho hf x0 f0 f1 fl hnn hk
  obtain ⟨⟨ci, ce⟩, hce⟩ : ∃ p, checkL cl cp os = p := ⟨_, rfl⟩
  have Hce := Lib.hid hce
  rw [hce] at HC
  simp only at HC
  clear hce
  go_enter Try.func12, Try.ntmps12
  go_wp2_with fail
  refine Calls.mono HC.out ?_
  rintro x w1 ⟨rfl, hx1⟩
  have f0 := (hx1.cell (p := ⟨w.heap.size, 0, none⟩) Fl.out).trans F0.out
  have f1 := (hx1.cell (p := ⟨w.heap.size, 1, none⟩) Fl.out).trans F1.out
  have Hx1 := Lib.hid (X0.out.trans hx1)
  clear hx1 HC
  by_cases hc0 : ce = 0
  · obtain ⟨hconf, hlen⟩ := checkL_ok (cl := cl) (cp := cp) (os := os) (by rw [Hce.out]; exact hc0)
    have hcz : (ce != 0) = false := by simp [hc0]
    have Hc0 := Lib.hid hc0
    rw [Hnn.out] at hlen
    clear hc0
    go_wp2_with fail
    refine (start_any cl cp hconf _).mono ?_
    rintro x w2 ⟨rb, b, m, rfl, hrep, hlo1, hlo2, hx2⟩
    have HRp := Lib.hid hrep
    have Hlt2 := Lib.hid (show rb < w2.heap.size ∧ m < w2.heap.size from ⟨hrep.lt, hrep.mod.map.lt⟩)
    have HL := Lib.hid (show w.heap.size ≤ rb ∧ w.heap.size ≤ m from ⟨Nat.le_trans Hx1.out.size hlo1, Nat.le_trans Hx1.out.size hlo2⟩)
    have HO := Lib.hid (order_any _ os w2 (Ho.out.ext (Hx1.out.trans hx2)) (by rw [Hnn.out]; omega))
    have Hx2 := Lib.hid (Hx1.out.trans hx2)
    rw [Hnn.out] at HO
    clear hrep hlo1 hlo2 hx2 Hx1 f0 f1
    go_wp2_with fail
    refine Calls.mono HO.out ?_
    rintro x w3 ⟨vl, rfl, hl, hx3⟩
    obtain ⟨A2, C2, rfl⟩ := hl.shape
    obtain ⟨ord, hord⟩ : ∃ l, ordL os = l := ⟨_, rfl⟩
    have Hord := Lib.hid hord
    have hmem : ∀ i ∈ ord, ∃ o, os[i]? = some o := fun i hi => ordL_mem (by rw [hord]; exact hi)
    have hol : ord.length ≤ 4096 := by have := ordL_len os; rw [hord, Hnn.out] at this; omega
    rw [hord] at hl
    simp only [hord]
    obtain ⟨q, hqq⟩ : ∃ n, ord.length = n := ⟨_, rfl⟩
    have Hqq := Lib.hid hqq
    have hI : RunI w rb b m cl cp os ord 0 ([], 0, true) w3 := ⟨HRp.out.ext hx3, rfl, by simp, fun j hj => by omega, Hx2.out.trans hx3, HL.out⟩
    have HI := Lib.hid hI
    have Hl := Lib.hid hl
    have Hm := Lib.hid hmem
    rw [hqq] at hol ⊢
    clear hl hx3 hord hmem hqq hI HRp Hx2 HO
    go_wp2_with fail
    go_loopw [9, 28] (fun f o wr => ∃ (k : Nat) (st : RSt), k ≤ q ∧ o = .int .i64 (k : Int) ∧ f = .bool st.2.2 ∧ RunI w rb b m cl cp os ord k st wr ∧ NatsAt wr (fun k => w2.heap.size ≤ k) (.slice A2 q C2) ord) (fun _ o _ => q - (intOf o).toNat)
    case atStart => exact ⟨0, _, by omega, rfl, rfl, HI.out, by have := Hl.out; rwa [Hqq.out] at this⟩
    case round =>
      obtain ⟨k, st, hkq, rfl, rfl, hI, hnat⟩ := hrel
      have HI2 := Lib.hid hI
      have HNat := Lib.hid hnat
      clear hI hnat HI Hl
      by_cases hkl : k < q
      · have hd : decide ((k : Int) < (q : Int)) = true := by simp; omega
        obtain ⟨i, hi⟩ : ∃ i, ord[k]? = some i := ⟨ord[k]'(by rw [Hqq.out]; exact hkl), List.getElem?_eq_getElem _⟩
        obtain ⟨o, hoi⟩ := Hm.out i (List.mem_of_getElem? hi)
        have xw := HI2.out.ext
        obtain ⟨g2, p2, c2', hv2, l1, l2, _, hg2, hcell⟩ := HNat.out.get hi
        obtain ⟨g, p, c, hv, hc1, hc2, hgS, hA, hN⟩ := (Ho.out.ext xw).get hoi
        simp only [Value.slice.injEq] at hv hv2
        obtain ⟨rfl, -, rfl⟩ := hv
        obtain ⟨hv2, -, hv3⟩ := hv2
        have l3 : C2 = c2' := hv3
        rw [Hnn.out] at hc1
        rw [Hqq.out] at l1
        rw [← l3] at l1 l2
        clear hv3 l3
        have hin : i < n := by rw [← Hnn.out]; exact (List.getElem?_eq_some_iff.1 hoi).1
        have q1 : (0 : Int) ≤ (i : Int) := by omega
        have q2 : (i : Int) < (n : Int) := by omega
        have hC : C ≤ 9223372036854775807 := by unfold maxLen at hc2; omega
        have hC2 : C2 ≤ 9223372036854775807 := by unfold maxLen at l2; omega
        have Hi := Lib.hid hi
        have Hoi := Lib.hid hoi
        have HA := Lib.hid hA
        have HN := Lib.hid hN
        have hml := HI2.out.rep.mod.map.lt
        have hrl := HI2.out.rep.lt
        have hgw := HI2.out.lo
        have hlen2 : ¬ (q : Int) ≤ (k : Int) := by omega
        have Hgs := Lib.hid (show g ≠ m ∧ g ≠ rb by omega)
        clear hi hoi hA hN hgw
        go_upto_region 9 with fail
        clear hcell hv2 hlen2
        try go_frame
        go_cut [9, 32, 33, 40] from 34 to 39 (fun f f1 f2 v wx => f = .bool st.2.2 ∧ f1 = .bool st.2.2 ∧ f2 = .bool st.2.2 ∧ v = .bool (st.2.2 && (o.bad.e == 0)) ∧ Ext wr wx)
        case first =>
          cases hf : st.2.2 with
          | false =>
            go_wp2_with fail
            go_meet
            exact ⟨by rw [hf], by rw [hf], by rw [hf], by rw [hf]; rfl, Ext.refl _⟩
          | true =>
            go_wp2_with (first | (refine wpList_loadOpG HA.out rfl rfl ?_) | (go_at_call 21; refine (refused_op o _).mono ?_; rintro x w3 ⟨rfl, hx3⟩))
            go_meet
            exact ⟨by rw [hf], by rw [hf], by rw [hf], by rw [hf]; simp [bne], hx3⟩
        case rest =>
          obtain ⟨rfl, rfl, rfl, rfl, hx3⟩ := hcut
          have hI3 := HI2.out.rep.ext hx3
          have hN3 := HA.out.ext hx3
          have HN3 := Lib.hid hN3
          have HX3 := Lib.hid (HI2.out.ext.trans hx3)
          have HNm := Lib.hid (Rd.ext HN.out hx3)
          have HNat3 := Lib.hid (show NatsAt wc _ _ ord from Rd.ext HNat.out hx3)
          have HR3 := Lib.hid hI3
          have z22 : wc.cell? ⟨g, p + i * 23 + 22, none⟩ = some (.int .i64 o.res.tick) := hN3.2 22 (by omega)
          have r1 := hI3.c1
          have rz := hI3.z1
          clear hx3 hN3 hI3 HNat
          go_upto_if 40 with fail
          go_cut [9] (fun v wx => v = .bool (firstS' st o) ∧ RepAt wx rb b m cl cp st.1 (tickS st o) ∧ OpAt wx g (p + i * 23) o ∧ Ext w wx ∧ NmsAt wx (fun k => k < w.heap.size) o.nv o.ns ∧ NatsAt wx (fun k => w2.heap.size ≤ k) (.slice A2 q C2) ord)
          case first =>
            cases hq : (st.2.2 && (o.bad.e == 0)) with
            | false =>
              have h1 : ¬ (st.2.2 = true ∧ o.bad.e = 0) := by simpa using hq
              have H1 := Lib.hid (show tickS st o = st.2.1 by unfold tickS; rw [if_neg h1])
              have H2 := Lib.hid (show firstS' st o = st.2.2 by unfold firstS'; rw [if_neg h1])
              clear h1
              go_wp2_with fail
              go_meet
              exact ⟨by rw [H2.out], by rw [H1.out]; exact HR3.out, HN3.out, HX3.out, HNm.out, HNat3.out⟩
            | true =>
              have h1 : st.2.2 = true ∧ o.bad.e = 0 := by simpa using hq
              have H1 := Lib.hid (show tickS st o = o.res.tick by unfold tickS; rw [if_pos h1])
              have H2 := Lib.hid (show firstS' st o = false by unfold firstS'; rw [if_pos h1])
              clear h1 hq
              go_wp2_with fail
              go_meet
              have hc : Chg (· = rb) wc (wc.setCell ⟨rb, 1, none⟩ (.int .i64 o.res.tick)) := (Chg.refl (· = rb) wc).setCell (.inl rfl) _
              refine ⟨by rw [H2.out], ?_, HN3.out.chg hc Hgs.out.2, HX3.out.chg_new hc (fun i hi => by rw [hi]; exact HI2.out.lo.1), Rd.chg HNm.out hc (fun i hi e => by have := HI2.out.lo.1; omega), Rd.chg HNat3.out hc (fun i hi e => by have := Hlt2.out.1; omega)⟩
              rw [H1.out]
              exact ⟨(World.cell?_setCell_other _ _ _ _ (by simp)).trans HR3.out.c0, World.cell?_setCell_same _ _ _ r1, Nat.lt_of_lt_of_le HR3.out.lt hc.size, HR3.out.nb, HR3.out.nm, (World.frozen?_setCell _ _ _ _).trans rz, HR3.out.mod.chg hc (fun h => HR3.out.nb h.symm) (fun h => HR3.out.nm h.symm)⟩
          case rest =>
            obtain ⟨rfl, hR4, hN4, hx4, hn4, hnat4⟩ := hcut
            have HN4 := Lib.hid hN4
            have hks := Hk.out o (List.mem_of_getElem? Hoi.out)
            have hfew := HI2.out.few
            have HP := Lib.hid (perform_any (S := fun k => k < w.heap.size) rb b m cl cp st.1 (tickS st o) o wc hR4 (by omega) hn4 hks (by have := HI2.out.lo.2; omega) (by have := HI2.out.lo.1; omega))
            have HX4 := Lib.hid hx4
            have HNat4 := Lib.hid hnat4
            clear hR4 hN4 hx4 hn4 hks z22 r1 rz HR3 HN3 hnat4
            go_wp2_with (refine wpList_loadOp HN4.out rfl ?_)
            refine Calls.mono HP.out ?_
            rintro x w5 ⟨rfl, hR5, hc5⟩
            have hx5 := HX4.out.chg_new hc5 (fun i hi => by rcases hi with rfl | rfl; exact HI2.out.lo.2; exact HI2.out.lo.1)
            have hnat5 : NatsAt w5 (fun k => w2.heap.size ≤ k) (.slice A2 q C2) ord := Rd.chg HNat4.out hc5 (fun i hi e => by have := Hlt2.out; rcases e with e | e <;> omega)
            obtain ⟨code, hcode⟩ : ∃ c, (perfL cl cp st.1 (tickS st o) o).1 = c := ⟨_, rfl⟩
            have Hcode := Lib.hid (show (stepL cl cp st o).1 = code from hcode)
            have HR5 := Lib.hid hR5
            have HX5 := Lib.hid hx5
            have HNat5 := Lib.hid hnat5
            rw [hcode]
            clear hcode hR5 hc5 hx5 hnat5
            by_cases h0 : code = 0
            · have hz : (code != 0) = false := by simp [h0]
              have H0 := Lib.hid h0
              clear h0
              go_wp2_with fail
              go_roundw
              case rel =>
                refine ⟨k + 1, (stepL cl cp st o).2, by omega, by go_num, rfl, ⟨HR5.out, ?_, ?_, fun j hj i' o' h1 h2 => ?_, HX5.out, HI2.out.lo⟩, HNat5.out⟩
                · rw [stO_next Hi.out Hoi.out, ← HI2.out.is]
                · have := step_len (cl := cl) (cp := cp) (st := st) (o := o); omega
                · by_cases ej : j = k
                  · subst ej
                    have e1 : i' = i := by rw [Hi.out] at h1; exact (Option.some.inj h1).symm
                    subst e1
                    have e2 : o' = o := by rw [Hoi.out] at h2; exact (Option.some.inj h2).symm
                    subst e2
                    rw [← HI2.out.is, Hcode.out, H0.out]
                  · exact HI2.out.oks j (by omega) i' o' h1 h2
              case measure => simp [intOf]; omega
            · have hz : (code != 0) = true := by simp [h0]
              have HE := Lib.hid (show replL cl cp os = ((i : Int), code) by
                have h3 := runO_hit HI2.out.oks Hm.out Hi.out Hoi.out (by rw [← HI2.out.is, Hcode.out]; exact h0)
                rw [← HI2.out.is, Hcode.out] at h3
                unfold replL
                rw [Hce.out, if_neg (by have := Hc0.out; simpa using this), Hord.out, h3])
              clear h0
              go_wp2_with fail
              go_ret2
              rw [HE.out]
              exact ⟨rfl, HX5.out⟩
      · have hd : decide ((k : Int) < (q : Int)) = false := by simp; omega
        have HE := Lib.hid (show replL cl cp os = (0, 0) by
          unfold replL
          rw [Hce.out, if_neg (by have := Hc0.out; simpa using this), Hord.out, runO_end (fun j hj => HI2.out.oks j (by rw [Hqq.out] at hj; omega)) Hm.out])
        go_wp2_with fail
        go_ret2
        rw [HE.out]
        exact ⟨rfl, HI2.out.ext⟩
  · have hcz : (ce != 0) = true := by simp [hc0]
    have HR := Lib.hid (show replL cl cp os = (ci, ce) by unfold replL; rw [Hce.out, if_pos hc0])
    clear hc0
    go_wp2_with fail
    go_ret2
    rw [HR.out]
    exact ⟨rfl, Hx1.out⟩
end Go.Proofs.Ythenclenabcmgaa
