/-
  Whether an order explains the responses of its operations: the program's explains (32.5).
  Conditions: as named.
-/
import Derived.Test.YthenclenabcmgaaStart
namespace Go.Proofs.Ythenclenabcmgaa
open Go.RowKit Go.Sort
set_option maxHeartbeats 8000000
set_option maxRecDepth 100000

theorem doL_len16 {cl cap client op ttl now : Int} {l : List Kp} {ns : List Nm} : (doL cl cap l client op ttl now ns).length ≤ l.length + 16 := by
  unfold doL
  split
  · rename_i h
    have hp : Proper cl client op ttl now ns := of_decide_eq_true h.1
    have hlen : (withR l ns).length ≤ 16 := by rw [withR_len]; exact hp.l1
    rw [putAll_Q]
    have := putQ_len l (afterQ op client (now + ttl) (withR l ns))
    have e1 : (afterQ op client (now + ttl) (withR l ns)).length = (withR l ns).length := by simp [afterQ]
    omega
  · omega
theorem perf_len {cl cp : Int} {l : List Kp} {t : Int} {o : Opn} : (perfL cl cp l t o).2.1.length ≤ l.length + 16 := by
  unfold perfL
  split
  · simp
  · split
    · simp
    · exact doL_len16
theorem step_len {cl cp : Int} {st : RSt} {o : Opn} : (stepL cl cp st o).2.1.length ≤ st.1.length + 16 := perf_len
theorem wpList_loadOpG {ops : Array Oper} {rest : List Oper} {dst : Option Nat} {x : Operand} {t : TypeId} {pos : String} {af : Array Edge} {gd : Option (Nat × Bool)} {a : Act} {w : World} {Q : Exit → Act → World → Prop} {b p : Nat} {o : Opn} (h : OpAt w b p o)
    (hw : Region.wanted { dst := dst, op := .load 31 x, type := t, pos := pos, after := af, guard := gd } (yielded ops a.tmps) = true) (hx : a.eval x = .pointer (some ⟨b, p, none⟩)) (hK : wpList Try.prog ops Q rest (a.put dst (opV o)) w) :
    wpList Try.prog ops Q ({ dst := dst, op := .load 31 x, type := t, pos := pos, after := af, guard := gd } :: rest) a w := by
  have hu := und_op
  rw [Option.map_eq_some_iff] at hu
  obtain ⟨d, hu, hd⟩ := hu
  show if _ then _ else _
  rw [if_pos hw]
  exact .inl (wp_load_mid _ x rfl b p hx (opC o) d h.range hu hd (by rw [info_op]; rfl) hK)
theorem NatsAt.get {w : World} {S : Nat → Prop} {v : Value} {l : List Nat} (h : NatsAt w S v l) {j i : Nat} (hj : l[j]? = some i) :
    ∃ g p c, v = .slice (some ⟨g, p, none⟩) l.length c ∧ l.length ≤ c ∧ c ≤ maxLen ∧ S g ∧ g < w.heap.size ∧ w.cell? ⟨g, p + j, none⟩ = some (.int .i64 (i : Int)) := by
  obtain ⟨g, p, c, hv, h1, h2, h3, h4, hc⟩ := h.at_ (List.getElem?_eq_some_iff.1 hj).1
  exact ⟨g, p, c, hv, h1, h2, h3, h4, hc j _ (by rw [List.getElem?_map, hj]; rfl)⟩
theorem NatsAt.shape {w : World} {S : Nat → Prop} {v : Value} {l : List Nat} (h : NatsAt w S v l) : ∃ A c, v = .slice A l.length c := by
  obtain ⟨_, A, c, hv, _⟩ := h
  exact ⟨A, c, hv⟩
/-- Names whose keys a process can hold. -/
def KeyOk (os : List Opn) : Prop := ∀ o ∈ os, ∀ n ∈ o.ns, n.k.size ≤ maxLen
/-- What the loops over an order hold. -/
structure RunI (w : World) (rb b m : Nat) (cl cp : Int) (os : List Opn) (ord : List Nat) (k : Nat) (st : RSt) (wr : World) : Prop where
  rep : RepAt wr rb b m cl cp st.1 st.2.1
  is : st = stO cl cp os (ord.take k) ([], 0, true)
  few : st.1.length ≤ 16 * k
  oks : ∀ j, j < k → ∀ i o, ord[j]? = some i → os[i]? = some o → (stepL cl cp (stO cl cp os (ord.take j) ([], 0, true)) o).1 = 0
  ext : Ext w wr
  lo : w.heap.size ≤ rb ∧ w.heap.size ≤ m
theorem explains_any {S T : Nat → Prop} (sb : Nat) (cl cp : Int) (vo vl : Value) (os : List Opn) (ord : List Nat) (w : World) (hc : confE cl cp = 0) (c0 : w.cell? ⟨sb, 0, none⟩ = some (.int .i64 cl)) (c1 : w.cell? ⟨sb, 1, none⟩ = some (.int .i64 cp)) (c2 : w.cell? ⟨sb, 2, none⟩ = some vo) (c6 : w.cell? ⟨sb, 6, none⟩ = some vl)
    (ho : OpsAt w S vo os) (hk : KeyOk os) (hl : NatsAt w T vl ord) (hlen : ord.length ≤ 6000) (hm : ∀ i ∈ ord, ∃ o, os[i]? = some o) :
    Calls Try.prog 19 #[.pointer (some ⟨sb, 0, none⟩)] w fun e w' => e = .returned (.bool (runO cl cp os ord ([], 0, true)).isNone) ∧ Ext w w' := by
  obtain ⟨A, C, rfl⟩ := ho.shape
  obtain ⟨A2, C2, rfl⟩ := hl.shape
  have hsb := lt_of_cell c0
  obtain ⟨n, hnn⟩ : ∃ n, os.length = n := ⟨_, rfl⟩
  obtain ⟨q, hqq⟩ : ∃ n, ord.length = n := ⟨_, rfl⟩
  have Hnn := Lib.hid hnn
  have Hqq := Lib.hid hqq
  have Ho := Lib.hid (ho.mono (T := fun k => k < w.heap.size) fun k _ hk => hk)
  have Hl := Lib.hid hl
  have Hk := Lib.hid hk
  have Hm := Lib.hid hm
  rw [hnn] at c2
  rw [hqq] at c6 hlen
  have C2w := Lib.hid c2
  have C6w := Lib.hid c6
  clear hnn hqq ho hl hk hm
  go_enter Try.func19, Try.ntmps19
  go_wp2_with fail
  refine (start_any cl cp hc _).mono ?_
  rintro x w1 ⟨rb, b, m, rfl, hrep, hlo1, hlo2, hx1⟩
  replace c2 := (hx1.cell (p := ⟨sb, 2, none⟩) hsb).trans c2
  replace c6 := (hx1.cell (p := ⟨sb, 6, none⟩) hsb).trans c6
  have hsb1 := Nat.lt_of_lt_of_le hsb hx1.size
  have hI : RunI w rb b m cl cp os ord 0 ([], 0, true) w1 := ⟨hrep, rfl, by simp, fun j hj => by omega, hx1, hlo1, hlo2⟩
  have HI := Lib.hid hI
  clear hrep hlo1 hlo2 hx1 hI c0 c1
  go_wp2_with fail
  go_loopw [4, 18] (fun f o wr => ∃ (k : Nat) (st : RSt), k ≤ q ∧ o = .int .i64 (k : Int) ∧ f = .bool st.2.2 ∧ RunI w rb b m cl cp os ord k st wr) (fun _ o _ => q - (intOf o).toNat)
  case atStart => exact ⟨0, _, by omega, rfl, rfl, HI.out⟩
  case round =>
    obtain ⟨k, st, hkq, rfl, rfl, hI⟩ := hrel
    have HI2 := Lib.hid hI
    clear hI HI
    by_cases hkl : k < q
    · have hd : decide ((k : Int) < (q : Int)) = true := by simp; omega
      obtain ⟨i, hi⟩ : ∃ i, ord[k]? = some i := ⟨ord[k]'(by rw [Hqq.out]; exact hkl), List.getElem?_eq_getElem _⟩
      obtain ⟨o, hoi⟩ := Hm.out i (List.mem_of_getElem? hi)
      have xw := HI2.out.ext
      obtain ⟨g2, p2, c2', hv2, l1, l2, _, hg2, hcell⟩ := (show NatsAt wr T _ ord from Rd.ext Hl.out xw).get hi
      obtain ⟨g, p, c, hv, hc1, hc2, hgS, hA, hN⟩ := (Ho.out.ext xw).get hoi
      simp only [Value.slice.injEq] at hv hv2
      obtain ⟨rfl, _, rfl⟩ := hv
      obtain ⟨rfl, _, rfl⟩ := hv2
      have e2 := (xw.cell (p := ⟨sb, 2, none⟩) hsb).trans C2w.out
      have ha1 : c2 = c2 := rfl
      rw [Hnn.out] at hc1
      rw [Hqq.out] at l1
      have hin : i < n := by rw [← Hnn.out]; exact (List.getElem?_eq_some_iff.1 hoi).1
      have q1 : (0 : Int) ≤ (i : Int) := by omega
      have q2 : (i : Int) < (n : Int) := by omega
      have hC : C ≤ 9223372036854775807 := by unfold maxLen at hc2; omega
      have hC2 : C2 ≤ 9223372036854775807 := by unfold maxLen at l2; omega
      have hnsh := hN.shape
      obtain ⟨nA, nC, hnv⟩ := hnsh
      have hone : o.nv.oneCell' = true := by rw [hnv]; rfl
      have Hi := Lib.hid hi
      have Hoi := Lib.hid hoi
      have HA := Lib.hid hA
      have HN := Lib.hid hN
      clear hi hoi hA hN hnv ha1
      go_upto_region 7 with (first | (refine wpList_loadOp HA.out rfl ?_) | (refine wpList_storeOp rfl rfl rfl hone ?_))
      have hN1 := op_new wr o
      have xA : Ext wr (wr.alloc (opO o)) := (Ext.refl wr).alloc _
      obtain ⟨e, he⟩ : ∃ e, wr.heap.size = e := ⟨_, rfl⟩
      obtain ⟨W1, hW1⟩ : ∃ W, wr.alloc (opO o) = W := ⟨_, rfl⟩
      rw [hW1] at hN1 xA ⊢
      rw [he] at hN1
      simp only [he]
      have hml := HI2.out.rep.mod.map.lt
      have hrl := HI2.out.rep.lt
      have hem : e ≠ m ∧ e ≠ rb := by omega
      have HN1 := Lib.hid hN1
      have XA := Lib.hid xA
      have Hem := Lib.hid hem
      clear hN1 xA hW1 he hem e2 hcell
      try go_frame
      go_cut [4, 29, 30, 34] (fun f f1 f2 v wx => f = .bool st.2.2 ∧ f1 = .bool st.2.2 ∧ f2 = .bool st.2.2 ∧ v = .bool (st.2.2 && (o.bad.e == 0)) ∧ Ext W1 wx)
      case first =>
        cases hf : st.2.2 with
        | false =>
          go_wp2_with fail
          go_meet
          exact ⟨by rw [hf], by rw [hf], by rw [hf], by rw [hf]; rfl, Ext.refl _⟩
        | true =>
          go_wp2_with (first | (refine wpList_loadOpG HN1.out rfl rfl ?_) | (go_at_call 21; refine (refused_op o _).mono ?_; rintro x w3 ⟨rfl, hx3⟩))
          go_meet
          exact ⟨by rw [hf], by rw [hf], by rw [hf], by rw [hf]; simp [bne], hx3⟩
      case rest =>
        obtain ⟨rfl, rfl, rfl, rfl, hx3⟩ := hcut
        have hI3 := HI2.out.rep.ext (XA.out.trans hx3)
        have hN3 := HN1.out.ext hx3
        have HN3 := Lib.hid hN3
        have HX3 := Lib.hid ((HI2.out.ext.trans XA.out).trans hx3)
        have HNm := Lib.hid (Rd.ext HN.out (XA.out.trans hx3))
        have HR3 := Lib.hid hI3
        have z22 : wc.cell? ⟨e, 22, none⟩ = some (.int .i64 o.res.tick) := hN3.2 22 (by omega)
        have r1 := hI3.c1
        have rz := hI3.z1
        clear hx3 hN3 hI3
        go_upto_if 34 with fail
        go_cut [4] (fun v wx => v = .bool (firstS' st o) ∧ RepAt wx rb b m cl cp st.1 (tickS st o) ∧ OpAt wx e 0 o ∧ Ext w wx ∧ NmsAt wx (fun k => k < w.heap.size) o.nv o.ns)
        case first =>
          cases hq : (st.2.2 && (o.bad.e == 0)) with
          | false =>
            have h1 : ¬ (st.2.2 = true ∧ o.bad.e = 0) := by simpa using hq
            have H1 := Lib.hid (show tickS st o = st.2.1 by unfold tickS; rw [if_neg h1])
            have H2 := Lib.hid (show firstS' st o = st.2.2 by unfold firstS'; rw [if_neg h1])
            clear h1
            go_wp2_with fail
            go_meet
            exact ⟨by rw [H2.out], by rw [H1.out]; exact HR3.out, HN3.out, HX3.out, HNm.out⟩
          | true =>
            have h1 : st.2.2 = true ∧ o.bad.e = 0 := by simpa using hq
            have H1 := Lib.hid (show tickS st o = o.res.tick by unfold tickS; rw [if_pos h1])
            have H2 := Lib.hid (show firstS' st o = false by unfold firstS'; rw [if_pos h1])
            clear h1 hq
            go_wp2_with fail
            go_meet
            have hc : Chg (· = rb) wc (wc.setCell ⟨rb, 1, none⟩ (.int .i64 o.res.tick)) := (Chg.refl (· = rb) wc).setCell (.inl rfl) _
            refine ⟨by rw [H2.out], ?_, HN3.out.chg hc Hem.out.2, HX3.out.chg_new hc (fun i hi => by rw [hi]; exact HI2.out.lo.1), Rd.chg HNm.out hc (fun i hi e => by have := HI2.out.lo.1; omega)⟩
            rw [H1.out]
            exact ⟨(World.cell?_setCell_other _ _ _ _ (by simp)).trans HR3.out.c0, World.cell?_setCell_same _ _ _ r1, Nat.lt_of_lt_of_le HR3.out.lt hc.size, HR3.out.nb, HR3.out.nm, (World.frozen?_setCell _ _ _ _).trans rz, HR3.out.mod.chg hc (fun h => HR3.out.nb h.symm) (fun h => HR3.out.nm h.symm)⟩
        case rest =>
          obtain ⟨rfl, hR4, hN4, hx4, hn4⟩ := hcut
          have HN4 := Lib.hid hN4
          have hks := Hk.out o (List.mem_of_getElem? Hoi.out)
          have hfew := HI2.out.few
          have HP := Lib.hid (perform_any (S := fun k => k < w.heap.size) rb b m cl cp st.1 (tickS st o) o wc hR4 (by omega) hn4 hks (by have := HI2.out.lo.2; omega) (by have := HI2.out.lo.1; omega))
          have HX4 := Lib.hid hx4
          clear hR4 hN4 hx4 hn4 hks z22 r1 rz HR3 HN3
          go_wp2_with (refine wpList_loadOp HN4.out rfl ?_)
          refine Calls.mono HP.out ?_
          rintro x w5 ⟨rfl, hR5, hc5⟩
          have hx5 := HX4.out.chg_new hc5 (fun i hi => by rcases hi with rfl | rfl; exact HI2.out.lo.2; exact HI2.out.lo.1)
          obtain ⟨code, hcode⟩ : ∃ c, (perfL cl cp st.1 (tickS st o) o).1 = c := ⟨_, rfl⟩
          have Hcode := Lib.hid (show (stepL cl cp st o).1 = code from hcode)
          have HR5 := Lib.hid hR5
          have HX5 := Lib.hid hx5
          rw [hcode]
          clear hcode hR5 hc5 hx5
          by_cases h0 : code = 0
          · have hz : (code != 0) = false := by simp [h0]
            have H0 := Lib.hid h0
            clear h0
            go_wp2_with fail
            go_roundw
            case rel =>
              refine ⟨k + 1, (stepL cl cp st o).2, by omega, by go_num, rfl, HR5.out, ?_, ?_, fun j hj i' o' h1 h2 => ?_, HX5.out, HI2.out.lo⟩
              · rw [stO_next Hi.out Hoi.out, ← HI2.out.is]
              · have := step_len (cl := cl) (cp := cp) (st := st) (o := o); omega
              · by_cases ej : j = k
                · subst ej
                  have e1 : i' = i := by rw [Hi.out] at h1; exact (Option.some.inj h1).symm
                  subst e1
                  have e2 : o' = o := by rw [Hoi.out] at h2; exact (Option.some.inj h2).symm
                  subst e2
                  rw [← HI2.out.is, Hcode.out, H0.out]
                · exact HI2.out.oks j (by omega) i' o' h1 h2
            case measure => simp [intOf]; omega
          · have hz : (code != 0) = true := by simp [h0]
            have HE := Lib.hid (show (runO cl cp os ord ([], 0, true)).isNone = false by
              rw [runO_hit HI2.out.oks Hm.out Hi.out Hoi.out (by rw [← HI2.out.is, Hcode.out]; exact h0)]; rfl)
            clear h0
            go_wp2_with fail
            go_ret
            rw [HE.out]
            exact ⟨rfl, HX5.out⟩
    · have hd : decide ((k : Int) < (q : Int)) = false := by simp; omega
      have HE := Lib.hid (show (runO cl cp os ord ([], 0, true)).isNone = true by
        rw [runO_end (fun j hj => HI2.out.oks j (by rw [Hqq.out] at hj; omega)) Hm.out]; rfl)
      go_wp2_with fail
      go_ret
      rw [HE.out]
      exact ⟨rfl, HI2.out.ext⟩
end Go.Proofs.Ythenclenabcmgaa
