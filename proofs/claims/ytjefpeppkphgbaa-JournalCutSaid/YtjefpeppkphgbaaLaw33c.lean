/-
  JournalCut (33.3): a journal that is cut has the entries that are complete, and appending goes on behind them.
  Conditions: none.
-/
import Derived.Test.YtjefpeppkphgbaaAwake33
namespace Go.Proofs.Ytjefpeppkphgbaa
open Go.RowKit Go.Sort
set_option maxHeartbeats 4000000
set_option maxRecDepth 100000

theorem take_split (l : List Ent) (m : Nat) : bytesE l = bytesE (l.take m) ++ bytesE (l.drop m) := by rw [← bytesE_append, List.take_append_drop]
theorem take_succ {l : List Ent} {m : Nat} {e : Ent} (h : l[m]? = some e) : l.take (m + 1) = l.take m ++ [e] := by
  rw [List.take_add_one, h]; rfl
theorem enc_take {l : List Ent} (h : EncOk l) (m : Nat) : EncOk (l.take m) := fun e he => h e (List.mem_of_mem_take he)
structure CutIs (l : List Ent) (k m n : Nat) : Prop where
  read : readJ ((bytesE l).take k) = (l.take m, n)
  le : m ≤ l.length
  pos : n = (bytesE (l.take m)).length
  nk : n ≤ k
  next : ∀ e, l[m]? = some e → appJ ((bytesE l).take k) e = (0, bytesE (l.take (m + 1)))
theorem cut_law {l : List Ent} (h : EncOk l) (hl : l.length ≤ 5) {k : Nat} (hk : k ≤ (bytesE l).length) : ∃ m n, CutIs l k m n := by
  obtain ⟨m, h1, h2, h3, h4⟩ := read_cut l 4096 k (by omega) h hk
  refine ⟨m, _, h2, h1, rfl, h3, fun e he => ?_⟩
  have hr : readJ ((bytesE l).take k) = (l.take m, (bytesE (l.take m)).length) := h2
  have hm : e ∈ l := List.mem_of_getElem? he
  have hb := bytes_len (enc_take h m)
  have hlen : (l.take m).length ≤ 5 := by rw [List.length_take]; omega
  have hen := enc_ok_len (h e hm)
  rw [app_ok (h e hm) (by rw [hr]; simp only; omega), hr, take_succ he, bytesE_append]
  simp only [Prod.mk.injEq, true_and, bytesE, List.append_nil]
  rw [List.take_take, Nat.min_eq_left h3, take_split l m, List.take_left']
  rfl
theorem EntsAt.take {w : World} {S : Nat → Prop} {A : Option Addr} {n c : Nat} {ps : List (Ent × Value)} (h : EntsAt w S (.slice A n c) ps) (m : Nat) (hm : m ≤ ps.length) : EntsAt w S (.slice A m c) (ps.take m) := by
  obtain ⟨⟨h1, A', c', hv, h2, h3, h4⟩, h5⟩ := h
  simp only [Value.slice.injEq] at hv
  obtain ⟨rfl, rfl, rfl⟩ := hv
  have hlt : (ps.take m).length = m := by rw [List.length_take]; omega
  refine ⟨⟨by rw [entsCells_len], A, c, by rw [hlt], by omega, h3, fun h0 => ?_⟩, fun p hp => h5 p (List.mem_of_mem_take hp)⟩
  obtain ⟨g, o, hA, hS, hg, hc⟩ := h4 (by omega)
  refine ⟨g, o, hA, hS, hg, fun j u hu => hc j u ?_⟩
  have hs : entsCells ps = entsCells (ps.take m) ++ entsCells (ps.drop m) := by rw [← entsCells_append, List.take_append_drop]
  have hj := (List.getElem?_eq_some_iff.1 hu).1
  rw [hs, List.getElem?_append_left hj]; exact hu

theorem EntsAt.cap {w : World} {S : Nat → Prop} {A : Option Addr} {n c : Nat} {ps : List (Ent × Value)} (h : EntsAt w S (.slice A n c) ps) : ps.length ≤ c ∧ c ≤ 9223372036854775807 := by
  obtain ⟨⟨_, A', c', hv, h2, h3, _⟩, _⟩ := h
  simp only [Value.slice.injEq] at hv
  obtain ⟨_, _, rfl⟩ := hv
  unfold maxLen at h3
  exact ⟨h2, by omega⟩
namespace journalCut
theorem walk (a : Option Addr) (len cap : Nat) (zs : List Int) (cut : Int) (w : World) (hr : IsRow .i64 w a len cap zs) (_ : I64 cut) :
    Calls Try.prog 7 #[.slice a len cap, .int .i64 cut] w fun e w' => e = .returned (.bool true) ∧ Below w.heap.size w w' := by
  have Hrow := Lib.hid (RowIn.of_row hr)
  clear hr
  go_enter Try.func7, Try.ntmps7
  go_wp2_with fail
  refine (written_any _ _ _ _ Hrow.out).mono ?_
  rintro x w1 ⟨hx1, va, ps, rfl, hok, hp5, hsm, hents⟩
  obtain ⟨A, C, rfl⟩ := hents.shape
  obtain ⟨l, hl⟩ : ∃ l, ps.map Prod.fst = l := ⟨_, rfl⟩
  rw [hl] at hok
  rw [hl]
  have hll : l.length = ps.length := by rw [← hl]; simp
  obtain ⟨L, hL⟩ : ∃ L, bytesE l = L := ⟨_, rfl⟩
  have hLb := bytes_len hok
  rw [hL] at hLb
  rw [hL]
  obtain ⟨jb, hjb⟩ : ∃ jb, bs L = jb := ⟨_, rfl⟩
  have hjs : jb.size = L.length := by rw [← hjb, bs_size]
  have hjd : jb.data.toList = L := by rw [← hjb]; rfl
  rw [hjb]
  obtain ⟨k, hk, hk1⟩ : ∃ k : Nat, pickI cut ((jb.size : Int) + 1) = (k : Int) ∧ k ≤ jb.size := ⟨(pickI cut ((jb.size : Int) + 1)).toNat, by have := pickI_bd cut ((jb.size : Int) + 1) (by omega); omega, by have := pickI_bd cut ((jb.size : Int) + 1) (by omega); omega⟩
  obtain ⟨m, n, hcut⟩ := cut_law hok (by omega) (k := k) (by rw [hL]; omega)
  obtain ⟨c1, c2, c3, c4, c5⟩ := hcut
  rw [hL] at c1 c5
  obtain ⟨s1, hs1⟩ : ∃ s1, jb.extract 0 k = s1 := ⟨_, rfl⟩
  have hs1d : s1.data.toList = L.take k := by rw [← hs1, extract_zero, hjd]; rfl
  have hs1s : s1.size ≤ 21000 := by
    have : s1.data.toList.length = s1.size := rfl
    rw [hs1d, List.length_take] at this
    omega
  have q0 : (0 : Int) ≤ (k : Int) := by omega
  have q1 : (k : Int) ≤ (jb.size : Int) := by omega
  have qj : jb.size ≤ 21000 := by omega
  have Hx1 := Lib.hid hx1
  have Hents := Lib.hid hents
  have Hsm := Lib.hid hsm
  have Hk := Lib.hid hk
  have Hs1d := Lib.hid hs1d
  have C1 := Lib.hid c1
  have C5 := Lib.hid c5
  have Hjd := Lib.hid hjd
  have HL := Lib.hid hL
  have Hl := Lib.hid hl
  have Hok := Lib.hid hok
  have C3 := Lib.hid c3
  have Hjs := Lib.hid hjs
  clear hx1 hents hsm hk hs1d c1 c5 hjd hL hl hok c3 Hrow hjb hjs
  go_wp2_with (go_at_call 18; refine (pick_any _ _ (by omega) (by omega) _).mono ?_; rintro e w' ⟨rfl, rfl⟩; rw [Hk.out])
  refine (read_any s1 (by omega) _).mono ?_
  rintro x w2 ⟨hx2, v, rs, rfl, hrs, hent2⟩
  rw [Hs1d.out, C1.out] at hrs
  rw [Hs1d.out, C1.out]
  simp only at hrs
  simp only
  obtain ⟨A2, C2, rfl⟩ := hent2.shape
  have hrl : rs.length = m := by
    have := congrArg List.length hrs
    rw [List.length_map, List.length_take] at this
    omega
  rw [hrl]
  have Hx2 := Lib.hid (Hx1.out.trans hx2)
  have Hents2 := Lib.hid (Hents.out.ext hx2)
  have Hent2 := Lib.hid hent2
  have Hrs := Lib.hid hrs
  have Hrl := Lib.hid hrl
  have hmp : m ≤ ps.length := by omega
  obtain ⟨hpc, hpc'⟩ := Hents2.out.cap
  have hd1 : ¬ k < n := by omega
  have hd2 : ¬ ps.length < m := by omega
  have r2 : (m : Int) ≤ (C : Int) := by omega
  have r0 : (0 : Int) ≤ (m : Int) := by omega
  have r1 : (m : Int) ≤ (ps.length : Int) := by omega
  clear hx2 hent2 hrs hrl Hx1 Hents
  go_wp2_with fail
  have hcall := same_ents _ _ rs (ps.take m) (by rw [List.map_take, Hl.out]; exact Hrs.out) _ _ w2 Hent2.out (Hents2.out.take m hmp)
  rw [Hrl.out] at hcall
  with_reducible refine hcall.mono ?_
  rintro x w3 ⟨rfl, hx3⟩
  have Hx3 := Lib.hid (Hx2.out.trans hx3)
  have Hents3 := Lib.hid (Hents2.out.ext hx3)
  clear hcall hx3 Hx2 Hents2 Hent2
  by_cases hml : m < ps.length
  · have hm2 : (m : Int) < (ps.length : Int) := by omega
    obtain ⟨g, o, c', hv, p1, p2, _, b1, hcell⟩ := Hents3.out.get (j := m) hml
    simp only [Value.slice.injEq, true_and] at hv
    obtain ⟨rfl, rfl⟩ := hv
    obtain ⟨⟨e, u⟩, hae⟩ : ∃ a, ps[m]? = some a := ⟨ps[m], by simp [hml]⟩
    obtain ⟨x1, x2, x3, x4, x5, xn⟩ := hcell _ hae
    simp only at x1 x2 x3 x4 x5 xn
    obtain ⟨A3, c3, rfl⟩ := xn.shape
    have hle : l[m]? = some e := by rw [← Hl.out, List.getElem?_map, hae]; rfl
    have hap := C5.out e hle
    have hsme := Hsm.out _ (List.mem_of_getElem? hae)
    have hb : (bodyE e).length ≤ 190 := small_body hsme
    obtain ⟨nb, hnb⟩ : ∃ nb, bs (bytesE (l.take (m + 1))) = nb := ⟨_, rfl⟩
    have hnbd : nb.data.toList = bytesE (l.take (m + 1)) := by rw [← hnb]; rfl
    have hok2 := enc_take Hok.out (m + 1)
    have hnl := bytes_len hok2
    have hsplit := take_split l (m + 1)
    rw [HL.out] at hsplit
    have hnbs : nb.size = (bytesE (l.take (m + 1))).length := by rw [← hnb, bs_size]
    have hnle : nb.size ≤ jb.size := by rw [Hjs.out, hnbs, hsplit, List.length_append]; omega
    have hext : jb.extract 0 nb.size = nb := by rw [extract_zero, Hjd.out, hnbs, hsplit, List.take_left, ← hnb]
    have hrd := readJ_bytes hok2 (by rw [List.length_take]; omega)
    have T := Lib.hid (fun (n : Nat) (os : Array Obj) => append_any s1 e _ (by omega) (later w3 n os) (xn.ext ⟨n, os, rfl⟩) (by omega))
    rw [Hs1d.out, hap, hnb] at T
    unfold entV at T
    have t0 : ∀ n os, (later w3 n os).cell? ⟨g, o + m * 5, none⟩ = some (.int .i64 e.cl) := fun n os => (cell_grow_any _ n os g _ b1).trans x1
    have t1 : ∀ n os, (later w3 n os).cell? ⟨g, o + m * 5 + 1, none⟩ = some (.int .i64 e.op) := fun n os => (cell_grow_any _ n os g _ b1).trans x2
    have t2 : ∀ n os, (later w3 n os).cell? ⟨g, o + m * 5 + 2, none⟩ = some (.int .i64 e.ttl) := fun n os => (cell_grow_any _ n os g _ b1).trans x3
    have t3 : ∀ n os, (later w3 n os).cell? ⟨g, o + m * 5 + 3, none⟩ = some (.int .i64 e.tick) := fun n os => (cell_grow_any _ n os g _ b1).trans x4
    have t4 : ∀ n os, (later w3 n os).cell? ⟨g, o + m * 5 + 4, none⟩ = some (.slice A3 e.names.length c3) := fun n os => (cell_grow_any _ n os g _ b1).trans x5
    have Hnbd := Lib.hid hnbd
    have Hrd := Lib.hid hrd
    have hnb2 : nb.size ≤ 25200 := by rw [List.length_take] at hnl; omega
    have Hext := Lib.hid hext
    have Hnle := Lib.hid hnle
    clear hcell hae xn hle hap hsme hb hnb hnbd hnl hsplit hnbs hext hrd x1 x2 x3 x4 x5 hok2 hnle
    go_wp2_with fail
    refine wp_region_ext (by kernel_rfl) (by kernel_rfl) ?_
    repeat (quiet_step (first | (go_at_call 27; with_reducible exact ext_call (T.out _ _))))
    refine wpQuiet_nil ?_; intro w1 hy
    have Hx4 := Lib.hid (Hx3.out.trans hy)
    have Hents4 := Lib.hid (Hents3.out.ext hy)
    clear hy Hx3 Hents3 t0 t1 t2 t3 t4 T
    go_wp2_with fail
    refine (rread_any nb (by omega) _).mono ?_
    rintro x w5 ⟨hx5, v5, rs5, rfl, hrs5, hent5⟩
    rw [Hnbd.out, Hrd.out] at hrs5
    rw [Hnbd.out, Hrd.out]
    simp only at hrs5
    simp only
    obtain ⟨A5, C5', rfl⟩ := hent5.shape
    have hrl5 : rs5.length = m + 1 := by
      have := congrArg List.length hrs5
      rw [List.length_map, List.length_take] at this
      omega
    rw [hrl5]
    have Hx5 := Lib.hid (Hx4.out.trans hx5)
    have Hents5 := Lib.hid (Hents4.out.ext hx5)
    have Hent5 := Lib.hid hent5
    have Hrs5 := Lib.hid hrs5
    have Hrl5 := Lib.hid hrl5
    clear hx5 hent5 hrs5 hrl5 Hx4 Hents4
    go_wp2_with fail
    refine (awake33 _).mono ?_
    rintro x w6 ⟨rfl, hx6⟩
    have Hx6 := Lib.hid (Hx5.out.trans hx6)
    have Hents6 := Lib.hid (Hents5.out.ext hx6)
    have Hent6 := Lib.hid (Hent5.out.ext hx6)
    have s0 : (0 : Int) ≤ ((m : Int) + 1) := by omega
    have s1' : ((m : Int) + 1) ≤ (C : Int) := by omega
    have hnle := Hnle.out
    have s2 : (nb.size : Int) ≤ (jb.size : Int) := by omega
    have hext := Hext.out
    clear hx6 Hx5 Hents5 Hent5
    go_wp2_with fail
    have hcall := same_ents _ _ rs5 (ps.take (m + 1)) (by rw [List.map_take, Hl.out]; exact Hrs5.out) _ _ w6 Hent6.out (Hents6.out.take (m + 1) (by omega))
    rw [Hrl5.out] at hcall
    with_reducible refine hcall.mono ?_
    rintro x w7 ⟨rfl, hx7⟩
    have Hx7 := Lib.hid (Hx6.out.trans hx7)
    have t0 : (0 : Int) ≤ (nb.size : Int) := by omega
    have hbeq : (nb.toList == nb.toList) = true := by simp
    clear hcall hx7 Hx6 Hents6 Hent6
    go_wp2_with fail
    go_ret
    exact ⟨rfl, Hx7.out.below⟩
  · have hm2 : ¬ (m : Int) < (ps.length : Int) := by omega
    have hmm : m = ps.length := by omega
    have hnk : n = k ∧ k = jb.size := by
      have h3 := C3.out
      rw [List.take_of_length_le (by omega), HL.out, ← Hjs.out] at h3
      omega
    obtain ⟨rfl, hkj⟩ := hnk
    go_wp2_with fail
    refine (awake33 _).mono ?_
    rintro x w6 ⟨rfl, hx6⟩
    have Hx6 := Lib.hid (Hx3.out.trans hx6)
    clear hx6
    go_wp2_with fail
    go_ret
    exact ⟨rfl, Hx6.out.below⟩
end journalCut
end Go.Proofs.Ytjefpeppkphgbaa
