/-
  ModelAll: an operation changes all of its records or none.
  Conditions: none.
-/
import Derived.Test.YtjefpeppkphgbaaMSt
namespace Go.Proofs.Ytjefpeppkphgbaa
open Go.RowKit Go.Sort
set_option maxHeartbeats 4000000
set_option maxRecDepth 100000

namespace modelAll
theorem walk (a : Option Addr) (len cap : Nat) (zs : List Int) (a2 : Option Addr) (len2 cap2 : Nat) (zs2 : List Int) (w : World) (hr : IsRow .i64 w a len cap zs) (hr2 : IsRow .i64 w a2 len2 cap2 zs2) :
    Calls Try.prog 9 #[.slice a len cap, .slice a2 len2 cap2] w fun e w' => e = .returned (.bool true) ∧ Below w.heap.size w w' := by
  have Hr := Lib.hid hr
  have Hr2 := Lib.hid hr2
  clear hr hr2
  go_enter Try.func9, Try.ntmps9
  go_wp2_with fail
  refine (conf_any _ _ _ _ (RowIn.of_row Hr2.out)).mono ?_
  rintro x w1 ⟨cl, cp, q1, q2, q3, q4, rfl, hx1⟩
  have Hx1 := Lib.hid hx1
  clear hx1 Hr2
  go_wp2_with fail
  refine (mnew_good (confE_ok q1 q2 q3 q4) _).mono ?_
  rintro x w2 ⟨b, m, rfl, hm, hb, hmm, hx2⟩
  have Hx2 := Lib.hid ((Hx1.out.alloc _).trans hx2)
  have hmw : w.heap.size ≤ m := by have := Hx1.out.size; simp at hmm; omega
  have Hm := Lib.hid hm
  clear hx2 hm hb hmm Hx1
  go_wp2_with fail
  refine (calls_any _ _ _ _ (RowIn.of_row (Hr.out.ext Hx2.out))).mono ?_
  rintro x w3 ⟨va, ps, rfl, hp30, hst⟩
  have hmst := mst_start Hm.out Hx2.out hmw hst
  have hnum : ∀ p ∈ ps, CalOk p.1 := hst.sm
  obtain ⟨A, C, rfl⟩ := hmst.ents.shape
  obtain ⟨B, hB⟩ : ∃ B, w2.heap.size = B := ⟨_, rfl⟩
  rw [hB] at hmst
  have Hmst := Lib.hid hmst
  have Hnum := Lib.hid hnum
  clear hst hmst hnum hB Hm Hr Hx2
  go_wp2_with fail
  go_loopw [35] (fun o wr => ∃ (k : Nat) (l : List Kp), k ≤ ps.length ∧ o = .int .i64 (k : Int) ∧ MSt w wr B b m cl cp (.slice A ps.length C) ps l k) (fun o _ => ps.length - (intOf o).toNat)
  case atStart => exact ⟨0, [], by omega, rfl, Hmst.out⟩
  case round =>
    clear Hmst
    obtain ⟨k, l, hk, rfl, hst⟩ := hrel
    have Hst := Lib.hid hst
    clear hst
    by_cases hlt : k < ps.length
    · have hd : decide ((k : Int) < (ps.length : Int)) = true := by simpa using hlt
      obtain ⟨g, o, c', hv, p1, p2, _, b1, hcell⟩ := Hst.out.ents.get (j := k) hlt
      simp only [Value.slice.injEq, true_and] at hv
      obtain ⟨rfl, rfl⟩ := hv
      obtain ⟨⟨e, u⟩, hae⟩ : ∃ a, ps[k]? = some a := ⟨ps[k], by simp [hlt]⟩
      obtain ⟨x1, x2, x3, x4, x5, xn⟩ := hcell _ hae
      simp only at x1 x2 x3 x4 x5 xn
      obtain ⟨A2, c2, rfl⟩ := xn.shape
      have hok := Hnum.out _ (List.mem_of_getElem? hae)
      have i0 : (0 : Int) ≤ (k : Int) := by omega
      have i1 : (k : Int) < (ps.length : Int) := by omega
      obtain ⟨nn, hnn⟩ : ∃ n, e.names.length = n := ⟨_, rfl⟩
      have hl4 := hok.len
      rw [hnn] at x5 hl4
      have Hok := Lib.hid hok
      have Hnn := Lib.hid hnn
      have hxn : NmsAt wr (fun i => B ≤ i) (.slice A2 nn c2) e.names := by rw [← hnn]; exact xn
      have Hxn := Lib.hid hxn
      have hfew := Hst.out.few
      clear hcell hae xn hok hnn hxn
      go_upto_region 9 with fail
      have kc0 : (wr.alloc (.cells #[.int .i64 e.cl, .int .i64 e.op, .int .i64 e.ttl, .int .i64 e.tick, .slice A2 nn c2] 60)).cell? ⟨wr.heap.size, 0, none⟩ = some (.int .i64 e.cl) := by go_simp
      have kc1 : (wr.alloc (.cells #[.int .i64 e.cl, .int .i64 e.op, .int .i64 e.ttl, .int .i64 e.tick, .slice A2 nn c2] 60)).cell? ⟨wr.heap.size, 1, none⟩ = some (.int .i64 e.op) := by go_simp
      have kc2 : (wr.alloc (.cells #[.int .i64 e.cl, .int .i64 e.op, .int .i64 e.ttl, .int .i64 e.tick, .slice A2 nn c2] 60)).cell? ⟨wr.heap.size, 2, none⟩ = some (.int .i64 e.ttl) := by go_simp
      have kc3 : (wr.alloc (.cells #[.int .i64 e.cl, .int .i64 e.op, .int .i64 e.ttl, .int .i64 e.tick, .slice A2 nn c2] 60)).cell? ⟨wr.heap.size, 3, none⟩ = some (.int .i64 e.tick) := by go_simp
      have kc4 : (wr.alloc (.cells #[.int .i64 e.cl, .int .i64 e.op, .int .i64 e.ttl, .int .i64 e.tick, .slice A2 nn c2] 60)).cell? ⟨wr.heap.size, 4, none⟩ = some (.slice A2 nn c2) := by go_simp
      have hxW : Ext wr (wr.alloc (.cells #[.int .i64 e.cl, .int .i64 e.op, .int .i64 e.ttl, .int .i64 e.tick, .slice A2 nn c2] 60)) := (Ext.refl wr).alloc _
      obtain ⟨cb, hcb⟩ : ∃ c, wr.heap.size = c := ⟨_, rfl⟩
      have hcl : wr.heap.size < (wr.alloc (.cells #[.int .i64 e.cl, .int .i64 e.op, .int .i64 e.ttl, .int .i64 e.tick, .slice A2 nn c2] 60)).heap.size := by simp
      obtain ⟨W1, hW1⟩ : ∃ W, wr.alloc (.cells #[.int .i64 e.cl, .int .i64 e.op, .int .i64 e.ttl, .int .i64 e.tick, .slice A2 nn c2] 60) = W := ⟨_, rfl⟩
      rw [hW1] at kc0 kc1 kc2 kc3 kc4 hxW hcl
      rw [hW1]
      rw [hcb] at kc0 kc1 kc2 kc3 kc4 hcl
      rw [hcb]
      have Hst1 := Lib.hid (Hst.out.ext' hxW)
      have Hxn1 := Lib.hid (Rd.ext Hxn.out hxW)
      have hcw : B ≤ cb := by rw [← hcb]; exact Hst.out.big
      clear hW1 hcb hxW x1 x2 x3 x4 x5 Hst Hxn b1
      go_wp2_with fail
      go_loopw [42, 11] (fun o r wr => ∃ i : Nat, i ≤ nn ∧ o = .int .i64 (i : Int) ∧ wr.ownsRow W1.heap.size 65 4 r i (flatR ((e.names.take i).map fun n => getK l n.k)) ∧ Ext W1 wr) (fun o _ _ => nn - (intOf o).toNat)
      case atStart => exact ⟨0, by omega, rfl, World.ownsRow_nil _ _ _ _, Ext.refl _⟩
      case round =>
        obtain ⟨i, hi, rfl, hown, hx⟩ := hrel
        obtain ⟨la, lc, rfl⟩ := own_shape hown
        have Hown := Lib.hid hown
        have Hx := Lib.hid hx
        clear hown hx
        have kc0 := (Hx.out.cell (p := ⟨cb, 0, none⟩) hcl).trans kc0
        have kc1 := (Hx.out.cell (p := ⟨cb, 1, none⟩) hcl).trans kc1
        have kc2 := (Hx.out.cell (p := ⟨cb, 2, none⟩) hcl).trans kc2
        have kc3 := (Hx.out.cell (p := ⟨cb, 3, none⟩) hcl).trans kc3
        have kc4 := (Hx.out.cell (p := ⟨cb, 4, none⟩) hcl).trans kc4
        by_cases hlt2 : i < nn
        · have hdc : decide ((i : Int) < (nn : Int)) = true := by simpa using hlt2
          obtain ⟨g3, o3, c', hv, p3, p4, hSg, b1, hcell⟩ := NmsAt.get (Rd.ext Hxn1.out Hx.out) (j := i) (by rw [Hnn.out]; exact hlt2)
          rw [Hnn.out] at hv p3
          simp only [Value.slice.injEq, true_and] at hv
          obtain ⟨rfl, rfl⟩ := hv
          obtain ⟨n, hni⟩ : ∃ n, e.names[i]? = some n := ⟨e.names[i]'(by have := Hnn.out; omega), by simp⟩
          obtain ⟨x1, x2, x3⟩ := hcell _ _ hni
          have j0 : (0 : Int) ≤ (i : Int) := by omega
          have j1 : (i : Int) < (nn : Int) := by omega
          have Hni := Lib.hid hni
          have hk8 := small_keys Hok.out.names n (List.mem_of_getElem? hni)
          clear hcell hni
          go_wp2_with fail
          refine (mget_any b m cl cp l n.k _ ((Hst1.out.mod.ext Hx.out).ext ((Ext.refl _).alloc _)) hk8).mono ?_
          rintro x w5 ⟨rfl, hx5⟩
          have Hx5 := Lib.hid (((Ext.refl wr).alloc _).trans hx5)
          unfold rcV
          obtain ⟨j0', hj, hj0, hj1, hj2⟩ := info_parts info_rec
          have hrl := rd_litM w5 #[.int .i64 (getK l n.k).st, .int .i64 (getK l n.k).ow, .string (getK l n.k).nm, .int .i64 (getK l n.k).dl] 65 4 (by rfl)
          have hbz : W1.heap.size ≤ (w5.alloc (.cells #[.int .i64 (getK l n.k).st, .int .i64 (getK l n.k).ow, .string (getK l n.k).nm, .int .i64 (getK l n.k).dl] 65)).heap.size := by have := Hx.out.size; have := Hx5.out.size; simp; omega
          clear hx5 x1 x2 x3
          go_wp2_with (at_builtin; refine wpList_append_rd _ rfl _ _ 61 rfl W1.heap.size 65 j0' _ 4 40 und_recs hj hj0 hj1 hj2 rfl (by decide) _ i _ rfl (own_ext Hown.out (Hx5.out.alloc _)) (fun _ => True) _ 1 _ rfl hrl (by simp [Value.oneCell']) (by unfold maxLen; omega) (by omega) hbz ?_; intro v' w6 ha; obtain ⟨a3, c3', hv3⟩ := own_shape ha.own; subst hv3)
          have hend : w6.ownsRow W1.heap.size 65 4 (.slice a3 (i + 1) c3') (i + 1) (flatR ((e.names.take (i + 1)).map fun n => getK l n.k)) := by
            rw [take_at Hni.out, List.map_append, List.map_cons, List.map_nil, flatR_snoc]
            exact ha.own
          have hx6 : Ext W1 w6 := (Hx.out.trans (Hx5.out.alloc _)).grown ha.grown fun k hk => (Hown.out.lt k hk).1
          have Hend := Lib.hid hend
          have Hx6 := Lib.hid hx6
          clear ha hend hx6 hrl hbz
          go_roundw
          case rel => exact ⟨i + 1, by omega, by go_num, Hend.out, Hx6.out⟩
          case measure => simp [intOf]; omega
        · have hdc : decide ((i : Int) < (nn : Int)) = false := by simp; omega
          obtain rfl : nn = i := by omega
          have hrecs : RecsAt wr (fun k => W1.heap.size ≤ k) (.slice la nn lc) (e.names.map fun n => getK l n.k) := by
            have h1 := Hown.out
            rw [List.take_of_length_le (by rw [Hnn.out]; exact Nat.le_refl _)] at h1
            have e2 : (e.names.map fun n => getK l n.k).length = nn := by rw [List.length_map]; exact Hnn.out
            unfold RecsAt
            rw [e2]
            exact Rd.of_own h1 fun k hk => (h1.lt k hk).1
          have Hst2 := Lib.hid (Hst1.out.ext' Hx.out)
          have Hxn2 := Lib.hid (Rd.ext Hxn1.out Hx.out)
          have Hrecs := Lib.hid hrecs
          have hcl2 := Nat.lt_of_lt_of_le hcl Hx.out.size
          have hwq := Hx.out.size
          clear hrecs Hst1 Hxn1 Hown Hx
          go_wp2_with fail
          have hcall := mdo_any b m cl cp e.cl e.op e.ttl e.tick l (.slice A2 nn c2) e.names wr Hst2.out.mod (by omega) (small_keys Hok.out.names) (S := fun i => B ≤ i) Hxn2.out (by have := Hst2.out.hm; omega)
          refine hcall.mono ?_
          rintro x wd ⟨rfl, hmd, hcd⟩
          obtain ⟨R, hR⟩ : ∃ R, doR cl cp l e.cl e.op e.ttl e.tick e.names = R := ⟨_, rfl⟩
          obtain ⟨l2, hl2⟩ : ∃ l2, doL cl cp l e.cl e.op e.ttl e.tick e.names = l2 := ⟨_, rfl⟩
          have hst3 := Hst2.out.turn hmd hcd
          rw [hl2] at hst3
          have hLaw : ∀ n ∈ e.names, (R.e = 0 → getK l2 n.k = afterR e.op e.cl (e.tick + e.ttl) n (getK l n.k)) ∧ (R.e ≠ 0 → getK l2 n.k = getK l n.k) := fun n hn => by
            rw [← hR, ← hl2]
            exact ⟨fun h0 => do_ok Hst2.out.nz h0 hn, fun h0 => by rw [do_bad h0]⟩
          rw [hR]
          unfold respV
          have hmB : m < B := Hst2.out.hm
          have hnc : ∀ i, B ≤ i → ¬ i = m := fun i hi e => by omega
          have hxnd : NmsAt wd (fun i => B ≤ i) (.slice A2 nn c2) e.names := Rd.chg Hxn2.out hcd hnc
          have hrcd : RecsAt wd (fun k => W1.heap.size ≤ k) (.slice la nn lc) (e.names.map fun n => getK l n.k) := Rd.chg Hrecs.out hcd fun i hi e => by have := Hst2.out.big; omega
          have kc0 := (hcd.cell (p := ⟨cb, 0, none⟩) hcl2 (hnc cb hcw)).trans kc0
          have kc1 := (hcd.cell (p := ⟨cb, 1, none⟩) hcl2 (hnc cb hcw)).trans kc1
          have kc2 := (hcd.cell (p := ⟨cb, 2, none⟩) hcl2 (hnc cb hcw)).trans kc2
          have kc3 := (hcd.cell (p := ⟨cb, 3, none⟩) hcl2 (hnc cb hcw)).trans kc3
          have kc4 := (hcd.cell (p := ⟨cb, 4, none⟩) hcl2 (hnc cb hcw)).trans kc4
          have hcl3 := Nat.lt_of_lt_of_le hcl2 hcd.size
          have hwd := hcd.size
          have Hst3 := Lib.hid hst3
          have HLaw := Lib.hid hLaw
          have Hxnd := Lib.hid hxnd
          have Hrcd := Lib.hid hrcd
          clear hcall hR hl2 hmd hcd hst3 hLaw hxnd hrcd hnc Hst2 Hxn2 Hrecs
          go_upto_region 16 with fail
          have r0 : (wd.alloc (.cells #[.int .i64 R.e, .int .i64 R.at_, .string R.nm, .int .i64 R.rc.st, .int .i64 R.rc.ow, .string R.rc.nm, .int .i64 R.rc.dl, .int .i64 R.tick] 68)).cell? ⟨wd.heap.size, 0, none⟩ = some (.int .i64 R.e) := by go_simp
          have hrl : wd.heap.size < (wd.alloc (.cells #[.int .i64 R.e, .int .i64 R.at_, .string R.nm, .int .i64 R.rc.st, .int .i64 R.rc.ow, .string R.rc.nm, .int .i64 R.rc.dl, .int .i64 R.tick] 68)).heap.size := by simp
          have hxW : Ext wd (wd.alloc (.cells #[.int .i64 R.e, .int .i64 R.at_, .string R.nm, .int .i64 R.rc.st, .int .i64 R.rc.ow, .string R.rc.nm, .int .i64 R.rc.dl, .int .i64 R.tick] 68)) := (Ext.refl wd).alloc _
          obtain ⟨tb, htb⟩ : ∃ t, wd.heap.size = t := ⟨_, rfl⟩
          obtain ⟨W2, hW2⟩ : ∃ W, wd.alloc (.cells #[.int .i64 R.e, .int .i64 R.at_, .string R.nm, .int .i64 R.rc.st, .int .i64 R.rc.ow, .string R.rc.nm, .int .i64 R.rc.dl, .int .i64 R.tick] 68) = W := ⟨_, rfl⟩
          rw [hW2] at r0 hrl hxW
          rw [hW2]
          rw [htb] at r0 hrl
          rw [htb]
          have kc0 := (hxW.cell (p := ⟨cb, 0, none⟩) hcl3).trans kc0
          have kc1 := (hxW.cell (p := ⟨cb, 1, none⟩) hcl3).trans kc1
          have kc2 := (hxW.cell (p := ⟨cb, 2, none⟩) hcl3).trans kc2
          have kc3 := (hxW.cell (p := ⟨cb, 3, none⟩) hcl3).trans kc3
          have kc4 := (hxW.cell (p := ⟨cb, 4, none⟩) hcl3).trans kc4
          have hcl4 := Nat.lt_of_lt_of_le hcl3 hxW.size
          have Hst4 := Lib.hid (Hst3.out.ext' hxW)
          have Hxn4 := Lib.hid (Rd.ext Hxnd.out hxW)
          have Hrc4 := Lib.hid (Rd.ext Hrcd.out hxW)
          clear hxW hW2 htb Hst3 Hxnd Hrcd
          go_wp2_with fail
          go_loopw [69] (fun o wr => ∃ i : Nat, i ≤ nn ∧ o = .int .i64 (i : Int) ∧ Ext W2 wr) (fun o _ => nn - (intOf o).toNat)
          case atStart => exact ⟨0, by omega, rfl, Ext.refl _⟩
          case round =>
            obtain ⟨i, hi2, rfl, hx⟩ := hrel
            have Hx := Lib.hid hx
            clear hx
            by_cases hlt3 : i < nn
            · have hdc2 : decide ((i : Int) < (nn : Int)) = true := by simpa using hlt3
              obtain ⟨n, hni⟩ : ∃ n, e.names[i]? = some n := ⟨e.names[i]'(by have := Hnn.out; omega), by simp⟩
              have hrn : (e.names.map fun n => getK l n.k)[i]? = some (getK l n.k) := by rw [List.getElem?_map, hni]; rfl
              obtain ⟨g3, o3, c3', hv, p3, p4, hSg, b1, hcell⟩ := NmsAt.get (Rd.ext Hxn4.out Hx.out) (j := i) (by rw [Hnn.out]; exact hlt3)
              obtain ⟨x1, x2, x3⟩ := hcell _ _ hni
              obtain ⟨g4, o4, c4', hv2, p5, p6, b2, y0, y1, y2, y3⟩ := recsAt_get (Rd.ext Hrc4.out Hx.out) hrn
              rw [Hnn.out] at hv p3
              rw [List.length_map, Hnn.out] at hv2 p5
              simp only [Value.slice.injEq, true_and] at hv hv2
              obtain ⟨rfl, rfl⟩ := hv
              obtain ⟨rfl, rfl⟩ := hv2
              obtain ⟨r, hr⟩ : ∃ r, getK l n.k = r := ⟨_, rfl⟩
              have hlw := HLaw.out n (List.mem_of_getElem? hni)
              rw [hr] at y0 y1 y2 y3 hlw
              have hk8 := small_keys Hok.out.names n (List.mem_of_getElem? hni)
              have j0 : (0 : Int) ≤ (i : Int) := by omega
              have j1 : (i : Int) < (nn : Int) := by omega
              have Hlw := Lib.hid hlw
              have r0 := (Hx.out.cell (p := ⟨tb, 0, none⟩) hrl).trans r0
              have kc0 := (Hx.out.cell (p := ⟨cb, 0, none⟩) hcl4).trans kc0
              have kc1 := (Hx.out.cell (p := ⟨cb, 1, none⟩) hcl4).trans kc1
              have kc2 := (Hx.out.cell (p := ⟨cb, 2, none⟩) hcl4).trans kc2
              have kc3 := (Hx.out.cell (p := ⟨cb, 3, none⟩) hcl4).trans kc3
              have hcl5 := Nat.lt_of_lt_of_le hcl4 Hx.out.size
              have Hst5 := Lib.hid (Hst4.out.ext' Hx.out)
              clear hcell hni hrn hr hlw kc4
              go_upto_region 20 with fail
              have hx3 : Ext wr ((wr.alloc (.cells #[.string n.a, .string n.u, .string n.k] 63)).alloc (.cells #[.int .i64 r.st, .int .i64 r.ow, .string r.nm, .int .i64 r.dl] 65)) := ((Ext.refl wr).alloc _).alloc _
              have n0 : ((wr.alloc (.cells #[.string n.a, .string n.u, .string n.k] 63)).alloc (.cells #[.int .i64 r.st, .int .i64 r.ow, .string r.nm, .int .i64 r.dl] 65)).cell? ⟨wr.heap.size, 0, none⟩ = some (.string n.a) := by go_simp
              have n2 : ((wr.alloc (.cells #[.string n.a, .string n.u, .string n.k] 63)).alloc (.cells #[.int .i64 r.st, .int .i64 r.ow, .string r.nm, .int .i64 r.dl] 65)).cell? ⟨wr.heap.size, 2, none⟩ = some (.string n.k) := by go_simp
              have q0 : ((wr.alloc (.cells #[.string n.a, .string n.u, .string n.k] 63)).alloc (.cells #[.int .i64 r.st, .int .i64 r.ow, .string r.nm, .int .i64 r.dl] 65)).cell? ⟨wr.heap.size + 1, 0, none⟩ = some (.int .i64 r.st) := by simp
              have q1' : ((wr.alloc (.cells #[.string n.a, .string n.u, .string n.k] 63)).alloc (.cells #[.int .i64 r.st, .int .i64 r.ow, .string r.nm, .int .i64 r.dl] 65)).cell? ⟨wr.heap.size + 1, 1, none⟩ = some (.int .i64 r.ow) := by simp
              have q2' : ((wr.alloc (.cells #[.string n.a, .string n.u, .string n.k] 63)).alloc (.cells #[.int .i64 r.st, .int .i64 r.ow, .string r.nm, .int .i64 r.dl] 65)).cell? ⟨wr.heap.size + 1, 2, none⟩ = some (.string r.nm) := by simp
              have q3' : ((wr.alloc (.cells #[.string n.a, .string n.u, .string n.k] 63)).alloc (.cells #[.int .i64 r.st, .int .i64 r.ow, .string r.nm, .int .i64 r.dl] 65)).cell? ⟨wr.heap.size + 1, 3, none⟩ = some (.int .i64 r.dl) := by simp
              have qf : ∀ j, ((wr.alloc (.cells #[.string n.a, .string n.u, .string n.k] 63)).alloc (.cells #[.int .i64 r.st, .int .i64 r.ow, .string r.nm, .int .i64 r.dl] 65)).frozen? ⟨wr.heap.size + 1, j, none⟩ = false := fun j => by simp
              have hs3 : ((wr.alloc (.cells #[.string n.a, .string n.u, .string n.k] 63)).alloc (.cells #[.int .i64 r.st, .int .i64 r.ow, .string r.nm, .int .i64 r.dl] 65)).heap.size = wr.heap.size + 2 := by simp
              obtain ⟨nb, hnb⟩ : ∃ t, wr.heap.size = t := ⟨_, rfl⟩
              obtain ⟨W3, hW3⟩ : ∃ W, (wr.alloc (.cells #[.string n.a, .string n.u, .string n.k] 63)).alloc (.cells #[.int .i64 r.st, .int .i64 r.ow, .string r.nm, .int .i64 r.dl] 65) = W := ⟨_, rfl⟩
              rw [hW3] at hx3 n0 n2 q0 q1' q2' q3' qf hs3
              rw [hW3]
              rw [hnb] at n0 n2 q0 q1' q2' q3' qf hs3
              rw [hnb]
              have r0 := (hx3.cell (p := ⟨tb, 0, none⟩) (Nat.lt_of_lt_of_le hrl Hx.out.size)).trans r0
              have kc0 := (hx3.cell (p := ⟨cb, 0, none⟩) hcl5).trans kc0
              have kc1 := (hx3.cell (p := ⟨cb, 1, none⟩) hcl5).trans kc1
              have kc2 := (hx3.cell (p := ⟨cb, 2, none⟩) hcl5).trans kc2
              have kc3 := (hx3.cell (p := ⟨cb, 3, none⟩) hcl5).trans kc3
              have y0 := (hx3.cell (p := ⟨g4, o4 + i * 4, none⟩) b2).trans y0
              have y1 := (hx3.cell (p := ⟨g4, o4 + i * 4 + 1, none⟩) b2).trans y1
              have y2 := (hx3.cell (p := ⟨g4, o4 + i * 4 + 2, none⟩) b2).trans y2
              have y3 := (hx3.cell (p := ⟨g4, o4 + i * 4 + 3, none⟩) b2).trans y3
              have b4 : g4 < W3.heap.size := Nat.lt_of_lt_of_le b2 hx3.size
              have hcl6 := Nat.lt_of_lt_of_le hcl5 hx3.size
              have hnb2 : W2.heap.size ≤ nb := by rw [← hnb]; exact Hx.out.size
              have hcn : cb < nb := by omega
              have hg4n : g4 < nb := by omega
              have Hx3 := Lib.hid (Hx.out.trans hx3)
              clear hW3 hx3 x1 x2 x3 hnb
              go_upto_if 80 with fail
              go_cut [17] from 70 to 103 (fun p wx => p = .pointer (some ⟨nb + 1, 0, none⟩) ∧ Ext W2 wx ∧ wx.cell? ⟨nb + 1, 0, none⟩ = some (.int .i64 (getK l2 n.k).st) ∧ wx.cell? ⟨nb + 1, 1, none⟩ = some (.int .i64 (getK l2 n.k).ow) ∧ wx.cell? ⟨nb + 1, 2, none⟩ = some (.string (getK l2 n.k).nm) ∧ wx.cell? ⟨nb + 1, 3, none⟩ = some (.int .i64 (getK l2 n.k).dl) ∧ wx.cell? ⟨nb, 2, none⟩ = some (.string n.k) ∧ nb + 2 ≤ wx.heap.size)
              case first =>
                rename_i J1 K1 hJ hM
                cases hR0 : (R.e == 0) with
                | true =>
                  have hw := (Hlw.out.1 (by simpa using hR0))
                  have HW := Lib.hid hw
                  have hok2 := Hok.out.num
                  have hwrap : IntKind.i64.wrap (e.tick + e.ttl) = e.tick + e.ttl := IntWalk.i64_in _ (by have := hok2.t0; have := hok2.t1; have := hok2.k0; have := hok2.k1; omega)
                  clear hw hok2
                  go_upto_region 21 with fail
                  refine wp_region_held_drew (S := fun w' => w'.cell? ⟨g4, o4 + i * 4, none⟩ = some (.int .i64 r.st) ∧ w'.cell? ⟨g4, o4 + i * 4 + 1, none⟩ = some (.int .i64 r.ow) ∧ w'.cell? ⟨g4, o4 + i * 4 + 2, none⟩ = some (.string r.nm) ∧ w'.cell? ⟨g4, o4 + i * 4 + 3, none⟩ = some (.int .i64 r.dl) ∧ w'.cell? ⟨cb, 0, none⟩ = some (.int .i64 e.cl) ∧ w'.cell? ⟨cb, 1, none⟩ = some (.int .i64 e.op) ∧ w'.cell? ⟨cb, 2, none⟩ = some (.int .i64 e.ttl) ∧ w'.cell? ⟨cb, 3, none⟩ = some (.int .i64 e.tick) ∧ w'.cell? ⟨nb, 0, none⟩ = some (.string n.a)) (by kernel_rfl) ?_ (fun hHeld => ?_)
                  · exact ⟨y0, y1, y2, y3, kc0, kc1, kc2, kc3, n0⟩
                  refine wpAnyH_take (i := 0) (oi := _) (v := ?_) rfl (by kernel_rfl) (by kernel_rfl) (by kernel_rfl) (fun _ _ _ h => h) (Or.inl ⟨by rfl, ?_⟩) (by assumption) ?_; rotate_left; (focus ((intro w hSw; (try dsimp only at hSw); go_simp); (first | done | (with_reducible rfl)))); (try simp only [Act.put]); (try simp only [List.setIfInBounds_toArray])
                  refine wpAnyH_take (i := 1) (oi := _) (v := ?_) rfl (by kernel_rfl) (by kernel_rfl) (by kernel_rfl) (fun _ _ _ h => h) (Or.inl ⟨by rfl, ?_⟩) (by assumption) ?_; rotate_left; (focus ((intro w hSw; (try dsimp only at hSw); go_simp); (first | done | (with_reducible rfl)))); (try simp only [Act.put]); (try simp only [List.setIfInBounds_toArray])
                  refine wpAnyH_take (i := 2) (oi := _) (v := ?_) rfl (by kernel_rfl) (by kernel_rfl) (by kernel_rfl) (fun _ _ _ h => h) (Or.inl ⟨by rfl, ?_⟩) (by assumption) ?_; rotate_left; (focus ((intro w hSw; (try dsimp only at hSw); go_simp); (first | done | (with_reducible rfl)))); (try simp only [Act.put]); (try simp only [List.setIfInBounds_toArray])
                  refine wpAnyH_take (i := 3) (oi := _) (v := ?_) rfl (by kernel_rfl) (by kernel_rfl) (by kernel_rfl) (fun _ _ _ h => h) (Or.inl ⟨by rfl, ?_⟩) (by assumption) ?_; rotate_left; (focus ((intro w hSw; (try dsimp only at hSw); go_simp); (first | done | (with_reducible rfl)))); (try simp only [Act.put]); (try simp only [List.setIfInBounds_toArray])
                  refine wpAnyH_take (i := 4) (oi := _) (v := ?_) rfl (by kernel_rfl) (by kernel_rfl) (by kernel_rfl) (fun _ _ _ h => h) (Or.inl ⟨by rfl, ?_⟩) (by assumption) ?_; rotate_left; (focus ((intro w hSw; (try dsimp only at hSw); go_simp); (first | done | (with_reducible rfl)))); (try simp only [Act.put]); (try simp only [List.setIfInBounds_toArray])
                  refine wpAnyH_take (i := 5) (oi := _) (v := ?_) rfl (by kernel_rfl) (by kernel_rfl) (by kernel_rfl) (fun _ _ _ h => h) (Or.inl ⟨by rfl, ?_⟩) (by assumption) ?_; rotate_left; (focus ((intro w hSw; (try dsimp only at hSw); go_simp); (first | done | (with_reducible rfl)))); (try simp only [Act.put]); (try simp only [List.setIfInBounds_toArray])
                  refine wpAnyH_take (i := 6) (oi := _) (v := ?_) rfl (by kernel_rfl) (by kernel_rfl) (by kernel_rfl) (fun _ _ _ h => h) (Or.inl ⟨by rfl, ?_⟩) (by assumption) ?_; rotate_left; (focus ((intro w hSw; (try dsimp only at hSw); go_simp); (first | done | (with_reducible rfl)))); (try simp only [Act.put]); (try simp only [List.setIfInBounds_toArray])
                  refine wpAnyH_take (i := 7) (oi := _) (v := ?_) rfl (by kernel_rfl) (by kernel_rfl) (by kernel_rfl) (fun _ _ _ h => h) (Or.inl ⟨by rfl, ?_⟩) (by assumption) ?_; rotate_left; (focus ((intro w hSw; (try dsimp only at hSw); go_simp); (first | done | (with_reducible rfl)))); (try simp only [Act.put]); (try simp only [List.setIfInBounds_toArray])
                  refine wpAnyH_take (i := 8) (oi := _) (v := ?_) rfl (by kernel_rfl) (by kernel_rfl) (by kernel_rfl) (fun _ _ _ h => h) (Or.inl ⟨by rfl, ?_⟩) (by assumption) ?_; rotate_left; (focus ((intro w hSw; (try dsimp only at hSw); go_simp); (first | done | (with_reducible rfl)))); (try simp only [Act.put]); (try simp only [List.setIfInBounds_toArray])
                  refine wpAnyH_take (i := 9) (oi := _) (v := ?_) rfl (by kernel_rfl) (by kernel_rfl) (by kernel_rfl) (fun _ _ _ h => h) (Or.inl ⟨by rfl, ?_⟩) (by assumption) ?_; rotate_left; (focus ((intro w hSw; (try dsimp only at hSw); go_simp); (first | done | (with_reducible rfl)))); (try simp only [Act.put]); (try simp only [List.setIfInBounds_toArray])
                  refine wpAnyH_take (i := 10) (oi := _) (v := ?_) rfl (by kernel_rfl) (by kernel_rfl) (by kernel_rfl) (fun _ _ _ h => h) (Or.inl ⟨by rfl, ?_⟩) (by assumption) ?_; rotate_left; (focus ((intro w hSw; (try dsimp only at hSw); go_simp); (first | done | (with_reducible rfl)))); (try simp only [Act.put]); (try simp only [List.setIfInBounds_toArray])
                  refine wpAnyH_take (i := 11) (oi := _) (v := ?_) rfl (by kernel_rfl) (by kernel_rfl) (by kernel_rfl) (fun _ _ _ h => h) (Or.inl ⟨by rfl, ?_⟩) (by assumption) ?_; rotate_left; (focus ((intro w hSw; (try dsimp only at hSw); go_simp); (first | done | (with_reducible rfl)))); (try simp only [Act.put]); (try simp only [List.setIfInBounds_toArray])
                  refine wpAnyH_take (i := 12) (oi := _) (v := ?_) rfl (by kernel_rfl) (by kernel_rfl) (by kernel_rfl) (fun _ _ _ h => h) (Or.inl ⟨by rfl, ?_⟩) (by assumption) ?_; rotate_left; (focus ((intro w hSw; (try dsimp only at hSw); go_simp); (first | done | (with_reducible rfl)))); (try simp only [Act.put]); (try simp only [List.setIfInBounds_toArray])
                  refine wpAnyH_take (i := 13) (oi := _) (v := ?_) rfl (by kernel_rfl) (by kernel_rfl) (by kernel_rfl) (fun _ _ _ h => h) (Or.inl ⟨by rfl, ?_⟩) (by assumption) ?_; rotate_left; (focus ((intro w hSw; (try dsimp only at hSw); go_simp); (first | done | (with_reducible rfl)))); (try simp only [Act.put]); (try simp only [List.setIfInBounds_toArray])
                  refine wpAnyH_take (i := 14) (oi := _) (v := ?_) rfl (by kernel_rfl) (by kernel_rfl) (by kernel_rfl) (fun _ _ _ h => h) (Or.inl ⟨by rfl, ?_⟩) (by assumption) ?_; rotate_left; (focus ((intro w hSw; (try dsimp only at hSw); go_simp); (first | done | (with_reducible rfl)))); (try simp only [Act.put]); (try simp only [List.setIfInBounds_toArray])
                  refine wpAnyH_ready (rs := [15]) (by kernel_rfl) (by simp) ?_; refine AllReadyH.cons (o := _) rfl (fun K hK => ?_) AllReadyH.nil; go_simp
                  (try rw [hwrap])
                  refine (rafter_any _ _ _ _ _ _ _ _ _).mono ?_
                  rintro x w5 ⟨rfl, hx5⟩
                  have hx5 := (Ext.refl W3).drew.trans hx5
                  have q0 := (hx5.cell (p := ⟨nb + 1, 0, none⟩) (by simp only; omega)).trans q0
                  have q1' := (hx5.cell (p := ⟨nb + 1, 1, none⟩) (by simp only; omega)).trans q1'
                  have q2' := (hx5.cell (p := ⟨nb + 1, 2, none⟩) (by simp only; omega)).trans q2'
                  have q3' := (hx5.cell (p := ⟨nb + 1, 3, none⟩) (by simp only; omega)).trans q3'
                  have qf := fun j => (hx5.frozen (p := ⟨nb + 1, j, none⟩) (by simp only; omega)).trans (qf j)
                  have y0 := (hx5.cell (p := ⟨g4, o4 + i * 4, none⟩) b4).trans y0
                  have y1 := (hx5.cell (p := ⟨g4, o4 + i * 4 + 1, none⟩) b4).trans y1
                  have y2 := (hx5.cell (p := ⟨g4, o4 + i * 4 + 2, none⟩) b4).trans y2
                  have y3 := (hx5.cell (p := ⟨g4, o4 + i * 4 + 3, none⟩) b4).trans y3
                  have kc0 := (hx5.cell (p := ⟨cb, 0, none⟩) hcl6).trans kc0
                  have kc1 := (hx5.cell (p := ⟨cb, 1, none⟩) hcl6).trans kc1
                  have kc2 := (hx5.cell (p := ⟨cb, 2, none⟩) hcl6).trans kc2
                  have kc3 := (hx5.cell (p := ⟨cb, 3, none⟩) hcl6).trans kc3
                  have n0 := (hx5.cell (p := ⟨nb, 0, none⟩) (by simp only; omega)).trans n0
                  have n2 := (hx5.cell (p := ⟨nb, 2, none⟩) (by simp only; omega)).trans n2
                  have hs5 : nb + 2 ≤ w5.heap.size := by have := hx5.size; omega
                  have Hx5 := Lib.hid (Hx3.out.trans hx5)
                  dsimp only
                  refine hK.out _ _ ⟨y0, y1, y2, y3, kc0, kc1, kc2, kc3, n0⟩ (fun hHeld => ?_)
                  clear hK K hx5
                  try simp only [Act.put, List.setIfInBounds_toArray, List.set_cons_zero, List.set_cons_succ]
                  refine wpAnyH_ready (rs := [16]) (by kernel_rfl) (by simp) ?_; refine AllReadyH.cons (o := _) rfl (fun K hK => ?_) AllReadyH.nil; go_simp
                  have hcg : Chg (· = nb + 1) w5 ((((w5.setCell ⟨nb + 1, 0, none⟩ (.int .i64 (afSt r.st e.op))).setCell ⟨nb + 1, 1, none⟩ (.int .i64 (afOw r.ow e.op e.cl))).setCell ⟨nb + 1, 2, none⟩ (.string (afNm r.nm e.op n.a))).setCell ⟨nb + 1, 3, none⟩ (.int .i64 (afDl r.dl e.op (e.tick + e.ttl)))) := by
                    (repeat refine Chg.setCell (S := (· = nb + 1)) ?_ (.inl rfl) _)
                    exact Chg.refl _ _
                  have hb5 : g4 < w5.heap.size := by omega
                  have hc5 : cb < w5.heap.size := by omega
                  refine hK.out _ _ ⟨(hcg.cell (p := ⟨g4, o4 + i * 4, none⟩) hb5 (by simp only; omega)).trans y0, (hcg.cell (p := ⟨g4, o4 + i * 4 + 1, none⟩) hb5 (by simp only; omega)).trans y1, (hcg.cell (p := ⟨g4, o4 + i * 4 + 2, none⟩) hb5 (by simp only; omega)).trans y2, (hcg.cell (p := ⟨g4, o4 + i * 4 + 3, none⟩) hb5 (by simp only; omega)).trans y3, (hcg.cell (p := ⟨cb, 0, none⟩) hc5 (by simp only; omega)).trans kc0, (hcg.cell (p := ⟨cb, 1, none⟩) hc5 (by simp only; omega)).trans kc1, (hcg.cell (p := ⟨cb, 2, none⟩) hc5 (by simp only; omega)).trans kc2, (hcg.cell (p := ⟨cb, 3, none⟩) hc5 (by simp only; omega)).trans kc3, (hcg.cell (p := ⟨nb, 0, none⟩) (by simp only; omega) (by simp only; omega)).trans n0⟩ (fun hHeld => ?_)
                  clear hK K
                  try simp only [Act.put, List.setIfInBounds_toArray, List.set_cons_zero, List.set_cons_succ]
                  refine wpAnyH_done (by kernel_rfl) ?_ _
                  go_simp
                  refine hM _ _ (hJ _ _ ?_)
                  have hfin : Ext W2 ((((w5.setCell ⟨nb + 1, 0, none⟩ (.int .i64 (afSt r.st e.op))).setCell ⟨nb + 1, 1, none⟩ (.int .i64 (afOw r.ow e.op e.cl))).setCell ⟨nb + 1, 2, none⟩ (.string (afNm r.nm e.op n.a))).setCell ⟨nb + 1, 3, none⟩ (.int .i64 (afDl r.dl e.op (e.tick + e.ttl)))) := Hx5.out.chg_new hcg fun i hi => by omega
                  have n2f := (hcg.cell (p := ⟨nb, 2, none⟩) (by simp only; omega) (by simp only; omega)).trans n2
                  have hszf := Nat.le_trans hs5 hcg.size
                  clear hHeld hcg
                  (repeat apply Exists.intro)
                  refine ⟨⟨rfl, hfin, ?_, ?_, ?_, ?_, n2f, hszf⟩, rfl⟩
                  · rw [HW.out]; simp only [afterR]; go_simp
                  · rw [HW.out]; simp only [afterR]; go_simp
                  · rw [HW.out]; simp only [afterR]; go_simp
                  · rw [HW.out]; simp only [afterR]; go_simp
                | false =>
                  have HW := Lib.hid (Hlw.out.2 (by simpa using hR0))
                  go_wp2_with fail
                  go_meet
                  exact ⟨rfl, Hx3.out, by rw [HW.out]; exact q0, by rw [HW.out]; exact q1', by rw [HW.out]; exact q2', by rw [HW.out]; exact q3', n2, by omega⟩
              case rest =>
              obtain ⟨rfl, hxc, q0, q1', q2', q3', n2, hs5⟩ := hcut
              clear y0 y1 y2 y3 kc0 kc1 kc2 kc3 r0 n0 qf
              have Hst6 := Lib.hid (Hst4.out.ext' hxc)
              have Hxc := Lib.hid hxc
              have T := Lib.hid (fun (n' : Nat) (os : Array Obj) => mget_any b m cl cp l2 n.k (later wc n' os) (Hst6.out.mod.ext ⟨n', os, rfl⟩) hk8)
              have t0 : ∀ n' os, (later wc n' os).cell? ⟨nb + 1, 0, none⟩ = some (.int .i64 (getK l2 n.k).st) := fun n' os => (cell_grow_any _ n' os (nb + 1) _ (by omega)).trans q0
              have t1 : ∀ n' os, (later wc n' os).cell? ⟨nb + 1, 1, none⟩ = some (.int .i64 (getK l2 n.k).ow) := fun n' os => (cell_grow_any _ n' os (nb + 1) _ (by omega)).trans q1'
              have t2 : ∀ n' os, (later wc n' os).cell? ⟨nb + 1, 2, none⟩ = some (.string (getK l2 n.k).nm) := fun n' os => (cell_grow_any _ n' os (nb + 1) _ (by omega)).trans q2'
              have t3 : ∀ n' os, (later wc n' os).cell? ⟨nb + 1, 3, none⟩ = some (.int .i64 (getK l2 n.k).dl) := fun n' os => (cell_grow_any _ n' os (nb + 1) _ (by omega)).trans q3'
              have t4 : ∀ n' os, (later wc n' os).cell? ⟨nb, 2, none⟩ = some (.string n.k) := fun n' os => (cell_grow_any _ n' os nb _ (by omega)).trans n2
              unfold rcV at T
              clear q0 q1' q2' q3' n2 hxc
              go_wp2_with fail
              refine wp_region_ext (by kernel_rfl) (by kernel_rfl) ?_
              repeat (quiet_step (first | (go_at_call 35; with_reducible exact ext_call (T.out _ _))))
              refine wpQuiet_nil ?_; intro w1 hy
              have Hend := Lib.hid (Hxc.out.trans hy)
              clear hy t0 t1 t2 t3 t4 T
              go_wp2_with fail
              go_roundw
              case rel => exact ⟨i + 1, by omega, by go_num, Hend.out⟩
              case measure => simp [intOf]; omega
            · have hdc2 : decide ((i : Int) < (nn : Int)) = false := by simp; omega
              have Hst5 := Lib.hid (Hst4.out.ext' Hx.out)
              go_wp2_with fail
              go_roundw
              case rel => exact ⟨k + 1, l2, by omega, by go_num, Hst5.out⟩
              case measure => simp [intOf]; omega
    · have hd : decide ((k : Int) < (ps.length : Int)) = false := by simp; omega
      go_wp2_with fail
      refine (awake28 _).mono ?_
      rintro x w6 ⟨rfl, hx6⟩
      have Hx6 := Lib.hid (Hst.out.ext.trans hx6)
      clear hx6
      go_wp2_with fail
      go_ret
      exact ⟨rfl, Hx6.out.below⟩
end modelAll
end Go.Proofs.Ytjefpeppkphgbaa
