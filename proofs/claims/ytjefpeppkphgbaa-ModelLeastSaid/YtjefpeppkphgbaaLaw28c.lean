/-
  ModelLeast: an error names the first name that is the reason for it.
  Conditions: none.
-/
import Derived.Test.YtjefpeppkphgbaaMSt
import Derived.Test.YtjefpeppkphgbaaDoLaw2
namespace Go.Proofs.Ytjefpeppkphgbaa
open Go.RowKit Go.Sort
set_option maxHeartbeats 4000000
set_option maxRecDepth 100000

theorem ModAt.asc {w : World} {b m : Nat} {cl cap : Int} {l : List Kp} (h : ModAt w b m cl cap l) : AscP l := by
  obtain ⟨D, _, h2⟩ := h.map
  exact h2.asc
namespace modelLeast
theorem walk (a : Option Addr) (len cap : Nat) (zs : List Int) (a2 : Option Addr) (len2 cap2 : Nat) (zs2 : List Int) (w : World) (hr : IsRow .i64 w a len cap zs) (hr2 : IsRow .i64 w a2 len2 cap2 zs2) :
    Calls Try.prog 10 #[.slice a len cap, .slice a2 len2 cap2] w fun e w' => e = .returned (.bool true) ∧ Below w.heap.size w w' := by
  have Hr := Lib.hid hr
  have Hr2 := Lib.hid hr2
  clear hr hr2
  go_enter Try.func10, Try.ntmps10
  go_wp2_with fail
  refine (conf_any _ _ _ _ (RowIn.of_row Hr2.out)).mono ?_
  rintro x w1 ⟨cl, cp, q1, q2, q3, q4, rfl, hx1⟩
  have Hx1 := Lib.hid hx1
  clear hx1 Hr2
  go_wp2_with fail
  have hf : (w1.alloc (.cells #[.int .i64 cl, .int .i64 cp] 48)).cell? ⟨w1.heap.size, 1, none⟩ = some (.int .i64 cp) := by go_simp
  have hfs : w1.heap.size < (w1.alloc (.cells #[.int .i64 cl, .int .i64 cp] 48)).heap.size := by simp
  have Hf := Lib.hid hf
  have Hfs := Lib.hid hfs
  clear hf hfs
  refine (mnew_good (confE_ok q1 q2 q3 q4) _).mono ?_
  rintro x w2 ⟨b, m, rfl, hm, hb, hmm, hx2⟩
  have Hx2 := Lib.hid ((Hx1.out.alloc _).trans hx2)
  have hmw : w.heap.size ≤ m := by have := Hx1.out.size; simp at hmm; omega
  have Hm := Lib.hid hm
  have hfc := (hx2.cell (p := ⟨w1.heap.size, 1, none⟩) Hfs.out).trans Hf.out
  have hfm : ¬ w1.heap.size = m := by simp at hmm; omega
  have hf2 : w1.heap.size < w2.heap.size := Nat.lt_of_lt_of_le Hfs.out hx2.size
  obtain ⟨fb, hfb⟩ : ∃ f, w1.heap.size = f := ⟨_, rfl⟩
  rw [hfb] at hfc hfm hf2
  have Hfb := Lib.hid hfb
  clear hx2 hm hb hmm Hx1 Hf Hfs hfb
  go_wp2_with fail
  refine (calls_any _ _ _ _ (RowIn.of_row (Hr.out.ext Hx2.out))).mono ?_
  rintro x w3 ⟨va, ps, rfl, hp30, hst⟩
  have hmst := mst_start Hm.out Hx2.out hmw hst
  replace hfc := (hst.ext.cell (p := ⟨fb, 1, none⟩) hf2).trans hfc
  have hnum : ∀ p ∈ ps, CalOk p.1 := hst.sm
  obtain ⟨A, C, rfl⟩ := hmst.ents.shape
  obtain ⟨B, hB⟩ : ∃ B, w2.heap.size = B := ⟨_, rfl⟩
  rw [hB] at hmst hf2
  have Hmst := Lib.hid hmst
  have Hnum := Lib.hid hnum
  clear hst hmst hnum hB Hm Hr Hx2
  rw [Hfb.out]
  go_wp2_with fail
  go_loopw [36] (fun o wr => ∃ (k : Nat) (l : List Kp), k ≤ ps.length ∧ o = .int .i64 (k : Int) ∧ MSt w wr B b m cl cp (.slice A ps.length C) ps l k ∧ (l.length : Int) ≤ cp ∧ wr.cell? ⟨fb, 1, none⟩ = some (.int .i64 cp)) (fun o _ => ps.length - (intOf o).toNat)
  case atStart => exact ⟨0, [], by omega, rfl, Hmst.out, by simp; omega, hfc⟩
  case round =>
    clear Hmst
    obtain ⟨k, l, hk, rfl, hst, hlc, hfc⟩ := hrel
    have Hlc := Lib.hid hlc
    clear hlc
    have Hst := Lib.hid hst
    clear hst
    by_cases hlt : k < ps.length
    · have hd : decide ((k : Int) < (ps.length : Int)) = true := by simpa using hlt
      obtain ⟨g, o, c', hv, p1, p2, _, b1, hcell⟩ := Hst.out.ents.get (j := k) hlt
      simp only [Value.slice.injEq, true_and] at hv
      obtain ⟨rfl, rfl⟩ := hv
      obtain ⟨⟨e, u⟩, hae⟩ : ∃ a, ps[k]? = some a := ⟨ps[k], by simp [hlt]⟩
      obtain ⟨x1, x2, x3, x4, x5, xn⟩ := hcell _ hae
      simp only at x1 x2 x3 x4 x5 xn
      obtain ⟨A2, c2, rfl⟩ := xn.shape
      have hok := Hnum.out _ (List.mem_of_getElem? hae)
      have i0 : (0 : Int) ≤ (k : Int) := by omega
      have i1 : (k : Int) < (ps.length : Int) := by omega
      obtain ⟨nn, hnn⟩ : ∃ n, e.names.length = n := ⟨_, rfl⟩
      have hl4 := hok.len
      rw [hnn] at x5 hl4
      have Hok := Lib.hid hok
      have Hnn := Lib.hid hnn
      have hxn : NmsAt wr (fun i => B ≤ i) (.slice A2 nn c2) e.names := by rw [← hnn]; exact xn
      have Hxn := Lib.hid hxn
      have hfew := Hst.out.few
      clear hcell hae xn hok hnn hxn
      go_upto_region 9 with fail
      have kc0 : (wr.alloc (.cells #[.int .i64 e.cl, .int .i64 e.op, .int .i64 e.ttl, .int .i64 e.tick, .slice A2 nn c2] 60)).cell? ⟨wr.heap.size, 0, none⟩ = some (.int .i64 e.cl) := by go_simp
      have kc1 : (wr.alloc (.cells #[.int .i64 e.cl, .int .i64 e.op, .int .i64 e.ttl, .int .i64 e.tick, .slice A2 nn c2] 60)).cell? ⟨wr.heap.size, 1, none⟩ = some (.int .i64 e.op) := by go_simp
      have kc2 : (wr.alloc (.cells #[.int .i64 e.cl, .int .i64 e.op, .int .i64 e.ttl, .int .i64 e.tick, .slice A2 nn c2] 60)).cell? ⟨wr.heap.size, 2, none⟩ = some (.int .i64 e.ttl) := by go_simp
      have kc3 : (wr.alloc (.cells #[.int .i64 e.cl, .int .i64 e.op, .int .i64 e.ttl, .int .i64 e.tick, .slice A2 nn c2] 60)).cell? ⟨wr.heap.size, 3, none⟩ = some (.int .i64 e.tick) := by go_simp
      have kc4 : (wr.alloc (.cells #[.int .i64 e.cl, .int .i64 e.op, .int .i64 e.ttl, .int .i64 e.tick, .slice A2 nn c2] 60)).cell? ⟨wr.heap.size, 4, none⟩ = some (.slice A2 nn c2) := by go_simp
      have hxW : Ext wr (wr.alloc (.cells #[.int .i64 e.cl, .int .i64 e.op, .int .i64 e.ttl, .int .i64 e.tick, .slice A2 nn c2] 60)) := (Ext.refl wr).alloc _
      obtain ⟨cb, hcb⟩ : ∃ c, wr.heap.size = c := ⟨_, rfl⟩
      have hcl : wr.heap.size < (wr.alloc (.cells #[.int .i64 e.cl, .int .i64 e.op, .int .i64 e.ttl, .int .i64 e.tick, .slice A2 nn c2] 60)).heap.size := by simp
      obtain ⟨W1, hW1⟩ : ∃ W, wr.alloc (.cells #[.int .i64 e.cl, .int .i64 e.op, .int .i64 e.ttl, .int .i64 e.tick, .slice A2 nn c2] 60) = W := ⟨_, rfl⟩
      rw [hW1] at kc0 kc1 kc2 kc3 kc4 hxW hcl
      rw [hW1]
      rw [hcb] at kc0 kc1 kc2 kc3 kc4 hcl
      rw [hcb]
      have Hst1 := Lib.hid (Hst.out.ext' hxW)
      have Hxn1 := Lib.hid (Rd.ext Hxn.out hxW)
      have hcw : B ≤ cb := by rw [← hcb]; exact Hst.out.big
      replace hfc := (hxW.cell (p := ⟨fb, 1, none⟩) (by have := Hst.out.big; simp only; omega)).trans hfc
      clear hW1 hcb hxW x1 x2 x3 x4 x5 Hst Hxn b1
      go_wp2_with fail
      refine (mlen_any b m cl cp l _ Hst1.out.mod).mono ?_
      rintro x w' ⟨rfl, rfl⟩
      go_wp2_with fail
      go_loopw [45, 12] (fun o r wr => ∃ i : Nat, i ≤ nn ∧ o = .int .i64 (i : Int) ∧ wr.ownsRow W1.heap.size 65 4 r i (flatR ((e.names.take i).map fun n => getK l n.k)) ∧ Ext W1 wr) (fun o _ _ => nn - (intOf o).toNat)
      case atStart => exact ⟨0, by omega, rfl, World.ownsRow_nil _ _ _ _, Ext.refl _⟩
      case round =>
        obtain ⟨i, hi, rfl, hown, hx⟩ := hrel
        obtain ⟨la, lc, rfl⟩ := own_shape hown
        have Hown := Lib.hid hown
        have Hx := Lib.hid hx
        clear hown hx
        replace kc0 := (Hx.out.cell (p := ⟨cb, 0, none⟩) hcl).trans kc0
        replace kc1 := (Hx.out.cell (p := ⟨cb, 1, none⟩) hcl).trans kc1
        replace kc2 := (Hx.out.cell (p := ⟨cb, 2, none⟩) hcl).trans kc2
        replace kc3 := (Hx.out.cell (p := ⟨cb, 3, none⟩) hcl).trans kc3
        replace kc4 := (Hx.out.cell (p := ⟨cb, 4, none⟩) hcl).trans kc4
        by_cases hlt2 : i < nn
        · have hdc : decide ((i : Int) < (nn : Int)) = true := by simpa using hlt2
          obtain ⟨g3, o3, c', hv, p3, p4, hSg, b1, hcell⟩ := NmsAt.get (Rd.ext Hxn1.out Hx.out) (j := i) (by rw [Hnn.out]; exact hlt2)
          rw [Hnn.out] at hv p3
          simp only [Value.slice.injEq, true_and] at hv
          obtain ⟨rfl, rfl⟩ := hv
          obtain ⟨n, hni⟩ : ∃ n, e.names[i]? = some n := ⟨e.names[i]'(by have := Hnn.out; omega), by simp⟩
          obtain ⟨x1, x2, x3⟩ := hcell _ _ hni
          have j0 : (0 : Int) ≤ (i : Int) := by omega
          have j1 : (i : Int) < (nn : Int) := by omega
          have Hni := Lib.hid hni
          have hk8 := small_keys Hok.out.names n (List.mem_of_getElem? hni)
          clear hcell hni
          go_wp2_with fail
          refine (mget_any b m cl cp l n.k _ ((Hst1.out.mod.ext Hx.out).ext ((Ext.refl _).alloc _)) hk8).mono ?_
          rintro x w5 ⟨rfl, hx5⟩
          have Hx5 := Lib.hid (((Ext.refl wr).alloc _).trans hx5)
          unfold rcV
          obtain ⟨j0', hj, hj0, hj1, hj2⟩ := info_parts info_rec
          have hrl := rd_litM w5 #[.int .i64 (getK l n.k).st, .int .i64 (getK l n.k).ow, .string (getK l n.k).nm, .int .i64 (getK l n.k).dl] 65 4 (by rfl)
          have hbz : W1.heap.size ≤ (w5.alloc (.cells #[.int .i64 (getK l n.k).st, .int .i64 (getK l n.k).ow, .string (getK l n.k).nm, .int .i64 (getK l n.k).dl] 65)).heap.size := by have := Hx.out.size; have := Hx5.out.size; simp; omega
          clear hx5 x1 x2 x3
          go_wp2_with (at_builtin; refine wpList_append_rd _ rfl _ _ 61 rfl W1.heap.size 65 j0' _ 4 40 und_recs hj hj0 hj1 hj2 rfl (by decide) _ i _ rfl (own_ext Hown.out (Hx5.out.alloc _)) (fun _ => True) _ 1 _ rfl hrl (by simp [Value.oneCell']) (by unfold maxLen; omega) (by omega) hbz ?_; intro v' w6 ha; obtain ⟨a3, c3', hv3⟩ := own_shape ha.own; subst hv3)
          have hend : w6.ownsRow W1.heap.size 65 4 (.slice a3 (i + 1) c3') (i + 1) (flatR ((e.names.take (i + 1)).map fun n => getK l n.k)) := by
            rw [take_at Hni.out, List.map_append, List.map_cons, List.map_nil, flatR_snoc]
            exact ha.own
          have hx6 : Ext W1 w6 := (Hx.out.trans (Hx5.out.alloc _)).grown ha.grown fun k hk => (Hown.out.lt k hk).1
          have Hend := Lib.hid hend
          have Hx6 := Lib.hid hx6
          clear ha hend hx6 hrl hbz
          go_roundw
          case rel => exact ⟨i + 1, by omega, by go_num, Hend.out, Hx6.out⟩
          case measure => simp [intOf]; omega
        · have hdc : decide ((i : Int) < (nn : Int)) = false := by simp; omega
          obtain rfl : nn = i := by omega
          have hrecs : RecsAt wr (fun k => W1.heap.size ≤ k) (.slice la nn lc) (e.names.map fun n => getK l n.k) := by
            have h1 := Hown.out
            rw [List.take_of_length_le (by rw [Hnn.out]; exact Nat.le_refl _)] at h1
            have e2 : (e.names.map fun n => getK l n.k).length = nn := by rw [List.length_map]; exact Hnn.out
            unfold RecsAt
            rw [e2]
            exact Rd.of_own h1 fun k hk => (h1.lt k hk).1
          have Hst2 := Lib.hid (Hst1.out.ext' Hx.out)
          have Hxn2 := Lib.hid (Rd.ext Hxn1.out Hx.out)
          have Hrecs := Lib.hid hrecs
          have hcl2 := Nat.lt_of_lt_of_le hcl Hx.out.size
          have hwq := Hx.out.size
          have hfW : fb < W1.heap.size := by omega
          clear hrecs Hst1 Hxn1 Hown
          go_wp2_with fail
          have hcall := mdo_any b m cl cp e.cl e.op e.ttl e.tick l (.slice A2 nn c2) e.names wr Hst2.out.mod (by omega) (small_keys Hok.out.names) (S := fun i => B ≤ i) Hxn2.out (by have := Hst2.out.hm; omega)
          refine hcall.mono ?_
          rintro x wd ⟨rfl, hmd, hcd⟩
          obtain ⟨R, hR⟩ : ∃ R, doR cl cp l e.cl e.op e.ttl e.tick e.names = R := ⟨_, rfl⟩
          obtain ⟨l2, hl2⟩ : ∃ l2, doL cl cp l e.cl e.op e.ttl e.tick e.names = l2 := ⟨_, rfl⟩
          have hst3 := Hst2.out.turn hmd hcd
          rw [hl2] at hst3
          have hlc2 : (l2.length : Int) ≤ cp := by rw [← hl2]; exact do_cap Hst2.out.mod.asc Hst2.out.nz Hlc.out
          have hLaw : R.e ≠ 0 → R.e ≠ 1 → R.e ≠ 8 → ∃ (j : Nat) (n : Nm), e.names[j]? = some n ∧ R.at_ = (j : Int) ∧ R.nm = n.a ∧ R.tick = e.tick ∧ judgeGo cp e.op e.cl e.tick 0 l.length (withR l e.names) = some (R.e, j, n.a) := by
            rw [← hR]
            exact least
          rw [hR]
          unfold respV
          have hmB : m < B := Hst2.out.hm
          have hnc : ∀ i, B ≤ i → ¬ i = m := fun i hi e => by omega
          have hxnd : NmsAt wd (fun i => B ≤ i) (.slice A2 nn c2) e.names := Rd.chg Hxn2.out hcd hnc
          have hrcd : RecsAt wd (fun k => W1.heap.size ≤ k) (.slice la nn lc) (e.names.map fun n => getK l n.k) := Rd.chg Hrecs.out hcd fun i hi e => by have := Hst2.out.big; omega
          replace kc0 := (hcd.cell (p := ⟨cb, 0, none⟩) hcl2 (hnc cb hcw)).trans kc0
          replace kc1 := (hcd.cell (p := ⟨cb, 1, none⟩) hcl2 (hnc cb hcw)).trans kc1
          replace kc2 := (hcd.cell (p := ⟨cb, 2, none⟩) hcl2 (hnc cb hcw)).trans kc2
          replace kc3 := (hcd.cell (p := ⟨cb, 3, none⟩) hcl2 (hnc cb hcw)).trans kc3
          replace kc4 := (hcd.cell (p := ⟨cb, 4, none⟩) hcl2 (hnc cb hcw)).trans kc4
          have hcl3 := Nat.lt_of_lt_of_le hcl2 hcd.size
          have hwd := hcd.size
          replace hfc := ((Hx.out.cell (p := ⟨fb, 1, none⟩) hfW).trans hfc)
          replace hfc := (hcd.cell (p := ⟨fb, 1, none⟩) (Nat.lt_of_lt_of_le hfW Hx.out.size) hfm).trans hfc
          have Hlc2 := Lib.hid hlc2
          have Hst3 := Lib.hid hst3
          have HLaw := Lib.hid hLaw
          have Hxnd := Lib.hid hxnd
          have Hrcd := Lib.hid hrcd
          clear hcall hR hl2 hmd hcd hst3 hLaw hxnd hrcd hnc Hst2 Hxn2 Hrecs hlc2
          go_upto_region 17 with fail
          have r0 : (wd.alloc (.cells #[.int .i64 R.e, .int .i64 R.at_, .string R.nm, .int .i64 R.rc.st, .int .i64 R.rc.ow, .string R.rc.nm, .int .i64 R.rc.dl, .int .i64 R.tick] 68)).cell? ⟨wd.heap.size, 0, none⟩ = some (.int .i64 R.e) := by go_simp
          have r1 : (wd.alloc (.cells #[.int .i64 R.e, .int .i64 R.at_, .string R.nm, .int .i64 R.rc.st, .int .i64 R.rc.ow, .string R.rc.nm, .int .i64 R.rc.dl, .int .i64 R.tick] 68)).cell? ⟨wd.heap.size, 1, none⟩ = some (.int .i64 R.at_) := by go_simp
          have r2 : (wd.alloc (.cells #[.int .i64 R.e, .int .i64 R.at_, .string R.nm, .int .i64 R.rc.st, .int .i64 R.rc.ow, .string R.rc.nm, .int .i64 R.rc.dl, .int .i64 R.tick] 68)).cell? ⟨wd.heap.size, 2, none⟩ = some (.string R.nm) := by go_simp
          have r7 : (wd.alloc (.cells #[.int .i64 R.e, .int .i64 R.at_, .string R.nm, .int .i64 R.rc.st, .int .i64 R.rc.ow, .string R.rc.nm, .int .i64 R.rc.dl, .int .i64 R.tick] 68)).cell? ⟨wd.heap.size, 7, none⟩ = some (.int .i64 R.tick) := by go_simp
          have hrl : wd.heap.size < (wd.alloc (.cells #[.int .i64 R.e, .int .i64 R.at_, .string R.nm, .int .i64 R.rc.st, .int .i64 R.rc.ow, .string R.rc.nm, .int .i64 R.rc.dl, .int .i64 R.tick] 68)).heap.size := by simp
          have hxW : Ext wd (wd.alloc (.cells #[.int .i64 R.e, .int .i64 R.at_, .string R.nm, .int .i64 R.rc.st, .int .i64 R.rc.ow, .string R.rc.nm, .int .i64 R.rc.dl, .int .i64 R.tick] 68)) := (Ext.refl wd).alloc _
          obtain ⟨tb, htb⟩ : ∃ t, wd.heap.size = t := ⟨_, rfl⟩
          obtain ⟨W2, hW2⟩ : ∃ W, wd.alloc (.cells #[.int .i64 R.e, .int .i64 R.at_, .string R.nm, .int .i64 R.rc.st, .int .i64 R.rc.ow, .string R.rc.nm, .int .i64 R.rc.dl, .int .i64 R.tick] 68) = W := ⟨_, rfl⟩
          rw [hW2] at r0 r1 r2 r7 hrl hxW
          rw [hW2]
          rw [htb] at r0 r1 r2 r7 hrl
          rw [htb]
          replace kc0 := (hxW.cell (p := ⟨cb, 0, none⟩) hcl3).trans kc0
          replace kc1 := (hxW.cell (p := ⟨cb, 1, none⟩) hcl3).trans kc1
          replace kc3 := (hxW.cell (p := ⟨cb, 3, none⟩) hcl3).trans kc3
          replace kc4 := (hxW.cell (p := ⟨cb, 4, none⟩) hcl3).trans kc4
          have hcl4 := Nat.lt_of_lt_of_le hcl3 hxW.size
          have hfd : fb < wd.heap.size := by have := Hx.out.size; omega
          replace hfc := (hxW.cell (p := ⟨fb, 1, none⟩) hfd).trans hfc
          have hfl : fb < W2.heap.size := Nat.lt_of_lt_of_le hfd hxW.size
          have Hst4 := Lib.hid (Hst3.out.ext' hxW)
          have Hxn4 := Lib.hid (Rd.ext Hxnd.out hxW)
          have Hrc4 := Lib.hid (Rd.ext Hrcd.out hxW)
          clear hxW hW2 htb Hst3 Hxnd Hrcd kc2
          by_cases hE : R.e = 0 ∨ R.e = 1 ∨ R.e = 8
          · have K : (R.e == 0) = true ∨ ((R.e == 0) = false ∧ (R.e == 1) = true) ∨ ((R.e == 0) = false ∧ (R.e == 1) = false ∧ (R.e == 8) = true) := by
              rcases hE with h | h | h
              · exact .inl (by simp [h])
              · exact .inr (.inl ⟨by simp [h], by simp [h]⟩)
              · exact .inr (.inr ⟨by simp [h], by simp [h], by simp [h]⟩)
            clear hE
            rcases K with e1 | ⟨e1, e2⟩ | ⟨e1, e2, e3⟩
            all_goals
              go_wp2_with fail
              go_roundw
              case rel => exact ⟨k + 1, l2, by omega, by go_num, Hst4.out, Hlc2.out, hfc⟩
              case measure => simp [intOf]; omega
          · have e1 : (R.e == 0) = false := by simp; omega
            have e2 : (R.e == 1) = false := by simp; omega
            have e3 : (R.e == 8) = false := by simp; omega
            obtain ⟨j, n, hnj, hat, hnm, htk, hjg⟩ := HLaw.out (by omega) (by omega) (by omega)
            have Hjg := Lib.hid hjg
            rw [hat] at r1
            rw [hnm] at r2
            rw [htk] at r7
            have hjn : j < nn := by have := (List.getElem?_eq_some_iff.1 hnj).1; rw [Hnn.out] at this; exact this
            obtain ⟨g3, o3, c3', hv, p3, p4, hSg, b1, hcell⟩ := NmsAt.get Hxn4.out (j := j) (by rw [Hnn.out]; exact hjn)
            obtain ⟨x1, _, _⟩ := hcell _ _ hnj
            rw [Hnn.out] at hv p3
            simp only [Value.slice.injEq, true_and] at hv
            obtain ⟨rfl, rfl⟩ := hv
            have j0 : (0 : Int) ≤ (j : Int) := by omega
            have j1 : (j : Int) < (nn : Int) := by omega
            have j2 : decide ((j : Int) < 0) = false := by simp
            have j3 : decide ((nn : Int) ≤ (j : Int)) = false := by simp; omega
            have j4 : decide (nn ≤ j) = false := by simp; omega
            clear hE hcell hnj hjg hat hnm htk
            go_upto_region 18 with fail
            go_quiet (fail)
            clear r2 r7 kc4 x1 b1 hSg
            go_wp2_with fail
            go_loopw [16, 11] (fun o s wr => ∃ (i : Nat) (c : Int), i ≤ j + 1 ∧ o = .int .i64 (i : Int) ∧ s = .int .i64 c ∧ 0 ≤ c ∧ c ≤ 100000 + i ∧ (i ≤ j → judgeGo cp e.op e.cl e.tick i c ((withR l e.names).drop i) = some (R.e, j, n.a) ∧ c ≤ cp) ∧ Ext W2 wr) (fun o _ _ => j + 1 - (intOf o).toNat)
            case atStart => exact ⟨0, l.length, by omega, rfl, rfl, by omega, by omega, fun _ => ⟨Hjg.out, Hlc.out⟩, (Ext.refl _).drewN _⟩
            case round =>
              obtain ⟨i, c, hi2, rfl, rfl, hc0, hc1, hgo, hx2⟩ := hrel
              have Hx2' := Lib.hid hx2
              replace r0 := (hx2.cell (p := ⟨tb, 0, none⟩) hrl).trans r0
              replace r1 := (hx2.cell (p := ⟨tb, 1, none⟩) hrl).trans r1
              replace kc0 := (hx2.cell (p := ⟨cb, 0, none⟩) hcl4).trans kc0
              replace kc1 := (hx2.cell (p := ⟨cb, 1, none⟩) hcl4).trans kc1
              replace kc3 := (hx2.cell (p := ⟨cb, 3, none⟩) hcl4).trans kc3
              replace hfc := (hx2.cell (p := ⟨fb, 1, none⟩) hfl).trans hfc
              have hrl2 := Nat.lt_of_lt_of_le hrl hx2.size
              have hcl5 := Nat.lt_of_lt_of_le hcl4 hx2.size
              have hfl2 := Nat.lt_of_lt_of_le hfl hx2.size
              by_cases hij : i ≤ j
              · have hd3 : decide ((i : Int) ≤ (j : Int)) = true := by simp; omega
                obtain ⟨hgo, hcc⟩ := hgo hij
                have hin : i < nn := by omega
                obtain ⟨ni, hni⟩ : ∃ n, e.names[i]? = some n := ⟨e.names[i]'(by have := Hnn.out; omega), by simp⟩
                have hrn : (e.names.map fun n => getK l n.k)[i]? = some (getK l ni.k) := by rw [List.getElem?_map, hni]; rfl
                rw [drop_at (withR_at (l := l) hni)] at hgo
                obtain ⟨g4, o4, c4', hv2, p5, p6, b2, y0, y1, y2, y3⟩ := recsAt_get (Rd.ext Hrc4.out hx2) hrn
                rw [List.length_map, Hnn.out] at hv2 p5
                simp only [Value.slice.injEq, true_and] at hv2
                obtain ⟨rfl, rfl⟩ := hv2
                obtain ⟨r, hr⟩ : ∃ r, getK l ni.k = r := ⟨_, rfl⟩
                have hstep := judge_step hgo
                simp only at hstep
                rw [hr] at y0 y1 y2 y3 hstep
                have m0 : (0 : Int) ≤ (i : Int) := by omega
                have m1 : (i : Int) < (nn : Int) := by omega
                obtain ⟨t, ht⟩ : ∃ t, testE r.st r.ow r.dl e.op e.cl e.tick = t := ⟨_, rfl⟩
                obtain ⟨gr, hgr⟩ : ∃ x, growsI r.st e.op = x := ⟨_, rfl⟩
                have Hstep := Lib.hid hstep
                have Ht := Lib.hid ht
                have Hgr := Lib.hid hgr
                clear hgo hni hrn hr hstep hx2
                have t0 : ∀ n' os, (later wr n' os).cell? ⟨g4, o4 + i * 4, none⟩ = some (.int .i64 r.st) := fun n' os => (cell_grow_any _ n' os g4 _ b2).trans y0
                have t1 : ∀ n' os, (later wr n' os).cell? ⟨g4, o4 + i * 4 + 1, none⟩ = some (.int .i64 r.ow) := fun n' os => (cell_grow_any _ n' os g4 _ b2).trans y1
                have t2 : ∀ n' os, (later wr n' os).cell? ⟨g4, o4 + i * 4 + 2, none⟩ = some (.string r.nm) := fun n' os => (cell_grow_any _ n' os g4 _ b2).trans y2
                have t3 : ∀ n' os, (later wr n' os).cell? ⟨g4, o4 + i * 4 + 3, none⟩ = some (.int .i64 r.dl) := fun n' os => (cell_grow_any _ n' os g4 _ b2).trans y3
                have t4 : ∀ n' os, (later wr n' os).cell? ⟨cb, 0, none⟩ = some (.int .i64 e.cl) := fun n' os => (cell_grow_any _ n' os cb _ hcl5).trans kc0
                have t5 : ∀ n' os, (later wr n' os).cell? ⟨cb, 1, none⟩ = some (.int .i64 e.op) := fun n' os => (cell_grow_any _ n' os cb _ hcl5).trans kc1
                have t6 : ∀ n' os, (later wr n' os).cell? ⟨cb, 3, none⟩ = some (.int .i64 e.tick) := fun n' os => (cell_grow_any _ n' os cb _ hcl5).trans kc3
                go_wp2_with fail
                refine wp_region_ext (by kernel_rfl) (by kernel_rfl) ?_
                repeat (quiet_step (first | (go_at_call 39; exact ext_call (rtest_any _ _ _ _ _ _ _ _))))
                refine wpQuiet_nil ?_; intro w1 hy
                replace y0 := (hy.cell (p := ⟨g4, o4 + i * 4, none⟩) b2).trans y0
                replace y1 := (hy.cell (p := ⟨g4, o4 + i * 4 + 1, none⟩) b2).trans y1
                replace y2 := (hy.cell (p := ⟨g4, o4 + i * 4 + 2, none⟩) b2).trans y2
                replace y3 := (hy.cell (p := ⟨g4, o4 + i * 4 + 3, none⟩) b2).trans y3
                replace r0 := (hy.cell (p := ⟨tb, 0, none⟩) hrl2).trans r0
                replace r1 := (hy.cell (p := ⟨tb, 1, none⟩) hrl2).trans r1
                replace kc1 := (hy.cell (p := ⟨cb, 1, none⟩) hcl5).trans kc1
                replace hfc := (hy.cell (p := ⟨fb, 1, none⟩) hfl2).trans hfc
                have b3 := Nat.lt_of_lt_of_le b2 hy.size
                have hcl6 := Nat.lt_of_lt_of_le hcl5 hy.size
                have hrl3 := Nat.lt_of_lt_of_le hrl2 hy.size
                have hfl3 := Nat.lt_of_lt_of_le hfl2 hy.size
                have Hxa := Lib.hid (Hx2'.out.trans hy)
                clear hy t0 t1 t2 t3 t4 t5 t6 ht kc0 kc3 Hx2'
                have t0 : ∀ n' os, (later w1 n' os).cell? ⟨g4, o4 + i * 4, none⟩ = some (.int .i64 r.st) := fun n' os => (cell_grow_any _ n' os g4 _ b3).trans y0
                have t1 : ∀ n' os, (later w1 n' os).cell? ⟨g4, o4 + i * 4 + 1, none⟩ = some (.int .i64 r.ow) := fun n' os => (cell_grow_any _ n' os g4 _ b3).trans y1
                have t2 : ∀ n' os, (later w1 n' os).cell? ⟨g4, o4 + i * 4 + 2, none⟩ = some (.string r.nm) := fun n' os => (cell_grow_any _ n' os g4 _ b3).trans y2
                have t3 : ∀ n' os, (later w1 n' os).cell? ⟨g4, o4 + i * 4 + 3, none⟩ = some (.int .i64 r.dl) := fun n' os => (cell_grow_any _ n' os g4 _ b3).trans y3
                have t5 : ∀ n' os, (later w1 n' os).cell? ⟨cb, 1, none⟩ = some (.int .i64 e.op) := fun n' os => (cell_grow_any _ n' os cb _ hcl6).trans kc1
                go_wp2_with fail
                refine wp_region_ext (by kernel_rfl) (by kernel_rfl) ?_
                repeat (quiet_step (first | (go_at_call 40; exact ext_call (rgrows_any _ _ _ _ _ _))))
                refine wpQuiet_nil ?_
                intro w4 hy
                replace r0 := (hy.cell (p := ⟨tb, 0, none⟩) hrl3).trans r0
                replace r1 := (hy.cell (p := ⟨tb, 1, none⟩) hrl3).trans r1
                replace hfc := (hy.cell (p := ⟨fb, 1, none⟩) hfl3).trans hfc
                have Hxb := Lib.hid (Hxa.out.trans hy)
                clear hy t0 t1 t2 t3 t5 hgr y0 y1 y2 y3 kc1 Hxa
                have K : (t ≠ 0 ∧ (t == 0) = false) ∨ (t = 0 ∧ 0 < gr ∧ c = cp) ∨ (t = 0 ∧ 0 < gr ∧ c < cp) ∨ (t = 0 ∧ ¬ 0 < gr) := by
                  by_cases h1 : t = 0
                  · by_cases h2 : 0 < gr
                    · by_cases h3 : c = cp
                      · exact .inr (.inl ⟨h1, h2, h3⟩)
                      · exact .inr (.inr (.inl ⟨h1, h2, by omega⟩))
                    · exact .inr (.inr (.inr ⟨h1, h2⟩))
                  · exact .inl ⟨h1, by simpa using h1⟩
                have hwr : IntKind.i64.wrap (c + 1) = c + 1 := IntWalk.i64_in _ (by omega)
                have Hw16 := Lib.hid (show wrap64 ((i : Int) + 1) = ((i + 1 : Nat) : Int) by unfold wrap64; omega)
                (try clear p1); (try clear p2); (try clear p3); (try clear p4); (try clear p5); (try clear p6); (try clear hcl); (try clear hcl2); (try clear hcl3); (try clear hcl4); (try clear hcl5); (try clear hcl6); (try clear hrl); (try clear hrl2); (try clear hrl3); (try clear hfl); (try clear hfl2); (try clear hfl3); (try clear hfd); (try clear hfW); (try clear hwq); (try clear hwd); (try clear hmB); (try clear hcw); (try clear b2); (try clear b3); (try clear q1); (try clear q2); (try clear q3); (try clear q4); (try clear i0); (try clear i1); (try clear j0); (try clear j1); (try clear j2); (try clear j3); (try clear hd); (try clear hdc); (try clear hlt2); (try clear hi); (try clear hl4); (try clear hfew); (try clear hmw); (try clear hf2); (try clear hfm); (try clear hp30); (try clear e1); (try clear e2); (try clear e3); (try clear m0); (try clear m1); (try clear hin); (try clear hd3); (try clear hgo)
                rcases K with ⟨k1, k2⟩ | ⟨rfl, k1, rfl⟩ | ⟨rfl, k1, k2⟩ | ⟨rfl, k1⟩
                · have hone := oneE_bad (cap := cp) (c := c) Ht.out k1
                  obtain ⟨hh, _⟩ | ⟨h1, h2, h3, h4⟩ := Hstep.out
                  · exact absurd (hone.symm.trans hh) k1
                  rw [hone] at h1
                  subst h3
                  have kk : (t == R.e) = true := by simp [h1]
                  have hlt4 : decide ((i : Int) < (i : Int)) = false := by simp
                  have hfin := Hst4.out.ext' Hxb.out
                  have Hfin := Lib.hid hfin
                  clear h1 h2 h4 hone hfin k1
                  go_wp2_with fail
                  go_roundw
                  case rel => exact ⟨i + 1, c, by omega, congrArg (Value.int .i64) Hw16.out, rfl, hc0, by omega, fun h => by omega, Hxb.out⟩
                  case measure => (rw [Hw16.out]; simp only [intOf, Int.toNat_natCast]; omega)
                · have hone := oneE_full (cap := c) (c := c) Ht.out (by rw [Hgr.out]; exact k1) (Int.le_refl _)
                  obtain ⟨hh, _⟩ | ⟨h1, h2, h3, h4⟩ := Hstep.out
                  · rw [hone] at hh; simp at hh
                  rw [hone] at h1
                  subst h3
                  have kk : ((7 : Int) == R.e) = true := by simp [h1]
                  have kg : decide (0 < gr) = true := by simpa using k1
                  clear h1 h2 h4 hone k1
                  go_wp2_with fail
                  go_roundw
                  case rel => exact ⟨i + 1, c + 1, by omega, congrArg (Value.int .i64) Hw16.out, rfl, by omega, by omega, fun h => by omega, Hxb.out⟩
                  case measure => (rw [Hw16.out]; simp only [intOf, Int.toNat_natCast]; omega)
                · have hone := oneE_room (cap := cp) (c := c) Ht.out (fun q => by omega)
                  have hgo2 := Hstep.out.resolve_right fun q => q.2.1 (q.1.symm.trans hone)
                  have hgo2 := hgo2.2
                  have q2' : nextC e.op c r = c + 1 := by unfold nextC; rw [Hgr.out, if_pos k1]
                  rw [q2'] at hgo2
                  have hlt5 := (judge_le hgo2).1
                  have kg : decide (0 < gr) = true := by simpa using k1
                  have kc : (c == cp) = false := by simp; omega
                  have hlt4 : decide ((i : Int) < (j : Int)) = true := by simp; omega
                  have hij3 : ((i : Int) == (j : Int)) = false := by simp; omega
                  have Hgo2 := Lib.hid hgo2
                  clear hone hgo2 q2' k1
                  go_wp2_with fail
                  go_roundw
                  case rel => exact ⟨i + 1, c + 1, by omega, congrArg (Value.int .i64) Hw16.out, rfl, by omega, by omega, fun _ => ⟨Hgo2.out, by omega⟩, Hxb.out⟩
                  case measure => (show j + 1 - (intOf (Value.int IntKind.i64 (wrap64 ((i : Int) + 1)))).toNat < j + 1 - (intOf (Value.int IntKind.i64 (i : Int))).toNat; rw [Hw16.out]; simp only [intOf, Int.toNat_natCast]; omega)
                · have hone := oneE_room (cap := cp) (c := c) Ht.out (fun q => k1 (by have := q.1; rw [Hgr.out] at this; exact this))
                  have hgo2 := Hstep.out.resolve_right fun q => q.2.1 (q.1.symm.trans hone)
                  have hgo2 := hgo2.2
                  have q2' : nextC e.op c r = c := by unfold nextC; rw [Hgr.out, if_neg k1]
                  rw [q2'] at hgo2
                  have hlt5 := (judge_le hgo2).1
                  have kg : decide (0 < gr) = false := by simpa using k1
                  have hlt4 : decide ((i : Int) < (j : Int)) = true := by simp; omega
                  have hij3 : ((i : Int) == (j : Int)) = false := by simp; omega
                  have Hgo2 := Lib.hid hgo2
                  clear hone hgo2 q2' k1
                  go_wp2_with fail
                  go_roundw
                  case rel => exact ⟨i + 1, c, by omega, congrArg (Value.int .i64) Hw16.out, rfl, hc0, by omega, fun _ => ⟨Hgo2.out, hcc⟩, Hxb.out⟩
                  case measure => (show j + 1 - (intOf (Value.int IntKind.i64 (wrap64 ((i : Int) + 1)))).toNat < j + 1 - (intOf (Value.int IntKind.i64 (i : Int))).toNat; rw [Hw16.out]; simp only [intOf, Int.toNat_natCast]; omega)
              · have hd3 : decide ((i : Int) ≤ (j : Int)) = false := by simp; omega
                have Hst5 := Lib.hid (Hst4.out.ext' hx2)
                clear hgo hx2
                go_wp2_with fail
                go_roundw
                case rel => exact ⟨k + 1, l2, by omega, by go_num, Hst5.out, Hlc2.out, hfc⟩
                case measure => simp [intOf]; omega
    · have hd : decide ((k : Int) < (ps.length : Int)) = false := by simp; omega
      go_wp2_with fail
      refine (awake28 _).mono ?_
      rintro x w6 ⟨rfl, hx6⟩
      have Hx6 := Lib.hid (Hst.out.ext.trans hx6)
      clear hx6
      go_wp2_with fail
      go_ret
      exact ⟨rfl, Hx6.out.below⟩
end modelLeast
end Go.Proofs.Ytjefpeppkphgbaa
