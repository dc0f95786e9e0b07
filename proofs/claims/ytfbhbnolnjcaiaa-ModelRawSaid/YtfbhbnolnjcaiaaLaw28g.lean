/-
  ModelRaw: Do of the model returns the specified response for arbitrary arguments.
  Conditions: none.
-/
import Derived.Test.YtfbhbnolnjcaiaaLaw28f
import Derived.Test.YtfbhbnolnjcaiaaRawNames
namespace Go.Proofs.Ytfbhbnolnjcaiaa
open Go.RowKit Go.Sort Go.Shelf
set_option maxHeartbeats 8000000
set_option maxRecDepth 100000

/-- The model and its reference, side by side. -/
structure Two (w wr : World) (b m yb : Nat) (cl cp : Int) (lx ly : List Kp) : Prop where
  x : ModAt wr b m cl cp lx
  y : RModAt wr (fun k => yb < k) yb cl cp ly
  e : Ext w wr
  hw : w.heap.size ≤ m
  hm : m < yb
  hb : b < yb
theorem Two.ext {w wr w2 : World} {b m yb : Nat} {cl cp : Int} {lx ly : List Kp} (h : Two w wr b m yb cl cp lx ly) (x : Ext wr w2) : Two w w2 b m yb cl cp lx ly :=
  ⟨h.x.ext x, h.y.ext x, h.e.trans x, h.hw, h.hm, h.hb⟩
theorem Two.stepX {w wr w2 : World} {b m yb : Nat} {cl cp : Int} {lx lx' ly : List Kp} (h : Two w wr b m yb cl cp lx ly) (hm : ModAt w2 b m cl cp lx') (c : Chg (· = m) wr w2) : Two w w2 b m yb cl cp lx' ly :=
  ⟨hm, h.y.chg c (fun e => by have := h.hm; omega) (fun k hk e => by have := h.hm; omega), h.e.chg_new c (fun i hi => by have := h.hw; omega), h.hw, h.hm, h.hb⟩
theorem Two.stepY {w wr w2 : World} {b m yb : Nat} {cl cp : Int} {lx ly ly' : List Kp} (h : Two w wr b m yb cl cp lx ly) (hy : RModAt w2 (fun k => yb < k) yb cl cp ly') (c : Chg (· = yb) wr w2) : Two w w2 b m yb cl cp lx ly' :=
  ⟨h.x.chg c (by have := h.hb; omega) (by have := h.hm; omega), hy, h.e.chg_new c (fun i hi => by have := h.hw; have := h.hm; omega), h.hw, h.hm, h.hb⟩
namespace modelRaw
theorem walk (a : Option Addr) (len cap : Nat) (zs : List Int) (client op ttl : Int) (a4 : Option Addr) (len4 cap4 : Nat) (ns4 : List Nm) (now : Int) (w : World) (hr : IsRow .i64 w a len cap zs) (_ : I64 client) (_ : I64 op) (_ : I64 ttl) (hn : NmsAt w (fun _ => True) (.slice a4 len4 cap4) ns4) (hks : ∀ n ∈ ns4, n.k.size ≤ maxLen) (_ : I64 now) :
    Calls Try.prog 4 #[.slice a len cap, .int .i64 client, .int .i64 op, .int .i64 ttl, .slice a4 len4 cap4, .int .i64 now] w fun e w' => e = .returned (.bool true) ∧ Below w.heap.size w w' := by
  have Hr := Lib.hid hr
  have hn0 : NmsAt w (fun k => k < w.heap.size) (.slice a4 len4 cap4) ns4 := Rd.mono hn fun k _ hlt => hlt
  have HN0 := Lib.hid hn0
  have Hks := Lib.hid hks
  clear hr hn hn0 hks
  go_enter Try.func4, Try.ntmps4
  go_wp2_with fail
  have hfc : (w.alloc (.cells #[.int .i64 3, .int .i64 4] 37)).cell? ⟨w.heap.size, 1, none⟩ = some (.int .i64 4) := by go_simp
  have hgc : (w.alloc (.cells #[.int .i64 3, .int .i64 4] 37)).cell? ⟨w.heap.size, 0, none⟩ = some (.int .i64 3) := by go_simp
  have hfs : w.heap.size < (w.alloc (.cells #[.int .i64 3, .int .i64 4] 37)).heap.size := by simp
  have hc0 : confE 3 4 = 0 := confE_ok (by omega) (by omega) (by omega) (by omega)
  refine (mnew_good hc0 _).mono ?_
  rintro x w2 ⟨b, m, rfl, hm, hb, hmm, hx2⟩
  replace hfc := (hx2.cell (p := ⟨w.heap.size, 1, none⟩) hfs).trans hfc
  replace hgc := (hx2.cell (p := ⟨w.heap.size, 0, none⟩) hfs).trans hgc
  have Hx2 := Lib.hid (((Ext.refl w).alloc (.cells #[.int .i64 3, .int .i64 4] 37)).trans hx2)
  have hmw : w.heap.size ≤ m := by simp at hmm; omega
  have Hm := Lib.hid hm
  have hbw : b < w2.heap.size := Hm.out.lt
  have hmw2 : m < w2.heap.size := Hm.out.map.lt
  clear hx2 hm hb hmm hfs
  go_wp2_with fail
  refine (rnewM_any 3 4 _).mono ?_
  rintro x w3 (⟨hc3, _, _⟩ | ⟨_, yb, rfl, hym, hyb, hx3⟩)
  · rw [hc0] at hc3; simp at hc3
  have hy0 := hym.low (T := fun k => yb < k) (fun k hk => hk.elim) (by omega)
  have Hy0 := Lib.hid hy0
  have Hm3 := Lib.hid (Hm.out.ext hx3)
  have Hx3 := Lib.hid (Hx2.out.trans hx3)
  have hyl : yb < w3.heap.size := hym.lt
  have hb3 : b < yb := by omega
  have hm3 : m < yb := by omega
  clear hx3 hym hy0 hfc hgc Hm Hx2
  go_wp2_with fail
  refine (calls_any _ _ _ _ (RowIn.of_row (Hr.out.ext Hx3.out))).mono ?_
  rintro x w4 ⟨va, ps, rfl, hp30, hst⟩
  have hmst := mst_start Hm3.out Hx3.out hmw hst
  have hnum : ∀ p ∈ ps, CalOk p.1 := hst.sm
  have Hy4 := Lib.hid (Hy0.out.ext hst.ext)
  obtain ⟨A, C, rfl⟩ := hmst.ents.shape
  obtain ⟨B, hB⟩ : ∃ B, w3.heap.size = B := ⟨_, rfl⟩
  rw [hB] at hmst hyl
  have Hmst := Lib.hid hmst
  have Hnum := Lib.hid hnum
  clear hst hmst hnum hB Hm3 Hx3 Hy0
  go_wp2_with fail
  go_loopw [51] (fun o wr => ∃ (k : Nat) (l : List Kp), k ≤ ps.length ∧ o = .int .i64 (k : Int) ∧ MSt w wr B b m 3 4 (.slice A ps.length C) ps l k ∧ RModAt wr (fun k => yb < k) yb 3 4 l) (fun o _ => ps.length - (intOf o).toNat)
  case atStart => exact ⟨0, [], by omega, rfl, Hmst.out, Hy4.out⟩
  case round =>
    clear Hmst Hy4
    obtain ⟨k, l, hk, rfl, hst, hy⟩ := hrel
    have Hst := Lib.hid hst
    have Hy := Lib.hid hy
    clear hst hy
    by_cases hlt : k < ps.length
    · have hd : decide ((k : Int) < (ps.length : Int)) = true := by simpa using hlt
      obtain ⟨g, o, c', hv, p1, p2, _, b1, hcell⟩ := Hst.out.ents.get (j := k) hlt
      simp only [Value.slice.injEq, true_and] at hv
      obtain ⟨rfl, rfl⟩ := hv
      obtain ⟨⟨e, u⟩, hae⟩ : ∃ a, ps[k]? = some a := ⟨ps[k], by simp [hlt]⟩
      obtain ⟨x1, x2, x3, x4, x5, xn⟩ := hcell _ hae
      simp only at x1 x2 x3 x4 x5 xn
      obtain ⟨A2, c2, rfl⟩ := xn.shape
      have hok := Hnum.out _ (List.mem_of_getElem? hae)
      have i0 : (0 : Int) ≤ (k : Int) := by omega
      have i1 : (k : Int) < (ps.length : Int) := by omega
      obtain ⟨nn, hnn⟩ : ∃ n, e.names.length = n := ⟨_, rfl⟩
      have hl4 := hok.len
      rw [hnn] at x5 hl4
      have Hok := Lib.hid hok
      have Hnn := Lib.hid hnn
      have hxn : NmsAt wr (fun i => B ≤ i) (.slice A2 nn c2) e.names := by rw [← hnn]; exact xn
      have Hxn := Lib.hid hxn
      have hfew := Hst.out.few
      clear hcell hae xn hok hnn hxn
      go_upto_region 10 with fail
      have kc0 : (wr.alloc (.cells #[.int .i64 e.cl, .int .i64 e.op, .int .i64 e.ttl, .int .i64 e.tick, .slice A2 nn c2] 49)).cell? ⟨wr.heap.size, 0, none⟩ = some (.int .i64 e.cl) := by go_simp
      have kc1 : (wr.alloc (.cells #[.int .i64 e.cl, .int .i64 e.op, .int .i64 e.ttl, .int .i64 e.tick, .slice A2 nn c2] 49)).cell? ⟨wr.heap.size, 1, none⟩ = some (.int .i64 e.op) := by go_simp
      have kc2 : (wr.alloc (.cells #[.int .i64 e.cl, .int .i64 e.op, .int .i64 e.ttl, .int .i64 e.tick, .slice A2 nn c2] 49)).cell? ⟨wr.heap.size, 2, none⟩ = some (.int .i64 e.ttl) := by go_simp
      have kc3 : (wr.alloc (.cells #[.int .i64 e.cl, .int .i64 e.op, .int .i64 e.ttl, .int .i64 e.tick, .slice A2 nn c2] 49)).cell? ⟨wr.heap.size, 3, none⟩ = some (.int .i64 e.tick) := by go_simp
      have kc4 : (wr.alloc (.cells #[.int .i64 e.cl, .int .i64 e.op, .int .i64 e.ttl, .int .i64 e.tick, .slice A2 nn c2] 49)).cell? ⟨wr.heap.size, 4, none⟩ = some (.slice A2 nn c2) := by go_simp
      have hxW : Ext wr (wr.alloc (.cells #[.int .i64 e.cl, .int .i64 e.op, .int .i64 e.ttl, .int .i64 e.tick, .slice A2 nn c2] 49)) := (Ext.refl wr).alloc _
      obtain ⟨cb, hcb⟩ : ∃ c, wr.heap.size = c := ⟨_, rfl⟩
      have hcl : wr.heap.size < (wr.alloc (.cells #[.int .i64 e.cl, .int .i64 e.op, .int .i64 e.ttl, .int .i64 e.tick, .slice A2 nn c2] 49)).heap.size := by simp
      obtain ⟨W1, hW1⟩ : ∃ W, wr.alloc (.cells #[.int .i64 e.cl, .int .i64 e.op, .int .i64 e.ttl, .int .i64 e.tick, .slice A2 nn c2] 49) = W := ⟨_, rfl⟩
      rw [hW1] at kc0 kc1 kc2 kc3 kc4 hxW hcl
      rw [hW1]
      rw [hcb] at kc0 kc1 kc2 kc3 kc4 hcl
      rw [hcb]
      have Hst1 := Lib.hid (Hst.out.ext' hxW)
      have Hxn1 := Lib.hid (Rd.ext Hxn.out hxW)
      have Hy1 := Lib.hid (Hy.out.ext hxW)
      have hcw : B ≤ cb := by rw [← hcb]; exact Hst.out.big
      clear hW1 hcb hxW x1 x2 x3 x4 x5 Hst Hxn b1 Hy
      go_wp2_with fail
      refine (mdo_any b m 3 4 e.cl e.op e.ttl e.tick l (.slice A2 nn c2) e.names _ Hst1.out.mod (by omega) (small_keys Hok.out.names) (S := fun i => B ≤ i) Hxn1.out (by have := Hst1.out.hm; omega)).mono ?_
      rintro x wd ⟨rfl, hmd, hcd⟩
      replace kc0 := (hcd.cell (p := ⟨cb, 0, none⟩) hcl (by simp only; omega)).trans kc0
      replace kc1 := (hcd.cell (p := ⟨cb, 1, none⟩) hcl (by simp only; omega)).trans kc1
      replace kc2 := (hcd.cell (p := ⟨cb, 2, none⟩) hcl (by simp only; omega)).trans kc2
      replace kc3 := (hcd.cell (p := ⟨cb, 3, none⟩) hcl (by simp only; omega)).trans kc3
      replace kc4 := (hcd.cell (p := ⟨cb, 4, none⟩) hcl (by simp only; omega)).trans kc4
      replace hcl := Nat.lt_of_lt_of_le hcl hcd.size
      have Hst2 := Lib.hid (Hst1.out.turn hmd hcd)
      have Hxn2 := Lib.hid (Rd.chg Hxn1.out hcd fun i hi e => by omega)
      have Hy2 := Lib.hid (Hy1.out.chg hcd (fun e => by omega) (fun i hi e => by omega))
      clear hmd hcd Hst1 Hxn1 Hy1
      go_wp2_with fail
      refine (rmdo_any (S := fun i => B ≤ i) yb 3 4 e.cl e.op e.ttl e.tick l (.slice A2 nn c2) e.names _ Hy2.out (by omega) Hxn2.out (by omega)).mono ?_
      rintro x we ⟨rfl, hyd, hce⟩
      have Hst3 := Lib.hid (Hst2.out.beside hce hm3 hb3 hyl)
      have Hy3 := Lib.hid hyd
      clear hyd hce Hst2 Hxn2 Hy2 kc0 kc1 kc2 kc3 kc4 hcl
      go_wp2_with fail
      go_roundw
      case rel => exact ⟨k + 1, _, by omega, by go_num, Hst3.out, Hy3.out⟩
      case measure => simp [intOf]; omega
    · have hd : decide ((k : Int) < (ps.length : Int)) = false := by simp; omega
      have hfew := Hst.out.few
      have HT := Lib.hid (show Two w wr b m yb 3 4 l l from ⟨Hst.out.mod, Hy.out, Hst.out.ext, Hst.out.hw, hm3, hb3⟩)
      clear Hst Hy
      go_wp2_with fail
      refine (names_any _ _ _ _ (RowIn.of_row (Hr.out.ext HT.out.e))).mono ?_
      rintro x w8 ⟨u, ns, rfl, hsmall, hl4, hnm, hx8⟩
      obtain ⟨A5, C5, rfl⟩ := hnm.shape
      have hwy := HT.out.y.lt
      have Hsm := Lib.hid (small_keys hsmall)
      have HNs := Lib.hid (show NmsAt w8 (fun k => yb < k) (.slice A5 ns.length C5) ns from Rd.mono hnm fun k hk _ => by omega)
      replace HT := Lib.hid (HT.out.ext hx8)
      have HN := Lib.hid (HN0.out.ext HT.out.e)
      clear hx8 hnm hsmall hwy
      go_wp2_with fail
      refine (mdo_any b m 3 4 client op ttl now l _ ns4 _ HT.out.x (by omega) Hks.out (S := fun k => k < w.heap.size) HN.out (by omega)).mono ?_
      rintro x wd ⟨rfl, hmd, hcd⟩
      have hlen2 := doL_len (cl := 3) (cap := 4) (client := client) (op := op) (ttl := ttl) (now := now) (l := l) (ns := ns4)
      replace HN := Lib.hid (Rd.chg HN.out hcd fun i hi e => by omega)
      replace HNs := Lib.hid (Rd.chg HNs.out hcd fun i hi e => by omega)
      replace HT := Lib.hid (HT.out.stepX hmd hcd)
      obtain ⟨R, hR⟩ : ∃ R, doR 3 4 l client op ttl now ns4 = R := ⟨_, rfl⟩
      obtain ⟨l2, hl2⟩ : ∃ l2, doL 3 4 l client op ttl now ns4 = l2 := ⟨_, rfl⟩
      rw [hl2] at HT hlen2
      rw [hR]
      unfold respV
      clear hmd hcd
      go_upto_region 15 with fail
      have hra := resp_new wd R
      have hxW : Ext wd (wd.alloc (.cells #[.int .i64 R.e, .int .i64 R.at_, .string R.nm, .int .i64 R.rc.st, .int .i64 R.rc.ow, .string R.rc.nm, .int .i64 R.rc.dl, .int .i64 R.tick] 28)) := (Ext.refl wd).alloc _
      obtain ⟨b1, hbx⟩ : ∃ t, wd.heap.size = t := ⟨_, rfl⟩
      obtain ⟨W1, hW⟩ : ∃ W, wd.alloc (.cells #[.int .i64 R.e, .int .i64 R.at_, .string R.nm, .int .i64 R.rc.st, .int .i64 R.rc.ow, .string R.rc.nm, .int .i64 R.rc.dl, .int .i64 R.tick] 28) = W := ⟨_, rfl⟩
      rw [hW] at hra hxW
      rw [hW]
      rw [hbx] at hra
      rw [hbx]
      have Hb1 := Lib.hid hra
      have hnb1 : yb < b1 := by have := HT.out.y.lt; omega
      replace HT := Lib.hid (HT.out.ext hxW)
      replace HN := Lib.hid (Rd.ext HN.out hxW)
      replace HNs := Lib.hid (Rd.ext HNs.out hxW)
      clear hra hxW hW hbx
      go_wp2_with fail
      refine (rmdo_any (S := fun k => k < w.heap.size) yb 3 4 client op ttl now l _ ns4 _ HT.out.y (by omega) HN.out (by omega)).mono ?_
      rintro x wd ⟨rfl, hmd, hcd⟩
      rw [hl2] at hmd
      rw [hR]
      unfold respV
      replace HNs := Lib.hid (Rd.chg HNs.out hcd fun i hi e => by omega)
      replace Hb1 := Lib.hid (Hb1.out.chg hcd (by omega))
      replace HT := Lib.hid (HT.out.stepY hmd hcd)
      clear hmd hcd hR hl2 HN
      go_upto_region 16 with fail
      have hra := resp_new wd R
      have hxW : Ext wd (wd.alloc (.cells #[.int .i64 R.e, .int .i64 R.at_, .string R.nm, .int .i64 R.rc.st, .int .i64 R.rc.ow, .string R.rc.nm, .int .i64 R.rc.dl, .int .i64 R.tick] 28)) := (Ext.refl wd).alloc _
      obtain ⟨b2, hbx⟩ : ∃ t, wd.heap.size = t := ⟨_, rfl⟩
      obtain ⟨W2, hW⟩ : ∃ W, wd.alloc (.cells #[.int .i64 R.e, .int .i64 R.at_, .string R.nm, .int .i64 R.rc.st, .int .i64 R.rc.ow, .string R.rc.nm, .int .i64 R.rc.dl, .int .i64 R.tick] 28) = W := ⟨_, rfl⟩
      rw [hW] at hra hxW
      rw [hW]
      rw [hbx] at hra
      rw [hbx]
      have Hb2 := Lib.hid hra
      have hnb2 : yb < b2 := by have := HT.out.y.lt; omega
      replace HT := Lib.hid (HT.out.ext hxW)
      replace Hb1 := Lib.hid (Hb1.out.chg (hxW.chg fun _ => False) (fun h => h))
      replace HNs := Lib.hid (Rd.ext HNs.out hxW)
      clear hra hxW hW hbx
      go_wp2_with ((go_at_call 7; refine (pick_any _ _ (by omega) (by omega) _).mono ?_; rintro e w' ⟨rfl, rfl⟩))
      refine (mdo_any b m 3 4 (pickI client 3) (pickI op 9) (pickI ttl 3) (pickI now 99) l2 _ ns _ HT.out.x (by omega) Hsm.out (S := fun k => yb < k) HNs.out (by omega)).mono ?_
      rintro x wd ⟨rfl, hmd, hcd⟩
      have hlen3 := doL_len (cl := 3) (cap := 4) (client := pickI client 3) (op := pickI op 9) (ttl := pickI ttl 3) (now := pickI now 99) (l := l2) (ns := ns)
      replace HNs := Lib.hid (Rd.chg HNs.out hcd fun i hi e => by omega)
      replace Hb1 := Lib.hid (Hb1.out.chg hcd (by omega))
      replace Hb2 := Lib.hid (Hb2.out.chg hcd (by omega))
      replace HT := Lib.hid (HT.out.stepX hmd hcd)
      obtain ⟨Q, hQ⟩ : ∃ Q, doR 3 4 l2 (pickI client 3) (pickI op 9) (pickI ttl 3) (pickI now 99) ns = Q := ⟨_, rfl⟩
      obtain ⟨l3, hl3⟩ : ∃ l3, doL 3 4 l2 (pickI client 3) (pickI op 9) (pickI ttl 3) (pickI now 99) ns = l3 := ⟨_, rfl⟩
      rw [hl3] at HT hlen3
      rw [hQ]
      unfold respV
      clear hmd hcd
      go_upto_region 17 with fail
      have hra := resp_new wd Q
      have hxW : Ext wd (wd.alloc (.cells #[.int .i64 Q.e, .int .i64 Q.at_, .string Q.nm, .int .i64 Q.rc.st, .int .i64 Q.rc.ow, .string Q.rc.nm, .int .i64 Q.rc.dl, .int .i64 Q.tick] 28)) := (Ext.refl wd).alloc _
      obtain ⟨b3, hbx⟩ : ∃ t, wd.heap.size = t := ⟨_, rfl⟩
      obtain ⟨W3, hW⟩ : ∃ W, wd.alloc (.cells #[.int .i64 Q.e, .int .i64 Q.at_, .string Q.nm, .int .i64 Q.rc.st, .int .i64 Q.rc.ow, .string Q.rc.nm, .int .i64 Q.rc.dl, .int .i64 Q.tick] 28) = W := ⟨_, rfl⟩
      rw [hW] at hra hxW
      rw [hW]
      rw [hbx] at hra
      rw [hbx]
      have Hb3 := Lib.hid hra
      have hnb3 : yb < b3 := by have := HT.out.y.lt; omega
      replace HT := Lib.hid (HT.out.ext hxW)
      replace Hb1 := Lib.hid (Hb1.out.chg (hxW.chg fun _ => False) (fun h => h))
      replace Hb2 := Lib.hid (Hb2.out.chg (hxW.chg fun _ => False) (fun h => h))
      replace HNs := Lib.hid (Rd.ext HNs.out hxW)
      clear hra hxW hW hbx
      go_wp2_with ((go_at_call 7; refine (pick_any _ _ (by omega) (by omega) _).mono ?_; rintro e w' ⟨rfl, rfl⟩))
      refine (rmdo_any (S := fun k => yb < k) yb 3 4 (pickI client 3) (pickI op 9) (pickI ttl 3) (pickI now 99) l2 _ ns _ HT.out.y (by omega) HNs.out (by omega)).mono ?_
      rintro x wd ⟨rfl, hmd, hcd⟩
      rw [hl3] at hmd
      rw [hQ]
      unfold respV
      replace Hb1 := Lib.hid (Hb1.out.chg hcd (by omega))
      replace Hb2 := Lib.hid (Hb2.out.chg hcd (by omega))
      replace Hb3 := Lib.hid (Hb3.out.chg hcd (by omega))
      replace HT := Lib.hid (HT.out.stepY hmd hcd)
      clear hmd hcd hQ hl3 HNs
      go_upto_region 18 with fail
      have hra := resp_new wd Q
      have hxW : Ext wd (wd.alloc (.cells #[.int .i64 Q.e, .int .i64 Q.at_, .string Q.nm, .int .i64 Q.rc.st, .int .i64 Q.rc.ow, .string Q.rc.nm, .int .i64 Q.rc.dl, .int .i64 Q.tick] 28)) := (Ext.refl wd).alloc _
      obtain ⟨b4, hbx⟩ : ∃ t, wd.heap.size = t := ⟨_, rfl⟩
      obtain ⟨W4, hW⟩ : ∃ W, wd.alloc (.cells #[.int .i64 Q.e, .int .i64 Q.at_, .string Q.nm, .int .i64 Q.rc.st, .int .i64 Q.rc.ow, .string Q.rc.nm, .int .i64 Q.rc.dl, .int .i64 Q.tick] 28) = W := ⟨_, rfl⟩
      rw [hW] at hra hxW
      rw [hW]
      rw [hbx] at hra
      rw [hbx]
      have Hb4 := Lib.hid hra
      have hnb4 : yb < b4 := by have := HT.out.y.lt; omega
      replace HT := Lib.hid (HT.out.ext hxW)
      replace Hb1 := Lib.hid (Hb1.out.chg (hxW.chg fun _ => False) (fun h => h))
      replace Hb2 := Lib.hid (Hb2.out.chg (hxW.chg fun _ => False) (fun h => h))
      replace Hb3 := Lib.hid (Hb3.out.chg (hxW.chg fun _ => False) (fun h => h))
      clear hra hxW hW hbx
      go_wp2_with fail
      refine (awake28 _).mono ?_
      rintro x w6 ⟨rfl, hx6⟩
      replace HT := Lib.hid (HT.out.ext hx6)
      have r1 := Hb1.out.chg (hx6.chg fun _ => False) (fun h => h)
      have r2 := Hb2.out.chg (hx6.chg fun _ => False) (fun h => h)
      have r3 := Hb3.out.chg (hx6.chg fun _ => False) (fun h => h)
      have r4 := Hb4.out.chg (hx6.chg fun _ => False) (fun h => h)
      obtain ⟨p0, p1, p2, p3, p4, p5, p6, p7, _⟩ := r1
      obtain ⟨q0, q1, q2, q3, q4, q5, q6, q7, _⟩ := r2
      obtain ⟨s0, s1, s2, s3, s4, s5, s6, s7, _⟩ := r3
      obtain ⟨t0, t1, t2, t3, t4, t5, t6, t7, _⟩ := r4
      clear hx6 Hb1 Hb2 Hb3 Hb4
      go_wp2_with fail
      clear p0 p1 p2 p3 p4 p5 p6 p7 q0 q1 q2 q3 q4 q5 q6 q7 s0 s1 s2 s3 s4 s5 s6 s7 t0 t1 t2 t3 t4 t5 t6 t7
      refine (mkeys_any b m 3 4 l3 _ HT.out.x (by omega)).mono ?_
      rintro x w7 ⟨v7, rfl, ho7, hx7⟩
      have HT7 := Lib.hid (HT.out.ext hx7)
      have hr7 := Rd.of_own ho7 fun k hk => (ho7.lt k hk).1
      have Hr7 := Lib.hid hr7
      clear hx7 HT ho7 hr7
      go_wp2_with fail
      refine (rmkeys_any _ yb 3 4 l3 _ HT7.out.y (by omega)).mono ?_
      rintro x w8 ⟨v8, rfl, ho8, hx8⟩
      have Hx8 := Lib.hid (HT7.out.e.trans hx8)
      have Hr7' := Lib.hid (Rd.ext Hr7.out hx8)
      have hr8 := Rd.of_own ho8 fun k hk => (ho8.lt k hk).1
      have Hr8 := Lib.hid hr8
      clear hx8 HT7 Hr7 ho8 hr8
      go_wp2_with fail
      refine (same_str v7 v8 _ (keysL l3) _ _ _ Hr7'.out Hr8.out).mono ?_
      rintro x w9 ⟨rfl, hx9⟩
      have Hx9 := Lib.hid (Hx8.out.trans hx9)
      clear hx9 Hx8
      go_wp2_with fail
      go_ret
      exact ⟨rfl, Hx9.out.below⟩
end modelRaw
end Go.Proofs.Ytfbhbnolnjcaiaa
