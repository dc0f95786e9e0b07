/-
  ModelBounded: all records are valid, there are at most Capacity records, and Keys lists exactly the keys that have one.
  Conditions: none.
-/
import Derived.Test.YtjefpeppkphgbaaMSt
import Derived.Test.YtjefpeppkphgbaaDoGood
import Derived.Test.YtjefpeppkphgbaaMKeys
import Derived.Test.YtjefpeppkphgbaaCheck
namespace Go.Proofs.Ytjefpeppkphgbaa
open Go.RowKit Go.Sort
set_option maxHeartbeats 4000000
set_option maxRecDepth 100000

namespace modelBounded
theorem walk (a : Option Addr) (len cap : Nat) (zs : List Int) (a2 : Option Addr) (len2 cap2 : Nat) (zs2 : List Int) (w : World) (hr : IsRow .i64 w a len cap zs) (hr2 : IsRow .i64 w a2 len2 cap2 zs2) :
    Calls Try.prog 15 #[.slice a len cap, .slice a2 len2 cap2] w fun e w' => e = .returned (.bool true) ∧ Below w.heap.size w w' := by
  have Hr := Lib.hid hr
  have Hr2 := Lib.hid hr2
  clear hr hr2
  go_enter Try.func15, Try.ntmps15
  go_wp2_with fail
  refine (conf_any _ _ _ _ (RowIn.of_row Hr2.out)).mono ?_
  rintro x w1 ⟨cl, cp, q1, q2, q3, q4, rfl, hx1⟩
  have Hx1 := Lib.hid hx1
  clear hx1 Hr2
  go_wp2_with fail
  have hf : (w1.alloc (.cells #[.int .i64 cl, .int .i64 cp] 48)).cell? ⟨w1.heap.size, 1, none⟩ = some (.int .i64 cp) := by go_simp
  have hg : (w1.alloc (.cells #[.int .i64 cl, .int .i64 cp] 48)).cell? ⟨w1.heap.size, 0, none⟩ = some (.int .i64 cl) := by go_simp
  have Hg := Lib.hid hg
  have hfs : w1.heap.size < (w1.alloc (.cells #[.int .i64 cl, .int .i64 cp] 48)).heap.size := by simp
  have Hf := Lib.hid hf
  have Hfs := Lib.hid hfs
  clear hf hg hfs
  refine (mnew_good (confE_ok q1 q2 q3 q4) _).mono ?_
  rintro x w2 ⟨b, m, rfl, hm, hb, hmm, hx2⟩
  have Hx2 := Lib.hid ((Hx1.out.alloc _).trans hx2)
  have hmw : w.heap.size ≤ m := by have := Hx1.out.size; simp at hmm; omega
  have Hm := Lib.hid hm
  have hfc := (hx2.cell (p := ⟨w1.heap.size, 1, none⟩) Hfs.out).trans Hf.out
  have hgc := (hx2.cell (p := ⟨w1.heap.size, 0, none⟩) Hfs.out).trans Hg.out
  have hfm : ¬ w1.heap.size = m := by simp at hmm; omega
  have hf2 : w1.heap.size < w2.heap.size := Nat.lt_of_lt_of_le Hfs.out hx2.size
  obtain ⟨fb, hfb⟩ : ∃ f, w1.heap.size = f := ⟨_, rfl⟩
  rw [hfb] at hfc hgc hfm hf2
  have Hfb := Lib.hid hfb
  clear hx2 hm hb hmm Hx1 Hf Hg Hfs hfb
  go_wp2_with fail
  refine (calls_any _ _ _ _ (RowIn.of_row (Hr.out.ext Hx2.out))).mono ?_
  rintro x w3 ⟨va, ps, rfl, hp30, hst⟩
  have hmst := mst_start Hm.out Hx2.out hmw hst
  replace hfc := (hst.ext.cell (p := ⟨fb, 1, none⟩) hf2).trans hfc
  replace hgc := (hst.ext.cell (p := ⟨fb, 0, none⟩) hf2).trans hgc
  have hnum : ∀ p ∈ ps, CalOk p.1 := hst.sm
  obtain ⟨A, C, rfl⟩ := hmst.ents.shape
  obtain ⟨B, hB⟩ : ∃ B, w2.heap.size = B := ⟨_, rfl⟩
  rw [hB] at hmst hf2
  have Hmst := Lib.hid hmst
  have Hnum := Lib.hid hnum
  clear hst hmst hnum hB Hm Hr Hx2
  rw [Hfb.out]
  go_wp2_with fail
  go_loopw [32] (fun o wr => ∃ (k : Nat) (l : List Kp), k ≤ ps.length ∧ o = .int .i64 (k : Int) ∧ MSt w wr B b m cl cp (.slice A ps.length C) ps l k ∧ (Bounded cl cp l ∧ KeyS l) ∧ wr.cell? ⟨fb, 0, none⟩ = some (.int .i64 cl) ∧ wr.cell? ⟨fb, 1, none⟩ = some (.int .i64 cp)) (fun o _ => ps.length - (intOf o).toNat)
  case atStart => exact ⟨0, [], by omega, rfl, Hmst.out, ⟨Bounded.start (by omega), fun p hp => by simp at hp⟩, hgc, hfc⟩
  case round =>
    clear Hmst
    obtain ⟨k, l, hk, rfl, hst, hbd, hgc, hfc⟩ := hrel
    have Hbd := Lib.hid hbd
    clear hbd
    have Hst := Lib.hid hst
    clear hst
    by_cases hlt : k < ps.length
    · have hd : decide ((k : Int) < (ps.length : Int)) = true := by simpa using hlt
      obtain ⟨g, o, c', hv, p1, p2, _, b1, hcell⟩ := Hst.out.ents.get (j := k) hlt
      simp only [Value.slice.injEq, true_and] at hv
      obtain ⟨rfl, rfl⟩ := hv
      obtain ⟨⟨e, u⟩, hae⟩ : ∃ a, ps[k]? = some a := ⟨ps[k], by simp [hlt]⟩
      obtain ⟨x1, x2, x3, x4, x5, xn⟩ := hcell _ hae
      simp only at x1 x2 x3 x4 x5 xn
      obtain ⟨A2, c2, rfl⟩ := xn.shape
      have hok := Hnum.out _ (List.mem_of_getElem? hae)
      have i0 : (0 : Int) ≤ (k : Int) := by omega
      have i1 : (k : Int) < (ps.length : Int) := by omega
      obtain ⟨nn, hnn⟩ : ∃ n, e.names.length = n := ⟨_, rfl⟩
      have hl4 := hok.len
      rw [hnn] at x5 hl4
      have Hok := Lib.hid hok
      have Hnn := Lib.hid hnn
      have hxn : NmsAt wr (fun i => B ≤ i) (.slice A2 nn c2) e.names := by rw [← hnn]; exact xn
      have Hxn := Lib.hid hxn
      have hfew := Hst.out.few
      clear hcell hae xn hok hnn hxn
      go_upto_region 9 with fail
      have kc0 : (wr.alloc (.cells #[.int .i64 e.cl, .int .i64 e.op, .int .i64 e.ttl, .int .i64 e.tick, .slice A2 nn c2] 60)).cell? ⟨wr.heap.size, 0, none⟩ = some (.int .i64 e.cl) := by go_simp
      have kc1 : (wr.alloc (.cells #[.int .i64 e.cl, .int .i64 e.op, .int .i64 e.ttl, .int .i64 e.tick, .slice A2 nn c2] 60)).cell? ⟨wr.heap.size, 1, none⟩ = some (.int .i64 e.op) := by go_simp
      have kc2 : (wr.alloc (.cells #[.int .i64 e.cl, .int .i64 e.op, .int .i64 e.ttl, .int .i64 e.tick, .slice A2 nn c2] 60)).cell? ⟨wr.heap.size, 2, none⟩ = some (.int .i64 e.ttl) := by go_simp
      have kc3 : (wr.alloc (.cells #[.int .i64 e.cl, .int .i64 e.op, .int .i64 e.ttl, .int .i64 e.tick, .slice A2 nn c2] 60)).cell? ⟨wr.heap.size, 3, none⟩ = some (.int .i64 e.tick) := by go_simp
      have kc4 : (wr.alloc (.cells #[.int .i64 e.cl, .int .i64 e.op, .int .i64 e.ttl, .int .i64 e.tick, .slice A2 nn c2] 60)).cell? ⟨wr.heap.size, 4, none⟩ = some (.slice A2 nn c2) := by go_simp
      have hxW : Ext wr (wr.alloc (.cells #[.int .i64 e.cl, .int .i64 e.op, .int .i64 e.ttl, .int .i64 e.tick, .slice A2 nn c2] 60)) := (Ext.refl wr).alloc _
      obtain ⟨cb, hcb⟩ : ∃ c, wr.heap.size = c := ⟨_, rfl⟩
      have hcl : wr.heap.size < (wr.alloc (.cells #[.int .i64 e.cl, .int .i64 e.op, .int .i64 e.ttl, .int .i64 e.tick, .slice A2 nn c2] 60)).heap.size := by simp
      obtain ⟨W1, hW1⟩ : ∃ W, wr.alloc (.cells #[.int .i64 e.cl, .int .i64 e.op, .int .i64 e.ttl, .int .i64 e.tick, .slice A2 nn c2] 60) = W := ⟨_, rfl⟩
      rw [hW1] at kc0 kc1 kc2 kc3 kc4 hxW hcl
      rw [hW1]
      rw [hcb] at kc0 kc1 kc2 kc3 kc4 hcl
      rw [hcb]
      have Hst1 := Lib.hid (Hst.out.ext' hxW)
      have Hxn1 := Lib.hid (Rd.ext Hxn.out hxW)
      have hcw : B ≤ cb := by rw [← hcb]; exact Hst.out.big
      have hfW0 : fb < W1.heap.size := by have := Hst.out.big; have := hxW.size; omega
      replace hfc := (hxW.cell (p := ⟨fb, 1, none⟩) (by have := Hst.out.big; simp only; omega)).trans hfc
      replace hgc := (hxW.cell (p := ⟨fb, 0, none⟩) (by have := Hst.out.big; simp only; omega)).trans hgc
      clear hW1 hcb hxW x1 x2 x3 x4 x5 Hst Hxn b1
      go_wp2_with fail
      refine (mdo_any b m cl cp e.cl e.op e.ttl e.tick l (.slice A2 nn c2) e.names _ Hst1.out.mod (by omega) (small_keys Hok.out.names) (S := fun i => B ≤ i) Hxn1.out (by have := Hst1.out.hm; omega)).mono ?_
      rintro x wd ⟨rfl, hmd, hcd⟩
      obtain ⟨R, hR⟩ : ∃ R, doR cl cp l e.cl e.op e.ttl e.tick e.names = R := ⟨_, rfl⟩
      have hbd2 := And.intro (Hbd.out.1.turn (client := e.cl) (op := e.op) (ttl := e.ttl) (now := e.tick) (ns := e.names) (by omega)) (keyS_do (cl := cl) (cap := cp) (client := e.cl) (op := e.op) (ttl := e.ttl) (now := e.tick) Hbd.out.2 (small_keys Hok.out.names))
      have hst3 := Hst1.out.turn hmd hcd
      obtain ⟨l2, hl2⟩ : ∃ l2, doL cl cp l e.cl e.op e.ttl e.tick e.names = l2 := ⟨_, rfl⟩
      rw [hl2] at hst3 hbd2
      rw [hR]
      unfold respV
      replace hfc := (hcd.cell (p := ⟨fb, 1, none⟩) hfW0 hfm).trans hfc
      replace hgc := (hcd.cell (p := ⟨fb, 0, none⟩) hfW0 hfm).trans hgc
      have hfd := Nat.lt_of_lt_of_le hfW0 hcd.size
      have Hst3 := Lib.hid hst3
      have Hbd2 := Lib.hid hbd2
      have hfew2 := hst3.few
      have hcap2 := hbd2.1.cap
      clear hR hl2 hmd hcd hst3 hbd2 Hst1 Hxn1 kc0 kc1 kc2 kc3 kc4 hcl hfW0 Hbd
      go_wp2_with fail
      refine (mkeys_any b m cl cp l2 _ Hst3.out.mod (by omega)).mono ?_
      rintro x we ⟨kv, rfl, hko, hxe⟩
      obtain ⟨nk, hnk⟩ : ∃ n, l2.length = n := ⟨_, rfl⟩
      rw [keysL_len, hnk] at hko
      rw [hnk] at hfew2 hcap2
      obtain ⟨ka, kc, rfl⟩ := own_shape hko
      have Hnk := Lib.hid hnk
      have hrd := Rd.of_own hko fun k hk => (hko.lt k hk).1
      have Hrd := Lib.hid hrd
      have Hst4 := Lib.hid (Hst3.out.ext' hxe)
      replace hfc := (hxe.cell (p := ⟨fb, 1, none⟩) hfd).trans hfc
      replace hgc := (hxe.cell (p := ⟨fb, 0, none⟩) hfd).trans hgc
      have hfe := Nat.lt_of_lt_of_le hfd hxe.size
      have hdc : decide (cp < (nk : Int)) = false := by simp; omega
      clear hnk hko hrd hxe Hst3 hfd
      go_wp2_with fail
      refine (mlen_any b m cl cp l2 _ Hst4.out.mod).mono ?_
      rintro x w' ⟨rfl, rfl⟩
      rw [Hnk.out]
      go_wp2_with fail
      go_loopw [64] (fun o wr => ∃ i : Nat, i ≤ nk ∧ o = .int .i64 (i : Int) ∧ Ext we wr) (fun o _ => nk - (intOf o).toNat)
      case atStart => exact ⟨0, by omega, rfl, Ext.refl _⟩
      case round =>
        obtain ⟨i, hi, rfl, hx⟩ := hrel
        have Hx := Lib.hid hx
        replace hfc := (hx.cell (p := ⟨fb, 1, none⟩) hfe).trans hfc
        replace hgc := (hx.cell (p := ⟨fb, 0, none⟩) hfe).trans hgc
        replace hfe := Nat.lt_of_lt_of_le hfe hx.size
        clear hx
        by_cases hlt2 : i < nk
        · have hdi : decide ((i : Int) < (nk : Int)) = true := by simpa using hlt2
          obtain ⟨p, hp⟩ : ∃ p, l2[i]? = some p := ⟨l2[i]'(by have := Hnk.out; omega), by simp⟩
          have hk8 : p.1.size ≤ maxLen := Hbd2.out.2 p (List.mem_of_getElem? hp)
          obtain ⟨g3, o3, c3, hv, s1, s2, _, s4, hcl⟩ := Rd.at_ (Rd.ext Hrd.out Hx.out) hlt2
          simp only [Value.slice.injEq, true_and] at hv
          obtain ⟨rfl, rfl⟩ := hv
          have y0 := hcl i _ (show ((keysL l2).map encStr)[i]? = some (.string p.1) by simp [keysL, hp, enc_key, kb])
          have hgood := Hbd2.out.1.at hp
          obtain ⟨u1, u2, u3, u4⟩ := hgood
          have j0 : (0 : Int) ≤ (i : Int) := by omega
          have j1 : (i : Int) < (nk : Int) := by omega
          have e1 : (p.2.st == 0) = false := by simpa using u2
          have e2 : decide (cl ≤ p.2.ow) = false := by simp; omega
          have HM := Lib.hid (Hst4.out.mod.ext Hx.out)
          clear hcl s1
          go_wp2_with fail
          refine (mget_any b m cl cp l2 p.1 _ HM.out hk8).mono ?_
          rintro x w5 ⟨rfl, hx5⟩
          rw [u1]
          unfold rcV
          have Hx5 := Lib.hid (Hx.out.trans hx5)
          replace hgc := (hx5.cell (p := ⟨fb, 0, none⟩) hfe).trans hgc
          replace hfe := Nat.lt_of_lt_of_le hfe hx5.size
          clear hx5 y0 HM hfc
          go_upto_region 17 with fail
          have r0 : (w5.alloc (.cells #[.int .i64 p.2.st, .int .i64 p.2.ow, .string p.2.nm, .int .i64 p.2.dl] 65)).cell? ⟨w5.heap.size, 0, none⟩ = some (.int .i64 p.2.st) := by go_simp
          have r1 : (w5.alloc (.cells #[.int .i64 p.2.st, .int .i64 p.2.ow, .string p.2.nm, .int .i64 p.2.dl] 65)).cell? ⟨w5.heap.size, 1, none⟩ = some (.int .i64 p.2.ow) := by go_simp
          have r2 : (w5.alloc (.cells #[.int .i64 p.2.st, .int .i64 p.2.ow, .string p.2.nm, .int .i64 p.2.dl] 65)).cell? ⟨w5.heap.size, 2, none⟩ = some (.string p.2.nm) := by go_simp
          have r3 : (w5.alloc (.cells #[.int .i64 p.2.st, .int .i64 p.2.ow, .string p.2.nm, .int .i64 p.2.dl] 65)).cell? ⟨w5.heap.size, 3, none⟩ = some (.int .i64 p.2.dl) := by go_simp
          have hrl : w5.heap.size < (w5.alloc (.cells #[.int .i64 p.2.st, .int .i64 p.2.ow, .string p.2.nm, .int .i64 p.2.dl] 65)).heap.size := by simp
          have hxW : Ext w5 (w5.alloc (.cells #[.int .i64 p.2.st, .int .i64 p.2.ow, .string p.2.nm, .int .i64 p.2.dl] 65)) := (Ext.refl w5).alloc _
          obtain ⟨tb, htb⟩ : ∃ t, w5.heap.size = t := ⟨_, rfl⟩
          obtain ⟨W3, hW3⟩ : ∃ W, w5.alloc (.cells #[.int .i64 p.2.st, .int .i64 p.2.ow, .string p.2.nm, .int .i64 p.2.dl] 65) = W := ⟨_, rfl⟩
          rw [hW3] at r0 r1 r2 r3 hrl hxW
          rw [hW3]
          rw [htb] at r0 r1 r2 r3 hrl
          rw [htb]
          have Hx3 := Lib.hid (Hx5.out.trans hxW)
          replace hgc := (hxW.cell (p := ⟨fb, 0, none⟩) hfe).trans hgc
          replace hfe := Nat.lt_of_lt_of_le hfe hxW.size
          clear hxW hW3 htb Hx5 Hx
          by_cases hi0 : 0 < i
          · have hd0 : decide ((0 : Int) < (i : Int)) = true := by simp; omega
            obtain ⟨q, hq⟩ : ∃ q, l2[i - 1]? = some q := ⟨l2[i - 1]'(by have := Hnk.out; omega), by simp⟩
            have hlq : kb q.1 < kb p.1 := Hbd2.out.1.step hq (by rw [show i - 1 + 1 = i by omega]; exact hp)
            obtain ⟨g4, o4, c4, hv, _, _, _, _, hcl⟩ := Rd.at_ (Rd.ext Hrd.out Hx3.out) (show i - 1 < nk by omega)
            simp only [Value.slice.injEq, true_and] at hv
            obtain ⟨hv1, rfl⟩ := hv
            simp only [Option.some.injEq, Addr.mk.injEq, and_true] at hv1
            obtain ⟨rfl, rfl⟩ := hv1
            have y1 := hcl (i - 1) _ (show ((keysL l2).map encStr)[i - 1]? = some (.string q.1) by simp [keysL, hq, enc_key, kb])
            have hii : (i : Int) - 1 = ((i - 1 : Nat) : Int) := by omega
            have j2 : (0 : Int) ≤ ((i - 1 : Nat) : Int) := by omega
            have j3 : ((i - 1 : Nat) : Int) < (nk : Int) := by omega
            obtain ⟨g1, g2⟩ := less_of (x := p.1) (s := q.1) hlq
            clear hcl hq hlq
            go_wp2_with fail
            refine (rcheck_any _ _ _ _ _).mono ?_
            rintro x w7 ⟨rfl, hx7⟩
            rw [u3]
            replace r1 := (hx7.cell (p := ⟨tb, 1, none⟩) hrl).trans r1
            replace hgc := (hx7.cell (p := ⟨fb, 0, none⟩) hfe).trans hgc
            have Hx7 := Lib.hid (Hx3.out.trans hx7)
            clear hx7 r0 r2 r3
            go_wp2_with fail
            go_roundw
            case rel => exact ⟨i + 1, by omega, by go_num, Hx7.out⟩
            case measure => simp [intOf]; omega
          · have hd0 : decide ((0 : Int) < (i : Int)) = false := by simp; omega
            go_wp2_with fail
            refine (rcheck_any _ _ _ _ _).mono ?_
            rintro x w7 ⟨rfl, hx7⟩
            rw [u3]
            replace r1 := (hx7.cell (p := ⟨tb, 1, none⟩) hrl).trans r1
            replace hgc := (hx7.cell (p := ⟨fb, 0, none⟩) hfe).trans hgc
            have Hx7 := Lib.hid (Hx3.out.trans hx7)
            clear hx7 r0 r2 r3
            go_wp2_with fail
            go_roundw
            case rel => exact ⟨i + 1, by omega, by go_num, Hx7.out⟩
            case measure => simp [intOf]; omega
        · have hdi : decide ((i : Int) < (nk : Int)) = false := by simp; omega
          have Hst5 := Lib.hid (Hst4.out.ext' Hx.out)
          go_wp2_with fail
          go_roundw
          case rel => exact ⟨k + 1, l2, by omega, by go_num, Hst5.out, Hbd2.out, hgc, hfc⟩
          case measure => simp [intOf]; omega
    · have hd : decide ((k : Int) < (ps.length : Int)) = false := by simp; omega
      go_wp2_with fail
      refine (awake28 _).mono ?_
      rintro x w6 ⟨rfl, hx6⟩
      have Hx6 := Lib.hid (Hst.out.ext.trans hx6)
      clear hx6
      go_wp2_with fail
      go_ret
      exact ⟨rfl, Hx6.out.below⟩
end modelBounded
end Go.Proofs.Ytjefpeppkphgbaa
