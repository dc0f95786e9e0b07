/-
  ModelExclusive: a name that is held or confirmed is refused to all others.
  Conditions: none.
-/
import Derived.Test.YtjefpeppkphgbaaExLaw
namespace Go.Proofs.Ytjefpeppkphgbaa
open Go.RowKit Go.Sort
set_option maxHeartbeats 4000000
set_option maxRecDepth 100000

theorem ModAt.ascE {w : World} {b m : Nat} {cl cap : Int} {l : List Kp} (h : ModAt w b m cl cap l) : AscP l := by
  obtain ⟨D, _, h2⟩ := h.map
  exact h2.asc
theorem run_field_ow (a b d : Int) (c : ByteArray) (w : World) : (Instr.field 65 (.agg #[.int .i64 a, .int .i64 b, .string c, .int .i64 d]) 1).run Try.prog w = .ok (.int .i64 b) w := by
  kernel_rfl
namespace modelExclusive
theorem walk (a : Option Addr) (len cap : Nat) (zs : List Int) (a2 : Option Addr) (len2 cap2 : Nat) (zs2 : List Int) (ci co : Int) (w : World) (hr : IsRow .i64 w a len cap zs) (hr2 : IsRow .i64 w a2 len2 cap2 zs2) (_ : I64 ci) (_ : I64 co) :
    Calls Try.prog 11 #[.slice a len cap, .slice a2 len2 cap2, .int .i64 ci, .int .i64 co] w fun e w' => e = .returned (.bool true) ∧ Below w.heap.size w w' := by
  have Hr := Lib.hid hr
  have Hr2 := Lib.hid hr2
  clear hr hr2
  go_enter Try.func11, Try.ntmps11
  go_wp2_with fail
  refine (conf_any _ _ _ _ (RowIn.of_row Hr2.out)).mono ?_
  rintro x w1 ⟨cl, cp, q1, q2, q3, q4, rfl, hx1⟩
  have Hx1 := Lib.hid hx1
  clear hx1 Hr2
  go_wp2_with fail
  have hf : (w1.alloc (.cells #[.int .i64 cl, .int .i64 cp] 48)).cell? ⟨w1.heap.size, 1, none⟩ = some (.int .i64 cp) := by go_simp
  have hfs : w1.heap.size < (w1.alloc (.cells #[.int .i64 cl, .int .i64 cp] 48)).heap.size := by simp
  have hf0 : (w1.alloc (.cells #[.int .i64 cl, .int .i64 cp] 48)).cell? ⟨w1.heap.size, 0, none⟩ = some (.int .i64 cl) := by go_simp
  have Hf0 := Lib.hid hf0
  have Hf := Lib.hid hf
  have Hfs := Lib.hid hfs
  clear hf hfs hf0
  refine (mnew_good (confE_ok q1 q2 q3 q4) _).mono ?_
  rintro x w2 ⟨b, m, rfl, hm, hb, hmm, hx2⟩
  have Hx2 := Lib.hid ((Hx1.out.alloc _).trans hx2)
  have hmw : w.heap.size ≤ m := by have := Hx1.out.size; simp at hmm; omega
  have Hm := Lib.hid hm
  have hfc := (hx2.cell (p := ⟨w1.heap.size, 1, none⟩) Hfs.out).trans Hf.out
  have hfc0 := (hx2.cell (p := ⟨w1.heap.size, 0, none⟩) Hfs.out).trans Hf0.out
  have hfm : ¬ w1.heap.size = m := by simp at hmm; omega
  have hf2 : w1.heap.size < w2.heap.size := Nat.lt_of_lt_of_le Hfs.out hx2.size
  obtain ⟨fb, hfb⟩ : ∃ f, w1.heap.size = f := ⟨_, rfl⟩
  rw [hfb] at hfc hfc0 hfm hf2
  have Hfb := Lib.hid hfb
  clear hx2 hm hb hmm Hx1 Hf Hfs hfb Hf0
  go_wp2_with fail
  refine (calls_any _ _ _ _ (RowIn.of_row (Hr.out.ext Hx2.out))).mono ?_
  rintro x w3 ⟨va, ps, rfl, hp30, hst⟩
  have hmst := mst_start Hm.out Hx2.out hmw hst
  have hfc := (hst.ext.cell (p := ⟨fb, 1, none⟩) hf2).trans hfc
  have hfc0 := (hst.ext.cell (p := ⟨fb, 0, none⟩) hf2).trans hfc0
  have hnum : ∀ p ∈ ps, CalOk p.1 := hst.sm
  obtain ⟨A, C, rfl⟩ := hmst.ents.shape
  obtain ⟨B, hB⟩ : ∃ B, w2.heap.size = B := ⟨_, rfl⟩
  rw [hB] at hmst hf2
  have Hmst := Lib.hid hmst
  have Hnum := Lib.hid hnum
  clear hst hmst hnum hB Hm Hr Hx2
  rw [Hfb.out]
  go_wp2_with fail
  go_loopw [41, 13] (fun o t wr => ∃ (k : Nat) (l : List Kp) (la : Int), k ≤ ps.length ∧ o = .int .i64 (k : Int) ∧ t = .int .i64 la ∧ 0 ≤ la ∧ la ≤ 1000 ∧ MSt w wr B b m cl cp (.slice A ps.length C) ps l k ∧ (l.length : Int) ≤ cp ∧ getK l zN.k = default ∧ wr.cell? ⟨fb, 0, none⟩ = some (.int .i64 cl) ∧ wr.cell? ⟨fb, 1, none⟩ = some (.int .i64 cp)) (fun o _ _ => ps.length - (intOf o).toNat)
  case atStart => exact ⟨0, [], 0, by omega, rfl, rfl, by omega, by omega, Hmst.out, by simp; omega, rfl, hfc0, hfc⟩
  case round =>
    clear Hmst
    obtain ⟨k, l, la, hk, rfl, rfl, hla0, hla1, hst, hlc, hgz, hfc0, hfc⟩ := hrel
    have Hlc := Lib.hid hlc
    have Hgz := Lib.hid hgz
    clear hlc hgz
    have Hst := Lib.hid hst
    clear hst
    by_cases hlt : k < ps.length
    · have hd : decide ((k : Int) < (ps.length : Int)) = true := by simpa using hlt
      obtain ⟨g, o, c', hv, p1, p2, _, b1, hcell⟩ := Hst.out.ents.get (j := k) hlt
      simp only [Value.slice.injEq, true_and] at hv
      obtain ⟨rfl, rfl⟩ := hv
      obtain ⟨⟨e, u⟩, hae⟩ : ∃ a, ps[k]? = some a := ⟨ps[k], by simp [hlt]⟩
      obtain ⟨x1, x2, x3, x4, x5, xn⟩ := hcell _ hae
      simp only at x1 x2 x3 x4 x5 xn
      obtain ⟨A2, c2, rfl⟩ := xn.shape
      have hok := Hnum.out _ (List.mem_of_getElem? hae)
      have i0 : (0 : Int) ≤ (k : Int) := by omega
      have i1 : (k : Int) < (ps.length : Int) := by omega
      obtain ⟨nn, hnn⟩ : ∃ n, e.names.length = n := ⟨_, rfl⟩
      have hl4 := hok.len
      rw [hnn] at x5 hl4
      have Hok := Lib.hid hok
      have Hnn := Lib.hid hnn
      have hxn : NmsAt wr (fun i => B ≤ i) (.slice A2 nn c2) e.names := by rw [← hnn]; exact xn
      have Hxn := Lib.hid hxn
      have hfew := Hst.out.few
      clear hcell hae xn hok hnn hxn
      go_upto_region 10 with fail
      have kc0 : (wr.alloc (.cells #[.int .i64 e.cl, .int .i64 e.op, .int .i64 e.ttl, .int .i64 e.tick, .slice A2 nn c2] 60)).cell? ⟨wr.heap.size, 0, none⟩ = some (.int .i64 e.cl) := by go_simp
      have kc1 : (wr.alloc (.cells #[.int .i64 e.cl, .int .i64 e.op, .int .i64 e.ttl, .int .i64 e.tick, .slice A2 nn c2] 60)).cell? ⟨wr.heap.size, 1, none⟩ = some (.int .i64 e.op) := by go_simp
      have kc2 : (wr.alloc (.cells #[.int .i64 e.cl, .int .i64 e.op, .int .i64 e.ttl, .int .i64 e.tick, .slice A2 nn c2] 60)).cell? ⟨wr.heap.size, 2, none⟩ = some (.int .i64 e.ttl) := by go_simp
      have kc3 : (wr.alloc (.cells #[.int .i64 e.cl, .int .i64 e.op, .int .i64 e.ttl, .int .i64 e.tick, .slice A2 nn c2] 60)).cell? ⟨wr.heap.size, 3, none⟩ = some (.int .i64 e.tick) := by go_simp
      have kc4 : (wr.alloc (.cells #[.int .i64 e.cl, .int .i64 e.op, .int .i64 e.ttl, .int .i64 e.tick, .slice A2 nn c2] 60)).cell? ⟨wr.heap.size, 4, none⟩ = some (.slice A2 nn c2) := by go_simp
      have hxW : Ext wr (wr.alloc (.cells #[.int .i64 e.cl, .int .i64 e.op, .int .i64 e.ttl, .int .i64 e.tick, .slice A2 nn c2] 60)) := (Ext.refl wr).alloc _
      obtain ⟨cb, hcb⟩ : ∃ c, wr.heap.size = c := ⟨_, rfl⟩
      have hcl : wr.heap.size < (wr.alloc (.cells #[.int .i64 e.cl, .int .i64 e.op, .int .i64 e.ttl, .int .i64 e.tick, .slice A2 nn c2] 60)).heap.size := by simp
      obtain ⟨W1, hW1⟩ : ∃ W, wr.alloc (.cells #[.int .i64 e.cl, .int .i64 e.op, .int .i64 e.ttl, .int .i64 e.tick, .slice A2 nn c2] 60) = W := ⟨_, rfl⟩
      rw [hW1] at kc0 kc1 kc2 kc3 kc4 hxW hcl
      rw [hW1]
      rw [hcb] at kc0 kc1 kc2 kc3 kc4 hcl
      rw [hcb]
      have Hst1 := Lib.hid (Hst.out.ext' hxW)
      have Hxn1 := Lib.hid (Rd.ext Hxn.out hxW)
      have hcw : B ≤ cb := by rw [← hcb]; exact Hst.out.big
      have hfw : fb < wr.heap.size := by have := Hst.out.big; omega
      have hfc0 := (hxW.cell (p := ⟨fb, 0, none⟩) hfw).trans hfc0
      have hfc := (hxW.cell (p := ⟨fb, 1, none⟩) hfw).trans hfc
      have hfw1 : fb < W1.heap.size := Nat.lt_of_lt_of_le hfw hxW.size
      clear hW1 hcb hxW x1 x2 x3 x4 x5 Hst Hxn b1
      by_cases htk : e.tick ≤ 1000
      · have hdt : decide (e.tick ≤ 1000) = true := by simpa using htk
        have ht0 : 0 ≤ e.tick := Hok.out.num.k0
        go_wp2_with fail
        have hcall := mdo_any b m cl cp e.cl e.op e.ttl e.tick l (.slice A2 nn c2) e.names W1 Hst1.out.mod (by omega) (small_keys Hok.out.names) (S := fun i => B ≤ i) Hxn1.out (by have := Hst1.out.hm; omega)
        refine hcall.mono ?_
        rintro x wd ⟨rfl, hmd, hcd⟩
        have hst3 := Hst1.out.turn hmd hcd
        have hlc2 := do_cap (client := e.cl) (op := e.op) (ttl := e.ttl) (now := e.tick) (ns := e.names) (cl := cl) Hst1.out.mod.ascE Hst1.out.nz Hlc.out
        have hgz2 : getK (doL cl cp l e.cl e.op e.ttl e.tick e.names) zN.k = default :=
          (do_other (k := zN.k) (fun n hn => (Hok.out.names n hn).2.2.2)).trans Hgz.out
        obtain ⟨l2, hl2⟩ : ∃ l2, doL cl cp l e.cl e.op e.ttl e.tick e.names = l2 := ⟨_, rfl⟩
        obtain ⟨R, hR⟩ : ∃ R, doR cl cp l e.cl e.op e.ttl e.tick e.names = R := ⟨_, rfl⟩
        rw [hl2] at hst3 hlc2 hgz2
        rw [hR]
        unfold respV
        have hmB : m < B := Hst1.out.hm
        have kc3 := (hcd.cell (p := ⟨cb, 3, none⟩) hcl (by simp only; omega)).trans kc3
        have hfc0 := (hcd.cell (p := ⟨fb, 0, none⟩) hfw1 hfm).trans hfc0
        have hfc := (hcd.cell (p := ⟨fb, 1, none⟩) hfw1 hfm).trans hfc
        have Hst3 := Lib.hid hst3
        have Hlc2 := Lib.hid hlc2
        have Hgz2 := Lib.hid hgz2
        clear hcall hmd hcd hst3 hlc2 hgz2 hl2 hR kc0 kc1 kc2 kc4 Hst1 Hxn1
        go_wp2_with fail
        go_roundw
        case rel => exact ⟨k + 1, l2, e.tick, by omega, by go_num, rfl, ht0, htk, Hst3.out, Hlc2.out, Hgz2.out, hfc0, hfc⟩
        case measure => simp [intOf]; omega
      · have hdt : decide (e.tick ≤ 1000) = false := by simpa using htk
        clear kc0 kc1 kc2 kc4
        go_wp2_with fail
        go_roundw
        case rel => exact ⟨k + 1, l, la, by omega, by go_num, rfl, hla0, hla1, Hst1.out.up, Hlc.out, Hgz.out, hfc0, hfc⟩
        case measure => simp [intOf]; omega
    · have hd : decide ((k : Int) < (ps.length : Int)) = false := by simp; omega
      have hfw : fb < wr.heap.size := by have := Hst.out.big; omega
      have hkl : l.length ≤ 480 := by have := Hst.out.few; omega
      go_upto_region 15 with fail
      have hnz : NmsAt (wr.alloc (.cells #[.string ⟨#[122, 122]⟩, .string ⟨#[]⟩, .string ⟨#[122]⟩] 63)) (fun k => k = wr.heap.size) (.slice (some ⟨wr.heap.size, 0, none⟩) 1 1) [zN] := rd_some wr #[.string ⟨#[122, 122]⟩, .string ⟨#[]⟩, .string ⟨#[122]⟩] 63 3 1 rfl (by unfold maxLen; omega)
      have hxz : Ext wr (wr.alloc (.cells #[.string ⟨#[122, 122]⟩, .string ⟨#[]⟩, .string ⟨#[122]⟩] 63)) := (Ext.refl wr).alloc _
      have hes : XSt w (wr.alloc (.cells #[.string ⟨#[122, 122]⟩, .string ⟨#[]⟩, .string ⟨#[122]⟩] 63)) b m wr.heap.size fb cl cp l [] :=
        ⟨Hst.out.mod.ext hxz, Hst.out.ext.trans hxz, Hst.out.hw, hnz, by have := Hst.out.mod.map.lt; omega, (hxz.cell (p := ⟨fb, 0, none⟩) hfw).trans hfc0, (hxz.cell (p := ⟨fb, 1, none⟩) hfw).trans hfc, hfm, Nat.lt_of_lt_of_le hfw hxz.size, by simp⟩
      obtain ⟨nb, hnb⟩ : ∃ t, wr.heap.size = t := ⟨_, rfl⟩
      obtain ⟨W1, hW1⟩ : ∃ W, wr.alloc (.cells #[.string ⟨#[122, 122]⟩, .string ⟨#[]⟩, .string ⟨#[122]⟩] 63) = W := ⟨_, rfl⟩
      rw [hW1] at hes
      rw [hW1]
      rw [hnb] at hes
      rw [hnb]
      have Hes := Lib.hid hes
      have t0 : ∀ n' os, (later W1 n' os).cell? ⟨fb, 0, none⟩ = some (.int .i64 cl) := fun n' os => (cell_grow_any _ n' os fb _ Hes.out.fl).trans Hes.out.f0
      clear hW1 hnb hes hnz hxz hfc hfc0 Hst hfw
      refine wp_region_ext (by kernel_rfl) (by kernel_rfl) ?_
      repeat (quiet_step (first | (go_at_call 18; exact ext_call_same (pick_any _ _ (by omega) (by omega) _))))
      refine wpQuiet_nil ?_; intro w1 hy
      have Hes1 := Lib.hid (Hes.out.ext' hy)
      obtain ⟨x, hx⟩ : ∃ x, pickI ci cl = x := ⟨_, rfl⟩
      obtain ⟨y, hy2⟩ : ∃ x, pickI co cl = x := ⟨_, rfl⟩
      have hxb := pickI_bd ci cl (by omega)
      have hyb := pickI_bd co cl (by omega)
      rw [hx] at hxb
      rw [hy2] at hyb
      rw [hx, hy2]
      obtain ⟨hx0, hx1⟩ := hxb
      obtain ⟨hy0, hy1⟩ := hyb
      clear hy t0 Hes hx hy2
      go_wp2_with fail
      refine (Hes1.out.call (by omega) x 1 5 la).mono ?_
      rintro v1 wa ⟨rfl, hea⟩
      obtain hK | hK := ex_first (cap := cp) (cl := cl) Hgz.out hx0 hx1 hla0 hla1
      · obtain ⟨hfull, hRe, hLe⟩ := hK
        have heq : ((l.length : Int) == cp) = true := by have := Hlc.out; simp; omega
        obtain ⟨R, hR⟩ : ∃ R, doR cl cp l x 1 5 la [zN] = R := ⟨_, rfl⟩
        rw [hR] at hRe
        rw [hR]
        unfold respV
        rw [hRe]
        rw [hLe] at hea
        have hes2 := hea.resp R
        rw [hRe] at hes2
        go_upto_region 17 with fail
        obtain ⟨ta, htb⟩ : ∃ t, wa.heap.size = t := ⟨_, rfl⟩
        obtain ⟨W2, hW⟩ : ∃ W, wa.alloc (.cells #[.int .i64 7, .int .i64 R.at_, .string R.nm, .int .i64 R.rc.st, .int .i64 R.rc.ow, .string R.rc.nm, .int .i64 R.rc.dl, .int .i64 R.tick] 68) = W := ⟨_, rfl⟩
        rw [hW] at hes2
        rw [hW]
        rw [htb] at hes2
        rw [htb]
        have Hes2 := Lib.hid hes2
        clear hW htb hes2 hea hR hRe hLe
        have r1 := (Hes2.out.ts (ta, 7) (by simp)).2.2
        have hrl := (Hes2.out.ts (ta, 7) (by simp)).2.1
        go_upto_region 18 with fail
        have t0 : ∀ n' os, (later W2 n' os).cell? ⟨ta, 0, none⟩ = some (.int .i64 7) := fun n' os => (cell_grow_any _ n' os ta _ hrl).trans r1
        have t1 : ∀ n' os, (later W2 n' os).cell? ⟨fb, 1, none⟩ = some (.int .i64 cp) := fun n' os => (cell_grow_any _ n' os fb _ Hes2.out.fl).trans Hes2.out.f1
        have T := Lib.hid (fun (n' : Nat) (os : Array Obj) => mlen_any b m cl cp l (later W2 n' os) (Hes2.out.mod.ext ⟨n', os, rfl⟩))
        clear r1 hfull
        refine wp_region_ext (by kernel_rfl) (by kernel_rfl) ?_
        repeat (quiet_step (first | (go_at_call 32; exact ext_call (awake28 _)) | (go_at_call 38; exact ext_call_same (T.out _ _))))
        refine wpQuiet_nil ?_; intro w1 hy
        have Hx9 := Lib.hid (Hes2.out.ext.trans hy)
        clear hy t0 t1 T
        go_wp2_with fail
        go_ret
        exact ⟨rfl, Hx9.out.below⟩
      · obtain ⟨hroom, hRe, hLe⟩ := hK
        clear hroom
        obtain ⟨R, hR⟩ : ∃ R, doR cl cp l x 1 5 la [zN] = R := ⟨_, rfl⟩
        rw [hR] at hRe
        rw [hR]
        unfold respV
        rw [hRe]
        rw [hLe] at hea
        have hes2 := hea.resp R
        rw [hRe] at hes2
        go_upto_region 17 with fail
        obtain ⟨ta, htb⟩ : ∃ t, wa.heap.size = t := ⟨_, rfl⟩
        obtain ⟨W2, hW⟩ : ∃ W, wa.alloc (.cells #[.int .i64 0, .int .i64 R.at_, .string R.nm, .int .i64 R.rc.st, .int .i64 R.rc.ow, .string R.rc.nm, .int .i64 R.rc.dl, .int .i64 R.tick] 68) = W := ⟨_, rfl⟩
        rw [hW] at hes2
        rw [hW]
        rw [htb] at hes2
        rw [htb]
        have Hes2 := Lib.hid hes2
        clear hW htb hes2 hea hR hRe hLe
        have r1 := (Hes2.out.ts (ta, 0) (by simp)).2.2
        obtain ⟨l1, hl1⟩ : ∃ l1, putK l zN.k ⟨1, x, zN.a, la + 5⟩ = l1 := ⟨_, rfl⟩
        have hg1 : getK l1 zN.k = ⟨1, x, zN.a, la + 5⟩ := by rw [← hl1]; exact get_z _ _ (by simp)
        have hn1 : l1.length ≤ 500 := by have := putK_len l zN.k ⟨1, x, zN.a, la + 5⟩; rw [hl1] at this; omega
        rw [hl1] at Hes2
        have Hg1 := Lib.hid hg1
        clear hl1 hg1
        go_wp2_with fail
        refine (Hes2.out.call (by omega) y 1 5 (la + 4)).mono ?_
        rintro v2 wb ⟨rfl, heb⟩
        obtain ⟨hRe, hLe⟩ := ex_second (cap := cp) (cl := cl) Hg1.out hy0 hy1 hla0 hla1
        clear r1
        obtain ⟨R, hR⟩ : ∃ R, doR cl cp l1 y 1 5 (la + 4) [zN] = R := ⟨_, rfl⟩
        rw [hR] at hRe
        rw [hR]
        unfold respV
        rw [hRe]
        rw [hLe] at heb
        have hes2 := heb.resp R
        rw [hRe] at hes2
        go_upto_region 20 with fail
        obtain ⟨tb, htb⟩ : ∃ t, wb.heap.size = t := ⟨_, rfl⟩
        obtain ⟨W3, hW⟩ : ∃ W, wb.alloc (.cells #[.int .i64 24, .int .i64 R.at_, .string R.nm, .int .i64 R.rc.st, .int .i64 R.rc.ow, .string R.rc.nm, .int .i64 R.rc.dl, .int .i64 R.tick] 68) = W := ⟨_, rfl⟩
        rw [hW] at hes2
        rw [hW]
        rw [htb] at hes2
        rw [htb]
        have Hes3 := Lib.hid hes2
        clear hW htb hes2 heb hR hRe hLe
        go_wp2_with fail
        refine (Hes3.out.call (by omega) y 1 5 (la + 5)).mono ?_
        rintro v3 wc ⟨rfl, hec⟩
        obtain ⟨hRe, hLe⟩ := ex_third (cap := cp) (cl := cl) Hg1.out hy0 hy1 hla0 hla1
        obtain ⟨R, hR⟩ : ∃ R, doR cl cp l1 y 1 5 (la + 5) [zN] = R := ⟨_, rfl⟩
        rw [hR] at hRe
        rw [hR]
        unfold respV
        rw [hRe]
        rw [hLe] at hec
        have hes2 := hec.resp R
        rw [hRe] at hes2
        go_upto_region 21 with fail
        obtain ⟨tc, htb⟩ : ∃ t, wc.heap.size = t := ⟨_, rfl⟩
        obtain ⟨W4, hW⟩ : ∃ W, wc.alloc (.cells #[.int .i64 0, .int .i64 R.at_, .string R.nm, .int .i64 R.rc.st, .int .i64 R.rc.ow, .string R.rc.nm, .int .i64 R.rc.dl, .int .i64 R.tick] 68) = W := ⟨_, rfl⟩
        rw [hW] at hes2
        rw [hW]
        rw [htb] at hes2
        rw [htb]
        have Hes4 := Lib.hid hes2
        clear hW htb hes2 hec hR hRe hLe
        obtain ⟨l2, hl2⟩ : ∃ l2, putK l1 zN.k ⟨1, y, zN.a, la + 10⟩ = l2 := ⟨_, rfl⟩
        have hg2 : getK l2 zN.k = ⟨1, y, zN.a, la + 10⟩ := by rw [← hl2]; exact get_z _ _ (by simp)
        have hn2 : l2.length ≤ 510 := by have := putK_len l1 zN.k ⟨1, y, zN.a, la + 10⟩; rw [hl2] at this; omega
        rw [hl2] at Hes4
        have Hg2 := Lib.hid hg2
        clear hl2 hg2
        go_wp2_with fail
        refine (Hes4.out.call (by omega) y 2 0 (la + 9)).mono ?_
        rintro v4 we ⟨rfl, hee⟩
        obtain ⟨hRe, hLe⟩ := ex_fourth (cap := cp) (cl := cl) Hg2.out hy0 hy1 hla0 hla1
        obtain ⟨R, hR⟩ : ∃ R, doR cl cp l2 y 2 0 (la + 9) [zN] = R := ⟨_, rfl⟩
        rw [hR] at hRe
        rw [hR]
        unfold respV
        rw [hRe]
        rw [hLe] at hee
        have hes2 := hee.resp R
        rw [hRe] at hes2
        go_upto_region 22 with fail
        obtain ⟨te, htb⟩ : ∃ t, we.heap.size = t := ⟨_, rfl⟩
        obtain ⟨W5, hW⟩ : ∃ W, we.alloc (.cells #[.int .i64 0, .int .i64 R.at_, .string R.nm, .int .i64 R.rc.st, .int .i64 R.rc.ow, .string R.rc.nm, .int .i64 R.rc.dl, .int .i64 R.tick] 68) = W := ⟨_, rfl⟩
        rw [hW] at hes2
        rw [hW]
        rw [htb] at hes2
        rw [htb]
        have Hes5 := Lib.hid hes2
        clear hW htb hes2 hee hR hRe hLe
        obtain ⟨l3, hl3⟩ : ∃ l3, putK l2 zN.k ⟨2, y, zN.a, 0⟩ = l3 := ⟨_, rfl⟩
        have hg3 : getK l3 zN.k = ⟨2, y, zN.a, 0⟩ := by rw [← hl3]; exact get_z _ _ (by simp)
        have hn3 : l3.length ≤ 520 := by have := putK_len l2 zN.k ⟨2, y, zN.a, 0⟩; rw [hl3] at this; omega
        rw [hl3] at Hes5
        have Hg3 := Lib.hid hg3
        clear hl3 hg3
        go_wp2_with fail
        refine (Hes5.out.call (by omega) x 1 5 1073741819).mono ?_
        rintro v5 wg ⟨rfl, heg⟩
        obtain ⟨hRe, hLe⟩ := ex_fifth (cap := cp) (cl := cl) Hg3.out hx0 hx1
        obtain ⟨R, hR⟩ : ∃ R, doR cl cp l3 x 1 5 1073741819 [zN] = R := ⟨_, rfl⟩
        rw [hR] at hRe
        rw [hR]
        unfold respV
        rw [hRe]
        rw [hLe] at heg
        have hes2 := heg.resp R
        rw [hRe] at hes2
        go_upto_region 23 with fail
        obtain ⟨tg, htb⟩ : ∃ t, wg.heap.size = t := ⟨_, rfl⟩
        obtain ⟨W6, hW⟩ : ∃ W, wg.alloc (.cells #[.int .i64 24, .int .i64 R.at_, .string R.nm, .int .i64 R.rc.st, .int .i64 R.rc.ow, .string R.rc.nm, .int .i64 R.rc.dl, .int .i64 R.tick] 68) = W := ⟨_, rfl⟩
        rw [hW] at hes2
        rw [hW]
        rw [htb] at hes2
        rw [htb]
        have Hes6 := Lib.hid hes2
        clear hW htb hes2 heg hR hRe hLe
        go_wp2_with fail
        refine (awake28 _).mono ?_
        rintro v6 wh ⟨rfl, hxh⟩
        have Hes7 := Lib.hid (Hes6.out.ext' hxh)
        have r2 := (Hes7.out.ts (tb, 24) (by simp)).2.2
        have r3 := (Hes7.out.ts (tc, 0) (by simp)).2.2
        have r4 := (Hes7.out.ts (te, 0) (by simp)).2.2
        have r5 := (Hes7.out.ts (tg, 24) (by simp)).2.2
        clear hxh Hes6 Hes5 Hes4 Hes3 Hes2
        go_wp2_with fail
        refine (mget_any b m cl cp l3 ⟨#[122]⟩ _ Hes7.out.mod (by decide)).mono ?_
        rintro v7 wi ⟨rfl, hxi⟩
        have hg4 : getK l3 ⟨#[122]⟩ = ⟨2, y, zN.a, 0⟩ := Hg3.out
        rw [hg4]
        unfold rcV
        have Hx9 := Lib.hid (Hes7.out.ext.trans hxi)
        clear hxi hg4
        have hfld := run_field_ow 2 y 0 zN.a
        go_wp2_with fail
        go_ret
        exact ⟨rfl, Hx9.out.below⟩
end modelExclusive
end Go.Proofs.Ytjefpeppkphgbaa
