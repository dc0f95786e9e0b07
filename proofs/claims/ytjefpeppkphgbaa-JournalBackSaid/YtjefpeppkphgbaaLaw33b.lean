/-
  JournalBack (33.4): what was appended is read again.
  Conditions: none.
-/
import Derived.Test.YtjefpeppkphgbaaAwake33
namespace Go.Proofs.Ytjefpeppkphgbaa
open Go.RowKit Go.Sort
set_option maxHeartbeats 4000000
set_option maxRecDepth 100000

namespace journalBack
theorem walk (a : Option Addr) (len cap : Nat) (zs : List Int) (w : World) (hr : IsRow .i64 w a len cap zs) :
    Calls Try.prog 6 #[.slice a len cap] w fun e w' => e = .returned (.bool true) ∧ Below w.heap.size w w' := by
  have Hrow := Lib.hid (RowIn.of_row hr)
  clear hr
  go_enter Try.func6, Try.ntmps6
  go_wp2_with fail
  refine (kents_any _ _ _ _ Hrow.out).mono ?_
  rintro x w1 ⟨va, qs, rfl, hq5, hk⟩
  have Hsm := Lib.hid hk.sm
  obtain ⟨A, C, hva⟩ := hk.ents.shape
  have Hrel0 := Lib.hid (show WRel w w1 w1.heap.size va qs (.slice none 0 0) [] 0 from ⟨WSt.start hk, by simp [EncOk], Nat.le_refl _, Nat.zero_le _, by simp⟩)
  subst hva
  obtain ⟨B, hB⟩ : ∃ B, w1.heap.size = B := ⟨_, rfl⟩
  rw [hB] at Hrel0
  clear hk hB Hrow
  have hlm : qs.length ≤ 5 := hq5
  go_wp2_with fail
  go_loopw [4, 5, 16] (fun j v o wr => ∃ (i : Nat) (ps : List (Ent × Value)), j = .string (bs (bytesE (ps.map Prod.fst))) ∧ o = .int .i64 (i : Int) ∧ WRel w wr B (.slice A qs.length C) qs v ps i) (fun _ _ o _ => qs.length - (intOf o).toNat)
  case atStart => exact ⟨0, [], rfl, rfl, Hrel0.out⟩
  case round =>
    clear Hrel0
    obtain ⟨i, ps, rfl, rfl, hrl⟩ := hrel
    obtain ⟨a1, c1, rfl⟩ := own_shape hrl.st.own
    have hil := hrl.len
    have hile := hrl.le
    have Hrl := Lib.hid hrl
    clear hrl
    by_cases hin : i < qs.length
    · have hd : decide ((i : Int) < (qs.length : Int)) = true := by simpa using hin
      obtain ⟨g, o, c', hv, p1, p2, _, b1, hcell⟩ := Hrl.out.st.all.get (j := i) hin
      simp only [Value.slice.injEq, true_and] at hv
      obtain ⟨rfl, rfl⟩ := hv
      obtain ⟨⟨e, u⟩, hae⟩ : ∃ a, qs[i]? = some a := ⟨qs[i], by simp [hin]⟩
      have hmem := List.mem_of_getElem? hae
      obtain ⟨x1, x2, x3, x4, x5, xn⟩ := hcell _ hae
      simp only at x1 x2 x3 x4 x5 xn
      obtain ⟨A2, c2, rfl⟩ := xn.shape
      have hsme := Hsm.out _ hmem
      have i0 : (0 : Int) ≤ (i : Int) := by omega
      have i1 : (i : Int) < (qs.length : Int) := by omega
      unfold maxLen at p2
      have hx0 : Ext wr (wr.alloc (.cells #[.int .i64 e.cl, .int .i64 e.op, .int .i64 e.ttl, .int .i64 e.tick, .slice A2 e.names.length c2] 24)) := (Ext.refl wr).alloc _
      have Hn := Lib.hid (xn.ext hx0)
      have Hrl2 := Lib.hid (Hrl.out.st.ext' hx0)
      have Hsme := Lib.hid hsme
      have Hmem := Lib.hid hmem
      obtain ⟨jb, hjb⟩ : ∃ jb, bs (bytesE (ps.map Prod.fst)) = jb := ⟨_, rfl⟩
      have hjl : jb.size ≤ 140737488351232 := by
        have := bytes_len Hrl.out.ok
        rw [← hjb, bs_size]; simp at this; omega
      have Hjb := Lib.hid hjb
      rw [hjb]
      clear hcell hae xn hx0 hsme hmem hjb
      go_wp2_with fail
      refine (append_any jb e _ hjl _ Hn.out (by have := small_body Hsme.out; omega)).mono ?_
      rintro x w2 ⟨rfl, hx2⟩
      obtain ⟨code, ys, hcy⟩ : ∃ code ys, appJ jb.data.toList e = (code, ys) := ⟨_, _, rfl⟩
      rw [hcy]
      have Hrl3 := Lib.hid (Hrl2.out.ext' hx2)
      have hc0 : w2.cell? ⟨wr.heap.size, 0, none⟩ = some (.int .i64 e.cl) := (hx2.cell (by simp)).trans (by go_simp)
      have hc1 : w2.cell? ⟨wr.heap.size, 1, none⟩ = some (.int .i64 e.op) := (hx2.cell (by simp)).trans (by go_simp)
      have hc2 : w2.cell? ⟨wr.heap.size, 2, none⟩ = some (.int .i64 e.ttl) := (hx2.cell (by simp)).trans (by go_simp)
      have hc3 : w2.cell? ⟨wr.heap.size, 3, none⟩ = some (.int .i64 e.tick) := (hx2.cell (by simp)).trans (by go_simp)
      have hc4 : w2.cell? ⟨wr.heap.size, 4, none⟩ = some (.slice A2 e.names.length c2) := (hx2.cell (by simp)).trans (by go_simp)
      have Hcy := Lib.hid hcy
      clear hx2 hcy Hn Hrl2
      simp only
      have hjd : jb.data.toList = bytesE (ps.map Prod.fst) := by rw [← Hjb.out]; rfl
      have Hjd := Lib.hid hjd
      clear hjd
      by_cases hok : (encE e).1 = 0
      · have h1 := app_bytes (e := e) Hrl.out.ok (by simp; omega) hok
        rw [← Hjd.out, Hcy.out] at h1
        simp only [Prod.mk.injEq] at h1
        obtain ⟨rfl, hys⟩ := h1
        have Hys := Lib.hid hys
        have Hok := Lib.hid hok
        obtain ⟨i0', hi, hz0, hz1, hz2⟩ := info_parts info_ent
        obtain ⟨x9, hx9⟩ : ∃ x9, bs ys = x9 := ⟨_, rfl⟩
        have Hx9 := Lib.hid hx9
        rw [hx9]
        clear hys hok hx9
        have hbz : B ≤ (w2.alloc (.cells #[.int .i64 e.cl, .int .i64 e.op, .int .i64 e.ttl, .int .i64 e.tick, .slice A2 e.names.length c2] 24)).heap.size := by have := Hrl3.out.big; simp; omega
        have hrl := rd_ent w2 e.cl e.op e.ttl e.tick (.slice A2 e.names.length c2)
        go_wp2_with (at_builtin; refine wpList_append_rd _ rfl _ _ 26 rfl B 24 i0' _ 5 56 und_ents hi hz0 hz1 hz2 rfl (by decide) _ ps.length _ rfl (own_ext Hrl3.out.own ((Ext.refl _).alloc _)) (fun _ => True) _ 1 _ rfl hrl (by simp [Value.oneCell']) (by unfold maxLen; omega) (by omega) hbz ?_; intro v' w3 ha; obtain ⟨a3, c3, hv3⟩ := own_shape ha.own; subst hv3)
        have Hend := Lib.hid (show WRel w w3 B (.slice (some ⟨g, o, none⟩) qs.length C) qs (.slice a3 (ps.length + 1) c3) (ps ++ [(e, .slice A2 e.names.length c2)]) (i + 1) from by
          refine ⟨(Hrl3.out.ext' ((Ext.refl _).alloc _)).more Hmem.out ha, ?_, by simp; omega, by omega, fun p hp => ?_⟩
          · intro x hx
            simp only [List.map_append, List.map_cons, List.map_nil, List.mem_append, List.mem_singleton] at hx
            rcases hx with hx | rfl
            · exact Hrl.out.ok x hx
            · exact Hok.out
          · rcases List.mem_append.1 hp with hp | hp
            · exact Hrl.out.sm p hp
            · simp only [List.mem_singleton] at hp
              subst hp
              exact Hsme.out)
        clear ha hrl hbz Hrl3
        go_roundw
        case rel => exact ⟨i + 1, ps ++ [(e, .slice A2 e.names.length c2)], by rw [← Hx9.out, Hys.out]; simp, by go_num, by simpa using Hend.out⟩
        case measure => simp [intOf]; omega
      · have h1 := app_bad (s := jb.data.toList) hok
        rw [Hcy.out] at h1
        simp only [Prod.mk.injEq] at h1
        obtain ⟨rfl, rfl⟩ := h1
        have hcn : ((encE e).1 == (0 : Int)) = false := by simpa using hok
        have hck : (checkE e == (0 : Int)) = false := by rw [← enc_small Hsme.out]; exact hcn
        have Hxn := Lib.hid (Hrl3.out.all.2 _ Hmem.out)
        clear Hcy
        go_wp2_with fail
        refine (rcheckE_any e _ _ Hxn.out).mono ?_
        rintro x w3 ⟨rfl, hx3⟩
        have Hend := Lib.hid (show WRel w w3 B (.slice (some ⟨g, o, none⟩) qs.length C) qs (.slice a1 ps.length c1) ps (i + 1) from ⟨Hrl3.out.ext' hx3, Hrl.out.ok, by omega, by omega, Hrl.out.sm⟩)
        clear Hrl3 hx3
        go_wp2_with fail
        go_roundw
        case rel => exact ⟨i + 1, ps, by rw [Hjb.out], by go_num, Hend.out⟩
        case measure => simp [intOf]; omega
    · have hd : decide ((i : Int) < (qs.length : Int)) = false := by simp; omega
      obtain ⟨jb, hjb⟩ : ∃ jb, bs (bytesE (ps.map Prod.fst)) = jb := ⟨_, rfl⟩
      have hlen := bytes_len Hrl.out.ok
      have hjs : jb.size = (bytesE (ps.map Prod.fst)).length := by rw [← hjb, bs_size]
      have hjl : jb.size ≤ 140737488351232 := by simp at hlen; omega
      have hjd : jb.data.toList = bytesE (ps.map Prod.fst) := by rw [← hjb]; rfl
      have hrd := readJ_bytes Hrl.out.ok (by simp; omega)
      have Hrd := Lib.hid hrd
      have Hjd := Lib.hid hjd
      have Hjs := Lib.hid hjs
      clear hlen hjs hjd hrd
      rw [hjb]
      clear hjb
      go_wp2_with fail
      refine (read_any jb hjl _).mono ?_
      rintro x w2 ⟨hx2, v, rs, rfl, hrs, hents⟩
      rw [Hjd.out, Hrd.out] at hrs
      rw [Hjd.out, Hrd.out]
      obtain ⟨A2, C2, rfl⟩ := hents.shape
      simp only at hrs
      have Hents := Lib.hid hents
      have Hrs := Lib.hid hrs
      have Hst2 := Lib.hid (Hrl.out.st.ext' hx2)
      clear hents hrs hx2
      simp only
      rw [← Hjs.out]
      go_wp2_with fail
      refine (awake33 _).mono ?_
      rintro x w3 ⟨rfl, hx3⟩
      have Hst3 := Lib.hid (Hst2.out.ext' hx3)
      have Hents3 := Lib.hid (Hents.out.ext hx3)
      clear hx3 Hst2 Hents
      go_wp2_with fail
      have hle := Hst3.out.le
      have hcall := same_ents _ _ rs ps Hrs.out _ (fun k => w.heap.size ≤ k) w3 Hents3.out ⟨Rd.of_own Hst3.out.own fun q hq => by have := (Hst3.out.own.lt q hq).1; omega, fun p hp => Rd.mono (Hst3.out.nms p hp) fun k hk _ => hk.1⟩
      with_reducible refine hcall.mono ?_
      rintro x w4 ⟨rfl, hx4⟩
      have Hfin := Lib.hid (Hst3.out.ext.trans hx4)
      clear hcall hx4
      go_wp2_with fail
      go_ret
      exact ⟨rfl, Hfin.out.below⟩
end journalBack
end Go.Proofs.Ytjefpeppkphgbaa
