/-
  JournalAppend (33.4): Append of the program and of the reference agree.
  Conditions: the raw entry's names are of bounded bulk.
-/
import Derived.Test.YtjefpeppkphgbaaRawList
import Derived.Deep.DeepCutAuto
namespace Go.Proofs.Ytjefpeppkphgbaa
open Go.RowKit Go.Sort
set_option maxHeartbeats 4000000
set_option maxRecDepth 100000

namespace journalAppend
theorem walk (cl op ttl tick : Int) (u : Value) (ns : List Nm) (al : Option Addr) (lenl capl : Nat) (zl : List Int) (a : Option Addr) (len cap : Nat) (zs : List Int) (how at_ v : Int) (w : World) (h1 : I64 cl) (h2 : I64 op) (h3 : I64 ttl) (h4 : I64 tick) (hns : NmsAt w (fun _ => True) u ns) (hb : nmsSize ns + 4 * ns.length ≤ 1048576)
    (hrl : IsRow .i64 w al lenl capl zl) (hr : IsRow .i64 w a len cap zs) (_ : I64 how) (_ : I64 at_) (_ : I64 v) :
    Calls Try.prog 5 #[.agg #[.int .i64 cl, .int .i64 op, .int .i64 ttl, .int .i64 tick, u], .slice al lenl capl, .slice a len cap, .int .i64 how, .int .i64 at_, .int .i64 v] w fun e w' => e = .returned (.bool true) ∧ Below w.heap.size w w' := by
  obtain ⟨A0, c0, rfl⟩ := hns.shape
  have Hrl := Lib.hid hrl
  have Hr := Lib.hid hr
  have Hns := Lib.hid hns
  have Hmild := Lib.hid (mild_raw h1 h2 h3 h4 hb)
  clear hr hrl hns h1 h2 h3 h4 hb
  go_enter Try.func5, Try.ntmps5
  go_wp2_with fail
  refine (written_any _ _ _ _ (RowIn.of_row (Hrl.out.ext ((Ext.refl w).alloc _)))).mono ?_
  rintro x w1 ⟨hx1, va, ps, rfl, hok, hp5, hsm, hents⟩
  have hlb := bytes_len hok
  obtain ⟨jb, hjb⟩ : ∃ jb, bs (bytesE (ps.map Prod.fst)) = jb := ⟨_, rfl⟩
  have hjs : jb.size ≤ 21000 := by rw [← hjb, bs_size]; simp at hlb; omega
  rw [hjb]
  have d0 : w1.cell? ⟨w.heap.size, 0, none⟩ = some (.int .i64 cl) := (hx1.cell (by simp)).trans (by go_simp)
  have d1 : w1.cell? ⟨w.heap.size, 1, none⟩ = some (.int .i64 op) := (hx1.cell (by simp)).trans (by go_simp)
  have d2 : w1.cell? ⟨w.heap.size, 2, none⟩ = some (.int .i64 ttl) := (hx1.cell (by simp)).trans (by go_simp)
  have d3 : w1.cell? ⟨w.heap.size, 3, none⟩ = some (.int .i64 tick) := (hx1.cell (by simp)).trans (by go_simp)
  have d4 : w1.cell? ⟨w.heap.size, 4, none⟩ = some (.slice A0 ns.length c0) := (hx1.cell (by simp)).trans (by go_simp)
  have hxl : w.heap.size < w1.heap.size := Nat.lt_of_lt_of_le (by simp) hx1.size
  have Hx1 := Lib.hid (((Ext.refl w).alloc _).trans hx1)
  obtain ⟨bx, hbx⟩ : ∃ b, w.heap.size = b := ⟨_, rfl⟩
  rw [hbx] at d0 d1 d2 d3 d4 hxl
  rw [hbx]
  clear hx1 hok hsm hents hlb hjb Hrl hp5 hbx
  go_wp2_with fail
  refine (damaged_any jb how at_ v (by omega) _).mono ?_
  rintro x W0 ⟨db, rfl, hds, hx2⟩
  have d0 := (hx2.cell (p := ⟨bx, 0, none⟩) hxl).trans d0
  have d1 := (hx2.cell (p := ⟨bx, 1, none⟩) hxl).trans d1
  have d2 := (hx2.cell (p := ⟨bx, 2, none⟩) hxl).trans d2
  have d3 := (hx2.cell (p := ⟨bx, 3, none⟩) hxl).trans d3
  have d4 := (hx2.cell (p := ⟨bx, 4, none⟩) hxl).trans d4
  have hxl := Nat.lt_of_lt_of_le hxl hx2.size
  have Hx0 := Lib.hid (Hx1.out.trans hx2)
  have hdb : db.size ≤ 140737488351232 := by omega
  have Hdb := Lib.hid hdb
  clear hx2 Hx1 hds hjs hdb
  go_upto_region 3 with fail
  go_cut [16] (fun x wx => ∃ ps, LSt w wx x ps)
  case first =>
    rename_i J1 K1 hJ hM
    refine wp_region_held_drew (S := fun w' => w'.cell? ⟨bx, 0, none⟩ = some (.int .i64 cl) ∧ w'.cell? ⟨bx, 1, none⟩ = some (.int .i64 op) ∧ w'.cell? ⟨bx, 2, none⟩ = some (.int .i64 ttl) ∧ w'.cell? ⟨bx, 3, none⟩ = some (.int .i64 tick) ∧ w'.cell? ⟨bx, 4, none⟩ = some (.slice A0 ns.length c0)) (by kernel_rfl) ?_ (fun hHeld => ?_)
    · exact ⟨d0, d1, d2, d3, d4⟩
    refine wpAnyH_take (i := 0) (oi := _) (v := ?_) rfl (by kernel_rfl) (by kernel_rfl) (by kernel_rfl) (fun _ _ _ h => h) (Or.inl ⟨by rfl, ?_⟩) (by assumption) ?_; rotate_left; (focus ((intro w hSw; (try dsimp only at hSw); go_simp); (first | done | (with_reducible rfl)))); (try simp only [Act.put]); (try simp only [List.setIfInBounds_toArray])
    refine wpAnyH_take (i := 2) (oi := _) (v := ?_) rfl (by kernel_rfl) (by kernel_rfl) (by kernel_rfl) (fun _ _ _ h => h) (Or.inl ⟨by rfl, ?_⟩) (by assumption) ?_; rotate_left; (focus ((intro w hSw; (try dsimp only at hSw); go_simp); (first | done | (with_reducible rfl)))); (try simp only [Act.put]); (try simp only [List.setIfInBounds_toArray])
    refine wpAnyH_ready (rs := [1, 3]) (by kernel_rfl) (by simp) ?_
    refine AllReadyH.cons (o := _) rfl (fun K hK => ?_) (AllReadyH.cons (o := _) rfl (fun K hK => ?_) AllReadyH.nil)
    · go_simp
      refine (kents_any a len cap W0.drew (RowIn.of_row (Hr.out.ext Hx0.out.drew))).mono ?_
      rintro x w1 ⟨va, ps, rfl, hl5, hk⟩
      obtain ⟨a1, k1, rfl⟩ := own_shape hk.own
      have hx1 : Ext W0 w1 := (Ext.refl W0).drew.trans hk.ext
      have d0 := (hx1.cell (p := ⟨bx, 0, none⟩) hxl).trans d0
      have d1 := (hx1.cell (p := ⟨bx, 1, none⟩) hxl).trans d1
      have d2 := (hx1.cell (p := ⟨bx, 2, none⟩) hxl).trans d2
      have d3 := (hx1.cell (p := ⟨bx, 3, none⟩) hxl).trans d3
      have d4 := (hx1.cell (p := ⟨bx, 4, none⟩) hxl).trans d4
      have hxl1 := Nat.lt_of_lt_of_le hxl hx1.size
      have hW1 : W0.heap.size ≤ w1.heap.size := hx1.size
      have hbz0 : W0.heap.size + 1 ≤ w1.heap.size := hk.le
      have Hk := Lib.hid hk
      clear hk hx1
      (try go_wp2_with fail); refine hK.out _ _ ?_ (fun hHeld => ?_); (focus ((try dsimp only); (first | done | go_keep))); clear hK K; try simp only [Act.put, List.setIfInBounds_toArray, List.set_cons_zero, List.set_cons_succ]
      refine wpAnyH_ready (rs := [3]) (by kernel_rfl) (by simp) ?_; refine AllReadyH.cons (o := _) rfl (fun K hK => ?_) AllReadyH.nil; go_simp
      have hxn : Ext w1 (w1.alloc (.cells #[.int .i64 cl, .int .i64 op, .int .i64 ttl, .int .i64 tick, .slice A0 ns.length c0] 24)) := (Ext.refl w1).alloc _
      have d0 := (hxn.cell (p := ⟨bx, 0, none⟩) hxl1).trans d0
      have d1 := (hxn.cell (p := ⟨bx, 1, none⟩) hxl1).trans d1
      have d2 := (hxn.cell (p := ⟨bx, 2, none⟩) hxl1).trans d2
      have d3 := (hxn.cell (p := ⟨bx, 3, none⟩) hxl1).trans d3
      have d4 := (hxn.cell (p := ⟨bx, 4, none⟩) hxl1).trans d4
      have Hxn := Lib.hid hxn
      have hrl := rd_ent w1 cl op ttl tick (.slice A0 ns.length c0)
      have hbz : W0.heap.size + 1 ≤ (w1.alloc (.cells #[.int .i64 cl, .int .i64 op, .int .i64 ttl, .int .i64 tick, .slice A0 ns.length c0] 24)).heap.size := by simp; omega
      clear hxn
      (try go_wp2_with fail); refine hK.out _ _ ?_ (fun hHeld => ?_); (focus ((try dsimp only); (first | done | go_keep))); clear hK K; try simp only [Act.put, List.setIfInBounds_toArray, List.set_cons_zero, List.set_cons_succ]
      refine wpAnyH_ready (rs := [4]) (by kernel_rfl) (by simp) ?_
      refine AllReadyH.cons (o := _) rfl (fun K hK => ?_) AllReadyH.nil
      obtain ⟨i0, hi, hz0, hz1, hz2⟩ := info_parts info_ent
      refine step_append_rd _ (by rfl) (.tmp 34) (.tmp 36) 26 (by rfl) (W0.heap.size + 1) 24 i0 _ 5 56 und_ents hi hz0 hz1 hz2 (by rfl) (by decide) (.slice a1 ps.length k1) ps.length (entsCells ps) (by rfl) (own_ext Hk.out.own Hxn.out) (fun _ => True) (.slice (some ⟨w1.heap.size, 0, none⟩) 1 1) 1 [.int .i64 cl, .int .i64 op, .int .i64 ttl, .int .i64 tick, .slice A0 ns.length c0] (by rfl) hrl (by simp [Value.oneCell']) (by unfold maxLen; omega) (by omega) hbz ?_
      intro v' w3 ha
      go_simp
      have hst := lst_more Hx0.out.drew Hk.out Hxn.out hl5 Hmild.out (Rd.mono (Rd.ext Hns.out Hx0.out.drew) fun k _ hk => hk) ha
      have hcg : Chg (fun i => W0.heap.size + 1 ≤ i) _ w3 := (Chg.refl _ _).grown ha.grown (fun k hk => .inl (Hk.out.own.lt k hk).1)
      have d0 := (hcg.cell (p := ⟨bx, 0, none⟩) (Nat.lt_of_lt_of_le hxl1 Hxn.out.size) (by simp only; omega)).trans d0
      have d1 := (hcg.cell (p := ⟨bx, 1, none⟩) (Nat.lt_of_lt_of_le hxl1 Hxn.out.size) (by simp only; omega)).trans d1
      have d2 := (hcg.cell (p := ⟨bx, 2, none⟩) (Nat.lt_of_lt_of_le hxl1 Hxn.out.size) (by simp only; omega)).trans d2
      have d3 := (hcg.cell (p := ⟨bx, 3, none⟩) (Nat.lt_of_lt_of_le hxl1 Hxn.out.size) (by simp only; omega)).trans d3
      have d4 := (hcg.cell (p := ⟨bx, 4, none⟩) (Nat.lt_of_lt_of_le hxl1 Hxn.out.size) (by simp only; omega)).trans d4
      have Hst := Lib.hid hst
      clear ha hst hcg hrl hbz Hk Hxn
      (try go_wp2_with fail); refine hK.out _ _ ?_ (fun hHeld => ?_); (focus ((try dsimp only); (first | done | go_keep))); clear hK K; try simp only [Act.put, List.setIfInBounds_toArray, List.set_cons_zero, List.set_cons_succ]
      refine wpAnyH_take (i := 5) (oi := _) (v := ?_) rfl (by kernel_rfl) (by kernel_rfl) (by kernel_rfl) (fun _ _ _ h => h) (Or.inl ⟨by rfl, ?_⟩) (by assumption) ?_; rotate_left; (focus ((intro w hSw; (try dsimp only at hSw); go_simp); (first | done | (with_reducible rfl)))); (try simp only [Act.put]); (try simp only [List.setIfInBounds_toArray])
      refine wpAnyH_done (by kernel_rfl) ?_ _
      go_simp
      refine hM _ _ (hJ _ _ ?_)
      (repeat apply Exists.intro)
      exact ⟨⟨_, Hst.out⟩, rfl⟩
    · go_simp
      have hxn : Ext W0 (W0.alloc (.cells #[.int .i64 cl, .int .i64 op, .int .i64 ttl, .int .i64 tick, .slice A0 ns.length c0] 24)) := (Ext.refl W0).alloc _
      have d0 := (hxn.cell (p := ⟨bx, 0, none⟩) hxl).trans d0
      have d1 := (hxn.cell (p := ⟨bx, 1, none⟩) hxl).trans d1
      have d2 := (hxn.cell (p := ⟨bx, 2, none⟩) hxl).trans d2
      have d3 := (hxn.cell (p := ⟨bx, 3, none⟩) hxl).trans d3
      have d4 := (hxn.cell (p := ⟨bx, 4, none⟩) hxl).trans d4
      have hrl := (rd_ent W0 cl op ttl tick (.slice A0 ns.length c0))
      have hs1 : (W0.alloc (.cells #[.int .i64 cl, .int .i64 op, .int .i64 ttl, .int .i64 tick, .slice A0 ns.length c0] 24)).heap.size = W0.heap.size + 1 := by simp
      obtain ⟨W1, hW1⟩ : ∃ W, W0.alloc (.cells #[.int .i64 cl, .int .i64 op, .int .i64 ttl, .int .i64 tick, .slice A0 ns.length c0] 24) = W := ⟨_, rfl⟩
      rw [hW1] at hxn d0 d1 d2 d3 d4 hrl hs1
      rw [hW1]
      clear hW1
      have hxl1 : bx < W1.heap.size := by omega
      have Hs1 := Lib.hid hs1
      have Hx1 := Lib.hid (Hx0.out.trans hxn)
      clear hxn hs1
      (try go_wp2_with fail); refine hK.out _ _ ?_ (fun hHeld => ?_); (focus ((try dsimp only); (first | done | go_keep))); clear hK K; try simp only [Act.put, List.setIfInBounds_toArray, List.set_cons_zero, List.set_cons_succ]
      refine wpAnyH_ready (rs := [1]) (by kernel_rfl) (by simp) ?_; refine AllReadyH.cons (o := _) rfl (fun K hK => ?_) AllReadyH.nil; go_simp
      refine (kents_any a len cap W1.drew (RowIn.of_row (Hr.out.ext Hx1.out.drew))).mono ?_
      rintro x w1 ⟨va, ps, rfl, hl5, hk⟩
      obtain ⟨a1, k1, rfl⟩ := own_shape hk.own
      have d0 := (hk.ext.cell (p := ⟨bx, 0, none⟩) hxl1).trans d0
      have d1 := (hk.ext.cell (p := ⟨bx, 1, none⟩) hxl1).trans d1
      have d2 := (hk.ext.cell (p := ⟨bx, 2, none⟩) hxl1).trans d2
      have d3 := (hk.ext.cell (p := ⟨bx, 3, none⟩) hxl1).trans d3
      have d4 := (hk.ext.cell (p := ⟨bx, 4, none⟩) hxl1).trans d4
      have hrl := Rd.ext hrl ((Ext.refl W1).drew.trans hk.ext)
      have hbz : W1.heap.size + 1 ≤ w1.heap.size := hk.le
      have hxl2 := Nat.lt_of_lt_of_le hxl1 hk.ext.size
      have Hk := Lib.hid hk
      clear hk
      (try go_wp2_with fail); refine hK.out _ _ ?_ (fun hHeld => ?_); (focus ((try dsimp only); (first | done | go_keep))); clear hK K; try simp only [Act.put, List.setIfInBounds_toArray, List.set_cons_zero, List.set_cons_succ]
      refine wpAnyH_ready (rs := [4]) (by kernel_rfl) (by simp) ?_
      refine AllReadyH.cons (o := _) rfl (fun K hK => ?_) AllReadyH.nil
      obtain ⟨i0, hi, hz0, hz1, hz2⟩ := info_parts info_ent
      refine step_append_rd _ (by rfl) (.tmp 34) (.tmp 36) 26 (by rfl) (W1.heap.size + 1) 24 i0 _ 5 56 und_ents hi hz0 hz1 hz2 (by rfl) (by decide) (.slice a1 ps.length k1) ps.length (entsCells ps) (by rfl) Hk.out.own (fun _ => True) (.slice (some ⟨W0.heap.size, 0, none⟩) 1 1) 1 [.int .i64 cl, .int .i64 op, .int .i64 ttl, .int .i64 tick, .slice A0 ns.length c0] (by rfl) hrl (by simp [Value.oneCell']) (by unfold maxLen; omega) (by omega) hbz ?_
      intro v' w3 ha
      go_simp
      have hst := lst_more Hx1.out.drew Hk.out (Ext.refl _) hl5 Hmild.out (Rd.mono (Rd.ext Hns.out Hx1.out.drew) fun k _ hk => hk) ha
      have hcg : Chg (fun i => W1.heap.size + 1 ≤ i) _ w3 := (Chg.refl _ _).grown ha.grown (fun k hk => .inl (Hk.out.own.lt k hk).1)
      have d0 := (hcg.cell (p := ⟨bx, 0, none⟩) hxl2 (by simp only; omega)).trans d0
      have d1 := (hcg.cell (p := ⟨bx, 1, none⟩) hxl2 (by simp only; omega)).trans d1
      have d2 := (hcg.cell (p := ⟨bx, 2, none⟩) hxl2 (by simp only; omega)).trans d2
      have d3 := (hcg.cell (p := ⟨bx, 3, none⟩) hxl2 (by simp only; omega)).trans d3
      have d4 := (hcg.cell (p := ⟨bx, 4, none⟩) hxl2 (by simp only; omega)).trans d4
      have Hst := Lib.hid hst
      clear ha hst hcg hrl hbz Hk
      (try go_wp2_with fail); refine hK.out _ _ ?_ (fun hHeld => ?_); (focus ((try dsimp only); (first | done | go_keep))); clear hK K; try simp only [Act.put, List.setIfInBounds_toArray, List.set_cons_zero, List.set_cons_succ]
      refine wpAnyH_take (i := 5) (oi := _) (v := ?_) rfl (by kernel_rfl) (by kernel_rfl) (by kernel_rfl) (fun _ _ _ h => h) (Or.inl ⟨by rfl, ?_⟩) (by assumption) ?_; rotate_left; (focus ((intro w hSw; (try dsimp only at hSw); go_simp); (first | done | (with_reducible rfl)))); (try simp only [Act.put]); (try simp only [List.setIfInBounds_toArray])
      refine wpAnyH_done (by kernel_rfl) ?_ _
      go_simp
      refine hM _ _ (hJ _ _ ?_)
      (repeat apply Exists.intro)
      exact ⟨⟨_, Hst.out⟩, rfl⟩
  case rest =>
    obtain ⟨ps, hst⟩ := hcut
    obtain ⟨A, C, rfl⟩ := hst.ents.shape
    have hl6 := hst.len
    have Hst := Lib.hid hst
    clear hst d0 d1 d2 d3 d4 hxl Hx0 Hns Hmild Hr
    go_wp2_with fail
    go_loopw [40] (fun o wr => ∃ k : Nat, k ≤ ps.length ∧ o = .int .i64 (k : Int) ∧ Ext wc wr) (fun o _ => ps.length - (intOf o).toNat)
    case atStart => exact ⟨0, by omega, rfl, Ext.refl _⟩
    case round =>
      obtain ⟨k, hk, rfl, hx⟩ := hrel
      have Hls := Lib.hid (Hst.out.ext' hx)
      have Hx := Lib.hid hx
      clear hx
      by_cases hlt : k < ps.length
      · have hd : decide ((k : Int) < (ps.length : Int)) = true := by simpa using hlt
        obtain ⟨g, o, c', hv, p1, p2, _, b1, hcell⟩ := Hls.out.ents.get (j := k) hlt
        simp only [Value.slice.injEq, true_and] at hv
        obtain ⟨rfl, rfl⟩ := hv
        obtain ⟨⟨e, u⟩, hae⟩ : ∃ a, ps[k]? = some a := ⟨ps[k], by simp [hlt]⟩
        obtain ⟨x1, x2, x3, x4, x5, xn⟩ := hcell _ hae
        simp only at x1 x2 x3 x4 x5 xn
        obtain ⟨A2, c2, rfl⟩ := xn.shape
        have Hme := Lib.hid (Hls.out.mild _ (List.mem_of_getElem? hae))
        have i0 : (0 : Int) ≤ (k : Int) := by omega
        have i1 : (k : Int) < (ps.length : Int) := by omega
        have hnE : NmsAt (wr.alloc (.cells #[.int .i64 e.cl, .int .i64 e.op, .int .i64 e.ttl, .int .i64 e.tick, .slice A2 e.names.length c2] 24)) (fun _ => True) (.slice A2 e.names.length c2) e.names := xn.ext ((Ext.refl _).alloc _)
        have HnE := Lib.hid hnE
        clear hcell hae xn hnE
        go_wp2_with fail
        refine (append_any db e _ Hdb.out _ HnE.out Hme.out.body).mono ?_
        rintro x w2 ⟨rfl, hx2⟩
        obtain ⟨code, ys, hcy⟩ : ∃ code ys, appJ db.data.toList e = (code, ys) := ⟨_, _, rfl⟩
        rw [hcy]
        simp only
        obtain ⟨yb, hyb⟩ : ∃ b, bs ys = b := ⟨_, rfl⟩
        rw [hyb]
        have k0 : w2.cell? ⟨wr.heap.size, 0, none⟩ = some (.int .i64 e.cl) := (hx2.cell (by simp)).trans (by go_simp)
        have k1 : w2.cell? ⟨wr.heap.size, 1, none⟩ = some (.int .i64 e.op) := (hx2.cell (by simp)).trans (by go_simp)
        have k2 : w2.cell? ⟨wr.heap.size, 2, none⟩ = some (.int .i64 e.ttl) := (hx2.cell (by simp)).trans (by go_simp)
        have k3 : w2.cell? ⟨wr.heap.size, 3, none⟩ = some (.int .i64 e.tick) := (hx2.cell (by simp)).trans (by go_simp)
        have k4 : w2.cell? ⟨wr.heap.size, 4, none⟩ = some (.slice A2 e.names.length c2) := (hx2.cell (by simp)).trans (by go_simp)
        have HnE2 := Lib.hid (HnE.out.ext hx2)
        have Hx2 := Lib.hid (Hx.out.trans (((Ext.refl wr).alloc _).trans hx2))
        have Hcy := Lib.hid hcy
        have Hyb := Lib.hid hyb
        clear hx2 hcy hyb HnE x1 x2 x3 x4 x5
        go_wp2_with fail
        refine (rappend_any db e _ Hdb.out _ HnE2.out Hme.out.body).mono ?_
        rintro x w3 ⟨rfl, hx3⟩
        rw [Hcy.out]
        simp only
        rw [Hyb.out]
        have Hx3 := Lib.hid (Hx2.out.trans hx3)
        clear hx3 HnE2 Hx2 k0 k1 k2 k3 k4
        go_wp2_with fail
        go_roundw
        case rel => exact ⟨k + 1, by omega, by go_num, Hx3.out⟩
        case measure => simp [intOf]; omega
      · have hd : decide ((k : Int) < (ps.length : Int)) = false := by simp; omega
        go_wp2_with fail
        refine (awake33 _).mono ?_
        rintro x w6 ⟨rfl, hx6⟩
        have Hx6 := Lib.hid ((Hst.out.ext.trans Hx.out).trans hx6)
        clear hx6
        go_wp2_with fail
        go_ret
        exact ⟨rfl, Hx6.out.below⟩
end journalAppend
end Go.Proofs.Ytjefpeppkphgbaa
