/-
  ModelScript: all methods of the model return the specified results after any sequence of calls.
  Conditions: none.
-/
import Derived.Test.YtjefpeppkphgbaaMSt
import Derived.Test.YtjefpeppkphgbaaMKeys
import Derived.Test.YtjefpeppkphgbaaRKeys
import Derived.Test.YtjefpeppkphgbaaRDo
import Derived.Test.YtjefpeppkphgbaaSameS
namespace Go.Proofs.Ytjefpeppkphgbaa
open Go.RowKit Go.Sort Go.Shelf
set_option maxHeartbeats 8000000
set_option maxRecDepth 100000

/-- What happens beside the model and the calls leaves both as they were. -/
theorem MSt.beside {w wr w2 : World} {B b m yb : Nat} {cl cp : Int} {v : Value} {ps : List (Ent × Value)} {l : List Kp} {k : Nat} (h : MSt w wr B b m cl cp v ps l k) (c : Chg (· = yb) wr w2) (hm : m < yb) (hb : b < yb) (hB : yb < B) : MSt w w2 B b m cl cp v ps l k :=
  ⟨h.mod.chg c (by omega) (by omega), h.few, h.nz, h.ents.chgM c (fun i hi e => by omega), h.ext.chg_new c (fun i hi => by have := h.hw; omega), h.hm, h.hb, h.hw, Nat.le_trans h.big c.size⟩
namespace modelScript
theorem walk (a : Option Addr) (len cap : Nat) (zs : List Int) (a2 : Option Addr) (len2 cap2 : Nat) (zs2 : List Int) (w : World) (hr : IsRow .i64 w a len cap zs) (hr2 : IsRow .i64 w a2 len2 cap2 zs2) :
    Calls Try.prog 14 #[.slice a len cap, .slice a2 len2 cap2] w fun e w' => e = .returned (.bool true) ∧ Below w.heap.size w w' := by
  have Hr := Lib.hid hr
  have Hr2 := Lib.hid hr2
  clear hr hr2
  go_enter Try.func14, Try.ntmps14
  go_wp2_with fail
  refine (conf_any _ _ _ _ (RowIn.of_row Hr2.out)).mono ?_
  rintro x w1 ⟨cl, cp, q1, q2, q3, q4, rfl, hx1⟩
  have Hx1 := Lib.hid hx1
  clear hx1 Hr2
  go_wp2_with fail
  have hf : (w1.alloc (.cells #[.int .i64 cl, .int .i64 cp] 48)).cell? ⟨w1.heap.size, 1, none⟩ = some (.int .i64 cp) := by go_simp
  have hg : (w1.alloc (.cells #[.int .i64 cl, .int .i64 cp] 48)).cell? ⟨w1.heap.size, 0, none⟩ = some (.int .i64 cl) := by go_simp
  have Hg := Lib.hid hg
  have hfs : w1.heap.size < (w1.alloc (.cells #[.int .i64 cl, .int .i64 cp] 48)).heap.size := by simp
  have Hf := Lib.hid hf
  have Hfs := Lib.hid hfs
  clear hf hg hfs
  refine (mnew_good (confE_ok q1 q2 q3 q4) _).mono ?_
  rintro x w2 ⟨b, m, rfl, hm, hb, hmm, hx2⟩
  have Hx2 := Lib.hid ((Hx1.out.alloc _).trans hx2)
  have hmw : w.heap.size ≤ m := by have := Hx1.out.size; simp at hmm; omega
  have Hm := Lib.hid hm
  have hfc := (hx2.cell (p := ⟨w1.heap.size, 1, none⟩) Hfs.out).trans Hf.out
  have hgc := (hx2.cell (p := ⟨w1.heap.size, 0, none⟩) Hfs.out).trans Hg.out
  have hfm : ¬ w1.heap.size = m := by simp at hmm; omega
  have hf2 : w1.heap.size < w2.heap.size := Nat.lt_of_lt_of_le Hfs.out hx2.size
  obtain ⟨fb, hfb⟩ : ∃ f, w1.heap.size = f := ⟨_, rfl⟩
  rw [hfb] at hfc hgc hfm hf2
  have Hfb := Lib.hid hfb
  clear hm hb hmm Hx1 Hf Hg Hfs hfb
  rw [Hfb.out]
  have hbw : b < w2.heap.size := Hm.out.lt
  have hmw2 : m < w2.heap.size := Hm.out.map.lt
  go_wp2_with fail
  refine (rnewM_any cl cp _).mono ?_
  rintro x w3 (⟨hc3, _, _⟩ | ⟨_, yb, rfl, hym, hyb, hx3⟩)
  · rw [confE_ok q1 q2 q3 q4] at hc3; simp at hc3
  have hy0 := hym.low (T := fun k => yb < k) (fun k hk => hk.elim) (by omega)
  have Hy0 := Lib.hid hy0
  have Hm3 := Lib.hid (Hm.out.ext hx3)
  have Hx3 := Lib.hid (Hx2.out.trans hx3)
  have hyl : yb < w3.heap.size := hym.lt
  have hb3 : b < yb := by omega
  have hm3 : m < yb := by omega
  clear hx2 hx3 hym hy0 hfc hgc hf2 hfm Hm Hx2
  go_wp2_with fail
  refine (calls_any _ _ _ _ (RowIn.of_row (Hr.out.ext Hx3.out))).mono ?_
  rintro x w4 ⟨va, ps, rfl, hp30, hst⟩
  have hmst := mst_start Hm3.out Hx3.out hmw hst
  have hnum : ∀ p ∈ ps, CalOk p.1 := hst.sm
  have Hy4 := Lib.hid (Hy0.out.ext hst.ext)
  obtain ⟨A, C, rfl⟩ := hmst.ents.shape
  obtain ⟨B, hB⟩ : ∃ B, w3.heap.size = B := ⟨_, rfl⟩
  rw [hB] at hmst hyl
  have Hmst := Lib.hid hmst
  have Hnum := Lib.hid hnum
  clear hst hmst hnum hB Hm3 Hr Hx3 Hy0
  go_wp2_with fail
  go_loopw [41] (fun o wr => ∃ (k : Nat) (l : List Kp), k ≤ ps.length ∧ o = .int .i64 (k : Int) ∧ MSt w wr B b m cl cp (.slice A ps.length C) ps l k ∧ RModAt wr (fun k => yb < k) yb cl cp l) (fun o _ => ps.length - (intOf o).toNat)
  case atStart => exact ⟨0, [], by omega, rfl, Hmst.out, Hy4.out⟩
  case round =>
    clear Hmst Hy4
    obtain ⟨k, l, hk, rfl, hst, hy⟩ := hrel
    have Hst := Lib.hid hst
    have Hy := Lib.hid hy
    clear hst hy
    by_cases hlt : k < ps.length
    · have hd : decide ((k : Int) < (ps.length : Int)) = true := by simpa using hlt
      obtain ⟨g, o, c', hv, p1, p2, _, b1, hcell⟩ := Hst.out.ents.get (j := k) hlt
      simp only [Value.slice.injEq, true_and] at hv
      obtain ⟨rfl, rfl⟩ := hv
      obtain ⟨⟨e, u⟩, hae⟩ : ∃ a, ps[k]? = some a := ⟨ps[k], by simp [hlt]⟩
      obtain ⟨x1, x2, x3, x4, x5, xn⟩ := hcell _ hae
      simp only at x1 x2 x3 x4 x5 xn
      obtain ⟨A2, c2, rfl⟩ := xn.shape
      have hok := Hnum.out _ (List.mem_of_getElem? hae)
      have i0 : (0 : Int) ≤ (k : Int) := by omega
      have i1 : (k : Int) < (ps.length : Int) := by omega
      obtain ⟨nn, hnn⟩ : ∃ n, e.names.length = n := ⟨_, rfl⟩
      have hl4 := hok.len
      rw [hnn] at x5 hl4
      have Hok := Lib.hid hok
      have Hnn := Lib.hid hnn
      have hxn : NmsAt wr (fun i => B ≤ i) (.slice A2 nn c2) e.names := by rw [← hnn]; exact xn
      have Hxn := Lib.hid hxn
      have hfew := Hst.out.few
      clear hcell hae xn hok hnn hxn
      go_upto_region 10 with fail
      have kc0 : (wr.alloc (.cells #[.int .i64 e.cl, .int .i64 e.op, .int .i64 e.ttl, .int .i64 e.tick, .slice A2 nn c2] 60)).cell? ⟨wr.heap.size, 0, none⟩ = some (.int .i64 e.cl) := by go_simp
      have kc1 : (wr.alloc (.cells #[.int .i64 e.cl, .int .i64 e.op, .int .i64 e.ttl, .int .i64 e.tick, .slice A2 nn c2] 60)).cell? ⟨wr.heap.size, 1, none⟩ = some (.int .i64 e.op) := by go_simp
      have kc2 : (wr.alloc (.cells #[.int .i64 e.cl, .int .i64 e.op, .int .i64 e.ttl, .int .i64 e.tick, .slice A2 nn c2] 60)).cell? ⟨wr.heap.size, 2, none⟩ = some (.int .i64 e.ttl) := by go_simp
      have kc3 : (wr.alloc (.cells #[.int .i64 e.cl, .int .i64 e.op, .int .i64 e.ttl, .int .i64 e.tick, .slice A2 nn c2] 60)).cell? ⟨wr.heap.size, 3, none⟩ = some (.int .i64 e.tick) := by go_simp
      have kc4 : (wr.alloc (.cells #[.int .i64 e.cl, .int .i64 e.op, .int .i64 e.ttl, .int .i64 e.tick, .slice A2 nn c2] 60)).cell? ⟨wr.heap.size, 4, none⟩ = some (.slice A2 nn c2) := by go_simp
      have hxW : Ext wr (wr.alloc (.cells #[.int .i64 e.cl, .int .i64 e.op, .int .i64 e.ttl, .int .i64 e.tick, .slice A2 nn c2] 60)) := (Ext.refl wr).alloc _
      obtain ⟨cb, hcb⟩ : ∃ c, wr.heap.size = c := ⟨_, rfl⟩
      have hcl : wr.heap.size < (wr.alloc (.cells #[.int .i64 e.cl, .int .i64 e.op, .int .i64 e.ttl, .int .i64 e.tick, .slice A2 nn c2] 60)).heap.size := by simp
      obtain ⟨W1, hW1⟩ : ∃ W, wr.alloc (.cells #[.int .i64 e.cl, .int .i64 e.op, .int .i64 e.ttl, .int .i64 e.tick, .slice A2 nn c2] 60) = W := ⟨_, rfl⟩
      rw [hW1] at kc0 kc1 kc2 kc3 kc4 hxW hcl
      rw [hW1]
      rw [hcb] at kc0 kc1 kc2 kc3 kc4 hcl
      rw [hcb]
      have Hst1 := Lib.hid (Hst.out.ext' hxW)
      have Hxn1 := Lib.hid (Rd.ext Hxn.out hxW)
      have Hy1 := Lib.hid (Hy.out.ext hxW)
      have hcw : B ≤ cb := by rw [← hcb]; exact Hst.out.big
      clear hW1 hcb hxW x1 x2 x3 x4 x5 Hst Hxn b1 Hy
      refine wp_region_held_drew (S := fun w' => w'.cell? ⟨cb, 0, none⟩ = some (.int .i64 e.cl) ∧ w'.cell? ⟨cb, 1, none⟩ = some (.int .i64 e.op) ∧ w'.cell? ⟨cb, 2, none⟩ = some (.int .i64 e.ttl) ∧ w'.cell? ⟨cb, 3, none⟩ = some (.int .i64 e.tick) ∧ w'.cell? ⟨cb, 4, none⟩ = some (.slice A2 nn c2)) (by kernel_rfl) ?_ (fun hHeld => ?_)
      · go_keep
      refine wpAnyH_take (i := 0) (oi := _) (v := ?_) rfl (by kernel_rfl) (by kernel_rfl) (by kernel_rfl) (fun _ _ _ h => h) (Or.inl ⟨by rfl, ?_⟩) (by assumption) ?_; rotate_left; (focus ((intro w hSw; (try dsimp only at hSw); go_simp); (first | done | (with_reducible rfl)))); (try simp only [Act.put]); (try simp only [List.setIfInBounds_toArray])
      refine wpAnyH_take (i := 1) (oi := _) (v := ?_) rfl (by kernel_rfl) (by kernel_rfl) (by kernel_rfl) (fun _ _ _ h => h) (Or.inl ⟨by rfl, ?_⟩) (by assumption) ?_; rotate_left; (focus ((intro w hSw; (try dsimp only at hSw); go_simp); (first | done | (with_reducible rfl)))); (try simp only [Act.put]); (try simp only [List.setIfInBounds_toArray])
      refine wpAnyH_take (i := 2) (oi := _) (v := ?_) rfl (by kernel_rfl) (by kernel_rfl) (by kernel_rfl) (fun _ _ _ h => h) (Or.inl ⟨by rfl, ?_⟩) (by assumption) ?_; rotate_left; (focus ((intro w hSw; (try dsimp only at hSw); go_simp); (first | done | (with_reducible rfl)))); (try simp only [Act.put]); (try simp only [List.setIfInBounds_toArray])
      refine wpAnyH_take (i := 3) (oi := _) (v := ?_) rfl (by kernel_rfl) (by kernel_rfl) (by kernel_rfl) (fun _ _ _ h => h) (Or.inl ⟨by rfl, ?_⟩) (by assumption) ?_; rotate_left; (focus ((intro w hSw; (try dsimp only at hSw); go_simp); (first | done | (with_reducible rfl)))); (try simp only [Act.put]); (try simp only [List.setIfInBounds_toArray])
      refine wpAnyH_take (i := 4) (oi := _) (v := ?_) rfl (by kernel_rfl) (by kernel_rfl) (by kernel_rfl) (fun _ _ _ h => h) (Or.inl ⟨by rfl, ?_⟩) (by assumption) ?_; rotate_left; (focus ((intro w hSw; (try dsimp only at hSw); go_simp); (first | done | (with_reducible rfl)))); (try simp only [Act.put]); (try simp only [List.setIfInBounds_toArray])
      refine wpAnyH_take (i := 5) (oi := _) (v := ?_) rfl (by kernel_rfl) (by kernel_rfl) (by kernel_rfl) (fun _ _ _ h => h) (Or.inl ⟨by rfl, ?_⟩) (by assumption) ?_; rotate_left; (focus ((intro w hSw; (try dsimp only at hSw); go_simp); (first | done | (with_reducible rfl)))); (try simp only [Act.put]); (try simp only [List.setIfInBounds_toArray])
      refine wpAnyH_take (i := 6) (oi := _) (v := ?_) rfl (by kernel_rfl) (by kernel_rfl) (by kernel_rfl) (fun _ _ _ h => h) (Or.inl ⟨by rfl, ?_⟩) (by assumption) ?_; rotate_left; (focus ((intro w hSw; (try dsimp only at hSw); go_simp); (first | done | (with_reducible rfl)))); (try simp only [Act.put]); (try simp only [List.setIfInBounds_toArray])
      refine wpAnyH_take (i := 7) (oi := _) (v := ?_) rfl (by kernel_rfl) (by kernel_rfl) (by kernel_rfl) (fun _ _ _ h => h) (Or.inl ⟨by rfl, ?_⟩) (by assumption) ?_; rotate_left; (focus ((intro w hSw; (try dsimp only at hSw); go_simp); (first | done | (with_reducible rfl)))); (try simp only [Act.put]); (try simp only [List.setIfInBounds_toArray])
      refine wpAnyH_take (i := 8) (oi := _) (v := ?_) rfl (by kernel_rfl) (by kernel_rfl) (by kernel_rfl) (fun _ _ _ h => h) (Or.inl ⟨by rfl, ?_⟩) (by assumption) ?_; rotate_left; (focus ((intro w hSw; (try dsimp only at hSw); go_simp); (first | done | (with_reducible rfl)))); (try simp only [Act.put]); (try simp only [List.setIfInBounds_toArray])
      refine wpAnyH_take (i := 9) (oi := _) (v := ?_) rfl (by kernel_rfl) (by kernel_rfl) (by kernel_rfl) (fun _ _ _ h => h) (Or.inl ⟨by rfl, ?_⟩) (by assumption) ?_; rotate_left; (focus ((intro w hSw; (try dsimp only at hSw); go_simp); (first | done | (with_reducible rfl)))); (try simp only [Act.put]); (try simp only [List.setIfInBounds_toArray])
      refine wpAnyH_take (i := 10) (oi := _) (v := ?_) rfl (by kernel_rfl) (by kernel_rfl) (by kernel_rfl) (fun _ _ _ h => h) (Or.inl ⟨by rfl, ?_⟩) (by assumption) ?_; rotate_left; (focus ((intro w hSw; (try dsimp only at hSw); go_simp); (first | done | (with_reducible rfl)))); (try simp only [Act.put]); (try simp only [List.setIfInBounds_toArray])
      refine wpAnyH_take (i := 12) (oi := _) (v := ?_) rfl (by kernel_rfl) (by kernel_rfl) (by kernel_rfl) (fun _ _ _ h => h) (Or.inl ⟨by rfl, ?_⟩) (by assumption) ?_; rotate_left; (focus ((intro w hSw; (try dsimp only at hSw); go_simp); (first | done | (with_reducible rfl)))); (try simp only [Act.put]); (try simp only [List.setIfInBounds_toArray])
      refine wpAnyH_take (i := 13) (oi := _) (v := ?_) rfl (by kernel_rfl) (by kernel_rfl) (by kernel_rfl) (fun _ _ _ h => h) (Or.inl ⟨by rfl, ?_⟩) (by assumption) ?_; rotate_left; (focus ((intro w hSw; (try dsimp only at hSw); go_simp); (first | done | (with_reducible rfl)))); (try simp only [Act.put]); (try simp only [List.setIfInBounds_toArray])
      refine wpAnyH_take (i := 14) (oi := _) (v := ?_) rfl (by kernel_rfl) (by kernel_rfl) (by kernel_rfl) (fun _ _ _ h => h) (Or.inl ⟨by rfl, ?_⟩) (by assumption) ?_; rotate_left; (focus ((intro w hSw; (try dsimp only at hSw); go_simp); (first | done | (with_reducible rfl)))); (try simp only [Act.put]); (try simp only [List.setIfInBounds_toArray])
      refine wpAnyH_take (i := 15) (oi := _) (v := ?_) rfl (by kernel_rfl) (by kernel_rfl) (by kernel_rfl) (fun _ _ _ h => h) (Or.inl ⟨by rfl, ?_⟩) (by assumption) ?_; rotate_left; (focus ((intro w hSw; (try dsimp only at hSw); go_simp); (first | done | (with_reducible rfl)))); (try simp only [Act.put]); (try simp only [List.setIfInBounds_toArray])
      refine wpAnyH_take (i := 16) (oi := _) (v := ?_) rfl (by kernel_rfl) (by kernel_rfl) (by kernel_rfl) (fun _ _ _ h => h) (Or.inl ⟨by rfl, ?_⟩) (by assumption) ?_; rotate_left; (focus ((intro w hSw; (try dsimp only at hSw); go_simp); (first | done | (with_reducible rfl)))); (try simp only [Act.put]); (try simp only [List.setIfInBounds_toArray])
      refine wpAnyH_take (i := 17) (oi := _) (v := ?_) rfl (by kernel_rfl) (by kernel_rfl) (by kernel_rfl) (fun _ _ _ h => h) (Or.inl ⟨by rfl, ?_⟩) (by assumption) ?_; rotate_left; (focus ((intro w hSw; (try dsimp only at hSw); go_simp); (first | done | (with_reducible rfl)))); (try simp only [Act.put]); (try simp only [List.setIfInBounds_toArray])
      refine wpAnyH_take (i := 18) (oi := _) (v := ?_) rfl (by kernel_rfl) (by kernel_rfl) (by kernel_rfl) (fun _ _ _ h => h) (Or.inl ⟨by rfl, ?_⟩) (by assumption) ?_; rotate_left; (focus ((intro w hSw; (try dsimp only at hSw); go_simp); (first | done | (with_reducible rfl)))); (try simp only [Act.put]); (try simp only [List.setIfInBounds_toArray])
      refine wpAnyH_take (i := 19) (oi := _) (v := ?_) rfl (by kernel_rfl) (by kernel_rfl) (by kernel_rfl) (fun _ _ _ h => h) (Or.inl ⟨by rfl, ?_⟩) (by assumption) ?_; rotate_left; (focus ((intro w hSw; (try dsimp only at hSw); go_simp); (first | done | (with_reducible rfl)))); (try simp only [Act.put]); (try simp only [List.setIfInBounds_toArray])
      refine wpAnyH_take (i := 20) (oi := _) (v := ?_) rfl (by kernel_rfl) (by kernel_rfl) (by kernel_rfl) (fun _ _ _ h => h) (Or.inl ⟨by rfl, ?_⟩) (by assumption) ?_; rotate_left; (focus ((intro w hSw; (try dsimp only at hSw); go_simp); (first | done | (with_reducible rfl)))); (try simp only [Act.put]); (try simp only [List.setIfInBounds_toArray])
      refine wpAnyH_take (i := 21) (oi := _) (v := ?_) rfl (by kernel_rfl) (by kernel_rfl) (by kernel_rfl) (fun _ _ _ h => h) (Or.inl ⟨by rfl, ?_⟩) (by assumption) ?_; rotate_left; (focus ((intro w hSw; (try dsimp only at hSw); go_simp); (first | done | (with_reducible rfl)))); (try simp only [Act.put]); (try simp only [List.setIfInBounds_toArray])
      refine wpAnyH_take (i := 22) (oi := _) (v := ?_) rfl (by kernel_rfl) (by kernel_rfl) (by kernel_rfl) (fun _ _ _ h => h) (Or.inl ⟨by rfl, ?_⟩) (by assumption) ?_; rotate_left; (focus ((intro w hSw; (try dsimp only at hSw); go_simp); (first | done | (with_reducible rfl)))); (try simp only [Act.put]); (try simp only [List.setIfInBounds_toArray])
      refine wpAnyH_ready (rs := [11]) (by kernel_rfl) (by simp) ?_; refine AllReadyH.cons (o := _) rfl (fun K hK => ?_) AllReadyH.nil; go_simp
      refine (mdo_any b m cl cp e.cl e.op e.ttl e.tick l (.slice A2 nn c2) e.names _ (Hst1.out.mod.ext (Ext.refl W1).drew) (by omega) (small_keys Hok.out.names) (S := fun i => B ≤ i) (Rd.drew Hxn1.out) (by have := Hst1.out.hm; omega)).mono ?_
      rintro x wd ⟨rfl, hmd, hcd⟩
      replace hcd : Chg (· = m) W1 wd := ((Ext.refl W1).drew.chg (· = m)).trans hcd
      replace kc0 := (hcd.cell (p := ⟨cb, 0, none⟩) hcl (by simp only; omega)).trans kc0
      replace kc1 := (hcd.cell (p := ⟨cb, 1, none⟩) hcl (by simp only; omega)).trans kc1
      replace kc2 := (hcd.cell (p := ⟨cb, 2, none⟩) hcl (by simp only; omega)).trans kc2
      replace kc3 := (hcd.cell (p := ⟨cb, 3, none⟩) hcl (by simp only; omega)).trans kc3
      replace kc4 := (hcd.cell (p := ⟨cb, 4, none⟩) hcl (by simp only; omega)).trans kc4
      replace hcl := Nat.lt_of_lt_of_le hcl hcd.size
      have Hst2 := Lib.hid (Hst1.out.turn hmd hcd)
      have Hxn2 := Lib.hid (Rd.chg Hxn1.out hcd fun i hi e => by omega)
      have Hy2 := Lib.hid (Hy1.out.chg hcd (fun e => by omega) (fun i hi e => by omega))
      clear hmd hcd Hst1 Hxn1 Hy1
      (try go_wp2_with fail); refine hK.out _ _ ?_ (fun hHeld => ?_); (focus ((try dsimp only); (first | done | go_keep))); clear hK K; try simp only [Act.put, List.setIfInBounds_toArray, List.set_cons_zero, List.set_cons_succ]
      refine wpAnyH_ready (rs := [23]) (by kernel_rfl) (by simp) ?_; refine AllReadyH.cons (o := _) rfl (fun K hK => ?_) AllReadyH.nil; go_simp
      refine (rmdo_any (S := fun i => B ≤ i) yb cl cp e.cl e.op e.ttl e.tick l (.slice A2 nn c2) e.names _ Hy2.out (by omega) Hxn2.out (by omega)).mono ?_
      rintro x we ⟨rfl, hyd, hce⟩
      replace kc0 := (hce.cell (p := ⟨cb, 0, none⟩) hcl (by simp only; omega)).trans kc0
      replace kc1 := (hce.cell (p := ⟨cb, 1, none⟩) hcl (by simp only; omega)).trans kc1
      replace kc2 := (hce.cell (p := ⟨cb, 2, none⟩) hcl (by simp only; omega)).trans kc2
      replace kc3 := (hce.cell (p := ⟨cb, 3, none⟩) hcl (by simp only; omega)).trans kc3
      replace kc4 := (hce.cell (p := ⟨cb, 4, none⟩) hcl (by simp only; omega)).trans kc4
      replace hcl := Nat.lt_of_lt_of_le hcl hce.size
      have Hst3 := Lib.hid (Hst2.out.beside hce hm3 hb3 hyl)
      have Hxn3 := Lib.hid (Rd.chg Hxn2.out hce fun i hi e => by omega)
      have Hy3 := Lib.hid hyd
      clear hyd hce Hst2 Hxn2 Hy2
      obtain ⟨R, hR⟩ : ∃ R, doR cl cp l e.cl e.op e.ttl e.tick e.names = R := ⟨_, rfl⟩
      obtain ⟨l2, hl2⟩ : ∃ l2, doL cl cp l e.cl e.op e.ttl e.tick e.names = l2 := ⟨_, rfl⟩
      rw [hl2] at Hst3 Hy3
      rw [hR]
      unfold respV
      have hfew2 := Hst3.out.few
      clear hR hl2
      (try go_wp2_with fail); refine hK.out _ _ ?_ (fun hHeld => ?_); (focus ((try dsimp only); (first | done | go_keep))); clear hK K; try simp only [Act.put, List.setIfInBounds_toArray, List.set_cons_zero, List.set_cons_succ]
      refine wpAnyH_take (i := 24) (oi := _) (v := ?_) rfl (by kernel_rfl) (by kernel_rfl) (by kernel_rfl) (fun _ _ _ h => h) (Or.inl ⟨by rfl, ?_⟩) (by assumption) ?_; rotate_left; (focus ((intro w hSw; (try dsimp only at hSw); go_simp); (first | done | (with_reducible rfl)))); (try simp only [Act.put]); (try simp only [List.setIfInBounds_toArray])
      refine wpAnyH_take (i := 25) (oi := _) (v := ?_) rfl (by kernel_rfl) (by kernel_rfl) (by kernel_rfl) (fun _ _ _ h => h) (Or.inl ⟨by rfl, ?_⟩) (by assumption) ?_; rotate_left; (focus ((intro w hSw; (try dsimp only at hSw); go_simp); (first | done | (with_reducible rfl)))); (try simp only [Act.put]); (try simp only [List.setIfInBounds_toArray])
      refine wpAnyH_take (i := 26) (oi := _) (v := ?_) rfl (by kernel_rfl) (by kernel_rfl) (by kernel_rfl) (fun _ _ _ h => h) (Or.inl ⟨by rfl, ?_⟩) (by assumption) ?_; rotate_left; (focus ((intro w hSw; (try dsimp only at hSw); go_simp); (first | done | (with_reducible rfl)))); (try simp only [Act.put]); (try simp only [List.setIfInBounds_toArray])
      refine wpAnyH_take (i := 28) (oi := _) (v := ?_) rfl (by kernel_rfl) (by kernel_rfl) (by kernel_rfl) (fun _ _ _ h => h) (Or.inl ⟨by rfl, ?_⟩) (by assumption) ?_; rotate_left; (focus ((intro w hSw; (try dsimp only at hSw); go_simp); (first | done | (with_reducible rfl)))); (try simp only [Act.put]); (try simp only [List.setIfInBounds_toArray])
      refine wpAnyH_ready (rs := [27]) (by kernel_rfl) (by simp) ?_; refine AllReadyH.cons (o := _) rfl (fun K hK => ?_) AllReadyH.nil; go_simp
      refine (mlen_any b m cl cp l2 _ Hst3.out.mod).mono ?_
      rintro x w' ⟨rfl, rfl⟩
      (try go_wp2_with fail); refine hK.out _ _ ?_ (fun hHeld => ?_); (focus ((try dsimp only); (first | done | go_keep))); clear hK K; try simp only [Act.put, List.setIfInBounds_toArray, List.set_cons_zero, List.set_cons_succ]
      refine wpAnyH_ready (rs := [29]) (by kernel_rfl) (by simp) ?_; refine AllReadyH.cons (o := _) rfl (fun K hK => ?_) AllReadyH.nil; go_simp
      refine (rmlen_any _ yb cl cp l2 _ Hy3.out).mono ?_
      rintro x w' ⟨rfl, rfl⟩
      (try go_wp2_with fail); refine hK.out _ _ ?_ (fun hHeld => ?_); (focus ((try dsimp only); (first | done | go_keep))); clear hK K; try simp only [Act.put, List.setIfInBounds_toArray, List.set_cons_zero, List.set_cons_succ]
      refine wpAnyH_take (i := 30) (oi := _) (v := ?_) rfl (by kernel_rfl) (by kernel_rfl) (by kernel_rfl) (fun _ _ _ h => h) (Or.inl ⟨by rfl, ?_⟩) (by assumption) ?_; rotate_left; (focus ((intro w hSw; (try dsimp only at hSw); go_simp); (first | done | (with_reducible rfl)))); (try simp only [Act.put]); (try simp only [List.setIfInBounds_toArray])
      refine wpAnyH_take (i := 31) (oi := _) (v := ?_) rfl (by kernel_rfl) (by kernel_rfl) (by kernel_rfl) (fun _ _ _ h => h) (Or.inl ⟨by rfl, ?_⟩) (by assumption) ?_; rotate_left; (focus ((intro w hSw; (try dsimp only at hSw); go_simp); (first | done | (with_reducible rfl)))); (try simp only [Act.put]); (try simp only [List.setIfInBounds_toArray])
      refine wpAnyH_done (by kernel_rfl) ?_ _
      clear hHeld kc0 kc1 kc2 kc3
      go_wp2_with fail
      go_loopw [80] (fun o wr => ∃ i : Nat, i ≤ nn ∧ o = .int .i64 (i : Int) ∧ Ext we wr) (fun o _ => nn - (intOf o).toNat)
      case atStart => exact ⟨0, by omega, rfl, Ext.refl _⟩
      case round =>
        obtain ⟨i, hi, rfl, hx⟩ := hrel
        have Hx := Lib.hid hx
        clear hx kc4
        by_cases hlt2 : i < nn
        · have hdi : decide ((i : Int) < (nn : Int)) = true := by simpa using hlt2
          obtain ⟨g3, o3, c3, hv, s1, s2, _, s4, hcell⟩ := NmsAt.get (Rd.ext Hxn3.out Hx.out) (j := i) (by rw [Hnn.out]; exact hlt2)
          rw [Hnn.out] at hv s1
          simp only [Value.slice.injEq, true_and] at hv
          obtain ⟨rfl, rfl⟩ := hv
          obtain ⟨n, hni⟩ : ∃ n, e.names[i]? = some n := ⟨e.names[i]'(by have := Hnn.out; omega), by simp⟩
          obtain ⟨x1, x2, x3⟩ := hcell _ _ hni
          have hk8 := small_keys Hok.out.names n (List.mem_of_getElem? hni)
          have j0 : (0 : Int) ≤ (i : Int) := by omega
          have j1 : (i : Int) < (nn : Int) := by omega
          clear hcell hni
          go_upto_region 15 with fail
          have n2 : (wr.alloc (.cells #[.string n.a, .string n.u, .string n.k] 63)).cell? ⟨wr.heap.size, 2, none⟩ = some (.string n.k) := by go_simp
          have hA1 : Ext wr (wr.alloc (.cells #[.string n.a, .string n.u, .string n.k] 63)) := (Ext.refl wr).alloc _
          have hs1 : wr.heap.size < (wr.alloc (.cells #[.string n.a, .string n.u, .string n.k] 63)).heap.size := by simp
          obtain ⟨W2, hW2⟩ : ∃ W, wr.alloc (.cells #[.string n.a, .string n.u, .string n.k] 63) = W := ⟨_, rfl⟩
          rw [hW2] at hA1 n2 hs1
          rw [hW2]
          obtain ⟨nb, hnb⟩ : ∃ b, wr.heap.size = b := ⟨_, rfl⟩
          rw [hnb] at n2 hs1
          rw [hnb]
          have Hx2 := Lib.hid (Hx.out.trans hA1)
          have HM := Lib.hid (Hst3.out.mod.ext Hx2.out)
          have HY := Lib.hid (Hy3.out.ext Hx2.out)
          clear hW2 hA1 hnb x1 x2 x3 Hx
          refine wp_region_held_drew (S := fun w' => w'.cell? ⟨nb, 2, none⟩ = some (.string n.k)) (by kernel_rfl) ?_ (fun hHeld => ?_)
          · go_keep
          refine wpAnyH_take (i := 0) (oi := _) (v := ?_) rfl (by kernel_rfl) (by kernel_rfl) (by kernel_rfl) (fun _ _ _ h => h) (Or.inl ⟨by rfl, ?_⟩) (by assumption) ?_; rotate_left; (focus ((intro w hSw; (try dsimp only at hSw); go_simp); (first | done | (with_reducible rfl)))); (try simp only [Act.put]); (try simp only [List.setIfInBounds_toArray])
          refine wpAnyH_take (i := 1) (oi := _) (v := ?_) rfl (by kernel_rfl) (by kernel_rfl) (by kernel_rfl) (fun _ _ _ h => h) (Or.inl ⟨by rfl, ?_⟩) (by assumption) ?_; rotate_left; (focus ((intro w hSw; (try dsimp only at hSw); go_simp); (first | done | (with_reducible rfl)))); (try simp only [Act.put]); (try simp only [List.setIfInBounds_toArray])
          refine wpAnyH_take (i := 2) (oi := _) (v := ?_) rfl (by kernel_rfl) (by kernel_rfl) (by kernel_rfl) (fun _ _ _ h => h) (Or.inl ⟨by rfl, ?_⟩) (by assumption) ?_; rotate_left; (focus ((intro w hSw; (try dsimp only at hSw); go_simp); (first | done | (with_reducible rfl)))); (try simp only [Act.put]); (try simp only [List.setIfInBounds_toArray])
          refine wpAnyH_take (i := 4) (oi := _) (v := ?_) rfl (by kernel_rfl) (by kernel_rfl) (by kernel_rfl) (fun _ _ _ h => h) (Or.inl ⟨by rfl, ?_⟩) (by assumption) ?_; rotate_left; (focus ((intro w hSw; (try dsimp only at hSw); go_simp); (first | done | (with_reducible rfl)))); (try simp only [Act.put]); (try simp only [List.setIfInBounds_toArray])
          refine wpAnyH_take (i := 5) (oi := _) (v := ?_) rfl (by kernel_rfl) (by kernel_rfl) (by kernel_rfl) (fun _ _ _ h => h) (Or.inl ⟨by rfl, ?_⟩) (by assumption) ?_; rotate_left; (focus ((intro w hSw; (try dsimp only at hSw); go_simp); (first | done | (with_reducible rfl)))); (try simp only [Act.put]); (try simp only [List.setIfInBounds_toArray])
          refine wpAnyH_take (i := 6) (oi := _) (v := ?_) rfl (by kernel_rfl) (by kernel_rfl) (by kernel_rfl) (fun _ _ _ h => h) (Or.inl ⟨by rfl, ?_⟩) (by assumption) ?_; rotate_left; (focus ((intro w hSw; (try dsimp only at hSw); go_simp); (first | done | (with_reducible rfl)))); (try simp only [Act.put]); (try simp only [List.setIfInBounds_toArray])
          refine wpAnyH_ready (rs := [3]) (by kernel_rfl) (by simp) ?_; refine AllReadyH.cons (o := _) rfl (fun K hK => ?_) AllReadyH.nil; go_simp
          refine (mget_any b m cl cp l2 n.k _ (HM.out.ext (Ext.refl W2).drew) hk8).mono ?_
          rintro x w5 ⟨rfl, hx5⟩
          unfold rcV
          replace hx5 := (Ext.refl W2).drew.trans hx5
          replace n2 := (hx5.cell (p := ⟨nb, 2, none⟩) hs1).trans n2
          replace hs1 := Nat.lt_of_lt_of_le hs1 hx5.size
          have HY5 := Lib.hid (HY.out.ext hx5)
          have Hx5 := Lib.hid (Hx2.out.trans hx5)
          clear hx5 HM HY Hx2
          (try go_wp2_with fail); refine hK.out _ _ ?_ (fun hHeld => ?_); (focus ((try dsimp only); (first | done | go_keep))); clear hK K; try simp only [Act.put, List.setIfInBounds_toArray, List.set_cons_zero, List.set_cons_succ]
          refine wpAnyH_ready (rs := [7]) (by kernel_rfl) (by simp) ?_; refine AllReadyH.cons (o := _) rfl (fun K hK => ?_) AllReadyH.nil; go_simp
          refine (rmget_any _ yb cl cp l2 n.k _ HY5.out).mono ?_
          rintro x w6 ⟨rfl, hx6⟩
          unfold rcV
          replace n2 := (hx6.cell (p := ⟨nb, 2, none⟩) hs1).trans n2
          have Hx6 := Lib.hid (Hx5.out.trans hx6)
          clear hx6 HY5 Hx5
          (try go_wp2_with fail); refine hK.out _ _ ?_ (fun hHeld => ?_); (focus ((try dsimp only); (first | done | go_keep))); clear hK K; try simp only [Act.put, List.setIfInBounds_toArray, List.set_cons_zero, List.set_cons_succ]
          refine wpAnyH_take (i := 8) (oi := _) (v := ?_) rfl (by kernel_rfl) (by kernel_rfl) (by kernel_rfl) (fun _ _ _ h => h) (Or.inl ⟨by rfl, ?_⟩) (by assumption) ?_; rotate_left; (focus ((intro w hSw; (try dsimp only at hSw); go_simp); (first | done | (with_reducible rfl)))); (try simp only [Act.put]); (try simp only [List.setIfInBounds_toArray])
          refine wpAnyH_done (by kernel_rfl) ?_ _
          clear hHeld n2
          go_wp2_with fail
          go_roundw
          case rel => exact ⟨i + 1, by omega, by go_num, Hx6.out⟩
          case measure => simp [intOf]; omega
        · have hdi : decide ((i : Int) < (nn : Int)) = false := by simp; omega
          have Hst5 := Lib.hid (Hst3.out.ext' Hx.out)
          have Hy5 := Lib.hid (Hy3.out.ext Hx.out)
          go_wp2_with fail
          go_roundw
          case rel => exact ⟨k + 1, l2, by omega, by go_num, Hst5.out, Hy5.out⟩
          case measure => simp [intOf]; omega
    · have hd : decide ((k : Int) < (ps.length : Int)) = false := by simp; omega
      have hfew := Hst.out.few
      go_wp2_with fail
      refine (awake28 _).mono ?_
      rintro x w6 ⟨rfl, hx6⟩
      have Hst6 := Lib.hid (Hst.out.ext' hx6)
      have Hy6 := Lib.hid (Hy.out.ext hx6)
      clear hx6 Hst Hy
      go_wp2_with fail
      refine (mkeys_any b m cl cp l _ Hst6.out.mod (by omega)).mono ?_
      rintro x w7 ⟨v7, rfl, ho7, hx7⟩
      have Hx7 := Lib.hid (Hst6.out.ext.trans hx7)
      have Hy7 := Lib.hid (Hy6.out.ext hx7)
      have hr7 := Rd.of_own ho7 fun k hk => (ho7.lt k hk).1
      have Hr7 := Lib.hid hr7
      clear hx7 Hst6 Hy6 ho7 hr7
      go_wp2_with fail
      refine (rmkeys_any _ yb cl cp l _ Hy7.out (by omega)).mono ?_
      rintro x w8 ⟨v8, rfl, ho8, hx8⟩
      have Hx8 := Lib.hid (Hx7.out.trans hx8)
      have Hr7' := Lib.hid (Rd.ext Hr7.out hx8)
      have hr8 := Rd.of_own ho8 fun k hk => (ho8.lt k hk).1
      have Hr8 := Lib.hid hr8
      clear hx8 Hx7 Hy7 Hr7 ho8 hr8
      go_wp2_with fail
      refine (same_str v7 v8 _ (keysL l) _ _ _ Hr7'.out Hr8.out).mono ?_
      rintro x w9 ⟨rfl, hx9⟩
      have Hx9 := Lib.hid (Hx8.out.trans hx9)
      clear hx9 Hx8
      go_wp2_with fail
      go_ret
      exact ⟨rfl, Hx9.out.below⟩
end modelScript
end Go.Proofs.Ytjefpeppkphgbaa
