/-
  awake of chapter 28: the example of the chapter.
  Conditions: none.
-/
import Derived.Test.YtfbhbnolnjcaiaaModH
namespace Go.Proofs.Ytfbhbnolnjcaiaa
open Go.RowKit Go.Sort Go.Shelf
set_option maxHeartbeats 4000000
set_option maxRecDepth 100000

theorem rd_some (w : World) (cs : Array Value) (t : TypeId) (z n : Nat) (h : cs.size = n * z) (hn : n ≤ maxLen) : Rd (w.alloc (.cells cs t)) (fun k => k = w.heap.size) z (.slice (some ⟨w.heap.size, 0, none⟩) n n) n cs.toList := by
  refine ⟨by simp [h], _, n, rfl, Nat.le_refl _, hn, fun _ => ⟨w.heap.size, 0, rfl, rfl, by simp, fun j u hu => ?_⟩⟩
  rw [Nat.zero_add]
  show (w.alloc (.cells cs t)).cell? ⟨w.heap.size, j, none⟩ = some u
  have h1 : (w.alloc (.cells cs t)).heap[w.heap.size]? = some (.cells cs t) := heap_alloc_new w _
  simp only [World.cell?, h1]
  simpa using hu
def awA : Nm := ⟨⟨#[97]⟩, ⟨#[]⟩, ⟨#[97]⟩⟩
def awB : Nm := ⟨⟨#[98]⟩, ⟨#[]⟩, ⟨#[98]⟩⟩
theorem aw_p1 : properB 1 0 1 5 3 [awA, awB] = true := by decide
theorem aw_p2 : properB 1 0 1 5 3 [awA] = true := by decide
theorem aw_r1 : doR 1 1 [] 0 1 5 3 [awA, awB] = ⟨7, 1, ⟨#[98]⟩, default, 3⟩ := by unfold doR; rw [aw_p1]; rfl
theorem aw_l1 : doL 1 1 [] 0 1 5 3 [awA, awB] = [] := by unfold doL; rw [if_neg (by rintro ⟨_, h⟩; revert h; decide)]
theorem aw_r2 : doR 1 1 [] 0 1 5 3 [awA] = ⟨0, -1, ⟨#[]⟩, default, 3⟩ := by unfold doR; rw [aw_p2]; rfl
theorem aw_l2 : (doL 1 1 [] 0 1 5 3 [awA]).length = 1 := by unfold doL; rw [if_pos ⟨aw_p2, by decide⟩]; rfl
theorem nms_two (w : World) : NmsAt (w.alloc (.cells #[.string ⟨#[97]⟩, .string ⟨#[]⟩, .string ⟨#[97]⟩, .string ⟨#[98]⟩, .string ⟨#[]⟩, .string ⟨#[98]⟩] 68)) (fun k => k = w.heap.size) (.slice (some ⟨w.heap.size, 0, none⟩) 2 2) [awA, awB] :=
  rd_some w #[.string ⟨#[97]⟩, .string ⟨#[]⟩, .string ⟨#[97]⟩, .string ⟨#[98]⟩, .string ⟨#[]⟩, .string ⟨#[98]⟩] 68 3 2 rfl (by unfold maxLen; omega)
theorem nms_one (w : World) : NmsAt (w.alloc (.cells #[.string ⟨#[97]⟩, .string ⟨#[]⟩, .string ⟨#[97]⟩] 68)) (fun k => k = w.heap.size) (.slice (some ⟨w.heap.size, 0, none⟩) 1 1) [awA] :=
  rd_some w #[.string ⟨#[97]⟩, .string ⟨#[]⟩, .string ⟨#[97]⟩] 68 3 1 rfl (by unfold maxLen; omega)
theorem awake28 (w : World) : Calls Try.prog 16 #[] w fun e w' => e = .returned (.bool true) ∧ Ext w w' := by
  go_enter Try.func16, Try.ntmps16
  go_wp2_with fail
  refine (mnew_any 1 1 _).mono ?_
  rintro x w1 (⟨hc, _⟩ | ⟨_, b, m, rfl, hm, hb1, hm1, hx1⟩)
  · exact absurd hc (by decide)
  have Hm := Lib.hid hm
  have Hx1 := Lib.hid hx1
  have Hb1 := Lib.hid hb1
  have Hm1 := Lib.hid hm1
  clear hm hx1 hb1 hm1
  go_wp2_with fail
  have hxa : Ext w1 (w1.alloc (.cells #[.string ⟨#[97]⟩, .string ⟨#[]⟩, .string ⟨#[97]⟩, .string ⟨#[98]⟩, .string ⟨#[]⟩, .string ⟨#[98]⟩] 68)) := (Ext.refl w1).alloc _
  have hml := Hm.out.map.lt
  have hcall := mdo_any b m 1 1 0 1 5 3 [] _ _ _ (Hm.out.ext hxa) (by simp) (by intro n hn; simp at hn; rcases hn with rfl | rfl <;> decide) (nms_two w1) (by omega)
  refine hcall.mono ?_
  rintro x w2 ⟨rfl, hm2, hc2⟩
  rw [aw_l1] at hm2
  rw [aw_r1]
  unfold respV
  have hx2 : Ext w w2 := (Hx1.out.trans hxa).chg_new hc2 fun i hi => by subst hi; exact Hm1.out
  have Hm2 := Lib.hid hm2
  have Hx2 := Lib.hid hx2
  clear hxa hml hcall hm2 hc2 hx2 Hm Hx1
  simp only [def_rc]
  have t0 : (w2.alloc (.cells #[.int .i64 7, .int .i64 1, .string ⟨#[98]⟩, .int .i64 0, .int .i64 0, .string ⟨#[]⟩, .int .i64 0, .int .i64 3] 28)).cell? ⟨w2.heap.size, 0, none⟩ = some (.int .i64 7) := by go_simp
  have t1 : (w2.alloc (.cells #[.int .i64 7, .int .i64 1, .string ⟨#[98]⟩, .int .i64 0, .int .i64 0, .string ⟨#[]⟩, .int .i64 0, .int .i64 3] 28)).cell? ⟨w2.heap.size, 1, none⟩ = some (.int .i64 1) := by go_simp
  have t2 : (w2.alloc (.cells #[.int .i64 7, .int .i64 1, .string ⟨#[98]⟩, .int .i64 0, .int .i64 0, .string ⟨#[]⟩, .int .i64 0, .int .i64 3] 28)).cell? ⟨w2.heap.size, 2, none⟩ = some (.string ⟨#[98]⟩) := by go_simp
  have t3 : (w2.alloc (.cells #[.int .i64 7, .int .i64 1, .string ⟨#[98]⟩, .int .i64 0, .int .i64 0, .string ⟨#[]⟩, .int .i64 0, .int .i64 3] 28)).cell? ⟨w2.heap.size, 3, none⟩ = some (.int .i64 0) := by go_simp
  have t4 : (w2.alloc (.cells #[.int .i64 7, .int .i64 1, .string ⟨#[98]⟩, .int .i64 0, .int .i64 0, .string ⟨#[]⟩, .int .i64 0, .int .i64 3] 28)).cell? ⟨w2.heap.size, 4, none⟩ = some (.int .i64 0) := by go_simp
  have t5 : (w2.alloc (.cells #[.int .i64 7, .int .i64 1, .string ⟨#[98]⟩, .int .i64 0, .int .i64 0, .string ⟨#[]⟩, .int .i64 0, .int .i64 3] 28)).cell? ⟨w2.heap.size, 5, none⟩ = some (.string ⟨#[]⟩) := by go_simp
  have t6 : (w2.alloc (.cells #[.int .i64 7, .int .i64 1, .string ⟨#[98]⟩, .int .i64 0, .int .i64 0, .string ⟨#[]⟩, .int .i64 0, .int .i64 3] 28)).cell? ⟨w2.heap.size, 6, none⟩ = some (.int .i64 0) := by go_simp
  have t7 : (w2.alloc (.cells #[.int .i64 7, .int .i64 1, .string ⟨#[98]⟩, .int .i64 0, .int .i64 0, .string ⟨#[]⟩, .int .i64 0, .int .i64 3] 28)).cell? ⟨w2.heap.size, 7, none⟩ = some (.int .i64 3) := by go_simp
  have hlt : w2.heap.size < (w2.alloc (.cells #[.int .i64 7, .int .i64 1, .string ⟨#[98]⟩, .int .i64 0, .int .i64 0, .string ⟨#[]⟩, .int .i64 0, .int .i64 3] 28)).heap.size := by simp
  have hxr : Ext w2 (w2.alloc (.cells #[.int .i64 7, .int .i64 1, .string ⟨#[98]⟩, .int .i64 0, .int .i64 0, .string ⟨#[]⟩, .int .i64 0, .int .i64 3] 28)) := (Ext.refl w2).alloc _
  obtain ⟨tb, htb⟩ : ∃ t, w2.heap.size = t := ⟨_, rfl⟩
  obtain ⟨W2, hW2⟩ : ∃ W, (w2.alloc (.cells #[.int .i64 7, .int .i64 1, .string ⟨#[98]⟩, .int .i64 0, .int .i64 0, .string ⟨#[]⟩, .int .i64 0, .int .i64 3] 28)) = W := ⟨_, rfl⟩
  rw [hW2] at t0 t1 t2 t3 t4 t5 t6 t7 hlt hxr
  rw [htb] at t0 t1 t2 t3 t4 t5 t6 t7 hlt
  have hmt : m < tb := by rw [← htb]; exact Hm2.out.map.lt
  have Hxr := Lib.hid hxr
  go_upto_region 5 with fail
  clear hW2 htb hxr
  go_wp2_with fail
  have hxa : Ext W2 (W2.alloc (.cells #[.string ⟨#[97]⟩, .string ⟨#[]⟩, .string ⟨#[97]⟩] 68)) := (Ext.refl W2).alloc _
  have hcall := mdo_any b m 1 1 0 1 5 3 [] _ _ _ ((Hm2.out.ext Hxr.out).ext hxa) (by simp) (by intro n hn; simp at hn; subst hn; decide) (nms_one W2) (by omega)
  refine hcall.mono ?_
  rintro x w3 ⟨rfl, hm3, hc3⟩
  obtain ⟨l3, hl3⟩ : ∃ l, doL 1 1 [] 0 1 5 3 [awA] = l := ⟨_, rfl⟩
  have hll := aw_l2
  rw [hl3] at hm3 hll
  rw [aw_r2]
  unfold respV
  have hcg : Chg (· = m) W2 w3 := (hxa.chg _).trans hc3
  have htm : ¬ tb = m := by omega
  have t0 := (hcg.cell (p := ⟨tb, 0, none⟩) hlt htm).trans t0
  have t1 := (hcg.cell (p := ⟨tb, 1, none⟩) hlt htm).trans t1
  have t2 := (hcg.cell (p := ⟨tb, 2, none⟩) hlt htm).trans t2
  have t3 := (hcg.cell (p := ⟨tb, 3, none⟩) hlt htm).trans t3
  have t4 := (hcg.cell (p := ⟨tb, 4, none⟩) hlt htm).trans t4
  have t5 := (hcg.cell (p := ⟨tb, 5, none⟩) hlt htm).trans t5
  have t6 := (hcg.cell (p := ⟨tb, 6, none⟩) hlt htm).trans t6
  have t7 := (hcg.cell (p := ⟨tb, 7, none⟩) hlt htm).trans t7
  have hlt3 : tb < w3.heap.size := Nat.lt_of_lt_of_le hlt hcg.size
  have Hm3 := Lib.hid hm3
  have Hx3 := Lib.hid ((Hx2.out.trans Hxr.out).chg_new hcg fun i hi => by subst hi; exact Hm1.out)
  have Hl3 := Lib.hid hll
  clear hxa hcall hm3 hc3 hl3 hll hcg hmt htm Hm2 Hx2 Hxr
  simp only [def_rc]
  go_wp2_with (go_at_call 46; refine (mlen_any b m 1 1 l3 _ (Hm3.out.ext (by repeat' (first | exact Ext.refl _ | assumption | apply Ext.alloc | apply Ext.drewN | apply Ext.drew | (refine Ext.trans ?_ (by assumption)) | (refine ext_setCell ?_ (by first | (simp; done) | (simp; omega)) _))))).mono ?_; rintro x w4 ⟨rfl, rfl⟩; rw [Hl3.out])
  go_ret
  exact ⟨rfl, Hx3.out.trans (by repeat' (first | exact Ext.refl _ | assumption | apply Ext.alloc | apply Ext.drewN | apply Ext.drew | (refine Ext.trans ?_ (by assumption)) | (refine ext_setCell ?_ (by first | (simp; done) | (simp; omega)) _)))⟩
end Go.Proofs.Ytfbhbnolnjcaiaa
