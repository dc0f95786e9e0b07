/-
  HistoryNone: Search finds no order for two answered holds of one name.
  Conditions: none.
-/
import Derived.Test.YthenclenabcmgaaAw32
namespace Go.Proofs.Ythenclenabcmgaa
open Go.RowKit Go.Sort
set_option maxHeartbeats 8000000
set_option maxRecDepth 100000

/-- Block b holds these cells. -/
structure OpsBlk (w : World) (b : Nat) (cs : List Value) : Prop where
  lt : b < w.heap.size
  fz : ∀ k, w.frozen? ⟨b, k, none⟩ = false
  cl : ∀ (k : Nat) (u : Value), cs[k]? = some u → w.cell? ⟨b, k, none⟩ = some u
  ln : cs.length = 46
theorem OpsBlk.set {w : World} {b : Nat} {cs : List Value} (h : OpsBlk w b cs) (k : Nat) (u : Value) (hk : k < 46) : OpsBlk (w.setCell ⟨b, k, none⟩ u) b (cs.set k u) := by
  have hk' : k < cs.length := by rw [h.ln]; exact hk
  refine ⟨by simp [World.setCell]; exact h.lt, fun j => (World.frozen?_setCell _ _ _ _).trans (h.fz j), fun j v hv => ?_, by rw [List.length_set, h.ln]⟩
  by_cases hjk : j = k
  · subst hjk
    rw [List.getElem?_set_self hk'] at hv
    cases hv
    exact World.cell?_setCell_same _ _ _ (h.cl j _ (List.getElem?_eq_getElem hk'))
  · rw [List.getElem?_set_ne (fun h => hjk h.symm)] at hv
    exact (World.cell?_setCell_other _ _ _ _ (by simp)).trans (h.cl j v hv)
theorem blk_new (w : World) (l : List Opn) (t : TypeId) (hl : l.length = 2) : OpsBlk (w.alloc (.cells (opsC l).toArray t)) w.heap.size (opsC l) := by
  have h1 : (w.alloc (.cells (opsC l).toArray t)).heap[w.heap.size]? = some (.cells (opsC l).toArray t) := heap_alloc_new w _
  refine ⟨by simp, fun k => by simp only [World.frozen?, h1]; simp, fun k u hu => ?_, by rw [opsC_len, hl]⟩
  simp only [World.cell?, h1]
  rw [← hu]; simp
theorem OpsBlk.ops {w : World} {b : Nat} {l : List Opn} (h : OpsBlk w b (opsC l)) (S : Nat → Prop) (hS : S b) (hl : l.length ≤ 1000) (hn : ∀ o ∈ l, NmsAt w S o.nv o.ns) : OpsAt w S (.slice (some ⟨b, 0, none⟩) l.length l.length) l := by
  refine ⟨⟨opsC_len l, _, _, rfl, Nat.le_refl _, by unfold maxLen; omega, fun _ => ⟨b, 0, rfl, hS, h.lt, fun j u hu => ?_⟩⟩, hn⟩
  rw [Nat.zero_add]
  exact h.cl j u hu
theorem no_fits (nv : Value) (b0 b1 d1 : Int) (h1 : I64 d1) : (∀ o ∈ noL nv b0 b1 d1, o.fits) ∧ KeyOk (noL nv b0 b1 d1) := by
  unfold noL KeyOk
  refine ⟨fun o ho => ?_, fun o ho n hn => ?_⟩
  · simp only [List.mem_cons, List.not_mem_nil, or_false] at ho
    rcases ho with rfl | rfl
    · exact ⟨by unfold I64; simp; done, by unfold I64; simp; done⟩
    · exact ⟨by unfold I64; simp; done, h1⟩
  · simp only [List.mem_cons, List.not_mem_nil, or_false] at ho
    rcases ho with rfl | rfl <;> (rw [List.mem_singleton.1 hn]; exact Nat.le_trans (show nmA.k.size ≤ 1 from Nat.le_refl _) (by unfold maxLen; omega))
/-- The world behind the law's assignments. -/
def noW (w1 : World) (ob : Nat) (p0 p1 p2 : Int) : World := ((((((((((((w1.setCell ⟨ob, 15, none⟩ (.int .i64 0)).setCell ⟨ob, 16, none⟩ (.int .i64 (-1))).setCell ⟨ob, 17, none⟩ (.string ⟨#[]⟩)).setCell ⟨ob, 18, none⟩ (.int .i64 0)).setCell ⟨ob, 19, none⟩ (.int .i64 0)).setCell ⟨ob, 20, none⟩ (.string ⟨#[]⟩)).setCell ⟨ob, 21, none⟩ (.int .i64 0)).setCell ⟨ob, 22, none⟩ (.int .i64 0)).setCell ⟨ob, 12, none⟩ (.int .i64 p0)).setCell ⟨ob, 35, none⟩ (.int .i64 (3 + p1))).setCell ⟨ob, 36, none⟩ (.int .i64 (5 + p2))).setCell ⟨ob, 37, none⟩ (.int .i64 11))
theorem noW_chg (w1 : World) (ob : Nat) (p0 p1 p2 : Int) : Chg (· = ob) w1 (noW w1 ob p0 p1 p2) := (((((((((((((Chg.refl (· = ob) w1).setCell (p := ⟨ob, 15, none⟩) (.inl rfl) (.int .i64 0)).setCell (p := ⟨ob, 16, none⟩) (.inl rfl) (.int .i64 (-1))).setCell (p := ⟨ob, 17, none⟩) (.inl rfl) (.string ⟨#[]⟩)).setCell (p := ⟨ob, 18, none⟩) (.inl rfl) (.int .i64 0)).setCell (p := ⟨ob, 19, none⟩) (.inl rfl) (.int .i64 0)).setCell (p := ⟨ob, 20, none⟩) (.inl rfl) (.string ⟨#[]⟩)).setCell (p := ⟨ob, 21, none⟩) (.inl rfl) (.int .i64 0)).setCell (p := ⟨ob, 22, none⟩) (.inl rfl) (.int .i64 0)).setCell (p := ⟨ob, 12, none⟩) (.inl rfl) (.int .i64 p0)).setCell (p := ⟨ob, 35, none⟩) (.inl rfl) (.int .i64 (3 + p1))).setCell (p := ⟨ob, 36, none⟩) (.inl rfl) (.int .i64 (5 + p2))).setCell (p := ⟨ob, 37, none⟩) (.inl rfl) (.int .i64 11))
theorem noW_blk {w1 : World} {ob : Nat} {nv : Value} (p0 p1 p2 : Int) (h : OpsBlk w1 ob (opsC (exL nv))) : OpsBlk (noW w1 ob p0 p1 p2) ob (opsC (noL nv p0 (3 + p1) (5 + p2))) := ((((((((((((h.set 15 (.int .i64 0) (by omega)).set 16 (.int .i64 (-1)) (by omega)).set 17 (.string ⟨#[]⟩) (by omega)).set 18 (.int .i64 0) (by omega)).set 19 (.int .i64 0) (by omega)).set 20 (.string ⟨#[]⟩) (by omega)).set 21 (.int .i64 0) (by omega)).set 22 (.int .i64 0) (by omega)).set 12 (.int .i64 p0) (by omega)).set 35 (.int .i64 (3 + p1)) (by omega)).set 36 (.int .i64 (5 + p2)) (by omega)).set 37 (.int .i64 11) (by omega))
namespace historyNone
theorem walk (a0 a1 a2 : Int) (w : World) (_ : I64 a0) (_ : I64 a1) (_ : I64 a2) :
    Calls Try.prog 3 #[.int .i64 a0, .int .i64 a1, .int .i64 a2] w fun e w' => e = .returned (.bool true) ∧ Below w.heap.size w w' := by
  obtain ⟨p0, hp0⟩ : ∃ x, pickI a0 3 = x := ⟨_, rfl⟩
  obtain ⟨p1, hp1⟩ : ∃ x, pickI a1 2 = x := ⟨_, rfl⟩
  obtain ⟨p2, hp2⟩ : ∃ x, pickI a2 3 = x := ⟨_, rfl⟩
  have b0 := pickI_bd a0 3 (by omega)
  have b1 := pickI_bd a1 2 (by omega)
  have b2 := pickI_bd a2 3 (by omega)
  rw [hp0] at b0
  rw [hp1] at b1
  rw [hp2] at b2
  go_enter Try.func3, Try.ntmps3
  go_wp2_with fail
  refine (example_any _).mono ?_
  rintro x w1 ⟨rfl, hw1⟩
  have hB := blk_new (w.alloc (.cells #[.string ⟨#[97]⟩, .string ⟨#[97]⟩, .string ⟨#[97]⟩] 41)) (exL (.slice (some ⟨w.heap.size, 0, none⟩) 1 1)) 31 rfl
  rw [show (w.alloc (.cells #[.string ⟨#[97]⟩, .string ⟨#[97]⟩, .string ⟨#[97]⟩] 41)).heap.size = w.heap.size + 1 by simp, ← hw1] at hB
  have hx1 : Ext w w1 := by rw [hw1]; exact ((Ext.refl w).alloc _).alloc _
  have hb1 : w1.heap[w.heap.size]? = some (.cells #[.string ⟨#[97]⟩, .string ⟨#[97]⟩, .string ⟨#[97]⟩] 41) := by
    rw [hw1, Below.heap_alloc _ _ _ (by simp)]
    exact heap_alloc_new w _
  obtain ⟨ob, hob⟩ : ∃ k, w.heap.size + 1 = k := ⟨_, rfl⟩
  obtain ⟨nv, hnv⟩ : ∃ k, Value.slice (some ⟨w.heap.size, 0, none⟩) 1 1 = k := ⟨_, rfl⟩
  rw [hob] at hB ⊢
  rw [hnv] at hB
  have HB := Lib.hid hB
  have HX := Lib.hid hx1
  have HN := Lib.hid hb1
  have HV := Lib.hid hnv
  have Hob := Lib.hid hob
  have fz := hB.fz
  have k12 := hB.cl 12 _ rfl
  have k15 := hB.cl 15 _ rfl
  have k16 := hB.cl 16 _ rfl
  have k17 := hB.cl 17 _ rfl
  have k18 := hB.cl 18 _ rfl
  have k19 := hB.cl 19 _ rfl
  have k20 := hB.cl 20 _ rfl
  have k21 := hB.cl 21 _ rfl
  have k22 := hB.cl 22 _ rfl
  have k35 := hB.cl 35 _ rfl
  have k36 := hB.cl 36 _ rfl
  have k37 := hB.cl 37 _ rfl
  clear hB hx1 hb1 hnv hob hw1
  go_wp2_with (go_at_call 5; refine (pick_any _ _ (by omega) (by omega) _).mono ?_; rintro e w' ⟨rfl, rfl⟩; first | rw [hp0] | rw [hp1] | rw [hp2])
  have hW2 := noW_blk p0 p1 p2 HB.out
  have hc := noW_chg w1 ob p0 p1 p2
  obtain ⟨W, hWW⟩ : ∃ W, noW w1 ob p0 p1 p2 = W := ⟨_, rfl⟩
  have hWc : ((((((((((((w1.setCell ⟨ob, 15, none⟩ (.int .i64 0)).setCell ⟨ob, 16, none⟩ (.int .i64 (-1))).setCell ⟨ob, 17, none⟩ (.string ⟨#[]⟩)).setCell ⟨ob, 18, none⟩ (.int .i64 0)).setCell ⟨ob, 19, none⟩ (.int .i64 0)).setCell ⟨ob, 20, none⟩ (.string ⟨#[]⟩)).setCell ⟨ob, 21, none⟩ (.int .i64 0)).setCell ⟨ob, 22, none⟩ (.int .i64 0)).setCell ⟨ob, 12, none⟩ (.int .i64 p0)).setCell ⟨ob, 35, none⟩ (.int .i64 (3 + p1))).setCell ⟨ob, 36, none⟩ (.int .i64 (5 + p2))).setCell ⟨ob, 37, none⟩ (.int .i64 11)) = W := hWW
  rw [hWW] at hW2 hc
  rw [hWc]
  have hnb : W.heap[w.heap.size]? = some (.cells #[.string ⟨#[97]⟩, .string ⟨#[97]⟩, .string ⟨#[97]⟩] 41) := (hc.block _ (Array.getElem?_eq_some_iff.1 HN.out).1 (by have := Hob.out; first | omega | (simp only; omega))).trans HN.out
  have hn := nms_new W w.heap.size _ hnb (fun k => w.heap.size ≤ k) (Nat.le_refl _)
  rw [HV.out] at hn
  have ho := hW2.ops (fun k => w.heap.size ≤ k) (by have := Hob.out; first | omega | (simp only; omega)) (by simp [noL]) (fun o ho => by
    simp only [noL, List.mem_cons, List.not_mem_nil, or_false] at ho
    rcases ho with rfl | rfl <;> exact hn)
  have Ho := Lib.hid ho
  have X := Lib.hid (HX.out.chg_new hc fun k hk => by have := Hob.out; omega)
  have hsr : searchL 2 2 (noL nv p0 (3 + p1) (5 + p2)) 50 = ([], 4, 23) := srch_no nv _ _ _ (by omega) (by omega) (by omega)
  have Hsr := Lib.hid hsr
  have hft := no_fits nv p0 (3 + p1) (5 + p2) (by unfold I64; omega)
  clear hW2 hnb hn ho hc hWW hWc hsr k12 k15 k16 k17 k18 k19 k20 k21 k22 k35 k36 k37 fz
  refine (search_any 2 2 50 _ _ _ Ho.out hft.1 hft.2).mono ?_
  rintro x w2 ⟨v2, rfl, hn2, hx2⟩
  rw [Hsr.out] at hn2 ⊢
  obtain ⟨A2, C2, hv2⟩ := hn2.shape
  subst hv2
  have X2 := Lib.hid (X.out.trans hx2)
  clear hn2 hx2
  go_wp2_with fail
  refine (awake32_any _).mono ?_
  rintro x w3 ⟨rfl, hx3⟩
  have X3 := Lib.hid (X2.out.trans hx3)
  clear hx3
  go_wp2_with fail
  go_ret
  exact ⟨rfl, X3.out.below⟩
end historyNone
end Go.Proofs.Ythenclenabcmgaa
