/-
  The walks of the laws RecordOwner, RecordGrows and RecordStays.
  Conditions: none.
-/
import Derived.Test.YtkhfjedeccjnbaaLaw24a
import Derived.Test.YtkhfjedeccjnbaaMkRec
namespace Go.Proofs.Ytkhfjedeccjnbaa
open Go.RowKit Go.Sort
set_option maxHeartbeats 2000000
set_option maxRecDepth 100000
attribute [local go_sem] cell_grow_any


/-- What the laws on records take of Test. -/
theorem live_pos {st dl now : Int} (h : liveB st dl now = true) : st = 2 ∨ st = 1 := live_st h
theorem test_other {st ow dl op client now : Int} (hl : liveB st dl now = true) (ho : ¬ client = ow) (h1 : 1 ≤ op) (h7 : op ≤ 7) : (testE st ow dl op client now == 0) = (op == 7) := by
  have ho' : ¬ ow = client := fun h => ho h.symm
  rcases (show op = 1 ∨ op = 2 ∨ op = 3 ∨ op = 4 ∨ op = 5 ∨ op = 6 ∨ op = 7 by omega) with rfl | rfl | rfl | rfl | rfl | rfl | rfl
  · simp [testE, hl]
  · simp [testE, ownedE, hl, ho']
  · simp [testE, ownedE, hl, ho']
  · simp [testE, ownedE, hl, ho']
  · simp [testE, ownedE, hl, ho']
  · have : ¬ st = 0 := by rcases live_pos hl with h | h <;> omega
    simp [testE, hl, this]
  · simp [testE]

/-- The first field of a record that is a value. -/
theorem field_st (w : World) (st ow dl : Int) (nm : ByteArray) : (Instr.field 30 (.agg #[.int .i64 st, .int .i64 ow, .string nm, .int .i64 dl]) 0).run Try.prog w = .ok (.int .i64 st) w := by kernel_rfl

namespace recordOwner
theorem walk (a : Option Addr) (len cap : Nat) (zs : List Int) (a1 a2 a3 : Int) (w : World) (h : IsRow .i64 w a len cap zs) (_ : I64 a1) (_ : I64 a2) (_ : I64 a3) :
    Calls Try.prog 10 #[.slice a len cap, .int .i64 a1, .int .i64 a2, .int .i64 a3] w fun e w' => e = .returned (.bool true) ∧ Below w.heap.size w w' := by
  obtain ⟨k, hk⟩ : ∃ k, pickI a1 7 = k := ⟨_, rfl⟩
  have bk := pickI_bd a1 7 (by omega)
  rw [hk] at bk
  obtain ⟨bk0, bk1⟩ := bk
  obtain ⟨c, hcl⟩ : ∃ c, pickI a2 4 = c := ⟨_, rfl⟩
  obtain ⟨t, ht⟩ : ∃ t, pickI a3 45 = t := ⟨_, rfl⟩
  go_enter Try.func10, Try.ntmps10
  go_wp2_with fail
  refine (record_any _ _ _ _ _ h).mono ?_
  rintro e w0 ⟨st, ow, dl, nm, bst0, bst1, bow0, bow1, bdl0, bdl1, bnm, rfl, hx0⟩
  have hs0 := hx0.size
  cases hl : liveB st dl t
  · go_wp2_with (first | (go_at_call 29; refine (pick_any _ _ (by omega) (by omega) _).mono ?_; rintro e w' ⟨rfl, rfl⟩) | (go_at_call 37; refine (rlive_any _ _ _ _ _ _).mono ?_; rintro e w1 ⟨rfl, hy⟩; (first | (have hx := hx.trans hy) | (have hx := hy)); have hc := fun i => hx.cell (p := ⟨w0.heap.size, i, none⟩) (by first | (simp; done) | (simp; omega)); have hs : w0.heap.size + 1 ≤ w1.heap.size := (by have hs1 := hx.size; simp at hs1; omega); have hlt : w0.heap.size < w1.heap.size := (by omega)) | (go_at_call 50; refine (awake24 _).mono ?_; rintro e w1 ⟨rfl, hy⟩; (first | (have hx := hx.trans hy) | (have hx := hy)); have hc := fun i => hx.cell (p := ⟨w0.heap.size, i, none⟩) (by first | (simp; done) | (simp; omega)); have hs : w0.heap.size + 1 ≤ w1.heap.size := (by have hs1 := hx.size; simp at hs1; omega); have hlt : w0.heap.size < w1.heap.size := (by omega)))
    go_ret
    exact ⟨rfl, Ext.below (hx0.trans (by repeat' (first | exact Ext.refl _ | assumption | apply Ext.alloc | apply Ext.drewN | apply Ext.drew | (refine Ext.trans ?_ (by assumption)) | (refine ext_setCell ?_ (by first | (simp; done) | (simp; omega)) _))))⟩
  · by_cases ho : c = ow
    · have ho' : (c == ow) = true := by simp [ho]
      have HO := Lib.hid ho
      clear ho
      go_wp2_with (first | (go_at_call 29; refine (pick_any _ _ (by omega) (by omega) _).mono ?_; rintro e w' ⟨rfl, rfl⟩) | (go_at_call 37; refine (rlive_any _ _ _ _ _ _).mono ?_; rintro e w1 ⟨rfl, hy⟩; (first | (have hx := hx.trans hy) | (have hx := hy)); have hc := fun i => hx.cell (p := ⟨w0.heap.size, i, none⟩) (by first | (simp; done) | (simp; omega)); have hs : w0.heap.size + 1 ≤ w1.heap.size := (by have hs1 := hx.size; simp at hs1; omega); have hlt : w0.heap.size < w1.heap.size := (by omega)) | (go_at_call 50; refine (awake24 _).mono ?_; rintro e w1 ⟨rfl, hy⟩; (first | (have hx := hx.trans hy) | (have hx := hy)); have hc := fun i => hx.cell (p := ⟨w0.heap.size, i, none⟩) (by first | (simp; done) | (simp; omega)); have hs : w0.heap.size + 1 ≤ w1.heap.size := (by have hs1 := hx.size; simp at hs1; omega); have hlt : w0.heap.size < w1.heap.size := (by omega)))
      go_ret
      exact ⟨rfl, Ext.below (hx0.trans (by repeat' (first | exact Ext.refl _ | assumption | apply Ext.alloc | apply Ext.drewN | apply Ext.drew | (refine Ext.trans ?_ (by assumption)) | (refine ext_setCell ?_ (by first | (simp; done) | (simp; omega)) _))))⟩
    · have ho' : (c == ow) = false := by simp [ho]
      have e1 : ((testE st ow dl (1 + k) c t == 0) == (1 + k == 7)) = true := by rw [test_other hl ho (by omega) (by omega)]; simp
      have e2 : afSt st 7 = st := by simp [afSt]
      have e3 : afOw ow 7 c = ow := by simp [afOw]
      have e4 : afNm nm 7 ⟨#[98]⟩ = nm := by simp [afNm]
      have e5 : afDl dl 7 7 = dl := by simp [afDl]
      go_wp2_with (first | (go_at_call 29; refine (pick_any _ _ (by omega) (by omega) _).mono ?_; rintro e w' ⟨rfl, rfl⟩) | (go_at_call 37; refine (rlive_any _ _ _ _ _ _).mono ?_; rintro e w1 ⟨rfl, hy⟩; (first | (have hx := hx.trans hy) | (have hx := hy)); have hc := fun i => hx.cell (p := ⟨w0.heap.size, i, none⟩) (by first | (simp; done) | (simp; omega)); have hs : w0.heap.size + 1 ≤ w1.heap.size := (by have hs1 := hx.size; simp at hs1; omega); have hlt : w0.heap.size < w1.heap.size := (by omega)) | (go_at_call 49; refine (test_any _ _ _ _ _ _ _ _).mono ?_; rintro e w1 ⟨rfl, hy⟩; (first | (have hx := hx.trans hy) | (have hx := hy)); have hc := fun i => hx.cell (p := ⟨w0.heap.size, i, none⟩) (by first | (simp; done) | (simp; omega)); have hs : w0.heap.size + 1 ≤ w1.heap.size := (by have hs1 := hx.size; simp at hs1; omega); have hlt : w0.heap.size < w1.heap.size := (by omega)))
      refine wp_region_ext (by kernel_rfl) (by kernel_rfl) ?_
      repeat (quiet_step (first | (go_at_call 50; exact ext_call (awake24 _)) | (go_at_call 53; exact ext_call (after_any _ _ _ _ _ _ _ _ _))))
      refine wpQuiet_nil ?_; intro w1 hy
      go_wp2
      go_ret
      exact ⟨rfl, Ext.below (hx0.trans (by repeat' (first | exact Ext.refl _ | assumption | apply Ext.alloc | apply Ext.drewN | apply Ext.drew | (refine Ext.trans ?_ (by assumption)) | (refine ext_setCell ?_ (by first | (simp; done) | (simp; omega)) _))))⟩
end recordOwner

theorem grows_fact {st ow dl op c t : Int} (ht : testE st ow dl op c t = 0) (h1 : 1 ≤ op) (h7 : op ≤ 7) : growsI st op = (if afSt st op = 0 then 0 else 1) - (if st = 0 then 0 else 1) := by
  rcases (show op = 1 ∨ op = 2 ∨ op = 3 ∨ op = 4 ∨ op = 5 ∨ op = 6 ∨ op = 7 by omega) with rfl | rfl | rfl | rfl | rfl | rfl | rfl
  · by_cases hs : st = 0 <;> simp [growsI, afSt, hs]
  · have hs : st = 1 := by
      simp only [testE, ownedE] at ht
      cases hl : liveB st dl t <;> simp [hl] at ht
      omega
    subst hs; decide
  · by_cases hs : st = 0 <;> simp [growsI, afSt, hs]
  · have hs : ¬ st = 0 := by
      simp only [testE, ownedE] at ht
      cases hl : liveB st dl t <;> simp [hl] at ht
      rcases live_pos hl with h | h <;> omega
    simp [growsI, afSt, hs]
  · have hs : ¬ st = 0 := by
      simp only [testE, ownedE] at ht
      cases hl : liveB st dl t <;> simp [hl] at ht
      rcases live_pos hl with h | h <;> omega
    simp [growsI, afSt, hs]
  · have hs : ¬ st = 0 := by
      intro h0
      simp [testE, h0] at ht
    simp [growsI, afSt, hs]
  · by_cases hs : st = 0 <;> simp [growsI, afSt, hs]

namespace recordGrows
theorem walk (a : Option Addr) (len cap : Nat) (zs : List Int) (a1 a2 a3 : Int) (w : World) (h : IsRow .i64 w a len cap zs) (_ : I64 a1) (_ : I64 a2) (_ : I64 a3) :
    Calls Try.prog 15 #[.slice a len cap, .int .i64 a1, .int .i64 a2, .int .i64 a3] w fun e w' => e = .returned (.bool true) ∧ Below w.heap.size w w' := by
  obtain ⟨k, hk⟩ : ∃ k, pickI a1 7 = k := ⟨_, rfl⟩
  have bk := pickI_bd a1 7 (by omega)
  rw [hk] at bk
  obtain ⟨bk0, bk1⟩ := bk
  obtain ⟨c, hcl⟩ : ∃ c, pickI a2 4 = c := ⟨_, rfl⟩
  obtain ⟨t, ht⟩ : ∃ t, pickI a3 45 = t := ⟨_, rfl⟩
  go_enter Try.func15, Try.ntmps15
  go_wp2_with fail
  refine (record_any _ _ _ _ _ h).mono ?_
  rintro e w0 ⟨st, ow, dl, nm, bst0, bst1, bow0, bow1, bdl0, bdl1, bnm, rfl, hx0⟩
  have hs0 := hx0.size
  have hfd := field_st
  by_cases he : testE st ow dl (1 + k) c t = 0
  · have hg := grows_fact he (by omega) (by omega)
    by_cases hs : st = 0
    · subst hs
      by_cases ha : afSt 0 (1 + k) = 0
      · have hg' : growsI 0 (1 + k) = 0 := by rw [hg, ha]; decide
        clear hg
        go_wp2_with (first | (go_at_call 29; refine (pick_any _ _ (by omega) (by omega) _).mono ?_; rintro e w' ⟨rfl, rfl⟩) | (go_at_call 49; refine (test_any _ _ _ _ _ _ _ _).mono ?_; rintro e w1 ⟨rfl, hy⟩; (first | (have hx := hx.trans hy) | (have hx := hy)); have hc := fun i => hx.cell (p := ⟨w0.heap.size, i, none⟩) (by first | (simp; done) | (simp; omega)); have hs : w0.heap.size + 1 ≤ w1.heap.size := (by have hs1 := hx.size; simp at hs1; omega); have hlt : w0.heap.size < w1.heap.size := (by omega)) | (go_at_call 53; refine (after_any _ _ _ _ _ _ _ _ _).mono ?_; rintro e w1 ⟨rfl, hy⟩; (first | (have hx := hx.trans hy) | (have hx := hy)); have hc := fun i => hx.cell (p := ⟨w0.heap.size, i, none⟩) (by first | (simp; done) | (simp; omega)); have hs : w0.heap.size + 1 ≤ w1.heap.size := (by have hs1 := hx.size; simp at hs1; omega); have hlt : w0.heap.size < w1.heap.size := (by omega)) | (go_at_call 50; refine (awake24 _).mono ?_; rintro e w1 ⟨rfl, hy⟩; (first | (have hx := hx.trans hy) | (have hx := hy)); have hc := fun i => hx.cell (p := ⟨w0.heap.size, i, none⟩) (by first | (simp; done) | (simp; omega)); have hs : w0.heap.size + 1 ≤ w1.heap.size := (by have hs1 := hx.size; simp at hs1; omega); have hlt : w0.heap.size < w1.heap.size := (by omega)) | (go_at_call 55; refine (grows_any _ _ _ _ _ _).mono ?_; rintro e w1 ⟨rfl, hy⟩; (first | (have hx := hx.trans hy) | (have hx := hy)); have hc := fun i => hx.cell (p := ⟨w0.heap.size, i, none⟩) (by first | (simp; done) | (simp; omega)); have hs : w0.heap.size + 1 ≤ w1.heap.size := (by have hs1 := hx.size; simp at hs1; omega); have hlt : w0.heap.size < w1.heap.size := (by omega)))
        go_ret
        exact ⟨rfl, Ext.below (hx0.trans (by repeat' (first | exact Ext.refl _ | assumption | apply Ext.alloc | apply Ext.drewN | apply Ext.drew | (refine Ext.trans ?_ (by assumption)) | (refine ext_setCell ?_ (by first | (simp; done) | (simp; omega)) _))))⟩
      · have hg' : growsI 0 (1 + k) = 1 := by rw [hg, if_neg ha]; decide
        have ha' : (afSt 0 (1 + k) != 0) = true := by simp [ha]
        clear hg
        go_wp2_with (first | (go_at_call 29; refine (pick_any _ _ (by omega) (by omega) _).mono ?_; rintro e w' ⟨rfl, rfl⟩) | (go_at_call 49; refine (test_any _ _ _ _ _ _ _ _).mono ?_; rintro e w1 ⟨rfl, hy⟩; (first | (have hx := hx.trans hy) | (have hx := hy)); have hc := fun i => hx.cell (p := ⟨w0.heap.size, i, none⟩) (by first | (simp; done) | (simp; omega)); have hs : w0.heap.size + 1 ≤ w1.heap.size := (by have hs1 := hx.size; simp at hs1; omega); have hlt : w0.heap.size < w1.heap.size := (by omega)) | (go_at_call 53; refine (after_any _ _ _ _ _ _ _ _ _).mono ?_; rintro e w1 ⟨rfl, hy⟩; (first | (have hx := hx.trans hy) | (have hx := hy)); have hc := fun i => hx.cell (p := ⟨w0.heap.size, i, none⟩) (by first | (simp; done) | (simp; omega)); have hs : w0.heap.size + 1 ≤ w1.heap.size := (by have hs1 := hx.size; simp at hs1; omega); have hlt : w0.heap.size < w1.heap.size := (by omega)) | (go_at_call 50; refine (awake24 _).mono ?_; rintro e w1 ⟨rfl, hy⟩; (first | (have hx := hx.trans hy) | (have hx := hy)); have hc := fun i => hx.cell (p := ⟨w0.heap.size, i, none⟩) (by first | (simp; done) | (simp; omega)); have hs : w0.heap.size + 1 ≤ w1.heap.size := (by have hs1 := hx.size; simp at hs1; omega); have hlt : w0.heap.size < w1.heap.size := (by omega)) | (go_at_call 55; refine (grows_any _ _ _ _ _ _).mono ?_; rintro e w1 ⟨rfl, hy⟩; (first | (have hx := hx.trans hy) | (have hx := hy)); have hc := fun i => hx.cell (p := ⟨w0.heap.size, i, none⟩) (by first | (simp; done) | (simp; omega)); have hs : w0.heap.size + 1 ≤ w1.heap.size := (by have hs1 := hx.size; simp at hs1; omega); have hlt : w0.heap.size < w1.heap.size := (by omega)))
        go_ret
        exact ⟨rfl, Ext.below (hx0.trans (by repeat' (first | exact Ext.refl _ | assumption | apply Ext.alloc | apply Ext.drewN | apply Ext.drew | (refine Ext.trans ?_ (by assumption)) | (refine ext_setCell ?_ (by first | (simp; done) | (simp; omega)) _))))⟩
    · have hs' : (st != 0) = true := by simp [hs]
      by_cases ha : afSt st (1 + k) = 0
      · have hg' : growsI st (1 + k) = -1 := by rw [hg, ha, if_neg hs]; decide
        clear hg
        go_wp2_with (first | (go_at_call 29; refine (pick_any _ _ (by omega) (by omega) _).mono ?_; rintro e w' ⟨rfl, rfl⟩) | (go_at_call 49; refine (test_any _ _ _ _ _ _ _ _).mono ?_; rintro e w1 ⟨rfl, hy⟩; (first | (have hx := hx.trans hy) | (have hx := hy)); have hc := fun i => hx.cell (p := ⟨w0.heap.size, i, none⟩) (by first | (simp; done) | (simp; omega)); have hs : w0.heap.size + 1 ≤ w1.heap.size := (by have hs1 := hx.size; simp at hs1; omega); have hlt : w0.heap.size < w1.heap.size := (by omega)) | (go_at_call 53; refine (after_any _ _ _ _ _ _ _ _ _).mono ?_; rintro e w1 ⟨rfl, hy⟩; (first | (have hx := hx.trans hy) | (have hx := hy)); have hc := fun i => hx.cell (p := ⟨w0.heap.size, i, none⟩) (by first | (simp; done) | (simp; omega)); have hs : w0.heap.size + 1 ≤ w1.heap.size := (by have hs1 := hx.size; simp at hs1; omega); have hlt : w0.heap.size < w1.heap.size := (by omega)) | (go_at_call 50; refine (awake24 _).mono ?_; rintro e w1 ⟨rfl, hy⟩; (first | (have hx := hx.trans hy) | (have hx := hy)); have hc := fun i => hx.cell (p := ⟨w0.heap.size, i, none⟩) (by first | (simp; done) | (simp; omega)); have hs : w0.heap.size + 1 ≤ w1.heap.size := (by have hs1 := hx.size; simp at hs1; omega); have hlt : w0.heap.size < w1.heap.size := (by omega)) | (go_at_call 55; refine (grows_any _ _ _ _ _ _).mono ?_; rintro e w1 ⟨rfl, hy⟩; (first | (have hx := hx.trans hy) | (have hx := hy)); have hc := fun i => hx.cell (p := ⟨w0.heap.size, i, none⟩) (by first | (simp; done) | (simp; omega)); have hs : w0.heap.size + 1 ≤ w1.heap.size := (by have hs1 := hx.size; simp at hs1; omega); have hlt : w0.heap.size < w1.heap.size := (by omega)))
        go_ret
        exact ⟨rfl, Ext.below (hx0.trans (by repeat' (first | exact Ext.refl _ | assumption | apply Ext.alloc | apply Ext.drewN | apply Ext.drew | (refine Ext.trans ?_ (by assumption)) | (refine ext_setCell ?_ (by first | (simp; done) | (simp; omega)) _))))⟩
      · have hg' : growsI st (1 + k) = 0 := by rw [hg, if_neg ha, if_neg hs]; decide
        have ha' : (afSt st (1 + k) != 0) = true := by simp [ha]
        clear hg
        go_wp2_with (first | (go_at_call 29; refine (pick_any _ _ (by omega) (by omega) _).mono ?_; rintro e w' ⟨rfl, rfl⟩) | (go_at_call 49; refine (test_any _ _ _ _ _ _ _ _).mono ?_; rintro e w1 ⟨rfl, hy⟩; (first | (have hx := hx.trans hy) | (have hx := hy)); have hc := fun i => hx.cell (p := ⟨w0.heap.size, i, none⟩) (by first | (simp; done) | (simp; omega)); have hs : w0.heap.size + 1 ≤ w1.heap.size := (by have hs1 := hx.size; simp at hs1; omega); have hlt : w0.heap.size < w1.heap.size := (by omega)) | (go_at_call 53; refine (after_any _ _ _ _ _ _ _ _ _).mono ?_; rintro e w1 ⟨rfl, hy⟩; (first | (have hx := hx.trans hy) | (have hx := hy)); have hc := fun i => hx.cell (p := ⟨w0.heap.size, i, none⟩) (by first | (simp; done) | (simp; omega)); have hs : w0.heap.size + 1 ≤ w1.heap.size := (by have hs1 := hx.size; simp at hs1; omega); have hlt : w0.heap.size < w1.heap.size := (by omega)) | (go_at_call 50; refine (awake24 _).mono ?_; rintro e w1 ⟨rfl, hy⟩; (first | (have hx := hx.trans hy) | (have hx := hy)); have hc := fun i => hx.cell (p := ⟨w0.heap.size, i, none⟩) (by first | (simp; done) | (simp; omega)); have hs : w0.heap.size + 1 ≤ w1.heap.size := (by have hs1 := hx.size; simp at hs1; omega); have hlt : w0.heap.size < w1.heap.size := (by omega)) | (go_at_call 55; refine (grows_any _ _ _ _ _ _).mono ?_; rintro e w1 ⟨rfl, hy⟩; (first | (have hx := hx.trans hy) | (have hx := hy)); have hc := fun i => hx.cell (p := ⟨w0.heap.size, i, none⟩) (by first | (simp; done) | (simp; omega)); have hs : w0.heap.size + 1 ≤ w1.heap.size := (by have hs1 := hx.size; simp at hs1; omega); have hlt : w0.heap.size < w1.heap.size := (by omega)))
        go_ret
        exact ⟨rfl, Ext.below (hx0.trans (by repeat' (first | exact Ext.refl _ | assumption | apply Ext.alloc | apply Ext.drewN | apply Ext.drew | (refine Ext.trans ?_ (by assumption)) | (refine ext_setCell ?_ (by first | (simp; done) | (simp; omega)) _))))⟩
  · have he' : (testE st ow dl (1 + k) c t != 0) = true := by simp [he]
    go_wp2_with (first | (go_at_call 29; refine (pick_any _ _ (by omega) (by omega) _).mono ?_; rintro e w' ⟨rfl, rfl⟩) | (go_at_call 49; refine (test_any _ _ _ _ _ _ _ _).mono ?_; rintro e w1 ⟨rfl, hy⟩; (first | (have hx := hx.trans hy) | (have hx := hy)); have hc := fun i => hx.cell (p := ⟨w0.heap.size, i, none⟩) (by first | (simp; done) | (simp; omega)); have hs : w0.heap.size + 1 ≤ w1.heap.size := (by have hs1 := hx.size; simp at hs1; omega); have hlt : w0.heap.size < w1.heap.size := (by omega)) | (go_at_call 51; refine (rtest_any _ _ _ _ _ _ _ _).mono ?_; rintro e w1 ⟨rfl, hy⟩; (first | (have hx := hx.trans hy) | (have hx := hy)); have hc := fun i => hx.cell (p := ⟨w0.heap.size, i, none⟩) (by first | (simp; done) | (simp; omega)); have hs : w0.heap.size + 1 ≤ w1.heap.size := (by have hs1 := hx.size; simp at hs1; omega); have hlt : w0.heap.size < w1.heap.size := (by omega)) | (go_at_call 50; refine (awake24 _).mono ?_; rintro e w1 ⟨rfl, hy⟩; (first | (have hx := hx.trans hy) | (have hx := hy)); have hc := fun i => hx.cell (p := ⟨w0.heap.size, i, none⟩) (by first | (simp; done) | (simp; omega)); have hs : w0.heap.size + 1 ≤ w1.heap.size := (by have hs1 := hx.size; simp at hs1; omega); have hlt : w0.heap.size < w1.heap.size := (by omega)))
    go_ret
    exact ⟨rfl, Ext.below (hx0.trans (by repeat' (first | exact Ext.refl _ | assumption | apply Ext.alloc | apply Ext.drewN | apply Ext.drew | (refine Ext.trans ?_ (by assumption)) | (refine ext_setCell ?_ (by first | (simp; done) | (simp; omega)) _))))⟩
end recordGrows

theorem stays_fact {st ow dl op c t d : Int} {nm : ByteArray} (hc : checkB st ow dl nm = true) (ht : testE st ow dl op c t = 0) (h1 : 1 ≤ op) (h7 : op ≤ 7) (c0 : 0 ≤ c) (c1 : c < 64) (d0 : 1 ≤ d) (d1 : d ≤ 1073741824) :
    checkB (afSt st op) (afOw ow op c) (afDl dl op d) (afNm nm op ⟨#[110, 97, 109, 101]⟩) = true := by
  rcases (show op = 1 ∨ op = 2 ∨ op = 3 ∨ op = 4 ∨ op = 5 ∨ op = 6 ∨ op = 7 by omega) with rfl | rfl | rfl | rfl | rfl | rfl | rfl
  · simp [checkB, afSt, afOw, afNm, afDl, c0, c1, d0, d1]
    decide
  · have hs : st = 1 := by
      simp only [testE, ownedE] at ht
      cases hl : liveB st dl t <;> simp [hl] at ht
      omega
    subst hs
    simp [checkB, afSt, afOw, afNm, afDl] at hc ⊢
    omega
  · have hs : st = 1 := by
      simp only [testE, ownedE] at ht
      cases hl : liveB st dl t <;> simp [hl] at ht
      omega
    subst hs
    simp [checkB, afSt, afOw, afNm, afDl] at hc ⊢
    omega
  · simp [checkB, afSt, afOw, afNm, afDl]; rfl
  · simp [checkB, afSt, afOw, afNm, afDl]; rfl
  · simp [checkB, afSt, afOw, afNm, afDl]; rfl
  · simpa [afSt, afOw, afNm, afDl] using hc

namespace recordStays
theorem walk (a : Option Addr) (len cap : Nat) (zs : List Int) (a1 a2 a3 a4 : Int) (w : World) (h : IsRow .i64 w a len cap zs) (_ : I64 a1) (_ : I64 a2) (_ : I64 a3) (_ : I64 a4) :
    Calls Try.prog 9 #[.slice a len cap, .int .i64 a1, .int .i64 a2, .int .i64 a3, .int .i64 a4] w fun e w' => e = .returned (.bool true) ∧ Below w.heap.size w w' := by
  obtain ⟨k, hk⟩ : ∃ k, pickI a1 7 = k := ⟨_, rfl⟩
  have bk := pickI_bd a1 7 (by omega)
  rw [hk] at bk
  obtain ⟨bk0, bk1⟩ := bk
  obtain ⟨c, hcl⟩ : ∃ c, pickI a2 64 = c := ⟨_, rfl⟩
  have bc := pickI_bd a2 64 (by omega)
  rw [hcl] at bc
  obtain ⟨bc0, bc1⟩ := bc
  obtain ⟨t, ht⟩ : ∃ t, pickI a3 45 = t := ⟨_, rfl⟩
  obtain ⟨d, hd⟩ : ∃ d, pickI a4 1073741824 = d := ⟨_, rfl⟩
  have bd := pickI_bd a4 1073741824 (by omega)
  rw [hd] at bd
  obtain ⟨bd0, bd1⟩ := bd
  go_enter Try.func9, Try.ntmps9
  go_wp2_with fail
  refine (record_any _ _ _ _ _ h).mono ?_
  rintro e w0 ⟨st, ow, dl, nm, bst0, bst1, bow0, bow1, bdl0, bdl1, bnm, rfl, hx0⟩
  have hs0 := hx0.size
  cases hck : checkB st ow dl nm
  · by_cases he : testE st ow dl (1 + k) c t = 0
    · go_wp2_with (first | (go_at_call 29; refine (pick_any _ _ (by omega) (by omega) _).mono ?_; rintro e w' ⟨rfl, rfl⟩) | (go_at_call 49; refine (test_any _ _ _ _ _ _ _ _).mono ?_; rintro e w1 ⟨rfl, hy⟩; (first | (have hx := hx.trans hy) | (have hx := hy)); have hc := fun i => hx.cell (p := ⟨w0.heap.size, i, none⟩) (by first | (simp; done) | (simp; omega)); have hs : w0.heap.size + 1 ≤ w1.heap.size := (by have hs1 := hx.size; simp at hs1; omega); have hlt : w0.heap.size < w1.heap.size := (by omega)) | (go_at_call 51; refine (rtest_any _ _ _ _ _ _ _ _).mono ?_; rintro e w1 ⟨rfl, hy⟩; (first | (have hx := hx.trans hy) | (have hx := hy)); have hc := fun i => hx.cell (p := ⟨w0.heap.size, i, none⟩) (by first | (simp; done) | (simp; omega)); have hs : w0.heap.size + 1 ≤ w1.heap.size := (by have hs1 := hx.size; simp at hs1; omega); have hlt : w0.heap.size < w1.heap.size := (by omega)) | (go_at_call 48; refine (rcheck_any _ _ _ _ _).mono ?_; rintro e w1 ⟨rfl, hy⟩; (first | (have hx := hx.trans hy) | (have hx := hy)); have hc := fun i => hx.cell (p := ⟨w0.heap.size, i, none⟩) (by first | (simp; done) | (simp; omega)); have hs : w0.heap.size + 1 ≤ w1.heap.size := (by have hs1 := hx.size; simp at hs1; omega); have hlt : w0.heap.size < w1.heap.size := (by omega)) | (go_at_call 50; refine (awake24 _).mono ?_; rintro e w1 ⟨rfl, hy⟩; (first | (have hx := hx.trans hy) | (have hx := hy)); have hc := fun i => hx.cell (p := ⟨w0.heap.size, i, none⟩) (by first | (simp; done) | (simp; omega)); have hs : w0.heap.size + 1 ≤ w1.heap.size := (by have hs1 := hx.size; simp at hs1; omega); have hlt : w0.heap.size < w1.heap.size := (by omega)))
      go_ret
      exact ⟨rfl, Ext.below (hx0.trans (by repeat' (first | exact Ext.refl _ | assumption | apply Ext.alloc | apply Ext.drewN | apply Ext.drew | (refine Ext.trans ?_ (by assumption)) | (refine ext_setCell ?_ (by first | (simp; done) | (simp; omega)) _))))⟩
    · have he' : (testE st ow dl (1 + k) c t != 0) = true := by simp [he]
      go_wp2_with (first | (go_at_call 29; refine (pick_any _ _ (by omega) (by omega) _).mono ?_; rintro e w' ⟨rfl, rfl⟩) | (go_at_call 49; refine (test_any _ _ _ _ _ _ _ _).mono ?_; rintro e w1 ⟨rfl, hy⟩; (first | (have hx := hx.trans hy) | (have hx := hy)); have hc := fun i => hx.cell (p := ⟨w0.heap.size, i, none⟩) (by first | (simp; done) | (simp; omega)); have hs : w0.heap.size + 1 ≤ w1.heap.size := (by have hs1 := hx.size; simp at hs1; omega); have hlt : w0.heap.size < w1.heap.size := (by omega)) | (go_at_call 51; refine (rtest_any _ _ _ _ _ _ _ _).mono ?_; rintro e w1 ⟨rfl, hy⟩; (first | (have hx := hx.trans hy) | (have hx := hy)); have hc := fun i => hx.cell (p := ⟨w0.heap.size, i, none⟩) (by first | (simp; done) | (simp; omega)); have hs : w0.heap.size + 1 ≤ w1.heap.size := (by have hs1 := hx.size; simp at hs1; omega); have hlt : w0.heap.size < w1.heap.size := (by omega)) | (go_at_call 48; refine (rcheck_any _ _ _ _ _).mono ?_; rintro e w1 ⟨rfl, hy⟩; (first | (have hx := hx.trans hy) | (have hx := hy)); have hc := fun i => hx.cell (p := ⟨w0.heap.size, i, none⟩) (by first | (simp; done) | (simp; omega)); have hs : w0.heap.size + 1 ≤ w1.heap.size := (by have hs1 := hx.size; simp at hs1; omega); have hlt : w0.heap.size < w1.heap.size := (by omega)) | (go_at_call 50; refine (awake24 _).mono ?_; rintro e w1 ⟨rfl, hy⟩; (first | (have hx := hx.trans hy) | (have hx := hy)); have hc := fun i => hx.cell (p := ⟨w0.heap.size, i, none⟩) (by first | (simp; done) | (simp; omega)); have hs : w0.heap.size + 1 ≤ w1.heap.size := (by have hs1 := hx.size; simp at hs1; omega); have hlt : w0.heap.size < w1.heap.size := (by omega)))
      go_ret
      exact ⟨rfl, Ext.below (hx0.trans (by repeat' (first | exact Ext.refl _ | assumption | apply Ext.alloc | apply Ext.drewN | apply Ext.drew | (refine Ext.trans ?_ (by assumption)) | (refine ext_setCell ?_ (by first | (simp; done) | (simp; omega)) _))))⟩
  · by_cases he : testE st ow dl (1 + k) c t = 0
    · have hf := stays_fact (d := 1 + d) hck he (by omega) (by omega) bc0 bc1 (by omega) (by omega)
      have hw : IntKind.i64.wrap (1 + d) = 1 + d := IntWalk.i64_in _ (by omega)
      go_wp2_with (first | (go_at_call 29; refine (pick_any _ _ (by omega) (by omega) _).mono ?_; rintro e w' ⟨rfl, rfl⟩) | (go_at_call 49; refine (test_any _ _ _ _ _ _ _ _).mono ?_; rintro e w1 ⟨rfl, hy⟩; (first | (have hx := hx.trans hy) | (have hx := hy)); have hc := fun i => hx.cell (p := ⟨w0.heap.size, i, none⟩) (by first | (simp; done) | (simp; omega)); have hs : w0.heap.size + 1 ≤ w1.heap.size := (by have hs1 := hx.size; simp at hs1; omega); have hlt : w0.heap.size < w1.heap.size := (by omega)) | (go_at_call 48; refine (rcheck_any _ _ _ _ _).mono ?_; rintro e w1 ⟨rfl, hy⟩; (first | (have hx := hx.trans hy) | (have hx := hy)); have hc := fun i => hx.cell (p := ⟨w0.heap.size, i, none⟩) (by first | (simp; done) | (simp; omega)); have hs : w0.heap.size + 1 ≤ w1.heap.size := (by have hs1 := hx.size; simp at hs1; omega); have hlt : w0.heap.size < w1.heap.size := (by omega)))
      refine wp_region_ext (by kernel_rfl) (by kernel_rfl) ?_
      repeat (quiet_step (first | (go_at_call 50; exact ext_call (awake24 _)) | (go_at_call 53; exact ext_call (after_any _ _ _ _ _ _ _ _ _)) | (go_at_call 52; exact ext_call (check_any _ _ _ _ _)) | (go_at_call 29; exact ext_call_same (pick_any _ _ (by omega) (by omega) _))))
      refine wpQuiet_nil ?_; intro w1 hy
      go_wp2
      go_ret
      exact ⟨rfl, Ext.below (hx0.trans (by repeat' (first | exact Ext.refl _ | assumption | apply Ext.alloc | apply Ext.drewN | apply Ext.drew | (refine Ext.trans ?_ (by assumption)) | (refine ext_setCell ?_ (by first | (simp; done) | (simp; omega)) _))))⟩
    · have he' : (testE st ow dl (1 + k) c t != 0) = true := by simp [he]
      go_wp2_with (first | (go_at_call 29; refine (pick_any _ _ (by omega) (by omega) _).mono ?_; rintro e w' ⟨rfl, rfl⟩) | (go_at_call 49; refine (test_any _ _ _ _ _ _ _ _).mono ?_; rintro e w1 ⟨rfl, hy⟩; (first | (have hx := hx.trans hy) | (have hx := hy)); have hc := fun i => hx.cell (p := ⟨w0.heap.size, i, none⟩) (by first | (simp; done) | (simp; omega)); have hs : w0.heap.size + 1 ≤ w1.heap.size := (by have hs1 := hx.size; simp at hs1; omega); have hlt : w0.heap.size < w1.heap.size := (by omega)) | (go_at_call 51; refine (rtest_any _ _ _ _ _ _ _ _).mono ?_; rintro e w1 ⟨rfl, hy⟩; (first | (have hx := hx.trans hy) | (have hx := hy)); have hc := fun i => hx.cell (p := ⟨w0.heap.size, i, none⟩) (by first | (simp; done) | (simp; omega)); have hs : w0.heap.size + 1 ≤ w1.heap.size := (by have hs1 := hx.size; simp at hs1; omega); have hlt : w0.heap.size < w1.heap.size := (by omega)) | (go_at_call 48; refine (rcheck_any _ _ _ _ _).mono ?_; rintro e w1 ⟨rfl, hy⟩; (first | (have hx := hx.trans hy) | (have hx := hy)); have hc := fun i => hx.cell (p := ⟨w0.heap.size, i, none⟩) (by first | (simp; done) | (simp; omega)); have hs : w0.heap.size + 1 ≤ w1.heap.size := (by have hs1 := hx.size; simp at hs1; omega); have hlt : w0.heap.size < w1.heap.size := (by omega)) | (go_at_call 50; refine (awake24 _).mono ?_; rintro e w1 ⟨rfl, hy⟩; (first | (have hx := hx.trans hy) | (have hx := hy)); have hc := fun i => hx.cell (p := ⟨w0.heap.size, i, none⟩) (by first | (simp; done) | (simp; omega)); have hs : w0.heap.size + 1 ≤ w1.heap.size := (by have hs1 := hx.size; simp at hs1; omega); have hlt : w0.heap.size < w1.heap.size := (by omega)))
      go_ret
      exact ⟨rfl, Ext.below (hx0.trans (by repeat' (first | exact Ext.refl _ | assumption | apply Ext.alloc | apply Ext.drewN | apply Ext.drew | (refine Ext.trans ?_ (by assumption)) | (refine ext_setCell ?_ (by first | (simp; done) | (simp; omega)) _))))⟩
end recordStays
end Go.Proofs.Ytkhfjedeccjnbaa
