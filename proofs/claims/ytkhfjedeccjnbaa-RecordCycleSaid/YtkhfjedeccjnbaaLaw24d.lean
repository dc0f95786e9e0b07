/-
  The walk of the law RecordCycle.
  Conditions: none.
-/
import Derived.Test.YtkhfjedeccjnbaaLaw24b
namespace Go.Proofs.Ytkhfjedeccjnbaa
open Go.RowKit Go.Sort
set_option maxHeartbeats 2000000
set_option maxRecDepth 100000
attribute [local go_sem] cell_grow_any

/-- Block g holds this record, and it may be written. -/
def RecIn (wx : World) (g : Nat) (st ow : Int) (nm : ByteArray) (dl : Int) : Prop :=
  g < wx.heap.size ∧ wx.cell? ⟨g, 0, none⟩ = some (.int .i64 st) ∧ wx.cell? ⟨g, 1, none⟩ = some (.int .i64 ow) ∧ wx.cell? ⟨g, 2, none⟩ = some (.string nm) ∧ wx.cell? ⟨g, 3, none⟩ = some (.int .i64 dl) ∧ ∀ i, wx.frozen? ⟨g, i, none⟩ = false
/-- The record before each round. -/
def CycAt (c d : Int) (o : Value) (wx : World) (g : Nat) : Prop :=
  (o = .int .i64 0 ∧ RecIn wx g 0 0 ⟨#[]⟩ 0) ∨ (o = .int .i64 1 ∧ RecIn wx g 1 c ⟨#[97]⟩ d) ∨ (o = .int .i64 2 ∧ RecIn wx g 1 c ⟨#[97]⟩ d) ∨ (o = .int .i64 3 ∧ RecIn wx g 2 c ⟨#[97]⟩ 0) ∨ (o = .int .i64 4 ∧ RecIn wx g 0 0 ⟨#[]⟩ 0)
theorem check_one {c d : Int} (h0 : 0 ≤ c) (h1 : c < 64) (h2 : 1 ≤ d) (h3 : d ≤ 1073741824) : checkB 1 c d ⟨#[97]⟩ = true := by
  unfold checkB
  rw [show (⟨#[97]⟩ : ByteArray).size = 1 from rfl]
  simp [h0, h1, h2, h3]
theorem check_two {c : Int} (h0 : 0 ≤ c) (h1 : c < 64) : checkB 2 c 0 ⟨#[97]⟩ = true := by
  unfold checkB
  rw [show (⟨#[97]⟩ : ByteArray).size = 1 from rfl]
  simp [h0, h1]


namespace recordCycle
theorem walk (a0 a1 a2 : Int) (w : World) (_ : I64 a0) (_ : I64 a1) (_ : I64 a2) :
    Calls Try.prog 13 #[.int .i64 a0, .int .i64 a1, .int .i64 a2] w fun e w' => e = .returned (.bool true) ∧ Below w.heap.size w w' := by
  obtain ⟨c, hcl⟩ : ∃ c, pickI a0 64 = c := ⟨_, rfl⟩
  have bc := pickI_bd a0 64 (by omega)
  rw [hcl] at bc
  obtain ⟨bc0, bc1⟩ := bc
  obtain ⟨t, ht⟩ : ∃ t, pickI a1 1000 = t := ⟨_, rfl⟩
  have bt := pickI_bd a1 1000 (by omega)
  rw [ht] at bt
  obtain ⟨bt0, bt1⟩ := bt
  obtain ⟨n, hn⟩ : ∃ n, pickI a2 1000 = n := ⟨_, rfl⟩
  have bn := pickI_bd a2 1000 (by omega)
  rw [hn] at bn
  obtain ⟨bn0, bn1⟩ := bn
  have hd1 : t < t + (1 + n) := by omega
  have hd2 : t + (1 + n) ≤ 1073741824 := by omega
  have hd3 : 1 ≤ t + (1 + n) := by omega
  have i0 : ∀ wx : World, (Instr.index 57 (.agg #[.int .i64 1, .int .i64 3, .int .i64 2, .int .i64 5]) (.int .i64 0)).run Try.prog wx = .ok (.int .i64 1) wx := fun _ => by kernel_rfl
  have i1 : ∀ wx : World, (Instr.index 57 (.agg #[.int .i64 1, .int .i64 3, .int .i64 2, .int .i64 5]) (.int .i64 1)).run Try.prog wx = .ok (.int .i64 3) wx := fun _ => by kernel_rfl
  have i2 : ∀ wx : World, (Instr.index 57 (.agg #[.int .i64 1, .int .i64 3, .int .i64 2, .int .i64 5]) (.int .i64 2)).run Try.prog wx = .ok (.int .i64 2) wx := fun _ => by kernel_rfl
  have i3 : ∀ wx : World, (Instr.index 57 (.agg #[.int .i64 1, .int .i64 3, .int .i64 2, .int .i64 5]) (.int .i64 3)).run Try.prog wx = .ok (.int .i64 5) wx := fun _ => by kernel_rfl
  go_enter Try.func13, Try.ntmps13
  go_wp2_with (go_at_call 29; refine (pick_any _ _ (by omega) (by omega) _).mono ?_; rintro e w' ⟨rfl, rfl⟩)
  go_loopw [22] (fun o wr => Ext w wr ∧ CycAt c (t + (1 + n)) o wr w.heap.size) (fun o _ => (9 - intOf o).toNat)
  case atStart => exact ⟨(Ext.refl w).alloc _, .inl ⟨rfl, by simp, by go_simp, by go_simp, by go_simp, by go_simp, by intro i; go_simp⟩⟩
  case round =>
    obtain ⟨hx0, hr⟩ := hrel
    rcases hr with ⟨rfl, hlt, c0, c1, c2, c3, cf⟩ | ⟨rfl, hlt, c0, c1, c2, c3, cf⟩ | ⟨rfl, hlt, c0, c1, c2, c3, cf⟩ | ⟨rfl, hlt, c0, c1, c2, c3, cf⟩ | ⟨rfl, hlt, c0, c1, c2, c3, cf⟩
    · have f1 : testE 0 0 0 1 c t = 0 := by simp [testE, liveB]
      have f2 : afSt 0 1 = 1 := by simp [afSt]
      have f3 : afOw 0 1 c = c := by simp [afOw]
      have f4 : afNm ⟨#[]⟩ 1 ⟨#[97]⟩ = ⟨#[97]⟩ := by simp [afNm]
      have f5 : afDl 0 1 (t + (1 + n)) = (t + (1 + n)) := by simp [afDl]
      have f6 : checkB 1 c (t + (1 + n)) ⟨#[97]⟩ = true := check_one bc0 bc1 hd3 hd2
      go_wp2_with (first | (go_at_call 49; refine (test_any _ _ _ _ _ _ _ _).mono ?_; rintro e w1 ⟨rfl, hy⟩; (first | (have hx := hx.trans hy) | (have hx := hy)); have hc := fun i => hx.cell (p := ⟨w.heap.size, i, none⟩) (by first | exact hlt | (simp; done) | (simp; omega)); have hz := fun i => hx.frozen (p := ⟨w.heap.size, i, none⟩) (by first | exact hlt | (simp; done) | (simp; omega)); have hlt : w.heap.size < w1.heap.size := (by have hs1 := hx.size; (try simp at hs1); omega)) | (go_at_call 52; refine (check_any _ _ _ _ _).mono ?_; rintro e w1 ⟨rfl, hy⟩; (first | (have hx := hx.trans hy) | (have hx := hy)); have hc := fun i => hx.cell (p := ⟨w.heap.size, i, none⟩) (by first | exact hlt | (simp; done) | (simp; omega)); have hz := fun i => hx.frozen (p := ⟨w.heap.size, i, none⟩) (by first | exact hlt | (simp; done) | (simp; omega)); have hlt : w.heap.size < w1.heap.size := (by have hs1 := hx.size; (try simp at hs1); omega)) | (go_at_call 53; refine (after_any _ _ _ _ _ _ _ _ _).mono ?_; rintro e w1 ⟨rfl, hy⟩; (first | (have hx := hx.trans hy) | (have hx := hy)); have hc := fun i => hx.cell (p := ⟨w.heap.size, i, none⟩) (by first | exact hlt | (simp; done) | (simp; omega)); have hz := fun i => hx.frozen (p := ⟨w.heap.size, i, none⟩) (by first | exact hlt | (simp; done) | (simp; omega)); have hlt : w.heap.size < w1.heap.size := (by have hs1 := hx.size; (try simp at hs1); omega)))
      go_roundw
      case rel => exact ⟨(by repeat' (first | exact Ext.refl _ | assumption | apply Ext.alloc | apply Ext.drewN | apply Ext.drew | (refine Ext.trans ?_ (by assumption)) | (refine ext_setCell ?_ (by first | (simp; done) | (simp; omega)) _))), (.inr (.inl ⟨rfl, hlt, by go_simp, by go_simp, by go_simp, by go_simp, by intro i; go_simp⟩))⟩
      case measure => simp [intOf]
    · have f1 : testE 1 c (t + (1 + n)) 3 c t = 0 := by simp [testE, ownedE, liveB]; omega
      have f2 : afSt 1 3 = 1 := by simp [afSt]
      have f3 : afOw c 3 c = c := by simp [afOw]
      have f4 : afNm ⟨#[97]⟩ 3 ⟨#[97]⟩ = ⟨#[97]⟩ := by simp [afNm]
      have f5 : afDl (t + (1 + n)) 3 (t + (1 + n)) = (t + (1 + n)) := by simp [afDl]
      have f6 : checkB 1 c (t + (1 + n)) ⟨#[97]⟩ = true := check_one bc0 bc1 hd3 hd2
      go_wp2_with (first | (go_at_call 49; refine (test_any _ _ _ _ _ _ _ _).mono ?_; rintro e w1 ⟨rfl, hy⟩; (first | (have hx := hx.trans hy) | (have hx := hy)); have hc := fun i => hx.cell (p := ⟨w.heap.size, i, none⟩) (by first | exact hlt | (simp; done) | (simp; omega)); have hz := fun i => hx.frozen (p := ⟨w.heap.size, i, none⟩) (by first | exact hlt | (simp; done) | (simp; omega)); have hlt : w.heap.size < w1.heap.size := (by have hs1 := hx.size; (try simp at hs1); omega)) | (go_at_call 52; refine (check_any _ _ _ _ _).mono ?_; rintro e w1 ⟨rfl, hy⟩; (first | (have hx := hx.trans hy) | (have hx := hy)); have hc := fun i => hx.cell (p := ⟨w.heap.size, i, none⟩) (by first | exact hlt | (simp; done) | (simp; omega)); have hz := fun i => hx.frozen (p := ⟨w.heap.size, i, none⟩) (by first | exact hlt | (simp; done) | (simp; omega)); have hlt : w.heap.size < w1.heap.size := (by have hs1 := hx.size; (try simp at hs1); omega)) | (go_at_call 53; refine (after_any _ _ _ _ _ _ _ _ _).mono ?_; rintro e w1 ⟨rfl, hy⟩; (first | (have hx := hx.trans hy) | (have hx := hy)); have hc := fun i => hx.cell (p := ⟨w.heap.size, i, none⟩) (by first | exact hlt | (simp; done) | (simp; omega)); have hz := fun i => hx.frozen (p := ⟨w.heap.size, i, none⟩) (by first | exact hlt | (simp; done) | (simp; omega)); have hlt : w.heap.size < w1.heap.size := (by have hs1 := hx.size; (try simp at hs1); omega)))
      go_roundw
      case rel => exact ⟨(by repeat' (first | exact Ext.refl _ | assumption | apply Ext.alloc | apply Ext.drewN | apply Ext.drew | (refine Ext.trans ?_ (by assumption)) | (refine ext_setCell ?_ (by first | (simp; done) | (simp; omega)) _))), (.inr (.inr (.inl ⟨rfl, hlt, by go_simp, by go_simp, by go_simp, by go_simp, by intro i; go_simp⟩)))⟩
      case measure => simp [intOf]
    · have f1 : testE 1 c (t + (1 + n)) 2 c t = 0 := by simp [testE, ownedE, liveB]; omega
      have f2 : afSt 1 2 = 2 := by simp [afSt]
      have f3 : afOw c 2 c = c := by simp [afOw]
      have f4 : afNm ⟨#[97]⟩ 2 ⟨#[97]⟩ = ⟨#[97]⟩ := by simp [afNm]
      have f5 : afDl (t + (1 + n)) 2 (t + (1 + n)) = 0 := by simp [afDl]
      have f6 : checkB 2 c 0 ⟨#[97]⟩ = true := check_two bc0 bc1
      go_wp2_with (first | (go_at_call 49; refine (test_any _ _ _ _ _ _ _ _).mono ?_; rintro e w1 ⟨rfl, hy⟩; (first | (have hx := hx.trans hy) | (have hx := hy)); have hc := fun i => hx.cell (p := ⟨w.heap.size, i, none⟩) (by first | exact hlt | (simp; done) | (simp; omega)); have hz := fun i => hx.frozen (p := ⟨w.heap.size, i, none⟩) (by first | exact hlt | (simp; done) | (simp; omega)); have hlt : w.heap.size < w1.heap.size := (by have hs1 := hx.size; (try simp at hs1); omega)) | (go_at_call 52; refine (check_any _ _ _ _ _).mono ?_; rintro e w1 ⟨rfl, hy⟩; (first | (have hx := hx.trans hy) | (have hx := hy)); have hc := fun i => hx.cell (p := ⟨w.heap.size, i, none⟩) (by first | exact hlt | (simp; done) | (simp; omega)); have hz := fun i => hx.frozen (p := ⟨w.heap.size, i, none⟩) (by first | exact hlt | (simp; done) | (simp; omega)); have hlt : w.heap.size < w1.heap.size := (by have hs1 := hx.size; (try simp at hs1); omega)) | (go_at_call 53; refine (after_any _ _ _ _ _ _ _ _ _).mono ?_; rintro e w1 ⟨rfl, hy⟩; (first | (have hx := hx.trans hy) | (have hx := hy)); have hc := fun i => hx.cell (p := ⟨w.heap.size, i, none⟩) (by first | exact hlt | (simp; done) | (simp; omega)); have hz := fun i => hx.frozen (p := ⟨w.heap.size, i, none⟩) (by first | exact hlt | (simp; done) | (simp; omega)); have hlt : w.heap.size < w1.heap.size := (by have hs1 := hx.size; (try simp at hs1); omega)))
      go_roundw
      case rel => exact ⟨(by repeat' (first | exact Ext.refl _ | assumption | apply Ext.alloc | apply Ext.drewN | apply Ext.drew | (refine Ext.trans ?_ (by assumption)) | (refine ext_setCell ?_ (by first | (simp; done) | (simp; omega)) _))), (.inr (.inr (.inr (.inl ⟨rfl, hlt, by go_simp, by go_simp, by go_simp, by go_simp, by intro i; go_simp⟩))))⟩
      case measure => simp [intOf]
    · have f1 : testE 2 c 0 5 c t = 0 := by simp [testE, ownedE, liveB]
      have f2 : afSt 2 5 = 0 := by simp [afSt]
      have f3 : afOw c 5 c = 0 := by simp [afOw]
      have f4 : afNm ⟨#[97]⟩ 5 ⟨#[97]⟩ = ⟨#[]⟩ := by simp [afNm]
      have f5 : afDl 0 5 (t + (1 + n)) = 0 := by simp [afDl]
      have f6 : checkB 0 0 0 ⟨#[]⟩ = true := by decide
      go_wp2_with (first | (go_at_call 49; refine (test_any _ _ _ _ _ _ _ _).mono ?_; rintro e w1 ⟨rfl, hy⟩; (first | (have hx := hx.trans hy) | (have hx := hy)); have hc := fun i => hx.cell (p := ⟨w.heap.size, i, none⟩) (by first | exact hlt | (simp; done) | (simp; omega)); have hz := fun i => hx.frozen (p := ⟨w.heap.size, i, none⟩) (by first | exact hlt | (simp; done) | (simp; omega)); have hlt : w.heap.size < w1.heap.size := (by have hs1 := hx.size; (try simp at hs1); omega)) | (go_at_call 52; refine (check_any _ _ _ _ _).mono ?_; rintro e w1 ⟨rfl, hy⟩; (first | (have hx := hx.trans hy) | (have hx := hy)); have hc := fun i => hx.cell (p := ⟨w.heap.size, i, none⟩) (by first | exact hlt | (simp; done) | (simp; omega)); have hz := fun i => hx.frozen (p := ⟨w.heap.size, i, none⟩) (by first | exact hlt | (simp; done) | (simp; omega)); have hlt : w.heap.size < w1.heap.size := (by have hs1 := hx.size; (try simp at hs1); omega)) | (go_at_call 53; refine (after_any _ _ _ _ _ _ _ _ _).mono ?_; rintro e w1 ⟨rfl, hy⟩; (first | (have hx := hx.trans hy) | (have hx := hy)); have hc := fun i => hx.cell (p := ⟨w.heap.size, i, none⟩) (by first | exact hlt | (simp; done) | (simp; omega)); have hz := fun i => hx.frozen (p := ⟨w.heap.size, i, none⟩) (by first | exact hlt | (simp; done) | (simp; omega)); have hlt : w.heap.size < w1.heap.size := (by have hs1 := hx.size; (try simp at hs1); omega)))
      go_roundw
      case rel => exact ⟨(by repeat' (first | exact Ext.refl _ | assumption | apply Ext.alloc | apply Ext.drewN | apply Ext.drew | (refine Ext.trans ?_ (by assumption)) | (refine ext_setCell ?_ (by first | (simp; done) | (simp; omega)) _))), (.inr (.inr (.inr (.inr ⟨rfl, hlt, by go_simp, by go_simp, by go_simp, by go_simp, by intro i; go_simp⟩))))⟩
      case measure => simp [intOf]
    · have g1 : growsI 0 1 = 1 := by decide
      go_wp2_with (first | (go_at_call 50; refine (awake24 _).mono ?_; rintro e w1 ⟨rfl, hy⟩; (first | (have hx := hx.trans hy) | (have hx := hy)); have hc := fun i => hx.cell (p := ⟨w.heap.size, i, none⟩) (by first | exact hlt | (simp; done) | (simp; omega)); have hz := fun i => hx.frozen (p := ⟨w.heap.size, i, none⟩) (by first | exact hlt | (simp; done) | (simp; omega)); have hlt : w.heap.size < w1.heap.size := (by have hs1 := hx.size; (try simp at hs1); omega)) | (go_at_call 55; refine (grows_any _ _ _ _ _ _).mono ?_; rintro e w1 ⟨rfl, hy⟩; (first | (have hx := hx.trans hy) | (have hx := hy)); have hc := fun i => hx.cell (p := ⟨w.heap.size, i, none⟩) (by first | exact hlt | (simp; done) | (simp; omega)); have hz := fun i => hx.frozen (p := ⟨w.heap.size, i, none⟩) (by first | exact hlt | (simp; done) | (simp; omega)); have hlt : w.heap.size < w1.heap.size := (by have hs1 := hx.size; (try simp at hs1); omega)))
      go_ret
      exact ⟨rfl, Ext.below (by repeat' (first | exact Ext.refl _ | assumption | apply Ext.alloc | apply Ext.drewN | apply Ext.drew | (refine Ext.trans ?_ (by assumption)) | (refine ext_setCell ?_ (by first | (simp; done) | (simp; omega)) _)))⟩
end recordCycle
end Go.Proofs.Ytkhfjedeccjnbaa
