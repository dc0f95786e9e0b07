/-
  What the functions of chapter 24 compute, in the program and in its reference.
  Conditions: none.
-/
import Derived.Test.YthenclenabcmgaaGround
namespace Go.Proofs.Ythenclenabcmgaa
open Go.RowKit Go.Sort
set_option maxHeartbeats 1000000

/-- Grows (24.4). -/
def growsI (st op : Int) : Int := if op = 1 then (if st = 0 then 1 else 0) else if op = 4 ∨ op = 5 ∨ op = 6 then (if st = 0 then 0 else -1) else 0

theorem op_grows (op : Int) : op = 1 ∨ op = 4 ∨ op = 5 ∨ op = 6 ∨ (op ≠ 1 ∧ op ≠ 4 ∧ op ≠ 5 ∧ op ≠ 6) := by omega
theorem op_all (op : Int) : op = 1 ∨ op = 2 ∨ op = 3 ∨ op = 4 ∨ op = 5 ∨ op = 6 ∨ op = 7 ∨ (op < 1 ∨ 7 < op) := by omega

theorem grows_any (st ow dl op : Int) (nm : ByteArray) (w : World) :
    Calls Try.prog 41 #[.agg #[.int .i64 st, .int .i64 ow, .string nm, .int .i64 dl], .int .i64 op] w fun e w' => e = .returned (.int .i64 (growsI st op)) ∧ Ext w w' := by
  by_cases hs : st = 0
  · subst hs
    rcases op_grows op with rfl | rfl | rfl | rfl | h
    · have H := Lib.hid (show growsI 0 1 = 1 by simp [growsI])
      go_enter Try.func41, Try.ntmps41
      go_wp2
      go_ret
      exact ⟨by rw [H.out]; rfl, (by repeat' (first | exact Ext.refl _ | assumption | apply Ext.alloc | apply Ext.drewN | apply Ext.drew | (refine Ext.trans ?_ (by assumption)) | (refine ext_setCell ?_ (by first | (simp; done) | (simp; omega)) _)))⟩
    · have H := Lib.hid (show growsI 0 4 = 0 by simp [growsI])
      go_enter Try.func41, Try.ntmps41
      go_wp2
      go_ret
      exact ⟨by rw [H.out]; rfl, (by repeat' (first | exact Ext.refl _ | assumption | apply Ext.alloc | apply Ext.drewN | apply Ext.drew | (refine Ext.trans ?_ (by assumption)) | (refine ext_setCell ?_ (by first | (simp; done) | (simp; omega)) _)))⟩
    · have H := Lib.hid (show growsI 0 5 = 0 by simp [growsI])
      go_enter Try.func41, Try.ntmps41
      go_wp2
      go_ret
      exact ⟨by rw [H.out]; rfl, (by repeat' (first | exact Ext.refl _ | assumption | apply Ext.alloc | apply Ext.drewN | apply Ext.drew | (refine Ext.trans ?_ (by assumption)) | (refine ext_setCell ?_ (by first | (simp; done) | (simp; omega)) _)))⟩
    · have H := Lib.hid (show growsI 0 6 = 0 by simp [growsI])
      go_enter Try.func41, Try.ntmps41
      go_wp2
      go_ret
      exact ⟨by rw [H.out]; rfl, (by repeat' (first | exact Ext.refl _ | assumption | apply Ext.alloc | apply Ext.drewN | apply Ext.drew | (refine Ext.trans ?_ (by assumption)) | (refine ext_setCell ?_ (by first | (simp; done) | (simp; omega)) _)))⟩
    · have H := Lib.hid (show growsI 0 op = 0 by simp [growsI, h.1, h.2.1, h.2.2.1, h.2.2.2])
      obtain ⟨h1, h2, h3, h4⟩ := h
      go_enter Try.func41, Try.ntmps41
      go_wp2
      go_ret
      exact ⟨by rw [H.out]; rfl, (by repeat' (first | exact Ext.refl _ | assumption | apply Ext.alloc | apply Ext.drewN | apply Ext.drew | (refine Ext.trans ?_ (by assumption)) | (refine ext_setCell ?_ (by first | (simp; done) | (simp; omega)) _)))⟩
  · rcases op_grows op with rfl | rfl | rfl | rfl | h
    · have H := Lib.hid (show growsI st 1 = 0 by simp [growsI, hs])
      go_enter Try.func41, Try.ntmps41
      go_wp2
      go_ret
      exact ⟨by rw [H.out]; rfl, (by repeat' (first | exact Ext.refl _ | assumption | apply Ext.alloc | apply Ext.drewN | apply Ext.drew | (refine Ext.trans ?_ (by assumption)) | (refine ext_setCell ?_ (by first | (simp; done) | (simp; omega)) _)))⟩
    · have H := Lib.hid (show growsI st 4 = -1 by simp [growsI, hs])
      go_enter Try.func41, Try.ntmps41
      go_wp2
      go_ret
      exact ⟨by rw [H.out]; rfl, (by repeat' (first | exact Ext.refl _ | assumption | apply Ext.alloc | apply Ext.drewN | apply Ext.drew | (refine Ext.trans ?_ (by assumption)) | (refine ext_setCell ?_ (by first | (simp; done) | (simp; omega)) _)))⟩
    · have H := Lib.hid (show growsI st 5 = -1 by simp [growsI, hs])
      go_enter Try.func41, Try.ntmps41
      go_wp2
      go_ret
      exact ⟨by rw [H.out]; rfl, (by repeat' (first | exact Ext.refl _ | assumption | apply Ext.alloc | apply Ext.drewN | apply Ext.drew | (refine Ext.trans ?_ (by assumption)) | (refine ext_setCell ?_ (by first | (simp; done) | (simp; omega)) _)))⟩
    · have H := Lib.hid (show growsI st 6 = -1 by simp [growsI, hs])
      go_enter Try.func41, Try.ntmps41
      go_wp2
      go_ret
      exact ⟨by rw [H.out]; rfl, (by repeat' (first | exact Ext.refl _ | assumption | apply Ext.alloc | apply Ext.drewN | apply Ext.drew | (refine Ext.trans ?_ (by assumption)) | (refine ext_setCell ?_ (by first | (simp; done) | (simp; omega)) _)))⟩
    · have H := Lib.hid (show growsI st op = 0 by simp [growsI, h.1, h.2.1, h.2.2.1, h.2.2.2])
      obtain ⟨h1, h2, h3, h4⟩ := h
      go_enter Try.func41, Try.ntmps41
      go_wp2
      go_ret
      exact ⟨by rw [H.out]; rfl, (by repeat' (first | exact Ext.refl _ | assumption | apply Ext.alloc | apply Ext.drewN | apply Ext.drew | (refine Ext.trans ?_ (by assumption)) | (refine ext_setCell ?_ (by first | (simp; done) | (simp; omega)) _)))⟩

/-- The components of After (24.3). -/
def afSt (st op : Int) : Int := if op = 1 then 1 else if op = 2 then 2 else if op = 4 ∨ op = 5 ∨ op = 6 then 0 else st
def afOw (ow op client : Int) : Int := if op = 1 then client else if op = 4 ∨ op = 5 ∨ op = 6 then 0 else ow
def afNm (nm : ByteArray) (op : Int) (name : ByteArray) : ByteArray := if op = 1 then name else if op = 4 ∨ op = 5 ∨ op = 6 then ⟨#[]⟩ else nm
def afDl (dl op deadline : Int) : Int := if op = 1 then deadline else if op = 2 then 0 else if op = 3 then deadline else if op = 4 ∨ op = 5 ∨ op = 6 then 0 else dl

theorem ret_rec {st ow dl st' ow' dl' : Int} {nm nm' : ByteArray} (h1 : st = st') (h2 : ow = ow') (h3 : nm = nm') (h4 : dl = dl') :
    Ending.returned (.agg #[.int .i64 st, .int .i64 ow, .string nm, .int .i64 dl]) = .returned (.agg #[.int .i64 st', .int .i64 ow', .string nm', .int .i64 dl']) := by rw [h1, h2, h3, h4]

theorem after_any (st ow dl op client deadline : Int) (nm name : ByteArray) (w : World) :
    Calls Try.prog 42 #[.agg #[.int .i64 st, .int .i64 ow, .string nm, .int .i64 dl], .int .i64 op, .int .i64 client, .string name, .int .i64 deadline] w fun e w' =>
      e = .returned (.agg #[.int .i64 (afSt st op), .int .i64 (afOw ow op client), .string (afNm nm op name), .int .i64 (afDl dl op deadline)]) ∧ Ext w w' := by
  rcases op_all op with rfl | rfl | rfl | rfl | rfl | rfl | rfl | h
  · go_enter Try.func42, Try.ntmps42
    go_wp2
    exact bodyPost_ret (v := .agg #[.int .i64 (afSt st 1), .int .i64 (afOw ow 1 client), .string (afNm nm 1 name), .int .i64 (afDl dl 1 deadline)]) (by simp [results, Try.results42, go_sem, afSt, afOw, afNm, afDl]) rfl ⟨rfl, (by repeat' (first | exact Ext.refl _ | assumption | apply Ext.alloc | apply Ext.drewN | apply Ext.drew | (refine Ext.trans ?_ (by assumption)) | (refine ext_setCell ?_ (by first | (simp; done) | (simp; omega)) _)))⟩
  · go_enter Try.func42, Try.ntmps42
    go_wp2
    exact bodyPost_ret (v := .agg #[.int .i64 (afSt st 2), .int .i64 (afOw ow 2 client), .string (afNm nm 2 name), .int .i64 (afDl dl 2 deadline)]) (by simp [results, Try.results42, go_sem, afSt, afOw, afNm, afDl]) rfl ⟨rfl, (by repeat' (first | exact Ext.refl _ | assumption | apply Ext.alloc | apply Ext.drewN | apply Ext.drew | (refine Ext.trans ?_ (by assumption)) | (refine ext_setCell ?_ (by first | (simp; done) | (simp; omega)) _)))⟩
  · go_enter Try.func42, Try.ntmps42
    go_wp2
    exact bodyPost_ret (v := .agg #[.int .i64 (afSt st 3), .int .i64 (afOw ow 3 client), .string (afNm nm 3 name), .int .i64 (afDl dl 3 deadline)]) (by simp [results, Try.results42, go_sem, afSt, afOw, afNm, afDl]) rfl ⟨rfl, (by repeat' (first | exact Ext.refl _ | assumption | apply Ext.alloc | apply Ext.drewN | apply Ext.drew | (refine Ext.trans ?_ (by assumption)) | (refine ext_setCell ?_ (by first | (simp; done) | (simp; omega)) _)))⟩
  · go_enter Try.func42, Try.ntmps42
    go_wp2
    exact bodyPost_ret (v := .agg #[.int .i64 (afSt st 4), .int .i64 (afOw ow 4 client), .string (afNm nm 4 name), .int .i64 (afDl dl 4 deadline)]) (by simp [results, Try.results42, go_sem, afSt, afOw, afNm, afDl]) rfl ⟨rfl, (by repeat' (first | exact Ext.refl _ | assumption | apply Ext.alloc | apply Ext.drewN | apply Ext.drew | (refine Ext.trans ?_ (by assumption)) | (refine ext_setCell ?_ (by first | (simp; done) | (simp; omega)) _)))⟩
  · go_enter Try.func42, Try.ntmps42
    go_wp2
    exact bodyPost_ret (v := .agg #[.int .i64 (afSt st 5), .int .i64 (afOw ow 5 client), .string (afNm nm 5 name), .int .i64 (afDl dl 5 deadline)]) (by simp [results, Try.results42, go_sem, afSt, afOw, afNm, afDl]) rfl ⟨rfl, (by repeat' (first | exact Ext.refl _ | assumption | apply Ext.alloc | apply Ext.drewN | apply Ext.drew | (refine Ext.trans ?_ (by assumption)) | (refine ext_setCell ?_ (by first | (simp; done) | (simp; omega)) _)))⟩
  · go_enter Try.func42, Try.ntmps42
    go_wp2
    exact bodyPost_ret (v := .agg #[.int .i64 (afSt st 6), .int .i64 (afOw ow 6 client), .string (afNm nm 6 name), .int .i64 (afDl dl 6 deadline)]) (by simp [results, Try.results42, go_sem, afSt, afOw, afNm, afDl]) rfl ⟨rfl, (by repeat' (first | exact Ext.refl _ | assumption | apply Ext.alloc | apply Ext.drewN | apply Ext.drew | (refine Ext.trans ?_ (by assumption)) | (refine ext_setCell ?_ (by first | (simp; done) | (simp; omega)) _)))⟩
  · go_enter Try.func42, Try.ntmps42
    go_wp2
    exact bodyPost_ret (v := .agg #[.int .i64 (afSt st 7), .int .i64 (afOw ow 7 client), .string (afNm nm 7 name), .int .i64 (afDl dl 7 deadline)]) (by simp [results, Try.results42, go_sem, afSt, afOw, afNm, afDl]) rfl ⟨rfl, (by repeat' (first | exact Ext.refl _ | assumption | apply Ext.alloc | apply Ext.drewN | apply Ext.drew | (refine Ext.trans ?_ (by assumption)) | (refine ext_setCell ?_ (by first | (simp; done) | (simp; omega)) _)))⟩
  · have h1 : ¬ op = 1 := by omega
    have h2 : ¬ op = 2 := by omega
    have h3 : ¬ op = 3 := by omega
    have h4 : ¬ op = 4 := by omega
    have h5 : ¬ op = 5 := by omega
    have h6 : ¬ op = 6 := by omega
    go_enter Try.func42, Try.ntmps42
    go_wp2
    exact bodyPost_ret (v := .agg #[.int .i64 (afSt st op), .int .i64 (afOw ow op client), .string (afNm nm op name), .int .i64 (afDl dl op deadline)]) (by simp [results, Try.results42, go_sem, afSt, afOw, afNm, afDl, h1, h2, h3, h4, h5, h6]) rfl ⟨rfl, (by repeat' (first | exact Ext.refl _ | assumption | apply Ext.alloc | apply Ext.drewN | apply Ext.drew | (refine Ext.trans ?_ (by assumption)) | (refine ext_setCell ?_ (by first | (simp; done) | (simp; omega)) _)))⟩

end Go.Proofs.Ythenclenabcmgaa
