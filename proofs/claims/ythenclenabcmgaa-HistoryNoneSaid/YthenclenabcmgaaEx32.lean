/-
  The example of chapter 32.
  Conditions: none.
-/
import Derived.Test.YthenclenabcmgaaFind32
namespace Go.Proofs.Ythenclenabcmgaa
open Go.RowKit Go.Sort
set_option maxHeartbeats 8000000
set_option maxRecDepth 100000

def nmA : Nm := ⟨⟨#[97]⟩, ⟨#[97]⟩, ⟨#[97]⟩⟩
def noRc : Rc := ⟨0, 0, ⟨#[]⟩, 0⟩
def exL (nv : Value) : List Opn := [⟨0, 1, 5, nv, [nmA], ⟨0, 0, ⟨#[]⟩, noRc, 0⟩, 0, 9, 12, ⟨24, 0, ⟨#[97]⟩, noRc, 0⟩⟩, ⟨1, 1, 5, nv, [nmA], ⟨0, 0, ⟨#[]⟩, noRc, 0⟩, 1, 5, 11, ⟨0, -1, ⟨#[]⟩, noRc, 0⟩⟩]
/-- The two operations of HistoryNone. -/
def noL (nv : Value) (b0 b1 d1 : Int) : List Opn := [⟨0, 1, 5, nv, [nmA], ⟨0, 0, ⟨#[]⟩, noRc, 0⟩, b0, 9, 12, ⟨0, -1, ⟨#[]⟩, noRc, 0⟩⟩, ⟨1, 1, 5, nv, [nmA], ⟨0, 0, ⟨#[]⟩, noRc, 0⟩, b1, d1, 11, ⟨0, -1, ⟨#[]⟩, noRc, 0⟩⟩]
theorem ord_ex (nv : Value) : ordL (exL nv) = [1, 0] := by
  refine (IsOrd.unique ⟨List.pairwise_cons.2 ⟨fun j hj => by rw [List.mem_singleton.1 hj]; rfl, List.pairwise_singleton _ _⟩, fun i => ?_⟩ (ordL_is (exL nv))).symm
  match i with
  | 0 => exact ⟨fun _ => rfl, fun _ => by simp⟩
  | 1 => exact ⟨fun _ => rfl, fun _ => by simp⟩
  | i + 2 => exact ⟨fun h => by simp at h, fun h => by have h2 : decB (exL nv) (i + 2) = false := rfl; rw [h2] at h; simp at h⟩
theorem chk_ex (nv : Value) : (checkL 2 1 (exL nv)).2 = 0 := by kernel_rfl
theorem expl_ex (nv : Value) : explB 2 1 (exL nv) [1, 0] = true := by kernel_rfl
theorem srch_ex (nv : Value) : searchL 2 1 (exL nv) 50 = ([1, 0], 3, 0) := by kernel_rfl
theorem repl_ex (nv : Value) : (replL 2 1 (exL nv)).2 = 0 := by
  unfold replL
  rw [ord_ex]
  kernel_rfl
theorem srch_no (nv : Value) (b0 b1 d1 : Int) (h0 : b0 = 0 ∨ b0 = 1 ∨ b0 = 2) (h1 : b1 = 3 ∨ b1 = 4) (h2 : d1 = 5 ∨ d1 = 6 ∨ d1 = 7) : searchL 2 2 (noL nv b0 b1 d1) 50 = ([], 4, 23) := by
  rcases h0 with rfl | rfl | rfl <;> rcases h1 with rfl | rfl <;> rcases h2 with rfl | rfl | rfl <;> kernel_rfl
theorem example_any (w : World) : Calls Try.prog 4 #[] w fun e w' => e = .returned (.slice (some ⟨w.heap.size + 1, 0, none⟩) 2 2) ∧ w' = (w.alloc (.cells #[.string ⟨#[97]⟩, .string ⟨#[97]⟩, .string ⟨#[97]⟩] 41)).alloc (.cells (opsC (exL (.slice (some ⟨w.heap.size, 0, none⟩) 1 1))).toArray 31) := by
  go_enter Try.func4, Try.ntmps4
  go_wp2_with fail
  go_ret
  exact ⟨rfl, rfl⟩
/-- Operations that lie alone in a new block. -/
theorem ops_new (w : World) (l : List Opn) (t : TypeId) (b : Nat) (hb : w.heap[b]? = some (.cells (opsC l).toArray t)) (S : Nat → Prop) (hS : S b) (hl : l.length ≤ 1000) (hn : ∀ o ∈ l, NmsAt w S o.nv o.ns) : OpsAt w S (.slice (some ⟨b, 0, none⟩) l.length l.length) l := by
  refine ⟨⟨opsC_len l, _, _, rfl, Nat.le_refl _, by unfold maxLen; omega, fun _ => ⟨b, 0, rfl, hS, (Array.getElem?_eq_some_iff.1 hb).1, fun j u hu => ?_⟩⟩, hn⟩
  simp only [World.cell?, hb]
  rw [Nat.zero_add, ← hu]
  simp
theorem nms_new (w : World) (b : Nat) (t : TypeId) (hb : w.heap[b]? = some (.cells #[.string ⟨#[97]⟩, .string ⟨#[97]⟩, .string ⟨#[97]⟩] t)) (S : Nat → Prop) (hS : S b) : NmsAt w S (.slice (some ⟨b, 0, none⟩) 1 1) [nmA] := by
  refine ⟨rfl, _, _, rfl, Nat.le_refl _, by unfold maxLen; omega, fun _ => ⟨b, 0, rfl, hS, (Array.getElem?_eq_some_iff.1 hb).1, fun j u hu => ?_⟩⟩
  simp only [World.cell?, hb]
  rw [Nat.zero_add, ← hu]
  simp [nmsCells, nmA]
  rfl

theorem ex_fits (nv : Value) : (∀ o ∈ exL nv, o.fits) ∧ KeyOk (exL nv) := by
  unfold exL KeyOk
  refine ⟨fun o ho => ?_, fun o ho n hn => ?_⟩
  · simp only [List.mem_cons, List.not_mem_nil, or_false] at ho
    rcases ho with rfl | rfl <;> exact ⟨by unfold I64; simp; done, by unfold I64; simp; done⟩
  · simp only [List.mem_cons, List.not_mem_nil, or_false] at ho
    rcases ho with rfl | rfl <;> (rw [List.mem_singleton.1 hn]; exact Nat.le_trans (show nmA.k.size ≤ 1 from Nat.le_refl _) (by unfold maxLen; omega))
theorem ex_ops (w : World) : OpsAt ((w.alloc (.cells #[.string ⟨#[97]⟩, .string ⟨#[97]⟩, .string ⟨#[97]⟩] 41)).alloc (.cells (opsC (exL (.slice (some ⟨w.heap.size, 0, none⟩) 1 1))).toArray 31)) (fun k => w.heap.size ≤ k) (.slice (some ⟨w.heap.size + 1, 0, none⟩) 2 2) (exL (.slice (some ⟨w.heap.size, 0, none⟩) 1 1)) := by
  refine ops_new _ (exL _) 31 (w.heap.size + 1) ?_ _ (Nat.le_succ _) (by simp [exL]) (fun o ho => ?_)
  · have := heap_alloc_new (w.alloc (.cells #[.string ⟨#[97]⟩, .string ⟨#[97]⟩, .string ⟨#[97]⟩] 41)) (.cells (opsC (exL (.slice (some ⟨w.heap.size, 0, none⟩) 1 1))).toArray 31)
    rwa [show (w.alloc (.cells #[.string ⟨#[97]⟩, .string ⟨#[97]⟩, .string ⟨#[97]⟩] 41)).heap.size = w.heap.size + 1 by simp] at this
  · have hb : ((w.alloc (.cells #[.string ⟨#[97]⟩, .string ⟨#[97]⟩, .string ⟨#[97]⟩] 41)).alloc (.cells (opsC (exL (.slice (some ⟨w.heap.size, 0, none⟩) 1 1))).toArray 31)).heap[w.heap.size]? = some (.cells #[.string ⟨#[97]⟩, .string ⟨#[97]⟩, .string ⟨#[97]⟩] 41) := by
      rw [Below.heap_alloc _ _ _ (by simp)]
      exact heap_alloc_new w _
    have := nms_new _ w.heap.size _ hb (fun k => w.heap.size ≤ k) (Nat.le_refl _)
    simp only [exL, List.mem_cons, List.not_mem_nil, or_false] at ho
    rcases ho with rfl | rfl <;> exact this
theorem same_nat (va vb : Value) (l : List Nat) (S T : Nat → Prop) (w : World) (ha : NatsAt w S va l) (hb : NatsAt w T vb l) (hl : l.length ≤ 1000000) :
    Calls Try.prog 13 #[va, vb] w fun e w' => e = .returned (.bool true) ∧ Ext w w' := by
  obtain ⟨n, hln⟩ : ∃ n, l.length = n := ⟨_, rfl⟩
  have Ha := Lib.hid ha
  have Hb := Lib.hid hb
  have Hln := Lib.hid hln
  obtain ⟨_, A, ca, rfl, ha1, ha2, _⟩ := ha
  obtain ⟨_, B, cb, rfl, hb1, hb2, _⟩ := hb
  unfold maxLen at ha2 hb2
  rw [hln] at ha1 hb1 hl ⊢
  clear hln
  go_enter Try.func13, Try.ntmps13
  go_wp2_with fail
  go_loopw [13] (fun o wr => ∃ i : Nat, i ≤ n ∧ o = .int .i64 (i : Int) ∧ Ext w wr) (fun o _ => n - (intOf o).toNat)
  case atStart => exact ⟨0, by omega, rfl, Ext.refl _⟩
  case round =>
    obtain ⟨i, hi, rfl, hx⟩ := hrel
    by_cases hin : i < n
    · have hd : decide ((i : Int) < (n : Int)) = true := by simpa using hin
      obtain ⟨x, hxx⟩ : ∃ x, l[i]? = some x := ⟨l[i]'(by have := Hln.out; omega), by simp⟩
      obtain ⟨ga, oa, c1, e1, _, _, _, hc1⟩ := NatsAt.get (Ha.out.ext hx) hxx
      obtain ⟨gb, ob, c2, e2, _, _, _, hc2⟩ := NatsAt.get (Hb.out.ext hx) hxx
      rw [Hln.out] at e1 e2
      simp only [Value.slice.injEq] at e1 e2
      obtain ⟨rfl, _, rfl⟩ := e1
      obtain ⟨rfl, _, rfl⟩ := e2
      obtain ⟨_, d1⟩ := hc1
      obtain ⟨_, d2⟩ := hc2
      have i0 : (0 : Int) ≤ (i : Int) := by omega
      have i1 : (i : Int) < (n : Int) := by omega
      have Hx := Lib.hid hx
      clear hx hxx
      go_wp2_with fail
      go_quiet (fail)
      go_wp2_with fail
      go_roundw
      case rel => exact ⟨i + 1, by omega, by go_num, Hx.out.drewN _⟩
      case measure => simp [intOf]; omega
    · have hd : decide ((i : Int) < (n : Int)) = false := by simp; omega
      go_wp2_with fail
      go_ret
      exact ⟨rfl, hx⟩
end Go.Proofs.Ythenclenabcmgaa
