/-
  Operations in memory (32): an operation's cells, a slice of operations; refused, consistent, Precedes.
  Conditions: none.
-/
import Derived.Test.YthenclenabcmgaaJudge
import Derived.Test.YthenclenabcmgaaModF
namespace Go.Proofs.Ythenclenabcmgaa
open Go.RowKit Go.Sort
set_option maxHeartbeats 4000000
set_option maxRecDepth 100000

/-- An operation; nv is the value of its names. -/
structure Opn where
  cl : Int
  op : Int
  ttl : Int
  nv : Value
  ns : List Nm
  bad : Resp
  begun : Int
  dec : Int
  ans : Int
  res : Resp
def opC (o : Opn) : List Value := [.int .i64 o.cl, .int .i64 o.op, .int .i64 o.ttl, o.nv, .int .i64 o.bad.e, .int .i64 o.bad.at_, .string o.bad.nm, .int .i64 o.bad.rc.st, .int .i64 o.bad.rc.ow, .string o.bad.rc.nm, .int .i64 o.bad.rc.dl, .int .i64 o.bad.tick, .int .i64 o.begun, .int .i64 o.dec, .int .i64 o.ans, .int .i64 o.res.e, .int .i64 o.res.at_, .string o.res.nm, .int .i64 o.res.rc.st, .int .i64 o.res.rc.ow, .string o.res.rc.nm, .int .i64 o.res.rc.dl, .int .i64 o.res.tick]
def opV (o : Opn) : Value := .agg #[.int .i64 o.cl, .int .i64 o.op, .int .i64 o.ttl, o.nv, .int .i64 o.bad.e, .int .i64 o.bad.at_, .string o.bad.nm, .int .i64 o.bad.rc.st, .int .i64 o.bad.rc.ow, .string o.bad.rc.nm, .int .i64 o.bad.rc.dl, .int .i64 o.bad.tick, .int .i64 o.begun, .int .i64 o.dec, .int .i64 o.ans, .int .i64 o.res.e, .int .i64 o.res.at_, .string o.res.nm, .int .i64 o.res.rc.st, .int .i64 o.res.rc.ow, .string o.res.rc.nm, .int .i64 o.res.rc.dl, .int .i64 o.res.tick]
def opsC : List Opn → List Value
  | [] => []
  | o :: l => opC o ++ opsC l
theorem opC_len (o : Opn) : (opC o).length = 23 := rfl
theorem opsC_len : ∀ l : List Opn, (opsC l).length = l.length * 23
  | [] => rfl
  | o :: l => by rw [opsC, List.length_append, opsC_len l, opC_len, List.length_cons]; omega
theorem opsC_at : ∀ {l : List Opn} {j : Nat} {o : Opn}, l[j]? = some o → ∀ k, k < 23 → (opsC l)[j * 23 + k]? = (opC o)[k]?
  | [], j, o, h, _, _ => by simp at h
  | q :: r, 0, o, h, k, hk => by
    have e : q = o := by simpa using h
    rw [opsC, List.getElem?_append_left (by rw [opC_len]; omega), show 0 * 23 + k = k by omega, e]
  | q :: r, j + 1, o, h, k, hk => by
    have := opsC_at (l := r) (j := j) (o := o) (by simpa using h) k hk
    rw [opsC, List.getElem?_append_right (by rw [opC_len]; omega), opC_len, ← this, show (j + 1) * 23 + k - 23 = j * 23 + k by omega]
/-- The slice v reads as these operations. -/
def OpsAt (w : World) (S : Nat → Prop) (v : Value) (l : List Opn) : Prop := Rd w S 23 v l.length (opsC l) ∧ ∀ o ∈ l, NmsAt w S o.nv o.ns
theorem OpsAt.ext {w w' : World} {S : Nat → Prop} {v : Value} {l : List Opn} (h : OpsAt w S v l) (x : Ext w w') : OpsAt w' S v l := ⟨Rd.ext h.1 x, fun p hp => (h.2 p hp).ext x⟩
theorem OpsAt.chg {S T : Nat → Prop} {w w' : World} {v : Value} {l : List Opn} (h : OpsAt w S v l) (c : Chg T w w') (hd : ∀ k, S k → ¬ T k) : OpsAt w' S v l := ⟨Rd.chg h.1 c hd, fun p hp => Rd.chg (h.2 p hp) c hd⟩
theorem OpsAt.shape {w : World} {S : Nat → Prop} {v : Value} {l : List Opn} (h : OpsAt w S v l) : ∃ A c, v = .slice A l.length c := by
  obtain ⟨_, A, c, hv, _⟩ := h.1
  exact ⟨A, c, hv⟩
/-- An operation in a block, from a cell on. -/
def OpAt (w : World) (b p : Nat) (o : Opn) : Prop := b < w.heap.size ∧ ∀ k, k < 23 → w.cell? ⟨b, p + k, none⟩ = (opC o)[k]?
theorem OpAt.chg {S : Nat → Prop} {w w' : World} {b p : Nat} {o : Opn} (h : OpAt w b p o) (c : Chg S w w') (hb : ¬ S b) : OpAt w' b p o :=
  ⟨Nat.lt_of_lt_of_le h.1 c.size, fun k hk => (c.cell (p := ⟨b, p + k, none⟩) h.1 hb).trans (h.2 k hk)⟩
theorem OpAt.ext {w w' : World} {b p : Nat} {o : Opn} (h : OpAt w b p o) (x : Ext w w') : OpAt w' b p o := h.chg (x.chg fun _ => False) (fun h => h)
theorem OpAt.names {w : World} {b p : Nat} {o : Opn} (h : OpAt w b p o) : w.cell? ⟨b, p + 3, none⟩ = some o.nv := h.2 3 (by omega)
theorem OpAt.begun {w : World} {b p : Nat} {o : Opn} (h : OpAt w b p o) : w.cell? ⟨b, p + 12, none⟩ = some (.int .i64 o.begun) := h.2 12 (by omega)
theorem OpAt.dec {w : World} {b p : Nat} {o : Opn} (h : OpAt w b p o) : w.cell? ⟨b, p + 13, none⟩ = some (.int .i64 o.dec) := h.2 13 (by omega)
theorem OpAt.ans {w : World} {b p : Nat} {o : Opn} (h : OpAt w b p o) : w.cell? ⟨b, p + 14, none⟩ = some (.int .i64 o.ans) := h.2 14 (by omega)
theorem OpsAt.get {w : World} {S : Nat → Prop} {v : Value} {l : List Opn} (h : OpsAt w S v l) {j : Nat} {o : Opn} (hj : l[j]? = some o) :
    ∃ g p c, v = .slice (some ⟨g, p, none⟩) l.length c ∧ l.length ≤ c ∧ c ≤ maxLen ∧ S g ∧ OpAt w g (p + j * 23) o ∧ NmsAt w S o.nv o.ns := by
  obtain ⟨g, p, c, hv, h1, h2, h3, h4, hc⟩ := h.1.at_ (List.getElem?_eq_some_iff.1 hj).1
  refine ⟨g, p, c, hv, h1, h2, h3, ⟨h4, fun k hk => ?_⟩, h.2 o (List.mem_of_getElem? hj)⟩
  have q := opsC_at hj k hk
  have hk' : k < (opC o).length := by rw [opC_len]; exact hk
  rw [Nat.add_assoc, hc (j * 23 + k) (opC o)[k] (by rw [q]; exact List.getElem?_eq_getElem hk')]
  exact (List.getElem?_eq_getElem hk').symm
theorem refused_any (o : Opn) (w : World) : Calls Try.prog 21 #[opV o] w fun e w' => e = .returned (.bool (!(o.bad.e == 0))) ∧ Ext w w' := by
  unfold opV
  go_enter Try.func21, Try.ntmps21
  go_wp2_with fail
  go_ret
  exact ⟨rfl, (Ext.refl w).alloc _⟩
def precB (a b : Opn) : Bool := decide (0 ≤ a.ans) && decide (a.ans < b.begun)
theorem prec_any (a b : Opn) (w : World) : Calls Try.prog 27 #[opV a, opV b] w fun e w' => e = .returned (.bool (precB a b)) ∧ Ext w w' := by
  unfold opV precB
  cases h1 : decide (0 ≤ a.ans) <;> cases h2 : decide (a.ans < b.begun)
  all_goals
    go_enter Try.func27, Try.ntmps27
    go_wp2_with fail
    go_ret
    exact ⟨rfl, ((Ext.refl w).alloc _).alloc _⟩
/-- An operation is consistent by itself (32.1). -/
def consB (cl : Int) (o : Opn) : Bool :=
  if o.cl < 0 ∨ cl ≤ o.cl ∨ o.begun < 0 then false else if o.dec = -1 then o.ans == -1 else decide (o.begun < o.dec) && ((o.ans == -1) || decide (o.dec < o.ans))
theorem cons_good {cl cp : Int} {o : Opn} (h0 : 0 ≤ o.cl) (h1 : o.cl < cl) (h2 : 0 ≤ o.begun) (h3 : o.begun < o.dec) (h4 : o.dec < o.ans) (w : World) :
    Calls Try.prog 16 #[.agg #[.int .i64 cl, .int .i64 cp], opV o] w fun e w' => e = .returned (.bool true) ∧ Ext w w' := by
  unfold opV
  have d1 : decide (o.cl < 0) = false := by simp; omega
  have d2 : decide (cl ≤ o.cl) = false := by simp; omega
  have d3 : decide (o.begun < 0) = false := by simp; omega
  have d4 : (o.dec == -1) = false := by simp; omega
  have d5 : decide (o.begun < o.dec) = true := by simp; omega
  have d6 : (o.ans == -1) = false := by simp; omega
  have d7 : decide (o.dec < o.ans) = true := by simp; omega
  go_enter Try.func16, Try.ntmps16
  go_wp2_with fail
  go_ret
  exact ⟨rfl, ((Ext.refl w).alloc _).alloc _⟩
end Go.Proofs.Ythenclenabcmgaa
