/-
  The maps of history.Check: the steps of decisions, and the last operation of each client.
  Conditions: as named.
-/
import Derived.Test.YthenclenabcmgaaOrdB
import Derived.Test.YthenclenabcmgaaHP
namespace Go.Proofs.Ythenclenabcmgaa
open Go.RowKit Go.Sort
open Go.Maps (Keyed int_keyed)
open Go.ChangeMaps Go.MapKept Go.WideMaps
set_option maxHeartbeats 4000000
set_option maxRecDepth 100000

theorem und_mb : Try.prog.underlying 56 = some (.map 3 4) := by kernel_rfl
theorem und_mo : Try.prog.underlying 57 = some (.map 3 31) := by kernel_rfl
theorem und_int : Try.prog.underlying 3 = some (.int .i64) := by kernel_rfl
theorem int_key : Keyed Try.prog 3 := int_keyed und_int
def zeroOp : Opn := ⟨0, 0, 0, .slice none 0 0, [], ⟨0, 0, ⟨#[]⟩, default, 0⟩, 0, 0, 0, ⟨0, 0, ⟨#[]⟩, default, 0⟩⟩
theorem zero_op (w : World) : (zeroValue 31).run Try.prog w = .ok (opV zeroOp) w := by kernel_rfl
theorem zero_bool (w : World) : (zeroValue 4).run Try.prog w = .ok (.bool false) w := by kernel_rfl
theorem wf_i64 {k : Int} (h : I64 k) : (Lit.int .i64 k).wf = true := by
  unfold I64 at h
  simp [Lit.wf, IntKind.min, IntKind.max, IntKind.signed, IntKind.bits]
  omega
open Classical in
noncomputable def opR (v : Value) : Option (DataW Unit × List MemPlace) := if h : ∃ o, v = opV o ∧ o.nv.oneCell' = true then some (.lit (.int .i64 h.choose.ans), []) else none
theorem opV_ans {a b : Opn} (h : opV a = opV b) : a.ans = b.ans := by
  unfold opV at h
  simp only [Value.agg.injEq, Array.mk.injEq, List.cons.injEq, Value.int.injEq, true_and] at h
  exact h.2.2.2.2.2.2.2.2.2.2.2.2.2.2.1
theorem opR_mk (o : Opn) (h1 : o.nv.oneCell' = true) : opR (opV o) = some (.lit (.int .i64 o.ans), []) := by
  have h : ∃ p, opV o = opV p ∧ p.nv.oneCell' = true := ⟨o, rfl, h1⟩
  unfold opR
  rw [dif_pos h, ← opV_ans h.choose_spec.1]
theorem opR_inv {v : Value} {z : DataW Unit × List MemPlace} (h : opR v = some z) : ∃ o, v = opV o ∧ o.nv.oneCell' = true ∧ z = (.lit (.int .i64 o.ans), []) := by
  unfold opR at h
  split at h
  · rename_i hh
    simp only [Option.some.injEq] at h
    exact ⟨hh.choose, hh.choose_spec.1, hh.choose_spec.2, h.symm⟩
  · simp at h
def boolR : Value → Option (DataW Unit × List MemPlace)
  | .bool true => some (.lit (.bool true), [])
  | _ => none
theorem boolR_inv {v : Value} {z : DataW Unit × List MemPlace} (h : boolR v = some z) : v = .bool true := by
  unfold boolR at h
  split at h
  · rfl
  · simp at h
/-- The map in block m has these numbers for keys. -/
def IntsAt (w : World) (m : Nat) (ks : List Int) : Prop := ∃ D, w.ownsMap Try.prog 3 boolR m ks.length D ∧ Maps.Tidy D ∧ ∀ k, Maps.has D (.int .i64 k) = true ↔ k ∈ ks
theorem IntsAt.lt {w : World} {m : Nat} {ks : List Int} (h : IntsAt w m ks) : m < w.heap.size := by
  obtain ⟨D, h, _⟩ := h
  exact h.lt
theorem IntsAt.keep {w w' : World} {m : Nat} {ks : List Int} (h : IntsAt w m ks) (hk : w'.heap[m]? = w.heap[m]?) : IntsAt w' m ks := by
  obtain ⟨D, ⟨es, clock, hb, r⟩, h2⟩ := h
  exact ⟨D, ⟨es, clock, hk.trans hb, r⟩, h2⟩
theorem IntsAt.chg {S : Nat → Prop} {w w' : World} {m : Nat} {ks : List Int} (h : IntsAt w m ks) (c : Chg S w w') (hm : ¬ S m) : IntsAt w' m ks := h.keep (c.block m h.lt hm)
theorem IntsAt.ext {w w' : World} {m : Nat} {ks : List Int} (h : IntsAt w m ks) (x : Ext w w') : IntsAt w' m ks := h.keep (x.block h.lt)
theorem ints_made (w : World) : IntsAt (w.alloc (.map #[] 0)) w.heap.size [] := ⟨_, World.ownsMap_made w _ _ _, Maps.tidy_empty, fun k => by simp [Maps.has]⟩
theorem IntsAt.look {w : World} {m : Nat} {ks : List Int} (h : IntsAt w m ks) {k : Int} (hk : I64 k) : (Instr.lookup 56 (.map (some m)) (.int .i64 k) false).run Try.prog w = .ok (.bool (decide (k ∈ ks))) w := by
  obtain ⟨D, ⟨es, clock, hb, F, hn, rfl⟩, _, h3⟩ := h
  rcases Maps.fit_look false int_key und_mb (zero_bool w) hb F (Maps.keyOf_int_mk und_int (wf_i64 hk)) with ⟨hrun, _, hat⟩ | ⟨e0, y, _, _, hrun, hy, hat, _⟩
  · have hno : k ∉ ks := fun hm => by
      have := (h3 k).2 hm
      rw [Maps.has_false_of_atKey hat] at this; simp at this
    simpa [hno] using hrun
  · have hyes : k ∈ ks := (h3 k).1 (Maps.has_true_of_atKey hat)
    rw [boolR_inv hy] at hrun
    simpa [hyes] using hrun
theorem ints_put {w : World} {m : Nat} {ks : List Int} (h : IntsAt w m ks) (hl : ks.length < maxLen) {k : Int} (hk : I64 k) :
    ∃ w', (Instr.mapUpdate 56 (.map (some m)) (.int .i64 k) (.bool true)).run Try.prog w = .ok () w' ∧ IntsAt w' m (k :: ks) ∧ Chg (· = m) w w' := by
  obtain ⟨D, h1, h2, h3⟩ := h
  obtain ⟨w', hrun, h4, h5⟩ := h1.update int_key und_mb hl (Maps.keyOf_int_mk und_int (wf_i64 hk)) (show boolR (.bool true) = some (.lit (.bool true), []) from rfl)
  refine ⟨w', hrun, ⟨_, h4, h2.put (by simp [WideAt.IsKeyLit]) _, fun k' => ?_⟩, (Chg.refl _ w).grown h5 fun i hi => .inl (by simpa using hi.symm)⟩
  by_cases e : k' = k
  · subst e
    rw [Maps.has_put_same h2.isMap (by simp [WideAt.IsKeyLit])]
    simp
  · rw [Maps.has_put_other (by simpa using e), h3]
    simp [e]
/-- The map in block m leads each client to an operation with this answer. -/
def LastAt (w : World) (m n : Nat) (f : Int → Option Int) : Prop := ∃ D, w.ownsMap Try.prog 3 opR m n D ∧ Maps.Tidy D ∧ ∀ k, (f k = none → Maps.has D (.int .i64 k) = false) ∧ ∀ a, f k = some a → ∀ z, D.atKey (.int .i64 k) z = .lit (.int .i64 a)
theorem LastAt.lt {w : World} {m n : Nat} {f : Int → Option Int} (h : LastAt w m n f) : m < w.heap.size := by
  obtain ⟨D, h, _⟩ := h
  exact h.lt
theorem LastAt.keep {w w' : World} {m n : Nat} {f : Int → Option Int} (h : LastAt w m n f) (hk : w'.heap[m]? = w.heap[m]?) : LastAt w' m n f := by
  obtain ⟨D, ⟨es, clock, hb, r⟩, h2⟩ := h
  exact ⟨D, ⟨es, clock, hk.trans hb, r⟩, h2⟩
theorem LastAt.chg {S : Nat → Prop} {w w' : World} {m n : Nat} {f : Int → Option Int} (h : LastAt w m n f) (c : Chg S w w') (hm : ¬ S m) : LastAt w' m n f := h.keep (c.block m h.lt hm)
theorem LastAt.ext {w w' : World} {m n : Nat} {f : Int → Option Int} (h : LastAt w m n f) (x : Ext w w') : LastAt w' m n f := h.keep (x.block h.lt)
theorem last_made (w : World) : LastAt (w.alloc (.map #[] 0)) w.heap.size 0 (fun _ => none) := ⟨_, World.ownsMap_made w _ _ _, Maps.tidy_empty, fun k => ⟨fun _ => by simp [Maps.has], fun a h => by simp at h⟩⟩
theorem LastAt.look {w : World} {m n : Nat} {f : Int → Option Int} (h : LastAt w m n f) {k : Int} (hk : I64 k) :
    ∃ o b, (Instr.lookup 57 (.map (some m)) (.int .i64 k) true).run Try.prog w = .ok (.tuple #[opV o, .bool b]) w ∧ o.nv.oneCell' = true ∧ ((f k = none ∧ b = false) ∨ (f k = some o.ans ∧ b = true)) := by
  obtain ⟨D, ⟨es, clock, hb, F, hn, rfl⟩, _, h3⟩ := h
  rcases Maps.fit_look true int_key und_mo (zero_op w) hb F (Maps.keyOf_int_mk und_int (wf_i64 hk)) with ⟨hrun, _, hat⟩ | ⟨e0, y, _, _, hrun, hy, hat, _⟩
  · refine ⟨zeroOp, false, by simpa using hrun, rfl, .inl ⟨?_, rfl⟩⟩
    cases hf : f k with
    | none => rfl
    | some a =>
      have := (h3 k).2 a hf (.lit (.bool true))
      rw [hat] at this
      simp at this
  · obtain ⟨o, ho, h1, hz⟩ := opR_inv hy
    refine ⟨o, true, by rw [ho] at hrun; simpa using hrun, h1, .inr ⟨?_, rfl⟩⟩
    cases hf : f k with
    | none =>
      have := (h3 k).1 hf
      rw [Maps.has_true_of_atKey hat] at this; simp at this
    | some a =>
      have := (h3 k).2 a hf (.lit (.bool true))
      rw [hat, hz] at this
      simp at this
      rw [this]
theorem last_put {w : World} {m n : Nat} {f : Int → Option Int} (h : LastAt w m n f) (hl : n < maxLen) {k : Int} (hk : I64 k) {o : Opn} (h1 : o.nv.oneCell' = true) :
    ∃ w', (Instr.mapUpdate 57 (.map (some m)) (.int .i64 k) (opV o)).run Try.prog w = .ok () w' ∧ LastAt w' m (n + 1) (fun c => if k = c then some o.ans else f c) ∧ Chg (· = m) w w' := by
  obtain ⟨D, h1', h2, h3⟩ := h
  obtain ⟨w', hrun, h4, h5⟩ := h1'.update int_key und_mo hl (Maps.keyOf_int_mk und_int (wf_i64 hk)) (opR_mk o h1)
  refine ⟨w', hrun, ⟨_, h4, h2.put (by simp [WideAt.IsKeyLit]) _, fun k' => ?_⟩, (Chg.refl _ w).grown h5 fun i hi => .inl (by simpa using hi.symm)⟩
  by_cases e : k = k'
  · subst e
    simp only [if_true]
    refine ⟨fun h => by simp at h, fun a ha z => ?_⟩
    simp only [Option.some.injEq] at ha
    subst ha
    exact Maps.atKey_put_same h2.isMap (by simp [WideAt.IsKeyLit]) _ _
  · simp only [e, if_false]
    have hne : (Lit.int .i64 k') ≠ .int .i64 k := by simpa using fun h => e h.symm
    refine ⟨fun h => by rw [Maps.has_put_other hne]; exact (h3 k').1 h, fun a ha z => ?_⟩
    rw [Maps.atKey_put_other hne]
    exact (h3 k').2 a ha z
end Go.Proofs.Ythenclenabcmgaa
