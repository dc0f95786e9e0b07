/-
  Read of the program (33.3) returns the entries that the plain law reads, and the number of their bytes.
  Conditions: the journal is within a process's reach.
-/
import Derived.Test.YtfbhbnolnjcaiaaFirst
import Derived.WalkMore
namespace Go.Proofs.Ytfbhbnolnjcaiaa
open Go.RowKit Go.Sort
set_option maxHeartbeats 4000000
set_option maxRecDepth 20000

def entCells (p : Ent × Value) : List Value := [.int .i64 p.1.cl, .int .i64 p.1.op, .int .i64 p.1.ttl, .int .i64 p.1.tick, p.2]
def entsCells : List (Ent × Value) → List Value
  | [] => []
  | p :: r => entCells p ++ entsCells r
theorem entsCells_append : ∀ a b : List (Ent × Value), entsCells (a ++ b) = entsCells a ++ entsCells b
  | [], _ => rfl
  | p :: r, b => by simp [entsCells, entsCells_append r b]
theorem entsCells_len : ∀ l : List (Ent × Value), (entsCells l).length = l.length * 5
  | [] => rfl
  | p :: r => by rw [entsCells, List.length_append, entsCells_len r]; simp [entCells]; omega
theorem entsCells_at : ∀ {l : List (Ent × Value)} {j : Nat} {p : Ent × Value}, l[j]? = some p → ∀ k, k < 5 → (entsCells l)[j * 5 + k]? = (entCells p)[k]?
  | q :: r, 0, p, h, k, hk => by
    simp only [List.getElem?_cons_zero, Option.some.injEq] at h
    subst h
    rw [entsCells, List.getElem?_append_left (by simp [entCells]; omega)]
    congr 1; omega
  | q :: r, j + 1, p, h, k, hk => by
    have := entsCells_at (l := r) (j := j) (p := p) (by simpa using h) k hk
    rw [entsCells, List.getElem?_append_right (by simp [entCells]; omega), ← this]
    congr 1
    simp [entCells]; omega
/-- The slice v reads as these entries; p.2 is the value of an entry's names. -/
def EntsAt (w : World) (S : Nat → Prop) (v : Value) (ps : List (Ent × Value)) : Prop :=
  Rd w S 5 v ps.length (entsCells ps) ∧ ∀ p ∈ ps, NmsAt w S p.2 p.1.names
theorem EntsAt.ext {w w' : World} {S : Nat → Prop} {v : Value} {ps : List (Ent × Value)} (h : EntsAt w S v ps) (x : Ext w w') : EntsAt w' S v ps := ⟨Rd.ext h.1 x, fun p hp => (h.2 p hp).ext x⟩
theorem EntsAt.mono {w : World} {S T : Nat → Prop} {v : Value} {ps : List (Ent × Value)} (h : EntsAt w S v ps) (hst : ∀ k, S k → T k) : EntsAt w T v ps := ⟨Rd.mono h.1 fun k hk _ => hst k hk, fun p hp => Rd.mono (h.2 p hp) fun k hk _ => hst k hk⟩
theorem und_ents : Try.prog.underlying 56 = some (.slice 103) := by kernel_rfl
theorem info_ent : (Try.prog.info? 103).map (fun i => (i.zero, i.size, i.bytes)) = some (some (.agg #[.int .i64 0, .int .i64 0, .int .i64 0, .int .i64 0, .slice none 0 0]), 5, 56) := by kernel_rfl
theorem rd_ent (w : World) (a b c d : Int) (v : Value) : Rd (w.alloc (.cells #[.int .i64 a, .int .i64 b, .int .i64 c, .int .i64 d, v] 103)) (fun _ => True) 5 (.slice (some ⟨w.heap.size, 0, none⟩) 1 1) 1 [.int .i64 a, .int .i64 b, .int .i64 c, .int .i64 d, v] := by
  have h1 : (w.alloc (.cells #[.int .i64 a, .int .i64 b, .int .i64 c, .int .i64 d, v] 103)).heap[w.heap.size]? = some (.cells #[.int .i64 a, .int .i64 b, .int .i64 c, .int .i64 d, v] 103) := heap_alloc_new w _
  refine ⟨by simp, _, _, rfl, Nat.le_refl _, by unfold maxLen; omega, fun _ => ⟨_, _, rfl, trivial, (Array.getElem?_eq_some_iff.1 h1).1, fun j u hu => ?_⟩⟩
  simp only [World.cell?, h1]
  rw [Nat.zero_add, ← hu]
  simp
/-- The list of a Read under way: the row is the call's own, the names lie elsewhere. -/
structure RdSt (w w' : World) (L : List UInt8) (v : Value) (t : Nat) (ps : List (Ent × Value)) : Prop where
  own : w'.ownsRow w.heap.size 103 5 v ps.length (entsCells ps)
  nms : ∀ p ∈ ps, NmsAt w' (fun b => w.heap.size ≤ b ∧ v.ownBlock ≠ some b) p.2 p.1.names
  ext : Ext w w'
  le : t ≤ L.length
  len : ps.length ≤ 4096
  val : readF 4096 L = (ps.map Prod.fst ++ (readF (4096 - ps.length) (L.drop t)).1, t + (readF (4096 - ps.length) (L.drop t)).2)
def ReadPost (s : ByteArray) (w : World) (x : Ending) (w' : World) : Prop :=
  Ext w w' ∧ ∃ v ps, x = .returned (.tuple #[v, .int .i64 ((readJ s.data.toList).2 : Nat)]) ∧ ps.map Prod.fst = (readJ s.data.toList).1 ∧ EntsAt w' (fun k => w.heap.size ≤ k) v ps
theorem RdSt.fin {s : ByteArray} {w w' : World} {v : Value} {t : Nat} {ps : List (Ent × Value)} (h : RdSt w w' s.data.toList v t ps) (he : readF (4096 - ps.length) (s.data.toList.drop t) = ([], 0)) : ReadPost s w (.returned (.tuple #[v, .int .i64 (t : Int)])) w' := by
  have hv := h.val
  rw [he] at hv
  simp only [List.append_nil, Nat.add_zero] at hv
  refine ⟨h.ext, v, ps, by unfold readJ; rw [hv], by unfold readJ; rw [hv], Rd.of_own h.own fun k hk => (h.own.lt k hk).1, fun p hp => Rd.mono (h.nms p hp) fun k hk _ => hk.1⟩
/-- One more entry. -/
theorem RdSt.more {w w1 w2 w3 : World} {L : List UInt8} {v v' : Value} {t n : Nat} {ps : List (Ent × Value)} {e : Ent} {u : Value} (h : RdSt w w1 L v t ps) (hx : Ext w1 w2) (hf : firstP (L.drop t) = some (e, n)) (hu : NmsAt w2 (fun k => w1.heap.size ≤ k) u e.names) (hlt : ps.length < 4096)
    (ha : Appended w2 w.heap.size 103 5 v (ps.length + 1) (entsCells ps ++ entCells (e, u)) v' w3) : RdSt w w3 L v' (t + n) (ps ++ [(e, u)]) := by
  have hz := hx.size
  have hz1 := h.ext.size
  have hcg : Chg (fun b => v.ownBlock = some b) w2 w3 := (Chg.refl _ _).grown ha.grown (fun k hk => .inl hk)
  have hown1 : ∀ k, v.ownBlock = some k → w.heap.size ≤ k ∧ k < w1.heap.size := h.own.lt
  have hkeep : ∀ {S : Nat → Prop} {x : Value} {l : List Nm}, NmsAt w2 S x l → (∀ b, S b → b < w2.heap.size → w.heap.size ≤ b ∧ v.ownBlock ≠ some b) → NmsAt w3 (fun b => w.heap.size ≤ b ∧ v'.ownBlock ≠ some b) x l := fun {S x l} hn hS => by
    have h1 : NmsAt w2 (fun b => (w.heap.size ≤ b ∧ v.ownBlock ≠ some b) ∧ b < w2.heap.size) x l := Rd.mono hn fun k hk hkl => ⟨hS k hk hkl, hkl⟩
    refine Rd.mono (Rd.chg h1 hcg fun k hk e => hk.1.2 e) fun k hk _ => ⟨hk.1.1, fun e => ?_⟩
    rcases ha.at_ with h2 | h2
    · rw [h2] at e; exact hk.1.2 e
    · rw [h2] at e
      simp only [Option.some.injEq] at e
      omega
  obtain ⟨hp1, hp2⟩ := first_pos (firstP_of hf)
  rw [List.length_drop] at hp2
  refine ⟨?_, fun p hp => ?_, (h.ext.trans hx).chg_new hcg (fun i hi => (hown1 i hi).1), by omega, by simp; omega, ?_⟩
  · have := ha.own
    rw [entsCells_append]
    simpa [entsCells] using this
  · rcases List.mem_append.1 hp with hp | hp
    · exact hkeep ((h.nms p hp).ext hx) fun b hb _ => hb
    · simp only [List.mem_singleton] at hp
      subst hp
      exact hkeep hu fun b hb _ => ⟨by omega, fun e => by have := (hown1 b e).2; omega⟩
  · have hv := h.val
    obtain ⟨m, hm⟩ : ∃ m, 4096 - ps.length = m + 1 := ⟨4095 - ps.length, by omega⟩
    rw [hm, readF_step (firstP_of hf), List.drop_drop] at hv
    have hm2 : 4096 - (ps ++ [(e, u)]).length = m := by simp; omega
    rw [hm2, hv]
    simp [Nat.add_assoc]
set_option maxRecDepth 100000
theorem read_any (s : ByteArray) (hs : s.size ≤ 140737488351232) (w : World) : Calls Try.prog 51 #[.string s] w (ReadPost s w) := by
  have hst : RdSt w w s.data.toList (.slice none 0 0) 0 [] := ⟨World.ownsRow_nil _ _ _ _, by simp, Ext.refl _, Nat.zero_le _, by simp, by simp⟩
  have Hst := Lib.hid hst
  clear hst
  go_enter Try.func51, Try.ntmps51
  go_wp2_with fail
  go_step3
  go_wp2_with fail
  go_step3
  go_wp2_with fail
  go_loopw [4, 5] (fun v o wr => ∃ t ps, o = .int .i64 (t : Nat) ∧ RdSt w wr s.data.toList v t ps) (fun v _ _ => 4096 - (match v with | .slice _ n _ => n | _ => 0))
  case atStart => exact ⟨0, [], rfl, Hst.out⟩
  case round =>
    clear Hst
    obtain ⟨t, ps, rfl, hst⟩ := hrel
    obtain ⟨a, c, rfl⟩ := own_shape hst.own
    have hle := hst.le
    have hlen := hst.len
    have hLl : s.data.toList.length = s.size := rfl
    have Hst := Lib.hid hst
    clear hst
    by_cases hlt : ps.length < 4096
    · have hd : decide ((ps.length : Int) < 4096) = true := by simp; omega
      have hd' : (ps.length : Int) < 4096 := by omega
      have q0 : (0 : Int) ≤ (t : Int) := by omega
      have q1 : (t : Int) ≤ (s.size : Int) := by omega
      obtain ⟨sub, hsub⟩ : ∃ sub, s.extract t s.size = sub := ⟨_, rfl⟩
      have hsl : sub.data.toList = s.data.toList.drop t := by
        rw [← hsub, ByteArray.data_extract, Array.toList_extract]
        show List.extract s.data.toList t s.size = _
        rw [List.extract_eq_take_drop, List.take_of_length_le (by rw [List.length_drop]; omega)]
      have hss : sub.size ≤ 140737488351232 := by
        have : sub.data.toList.length = sub.size := rfl
        rw [hsl, List.length_drop] at this
        omega
      have Hsl := Lib.hid hsl
      clear hsl
      go_wp2_with fail
      refine (first_any sub hss _).mono ?_
      rintro x w1 ⟨hx, ⟨e, n, u, hf, rfl, hnm⟩ | ⟨hf, e, A, k, c2, n, rfl⟩⟩
      · obtain ⟨A, c2, rfl⟩ := hnm.shape
        have hf' : firstP (s.data.toList.drop t) = some (e, n) := by rw [← Hsl.out]; exact hf
        have hpos := first_pos (firstP_of hf')
        rw [List.length_drop] at hpos
        obtain ⟨hpos, hnl⟩ := hpos
        have hw3 : wrap64 ((t : Int) + (n : Int)) = ((t + n : Nat) : Int) := by unfold wrap64; omega
        have Hf := Lib.hid hf'
        have hxa : Ext w1 ((w1.alloc (.cells #[.int .i64 e.cl, .int .i64 e.op, .int .i64 e.ttl, .int .i64 e.tick, .slice A e.names.length c2] 103)).alloc (.cells #[.int .i64 e.cl, .int .i64 e.op, .int .i64 e.ttl, .int .i64 e.tick, .slice A e.names.length c2] 103)) := ((Ext.refl _).alloc _).alloc _
        have Hx := Lib.hid (hx.trans hxa)
        have Hnm := Lib.hid (hnm.ext hxa)
        have Hown := Lib.hid (((Rd.of_own (S := fun _ => True) Hst.out.own (fun _ _ => trivial)).ext (hx.trans hxa)))
        have hown2 := Lib.hid (Hst.out.own.kept (hx.trans hxa).grownN (by cases hb : (Value.slice a ps.length c).ownBlock with | none => exact .inl rfl | some k => exact .inr (by simp)))
        have hrl := rd_ent (w1.alloc (.cells #[.int .i64 e.cl, .int .i64 e.op, .int .i64 e.ttl, .int .i64 e.tick, .slice A e.names.length c2] 103)) e.cl e.op e.ttl e.tick (.slice A e.names.length c2)
        rw [show (w1.alloc (.cells #[.int .i64 e.cl, .int .i64 e.op, .int .i64 e.ttl, .int .i64 e.tick, .slice A e.names.length c2] 103)).heap.size = w1.heap.size + 1 by simp] at hrl
        have hbz : w.heap.size ≤ ((w1.alloc (.cells #[.int .i64 e.cl, .int .i64 e.op, .int .i64 e.ttl, .int .i64 e.tick, .slice A e.names.length c2] 103)).alloc (.cells #[.int .i64 e.cl, .int .i64 e.op, .int .i64 e.ttl, .int .i64 e.tick, .slice A e.names.length c2] 103)).heap.size := by have := Hst.out.ext.size; have := hx.size; simp; omega
        obtain ⟨i0, hi, hz0, hz1, hz2⟩ := info_parts info_ent
        clear hxa hx hnm hf hf' Hown
        unfold entV
        skip
        go_wp2_with (at_builtin; refine wpList_append_rd _ rfl _ _ 56 rfl w.heap.size 103 i0 _ 5 56 und_ents hi hz0 hz1 hz2 rfl (by decide) _ ps.length _ rfl hown2.out (fun _ => True) _ 1 _ rfl hrl (by simp [Value.oneCell']) (by unfold maxLen; omega) (by omega) hbz ?_; intro v' w3 ha; obtain ⟨a3, c3, hv3⟩ := own_shape ha.own; subst hv3)
        have Hend := Lib.hid (Hst.out.more Hx.out Hf.out Hnm.out hlt ha)
        clear ha hrl hown2 hbz
        go_roundw
        case rel => exact ⟨t + n, _, by first | rfl | (rw [hw3]), by simpa using Hend.out⟩
        case measure => simp; omega
      · have hx' := hx.alloc (.cells #[.int .i64 e.cl, .int .i64 e.op, .int .i64 e.ttl, .int .i64 e.tick, .slice A k c2] 103)
        have Hfin := Lib.hid (RdSt.fin (s := s) (w := w) (w' := w1.alloc (.cells #[.int .i64 e.cl, .int .i64 e.op, .int .i64 e.ttl, .int .i64 e.tick, .slice A k c2] 103)) (v := .slice a ps.length c) (t := t) (ps := ps) ⟨Hst.out.own.kept hx'.grownN (by cases hb : (Value.slice a ps.length c).ownBlock with | none => exact .inl rfl | some k => exact .inr (by simp)), fun p hp => (Hst.out.nms p hp).ext hx', Hst.out.ext.trans hx', Hst.out.le, Hst.out.len, Hst.out.val⟩ (readF_stop fun e n => firstP_none (by rw [← Hsl.out]; exact hf) e n))
        clear hx'
        clear hf hx
        unfold entV
        go_wp2_with fail
        go_ret2
        exact Hfin.out
    · have hd : decide ((ps.length : Int) < 4096) = false := by simp; omega
      have hd' : ¬ (ps.length : Int) < 4096 := by omega
      have hz : 4096 - ps.length = 0 := by omega
      have Hfin := Lib.hid (Hst.out.fin (by rw [hz]; rfl))
      clear hz
      go_wp2_with fail
      go_ret2
      exact Hfin.out
end Go.Proofs.Ytfbhbnolnjcaiaa
