/-
  Rows of bytes that a call owns, and what is appended to them; PutInt of the program and of the reference (3.1) writes the code of the plain law.
  Conditions: the string's length leaves room for a code.
-/
import Derived.Test.YtfbhbnolnjcaiaaGround
import Derived.Laws.BitsAllLaws
import Derived.Laws.DeepNot64
import Derived.WalkSmall
import Derived.Laws.IdiomCopy
namespace Go.Proofs.Ytfbhbnolnjcaiaa
open Go.RowKit Go.Sort
set_option maxHeartbeats 1000000
set_option maxRecDepth 10000

theorem info_u8 : (Try.prog.info? 5).map (fun i => (i.zero, i.size, i.bytes)) = some (some (.int .u8 0), 1, 1) := by kernel_rfl
/-- v is a slice of these bytes, in a row behind 'base'. -/
def BRow (w : World) (base : Nat) (v : Value) (l : List UInt8) : Prop :=
  ∃ g cap, v = .slice (some ⟨g, 0, none⟩) l.length cap ∧ base ≤ g ∧ g < w.heap.size ∧ l.length ≤ cap ∧ (∀ o, o < cap → (w.cell? ⟨g, o, none⟩).isSome = true ∧ w.frozen? ⟨g, o, none⟩ = false) ∧ ∀ j b, l[j]? = some b → w.cell? ⟨g, j, none⟩ = some (.int .u8 (b.toNat : Int))
theorem BRow.keep {w w' : World} {base : Nat} {v : Value} {l : List UInt8} (h : BRow w base v l) (x : Ext w w') : BRow w' base v l := by
  obtain ⟨g, cap, h1, h2, h3, h4, h5, h6⟩ := h
  exact ⟨g, cap, h1, h2, Nat.lt_of_lt_of_le h3 x.size, h4, fun o ho => ⟨by rw [x.cell (p := ⟨g, o, none⟩) h3]; exact (h5 o ho).1, by rw [x.frozen (p := ⟨g, o, none⟩) h3]; exact (h5 o ho).2⟩, fun j b hj => by rw [x.cell (p := ⟨g, j, none⟩) h3]; exact h6 j b hj⟩
theorem byteAt_list (s : ByteArray) {j : Nat} {b : UInt8} (h : s.data.toList[j]? = some b) : byteAt s j = (b.toNat : Int) := by
  obtain ⟨hj, he⟩ := List.getElem?_eq_some_iff.1 h
  have hj' : j < s.size := by simpa using hj
  unfold byteAt
  rw [dif_pos hj']
  have : s[j] = b := by rw [← he]; simp [ByteArray.getElem_eq_getElem_data]
  rw [this]
/-- The row that '[]byte(s)' makes. -/
theorem brow_of_string (w : World) (s : ByteArray) :
    BRow (w.alloc (.cells (bytesRow s (grownCap w s.size 0 5)) 5 ((bytesRow s (grownCap w s.size 0 5)).size, (bytesRow s (grownCap w s.size 0 5)).size + 1))).drew w.heap.size (.slice (some ⟨w.heap.size, 0, none⟩) s.size (grownCap w s.size 0 5)) s.data.toList := by
  obtain ⟨c, hc⟩ : ∃ c, grownCap w s.size 0 5 = c := ⟨_, rfl⟩
  have hge : s.size ≤ c := hc ▸ grownCap_ge w s.size 0 5
  rw [hc]
  have hsz : (bytesRow s c).size = c := by
    unfold bytesRow
    simp only [Array.size_append, Array.size_map, Array.size_replicate]
    have : s.data.size = s.size := rfl
    omega
  have h1 : (w.alloc (.cells (bytesRow s c) 5 ((bytesRow s c).size, (bytesRow s c).size + 1))).drew.heap[w.heap.size]? = some (.cells (bytesRow s c) 5 ((bytesRow s c).size, (bytesRow s c).size + 1)) := heap_alloc_new w _
  refine ⟨w.heap.size, c, rfl, Nat.le_refl _, (Array.getElem?_eq_some_iff.1 h1).1, hge, fun o ho => ⟨?_, ?_⟩, fun j b hj => ?_⟩
  · simp only [World.cell?, h1]
    rw [Array.getElem?_eq_getElem (by omega)]; rfl
  · simp only [World.frozen?, h1]
    have hno : ¬ (bytesRow s c).size ≤ o := by omega
    simp [hno]
  · have hjl := (List.getElem?_eq_some_iff.1 hj).1
    rw [bytes_cell w s c 5 _ (k := j) hjl, byteAt_list s hj]
theorem brow_string {w : World} {base : Nat} {v : Value} {l : List UInt8} (h : BRow w base v l) : (convert 106 9 v).run Try.prog w = .ok (.string (bs l)) w := by
  obtain ⟨g, cap, rfl, _, _, _, _, h6⟩ := h
  exact run_convert_bytes_back w 106 9 5 ⟨g, 0, none⟩ cap l und_bytes und_byte und_str fun j hj => by rw [add_head]; exact h6 j l[j] (by simp [hj])
/-- A byte is appended. -/
theorem run_append_byte {w : World} {base : Nat} {v : Value} {l : List UInt8} (h : BRow w base v l) (ty : TypeId) {x : UInt8} {ad c : Nat} (hx : w.cell? ⟨ad, 0, none⟩ = some (.int .u8 (x.toNat : Int))) (hl : l.length + 1 ≤ 140737488355328) (hb : base ≤ w.heap.size) :
    ∃ v' w', (Builtin.append_ #[106, 106] ty #[v, .slice (some ⟨ad, 0, none⟩) 1 c]).run Try.prog w = .ok v' w' ∧ BRow w' base v' (l ++ [x]) ∧ Chg (fun i => base ≤ i) w w' := by
  obtain ⟨i0, hi, hz0, hz1, hz2⟩ := info_parts info_u8
  obtain ⟨g, cap, rfl, h2, h3, h4, h5, h6⟩ := h
  have hnews : ∀ j u, ([Value.int .u8 (x.toNat : Int)] : List Value)[j]? = some u → w.cell? ((⟨ad, 0, none⟩ : Addr).add j) = some u := fun j u hj => by
    obtain rfl : j = 0 := by
      have := (List.getElem?_eq_some_iff.1 hj).1
      simpa using this
    simp only [List.getElem?_cons_zero, Option.some.injEq] at hj
    subst hj
    rw [add_head]; exact hx
  by_cases hroom : l.length + 1 ≤ cap
  · have hf := run_firstCells_some (P := Try.prog) w 1 1 ⟨ad, 0, none⟩ 1 c [.int .u8 (x.toNat : Int)] (by simp) hnews
    have hcell := h5 l.length (by omega)
    have hone : ∀ j, j < ([Value.int .u8 (x.toNat : Int)] : List Value).length → j = 0 := fun j hj => by simpa using hj
    have hst := run_storeCells_cells (P := Try.prog) g l.length [.int .u8 (x.toNat : Int)] 0 w (fun j hj => by rw [hone j hj]; exact hcell.1) (fun j hj => by rw [hone j hj]; exact hcell.2) (by simp [Value.oneCell'])
    simp only [Nat.add_zero, World.setCells] at hst
    obtain ⟨u, hu⟩ := Option.isSome_iff_exists.1 hcell.1
    refine ⟨.slice (some ⟨g, 0, none⟩) (l.length + 1) cap, w.setCell ⟨g, l.length, none⟩ (.int .u8 (x.toNat : Int)), ?_, ⟨g, cap, by simp, h2, by simpa [World.setCell] using h3, by simpa using hroom, fun o ho => ⟨?_, ?_⟩, fun j b hj => ?_⟩, (Chg.refl _ w).setCell (.inl h2) _⟩
    · simp [Builtin.append_, run_underlying und_bytes, sizeOf, typeInfo, hi, hz1, Builtin.lenOf, hroom, hf, Addr.add_lit, hst]
    · by_cases ho' : o = l.length
      · subst ho'
        rw [World.cell?_setCell_same _ _ _ hu]; rfl
      · rw [World.cell?_setCell_other _ _ _ _ (by intro e; simp at e <;> omega)]
        exact (h5 o ho).1
    · rw [World.frozen?_setCell]; exact (h5 o ho).2
    · by_cases hj' : j = l.length
      · subst hj'
        rw [World.cell?_setCell_same _ _ _ hu]
        simp at hj
        rw [hj]
      · have hjl := (List.getElem?_eq_some_iff.1 hj).1
        rw [World.cell?_setCell_other _ _ _ _ (by intro e; simp at e <;> omega)]
        exact h6 j b (by rw [List.getElem?_append_left (by simp at hjl; omega)] at hj; exact hj)
  · have holds : ∀ j u, (l.map fun b => Value.int .u8 (b.toNat : Int))[j]? = some u → w.cell? ((⟨g, 0, none⟩ : Addr).add j) = some u := fun j u hj => by
      rw [List.getElem?_map, Option.map_eq_some_iff] at hj
      obtain ⟨b, hb, rfl⟩ := hj
      rw [add_head]; exact h6 j b hb
    have hr := run_append_grow (P := Try.prog) w 106 ty 5 i0 _ und_bytes hi hz0 ⟨g, 0, none⟩ l.length cap (l.map fun b => Value.int .u8 (b.toNat : Int)) (by simp [hz1]) holds ⟨ad, 0, none⟩ 1 c [.int .u8 (x.toNat : Int)] (by simp [hz1]) hnews (by omega) (by omega) (by rw [hz2]; exact growslice_fits (by omega) (by omega))
    obtain ⟨c2, hc2⟩ : ∃ c2, grownCap w (l.length + 1) cap 5 = c2 := ⟨_, rfl⟩
    have hge : l.length + 1 ≤ c2 := hc2 ▸ grownCap_ge w (l.length + 1) cap 5
    rw [hc2] at hr
    obtain ⟨A, hA⟩ : ∃ A, (l.map fun b => Value.int .u8 (b.toNat : Int)).toArray ++ [Value.int .u8 (x.toNat : Int)].toArray ++ Builtin.zeroCells (Value.int .u8 0).cells (c2 - (l.length + 1)) = A := ⟨_, rfl⟩
    have hAs : A.size = c2 := by
      rw [← hA]
      simp only [Array.size_append, List.size_toArray, List.length_map, List.length_cons, List.length_nil, size_zeroCells]
      show l.length + (0 + 1) + (c2 - (l.length + 1)) * 1 = c2
      omega
    rw [hA] at hr
    have h1 : (w.drew.alloc (.cells A 5)).heap[w.heap.size]? = some (.cells A 5) := heap_alloc_new w.drew _
    refine ⟨_, _, hr, ⟨w.heap.size, c2, by simp, hb, (Array.getElem?_eq_some_iff.1 h1).1, by simpa using hge, fun o ho => ⟨?_, ?_⟩, fun j b hj => ?_⟩, ((Chg.refl _ w).drew).alloc _⟩
    · simp only [World.cell?, h1]
      rw [Array.getElem?_eq_getElem (by omega)]; rfl
    · simp only [World.frozen?, h1]; simp
    · simp only [World.cell?, h1]
      have hjl := (List.getElem?_eq_some_iff.1 hj).1
      have hl2 : (l.map fun b => Value.int .u8 (b.toNat : Int)).toArray ++ [Value.int .u8 (x.toNat : Int)].toArray = ((l ++ [x]).map fun b => Value.int .u8 (b.toNat : Int)).toArray := by simp
      rw [← hA, Array.getElem?_append_left (by simp at hjl ⊢; omega), hl2, List.getElem?_toArray, List.getElem?_map, hj]; rfl
theorem wpList_append_byte {ops : Array Oper} {rest : List Oper} {o : Oper} {a : Act} {Q : Exit → Act → World → Prop} {w : World} (hgd : o.guard = none) (s x : Operand) (ho : o.op = .call { callee := .builtin .append, args := #[s, x], argTypes := #[106, 106] })
    (base : Nat) (v : Value) (l : List UInt8) (hs : a.eval s = v) (h : BRow w base v l) (b : UInt8) (ad c : Nat) (hx : a.eval x = .slice (some ⟨ad, 0, none⟩) 1 c) (hc : w.cell? ⟨ad, 0, none⟩ = some (.int .u8 (b.toNat : Int))) (hl : l.length + 1 ≤ 140737488355328) (hb : base ≤ w.heap.size)
    (hK : ∀ v' w', BRow w' base v' (l ++ [b]) → Chg (fun i => base ≤ i) w w' → wpList Try.prog ops Q rest (a.put o.dst v') w') : wpList Try.prog ops Q (o :: rest) a w := by
  refine wpList_plain hgd fun K' hK' => ?_
  obtain ⟨v', w', hrun, r1, r2⟩ := run_append_byte (c := c) h o.type hc hl hb
  unfold Oper.wp
  simp [execOp, ho, resolve, invoke, builtin, hs, hx, hrun, Result.andThen]
  exact hK' _ _ (hK v' w' r1 r2)
end Go.Proofs.Ytfbhbnolnjcaiaa
