/-
  The records that the statements make of a list of integers (Records).
  Conditions: the list reads as integers.
-/
import Derived.Test.YtjefpeppkphgbaaMkRec
import Derived.Test.YtjefpeppkphgbaaSoon
import Derived.Maps.AppendAt
import Derived.OwnWalk
namespace Go.Proofs.Ytjefpeppkphgbaa
open Go.RowKit Go.Sort
set_option maxHeartbeats 1000000

theorem info_rec : (Try.prog.info? 65).map (fun i => (i.zero, i.size, i.bytes)) = some (some (.agg #[.int .i64 0, .int .i64 0, .string ⟨#[]⟩, .int .i64 0]), 4, 40) := by kernel_rfl
theorem und_recs : Try.prog.underlying 61 = some (.slice 65) := by kernel_rfl

theorem Ext.grownN {a w : World} (h : Ext a w) : a.grownBy w none := by
  have g := h.chg (fun _ => False)
  exact ⟨g.os, g.tape, g.output, g.size, fun k hk _ => h.block hk⟩
theorem own_ext {w w' : World} {base : Nat} {e : TypeId} {size : Nat} {v : Value} {n : Nat} {xs : List Value} (h : w.ownsRow base e size v n xs) (x : Ext w w') : w'.ownsRow base e size v n xs :=
  h.kept x.grownN (Decidable.em _)
theorem lt_of_cell {w : World} {p : Addr} {v : Value} (h : w.cell? p = some v) : p.block < w.heap.size := by
  rcases Nat.lt_or_ge p.block w.heap.size with hlt | hge
  · exact hlt
  · simp [World.cell?, Array.getElem?_eq_none hge] at h
theorem IsRow.ext {k : IntKind} {w w' : World} {a : Option Addr} {len cap : Nat} {zs : List Int} (h : IsRow k w a len cap zs) (x : Ext w w') : IsRow k w' a len cap zs := by
  rcases h with h | ⟨p, h1, h2, h3, h4, h5, h6⟩
  · exact .inl h
  · exact .inr ⟨p, h1, h2, h3, h4, fun i hi => (x.cell (lt_of_cell (h5 i hi))).trans (h5 i hi), h6⟩
theorem IsRow.head {k : IntKind} {w : World} {a : Option Addr} {len cap : Nat} {zs : List Int} (h : IsRow k w a len cap zs) {n : Nat} (hn : n ≤ len) : IsRow k w a n cap zs := by
  rcases h with ⟨h1, h2, h3, h4⟩ | ⟨p, h1, h2, h3, h4, h5, h6⟩
  · exact .inl ⟨h1, by omega, h3, h4⟩
  · exact .inr ⟨p, h1, by omega, h3, h4, h5, h6⟩
theorem IsRow.tail {k : IntKind} {w : World} {p : Addr} {len cap : Nat} {zs : List Int} (h : IsRow k w (some p) len cap zs) {n : Nat} (hn : n ≤ len) : IsRow k w (some (p.add n)) (len - n) (cap - n) (zs.drop n) := by
  rcases h with ⟨h1, _⟩ | ⟨p', h1, h2, h3, h4, h5, h6⟩
  · simp at h1
  · simp only [Option.some.injEq] at h1
    subst h1
    refine .inr ⟨_, rfl, by omega, by omega, by simp; omega, fun i hi => ?_, fun m hm => h6 m (List.mem_of_mem_drop hm)⟩
    simp only [List.length_drop] at hi
    have hc := h5 (n + i) (by omega)
    have e : (zs.drop n).getD i 0 = zs.getD (n + i) 0 := by simp [List.getD_eq_getElem?_getD]
    have e2 : (p.add n).add i = p.add (n + i) := by
      unfold Addr.add; by_cases hi0 : i = 0 <;> by_cases hn0 : n = 0 <;> simp [hi0, hn0, Nat.add_assoc]
    rw [e, e2]; exact hc
theorem IsRow.none {k : IntKind} {w : World} (a : Option Addr) : IsRow k w a 0 0 [] := by
  cases a
  · exact .inl ⟨rfl, rfl, rfl, rfl⟩
  · exact .inr ⟨_, rfl, Nat.le_refl _, Nat.zero_le _, rfl, by simp, by simp⟩
theorem IsRow.some_of {k : IntKind} {w : World} {a : Option Addr} {len cap : Nat} {zs : List Int} (h : IsRow k w a len cap zs) (hl : 0 < len) : ∃ p, a = some p ∧ len ≤ cap ∧ cap ≤ maxLen := by
  rcases h with ⟨_, h2, _⟩ | ⟨p, h1, h2, h3, _⟩
  · omega
  · exact ⟨p, h1, h2, h3⟩
theorem IsRow.len_le {k : IntKind} {w : World} {a : Option Addr} {len cap : Nat} {zs : List Int} (h : IsRow k w a len cap zs) : len ≤ cap ∧ cap ≤ maxLen := by
  rcases h with ⟨_, h2, h3, _⟩ | ⟨p, h1, h2, h3, _⟩
  · subst h2 h3; exact ⟨Nat.le_refl _, Nat.zero_le _⟩
  · exact ⟨h2, h3⟩

theorem IsRow.zs_len {k : IntKind} {w : World} {a : Option Addr} {len cap : Nat} {zs : List Int} (h : IsRow k w a len cap zs) : zs.length = cap := by
  rcases h with ⟨_, _, h3, h4⟩ | ⟨p, _, _, _, h4, _⟩
  · subst h3 h4; rfl
  · exact h4

/-- The record's numbers are small and its name is short. -/
structure Rc.ok (r : Rc) : Prop where
  st0 : 0 ≤ r.st
  st1 : r.st < 3
  ow0 : 0 ≤ r.ow
  ow1 : r.ow < 4
  dl0 : -1 ≤ r.dl
  dl1 : r.dl ≤ 40
  nm1 : r.nm.size ≤ 3
def flatR (rs : List Rc) : List Value := rs.flatMap Rc.cells
theorem flatR_len (rs : List Rc) : (flatR rs).length = rs.length * 4 := by
  induction rs with
  | nil => rfl
  | cons r rs ih => simp [flatR, Rc.cells] at ih ⊢; omega
theorem flatR_snoc (rs : List Rc) (r : Rc) : flatR (rs ++ [r]) = flatR rs ++ r.cells := by simp [flatR]
theorem flatR_at (rs : List Rc) {k : Nat} (hk : k < rs.length) (j : Nat) (hj : j < 4) : (flatR rs)[k * 4 + j]? = (rs.getD k default).cells[j]? := by
  induction rs generalizing k with
  | nil => simp at hk
  | cons r rs ih =>
    have e : flatR (r :: rs) = r.cells ++ flatR rs := by simp [flatR]
    rw [e]
    cases k with
    | zero => rw [List.getElem?_append_left (by simp [Rc.cells]; omega)]; simp
    | succ k =>
      rw [List.getElem?_append_right (by simp [Rc.cells]; omega)]
      have := ih (k := k) (by simpa using hk)
      have e2 : (k + 1) * 4 + j - r.cells.length = k * 4 + j := by simp [Rc.cells]; omega
      rw [e2, this]; simp
theorem add_head (g n : Nat) : (⟨g, 0, none⟩ : Addr).add n = ⟨g, n, none⟩ := by
  unfold Addr.add; by_cases hn : n = 0 <;> simp [hn]
theorem own_shape {w : World} {base : Nat} {e : TypeId} {size : Nat} {v : Value} {n : Nat} {xs : List Value} (h : w.ownsRow base e size v n xs) : ∃ a c, v = .slice a n c := by
  obtain ⟨_, ⟨rfl, rfl⟩ | ⟨g, cap, _, rfl, _⟩⟩ := h
  · exact ⟨_, _, rfl⟩
  · exact ⟨_, _, rfl⟩
theorem own_le {w : World} {base : Nat} {e : TypeId} {size : Nat} {a : Option Addr} {m n c : Nat} {xs : List Value} (h : w.ownsRow base e size (.slice a m c) n xs) : c ≤ maxLen := by
  obtain ⟨_, ⟨h1, _⟩ | ⟨g, cap, _, h1, _, _, _, h2, _⟩⟩ := h
  · simp at h1; omega
  · simp at h1; omega
theorem recs_of_own {w : World} {base : Nat} {v : Value} {rs : List Rc} (h : w.ownsRow base 65 4 v rs.length (flatR rs)) : Recs w v rs := by
  have hc := fun g hg => h.cells (g := g) hg
  have hl := h.lt
  obtain ⟨hlen, ⟨hv, h0⟩ | ⟨g, cap, cur, hv, _, hb, hn, hm, _⟩⟩ := h
  · have hrs : rs = [] := List.length_eq_zero_iff.1 h0
    subst hrs
    exact ⟨none, 0, hv, Nat.zero_le _, fun k hk => by simp at hk⟩
  · refine ⟨_, cap, hv, by omega, fun k hk => ⟨g, rfl, (hl g (by rw [hv]; rfl)).2, ?_, ?_, ?_, ?_⟩⟩
    all_goals have hc := hc g (by rw [hv]; rfl)
    · have hq := hc (k * 4 + 0) _ (by rw [flatR_at rs hk 0 (by omega)]; rfl)
      rw [add_head] at hq; exact hq
    · have hq := hc (k * 4 + 1) _ (by rw [flatR_at rs hk 1 (by omega)]; rfl)
      rw [add_head] at hq; exact hq
    · have hq := hc (k * 4 + 2) _ (by rw [flatR_at rs hk 2 (by omega)]; rfl)
      rw [add_head] at hq; exact hq
    · have hq := hc (k * 4 + 3) _ (by rw [flatR_at rs hk 3 (by omega)]; rfl)
      rw [add_head] at hq; exact hq

/-- Some records are returned: at most six small ones; nothing that was there has changed. -/
def SomeRecs (w : World) (e : Ending) (w' : World) : Prop := ∃ (v : Value) (rs : List Rc), rs.length ≤ 6 ∧ (∀ r ∈ rs, r.ok) ∧ e = .returned v ∧ Recs w' v rs ∧ Ext w w'
def vLen : Value → Nat
  | .slice _ n _ => n
  | _ => 0
def RecsRel (w : World) (l v : Value) (wr : World) : Prop := ∃ (a : Option Addr) (len cap : Nat) (zs : List Int) (rs : List Rc), l = .slice a len cap ∧ IsRow .i64 w a len cap zs ∧ rs.length ≤ 6 ∧ (∀ r ∈ rs, r.ok) ∧
  wr.ownsRow w.heap.size 65 4 v rs.length (flatR rs) ∧ Ext w wr
end Go.Proofs.Ytjefpeppkphgbaa
