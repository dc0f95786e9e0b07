/-
  Slices that read as a list of cells, nil let in; append of such a slice onto one of the call's own.
  Conditions: lengths within a process's reach.
-/
import Derived.Test.YtjefpeppkphgbaaRecs
import Derived.RegionTactic
namespace Go.Proofs.Ytjefpeppkphgbaa
open Go.RowKit Go.Sort
set_option maxHeartbeats 1000000

/-- The slice v has n elements of z cells each, the cells xs; they lie in a block of S. -/
def Rd (w : World) (S : Nat → Prop) (z : Nat) (v : Value) (n : Nat) (xs : List Value) : Prop :=
  xs.length = n * z ∧ ∃ A c, v = .slice A n c ∧ n ≤ c ∧ c ≤ maxLen ∧ (0 < n → ∃ g o, A = some ⟨g, o, none⟩ ∧ S g ∧ g < w.heap.size ∧ ∀ j u, xs[j]? = some u → w.cell? ⟨g, o + j, none⟩ = some u)
section
variable {w w' : World} {S T : Nat → Prop} {z n : Nat} {v : Value} {xs : List Value}
theorem Rd.nil (w : World) (S : Nat → Prop) (z : Nat) : Rd w S z (.slice none 0 0) 0 [] := ⟨by simp, none, 0, rfl, Nat.le_refl _, Nat.zero_le _, fun h => absurd h (by omega)⟩
theorem Rd.keep (h : Rd w S z v n xs) (hs : w.heap.size ≤ w'.heap.size) (hk : ∀ k, S k → k < w.heap.size → w'.heap[k]? = w.heap[k]?) : Rd w' S z v n xs := by
  obtain ⟨h1, A, c, rfl, h2, h3, h4⟩ := h
  refine ⟨h1, A, c, rfl, h2, h3, fun hn => ?_⟩
  obtain ⟨g, o, e, hS, hg, hc⟩ := h4 hn
  exact ⟨g, o, e, hS, Nat.lt_of_lt_of_le hg hs, fun j u hu => (World.cell?_of_block (a := ⟨g, o + j, none⟩) (hk g hS hg)).trans (hc j u hu)⟩
theorem Rd.chg (h : Rd w S z v n xs) (c : Chg T w w') (hd : ∀ k, S k → ¬ T k) : Rd w' S z v n xs := h.keep c.size fun k hS hk => c.block k hk (hd k hS)
theorem Rd.ext (h : Rd w S z v n xs) (x : Ext w w') : Rd w' S z v n xs := h.keep x.size fun _ _ hk => x.block hk
theorem Rd.drew (h : Rd w S z v n xs) : Rd w.drew S z v n xs := h
theorem Rd.drewN (h : Rd w S z v n xs) (k : Nat) : Rd (w.drewN k) S z v n xs := h
theorem Rd.mono (h : Rd w S z v n xs) (hST : ∀ k, S k → k < w.heap.size → T k) : Rd w T z v n xs := by
  obtain ⟨h1, A, c, rfl, h2, h3, h4⟩ := h
  refine ⟨h1, A, c, rfl, h2, h3, fun hn => ?_⟩
  obtain ⟨g, o, e, hS, hg, hc⟩ := h4 hn
  exact ⟨g, o, e, hST g hS hg, hg, hc⟩
theorem Rd.len (h : Rd w S z v n xs) : n ≤ maxLen := by
  obtain ⟨_, A, c, _, h2, h3, _⟩ := h
  omega
theorem Rd.at_ (h : Rd w S z v n xs) {k : Nat} (hk : k < n) : ∃ g o c, v = .slice (some ⟨g, o, none⟩) n c ∧ n ≤ c ∧ c ≤ maxLen ∧ S g ∧ g < w.heap.size ∧ ∀ j u, xs[j]? = some u → w.cell? ⟨g, o + j, none⟩ = some u := by
  obtain ⟨h1, A, c, rfl, h2, h3, h4⟩ := h
  obtain ⟨g, o, rfl, hS, hg, hc⟩ := h4 (by omega)
  exact ⟨g, o, c, rfl, h2, h3, hS, hg, hc⟩
theorem Rd.of_own {base : Nat} {e : TypeId} (h : w.ownsRow base e z v n xs) (hS : ∀ k, v.ownBlock = some k → S k) : Rd w S z v n xs := by
  have hc := fun g hg => h.cells (g := g) hg
  have hl := h.lt
  obtain ⟨hlen, ⟨hv, h0⟩ | ⟨g, cap, cur, hv, _, hb, hn, hm, _⟩⟩ := h
  · subst h0 hv
    have hx : xs = [] := List.eq_nil_of_length_eq_zero (by simpa using hlen)
    subst hx
    exact Rd.nil _ _ _
  · refine ⟨hlen, _, cap, hv, hn, hm, fun _ => ⟨g, 0, rfl, hS g (by rw [hv]; rfl), (hl g (by rw [hv]; rfl)).2, fun j u hu => ?_⟩⟩
    have := hc g (by rw [hv]; rfl) j u hu
    rw [add_head] at this
    rw [Nat.zero_add]; exact this
end

section
variable {P : Program} (w : World)
theorem run_append_none (base : Nat) (t ty e : TypeId) (i : TypeInfo) (size : Nat) (ht : P.underlying t = some (.slice e)) (hi : P.info? e = some i)
    (v : Value) (n : Nat) (xs : List Value) (hown : w.ownsRow base e size v n xs) (c : Nat) : (Builtin.append_ #[t, t] ty #[v, .slice none 0 c]).run P w = .ok v w := by
  rcases hown.2 with ⟨rfl, rfl⟩ | ⟨g, cap, cur, rfl, _, _, hnc, _⟩
  · simp [Builtin.append_, run_underlying ht, sizeOf, typeInfo, hi, Builtin.lenOf, Builtin.firstCells]
  · simp [Builtin.append_, run_underlying ht, sizeOf, typeInfo, hi, Builtin.lenOf, Builtin.firstCells, hnc, storeCells]
/-- What append leaves: the slice of both lists, in memory of the call's own. -/
structure Appended (w : World) (base : Nat) (e : TypeId) (size : Nat) (v : Value) (k : Nat) (ys : List Value) (v' : Value) (w' : World) : Prop where
  own : w'.ownsRow base e size v' k ys
  grown : w.grownBy w' v.ownBlock
  at_ : v'.ownBlock = v.ownBlock ∨ v'.ownBlock = some w.heap.size
theorem run_append_rd (base : Nat) (t ty e : TypeId) (i : TypeInfo) (z : Value) (size bytes : Nat) (ht : P.underlying t = some (.slice e)) (hi : P.info? e = some i) (hz : i.zero = some z)
    (hsize : i.size = size) (hby : i.bytes = bytes) (hzs : z.cells.size = size) (hsz : 0 < size)
    (v : Value) (n : Nat) (xs : List Value) (hown : w.ownsRow base e size v n xs)
    (S : Nat → Prop) (x : Value) (m : Nat) (news : List Value) (hr : Rd w S size x m news) (h1 : ∀ u ∈ news, u.oneCell' = true)
    (h63 : n + m ≤ maxLen) (hbytes : (n + m) * bytes ≤ 140737488355328) (hbase : base ≤ w.heap.size) :
    ∃ v' w', (Builtin.append_ #[t, t] ty #[v, x]).run P w = .ok v' w' ∧ Appended w base e size v (n + m) (xs ++ news) v' w' := by
  obtain ⟨hlen, A, c, rfl, _, _, hcells⟩ := hr
  rcases Nat.eq_zero_or_pos m with h0 | h0
  · subst h0
    have hn : news = [] := List.eq_nil_of_length_eq_zero (by simpa using hlen)
    subst hn
    cases A with
    | none => exact ⟨v, w, run_append_none w base t ty e i size ht hi v n xs hown c, by simpa using hown, World.grownBy.refl w _, .inl rfl⟩
    | some ad =>
      obtain ⟨v', w', hrun, h2, h3, _, h5⟩ := run_append_own_at (P := P) w base t ty e i z size bytes ht hi hz hsize hby hzs hsz v n xs hown ad 0 c [] (by simp) (by simp) h1 h63 hbytes hbase
      exact ⟨v', w', hrun, h2, h3, h5⟩
  · obtain ⟨g, o, rfl, _, _, hc⟩ := hcells h0
    obtain ⟨v', w', hrun, h2, h3, _, h5⟩ := run_append_own_at (P := P) w base t ty e i z size bytes ht hi hz hsize hby hzs hsz v n xs hown ⟨g, o, none⟩ m c news hlen (fun j u hu => by
      have e : (⟨g, o, none⟩ : Addr).add j = ⟨g, o + j, none⟩ := by unfold Addr.add; by_cases hj : j = 0 <;> simp [hj]
      rw [e]; exact hc j u hu) h1 h63 hbytes hbase
    exact ⟨v', w', hrun, h2, h3, h5⟩
theorem wp_append_rd {o : Oper} {a : Act} {K : Act → World → Prop} {Q : Exit → Act → World → Prop} (s y : Operand) (t : TypeId)
    (ho : o.op = .call { callee := .builtin .append, args := #[s, y], argTypes := #[t, t] })
    (base : Nat) (e : TypeId) (i : TypeInfo) (z : Value) (size bytes : Nat) (ht : P.underlying t = some (.slice e)) (hi : P.info? e = some i) (hz : i.zero = some z)
    (hsize : i.size = size) (hby : i.bytes = bytes) (hzs : z.cells.size = size) (hsz : 0 < size)
    (v : Value) (n : Nat) (xs : List Value) (hs : a.eval s = v) (hown : w.ownsRow base e size v n xs)
    (S : Nat → Prop) (x : Value) (m : Nat) (news : List Value) (hx : a.eval y = x) (hr : Rd w S size x m news) (h1 : ∀ u ∈ news, u.oneCell' = true)
    (h63 : n + m ≤ maxLen) (hbytes : (n + m) * bytes ≤ 140737488355328) (hbase : base ≤ w.heap.size)
    (h : ∀ v' w', Appended w base e size v (n + m) (xs ++ news) v' w' → K (a.put o.dst v') w') : o.wp P a w K Q := by
  obtain ⟨v', w', hrun, h2⟩ := run_append_rd (P := P) w base t o.type e i z size bytes ht hi hz hsize hby hzs hsz v n xs hown S x m news hr h1 h63 hbytes hbase
  unfold Oper.wp execOp
  simp only [ho, resolve, invoke, builtin, Sem.run_bind, Sem.run_pure, Result.andThen_ok, List.map_toArray, List.map_cons, List.map_nil, hs, hx, hrun]
  exact h v' w' h2
theorem wpList_append_rd {ops : Array Oper} {rest : List Oper} {o : Oper} {a : Act} {Q : Exit → Act → World → Prop} (hgd : o.guard = none) (s y : Operand) (t : TypeId)
    (ho : o.op = .call { callee := .builtin .append, args := #[s, y], argTypes := #[t, t] })
    (base : Nat) (e : TypeId) (i : TypeInfo) (z : Value) (size bytes : Nat) (ht : P.underlying t = some (.slice e)) (hi : P.info? e = some i) (hz : i.zero = some z)
    (hsize : i.size = size) (hby : i.bytes = bytes) (hzs : z.cells.size = size) (hsz : 0 < size)
    (v : Value) (n : Nat) (xs : List Value) (hs : a.eval s = v) (hown : w.ownsRow base e size v n xs)
    (S : Nat → Prop) (x : Value) (m : Nat) (news : List Value) (hx : a.eval y = x) (hr : Rd w S size x m news) (h1 : ∀ u ∈ news, u.oneCell' = true)
    (h63 : n + m ≤ maxLen) (hbytes : (n + m) * bytes ≤ 140737488355328) (hbase : base ≤ w.heap.size)
    (h : ∀ v' w', Appended w base e size v (n + m) (xs ++ news) v' w' → wpList P ops Q rest (a.put o.dst v') w') : wpList P ops Q (o :: rest) a w :=
  wpList_plain hgd fun _ hK => wp_append_rd w s y t ho base e i z size bytes ht hi hz hsize hby hzs hsz v n xs hs hown S x m news hx hr h1 h63 hbytes hbase fun v' w' h2 => hK _ _ (h v' w' h2)
theorem step_append_rd {ops : Array Oper} {o : Oper} {a : Act} {K : Act → World → Prop} {Q : Exit → Act → World → Prop} {E : Prop} (hgd : o.guard = none) (s y : Operand) (t : TypeId)
    (ho : o.op = .call { callee := .builtin .append, args := #[s, y], argTypes := #[t, t] })
    (base : Nat) (e : TypeId) (i : TypeInfo) (z : Value) (size bytes : Nat) (ht : P.underlying t = some (.slice e)) (hi : P.info? e = some i) (hz : i.zero = some z)
    (hsize : i.size = size) (hby : i.bytes = bytes) (hzs : z.cells.size = size) (hsz : 0 < size)
    (v : Value) (n : Nat) (xs : List Value) (hs : a.eval s = v) (hown : w.ownsRow base e size v n xs)
    (S : Nat → Prop) (x : Value) (m : Nat) (news : List Value) (hx : a.eval y = x) (hr : Rd w S size x m news) (h1 : ∀ u ∈ news, u.oneCell' = true)
    (h63 : n + m ≤ maxLen) (hbytes : (n + m) * bytes ≤ 140737488355328) (hbase : base ≤ w.heap.size)
    (h : ∀ v' w', Appended w base e size v (n + m) (xs ++ news) v' w' → K (a.put o.dst v') w') :
    if Region.wanted o (yielded ops a.tmps) = true then Oper.wp P o a w K Q else E := by
  have hw : Region.wanted o (yielded ops a.tmps) = true := by simp [Region.wanted, hgd]
  rw [if_pos hw]
  exact wp_append_rd w s y t ho base e i z size bytes ht hi hz hsize hby hzs hsz v n xs hs hown S x m news hx hr h1 h63 hbytes hbase h
end
end Go.Proofs.Ytjefpeppkphgbaa
