/-
  The reference's locks in memory (25.1), and what Owner, Acquire, Release return and do (25.2, 25.3, 25.4).
  Conditions: the locks are whole in memory; lengths within a process's reach.
-/
import Derived.Test.YtkhfjedeccjnbaaRPut
import Derived.Test.YtkhfjedeccjnbaaLkBoth
namespace Go.Proofs.Ytkhfjedeccjnbaa
open Go.RowKit Go.Sort
set_option maxHeartbeats 2000000

/-- Block b is the reference's locks with n slots, which hold sl; os are the locks, oldest first; S are its blocks. -/
structure RLkC (w : World) (S : Nat → Prop) (b n : Nat) (sl : Nat → Option ByteArray) (os : List Rc) (L t : Nat) (rv : Value) (St Sr : Nat → Prop) : Prop where
  c0 : w.cell? ⟨b, 0, none⟩ = some (.pointer (some ⟨t, 0, none⟩))
  c1 : w.cell? ⟨b, 1, none⟩ = some rv
  fr : ∀ j, w.frozen? ⟨b, j, none⟩ = false
  sb : S b
  tab : TabIs w St t n sl L
  recs : Rd w Sr 4 rv os.length (flatR os)
  st : ∀ k, St k → S k ∧ k ≠ b ∧ ¬ Sr k
  sr : ∀ k, Sr k → S k ∧ k ≠ b
  low : ∀ k, S k → k < w.heap.size
def RLkIs (w : World) (S : Nat → Prop) (b n : Nat) (sl : Nat → Option ByteArray) (os : List Rc) (L : Nat) : Prop := ∃ t rv St Sr, RLkC w S b n sl os L t rv St Sr
theorem RLkC.chg {w w' : World} {S T : Nat → Prop} {b n : Nat} {sl : Nat → Option ByteArray} {os : List Rc} {L t : Nat} {rv : Value} {St Sr : Nat → Prop} (h : RLkC w S b n sl os L t rv St Sr) (c : Chg T w w') (hd : ∀ k, S k → ¬ T k) : RLkC w' S b n sl os L t rv St Sr := by
  have hb := hd b h.sb
  have hbl := h.low b h.sb
  exact ⟨(c.cell (p := ⟨b, 0, none⟩) hbl hb).trans h.c0, (c.cell (p := ⟨b, 1, none⟩) hbl hb).trans h.c1, fun j => (c.frozen (p := ⟨b, j, none⟩) hbl hb).trans (h.fr j), h.sb,
    h.tab.chg c fun k hk => hd k (h.st k hk).1, h.recs.chg c fun k hk => hd k (h.sr k hk).1, h.st, h.sr, fun k hk => Nat.lt_of_lt_of_le (h.low k hk) c.size⟩
theorem RLkC.more {w : World} {S : Nat → Prop} {b n : Nat} {sl : Nat → Option ByteArray} {os : List Rc} {L L' t : Nat} {rv : Value} {St Sr : Nat → Prop} (h : RLkC w S b n sl os L t rv St Sr) (hL : L ≤ L') : RLkC w S b n sl os L' t rv St Sr :=
  ⟨h.c0, h.c1, h.fr, h.sb, h.tab.more hL, h.recs, h.st, h.sr, h.low⟩
section
variable {w w' : World} {S T : Nat → Prop} {b n : Nat} {sl : Nat → Option ByteArray} {os : List Rc} {L L' : Nat}
theorem RLkIs.low (h : RLkIs w S b n sl os L) : ∀ k, S k → k < w.heap.size := by
  obtain ⟨_, _, _, _, h⟩ := h
  exact h.low
theorem RLkIs.sb (h : RLkIs w S b n sl os L) : S b := by
  obtain ⟨_, _, _, _, h⟩ := h
  exact h.sb
theorem RLkIs.more (h : RLkIs w S b n sl os L) (hL : L ≤ L') : RLkIs w S b n sl os L' := by
  obtain ⟨t, rv, St, Sr, h⟩ := h
  exact ⟨t, rv, St, Sr, h.more hL⟩
theorem RLkIs.chg (h : RLkIs w S b n sl os L) (c : Chg T w w') (hd : ∀ k, S k → ¬ T k) : RLkIs w' S b n sl os L := by
  obtain ⟨t, rv, St, Sr, h⟩ := h
  exact ⟨t, rv, St, Sr, h.chg c hd⟩
theorem RLkIs.ext (h : RLkIs w S b n sl os L) (x : Ext w w') : RLkIs w' S b n sl os L := h.chg (x.chg fun _ => False) fun _ _ h => h
end
theorem flatR_one (os : List Rc) : ∀ u ∈ flatR os, u.oneCell' = true := by
  intro u hu
  unfold flatR at hu
  obtain ⟨r, _, hr⟩ := List.mem_flatMap.1 hu
  simp [Rc.cells] at hr
  rcases hr with rfl | rfl | rfl | rfl <;> rfl
/-- The reference's locks as NewLocks makes them. -/
theorem rlk_new {w : World} {b t s n : Nat} (ht : TableAt w t s n (fun _ => -1) (.slice none 0 0)) (hbt : b ≠ t) (hbs : b ≠ s) (hb : w.heap[b]? = some (.cells #[.pointer (some ⟨t, 0, none⟩), .slice none 0 0] 102)) :
    RLkIs w (fun k => k = b ∨ k = t ∨ k = s) b n (fun _ => none) [] 0 := by
  have hbl := (Array.getElem?_eq_some_iff.1 hb).1
  have h1 := ht.2.1
  have h2 := ht.2.2.2.2.2.1
  exact ⟨t, _, (fun k => k = t ∨ k = s), (fun _ => False), by simp [World.cell?, hb], by simp [World.cell?, hb], fun j => by simp [World.frozen?, hb], .inl rfl, tabIs_new ht, Rd.nil _ _ _,
    fun k hk => ⟨.inr hk, by rcases hk with rfl | rfl; exact Ne.symm hbt; exact Ne.symm hbs, fun h => h⟩, fun k hk => hk.elim, by rintro k (rfl | rfl | rfl) <;> assumption⟩
end Go.Proofs.Ytkhfjedeccjnbaa
