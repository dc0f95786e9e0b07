/-
  The source of arbitrary integers of the statements: From and Next.
  Conditions: the list that it was made from reads as integers.
-/
import Derived.Test.YtjefpeppkphgbaaClock2
import Derived.Deep.RegionHeld3
import Derived.Deep.DeepCutAuto
namespace Go.Proofs.Ytjefpeppkphgbaa
open Go.RowKit Go.Sort
set_option maxHeartbeats 1000000

/-- Block b is a source: a row of integers that lies below block B, and the number of those that are used. -/
def Src (B : Nat) (w : World) (b : Nat) : Prop :=
  ∃ (a : Option Addr) (len cap : Nat) (i : Nat), w.heap[b]? = some (.cells #[.slice a len cap, .int .i64 (i : Int)] 135 (0, 0)) ∧ B ≤ b ∧ len ≤ maxLen ∧ i ≤ len ∧
    (0 < len → ∃ x, a = some x ∧ x.block < B ∧ ∀ j, j < len → ∃ z, w.cell? (x.add j) = some (.int .i64 z) ∧ I64 z)
theorem add_block (a : Addr) (n : Nat) : (a.add n).block = a.block := by unfold Addr.add; split <;> rfl
theorem Src.keep {B b : Nat} {w w' : World} (h : Src B w b) (hk : ∀ k, k < B ∨ k = b → w'.heap[k]? = w.heap[k]?) : Src B w' b := by
  obtain ⟨a, len, cap, i, hb, h0, hl, hi, hx⟩ := h
  refine ⟨a, len, cap, i, by rw [hk b (.inr rfl)]; exact hb, h0, hl, hi, fun h => ?_⟩
  obtain ⟨x, e, hxb, hc⟩ := hx h
  exact ⟨x, e, hxb, fun j hj => by
    obtain ⟨z, hz, hb⟩ := hc j hj
    exact ⟨z, by rw [← hz]; exact World.cell?_of_block (hk _ (.inl (by rw [add_block]; exact hxb))), hb⟩⟩
theorem Src.drewN {B b : Nat} {w : World} (h : Src B w b) (n : Nat) : Src B (w.drewN n) b := h
theorem Src.drew {B b : Nat} {w : World} (h : Src B w b) : Src B w.drew b := h
theorem Src.lt {B b : Nat} {w : World} (h : Src B w b) : b < w.heap.size := by
  obtain ⟨a, len, cap, i, hb, _⟩ := h
  exact (Array.getElem?_eq_some_iff.1 hb).1
theorem Src.ge {B b : Nat} {w : World} (h : Src B w b) : B ≤ b := by
  obtain ⟨a, len, cap, i, hb, h, _⟩ := h
  exact h
theorem Src.alloc {B b : Nat} {w : World} (h : Src B w b) (o : Obj) : Src B (w.alloc o) b :=
  h.keep fun k hk => Below.heap_alloc w o k (by have := h.lt; have := h.ge; omega)
theorem Src.setCell {B b : Nat} {w : World} (h : Src B w b) {p : Addr} (h1 : B ≤ p.block) (h2 : p.block ≠ b) (u : Value) : Src B (w.setCell p u) b :=
  h.keep fun k hk => Below.heap_setCell w p u k (by rintro rfl; rcases hk with hk | hk; omega; exact h2 hk)
theorem Src.ext {B b : Nat} {w w' : World} (h : Src B w b) (he : Ext w w') : Src B w' b :=
  h.keep fun k hk => he.block (by have := h.lt; have := h.ge; omega)

theorem from_any (a : Option Addr) (n c : Nat) (w : World) :
    Calls Try.prog 55 #[.slice a n c] w fun e w' => e = .returned (.pointer (some ⟨w.heap.size, 0, none⟩)) ∧ w.alloc (.cells #[.slice a n c, .int .i64 0] 135) = w' := by
  go_enter Try.func55, Try.ntmps55
  go_wp2
  go_ret
  exact ⟨rfl, rfl⟩

theorem spot_zero {w : World} {a : Addr} {v : Value} (h : w.cell? (a.add 0) = some v) : a.spot = none := by simpa [Addr.add] using World.cell?_spot h
def NextPost (B b : Nat) (n : Int) (w : World) (e : Ending) (w' : World) : Prop := ∃ v : Nat, (v : Int) < n ∧ e = .returned (.int .i64 (v : Int)) ∧ Src B w' b ∧ Chg (· = b) w w' ∧ w'.heap.size = w.heap.size

theorem chg_set (w : World) (b k k' : Nat) (u : Value) : Chg (· = b) w (((w.drewN k).setCell ⟨b, 1, none⟩ u).drewN k') :=
  Chg.drewN (Chg.setCell (S := (· = b)) (p := ⟨b, 1, none⟩) (Chg.drewN (Chg.refl _ w) k) (.inl rfl) u) k'
theorem src_set {B : Nat} {w : World} {b i : Nat} {a : Option Addr} {len cap : Nat} (hb : w.heap[b]? = some (.cells #[.slice a len cap, .int .i64 (i : Int)] 135 (0, 0))) (h0 : B ≤ b) (hl : len ≤ maxLen) (hi : i < len)
    (hx : 0 < len → ∃ x, a = some x ∧ x.block < B ∧ ∀ j, j < len → ∃ z, w.cell? (x.add j) = some (.int .i64 z) ∧ I64 z) (k k' : Nat) : Src B (((w.drewN k).setCell ⟨b, 1, none⟩ (.int .i64 ((i : Int) + 1))).drewN k') b := by
  refine ⟨a, len, cap, i + 1, ?_, h0, hl, by omega, fun h => ?_⟩
  · have hb' : (w.drewN k).heap[b]? = some (.cells #[.slice a len cap, .int .i64 (i : Int)] 135 (0, 0)) := hb
    show ((w.drewN k).heap.modify b _)[b]? = _
    rw [Array.getElem?_modify, if_pos rfl, hb']
    rfl
  · obtain ⟨x, hx1, hx2, hx3⟩ := hx h
    refine ⟨x, hx1, hx2, fun j hj => ?_⟩
    obtain ⟨z, hz1, hz2⟩ := hx3 j hj
    refine ⟨z, ?_, hz2⟩
    have e : ((w.drewN k).setCell ⟨b, 1, none⟩ (.int .i64 ((i : Int) + 1))).cell? (x.add j) = (w.drewN k).cell? (x.add j) := World.cell?_of_block (Below.heap_setCell _ _ _ _ (by rw [add_block]; exact Nat.ne_of_lt (Nat.lt_of_lt_of_le hx2 h0)))
    exact e.trans hz1

theorem next_any (b : Nat) (n : Int) (h1 : 1 ≤ n) (h2 : n ≤ 9223372036854775807) (w : World) (B : Nat) (hs : Src B w b) :
    Calls Try.prog 56 #[.pointer (some ⟨b, 0, none⟩), .int .i64 n] w (NextPost B b n w) := by
  have HS := Lib.hid hs
  obtain ⟨a, len, cap, i, hb, hB, hl, hi, hx⟩ := hs
  have hc0 : w.cell? ⟨b, 0, none⟩ = some (.slice a len cap) := by simp [World.cell?, hb]
  have hc1 : w.cell? ⟨b, 1, none⟩ = some (.int .i64 (i : Int)) := by simp [World.cell?, hb]
  have hf1 : w.frozen? ⟨b, 1, none⟩ = false := by simp [World.frozen?, hb]
  by_cases hlt : i < len
  · have HB := Lib.hid hb
    have HX := Lib.hid hx
    have HL := Lib.hid hl
    have HG := Lib.hid hB
    obtain ⟨x, rfl, hxb, hxc⟩ := hx (by omega)
    obtain ⟨z, hz, hzb⟩ := hxc i hlt
    obtain ⟨_, hz0, _⟩ := hxc 0 (by omega)
    have hspot := spot_zero hz0
    clear hz0
    obtain ⟨xb, off, spot⟩ := x
    have hs0 : spot = none := hspot
    subst hs0
    have hz' : w.cell? ⟨xb, off + i, none⟩ = some (.int .i64 z) := by rw [← hz]; congr 1; simp [Addr.add]
    have hd : decide ((len : Int) ≤ (i : Int)) = false := by simp; omega
    have hi0 : (0 : Int) ≤ (i : Int) := by omega
    have hi1 : (i : Int) < (len : Int) := by omega
    have hne : ¬ xb = b := Nat.ne_of_lt (Nat.lt_of_lt_of_le hxb hB)
    unfold maxLen at hl
    clear hb hx hxc hz hxb hspot hi hB
    go_enter Try.func56, Try.ntmps56
    go_wp2
    go_quiet (fail)
    go_wp2
    go_quiet ((go_at_call 18; exact Calls.quiet_of_same ((pick_any _ _ h1 h2 _).mono fun _ _ h => ⟨h.1, h.2.symm⟩)))
    go_wp2
    go_ret
    exact ⟨(pickI z n).toNat, by have := pickI_bd z n h1; omega, by rw [Int.toNat_of_nonneg (pickI_bd z n h1).1]; rfl, src_set HB.out HG.out HL.out hlt HX.out _ _, chg_set _ _ _ _ _, by simp [World.setCell, World.drewN]⟩
  · have hd : decide ((len : Int) ≤ (i : Int)) = true := by simp; omega
    have hl' : len ≤ 9223372036854775807 := by unfold maxLen at hl; omega
    go_enter Try.func56, Try.ntmps56
    go_wp2
    go_quiet (fail)
    go_wp2
    go_ret
    exact ⟨0, by omega, rfl, HS.out, (Chg.refl _ _).drewN _, rfl⟩

end Go.Proofs.Ytjefpeppkphgbaa
