/-
  The reference's NewStore (26.1), and the walk of StoreNew: it returns true and changes nothing that was there.
  Conditions: none.
-/
import Derived.Test.YtkhfjedeccjnbaaAwake26
import Derived.Test.YtkhfjedeccjnbaaClock
namespace Go.Proofs.Ytkhfjedeccjnbaa
open Go.RowKit Go.Sort
set_option maxHeartbeats 1000000

def RSNewPost (n : Int) (w : World) (e : Ending) (w' : World) : Prop :=
  (powB n 4 = false ∧ e = .returned (.tuple #[.pointer none, .int .i64 3]) ∧ w' = w) ∨
  (powB n 4 = true ∧ ∃ b t s, e = .returned (.tuple #[.pointer (some ⟨b, 0, none⟩), .int .i64 0]) ∧ w.heap.size ≤ b ∧ w.heap.size ≤ t ∧ w.heap.size ≤ s ∧ b ≠ t ∧ b ≠ s ∧ TableAt w' t s n.toNat (fun _ => -1) (.slice none 0 0) ∧
    w'.heap[b]? = some (.cells #[.pointer (some ⟨t, 0, none⟩), .slice none 0 0, .slice none 0 0] 79) ∧ Ext w w')
theorem rsnew_any (n : Int) (w : World) : Calls Try.prog 65 #[.int .i64 n] w (RSNewPost n w) := by
  cases hp : powB n 4
  · go_enter Try.func65, Try.ntmps65
    go_wp2_with (go_at_call 92; refine (rpower_any _ _ (by decide) _).mono ?_; rintro e w1 ⟨rfl, rfl⟩)
    go_ret2
    exact .inl ⟨hp, rfl, rfl⟩
  · obtain ⟨h2, h3, _⟩ := (pow_spec (by omega)).1 hp
    obtain ⟨m, rfl⟩ : ∃ m : Nat, n = m := ⟨n.toNat, by omega⟩
    go_enter Try.func65, Try.ntmps65
    go_wp2_with (first | (go_at_call 92; refine (rpower_any _ _ (by decide) _).mono ?_; rintro e w1 ⟨rfl, rfl⟩) | (go_at_call 93; refine (newTable_any m (by omega) _).mono ?_; rintro e w1 ⟨t, s, rfl, ht, hs, htab, hx⟩))
    go_ret2
    have hl1 := htab.2.1
    have hl2 := htab.2.2.2.2.2.1
    have hz := hx.size
    exact .inr ⟨hp, w1.heap.size, t, s, rfl, hz, ht, hs, by omega, by omega, htab.ext ((Ext.refl _).alloc _), heap_alloc_new _ _, hx.alloc _⟩
theorem snew_t {n : Int} (h : powB n 4 = true) (w : World) : Calls Try.prog 64 #[.int .i64 n] w fun e w' => ∃ b, e = .returned (.tuple #[.pointer (some b), .int .i64 0]) ∧ Ext w w' := by
  refine (snew_any n w).mono ?_
  rintro e w' (⟨hp, _⟩ | ⟨_, b, _, _, rfl, _, _, _, _, hx⟩)
  · rw [h] at hp; simp at hp
  · exact ⟨_, rfl, hx⟩
theorem snew_f {n : Int} (h : powB n 4 = false) (w : World) : Calls Try.prog 64 #[.int .i64 n] w fun e w' => e = .returned (.tuple #[.pointer none, .int .i64 3]) ∧ w = w' := by
  refine (snew_any n w).mono ?_
  rintro e w' (⟨_, rfl, rfl⟩ | ⟨hp, _⟩)
  · exact ⟨rfl, rfl⟩
  · rw [h] at hp; simp at hp
theorem rsnew_t {n : Int} (h : powB n 4 = true) (w : World) : Calls Try.prog 65 #[.int .i64 n] w fun e w' => ∃ b, e = .returned (.tuple #[.pointer (some b), .int .i64 0]) ∧ Ext w w' := by
  refine (rsnew_any n w).mono ?_
  rintro e w' (⟨hp, _⟩ | ⟨_, b, _, _, rfl, _, _, _, _, _, _, _, hx⟩)
  · rw [h] at hp; simp at hp
  · exact ⟨_, rfl, hx⟩
theorem rsnew_f {n : Int} (h : powB n 4 = false) (w : World) : Calls Try.prog 65 #[.int .i64 n] w fun e w' => e = .returned (.tuple #[.pointer none, .int .i64 3]) ∧ w = w' := by
  refine (rsnew_any n w).mono ?_
  rintro e w' (⟨_, rfl, rfl⟩ | ⟨hp, _⟩)
  · exact ⟨rfl, rfl⟩
  · rw [h] at hp; simp at hp

set_option maxRecDepth 100000
namespace storeNew
theorem walk (a0 a1 : Int) (w : World) (_ : I64 a0) (_ : I64 a1) :
    Calls Try.prog 17 #[.int .i64 a0, .int .i64 a1] w fun e w' => e = .returned (.bool true) ∧ Below w.heap.size w w' := by
  obtain ⟨k, hkk⟩ : ∃ k, pickI a1 2100 = k := ⟨_, rfl⟩
  have hx := Ext.refl w
  cases hp : powB a0 4 <;> cases hk : powB k 4
  all_goals
    go_enter Try.func17, Try.ntmps17
    go_wp2_with (first | (go_at_call 29; refine (pick_any _ _ (by omega) (by omega) _).mono ?_; rintro e w' ⟨rfl, rfl⟩) | (go_at_call 64; first | (with_reducible refine (snew_t hp _).mono ?_; rintro e w1 ⟨b, rfl, hy⟩; have hx := hx.trans hy; clear hy) | (with_reducible refine (snew_t hk _).mono ?_; rintro e w1 ⟨b, rfl, hy⟩; have hx := hx.trans hy; clear hy) | (with_reducible refine (snew_f hp _).mono ?_; rintro e w1 ⟨rfl, rfl⟩) | (with_reducible refine (snew_f hk _).mono ?_; rintro e w1 ⟨rfl, rfl⟩)) | (go_at_call 65; first | (with_reducible refine (rsnew_t hp _).mono ?_; rintro e w1 ⟨b, rfl, hy⟩; have hx := hx.trans hy; clear hy) | (with_reducible refine (rsnew_t hk _).mono ?_; rintro e w1 ⟨b, rfl, hy⟩; have hx := hx.trans hy; clear hy) | (with_reducible refine (rsnew_f hp _).mono ?_; rintro e w1 ⟨rfl, rfl⟩) | (with_reducible refine (rsnew_f hk _).mono ?_; rintro e w1 ⟨rfl, rfl⟩)) | (go_at_call 66; refine (awake26 _).mono ?_; rintro e w1 ⟨rfl, hy⟩; have hx := hx.trans hy; clear hy))
    go_ret
    exact ⟨rfl, Ext.below hx⟩
end storeNew
end Go.Proofs.Ytkhfjedeccjnbaa
