/-
  slices.Sort over a slice of strings of the call's own.
  Conditions: at most 4096 strings.
-/
import Derived.Test.YtfbhbnolnjcaiaaGround
import Derived.Test.YtfbhbnolnjcaiaaSort
import Derived.Sort.OwnSorted
namespace Go.Proofs.Ytfbhbnolnjcaiaa
open Go.RowKit Go.Sort
set_option maxHeartbeats 1000000

theorem enc_key (k : ByteArray) : encStr k.data.toList = .string k := by cases k; rfl
theorem sort_any (base : Nat) (v : Value) (ss : List (List UInt8)) (w : World) (h : w.ownsRow base 9 1 v ss.length (ss.map encStr)) (hsz : ss.length ≤ 4096) :
    Calls Try.prog 47 #[v] w fun e w' => e = .returned (.tuple #[]) ∧ w'.ownsRow base 9 1 v ss.length ((ss.mergeSort fun x y => decide (x ≤ y)).map encStr) ∧ w.grownBy w' v.ownBlock := by
  rcases h.2 with ⟨hv, h0⟩ | ⟨g, cap, cur, hv, hbase, hb, h1, h2, h3, h4⟩
  · subst hv
    have hs : ss = [] := List.eq_nil_of_length_eq_zero h0
    subst hs
    have hcon := AnyM.slices_Sort_string_none Try.mSort none 0 w
    change Calls Try.prog 47 _ _ _ at hcon
    refine hcon.mono ?_
    rintro e w' ⟨rfl, rfl⟩
    exact ⟨rfl, by simpa using h, World.grownBy.refl _ _⟩
  · subst hv
    have hcon := AnyM.slices_Sort_string Try.mSort g 0 cap ss w (holds_of_block hb (by simpa using h4)) (Array.getElem?_eq_some_iff.1 hb).1 (by omega)
    change Calls Try.prog 47 _ _ _ at hcon
    refine hcon.mono ?_
    rintro e w' ⟨rfl, k, os, rfl⟩
    exact ⟨rfl, ownsRow_sorted (by simp) hbase hb h1 h2 h3, grownBy_sorted _⟩

/-- A slice of the call's own that holds these strings; nothing that was there has changed. -/
def KeysPost (ks : List (List UInt8)) (w : World) (e : Ending) (w' : World) : Prop := ∃ v, e = .returned v ∧ w'.ownsRow w.heap.size 9 1 v ks.length (ks.map encStr) ∧ Ext w w'

end Go.Proofs.Ytfbhbnolnjcaiaa
