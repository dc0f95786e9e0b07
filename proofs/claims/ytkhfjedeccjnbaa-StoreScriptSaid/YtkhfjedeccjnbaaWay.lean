/-
  The plain law of a table of locks: what Acquire and Release keep, and how a key is found from its home on.
  Conditions: none.
-/
import Derived.Test.YtkhfjedeccjnbaaLaw25b
import Derived.Test.YtkhfjedeccjnbaaStLaw
import Derived.Test.YtkhfjedeccjnbaaKeys
namespace Go.Proofs.Ytkhfjedeccjnbaa
open Go.RowKit Go.Sort
set_option maxHeartbeats 1000000

/-- From its home on, every slot before a key's own is used by another key. -/
theorem Tab.way {n : Nat} {sl : Nat → Option ByteArray} {u : Int} (t : Tab n sl u) {key : ByteArray} {i0 : Nat} (h : Has n sl key i0) :
    dist n (homeN key n) i0 < n ∧ off n (homeN key n) (dist n (homeN key n) i0) = i0 ∧ ∀ d, d < dist n (homeN key n) i0 → ∃ k, sl (off n (homeN key n) d) = some k ∧ k ≠ key := by
  obtain ⟨hi, hs⟩ := h
  obtain ⟨h0, _⟩ := homeN_lt key t.pos
  obtain ⟨q1, q2⟩ := off_dist h0 hi
  refine ⟨q2, q1, fun d hd => ?_⟩
  have hp := t.path i0 key hi hs d hd
  cases hk : sl (off n (homeN key n) d) with
  | none => exact absurd hk hp
  | some k =>
    refine ⟨k, rfl, fun e => ?_⟩
    subst e
    have e2 := t.dis _ i0 k (off_lt h0 (by omega)) hi hk hs
    have e3 := dist_off h0 (show d < n by omega)
    rw [e2] at e3
    omega
/-- A table of locks: every key is found, one slot at least is unused, the keys' lengths are those of Go strings. -/
structure LOk (n : Nat) (sl : Nat → Option ByteArray) (u : Int) : Prop where
  tab : Tab n sl u
  room : u < n
  keys : ∀ i k, i < n → sl i = some k → k.size ≤ maxLen
theorem lok_new {n : Nat} (h : 0 < n) : LOk n (fun _ => none) 0 := ⟨tab_new h, by omega, by simp⟩
theorem LOk.free {n : Nat} {sl : Nat → Option ByteArray} {u : Int} (o : LOk n sl u) : ∃ i, i < n ∧ sl i = none := o.tab.free o.room
theorem LOk.acq {n : Nat} {sl : Nat → Option ByteArray} {ow : Nat → Int} {u : Int} (o : LOk n sl u) {key : ByteArray} {c code : Int} {sl' : Nat → Option ByteArray} {ow' : Nat → Int} {u' : Int} (hk : key.size ≤ maxLen) (s : AcqSpec n sl ow u key c code sl' ow' u') : LOk n sl' u' := by
  rcases s with ⟨_, _, rfl, _, rfl⟩ | ⟨_, p, ok, f, ⟨_, _, _, rfl, _, rfl⟩ | ⟨_, _, _, rfl, _, rfl⟩ | ⟨_, _, _, rfl, _, rfl⟩ | ⟨rfl, hr, _, rfl, _, rfl⟩⟩
  · exact o
  · exact o
  · exact o
  · exact o
  · exact ⟨o.tab.ins f, by omega, keys_upd o.keys hk p⟩
theorem LOk.rel {n : Nat} {sl : Nat → Option ByteArray} {ow : Nat → Int} {u : Int} (o : LOk n sl u) {key : ByteArray} {c code : Int} {sl' : Nat → Option ByteArray} {ow' : Nat → Int} {u' : Int} (s : RelSpec n sl ow u key c code sl' ow' u') : LOk n sl' u' := by
  rcases s with ⟨_, _, rfl, _, rfl⟩ | ⟨_, p, ok, f, ⟨_, _, rfl, _, rfl⟩ | ⟨_, _, _, rfl, _, rfl⟩ | ⟨rfl, _, _, rfl, s, hd, rfl, rfl⟩⟩
  · exact o
  · exact o
  · exact o
  · obtain ⟨fu, hfu, hfree⟩ := o.free
    obtain ⟨t', hH, _⟩ := rm_tab o.tab ow (find_has f) hfu hfree hd
    have hr := o.room
    refine ⟨t', by omega, fun i k hi hk => ?_⟩
    obtain ⟨_, j, hj, a, _⟩ := (hH k _).1 ⟨i, hi, hk, rfl⟩
    exact o.keys j k hj a
/-- The clients of a table's locks are clients. -/
def LOwn (n : Nat) (sl : Nat → Option ByteArray) (ow : Nat → Int) : Prop := ∀ key c, Holds n sl ow key c → 0 ≤ c ∧ c < 64
theorem lown_new (n : Nat) : LOwn n (fun _ => none) (fun _ => 0) := fun key c ⟨i, _, h, _⟩ => by simp at h
theorem LOk.ownAcq {n : Nat} {sl : Nat → Option ByteArray} {ow : Nat → Int} {u : Int} (o : LOk n sl u) (h : LOwn n sl ow) {key : ByteArray} {c code : Int} {sl' : Nat → Option ByteArray} {ow' : Nat → Int} {u' : Int} (s : AcqSpec n sl ow u key c code sl' ow' u') : LOwn n sl' ow' := by
  rcases s with ⟨_, _, rfl, rfl, rfl⟩ | ⟨hc, p, ok, f, ⟨_, _, _, rfl, rfl, rfl⟩ | ⟨_, _, _, rfl, rfl, rfl⟩ | ⟨_, _, _, rfl, rfl, rfl⟩ | ⟨rfl, hr, _, rfl, rfl, rfl⟩⟩
  · exact h
  · exact h
  · exact h
  · exact h
  · intro a b hab
    rcases (holds_ins f.lt (find_none f) (fun i hi => by simpa using (o.tab.hit hi f).1) c a b).1 hab with ⟨_, rfl⟩ | ⟨_, hab⟩
    · exact hc
    · exact h a b hab
theorem LOk.ownRel {n : Nat} {sl : Nat → Option ByteArray} {ow : Nat → Int} {u : Int} (o : LOk n sl u) (h : LOwn n sl ow) {key : ByteArray} {c code : Int} {sl' : Nat → Option ByteArray} {ow' : Nat → Int} {u' : Int} (s : RelSpec n sl ow u key c code sl' ow' u') : LOwn n sl' ow' := by
  rcases s with ⟨_, _, rfl, rfl, rfl⟩ | ⟨_, p, ok, f, ⟨_, _, rfl, rfl, rfl⟩ | ⟨_, _, _, rfl, rfl, rfl⟩ | ⟨rfl, _, _, rfl, s, hd, rfl, rfl⟩⟩
  · exact h
  · exact h
  · exact h
  · obtain ⟨fu, hfu, hfree⟩ := o.free
    obtain ⟨_, hH, _⟩ := rm_tab o.tab ow (find_has f) hfu hfree hd
    exact fun a b hab => h a b ((hH a b).1 hab).2
/-- A key that the table has is found. -/
theorem LOk.ownFind {n : Nat} {sl : Nat → Option ByteArray} {ow : Nat → Int} {u : Int} (o : LOk n sl u) (h : LOwn n sl ow) {key : ByteArray} {i p : Nat} {ok : Bool} (hi : Has n sl key i) (f : FindAt n sl key p ok) : ok = true ∧ p = i ∧ 0 ≤ ow i := by
  obtain ⟨h1, h2⟩ := o.tab.hit hi f
  exact ⟨h1, h2, (h key (ow i) ⟨i, hi.1, hi.2, rfl⟩).1⟩
/-- The members of a table's list of keys have their slots. -/
theorem keysK_at {n : Nat} {sl : Nat → Option ByteArray} {p : Nat → Bool} {i : Nat} {x : List UInt8} (h : (keysK sl p n)[i]? = some x) : ∃ j k, j < n ∧ sl j = some k ∧ p j = true ∧ k.data.toList = x :=
  mem_keysK.1 (List.mem_of_getElem? h)
theorem colK_cnt (sl : Nat → Option ByteArray) : ∀ n, (colK sl (fun _ => true) n).length = cnt sl n
  | 0 => rfl
  | n + 1 => by
    have ih := colK_cnt sl n
    cases h : sl n with
    | none => rw [colK_none h, cnt, ih, h]; simp
    | some k => rw [colK_take h rfl, cnt, List.length_append, ih, h]; simp
theorem keysK_num {n : Nat} {sl : Nat → Option ByteArray} {u : Int} (t : Tab n sl u) : ((keysK sl (fun _ => true) n).length : Int) = u := by
  rw [keysK_len, colK_cnt, t.num]
end Go.Proofs.Ytkhfjedeccjnbaa
