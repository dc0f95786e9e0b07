/-
  The keys of a table's slots that are wanted, in ascending order (25.4): the plain law, and keys itself for whatever function value.
  Conditions: at most 4096 slots; keys' lengths are those of Go strings.
-/
import Derived.Test.YtkhfjedeccjnbaaTIns
import Derived.Test.YtkhfjedeccjnbaaAsc
import Derived.Test.YtkhfjedeccjnbaaSort
import Derived.Sort.OwnSorted
namespace Go.Proofs.Ytkhfjedeccjnbaa
open Go.RowKit Go.Sort
set_option maxHeartbeats 1000000

/-- The wanted keys of the first i slots, in the slots' order. -/
def colK (sl : Nat → Option ByteArray) (p : Nat → Bool) : Nat → List (List UInt8)
  | 0 => []
  | i + 1 => colK sl p i ++ (match sl i with | some k => if p i then [k.data.toList] else [] | none => [])
theorem colK_none {sl : Nat → Option ByteArray} {p : Nat → Bool} {i : Nat} (h : sl i = none) : colK sl p (i + 1) = colK sl p i := by simp [colK, h]
theorem colK_skip {sl : Nat → Option ByteArray} {p : Nat → Bool} {i : Nat} {k : ByteArray} (h : sl i = some k) (hp : p i = false) : colK sl p (i + 1) = colK sl p i := by simp [colK, h, hp]
theorem colK_take {sl : Nat → Option ByteArray} {p : Nat → Bool} {i : Nat} {k : ByteArray} (h : sl i = some k) (hp : p i = true) : colK sl p (i + 1) = colK sl p i ++ [k.data.toList] := by simp [colK, h, hp]
theorem colK_len (sl : Nat → Option ByteArray) (p : Nat → Bool) : ∀ i, (colK sl p i).length ≤ i
  | 0 => by simp [colK]
  | i + 1 => by
    have := colK_len sl p i
    cases h : sl i with
    | none => rw [colK_none h]; omega
    | some k =>
      cases hp : p i with
      | false => rw [colK_skip h hp]; omega
      | true => rw [colK_take h hp]; simp; omega
theorem mem_colK {sl : Nat → Option ByteArray} {p : Nat → Bool} {x : List UInt8} : ∀ {i : Nat}, x ∈ colK sl p i ↔ ∃ j k, j < i ∧ sl j = some k ∧ p j = true ∧ k.data.toList = x
  | 0 => by simp [colK]
  | i + 1 => by
    have ih := mem_colK (sl := sl) (p := p) (x := x) (i := i)
    have step : (∃ j k, j < i + 1 ∧ sl j = some k ∧ p j = true ∧ k.data.toList = x) ↔ (∃ j k, j < i ∧ sl j = some k ∧ p j = true ∧ k.data.toList = x) ∨ ∃ k, sl i = some k ∧ p i = true ∧ k.data.toList = x := by
      constructor
      · rintro ⟨j, k, h1, h2⟩
        rcases (show j < i ∨ j = i by omega) with h | rfl
        · exact .inl ⟨j, k, h, h2⟩
        · exact .inr ⟨k, h2⟩
      · rintro (⟨j, k, h1, h2⟩ | ⟨k, h2⟩)
        · exact ⟨j, k, by omega, h2⟩
        · exact ⟨i, k, by omega, h2⟩
    rw [step, ← ih]
    cases h : sl i with
    | none => rw [colK_none h]; simp
    | some k =>
      cases hp : p i with
      | false => rw [colK_skip h hp]; simp
      | true => rw [colK_take h hp]; simp [eq_comm]
theorem colK_nodup {n : Nat} {sl : Nat → Option ByteArray} {p : Nat → Bool} (hd : ∀ i j k, i < n → j < n → sl i = some k → sl j = some k → i = j) : ∀ {i : Nat}, i ≤ n → (colK sl p i).Nodup
  | 0, _ => by simp [colK]
  | i + 1, hi => by
    have ih := colK_nodup (p := p) hd (i := i) (by omega)
    cases h : sl i with
    | none => rw [colK_none h]; exact ih
    | some k =>
      cases hp : p i with
      | false => rw [colK_skip h hp]; exact ih
      | true =>
        rw [colK_take h hp]
        refine List.nodup_append.2 ⟨ih, by simp, ?_⟩
        intro a ha b hb e
        subst e
        rw [List.mem_singleton] at hb
        obtain ⟨j, k', hj, h1, _, h3⟩ := mem_colK.1 ha
        have hk : k' = k := by
          have h4 : k'.data.toList = k.data.toList := h3.trans hb
          have h5 : k'.data = k.data := Array.toList_inj.1 h4
          cases k'; cases k; simp at h5; rw [h5]
        subst hk
        have := hd j i k' (by omega) (by omega) h1 h
        omega
/-- The wanted keys of n slots in ascending order. -/
def keysK (sl : Nat → Option ByteArray) (p : Nat → Bool) (n : Nat) : List (List UInt8) := (colK sl p n).mergeSort fun x y => decide (x ≤ y)
theorem keysK_len (sl : Nat → Option ByteArray) (p : Nat → Bool) (n : Nat) : (keysK sl p n).length = (colK sl p n).length := List.length_mergeSort _
theorem mem_keysK {sl : Nat → Option ByteArray} {p : Nat → Bool} {n : Nat} {x : List UInt8} : x ∈ keysK sl p n ↔ ∃ j k, j < n ∧ sl j = some k ∧ p j = true ∧ k.data.toList = x := mem_sort.trans mem_colK
theorem keysK_asc {n : Nat} {sl : Nat → Option ByteArray} {p : Nat → Bool} (hd : ∀ i j k, i < n → j < n → sl i = some k → sl j = some k → i = j) : Asc (keysK sl p n) := asc_sort (colK_nodup hd (Nat.le_refl _))
theorem enc_key (k : ByteArray) : encStr k.data.toList = .string k := by cases k; rfl

theorem sort_any (base : Nat) (v : Value) (ss : List (List UInt8)) (w : World) (h : w.ownsRow base 9 1 v ss.length (ss.map encStr)) (hsz : ss.length ≤ 4096) :
    Calls Try.prog 115 #[v] w fun e w' => e = .returned (.tuple #[]) ∧ w'.ownsRow base 9 1 v ss.length ((ss.mergeSort fun x y => decide (x ≤ y)).map encStr) ∧ w.grownBy w' v.ownBlock := by
  rcases h.2 with ⟨hv, h0⟩ | ⟨g, cap, cur, hv, hbase, hb, h1, h2, h3, h4⟩
  · subst hv
    have hs : ss = [] := List.eq_nil_of_length_eq_zero h0
    subst hs
    have hcon := AnyM.slices_Sort_string_none Try.mSort none 0 w
    change Calls Try.prog 115 _ _ _ at hcon
    refine hcon.mono ?_
    rintro e w' ⟨rfl, rfl⟩
    exact ⟨rfl, by simpa using h, World.grownBy.refl _ _⟩
  · subst hv
    have hcon := AnyM.slices_Sort_string Try.mSort g 0 cap ss w (holds_of_block hb (by simpa using h4)) (Array.getElem?_eq_some_iff.1 hb).1 (by omega)
    change Calls Try.prog 115 _ _ _ at hcon
    refine hcon.mono ?_
    rintro e w' ⟨rfl, k, os, rfl⟩
    exact ⟨rfl, ownsRow_sorted (by simp) hbase hb h1 h2 h3, grownBy_sorted _⟩

/-- A slice of the call's own that holds these strings; nothing that was there has changed. -/
def KeysPost (ks : List (List UInt8)) (w : World) (e : Ending) (w' : World) : Prop := ∃ v, e = .returned v ∧ w'.ownsRow w.heap.size 9 1 v ks.length (ks.map encStr) ∧ Ext w w'

set_option maxHeartbeats 4000000 in
set_option maxRecDepth 100000 in
theorem keys_any (b g h n : Nat) (sl : Nat → Option ByteArray) (ow : Nat → Int) (u : Int) (fn : Nat) (caps : Array Value) (p : Int → Bool) (w : World) (hn : n ≤ 4096) (hl : LocksAt w b g h n sl ow u)
    (eg : ∀ args w, (callFunc fn args).run Try.prog w = .ok (.enter fn args) w) (hf : ∀ wr o, Ext w wr → Calls Try.prog fn (#[.int .i64 o] ++ caps) wr fun e w' => e = .returned (.bool (p o)) ∧ Ext wr w') :
    Calls Try.prog 108 #[.pointer (some ⟨b, 0, none⟩), .func (.func fn) #[] caps] w (KeysPost (keysK sl (fun j => p (ow j)) n) w) := by
  obtain ⟨i0, hi, hz0, hz1, hz2⟩ := info_parts info_str
  have Hl := Lib.hid hl
  have Hf := Lib.hid hf
  obtain ⟨_, _, _, hb, _, c0, c1, c2, _, _⟩ := hl
  clear hf
  go_enter Try.func108, Try.ntmps108
  go_wp2_with fail
  go_loopw [13, 5] (fun o l wr => ∃ i : Nat, i ≤ n ∧ o = .int .i64 (i : Int) ∧ wr.ownsRow w.heap.size 9 1 l (colK sl (fun j => p (ow j)) i).length ((colK sl (fun j => p (ow j)) i).map encStr) ∧ Ext w wr) (fun o _ _ => n - (intOf o).toNat)
  case atStart => exact ⟨0, by omega, rfl, World.ownsRow_nil _ _ _ _, Ext.refl w⟩
  case round =>
    obtain ⟨i, hi', rfl, ho, hx⟩ := hrel
    clear hb c0 c1 c2
    have hlr := Hl.out.ext hx
    obtain ⟨_, _, _, hb, _, c0, c1, _, hsl, hin⟩ := hlr
    by_cases hlt : i < n
    · have hd : decide ((i : Int) < (n : Int)) = true := by simpa using hlt
      have i0' : (0 : Int) ≤ (i : Int) := by omega
      have i1' : (i : Int) < (n : Int) := by omega
      obtain ⟨d0, d1⟩ := hsl.2.2 i hlt
      have d2 := hin.2.2 i hlt
      have hgl := hsl.1
      have hhl := hin.1
      have hlen := colK_len sl (fun j => p (ow j)) i
      have Ho := Lib.hid ho
      have Hx := Lib.hid hx
      clear hsl hin ho hx
      cases hsi : sl i with
      | none =>
        have Hsi := Lib.hid hsi
        rw [hsi] at d0 d1
        simp only [Option.isSome, Option.getD] at d0 d1
        clear hsi
        go_wp2_with fail
        go_roundw
        case rel => exact ⟨i + 1, by omega, by go_num, by rw [colK_none Hsi.out]; exact Ho.out.alloc _, Hx.out.alloc _⟩
        case measure => simp [intOf]; omega
      | some k =>
        have Hsi := Lib.hid hsi
        rw [hsi] at d0 d1
        simp only [Option.isSome, Option.getD] at d0 d1
        clear hsi
        have hfo := fun wr hwr => Hf.out wr (ow i) hwr
        cases hp : p (ow i) with
        | false =>
          have Hp := Lib.hid hp
          rw [hp] at hfo
          clear hp
          go_wp2_with (go_at_fn fn; refine (hfo _ (Hx.out.trans (by repeat' (first | exact Ext.refl _ | assumption | apply Ext.alloc | apply Ext.drewN | apply Ext.drew | (refine Ext.trans ?_ (by assumption)) | (refine ext_setCell ?_ (by first | (simp; done) | (simp; omega)) _))))).mono ?_; rintro e w1 ⟨rfl, hy⟩)
          go_roundw
          case rel => exact ⟨i + 1, by omega, by go_num, by rw [colK_skip Hsi.out Hp.out]; exact own_ext Ho.out (by repeat' (first | exact Ext.refl _ | assumption | apply Ext.alloc | apply Ext.drewN | apply Ext.drew | (refine Ext.trans ?_ (by assumption)) | (refine ext_setCell ?_ (by first | (simp; done) | (simp; omega)) _))), Hx.out.trans (by repeat' (first | exact Ext.refl _ | assumption | apply Ext.alloc | apply Ext.drewN | apply Ext.drew | (refine Ext.trans ?_ (by assumption)) | (refine ext_setCell ?_ (by first | (simp; done) | (simp; omega)) _)))⟩
          case measure => simp [intOf]; omega
        | true =>
          have Hp := Lib.hid hp
          rw [hp] at hfo
          clear hp
          have ho1 := fun w1 (hy : Ext (wr.alloc (.cells #[.bool true, .string k] 91)) w1) => own_ext Ho.out (((Ext.refl wr).alloc (.cells #[.bool true, .string k] 91)).trans hy)
          have hbl := fun k hk => (Ho.out.lt k hk).1
          have hz := Hx.out.size
          obtain ⟨a1, k1, hv1⟩ := own_shape Ho.out
          subst hv1
          go_wp2_with (first
            | (go_at_fn fn; refine (hfo _ (Hx.out.trans (by repeat' (first | exact Ext.refl _ | assumption | apply Ext.alloc | apply Ext.drewN | apply Ext.drew | (refine Ext.trans ?_ (by assumption)) | (refine ext_setCell ?_ (by first | (simp; done) | (simp; omega)) _))))).mono ?_; rintro e w1 ⟨rfl, hy⟩
               have q1 := (hy.cell (p := ⟨wr.heap.size, 1, none⟩) (by simp)).trans (show _ = some (Value.string k) by go_simp)
               have ho2 := ho1 _ hy
               have hz4 : wr.heap.size + 1 ≤ w1.heap.size := by have := hy.size; simpa using this
               have Hy := Lib.hid hy
               clear hy ho1)
            | (at_builtin; refine wpList_append_own_at _ rfl _ _ 77 rfl w.heap.size 9 i0 _ 1 16 und_strs hi hz0 hz1 hz2 rfl (by decide) _ (colK sl (fun j => p (ow j)) i).length _ rfl (ho2.alloc _) ⟨w1.heap.size, 0, none⟩ 1 1 [.string k] rfl rfl ?c1 ?c2 ?c3 ?c4 ?c5 ?_))
          case c1 => exact cell_one_new _ _ _
          case c2 => intro u hu; simp at hu; subst hu; rfl
          case c3 => unfold maxLen; omega
          case c4 => omega
          case c5 => simp; omega
          intro v2 w2 ho3 hg2 _ _
          have hx2 : Ext w w2 := by
            have e1 : Ext w w1 := (Hx.out.alloc (.cells #[.bool true, .string k] 91)).trans Hy.out
            exact Ext.grown (e1.alloc (.cells #[.string k] 9)) hg2 hbl
          have ho4 : w2.ownsRow w.heap.size 9 1 v2 (colK sl (fun j => p (ow j)) (i + 1)).length ((colK sl (fun j => p (ow j)) (i + 1)).map encStr) := by
            rw [colK_take Hsi.out Hp.out]
            simpa [enc_key] using ho3
          have Ho4 := Lib.hid ho4
          have Hx2 := Lib.hid hx2
          clear ho4 ho3 hx2 hg2 ho2 hbl
          go_wp2_with fail
          go_roundw
          case rel => exact ⟨i + 1, by omega, by go_num, Ho4.out, Hx2.out⟩
          case measure => simp [intOf]; omega
    · have hd : decide ((i : Int) < (n : Int)) = false := by simp; omega
      have hii : i = n := by omega
      subst hii
      have hlen := colK_len sl (fun j => p (ow j)) i
      have hsrt := sort_any w.heap.size _ _ wr ho (by omega)
      have hbl := fun k hk => (ho.lt k hk).1
      have Hx := Lib.hid hx
      have Hbl := Lib.hid hbl
      clear hsl hin hx ho hbl
      go_wp2_with (go_at_call 115; refine hsrt.mono ?_; rintro e w1 ⟨rfl, ho1, hg1⟩)
      go_ret
      exact ⟨_, rfl, by rw [keysK_len]; exact ho1, Ext.grown Hx.out hg1 Hbl.out⟩
end Go.Proofs.Ytkhfjedeccjnbaa
