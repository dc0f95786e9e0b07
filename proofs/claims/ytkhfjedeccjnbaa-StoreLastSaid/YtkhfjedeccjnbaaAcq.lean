/-
  What Owner returns, and what Acquire returns and does (25.2).
  Conditions: keys' lengths are those of Go strings; at least one slot of the table is unused.
-/
import Derived.Test.YtkhfjedeccjnbaaFind
namespace Go.Proofs.Ytkhfjedeccjnbaa
open Go.RowKit Go.Sort
set_option maxHeartbeats 1000000

def upd {α : Type} (f : Nat → α) (p : Nat) (v : α) : Nat → α := fun i => if i = p then v else f i
theorem upd_same {α : Type} (f : Nat → α) (p : Nat) (v : α) : upd f p v p = v := by simp [upd]
theorem upd_other {α : Type} (f : Nat → α) {p i : Nat} (v : α) (h : i ≠ p) : upd f p v i = f i := by simp [upd, h]
theorem SlotsAt.set {w : World} {g n : Nat} {sl : Nat → Option ByteArray} (h : SlotsAt w g n sl) {p : Nat} (hp : p < n) (v : Option ByteArray) :
    SlotsAt ((w.setCell ⟨g, p * 2, none⟩ (.bool v.isSome)).setCell ⟨g, p * 2 + 1, none⟩ (.string (v.getD ⟨#[]⟩))) g n (upd sl p v) := by
  obtain ⟨h1, h2, h3⟩ := h
  refine ⟨by simpa [World.setCell] using h1, fun j => by go_simp, fun i hi => ?_⟩
  by_cases hip : i = p
  · subst hip
    obtain ⟨c0, c1⟩ := h3 i hi
    rw [upd_same]
    constructor <;> go_simp
  · have k1 : p * 2 ≠ i * 2 := by omega
    have k2 : p * 2 + 1 ≠ i * 2 := by omega
    have k3 : p * 2 ≠ i * 2 + 1 := by omega
    have k4 : p * 2 + 1 ≠ i * 2 + 1 := by omega
    obtain ⟨c0, c1⟩ := h3 i hi
    rw [upd_other _ _ hip]
    constructor <;> go_simp
theorem SlotsAt.far {w : World} {g n : Nat} {sl : Nat → Option ByteArray} (h : SlotsAt w g n sl) {q : Addr} (hq : g ≠ q.block) (u : Value) : SlotsAt (w.setCell q u) g n sl :=
  h.keep (by simp [World.setCell]) (Below.heap_setCell w q u g hq)
theorem IntsAt.far {w : World} {g n : Nat} {f : Nat → Int} (h : IntsAt w g n f) {q : Addr} (hq : g ≠ q.block) (u : Value) : IntsAt (w.setCell q u) g n f :=
  h.keep (by simp [World.setCell]) (Below.heap_setCell w q u g hq)
theorem IntsAt.set {w : World} {g n : Nat} {f : Nat → Int} (h : IntsAt w g n f) {p : Nat} (hp : p < n) (v : Int) : IntsAt (w.setCell ⟨g, p, none⟩ (.int .i64 v)) g n (upd f p v) := by
  obtain ⟨h1, h2, h3⟩ := h
  refine ⟨by simpa [World.setCell] using h1, fun j => by go_simp, fun i hi => ?_⟩
  have c := h3 i hi
  by_cases hip : i = p
  · subst hip; rw [upd_same]; go_simp
  · have k : p ≠ i := fun e => hip e.symm
    rw [upd_other _ _ hip]; go_simp
theorem LocksAt.setSlot {w : World} {b g h n : Nat} {sl : Nat → Option ByteArray} {ow : Nat → Int} {u : Int} (k : LocksAt w b g h n sl ow u) {p : Nat} (hp : p < n) (v : Option ByteArray) :
    LocksAt ((w.setCell ⟨g, p * 2, none⟩ (.bool v.isSome)).setCell ⟨g, p * 2 + 1, none⟩ (.string (v.getD ⟨#[]⟩))) b g h n (upd sl p v) ow u := by
  obtain ⟨h1, h2, h3, h4, h5, h6, h7, h8, h9, h10⟩ := k
  exact ⟨h1, h2, h3, by simpa [World.setCell] using h4, fun j => by go_simp, by go_simp, by go_simp, by go_simp, h9.set hp v, (h10.far (q := ⟨g, p * 2, none⟩) (Ne.symm h3) _).far (q := ⟨g, p * 2 + 1, none⟩) (Ne.symm h3) _⟩
theorem LocksAt.setOwner {w : World} {b g h n : Nat} {sl : Nat → Option ByteArray} {ow : Nat → Int} {u : Int} (k : LocksAt w b g h n sl ow u) {p : Nat} (hp : p < n) (c : Int) :
    LocksAt (w.setCell ⟨h, p, none⟩ (.int .i64 c)) b g h n sl (upd ow p c) u := by
  obtain ⟨h1, h2, h3, h4, h5, h6, h7, h8, h9, h10⟩ := k
  exact ⟨h1, h2, h3, by simpa [World.setCell] using h4, fun j => by go_simp, by go_simp, by go_simp, by go_simp, h9.far (q := ⟨h, p, none⟩) h3 _, h10.set hp c⟩
theorem LocksAt.setUsed {w : World} {b g h n : Nat} {sl : Nat → Option ByteArray} {ow : Nat → Int} {u : Int} (k : LocksAt w b g h n sl ow u) (c : Int) :
    LocksAt (w.setCell ⟨b, 2, none⟩ (.int .i64 c)) b g h n sl ow c := by
  obtain ⟨h1, h2, h3, h4, h5, h6, h7, h8, h9, h10⟩ := k
  exact ⟨h1, h2, h3, by simpa [World.setCell] using h4, fun j => by go_simp, by go_simp, by go_simp, by go_simp, h9.far (q := ⟨b, 2, none⟩) (Ne.symm h1) _, h10.far (q := ⟨b, 2, none⟩) (Ne.symm h2) _⟩

theorem LocksAt.drew {w : World} {b g h n : Nat} {sl : Nat → Option ByteArray} {ow : Nat → Int} {u : Int} (k : LocksAt w b g h n sl ow u) : LocksAt w.drew b g h n sl ow u :=
  k.keep (Nat.le_refl _) rfl rfl rfl

def OwnerPost (n : Nat) (sl : Nat → Option ByteArray) (ow : Nat → Int) (key : ByteArray) (w : World) (e : Ending) (w' : World) : Prop :=
  ∃ (p : Nat) (ok : Bool), FindAt n sl key p ok ∧ e = .returned (.int .i64 (if ok then ow p else -1)) ∧ Ext w w'
theorem owner_any (b g h n : Nat) (sl : Nat → Option ByteArray) (ow : Nat → Int) (u : Int) (key : ByteArray) (w : World) (hn : 0 < n) (hm : n ≤ 4096) (hs : key.size ≤ maxLen) (hl : LocksAt w b g h n sl ow u) (fu : Nat) (hfu : fu < n) (hfree : sl fu = none) :
    Calls Try.prog 63 #[.pointer (some ⟨b, 0, none⟩), .string key] w (OwnerPost n sl ow key w) := by
  have hl' := hl
  obtain ⟨_, _, _, hb, _, c0, c1, c2, hsl, _⟩ := hl'
  go_enter Try.func63, Try.ntmps63
  go_wp2_with fail
  refine (find_any _ _ _ _ _ hn hm hs hsl fu hfu hfree).mono ?_
  rintro e w1 ⟨p, ok, rfl, hf, hx⟩
  have hl := hl.ext hx
  have hp := hf.lt
  obtain ⟨_, _, _, _, _, d0, d1, d2, _, _, _, hi⟩ := hl
  have d3 := hi p hp
  clear c0 c1 c2 hi hsl
  cases ok
  · go_wp2_with fail
    go_ret
    exact ⟨p, false, hf, rfl, hx⟩
  · go_wp2_with fail
    go_ret
    exact ⟨p, true, hf, rfl, hx⟩
/-- What Acquire does with a table, and the number that it returns. -/
def AcqSpec (n : Nat) (sl : Nat → Option ByteArray) (ow : Nat → Int) (u : Int) (key : ByteArray) (c code : Int) (sl' : Nat → Option ByteArray) (ow' : Nat → Int) (u' : Int) : Prop :=
  (¬ (0 ≤ c ∧ c < 64) ∧ code = 3 ∧ sl' = sl ∧ ow' = ow ∧ u' = u) ∨
  ((0 ≤ c ∧ c < 64) ∧ ∃ p ok, FindAt n sl key p ok ∧
    ((ok = true ∧ ow p ≠ c ∧ code = 27 ∧ sl' = sl ∧ ow' = ow ∧ u' = u) ∨ (ok = true ∧ ow p = c ∧ code = 0 ∧ sl' = sl ∧ ow' = ow ∧ u' = u) ∨
     (ok = false ∧ (n : Int) - u < 2 ∧ code = 7 ∧ sl' = sl ∧ ow' = ow ∧ u' = u) ∨ (ok = false ∧ ¬ (n : Int) - u < 2 ∧ code = 0 ∧ sl' = upd sl p (some key) ∧ ow' = upd ow p c ∧ u' = u + 1)))
def AcqPost (b g h n : Nat) (sl : Nat → Option ByteArray) (ow : Nat → Int) (u : Int) (key : ByteArray) (c : Int) (w : World) (e : Ending) (w' : World) : Prop :=
  ∃ code sl' ow' u', e = .returned (.int .i64 code) ∧ AcqSpec n sl ow u key c code sl' ow' u' ∧ LocksAt w' b g h n sl' ow' u' ∧ Chg (fun k => k = b ∨ k = g ∨ k = h) w w'
theorem acquire_any (b g h n : Nat) (sl : Nat → Option ByteArray) (ow : Nat → Int) (u : Int) (key : ByteArray) (c : Int) (w : World) (hn : 0 < n) (hm : n ≤ 4096) (hs : key.size ≤ maxLen) (hl : LocksAt w b g h n sl ow u) (hu0 : 0 ≤ u) (hun : u ≤ n) (fu : Nat) (hfu : fu < n) (hfree : sl fu = none) :
    Calls Try.prog 59 #[.pointer (some ⟨b, 0, none⟩), .string key, .int .i64 c] w (AcqPost b g h n sl ow u key c w) := by
  by_cases hc : 0 ≤ c ∧ c < 64
  · have hl' := hl
    obtain ⟨hbg, hbh, hgh, hb, hbf, c0, c1, c2, hsl, hih⟩ := hl'
    have hgf := hsl.2.1
    have hhf := hih.2.1
    have hcb : (decide (0 ≤ c) && decide (c < 64)) = true := by simp [hc.1, hc.2]
    have Hc := Lib.hid hc
    clear hc
    go_enter Try.func59, Try.ntmps59
    go_wp2_with (go_at_call 97; refine (client_any _ _).mono ?_; rintro e w1 ⟨rfl, rfl⟩; rw [hcb])
    refine (find_any _ _ _ _ _ hn hm hs hsl fu hfu hfree).mono ?_
    rintro e w1 ⟨p, ok, rfl, hf, hx⟩
    have hl1 := hl.ext hx
    have hp := hf.lt
    have hl2 := hl1
    obtain ⟨_, _, _, hb1, hbf1, d0, d1, d2, hsl1, hih1⟩ := hl2
    have d3 := hih1.2.2 p hp
    have hgf1 := hsl1.2.1
    have hhf1 := hih1.2.1
    obtain ⟨d4, d5⟩ := hsl1.2.2 p hp
    have Hl := Lib.hid hl1
    have Hx := Lib.hid hx
    clear c0 c1 c2 hsl hih hsl1 hih1 hl hl1 hgf hhf hbf hx
    cases ok
    · by_cases hroom : (n : Int) - u < 2
      · have hrd : decide ((n : Int) - u < 2) = true := by simpa using hroom
        go_wp2_with fail
        go_region
        go_wp2
        go_ret
        exact ⟨7, sl, ow, u, rfl, .inr ⟨Hc.out, p, false, hf, .inr (.inr (.inl ⟨rfl, hroom, rfl, rfl, rfl, rfl⟩))⟩, (by have hl := Hl.out; repeat (first | assumption | apply LocksAt.drew)), (by have hx := Hx.out.chg (fun k => k = b ∨ k = g ∨ k = h); repeat (first | assumption | apply Chg.drew))⟩
      · have hrd : decide ((n : Int) - u < 2) = false := by simpa using hroom
        go_wp2_with fail
        go_region
        go_wp2_with fail
        go_region
        all_goals
          go_wp2_with fail
          go_ret
          refine ⟨0, upd sl p (some key), upd ow p c, u + 1, rfl, .inr ⟨Hc.out, p, false, hf, .inr (.inr (.inr ⟨rfl, by omega, rfl, rfl, rfl, rfl⟩))⟩, ?_, ?_⟩
          · have hl := Hl.out
            repeat (first | assumption | apply LocksAt.drew | (refine LocksAt.setUsed (u := u) ?_ _) | (refine LocksAt.setOwner (ow := ow) ?_ hp _) | (refine LocksAt.setSlot (sl := sl) ?_ hp (some key)))
          · have hx := Hx.out.chg (fun k => k = b ∨ k = g ∨ k = h)
            repeat (first | assumption | apply Chg.drew | (refine Chg.setCell ?_ (.inl (by simp)) _))
    · by_cases ho : ow p = c
      · have ho' : (ow p != c) = false := by simpa using ho
        have Ho := Lib.hid ho
        clear ho
        go_wp2_with fail
        go_ret
        exact ⟨0, sl, ow, u, rfl, .inr ⟨Hc.out, p, true, hf, .inr (.inl ⟨rfl, Ho.out, rfl, rfl, rfl, rfl⟩)⟩, Hl.out, Hx.out.chg _⟩
      · have ho' : (ow p != c) = true := by simpa using ho
        have Ho := Lib.hid ho
        clear ho
        go_wp2_with fail
        go_ret
        exact ⟨27, sl, ow, u, rfl, .inr ⟨Hc.out, p, true, hf, .inl ⟨rfl, Ho.out, rfl, rfl, rfl, rfl⟩⟩, Hl.out, Hx.out.chg _⟩
  · have hcb : (decide (0 ≤ c) && decide (c < 64)) = false := by
      rw [Bool.and_eq_false_iff]; simp only [decide_eq_false_iff_not]; omega
    have Hc := Lib.hid hc
    have Hl := Lib.hid hl
    clear hc hl
    go_enter Try.func59, Try.ntmps59
    go_wp2_with (go_at_call 97; refine (client_any _ _).mono ?_; rintro e w1 ⟨rfl, rfl⟩; rw [hcb])
    go_ret
    exact ⟨3, sl, ow, u, rfl, .inl ⟨Hc.out, rfl, rfl, rfl, rfl⟩, Hl.out, Chg.refl _ _⟩
end Go.Proofs.Ytkhfjedeccjnbaa
