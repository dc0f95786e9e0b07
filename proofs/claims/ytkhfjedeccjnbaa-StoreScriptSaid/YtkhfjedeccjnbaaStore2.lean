/-
  What Len, full, Get and insert of a store return and do (26.2, 26.3).
  Conditions: keys' lengths are those of Go strings; at least one slot of a table is unused.
-/
import Derived.Test.YtkhfjedeccjnbaaRelS
import Derived.Test.YtkhfjedeccjnbaaStLaw
namespace Go.Proofs.Ytkhfjedeccjnbaa
open Go.RowKit Go.Sort
set_option maxHeartbeats 1000000

def rcV (r : Rc) : Value := .agg #[.int .i64 r.st, .int .i64 r.ow, .string r.nm, .int .i64 r.dl]
theorem slen_any (b g h n : Nat) (sl : Nat → Option ByteArray) (f : Nat → Rc) (u : Int) (w : World) (hl : StoreAt w b g h n sl f u) :
    Calls Try.prog 72 #[.pointer (some ⟨b, 0, none⟩)] w fun e w' => e = .returned (.int .i64 u) ∧ w = w' := by
  obtain ⟨_, _, _, hb, _, c0, c1, c2, _⟩ := hl
  go_enter Try.func72, Try.ntmps72
  go_wp2
  go_ret
  exact ⟨rfl, rfl⟩
theorem sfull_any (b g h n : Nat) (sl : Nat → Option ByteArray) (f : Nat → Rc) (u : Int) (w : World) (hn : n ≤ 4096) (hu0 : 0 ≤ u) (hun : u ≤ n) (hl : StoreAt w b g h n sl f u) :
    Calls Try.prog 102 #[.pointer (some ⟨b, 0, none⟩)] w fun e w' => e = .returned (.bool (decide (3 * (n : Int) ≤ 4 * u))) ∧ Ext w w' := by
  obtain ⟨_, _, _, hb, _, c0, c1, c2, _⟩ := hl
  go_enter Try.func102, Try.ntmps102
  go_wp2
  go_region
  all_goals
    go_wp2
    go_ret
    exact ⟨rfl, (Ext.refl _).drew⟩
def SGetPost (n : Nat) (sl : Nat → Option ByteArray) (f : Nat → Rc) (key : ByteArray) (w : World) (e : Ending) (w' : World) : Prop :=
  ∃ (p : Nat) (ok : Bool), FindAt n sl key p ok ∧ e = .returned (rcV (if ok then f p else rc0)) ∧ Ext w w'
theorem sget_any (b g h n : Nat) (sl : Nat → Option ByteArray) (f : Nat → Rc) (u : Int) (key : ByteArray) (w : World) (hn : 0 < n) (hm : n ≤ 4096) (hs : key.size ≤ maxLen) (hl : StoreAt w b g h n sl f u) (fu : Nat) (hfu : fu < n) (hfree : sl fu = none) :
    Calls Try.prog 70 #[.pointer (some ⟨b, 0, none⟩), .string key] w (SGetPost n sl f key w) := by
  have hx0 : ∀ o, Ext w (w.alloc o) := fun o => (Ext.refl w).alloc o
  have hl0 := hl.ext (hx0 (.cells #[.int .i64 0, .int .i64 0, .string ⟨#[]⟩, .int .i64 0] 30))
  have Hl0 := Lib.hid hl0
  obtain ⟨_, _, _, hb, _, c0, c1, c2, hsl, _⟩ := hl0
  clear hl
  go_enter Try.func70, Try.ntmps70
  go_wp2_with fail
  refine (find_any _ _ _ _ _ hn hm hs hsl fu hfu hfree).mono ?_
  rintro e w1 ⟨p, ok, rfl, hf, hx⟩
  have hx1 := (hx0 (.cells #[.int .i64 0, .int .i64 0, .string ⟨#[]⟩, .int .i64 0] 30)).trans hx
  have hl := Hl0.out.ext hx
  have hp := hf.lt
  obtain ⟨_, _, _, _, _, d0, d1, d2, _, _, _, hi⟩ := hl
  obtain ⟨d3, d4, d5, d6⟩ := hi p hp
  have r0 : w1.cell? ⟨w.heap.size, 0, none⟩ = some (.int .i64 0) := (hx.cell (by simp)).trans (by go_simp)
  have r1 : w1.cell? ⟨w.heap.size, 1, none⟩ = some (.int .i64 0) := (hx.cell (by simp)).trans (by go_simp)
  have r2 : w1.cell? ⟨w.heap.size, 2, none⟩ = some (.string ⟨#[]⟩) := (hx.cell (by simp)).trans (by go_simp)
  have r3 : w1.cell? ⟨w.heap.size, 3, none⟩ = some (.int .i64 0) := (hx.cell (by simp)).trans (by go_simp)
  have rf : ∀ i, w1.frozen? ⟨w.heap.size, i, none⟩ = false := fun i => (hx.frozen (by simp)).trans (by go_simp)
  clear c0 c1 c2 hi hsl hx
  cases ok
  · go_wp2_with fail
    exact bodyPost_ret (v := rcV rc0) (by simp [results, Try.results70, go_sem, rcV, rc0, *]) rfl ⟨p, false, hf, rfl, by (repeat refine ext_setCell ?_ (Nat.le_refl _) _); exact hx1⟩
  · go_wp2_with fail
    exact bodyPost_ret (v := rcV (f p)) (by simp [results, Try.results70, go_sem, rcV, *]) rfl ⟨p, true, hf, rfl, by (repeat refine ext_setCell ?_ (Nat.le_refl _) _); exact hx1⟩
theorem StoreAt.setKey {w : World} {b g h n : Nat} {sl : Nat → Option ByteArray} {f : Nat → Rc} {u : Int} (k : StoreAt w b g h n sl f u) {p : Nat} (hp : p < n) (key : ByteArray) :
    StoreAt ((w.setCell ⟨g, p * 2, none⟩ (.bool true)).setCell ⟨g, p * 2 + 1, none⟩ (.string key)) b g h n (upd sl p (some key)) f u := k.setSlot hp (some key)
theorem StoreAt.setRc {w : World} {b g h n : Nat} {sl : Nat → Option ByteArray} {f : Nat → Rc} {u : Int} (k : StoreAt w b g h n sl f u) {p : Nat} (hp : p < n) (st ow dl : Int) (nm : ByteArray) :
    StoreAt ((((w.setCell ⟨h, p * 4, none⟩ (.int .i64 st)).setCell ⟨h, p * 4 + 1, none⟩ (.int .i64 ow)).setCell ⟨h, p * 4 + 2, none⟩ (.string nm)).setCell ⟨h, p * 4 + 3, none⟩ (.int .i64 dl)) b g h n sl (upd f p ⟨st, ow, nm, dl⟩) u := k.setRec hp ⟨st, ow, nm, dl⟩
/-- After insert: the key stands where Find stopped. -/
def SInsPost (b g h n : Nat) (sl : Nat → Option ByteArray) (f : Nat → Rc) (u : Int) (key : ByteArray) (r : Rc) (w : World) (e : Ending) (w' : World) : Prop :=
  e = .returned (.tuple #[]) ∧ ∃ (p : Nat) (ok : Bool), FindAt n sl key p ok ∧ StoreAt w' b g h n (upd sl p (some key)) (upd f p r) (u + 1) ∧ Chg (fun k => k = b ∨ k = g ∨ k = h) w w'
theorem sins_any (b g h n : Nat) (sl : Nat → Option ByteArray) (f : Nat → Rc) (u : Int) (key : ByteArray) (r : Rc) (w : World) (hn : 0 < n) (hm : n ≤ 4096) (hs : key.size ≤ maxLen) (hl : StoreAt w b g h n sl f u) (hu0 : 0 ≤ u) (hun : u ≤ n) (fu : Nat) (hfu : fu < n) (hfree : sl fu = none) :
    Calls Try.prog 104 #[.pointer (some ⟨b, 0, none⟩), .string key, rcV r] w (SInsPost b g h n sl f u key r w) := by
  obtain ⟨st, ow, nm, dl⟩ := r
  show Calls Try.prog 104 #[.pointer (some ⟨b, 0, none⟩), .string key, .agg #[.int .i64 st, .int .i64 ow, .string nm, .int .i64 dl]] w _
  have hx0 : ∀ o, Ext w (w.alloc o) := fun o => (Ext.refl w).alloc o
  have hl0 := hl.ext (hx0 (.cells #[.int .i64 st, .int .i64 ow, .string nm, .int .i64 dl] 30))
  have Hl0 := Lib.hid hl0
  have hgl : g < w.heap.size := hl.2.2.2.2.2.2.2.2.1.1
  have hhl : h < w.heap.size := hl.2.2.2.2.2.2.2.2.2.1
  obtain ⟨hbg, hbh, hgh, hb, _, c0, c1, c2, hsl, _⟩ := hl0
  clear hl
  go_enter Try.func104, Try.ntmps104
  go_wp2_with fail
  refine (find_any _ _ _ _ _ hn hm hs hsl fu hfu hfree).mono ?_
  rintro e w1 ⟨p, ok, rfl, hf, hx⟩
  have hx1 := (hx0 (.cells #[.int .i64 st, .int .i64 ow, .string nm, .int .i64 dl] 30)).trans hx
  have hl := Hl0.out.ext hx
  have hp := hf.lt
  have Hl := Lib.hid hl
  have Hx1 := Lib.hid hx1
  obtain ⟨_, _, _, hb1, hbf1, d0, d1, d2, hsl1, hh1, hhf1, hi⟩ := hl
  obtain ⟨d3, d4, d5, d6⟩ := hi p hp
  have hgf1 := hsl1.2.1
  obtain ⟨d7, d8⟩ := hsl1.2.2 p hp
  have r0 : w1.cell? ⟨w.heap.size, 0, none⟩ = some (.int .i64 st) := (hx.cell (by simp)).trans (by go_simp)
  have r1 : w1.cell? ⟨w.heap.size, 1, none⟩ = some (.int .i64 ow) := (hx.cell (by simp)).trans (by go_simp)
  have r2 : w1.cell? ⟨w.heap.size, 2, none⟩ = some (.string nm) := (hx.cell (by simp)).trans (by go_simp)
  have r3 : w1.cell? ⟨w.heap.size, 3, none⟩ = some (.int .i64 dl) := (hx.cell (by simp)).trans (by go_simp)
  clear c0 c1 c2 hi hsl hx hsl1 hx1
  go_wp2_with fail
  go_region
  all_goals
    go_wp2_with fail
    go_end0
    refine ⟨rfl, p, ok, hf, ?_, ?_⟩
    · have hl := Hl.out
      repeat (first | (with_reducible exact hl) | (with_reducible apply StoreAt.drew) | (with_reducible refine StoreAt.setUsed (u := u) ?_ _) | (with_reducible refine StoreAt.setRc (f := f) ?_ hp st ow dl nm) | (with_reducible refine StoreAt.setKey (sl := sl) ?_ hp key))
    · have hx := Hx1.out.chg (fun k => k = b ∨ k = g ∨ k = h)
      repeat (first | (with_reducible exact hx) | (with_reducible apply Chg.drew) | (with_reducible refine Chg.setCell ?_ (.inl (by simp)) _))
end Go.Proofs.Ytkhfjedeccjnbaa
