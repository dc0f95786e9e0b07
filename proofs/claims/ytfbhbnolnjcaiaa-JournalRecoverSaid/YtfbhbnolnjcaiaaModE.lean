/-
  Get and Len of the model and of its reference (28.3).
  Conditions: keys within a process's reach.
-/
import Derived.Test.YtfbhbnolnjcaiaaModA
namespace Go.Proofs.Ytfbhbnolnjcaiaa
open Go.RowKit Go.Sort
set_option maxHeartbeats 2000000
set_option maxRecDepth 20000

def kpCells (p : Kp) : List Value := [.string p.1, .int .i64 p.2.st, .int .i64 p.2.ow, .string p.2.nm, .int .i64 p.2.dl]
def kpsCells : List Kp → List Value
  | [] => []
  | p :: l => kpCells p ++ kpsCells l
theorem kpsCells_len : ∀ l : List Kp, (kpsCells l).length = l.length * 5
  | [] => rfl
  | p :: l => by rw [kpsCells, List.length_append, kpsCells_len l]; simp [kpCells]; omega
theorem kpsCells_append : ∀ a b : List Kp, kpsCells (a ++ b) = kpsCells a ++ kpsCells b
  | [], _ => rfl
  | p :: a, b => by simp [kpsCells, kpsCells_append a b]
theorem kpsCells_at : ∀ {l : List Kp} {j : Nat} {p : Kp}, l[j]? = some p → (kpsCells l)[j * 5]? = some (.string p.1) ∧ (kpsCells l)[j * 5 + 1]? = some (.int .i64 p.2.st) ∧ (kpsCells l)[j * 5 + 2]? = some (.int .i64 p.2.ow) ∧ (kpsCells l)[j * 5 + 3]? = some (.string p.2.nm) ∧ (kpsCells l)[j * 5 + 4]? = some (.int .i64 p.2.dl)
  | q :: l, 0, p, h => by
    simp only [List.getElem?_cons_zero, Option.some.injEq] at h
    subst h
    simp [kpsCells, kpCells]
  | q :: l, j + 1, p, h => by
    obtain ⟨h1, h2, h3, h4, h5⟩ := kpsCells_at (l := l) (j := j) (p := p) (by simpa using h)
    have e : ∀ i, (kpsCells (q :: l))[(j + 1) * 5 + i]? = (kpsCells l)[j * 5 + i]? := fun i => by
      rw [kpsCells, List.getElem?_append_right (by simp [kpCells]; omega)]
      congr 1
      simp [kpCells]; omega
    exact ⟨(e 0).trans h1, (e 1).trans h2, (e 2).trans h3, (e 3).trans h4, (e 4).trans h5⟩
theorem kps_one (l : List Kp) : ∀ u ∈ kpsCells l, u.oneCell' = true := by
  induction l with
  | nil => simp [kpsCells]
  | cons p l ih =>
    intro u hu
    rw [kpsCells] at hu
    rcases List.mem_append.1 hu with hu | hu
    · simp [kpCells] at hu
      rcases hu with rfl | rfl | rfl | rfl | rfl <;> rfl
    · exact ih u hu
/-- The value is a slice of records with their keys. -/
def KeptAt (w : World) (S : Nat → Prop) (v : Value) (l : List Kp) : Prop := Rd w S 5 v l.length (kpsCells l)
theorem KeptAt.get {w : World} {S : Nat → Prop} {v : Value} {l : List Kp} (h : KeptAt w S v l) {j : Nat} {p : Kp} (hp : l[j]? = some p) :
    ∃ g o c, v = .slice (some ⟨g, o, none⟩) l.length c ∧ l.length ≤ c ∧ c ≤ maxLen ∧ S g ∧ g < w.heap.size ∧
      w.cell? ⟨g, o + j * 5, none⟩ = some (.string p.1) ∧ w.cell? ⟨g, o + j * 5 + 1, none⟩ = some (.int .i64 p.2.st) ∧ w.cell? ⟨g, o + j * 5 + 2, none⟩ = some (.int .i64 p.2.ow) ∧ w.cell? ⟨g, o + j * 5 + 3, none⟩ = some (.string p.2.nm) ∧ w.cell? ⟨g, o + j * 5 + 4, none⟩ = some (.int .i64 p.2.dl) := by
  obtain ⟨g, o, c, h1, h2, h3, h4, h5, h6⟩ := Rd.at_ h (List.getElem?_eq_some_iff.1 hp).1
  obtain ⟨q1, q2, q3, q4, q5⟩ := kpsCells_at hp
  exact ⟨g, o, c, h1, h2, h3, h4, h5, h6 _ _ q1, h6 _ _ q2, h6 _ _ q3, h6 _ _ q4, h6 _ _ q5⟩
theorem KeptAt.shape {w : World} {S : Nat → Prop} {v : Value} {l : List Kp} (h : KeptAt w S v l) : ∃ A c, v = .slice A l.length c := by
  obtain ⟨_, A, c, h, _⟩ := h
  exact ⟨A, c, h⟩
theorem getK_drop {l : List Kp} {k : Nat} {p : Kp} {key : ByteArray} (h : l[k]? = some p) : getK (l.drop k) key = if p.1 = key then p.2 else getK (l.drop (k + 1)) key := by
  rw [drop_at h, getK]
theorem def_rc : (default : Rc) = ⟨0, 0, ⟨#[]⟩, 0⟩ := rfl
theorem rget_any {S : Nat → Prop} (v : Value) (l : List Kp) (key : ByteArray) (w : World) (hl : KeptAt w S v l) :
    Calls Try.prog 42 #[v, .string key] w fun e w' => e = .returned (rcV (getK l key)) ∧ Ext w w' := by
  obtain ⟨A, c, rfl⟩ := hl.shape
  have hlm := hl.len
  unfold maxLen at hlm
  have Hl := Lib.hid hl
  clear hl
  obtain ⟨rb, hrb⟩ : ∃ rb, w.heap.size = rb := ⟨_, rfl⟩
  have Hrb := Lib.hid hrb
  go_enter Try.func42, Try.ntmps42
  go_wp2_with fail
  clear hrb
  go_loopw [9] (fun o wr => ∃ k : Nat, k ≤ l.length ∧ o = .int .i64 (k : Int) ∧ getK l key = getK (l.drop k) key ∧ Ext w wr ∧ wr.cell? ⟨rb, 0, none⟩ = some (.int .i64 0) ∧ wr.cell? ⟨rb, 1, none⟩ = some (.int .i64 0) ∧ wr.cell? ⟨rb, 2, none⟩ = some (.string ⟨#[]⟩) ∧ wr.cell? ⟨rb, 3, none⟩ = some (.int .i64 0) ∧ (∀ i, wr.frozen? ⟨rb, i, none⟩ = false) ∧ rb < wr.heap.size) (fun o _ => l.length - (intOf o).toNat)
  case atStart => exact ⟨0, by omega, rfl, rfl, (Ext.refl w).alloc _, by rw [← Hrb.out]; go_simp, by rw [← Hrb.out]; go_simp, by rw [← Hrb.out]; go_simp, by rw [← Hrb.out]; go_simp, fun i => by rw [← Hrb.out]; go_simp, by rw [← Hrb.out]; simp⟩
  case round =>
    obtain ⟨k, hk, rfl, hg, hx, y0, y1, y2, y3, yf, yb⟩ := hrel
    have Hg := Lib.hid hg
    have Hx := Lib.hid hx
    clear hg hx
    have Hrw := Lib.hid (show w.heap.size ≤ rb from by rw [Hrb.out]; exact Nat.le_refl _)
    by_cases hlt : k < l.length
    · have hd : decide ((k : Int) < (l.length : Int)) = true := by simpa using hlt
      obtain ⟨p, hpk⟩ : ∃ p, l[k]? = some p := ⟨l[k], by simp [hlt]⟩
      obtain ⟨g, o, c', hv, p1, p2, _, b1, x0, x1, x2, x3, x4⟩ := KeptAt.get (Rd.ext Hl.out Hx.out) hpk
      simp only [Value.slice.injEq, true_and] at hv
      obtain ⟨rfl, rfl⟩ := hv
      have i0 : (0 : Int) ≤ (k : Int) := by omega
      have i1 : (k : Int) < (l.length : Int) := by omega
      have hgd := getK_drop (key := key) hpk
      clear hpk
      by_cases he : p.1 = key
      · rw [if_pos he] at hgd
        subst he
        have Hgd := Lib.hid (Hg.out.trans hgd)
        clear hgd
        go_wp2_with fail
        refine bodyPost_ret (v := rcV (getK l p.1)) ?_ rfl ⟨rfl, ?_⟩
        · rw [Hgd.out]; simp [results, Try.results42, go_sem, rcV, *]
        · refine Ext.alloc ?_ _; (repeat refine ext_setCell ?_ (by exact Hrw.out) _); exact Hx.out
      · rw [if_neg he] at hgd
        have hne : (p.1.toList == key.toList) = false := by rw [ByteArray.toList_eq, ByteArray.toList_eq]; simp only [beq_eq_false_iff_ne]; exact fun e => he (kb_inj e)
        have Hgd := Lib.hid (Hg.out.trans hgd)
        clear hgd he
        go_wp2_with fail
        go_roundw
        case rel =>
          refine ⟨k + 1, by omega, by go_num, Hgd.out, Hx.out.alloc _, ?_, ?_, ?_, ?_, fun i => ?_, by simp; omega⟩ <;> go_simp
        case measure => simp [intOf]; omega
    · have hd : decide ((k : Int) < (l.length : Int)) = false := by simp; omega
      go_wp2_with fail
      refine bodyPost_ret (v := rcV (getK l key)) ?_ rfl ⟨rfl, ?_⟩
      · rw [Hg.out, List.drop_of_length_le (by omega)]; simp [results, Try.results42, go_sem, rcV, getK, def_rc, *]
      · (repeat refine ext_setCell ?_ (by exact Hrw.out) _); exact Hx.out
theorem mget_any (b m : Nat) (cl cap : Int) (l : List Kp) (key : ByteArray) (w : World) (h : ModAt w b m cl cap l) (hk : key.size ≤ maxLen) :
    Calls Try.prog 52 #[.pointer (some ⟨b, 0, none⟩), .string key] w fun e w' => e = .returned (rcV (getK l key)) ∧ Ext w w' := by
  have hlk := (h.map.ext ((Ext.refl w).alloc (.cells #[.int .i64 0, .int .i64 0, .string ⟨#[]⟩, .int .i64 0] 26))).look hk
  have c2 := h.c2
  have hb := h.lt
  unfold rcV at hlk
  go_enter Try.func52, Try.ntmps52
  go_wp2_with fail
  refine bodyPost_ret (v := rcV (getK l key)) ?_ rfl ⟨rfl, ?_⟩
  · simp [results, Try.results52, go_sem, rcV, *]
  · (repeat refine ext_setCell ?_ (Nat.le_refl _) _); exact (Ext.refl w).alloc _
theorem mlen_any (b m : Nat) (cl cap : Int) (l : List Kp) (w : World) (h : ModAt w b m cl cap l) :
    Calls Try.prog 46 #[.pointer (some ⟨b, 0, none⟩)] w fun e w' => e = .returned (.int .i64 (l.length : Int)) ∧ w = w' := by
  have hln := h.map.len
  have c2 := h.c2
  have hb := h.lt
  go_enter Try.func46, Try.ntmps46
  go_wp2_with fail
  go_ret
  exact ⟨rfl, rfl⟩
/-- The reference's model in block b, its list in blocks of S. -/
structure RModAt (w : World) (S : Nat → Prop) (b : Nat) (cl cap : Int) (l : List Kp) : Prop where
  c0 : w.cell? ⟨b, 0, none⟩ = some (.int .i64 cl)
  c1 : w.cell? ⟨b, 1, none⟩ = some (.int .i64 cap)
  c2 : ∃ v, w.cell? ⟨b, 2, none⟩ = some v ∧ KeptAt w S v l
  fz : ∀ i, w.frozen? ⟨b, i, none⟩ = false
  lt : b < w.heap.size
  nS : ¬ S b
theorem RModAt.chg {S T : Nat → Prop} {w w' : World} {b : Nat} {cl cap : Int} {l : List Kp} (h : RModAt w S b cl cap l) (c : Chg T w w') (hb : ¬ T b) (hS : ∀ k, S k → ¬ T k) : RModAt w' S b cl cap l := by
  obtain ⟨v, h1, h2⟩ := h.c2
  exact ⟨(c.cell (p := ⟨b, 0, none⟩) h.lt hb).trans h.c0, (c.cell (p := ⟨b, 1, none⟩) h.lt hb).trans h.c1, ⟨v, (c.cell (p := ⟨b, 2, none⟩) h.lt hb).trans h1, Rd.chg h2 c hS⟩, fun i => (c.frozen (p := ⟨b, i, none⟩) h.lt hb).trans (h.fz i), Nat.lt_of_lt_of_le h.lt c.size, h.nS⟩
theorem RModAt.ext {S : Nat → Prop} {w w' : World} {b : Nat} {cl cap : Int} {l : List Kp} (h : RModAt w S b cl cap l) (x : Ext w w') : RModAt w' S b cl cap l := h.chg (x.chg (fun _ => False)) (fun h => h) (fun _ _ h => h)
theorem rmget_any (S : Nat → Prop) (b : Nat) (cl cap : Int) (l : List Kp) (key : ByteArray) (w : World) (h : RModAt w S b cl cap l) :
    Calls Try.prog 54 #[.pointer (some ⟨b, 0, none⟩), .string key] w fun e w' => e = .returned (rcV (getK l key)) ∧ Ext w w' := by
  obtain ⟨v, c2, hv⟩ := h.c2
  obtain ⟨A, c, rfl⟩ := hv.shape
  have hb := h.lt
  have Hv := Lib.hid (Rd.ext hv ((Ext.refl w).alloc (.cells #[.int .i64 0, .int .i64 0, .string ⟨#[]⟩, .int .i64 0] 26)))
  clear h hv
  go_enter Try.func54, Try.ntmps54
  go_wp2_with fail
  refine (rget_any _ l key _ Hv.out).mono ?_
  rintro e w1 ⟨rfl, hx⟩
  have y0 := (hx.cell (p := ⟨w.heap.size, 0, none⟩) (by simp)).trans (show _ = some (.int .i64 0) by go_simp)
  have y1 := (hx.cell (p := ⟨w.heap.size, 1, none⟩) (by simp)).trans (show _ = some (.int .i64 0) by go_simp)
  have y2 := (hx.cell (p := ⟨w.heap.size, 2, none⟩) (by simp)).trans (show _ = some (.string ⟨#[]⟩) by go_simp)
  have y3 := (hx.cell (p := ⟨w.heap.size, 3, none⟩) (by simp)).trans (show _ = some (.int .i64 0) by go_simp)
  have yf := fun i => (hx.frozen (p := ⟨w.heap.size, i, none⟩) (by simp)).trans (show _ = false by go_simp)
  have Hx := Lib.hid (((Ext.refl w).alloc _).trans hx)
  clear hx
  unfold rcV
  go_wp2_with fail
  refine bodyPost_ret (v := rcV (getK l key)) ?_ rfl ⟨rfl, ?_⟩
  · simp [results, Try.results54, go_sem, rcV, *]
  · (repeat refine ext_setCell ?_ (Nat.le_refl _) _); exact Hx.out
def RNewPost (cl cap : Int) (w : World) (e : Ending) (w' : World) : Prop :=
  (confE cl cap = 3 ∧ e = .returned (.tuple #[.pointer none, .int .i64 3]) ∧ Ext w w') ∨
  (confE cl cap = 0 ∧ ∃ b, e = .returned (.tuple #[.pointer (some ⟨b, 0, none⟩), .int .i64 0]) ∧ RModAt w' (fun _ => False) b cl cap [] ∧ w.heap.size ≤ b ∧ Ext w w')
theorem rnewM_any (cl cap : Int) (w : World) : Calls Try.prog 11 #[.agg #[.int .i64 cl, .int .i64 cap]] w (RNewPost cl cap w) := by
  rcases confE_or cl cap with hc | hc
  · go_enter Try.func11, Try.ntmps11
    go_wp2_with fail
    refine (rcheckC_any cl cap _).mono ?_
    rintro x w1 ⟨rfl, hx1⟩
    rw [hc]
    have Hx1 := Lib.hid (((Ext.refl w).alloc _).trans hx1)
    have Hc := Lib.hid hc
    clear hx1 hc
    go_wp2_with fail
    go_ret2
    exact .inl ⟨Hc.out, rfl, Hx1.out⟩
  · go_enter Try.func11, Try.ntmps11
    go_wp2_with fail
    refine (rcheckC_any cl cap _).mono ?_
    rintro x w1 ⟨rfl, hx1⟩
    rw [hc]
    have k0 : w1.cell? ⟨w.heap.size, 0, none⟩ = some (.int .i64 cl) := (hx1.cell (by simp)).trans (by go_simp)
    have k1 : w1.cell? ⟨w.heap.size, 1, none⟩ = some (.int .i64 cap) := (hx1.cell (by simp)).trans (by go_simp)
    have Hx1 := Lib.hid (((Ext.refl w).alloc _).trans hx1)
    have Hc := Lib.hid hc
    clear hx1 hc
    go_wp2_with fail
    go_ret2
    have hz := Hx1.out.size
    refine .inr ⟨Hc.out, w1.heap.size, rfl, ⟨?_, ?_, ⟨.slice none 0 0, ?_, Rd.nil _ _ _⟩, fun i => ?_, by simp, fun h => h⟩, hz, Hx1.out.alloc _⟩
    · go_simp
    · go_simp
    · go_simp
    · go_simp
end Go.Proofs.Ytfbhbnolnjcaiaa
