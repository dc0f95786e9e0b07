/-
  Same of names and SameEntries of two slices that read as the same list return true.
  Conditions: none.
-/
import Derived.Test.YtfbhbnolnjcaiaaRead
namespace Go.Proofs.Ytfbhbnolnjcaiaa
open Go.RowKit Go.Sort
set_option maxHeartbeats 4000000
set_option maxRecDepth 20000

theorem same_names (va vb : Value) (l : List Nm) (S T : Nat → Prop) (w : World) (ha : NmsAt w S va l) (hb : NmsAt w T vb l) :
    Calls Try.prog 87 #[va, vb] w fun e w' => e = .returned (.bool true) ∧ Ext w w' := by
  obtain ⟨A, ca, rfl⟩ := ha.shape
  obtain ⟨B, cb, rfl⟩ := hb.shape
  have hlm := ha.len
  unfold maxLen at hlm
  have Ha := Lib.hid ha
  have Hb := Lib.hid hb
  clear ha hb
  go_enter Try.func87, Try.ntmps87
  go_wp2_with fail
  go_loopw [13] (fun o wr => ∃ i : Nat, i ≤ l.length ∧ o = .int .i64 (i : Int) ∧ Ext w wr) (fun o _ => l.length - (intOf o).toNat)
  case atStart => exact ⟨0, by omega, rfl, Ext.refl _⟩
  case round =>
    obtain ⟨i, hi, rfl, hx⟩ := hrel
    have Hx := Lib.hid hx
    clear hx
    by_cases hin : i < l.length
    · have hd : decide ((i : Int) < (l.length : Int)) = true := by simpa using hin
      obtain ⟨g, o, c', hv, p1, p2, _, _, hcell⟩ := (Ha.out.ext Hx.out).get (j := i) hin
      obtain ⟨g', o', c'', hv', p3, p4, _, _, hcell'⟩ := (Hb.out.ext Hx.out).get (j := i) hin
      simp only [Value.slice.injEq, true_and] at hv hv'
      obtain ⟨rfl, rfl⟩ := hv
      obtain ⟨rfl, rfl⟩ := hv'
      obtain ⟨a, hae⟩ : ∃ a, l[i]? = some a := ⟨l[i], by simp [hin]⟩
      obtain ⟨x1, x2, x3⟩ := hcell _ _ hae
      obtain ⟨y1, y2, y3⟩ := hcell' _ _ hae
      have i0 : (0 : Int) ≤ (i : Int) := by omega
      have i1 : (i : Int) < (l.length : Int) := by omega
      unfold maxLen at p2 p4
      clear hcell hcell' hae
      go_wp2_with fail
      go_quiet (fail)
      go_wp2_with fail
      go_roundw
      case rel => exact ⟨i + 1, by omega, by go_num, Hx.out.drewN _⟩
      case measure => simp [intOf]; omega
    · have hd : decide ((i : Int) < (l.length : Int)) = false := by simp; omega
      go_wp2_with fail
      go_ret
      exact ⟨rfl, Hx.out⟩
theorem EntsAt.get {w : World} {S : Nat → Prop} {v : Value} {l : List (Ent × Value)} (h : EntsAt w S v l) {j : Nat} (hj : j < l.length) :
    ∃ g o c, v = .slice (some ⟨g, o, none⟩) l.length c ∧ l.length ≤ c ∧ c ≤ maxLen ∧ S g ∧ g < w.heap.size ∧ ∀ p, l[j]? = some p →
      w.cell? ⟨g, o + j * 5, none⟩ = some (.int .i64 p.1.cl) ∧ w.cell? ⟨g, o + j * 5 + 1, none⟩ = some (.int .i64 p.1.op) ∧ w.cell? ⟨g, o + j * 5 + 2, none⟩ = some (.int .i64 p.1.ttl) ∧ w.cell? ⟨g, o + j * 5 + 3, none⟩ = some (.int .i64 p.1.tick) ∧ w.cell? ⟨g, o + j * 5 + 4, none⟩ = some p.2 ∧ NmsAt w S p.2 p.1.names := by
  obtain ⟨g, o, c, hv, h1, h2, h3, h4, hc⟩ := h.1.at_ hj
  refine ⟨g, o, c, hv, h1, h2, h3, h4, fun p hp => ?_⟩
  have q0 := hc (j * 5) (.int .i64 p.1.cl) (by have := entsCells_at hp 0 (by omega); simpa [entCells] using this)
  have q1 := hc (j * 5 + 1) (.int .i64 p.1.op) (by have := entsCells_at hp 1 (by omega); simpa [entCells] using this)
  have q2 := hc (j * 5 + 2) (.int .i64 p.1.ttl) (by have := entsCells_at hp 2 (by omega); simpa [entCells] using this)
  have q3 := hc (j * 5 + 3) (.int .i64 p.1.tick) (by have := entsCells_at hp 3 (by omega); simpa [entCells] using this)
  have q4 := hc (j * 5 + 4) p.2 (by have := entsCells_at hp 4 (by omega); simpa [entCells] using this)
  rw [← Nat.add_assoc] at q1 q2 q3 q4
  exact ⟨q0, q1, q2, q3, q4, h.2 p (List.mem_of_getElem? hp)⟩
theorem EntsAt.shape {w : World} {S : Nat → Prop} {v : Value} {l : List (Ent × Value)} (h : EntsAt w S v l) : ∃ A c, v = .slice A l.length c := by
  obtain ⟨_, A, c, hv, _⟩ := h.1
  exact ⟨A, c, hv⟩
theorem same_ents (va vb : Value) (l l' : List (Ent × Value)) (he : l.map Prod.fst = l'.map Prod.fst) (S T : Nat → Prop) (w : World) (ha : EntsAt w S va l) (hb : EntsAt w T vb l') :
    Calls Try.prog 56 #[va, vb] w fun e w' => e = .returned (.bool true) ∧ Ext w w' := by
  obtain ⟨A, ca, rfl⟩ := ha.shape
  obtain ⟨B, cb, rfl⟩ := hb.shape
  have hlm := ha.1.len
  unfold maxLen at hlm
  have hll : l'.length = l.length := by have := congrArg List.length he; simpa using this.symm
  have Ha := Lib.hid ha
  have Hb := Lib.hid hb
  have He := Lib.hid he
  have Hll := Lib.hid hll
  clear ha hb he
  rw [hll]
  clear hll
  go_enter Try.func56, Try.ntmps56
  go_wp2_with fail
  go_loopw [15] (fun o wr => ∃ i : Nat, i ≤ l.length ∧ o = .int .i64 (i : Int) ∧ Ext w wr) (fun o _ => l.length - (intOf o).toNat)
  case atStart => exact ⟨0, by omega, rfl, Ext.refl _⟩
  case round =>
    obtain ⟨i, hi, rfl, hx⟩ := hrel
    have Hx := Lib.hid hx
    clear hx
    by_cases hin : i < l.length
    · have hd : decide ((i : Int) < (l.length : Int)) = true := by simpa using hin
      obtain ⟨g, o, c', hv, p1, p2, _, b1, hcell⟩ := (Ha.out.ext Hx.out).get (j := i) hin
      obtain ⟨g', o', c'', hv', p3, p4, _, b2, hcell'⟩ := (Hb.out.ext Hx.out).get (j := i) (by rw [Hll.out]; exact hin)
      rw [Hll.out] at hv' p3
      simp only [Value.slice.injEq, true_and] at hv hv'
      obtain ⟨rfl, rfl⟩ := hv
      obtain ⟨rfl, rfl⟩ := hv'
      obtain ⟨a, hae⟩ : ∃ a, l[i]? = some a := ⟨l[i], by simp [hin]⟩
      obtain ⟨a', hae'⟩ : ∃ a, l'[i]? = some a := ⟨l'[i]'(by rw [Hll.out]; exact hin), by simp⟩
      obtain ⟨x1, x2, x3, x4, x5, xn⟩ := hcell _ hae
      obtain ⟨y1, y2, y3, y4, y5, yn⟩ := hcell' _ hae'
      have hee : a'.1 = a.1 := by
        have h1 := congrArg (fun z => z[i]?) He.out
        simp only [List.getElem?_map, hae, hae', Option.map_some, Option.some.injEq] at h1
        exact h1.symm
      obtain ⟨e1, u1⟩ := a
      obtain ⟨e2, u2⟩ := a'
      simp only at hee x1 x2 x3 x4 x5 xn y1 y2 y3 y4 y5 yn
      subst hee
      obtain ⟨A2, c2, rfl⟩ := xn.shape
      obtain ⟨B2, c3, rfl⟩ := yn.shape
      have Xn := Lib.hid xn
      have Yn := Lib.hid yn
      have i0 : (0 : Int) ≤ (i : Int) := by omega
      have i1 : (i : Int) < (l.length : Int) := by omega
      unfold maxLen at p2 p4
      clear hcell hcell' hae hae' xn yn
      go_wp2_with fail
      go_region
      all_goals
        go_wp2_with fail
        refine (same_names _ _ _ _ _ _ (Xn.out.ext (by first | exact (((Ext.refl _).alloc _).alloc _).drew | exact (((Ext.refl _).drew).alloc _).alloc _)) (Yn.out.ext (by first | exact (((Ext.refl _).alloc _).alloc _).drew | exact (((Ext.refl _).drew).alloc _).alloc _))).mono ?_
        rintro e w5 ⟨rfl, hx5⟩
        have Hx5 := Lib.hid (Ext.trans (Ext.trans Hx.out (by first | exact (((Ext.refl _).alloc _).alloc _).drew | exact (((Ext.refl _).drew).alloc _).alloc _)) hx5)
        clear hx5
        go_wp2_with fail
        go_roundw
        case rel => exact ⟨i + 1, by omega, by go_num, Hx5.out⟩
        case measure => simp [intOf]; omega
    · have hd : decide ((i : Int) < (l.length : Int)) = false := by simp; omega
      go_wp2_with fail
      go_ret
      exact ⟨rfl, Hx.out⟩
end Go.Proofs.Ytfbhbnolnjcaiaa
