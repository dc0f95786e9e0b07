/-
  The reference's list of records (28): put and keys.
  Conditions: few records.
-/
import Derived.Test.YtfbhbnolnjcaiaaModE
import Derived.Test.YtfbhbnolnjcaiaaModF
namespace Go.Proofs.Ytfbhbnolnjcaiaa
open Go.RowKit Go.Sort
set_option maxHeartbeats 4000000
set_option maxRecDepth 100000

theorem info_kept : (Try.prog.info? 133).map (fun i => (i.zero, i.size, i.bytes)) = some (some (.agg #[.string ⟨#[]⟩, .int .i64 0, .int .i64 0, .string ⟨#[]⟩, .int .i64 0]), 5, 56) := by kernel_rfl
theorem und_kepts : Try.prog.underlying 84 = some (.slice 133) := by kernel_rfl

theorem putGo_skip {key : ByteArray} {r : Rc} {d : Bool} {p : Kp} {l : List Kp} (h : p.1 = key) : putGo key r d (p :: l) = putGo key r d l := by rw [putGo, if_pos h]
theorem putGo_in {key : ByteArray} {r : Rc} {p : Kp} {l : List Kp} (h : p.1 ≠ key) (hl : kb key < kb p.1) : putGo key r false (p :: l) = (key, r) :: p :: putGo key r true l := by rw [putGo, if_neg h, if_pos ⟨rfl, hl⟩]
theorem putGo_keep {key : ByteArray} {r : Rc} {d : Bool} {p : Kp} {l : List Kp} (h : p.1 ≠ key) (hl : ¬ (d = false ∧ kb key < kb p.1)) : putGo key r d (p :: l) = p :: putGo key r d l := by rw [putGo, if_neg h, if_neg hl]
theorem kpsCells_snoc (l : List Kp) (p : Kp) : kpsCells (l ++ [p]) = kpsCells l ++ kpCells p := by rw [kpsCells_append]; simp [kpsCells]
theorem kp_one (p : Kp) : ∀ u ∈ kpCells p, u.oneCell' = true := by
  intro u hu
  simp [kpCells] at hu
  rcases hu with rfl | rfl | rfl | rfl | rfl <;> rfl
theorem own_low {w : World} {base base' : Nat} {e : TypeId} {size : Nat} {v : Value} {n : Nat} {xs : List Value} (h : w.ownsRow base e size v n xs) (hb : base' ≤ base) : w.ownsRow base' e size v n xs := by
  refine ⟨h.1, ?_⟩
  rcases h.2 with h2 | ⟨g, cap, cur, h1, h2, h3⟩
  · exact .inl h2
  · exact .inr ⟨g, cap, cur, h1, Nat.le_trans hb h2, h3⟩
/-- A list of the call's own that is the old one with a record put; nothing that was there has changed. -/
def RPutKPost (l : List Kp) (w : World) (e : Ending) (w' : World) : Prop := ∃ v, e = .returned v ∧ w'.ownsRow w.heap.size 133 5 v l.length (kpsCells l) ∧ Ext w w'

theorem rputK_any {S : Nat → Prop} (v : Value) (l : List Kp) (key : ByteArray) (r : Rc) (w : World) (hl : KeptAt w S v l) (hll : l.length ≤ 100000) :
    Calls Try.prog 44 #[v, .string key, rcV r] w (RPutKPost (putK l key r) w) := by
  obtain ⟨A, c, rfl⟩ := hl.shape
  obtain ⟨i0, hi, hz0, hz1, hz2⟩ := info_parts info_kept
  obtain ⟨st, ow, nm, dl⟩ := r
  unfold rcV
  have Hl := Lib.hid hl
  clear hl
  go_enter Try.func44, Try.ntmps44
  go_wp2_with fail
  have Hx0 := Lib.hid ((Ext.refl w).alloc (.cells #[.int .i64 st, .int .i64 ow, .string nm, .int .i64 dl] 26))
  have q0 : (w.alloc (.cells #[.int .i64 st, .int .i64 ow, .string nm, .int .i64 dl] 26)).cell? ⟨w.heap.size, 0, none⟩ = some (.int .i64 st) := by go_simp
  have q1 : (w.alloc (.cells #[.int .i64 st, .int .i64 ow, .string nm, .int .i64 dl] 26)).cell? ⟨w.heap.size, 1, none⟩ = some (.int .i64 ow) := by go_simp
  have q2 : (w.alloc (.cells #[.int .i64 st, .int .i64 ow, .string nm, .int .i64 dl] 26)).cell? ⟨w.heap.size, 2, none⟩ = some (.string nm) := by go_simp
  have q3 : (w.alloc (.cells #[.int .i64 st, .int .i64 ow, .string nm, .int .i64 dl] 26)).cell? ⟨w.heap.size, 3, none⟩ = some (.int .i64 dl) := by go_simp
  have ql : w.heap.size < (w.alloc (.cells #[.int .i64 st, .int .i64 ow, .string nm, .int .i64 dl] 26)).heap.size := by simp
  obtain ⟨W0, hW0⟩ : ∃ W, w.alloc (.cells #[.int .i64 st, .int .i64 ow, .string nm, .int .i64 dl] 26) = W := ⟨_, rfl⟩
  rw [hW0] at Hx0 q0 q1 q2 q3 ql
  rw [hW0]
  have hlow : w.heap.size ≤ W0.heap.size := by omega
  clear hW0
  go_loopw [16, 8, 7] (fun o d v wr => ∃ (k : Nat) (db : Bool) (out : List Kp), k ≤ l.length ∧ o = .int .i64 (k : Int) ∧ d = .bool db ∧ wr.ownsRow W0.heap.size 133 5 v out.length (kpsCells out) ∧ out ++ putGo key ⟨st, ow, nm, dl⟩ db (l.drop k) = putK l key ⟨st, ow, nm, dl⟩ ∧ out.length ≤ 2 * k ∧ Ext W0 wr) (fun o _ _ _ => l.length - (intOf o).toNat)
  case atStart => exact ⟨0, st == 0, [], by omega, rfl, rfl, World.ownsRow_nil _ _ _ _, rfl, by simp, Ext.refl _⟩
  case round =>
    obtain ⟨k, db, out, hk, rfl, rfl, hown, hinv, hol, hx⟩ := hrel
    obtain ⟨la, lc, rfl⟩ := own_shape hown
    have Hx := Lib.hid hx
    have Hown := Lib.hid hown
    replace q0 := (hx.cell (p := ⟨w.heap.size, 0, none⟩) ql).trans q0
    replace q1 := (hx.cell (p := ⟨w.heap.size, 1, none⟩) ql).trans q1
    replace q2 := (hx.cell (p := ⟨w.heap.size, 2, none⟩) ql).trans q2
    replace q3 := (hx.cell (p := ⟨w.heap.size, 3, none⟩) ql).trans q3
    replace ql := Nat.lt_of_lt_of_le ql hx.size
    clear hx hown
    by_cases hlt : k < l.length
    · have hd : decide ((k : Int) < (l.length : Int)) = true := by simpa using hlt
      obtain ⟨p, hpk⟩ : ∃ p, l[k]? = some p := ⟨l[k], by simp [hlt]⟩
      obtain ⟨g, o, c', hv, p1, p2, _, b1, x0, x1, x2, x3, x4⟩ := KeptAt.get (Rd.ext Hl.out (Hx0.out.trans Hx.out)) hpk
      simp only [Value.slice.injEq, true_and] at hv
      obtain ⟨rfl, rfl⟩ := hv
      have j0 : (0 : Int) ≤ (k : Int) := by omega
      have j1 : (k : Int) < (l.length : Int) := by omega
      rw [drop_at hpk] at hinv
      have Hinv := Lib.hid hinv
      clear hpk hinv
      by_cases he : p.1 = key
      · have hinv := Hinv.out
        rw [putGo_skip he] at hinv
        subst he
        replace Hinv := Lib.hid hinv
        clear hinv q0 q1 q2 q3
        go_wp2_with fail
        go_roundw
        case rel => exact ⟨k + 1, db, out, by omega, by go_num, rfl, (own_ext Hown.out ((Ext.refl _).alloc _)), Hinv.out, by omega, Hx.out.alloc _⟩
        case measure => simp [intOf]; omega
      · have hne : (p.1.toList == key.toList) = false := by rw [ByteArray.toList_eq, ByteArray.toList_eq]; simp only [beq_eq_false_iff_ne]; exact fun e => he (kb_inj e)
        have He := Lib.hid he
        clear he
        go_upto_region 7 with fail
        have z0 : (wr.alloc (.cells #[.string p.1, .int .i64 p.2.st, .int .i64 p.2.ow, .string p.2.nm, .int .i64 p.2.dl] 133)).cell? ⟨wr.heap.size, 0, none⟩ = some (.string p.1) := by go_simp
        have z1 : (wr.alloc (.cells #[.string p.1, .int .i64 p.2.st, .int .i64 p.2.ow, .string p.2.nm, .int .i64 p.2.dl] 133)).cell? ⟨wr.heap.size, 1, none⟩ = some (.int .i64 p.2.st) := by go_simp
        have z2 : (wr.alloc (.cells #[.string p.1, .int .i64 p.2.st, .int .i64 p.2.ow, .string p.2.nm, .int .i64 p.2.dl] 133)).cell? ⟨wr.heap.size, 2, none⟩ = some (.int .i64 p.2.ow) := by go_simp
        have z3 : (wr.alloc (.cells #[.string p.1, .int .i64 p.2.st, .int .i64 p.2.ow, .string p.2.nm, .int .i64 p.2.dl] 133)).cell? ⟨wr.heap.size, 3, none⟩ = some (.string p.2.nm) := by go_simp
        have z4 : (wr.alloc (.cells #[.string p.1, .int .i64 p.2.st, .int .i64 p.2.ow, .string p.2.nm, .int .i64 p.2.dl] 133)).cell? ⟨wr.heap.size, 4, none⟩ = some (.int .i64 p.2.dl) := by go_simp
        have hxW : Ext wr (wr.alloc (.cells #[.string p.1, .int .i64 p.2.st, .int .i64 p.2.ow, .string p.2.nm, .int .i64 p.2.dl] 133)) := (Ext.refl wr).alloc _
        have zl : wr.heap.size < (wr.alloc (.cells #[.string p.1, .int .i64 p.2.st, .int .i64 p.2.ow, .string p.2.nm, .int .i64 p.2.dl] 133)).heap.size := by simp
        obtain ⟨bb, hbb⟩ : ∃ c, wr.heap.size = c := ⟨_, rfl⟩
        obtain ⟨W1, hW1⟩ : ∃ W, wr.alloc (.cells #[.string p.1, .int .i64 p.2.st, .int .i64 p.2.ow, .string p.2.nm, .int .i64 p.2.dl] 133) = W := ⟨_, rfl⟩
        rw [hW1] at z0 z1 z2 z3 z4 hxW zl
        rw [hW1]
        rw [hbb] at z0 z1 z2 z3 z4 zl
        rw [hbb]
        replace q0 := (hxW.cell (p := ⟨w.heap.size, 0, none⟩) ql).trans q0
        replace q1 := (hxW.cell (p := ⟨w.heap.size, 1, none⟩) ql).trans q1
        replace q2 := (hxW.cell (p := ⟨w.heap.size, 2, none⟩) ql).trans q2
        replace q3 := (hxW.cell (p := ⟨w.heap.size, 3, none⟩) ql).trans q3
        have Hown1 := Lib.hid (own_ext Hown.out hxW)
        have Hx1 := Lib.hid (Hx.out.trans hxW)
        have hw1 : W0.heap.size ≤ W1.heap.size := by have := (Hx.out.trans hxW).size; exact this
        have hnb : ¬ (Value.slice la out.length lc).ownBlock = some bb := fun e => by have := (Hown.out.lt bb e).2; omega
        clear hW1 hbb hxW x0 x1 x2 x3 x4 Hx Hown b1
        go_cut [31] from 17 to 42 (fun x wx => (∃ bo : Bool, x = .bool bo ∧ (bo = true ↔ db = false ∧ kb key < kb p.1)) ∧ wx = W1)
        case first =>
          clear q0 q1 q2 q3 z1 z2 z3 z4
          cases db with
          | true =>
            go_wp2_with fail
            go_meet
            exact ⟨⟨_, rfl, by simp⟩, rfl⟩
          | false =>
            by_cases hin : kb key < kb p.1
            · obtain ⟨g1, _⟩ := less_of (x := p.1) (s := key) hin
              go_wp2_with fail
              go_meet
              exact ⟨⟨_, rfl, by simpa using hin⟩, rfl⟩
            · have g1 : Op.bytesLess p.1.toList key.toList = true := by
                have := less_not (x := p.1) (s := key) hin
                rw [hne, Bool.or_false] at this
                exact this
              go_wp2_with fail
              go_meet
              exact ⟨⟨_, rfl, by simpa using hin⟩, rfl⟩
        case rest =>
        obtain ⟨⟨bo, rfl, hbo⟩, rfl⟩ := hcut
        have Hbo := Lib.hid hbo
        clear hbo
        go_upto_if 31 with fail
        go_cut [8, 7] from 17 to 42 (fun d v wx => ∃ (db2 : Bool) (out2 : List Kp), d = .bool db2 ∧ wx.ownsRow W0.heap.size 133 5 v out2.length (kpsCells out2) ∧ out2 ++ p :: putGo key ⟨st, ow, nm, dl⟩ db2 (l.drop (k + 1)) = putK l key ⟨st, ow, nm, dl⟩ ∧ out2.length ≤ 2 * k + 1 ∧ Chg (fun i => (Value.slice la out.length lc).ownBlock = some i) wc wx ∧ Ext W0 wx)
        case first =>
          cases bo with
          | true =>
            obtain ⟨hdb, hin⟩ := Hbo.out.1 rfl
            have hinv := Hinv.out
            rw [hdb, putGo_in He.out hin] at hinv
            have hrl := rd_litM wc #[.string key, .int .i64 st, .int .i64 ow, .string nm, .int .i64 dl] 133 5 (by rfl)
            have hbz : W0.heap.size ≤ (wc.alloc (.cells #[.string key, .int .i64 st, .int .i64 ow, .string nm, .int .i64 dl] 133)).heap.size := by simp; omega
            replace Hinv := Lib.hid hinv
            clear hinv hin hdb z0 z1 z2 z3 z4
            go_wp2_with (at_builtin; refine wpList_append_rd _ rfl _ _ 84 rfl W0.heap.size 133 i0 _ 5 56 und_kepts hi hz0 hz1 hz2 rfl (by decide) _ out.length _ rfl (Hown1.out.alloc _) (fun _ => True) _ 1 _ rfl hrl (by simp [Value.oneCell']) (by unfold maxLen; omega) (by omega) hbz ?_; intro v' w6 ha; obtain ⟨a3, c3', hv3⟩ := own_shape ha.own; subst hv3)
            go_meet
            refine ⟨true, out ++ [(key, ⟨st, ow, nm, dl⟩)], rfl, ?_, by rw [← Hinv.out]; simp, by simp; omega, ((Chg.refl _ wc).alloc _).grown ha.grown fun k hk => .inl hk, (Hx1.out.alloc _).grown ha.grown fun k hk => (Hown1.out.lt k hk).1⟩
            rw [kpsCells_snoc, List.length_append]
            exact ha.own
          | false =>
            have hinv := Hinv.out
            rw [putGo_keep He.out fun h => by have := Hbo.out.2 h; simp at this] at hinv
            replace Hinv := Lib.hid hinv
            clear hinv z0 z1 z2 z3 z4
            go_wp2_with fail
            go_meet
            exact ⟨db, out, rfl, Hown1.out, Hinv.out, by omega, Chg.refl _ _, Hx1.out⟩
        case rest =>
        obtain ⟨db2, out2, rfl, hown2, hinv2, hol2, hc2, hx2⟩ := hcut
        obtain ⟨la2, lc2, rfl⟩ := own_shape hown2
        replace z0 := (hc2.cell (p := ⟨bb, 0, none⟩) zl hnb).trans z0
        replace z1 := (hc2.cell (p := ⟨bb, 1, none⟩) zl hnb).trans z1
        replace z2 := (hc2.cell (p := ⟨bb, 2, none⟩) zl hnb).trans z2
        replace z3 := (hc2.cell (p := ⟨bb, 3, none⟩) zl hnb).trans z3
        replace z4 := (hc2.cell (p := ⟨bb, 4, none⟩) zl hnb).trans z4
        have hrl := rd_litM wc #[.string p.1, .int .i64 p.2.st, .int .i64 p.2.ow, .string p.2.nm, .int .i64 p.2.dl] 133 5 (by rfl)
        have hbz : W0.heap.size ≤ (wc.alloc (.cells #[.string p.1, .int .i64 p.2.st, .int .i64 p.2.ow, .string p.2.nm, .int .i64 p.2.dl] 133)).heap.size := by have := hx2.size; simp; omega
        have Hx2 := Lib.hid hx2
        have Hown2 := Lib.hid hown2
        have Hinv2 := Lib.hid hinv2
        clear hx2 hc2 hown2 hinv2 q0 q1 q2 q3 Hinv Hown1 Hx1
        go_wp2_with (at_builtin; refine wpList_append_rd _ rfl _ _ 84 rfl W0.heap.size 133 i0 _ 5 56 und_kepts hi hz0 hz1 hz2 rfl (by decide) _ out2.length _ rfl (Hown2.out.alloc _) (fun _ => True) _ 1 _ rfl hrl (by simp [Value.oneCell']) (by unfold maxLen; omega) (by omega) hbz ?_; intro v' w6 ha; obtain ⟨a3, c3', hv3⟩ := own_shape ha.own; subst hv3)
        have hend : w6.ownsRow W0.heap.size 133 5 (.slice a3 (out2.length + 1) c3') (out2 ++ [p]).length (kpsCells (out2 ++ [p])) := by
          rw [kpsCells_snoc, List.length_append]
          exact ha.own
        have hx6 := (Hx2.out.alloc (.cells #[.string p.1, .int .i64 p.2.st, .int .i64 p.2.ow, .string p.2.nm, .int .i64 p.2.dl] 133)).grown ha.grown fun k hk => (Hown2.out.lt k hk).1
        have Hend := Lib.hid hend
        have Hx6 := Lib.hid hx6
        clear ha hend hx6 hrl hbz
        go_roundw
        case rel => exact ⟨k + 1, db2, out2 ++ [p], by omega, by go_num, rfl, Hend.out, by rw [← Hinv2.out]; simp, by simp; omega, Hx6.out⟩
        case measure => simp [intOf]; omega
    · have hd : decide ((k : Int) < (l.length : Int)) = false := by simp; omega
      rw [List.drop_of_length_le (by omega)] at hinv
      cases db with
      | true =>
        have hout : out = putK l key ⟨st, ow, nm, dl⟩ := by rw [← hinv]; simp [putGo]
        subst hout
        clear q0 q1 q2 q3 hinv
        go_wp2_with fail
        go_ret
        exact ⟨_, rfl, own_low Hown.out hlow, Hx0.out.trans Hx.out⟩
      | false =>
        have hinv2 : out ++ [(key, (⟨st, ow, nm, dl⟩ : Rc))] = putK l key ⟨st, ow, nm, dl⟩ := by rw [← hinv]; simp [putGo]
        have hrl := rd_litM wr #[.string key, .int .i64 st, .int .i64 ow, .string nm, .int .i64 dl] 133 5 (by rfl)
        have hbz : W0.heap.size ≤ (wr.alloc (.cells #[.string key, .int .i64 st, .int .i64 ow, .string nm, .int .i64 dl] 133)).heap.size := by have := Hx.out.size; simp; omega
        clear hinv
        go_wp2_with (at_builtin; refine wpList_append_rd _ rfl _ _ 84 rfl W0.heap.size 133 i0 _ 5 56 und_kepts hi hz0 hz1 hz2 rfl (by decide) _ out.length _ rfl (Hown.out.alloc _) (fun _ => True) _ 1 _ rfl hrl (by simp [Value.oneCell']) (by unfold maxLen; omega) (by omega) hbz ?_; intro v' w6 ha; obtain ⟨a3, c3', hv3⟩ := own_shape ha.own; subst hv3)
        go_ret
        refine ⟨_, rfl, ?_, ?_⟩
        · rw [← hinv2, kpsCells_snoc, List.length_append]
          exact own_low ha.own hlow
        · exact Hx0.out.trans ((Hx.out.alloc _).grown ha.grown fun k hk => (Hown.out.lt k hk).1)
end Go.Proofs.Ytfbhbnolnjcaiaa
