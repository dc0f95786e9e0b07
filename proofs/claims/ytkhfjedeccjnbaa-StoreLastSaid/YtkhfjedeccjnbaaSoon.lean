/-
  Rows of records, and what Soonest computes of one, in the program and in its reference (23.4).
  Conditions: none.
-/
import Derived.Test.YtkhfjedeccjnbaaClock2
namespace Go.Proofs.Ytkhfjedeccjnbaa
open Go.RowKit Go.Sort
set_option maxHeartbeats 400000

/-- A record's four fields. -/
structure Rc where
  st : Int
  ow : Int
  nm : ByteArray
  dl : Int
instance : Inhabited Rc := ⟨⟨0, 0, ⟨#[]⟩, 0⟩⟩
def Rc.cells (r : Rc) : List Value := [.int .i64 r.st, .int .i64 r.ow, .string r.nm, .int .i64 r.dl]
/-- The value is a slice whose elements are these records. -/
def Recs (w : World) (v : Value) (rs : List Rc) : Prop :=
  ∃ (a : Option Addr) (cap : Nat), v = .slice a rs.length cap ∧ rs.length ≤ maxLen ∧ ∀ k, k < rs.length → ∃ g, a = some ⟨g, 0, none⟩ ∧ g < w.heap.size ∧
    w.cell? ⟨g, k * 4, none⟩ = some (.int .i64 (rs.getD k default).st) ∧ w.cell? ⟨g, k * 4 + 1, none⟩ = some (.int .i64 (rs.getD k default).ow) ∧
    w.cell? ⟨g, k * 4 + 2, none⟩ = some (.string (rs.getD k default).nm) ∧ w.cell? ⟨g, k * 4 + 3, none⟩ = some (.int .i64 (rs.getD k default).dl)
theorem Recs.ext {w w' : World} {v : Value} {rs : List Rc} (h : Recs w v rs) (x : Ext w w') : Recs w' v rs := by
  obtain ⟨a, cap, h1, h2, h3⟩ := h
  refine ⟨a, cap, h1, h2, fun k hk => ?_⟩
  obtain ⟨g, ha, hg, c0, c1, c2, c3⟩ := h3 k hk
  refine ⟨g, ha, Nat.lt_of_lt_of_le hg x.size, (x.cell hg).trans c0, (x.cell hg).trans c1, (x.cell hg).trans c2, (x.cell hg).trans c3⟩

/-- One record's part in Soonest (23.4). -/
def soonStep (now : Int) (p : Int × Bool) (r : Rc) : Int × Bool := if r.st = 1 ∧ liveB r.st r.dl now = true ∧ (p.2 = false ∨ r.dl < p.1) then (r.dl, true) else p
def soon (now : Int) (rs : List Rc) : Int × Bool := rs.foldl (soonStep now) (0, false)
theorem take_next (rs : List Rc) {k : Nat} (h : k < rs.length) : rs.take (k + 1) = rs.take k ++ [rs.getD k default] := by
  rw [List.take_add_one, List.getD_eq_getElem?_getD, List.getElem?_eq_getElem h]; rfl
theorem soon_next (now : Int) (rs : List Rc) {k : Nat} (h : k < rs.length) : soon now (rs.take (k + 1)) = soonStep now (soon now (rs.take k)) (rs.getD k default) := by
  rw [take_next rs h]; simp [soon]

theorem soonest_any (v : Value) (rs : List Rc) (now : Int) (w : World) (h : Recs w v rs) :
    Calls Try.prog 36 #[v, .int .i64 now] w fun e w' => e = .returned (.tuple #[.int .i64 (soon now rs).1, .bool (soon now rs).2]) ∧ Ext w w' := by
  obtain ⟨a, cap, rfl, hm, hr⟩ := h
  obtain ⟨n, hn⟩ : ∃ n, rs.length = n := ⟨_, rfl⟩
  have Hn := Lib.hid hn
  rw [hn] at hm hr ⊢
  clear hn
  have hm' := hm
  unfold maxLen at hm'
  go_enter Try.func36, Try.ntmps36
  go_wp2_with fail
  go_loopw [6, 7, 12] (fun b f i wr => ∃ k : Nat, k ≤ n ∧ i = .int .i64 (k : Int) ∧ b = .int .i64 (soon now (rs.take k)).1 ∧ f = .bool (soon now (rs.take k)).2 ∧ Ext w wr) (fun _ _ i _ => n - (intOf i).toNat)
  case atStart => exact ⟨0, by omega, rfl, rfl, rfl, Ext.refl _⟩
  case round =>
    obtain ⟨k, hk, rfl, rfl, rfl, hx⟩ := hrel
    by_cases hkn : k < n
    · have hd : decide ((k : Int) < (n : Int)) = true := by simpa using hkn
      obtain ⟨g, rfl, hg, c0, c1, c2, c3⟩ := hr k hkn
      have hc0 := (hx.cell (p := ⟨g, k * 4, none⟩) hg).trans c0
      have hc1 := (hx.cell (p := ⟨g, k * 4 + 1, none⟩) hg).trans c1
      have hc2 := (hx.cell (p := ⟨g, k * 4 + 2, none⟩) hg).trans c2
      have hc3 := (hx.cell (p := ⟨g, k * 4 + 3, none⟩) hg).trans c3
      have H := Lib.hid (soon_next now rs (k := k) (by rw [Hn.out]; exact hkn))
      obtain ⟨⟨least, found⟩, hs⟩ : ∃ p, soon now (rs.take k) = p := ⟨_, rfl⟩
      obtain ⟨⟨st, ow, nm, dl⟩, hre⟩ : ∃ r, rs.getD k default = r := ⟨_, rfl⟩
      rw [hs] at H ⊢
      rw [hre] at H hc0 hc1 hc2 hc3
      simp only at hc0 hc1 hc2 hc3 ⊢
      clear c0 c1 c2 c3 hre hs
      by_cases h1 : st = 1
      · subst h1
        cases hl : liveB 1 dl now
        · have he := Lib.hid (show soonStep now (least, found) ⟨1, ow, nm, dl⟩ = (least, found) by simp [soonStep, hl])
          go_wp2_with (go_at_call 33; refine (live_any _ _ _ _ _ _).mono ?_; rintro e1 w1 ⟨rfl, hy⟩; (have hc := fun i => hy.cell (p := ⟨wr.heap.size, i, none⟩) (by simp)); (have hy := (hx.alloc _).trans hy))
          go_roundw
          case rel => exact ⟨k + 1, by omega, by go_num, by rw [H.out, he.out], by rw [H.out, he.out], (by repeat' (first | exact Ext.refl _ | assumption | apply Ext.alloc | apply Ext.drewN | apply Ext.drew | (refine Ext.trans ?_ (by assumption)) | (refine ext_setCell ?_ (by first | (simp; done) | (simp; omega)) _)))⟩
          case measure => simp [intOf]; omega
        · cases found
          · have he := Lib.hid (show soonStep now (least, false) ⟨1, ow, nm, dl⟩ = (dl, true) by simp [soonStep, hl])
            go_wp2_with (go_at_call 33; refine (live_any _ _ _ _ _ _).mono ?_; rintro e1 w1 ⟨rfl, hy⟩; (have hc := fun i => hy.cell (p := ⟨wr.heap.size, i, none⟩) (by simp)); (have hy := (hx.alloc _).trans hy))
            go_roundw
            case rel => exact ⟨k + 1, by omega, by go_num, by rw [H.out, he.out], by rw [H.out, he.out], (by repeat' (first | exact Ext.refl _ | assumption | apply Ext.alloc | apply Ext.drewN | apply Ext.drew | (refine Ext.trans ?_ (by assumption)) | (refine ext_setCell ?_ (by first | (simp; done) | (simp; omega)) _)))⟩
            case measure => simp [intOf]; omega
          · by_cases hlt : dl < least
            · have he := Lib.hid (show soonStep now (least, true) ⟨1, ow, nm, dl⟩ = (dl, true) by simp [soonStep, hl, hlt])
              go_wp2_with (go_at_call 33; refine (live_any _ _ _ _ _ _).mono ?_; rintro e1 w1 ⟨rfl, hy⟩; (have hc := fun i => hy.cell (p := ⟨wr.heap.size, i, none⟩) (by simp)); (have hy := (hx.alloc _).trans hy))
              go_roundw
              case rel => exact ⟨k + 1, by omega, by go_num, by rw [H.out, he.out], by rw [H.out, he.out], (by repeat' (first | exact Ext.refl _ | assumption | apply Ext.alloc | apply Ext.drewN | apply Ext.drew | (refine Ext.trans ?_ (by assumption)) | (refine ext_setCell ?_ (by first | (simp; done) | (simp; omega)) _)))⟩
              case measure => simp [intOf]; omega
            · have he := Lib.hid (show soonStep now (least, true) ⟨1, ow, nm, dl⟩ = (least, true) by simp [soonStep, hl, hlt])
              go_wp2_with (go_at_call 33; refine (live_any _ _ _ _ _ _).mono ?_; rintro e1 w1 ⟨rfl, hy⟩; (have hc := fun i => hy.cell (p := ⟨wr.heap.size, i, none⟩) (by simp)); (have hy := (hx.alloc _).trans hy))
              go_roundw
              case rel => exact ⟨k + 1, by omega, by go_num, by rw [H.out, he.out], by rw [H.out, he.out], (by repeat' (first | exact Ext.refl _ | assumption | apply Ext.alloc | apply Ext.drewN | apply Ext.drew | (refine Ext.trans ?_ (by assumption)) | (refine ext_setCell ?_ (by first | (simp; done) | (simp; omega)) _)))⟩
              case measure => simp [intOf]; omega
      · have h1' : (st == 1) = false := by simpa using h1
        have he := Lib.hid (show soonStep now (least, found) ⟨st, ow, nm, dl⟩ = (least, found) by simp [soonStep, h1])
        go_wp2_with fail
        go_roundw
        case rel => exact ⟨k + 1, by omega, by go_num, by rw [H.out, he.out], by rw [H.out, he.out], (by repeat' (first | exact Ext.refl _ | assumption | apply Ext.alloc | apply Ext.drewN | apply Ext.drew | (refine Ext.trans ?_ (by assumption)) | (refine ext_setCell ?_ (by first | (simp; done) | (simp; omega)) _)))⟩
        case measure => simp [intOf]; omega
    · have hd : decide ((k : Int) < (n : Int)) = false := by simp; omega
      have hkn' : k = n := by omega
      subst hkn'
      rw [List.take_of_length_le (by rw [Hn.out]; exact Nat.le_refl _)]
      go_wp2_with fail
      go_ret2
      exact ⟨rfl, hx⟩
theorem rsoonest_any (v : Value) (rs : List Rc) (now : Int) (w : World) (h : Recs w v rs) :
    Calls Try.prog 40 #[v, .int .i64 now] w fun e w' => e = .returned (.tuple #[.int .i64 (soon now rs).1, .bool (soon now rs).2]) ∧ Ext w w' := by
  obtain ⟨a, cap, rfl, hm, hr⟩ := h
  obtain ⟨n, hn⟩ : ∃ n, rs.length = n := ⟨_, rfl⟩
  have Hn := Lib.hid hn
  rw [hn] at hm hr ⊢
  clear hn
  have hm' := hm
  unfold maxLen at hm'
  go_enter Try.func40, Try.ntmps40
  go_wp2_with fail
  go_loopw [6, 7, 12] (fun b f i wr => ∃ k : Nat, k ≤ n ∧ i = .int .i64 (k : Int) ∧ b = .int .i64 (soon now (rs.take k)).1 ∧ f = .bool (soon now (rs.take k)).2 ∧ Ext w wr) (fun _ _ i _ => n - (intOf i).toNat)
  case atStart => exact ⟨0, by omega, rfl, rfl, rfl, Ext.refl _⟩
  case round =>
    obtain ⟨k, hk, rfl, rfl, rfl, hx⟩ := hrel
    by_cases hkn : k < n
    · have hd : decide ((k : Int) < (n : Int)) = true := by simpa using hkn
      obtain ⟨g, rfl, hg, c0, c1, c2, c3⟩ := hr k hkn
      have hc0 := (hx.cell (p := ⟨g, k * 4, none⟩) hg).trans c0
      have hc1 := (hx.cell (p := ⟨g, k * 4 + 1, none⟩) hg).trans c1
      have hc2 := (hx.cell (p := ⟨g, k * 4 + 2, none⟩) hg).trans c2
      have hc3 := (hx.cell (p := ⟨g, k * 4 + 3, none⟩) hg).trans c3
      have H := Lib.hid (soon_next now rs (k := k) (by rw [Hn.out]; exact hkn))
      obtain ⟨⟨least, found⟩, hs⟩ : ∃ p, soon now (rs.take k) = p := ⟨_, rfl⟩
      obtain ⟨⟨st, ow, nm, dl⟩, hre⟩ : ∃ r, rs.getD k default = r := ⟨_, rfl⟩
      rw [hs] at H ⊢
      rw [hre] at H hc0 hc1 hc2 hc3
      simp only at hc0 hc1 hc2 hc3 ⊢
      clear c0 c1 c2 c3 hre hs
      by_cases h1 : st = 1
      · subst h1
        cases hl : liveB 1 dl now
        · have he := Lib.hid (show soonStep now (least, found) ⟨1, ow, nm, dl⟩ = (least, found) by simp [soonStep, hl])
          go_wp2_with (go_at_call 37; refine (rlive_any _ _ _ _ _ _).mono ?_; rintro e1 w1 ⟨rfl, hy⟩; (have hc := fun i => hy.cell (p := ⟨wr.heap.size, i, none⟩) (by simp)); (have hy := (hx.alloc _).trans hy))
          go_roundw
          case rel => exact ⟨k + 1, by omega, by go_num, by rw [H.out, he.out], by rw [H.out, he.out], (by repeat' (first | exact Ext.refl _ | assumption | apply Ext.alloc | apply Ext.drewN | apply Ext.drew | (refine Ext.trans ?_ (by assumption)) | (refine ext_setCell ?_ (by first | (simp; done) | (simp; omega)) _)))⟩
          case measure => simp [intOf]; omega
        · cases found
          · have he := Lib.hid (show soonStep now (least, false) ⟨1, ow, nm, dl⟩ = (dl, true) by simp [soonStep, hl])
            go_wp2_with (go_at_call 37; refine (rlive_any _ _ _ _ _ _).mono ?_; rintro e1 w1 ⟨rfl, hy⟩; (have hc := fun i => hy.cell (p := ⟨wr.heap.size, i, none⟩) (by simp)); (have hy := (hx.alloc _).trans hy))
            go_roundw
            case rel => exact ⟨k + 1, by omega, by go_num, by rw [H.out, he.out], by rw [H.out, he.out], (by repeat' (first | exact Ext.refl _ | assumption | apply Ext.alloc | apply Ext.drewN | apply Ext.drew | (refine Ext.trans ?_ (by assumption)) | (refine ext_setCell ?_ (by first | (simp; done) | (simp; omega)) _)))⟩
            case measure => simp [intOf]; omega
          · by_cases hlt : dl < least
            · have he := Lib.hid (show soonStep now (least, true) ⟨1, ow, nm, dl⟩ = (dl, true) by simp [soonStep, hl, hlt])
              go_wp2_with (go_at_call 37; refine (rlive_any _ _ _ _ _ _).mono ?_; rintro e1 w1 ⟨rfl, hy⟩; (have hc := fun i => hy.cell (p := ⟨wr.heap.size, i, none⟩) (by simp)); (have hy := (hx.alloc _).trans hy))
              go_roundw
              case rel => exact ⟨k + 1, by omega, by go_num, by rw [H.out, he.out], by rw [H.out, he.out], (by repeat' (first | exact Ext.refl _ | assumption | apply Ext.alloc | apply Ext.drewN | apply Ext.drew | (refine Ext.trans ?_ (by assumption)) | (refine ext_setCell ?_ (by first | (simp; done) | (simp; omega)) _)))⟩
              case measure => simp [intOf]; omega
            · have he := Lib.hid (show soonStep now (least, true) ⟨1, ow, nm, dl⟩ = (least, true) by simp [soonStep, hl, hlt])
              go_wp2_with (go_at_call 37; refine (rlive_any _ _ _ _ _ _).mono ?_; rintro e1 w1 ⟨rfl, hy⟩; (have hc := fun i => hy.cell (p := ⟨wr.heap.size, i, none⟩) (by simp)); (have hy := (hx.alloc _).trans hy))
              go_roundw
              case rel => exact ⟨k + 1, by omega, by go_num, by rw [H.out, he.out], by rw [H.out, he.out], (by repeat' (first | exact Ext.refl _ | assumption | apply Ext.alloc | apply Ext.drewN | apply Ext.drew | (refine Ext.trans ?_ (by assumption)) | (refine ext_setCell ?_ (by first | (simp; done) | (simp; omega)) _)))⟩
              case measure => simp [intOf]; omega
      · have h1' : (st == 1) = false := by simpa using h1
        have he := Lib.hid (show soonStep now (least, found) ⟨st, ow, nm, dl⟩ = (least, found) by simp [soonStep, h1])
        go_wp2_with fail
        go_roundw
        case rel => exact ⟨k + 1, by omega, by go_num, by rw [H.out, he.out], by rw [H.out, he.out], (by repeat' (first | exact Ext.refl _ | assumption | apply Ext.alloc | apply Ext.drewN | apply Ext.drew | (refine Ext.trans ?_ (by assumption)) | (refine ext_setCell ?_ (by first | (simp; done) | (simp; omega)) _)))⟩
        case measure => simp [intOf]; omega
    · have hd : decide ((k : Int) < (n : Int)) = false := by simp; omega
      have hkn' : k = n := by omega
      subst hkn'
      rw [List.take_of_length_le (by rw [Hn.out]; exact Nat.le_refl _)]
      go_wp2_with fail
      go_ret2
      exact ⟨rfl, hx⟩
end Go.Proofs.Ytkhfjedeccjnbaa
