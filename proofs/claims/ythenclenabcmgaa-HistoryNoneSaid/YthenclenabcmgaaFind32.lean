/-
  history.Search (32.5).
  Conditions: as named.
-/
import Derived.Test.YthenclenabcmgaaFindF
import Derived.Test.YthenclenabcmgaaHChk2
import Derived.Test.YthenclenabcmgaaRepl
namespace Go.Proofs.Ythenclenabcmgaa
open Go.RowKit Go.Sort
set_option maxHeartbeats 8000000
set_option maxRecDepth 100000

theorem info_bool : (Try.prog.info? 4).map (fun i => (i.zero, i.size, i.bytes)) = some (some (.bool false), 1, 1) := by kernel_rfl
theorem und_bools : Try.prog.underlying 48 = some (.slice 4) := by kernel_rfl
def boolRow (n : Nat) : Array Value := madeCells #[.bool false] n
theorem boolRow_at (n : Nat) {i : Nat} (h : i < n) : (boolRow n)[i]? = some (.bool false) := by
  unfold boolRow madeCells
  rw [Array.getElem?_eq_getElem (by simp; omega)]
  simp [Nat.mod_one]
theorem make_bools (n : Nat) (hn : n ≤ 4096) (w : World) : (Instr.makeSlice 48 (.int .i64 (n : Int)) (.int .i64 (n : Int))).run Try.prog w = .ok (.slice (some ⟨w.heap.size, 0, none⟩) n n) (w.alloc (.cells (boolRow n) 4)) := by
  obtain ⟨i0, hi, hz0, hz1, hz2⟩ := info_parts info_bool
  have h := run_make w 48 4 i0 _ und_bools hi hz0 .i64 .i64 n n (by omega) (by omega) (by rw [hz2]; omega) (by omega)
  simp only [Int.toNat_natCast, hz1, Nat.mul_one] at h
  exact h
theorem srch_new (w2 : World) (cl cp budget : Int) (A : Option Addr) (n C : Nat) (t1 t2 : TypeId) (hb : 1 ≤ budget) (W : World) (hW : ((w2.alloc (.cells (boolRow n) t1)).alloc (.cells #[.int .i64 cl, .int .i64 cp, .slice A n C, .int .i64 budget, .bool false, .slice (some ⟨w2.heap.size, 0, none⟩) n n, .slice none 0 0] t2)).drew = W) :
    SrchAt W (w2.heap.size + 1) w2.heap.size n (w2.heap.size + 2) cl cp (.slice A n C) n budget.toNat false (.slice none 0 0) [] := by
  have hbb : W.heap[w2.heap.size]? = some (.cells (boolRow n) t1) := by
    rw [← hW]
    show ((w2.alloc (.cells (boolRow n) t1)).alloc _).heap[w2.heap.size]? = _
    rw [Below.heap_alloc _ _ _ (by simp)]
    exact heap_alloc_new w2 _
  have hz : W.heap.size = w2.heap.size + 2 := by rw [← hW]; simp [World.drew]
  have hbn : ((budget.toNat : Nat) : Int) = budget := by omega
  refine ⟨by subst hW; go_simp, by subst hW; go_simp, by subst hW; go_simp, by rw [hbn]; subst hW; go_simp, by subst hW; go_simp, by subst hW; go_simp, by subst hW; go_simp, by subst hW; go_simp, by subst hW; go_simp, by subst hW; go_simp, ⟨by omega, fun j hj => ?_⟩, fun j hj => by simp [World.frozen?, hbb], World.ownsRow_nil _ _ _ _, by omega, by omega, by omega, by omega⟩
  simp only [World.cell?, hbb]
  rw [boolRow_at n hj]
  rfl
def SrchPost (os : List Opn) (cl cp budget : Int) (w : World) (e : Ending) (w' : World) : Prop :=
  ∃ v, e = .returned (.tuple #[v, .int .i64 (searchL cl cp os budget).2.1, .int .i64 (searchL cl cp os budget).2.2]) ∧ NatsAt w' (fun k => w.heap.size ≤ k) v (searchL cl cp os budget).1 ∧ Ext w w'
theorem nats_nil (w : World) (S : Nat → Prop) : NatsAt w S (.slice none 0 0) [] := Rd.of_own (World.ownsRow_nil w 0 0 1) (fun k hk => by simp [Value.ownBlock] at hk)
theorem search_any {S : Nat → Prop} (cl cp budget : Int) (v : Value) (os : List Opn) (w : World) (ho : OpsAt w S v os) (hf : ∀ o ∈ os, o.fits) (hk : KeyOk os) :
    Calls Try.prog 6 #[.agg #[.int .i64 cl, .int .i64 cp], v, .int .i64 budget] w (SrchPost os cl cp budget w) := by
  obtain ⟨A, C, rfl⟩ := ho.shape
  have x0 : Ext w (w.alloc (.cells #[.int .i64 cl, .int .i64 cp] 37)) := (Ext.refl w).alloc _
  have HC := Lib.hid (chk_any cl cp _ os _ (ho.ext x0) hf)
  have X0 := Lib.hid x0
  have Ho := Lib.hid (ho.mono (T := fun k => k < w.heap.size) fun k _ hk => hk)
  have f0 : (w.alloc (.cells #[.int .i64 cl, .int .i64 cp] 37)).cell? ⟨w.heap.size, 0, none⟩ = some (.int .i64 cl) := by go_simp
  have f1 : (w.alloc (.cells #[.int .i64 cl, .int .i64 cp] 37)).cell? ⟨w.heap.size, 1, none⟩ = some (.int .i64 cp) := by go_simp
  have fl : w.heap.size < (w.alloc (.cells #[.int .i64 cl, .int .i64 cp] 37)).heap.size := by simp
  obtain ⟨n, hnn⟩ : ∃ n, os.length = n := ⟨_, rfl⟩
  have Hnn := Lib.hid hnn
  have Hf := Lib.hid hf
  have Hk := Lib.hid hk
  have Fl := Lib.hid fl
  have F0 := Lib.hid f0
  have F1 := Lib.hid f1
  rw [hnn] at HC ⊢
  clear ho hf x0 hk fl f0 f1 hnn
  go_enter Try.func6, Try.ntmps6
  go_wp2_with fail
  refine Calls.mono HC.out ?_
  rintro e w1 ⟨rfl, hx⟩
  have Hx := Lib.hid (X0.out.trans hx)
  have f0 := (hx.cell (p := ⟨w.heap.size, 0, none⟩) Fl.out).trans F0.out
  have f1 := (hx.cell (p := ⟨w.heap.size, 1, none⟩) Fl.out).trans F1.out
  have fl := Nat.lt_of_lt_of_le Fl.out hx.size
  obtain ⟨ch, hch⟩ : ∃ c, (checkL cl cp os).2 = c := ⟨_, rfl⟩
  rw [hch]
  by_cases hc0 : ch = 0
  · have hcq : (ch == 0) = true := by simpa using hc0
    subst hc0
    obtain ⟨hcf, hlen⟩ := checkL_ok hch
    rw [Hnn.out] at hlen
    have Hch := Lib.hid hch
    clear hx hch HC F0 F1 Fl
    go_wp2_with fail
    refine (containsO_any _ os _ (by have := Ho.out.ext Hx.out; rwa [Hnn.out] at this) (by rw [Hnn.out]; omega)).mono ?_
    rintro e w2 ⟨rfl, hx2⟩
    have Hx2 := Lib.hid (Hx.out.trans hx2)
    have f0 := (hx2.cell (p := ⟨w.heap.size, 0, none⟩) fl).trans f0
    have f1 := (hx2.cell (p := ⟨w.heap.size, 1, none⟩) fl).trans f1
    have fl := Nat.lt_of_lt_of_le fl hx2.size
    clear hx2 Hx
    obtain ⟨an, han⟩ : ∃ a, (os.any fun o => o.ans == -1) = a := ⟨_, rfl⟩
    rw [han]
    cases an with
    | true =>
      have HR := Lib.hid (show searchL cl cp os budget = ([], 0, 26) by unfold searchL; rw [if_neg (by rw [Hch.out]; simp), if_pos han])
      clear han
      go_wp2_with fail
      go_ret3
      unfold SrchPost
      rw [HR.out]
      exact ⟨_, rfl, nats_nil _ _, Hx2.out⟩
    | false =>
      have Han := Lib.hid han
      clear han
      by_cases hb1 : budget < 1
      · have d1 : decide (budget < 1) = true := by simpa using hb1
        have HR := Lib.hid (show searchL cl cp os budget = ([], 0, 3) by unfold searchL; rw [if_neg (by rw [Hch.out]; simp), if_neg (by rw [Han.out]; simp), if_pos (.inl hb1)])
        go_wp2_with fail
        go_ret3
        unfold SrchPost
        rw [HR.out]
        exact ⟨_, rfl, nats_nil _ _, Hx2.out⟩
      · have d1 : decide (budget < 1) = false := by simpa using hb1
        by_cases hb2 : 1048576 < budget
        · have d2 : decide (1048576 < budget) = true := by simpa using hb2
          have HR := Lib.hid (show searchL cl cp os budget = ([], 0, 3) by unfold searchL; rw [if_neg (by rw [Hch.out]; simp), if_neg (by rw [Han.out]; simp), if_pos (.inr hb2)])
          go_wp2_with fail
          go_ret3
          unfold SrchPost
          rw [HR.out]
          exact ⟨_, rfl, nats_nil _ _, Hx2.out⟩
        · have d2 : decide (1048576 < budget) = false := by simpa using hb2
          have HR : Hid (searchL cl cp os budget = if (extL cl cp os os.length budget.toNat []).broken then ([], 0, 28) else if (extL cl cp os os.length budget.toNat []).found then ((extL cl cp os os.length budget.toNat []).ord, budget - (extL cl cp os os.length budget.toNat []).left, 0) else ([], budget - (extL cl cp os os.length budget.toNat []).left, 23)) := Lib.hid (by unfold searchL; rw [if_neg (by rw [Hch.out]; simp), if_neg (by rw [Han.out]; simp), if_neg (by omega)])
          go_upto_region 8 with fail
          have hmk := make_bools n hlen
          go_region
          obtain ⟨w3, hw3⟩ : ∃ W, ((w2.alloc (.cells (boolRow n) 4)).alloc (.cells #[.int .i64 cl, .int .i64 cp, .slice A n C, .int .i64 budget, .bool false, .slice (some ⟨w2.heap.size, 0, none⟩) n n, .slice none 0 0] 50)).drew = W := ⟨_, rfl⟩
          have hx3 : Ext w2 w3 := by rw [← hw3]; exact (((Ext.refl w2).alloc _).alloc _).drew
          have hs := srch_new w2 cl cp budget A n C _ _ hb1 w3 hw3
          rw [hw3]
          have hz3 : w2.heap.size + 2 ≤ w3.heap.size := hs.bw
          have ho3 : OpsAt w3 (fun k => k < w2.heap.size + 2 ∧ k ≠ w2.heap.size + 1 ∧ k ≠ w2.heap.size) (.slice A os.length C) os := ((Ho.out.ext Hx2.out).ext hx3).mono (fun k hk _ => by have := Hx2.out.size; omega)
          have HE := Lib.hid (extend_any (w2.heap.size + 1) w2.heap.size n (w2.heap.size + 2) cl cp (.slice A os.length C) os hcf Hk.out (by rw [Hnn.out]; exact hlen) (by rw [Hnn.out]; exact Nat.le_refl _) (by unfold maxLen; omega) os.length budget.toNat [] _ w3 (by simp) (by omega) (by simp) (by rw [Hnn.out]; exact hs) ho3)
          have Hx3 := Lib.hid (Hx2.out.trans hx3)
          have Hzz := Lib.hid Hx2.out.size
          clear hs hw3 hx3 ho3 hz3 hmk f0 f1 fl
          go_wp2_with fail
          refine Calls.mono HE.out ?_
          rintro x w4 ⟨rfl, ⟨vl, hs4⟩, hc4⟩
          obtain ⟨r, hr⟩ : ∃ r, extL cl cp os os.length budget.toNat [] = r := ⟨_, rfl⟩
          have HR := HR.out
          rw [hr] at hs4 HR ⊢
          rw [Hnn.out] at hs4
          have HR := Lib.hid HR
          have hx4 : Ext w w4 := Hx3.out.chg_new hc4 fun k hk => by have := Hzz.out; rcases hk with h | h | h <;> omega
          have hnat : NatsAt w4 (fun k => w.heap.size ≤ k) vl r.ord := Rd.of_own hs4.row (fun k hk => by have := Hzz.out; have := (hs4.row.lt k hk).1; omega)
          obtain ⟨a4, k4, hv4⟩ := own_shape hs4.row
          subst hv4
          have c3 := hs4.c3
          have c4 := hs4.c4
          have c6 := hs4.c6
          have Hx4 := Lib.hid hx4
          have Hnat := Lib.hid hnat
          have Hz4 := Lib.hid hs4.lt
          have hle := (extL_rest (cl := cl) (cp := cp) (os := os) os.length budget.toNat []).1
          rw [hr] at hle
          have hwr : IntKind.i64.wrap (budget - (r.left : Int)) = budget - (r.left : Int) := IntWalk.i64_in _ (by omega)
          clear hs4 hc4 hx4 hnat hr HE Hx3
          cases hbk : r.broken with
          | true =>
            rw [hbk] at c4
            have HR := Lib.hid (show searchL cl cp os budget = ([], 0, 28) by rw [HR.out, hbk, if_pos rfl])
            go_wp2_with fail
            go_ret3
            unfold SrchPost
            rw [HR.out]
            exact ⟨_, rfl, nats_nil _ _, Hx4.out⟩
          | false =>
            rw [hbk] at c4
            cases hfd : r.found with
            | true =>
              have HR := Lib.hid (show searchL cl cp os budget = (r.ord, budget - r.left, 0) by rw [HR.out, hbk, hfd]; rfl)
              go_wp2_with fail
              go_region
              go_wp2_with fail
              go_ret3
              unfold SrchPost
              rw [HR.out]
              exact ⟨_, by first | rfl | (rw [hwr]; rfl), Hnat.out.ext (Ext.refl _).drew, Hx4.out.drew⟩
            | false =>
              have HR := Lib.hid (show searchL cl cp os budget = ([], budget - r.left, 23) by rw [HR.out, hbk, hfd]; rfl)
              go_wp2_with fail
              go_region
              go_wp2_with fail
              go_ret3
              unfold SrchPost
              rw [HR.out]
              exact ⟨_, by first | rfl | (rw [hwr]; rfl), nats_nil _ _, Hx4.out.drew⟩
  · have hcq : (ch == 0) = false := by simpa using hc0
    have HR := Lib.hid (show searchL cl cp os budget = ([], 0, ch) by unfold searchL; rw [hch, if_pos hc0])
    clear hx hch HC F0 F1 Fl
    go_wp2_with fail
    go_ret3
    unfold SrchPost
    rw [HR.out]
    exact ⟨_, rfl, nats_nil _ _, Hx.out⟩
end Go.Proofs.Ythenclenabcmgaa
