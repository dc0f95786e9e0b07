/-
  ModelNew (28.1): New of the program and of the reference return the same error; and keep.Conf.
  Conditions: none.
-/
import Derived.Test.YtjefpeppkphgbaaAwake28
import Derived.Test.YtjefpeppkphgbaaKeepEnts
namespace Go.Proofs.Ytjefpeppkphgbaa
open Go.RowKit Go.Sort
set_option maxHeartbeats 4000000
set_option maxRecDepth 100000

def ConfPost (w : World) (e : Ending) (w' : World) : Prop := ∃ cl cp : Int, 1 ≤ cl ∧ cl ≤ 4 ∧ 1 ≤ cp ∧ cp ≤ 6 ∧ e = .returned (.agg #[.int .i64 cl, .int .i64 cp]) ∧ Ext w w'
theorem conf_any (a : Option Addr) (len cap : Nat) (w : World) (hrow : RowIn w a len) : Calls Try.prog 33 #[.slice a len cap] w (ConfPost w) := by
  obtain ⟨A, hA⟩ : ∃ A, w.heap.size = A := ⟨_, rfl⟩
  have hx0 : Ext w (w.alloc (.cells #[.int .i64 0, .int .i64 0] 48)) := (Ext.refl w).alloc _
  have hsrc := src_of_rowIn (cap := cap) hrow hx0
  have c0 : ((w.alloc (.cells #[.int .i64 0, .int .i64 0] 48)).alloc (.cells #[.slice a len cap, .int .i64 0] 135)).cell? ⟨w.heap.size, 0, none⟩ = some (.int .i64 0) := by go_simp
  have c1 : ((w.alloc (.cells #[.int .i64 0, .int .i64 0] 48)).alloc (.cells #[.slice a len cap, .int .i64 0] 135)).cell? ⟨w.heap.size, 1, none⟩ = some (.int .i64 0) := by go_simp
  have cf : ∀ i, ((w.alloc (.cells #[.int .i64 0, .int .i64 0] 48)).alloc (.cells #[.slice a len cap, .int .i64 0] 135)).frozen? ⟨w.heap.size, i, none⟩ = false := fun i => by go_simp
  have hs : ((w.alloc (.cells #[.int .i64 0, .int .i64 0] 48)).alloc (.cells #[.slice a len cap, .int .i64 0] 135)).heap.size = w.heap.size + 2 := by simp
  have e1 : (w.alloc (.cells #[.int .i64 0, .int .i64 0] 48)).heap.size = w.heap.size + 1 := by simp
  rw [e1] at hsrc
  have hx : Ext w ((w.alloc (.cells #[.int .i64 0, .int .i64 0] 48)).alloc (.cells #[.slice a len cap, .int .i64 0] 135)) := hx0.alloc _
  have Hs := Lib.hid (And.intro hsrc (And.intro c0 (And.intro c1 (And.intro cf (And.intro hs hx)))))
  clear hsrc c0 c1 cf hs e1 hx hx0 hrow
  go_enter Try.func33, Try.ntmps33
  go_wp2_with fail
  refine (from_any _ _ _ _).mono ?_
  rintro e w0 ⟨rfl, rfl⟩
  obtain ⟨hsrc, c0, c1, cf, hs, hx⟩ := Hs.out
  rw [hA] at c0 c1 cf hs hsrc
  have Hx := Lib.hid hx
  have Hsrc := Lib.hid hsrc
  have HA := Lib.hid hA
  obtain ⟨W, hW⟩ : ∃ W, (w.alloc (.cells #[.int .i64 0, .int .i64 0] 48)).alloc (.cells #[.slice a len cap, .int .i64 0] 135) = W := ⟨_, rfl⟩
  rw [hW] at c0 c1 cf hs Hx Hsrc
  clear hx hsrc Hs
  go_wp2_with fail
  refine (next_any _ _ (by omega) (by omega) _ _ Hsrc.out).mono ?_
  rintro e w2 ⟨x, hx, rfl, hsrc2, hc2, hz2⟩
  have c0 := (hc2.cell (p := ⟨A, 0, none⟩) (by simp only; omega) (by simp only; omega)).trans c0
  have c1 := (hc2.cell (p := ⟨A, 1, none⟩) (by simp only; omega) (by simp only; omega)).trans c1
  have cf := fun i => (hc2.frozen (p := ⟨A, i, none⟩) (by simp only; omega) (by simp only; omega)).trans (cf i)
  have Hx2 := Lib.hid (Hx.out.chg_new hc2 fun i hi => by have := HA.out; omega)
  have Hsrc2 := Lib.hid hsrc2
  have hz : A + 2 ≤ w2.heap.size := by omega
  have p0 : (0 : Int) ≤ (x : Int) := by omega
  clear hsrc2 hc2 hz2 Hsrc Hx hW hs hA
  go_wp2_with fail
  refine (next_any _ _ (by omega) (by omega) _ _ Hsrc2.out).mono ?_
  rintro e w3 ⟨y, hy, rfl, hsrc3, hc3, hz3⟩
  have c0 := (hc3.cell (p := ⟨A, 0, none⟩) (by simp only; omega) (by simp only; omega)).trans c0
  have c1 := (hc3.cell (p := ⟨A, 1, none⟩) (by simp only; omega) (by simp only; omega)).trans c1
  have cf := fun i => (hc3.frozen (p := ⟨A, i, none⟩) (by simp only; omega) (by simp only; omega)).trans (cf i)
  have Hx3 := Lib.hid (Hx2.out.chg_new hc3 fun i hi => by have := HA.out; omega)
  have p1 : (0 : Int) ≤ (y : Int) := by omega
  have hz : A + 2 ≤ w3.heap.size := by omega
  clear hsrc3 hc3 hz3 Hsrc2 Hx2
  go_wp2_with fail
  refine bodyPost_ret (v := .agg #[.int .i64 (1 + (x : Int)), .int .i64 (1 + (y : Int))]) (by simp [results, Try.results33, go_sem, *]) rfl ⟨1 + (x : Int), 1 + (y : Int), by omega, by omega, by omega, by omega, rfl, ?_⟩
  (repeat refine ext_setCell ?_ (by have := HA.out; simp only; omega) _)
  exact Hx3.out
theorem mnew_bad {cl cap : Int} (hc : confE cl cap = 3) (w : World) : Calls Try.prog 30 #[.agg #[.int .i64 cl, .int .i64 cap]] w fun e w' => e = .returned (.tuple #[.pointer none, .int .i64 3]) ∧ Ext w w' :=
  (mnew_any cl cap w).mono fun e w' h => by
    rcases h with ⟨_, h1, h2⟩ | ⟨h0, _⟩
    · exact ⟨h1, h2⟩
    · rw [hc] at h0; simp at h0
theorem mnew_good {cl cap : Int} (hc : confE cl cap = 0) (w : World) : Calls Try.prog 30 #[.agg #[.int .i64 cl, .int .i64 cap]] w fun e w' => ∃ b m, e = .returned (.tuple #[.pointer (some ⟨b, 0, none⟩), .int .i64 0]) ∧ ModAt w' b m cl cap [] ∧ w.heap.size ≤ b ∧ w.heap.size ≤ m ∧ Ext w w' :=
  (mnew_any cl cap w).mono fun e w' h => by
    rcases h with ⟨h0, _⟩ | ⟨_, h1⟩
    · rw [hc] at h0; simp at h0
    · exact h1
theorem rnewM_bad {cl cap : Int} (hc : confE cl cap = 3) (w : World) : Calls Try.prog 31 #[.agg #[.int .i64 cl, .int .i64 cap]] w fun e w' => e = .returned (.tuple #[.pointer none, .int .i64 3]) ∧ Ext w w' :=
  (rnewM_any cl cap w).mono fun e w' h => by
    rcases h with ⟨_, h1, h2⟩ | ⟨h0, _⟩
    · exact ⟨h1, h2⟩
    · rw [hc] at h0; simp at h0
theorem rnewM_good {cl cap : Int} (hc : confE cl cap = 0) (w : World) : Calls Try.prog 31 #[.agg #[.int .i64 cl, .int .i64 cap]] w fun e w' => ∃ b, e = .returned (.tuple #[.pointer (some ⟨b, 0, none⟩), .int .i64 0]) ∧ RModAt w' (fun _ => False) b cl cap [] ∧ w.heap.size ≤ b ∧ Ext w w' :=
  (rnewM_any cl cap w).mono fun e w' h => by
    rcases h with ⟨h0, _⟩ | ⟨_, h1⟩
    · rw [hc] at h0; simp at h0
    · exact h1
theorem confE_ok {cl cap : Int} (h1 : 1 ≤ cl) (h2 : cl ≤ 4) (h3 : 1 ≤ cap) (h4 : cap ≤ 6) : confE cl cap = 0 := by unfold confE; rw [if_neg (by omega)]
namespace modelNew
theorem walk (c1 c2 a b : Int) (w : World) (_ : I64 c1) (_ : I64 c2) (_ : I64 a) (_ : I64 b) :
    Calls Try.prog 8 #[.agg #[.int .i64 c1, .int .i64 c2], .int .i64 a, .int .i64 b] w fun e w' => e = .returned (.bool true) ∧ Below w.heap.size w w' := by
  obtain ⟨p, hp⟩ : ∃ p, pickI a 70 = p := ⟨_, rfl⟩
  obtain ⟨q, hq⟩ : ∃ p, pickI b 70 = p := ⟨_, rfl⟩
  have hpb := pickI_bd a 70 (by omega)
  have hqb := pickI_bd b 70 (by omega)
  rw [hp] at hpb
  rw [hq] at hqb
  obtain ⟨p0, p1⟩ := hpb
  obtain ⟨q0, q1⟩ := hqb
  have Hp := Lib.hid hp
  have Hq := Lib.hid hq
  clear hp hq
  obtain ⟨A, hA⟩ : ∃ A, w.heap.size = A := ⟨_, rfl⟩
  have K1 := confE_or c1 c2
  have K2 := confE_or (p - 2) (q - 2)
  have hcells : ∀ W : World, W = (w.alloc (.cells #[.int .i64 c1, .int .i64 c2] 48)).alloc (.cells #[.int .i64 (p - 2), .int .i64 (q - 2)] 48) → W.cell? ⟨A, 0, none⟩ = some (.int .i64 c1) ∧ W.cell? ⟨A, 1, none⟩ = some (.int .i64 c2) ∧ W.cell? ⟨A + 1, 0, none⟩ = some (.int .i64 (p - 2)) ∧ W.cell? ⟨A + 1, 1, none⟩ = some (.int .i64 (q - 2)) ∧ A + 2 ≤ W.heap.size ∧ Ext w W := by
    rintro W rfl
    rw [← hA]
    refine ⟨by go_simp, by go_simp, ?_, ?_, by simp, ((Ext.refl w).alloc _).alloc _⟩
    · simp
    · simp
  have Hc := Lib.hid hcells
  have HA := Lib.hid hA
  clear hcells
  rcases K1 with e1 | e1 <;> rcases K2 with e2 | e2
  all_goals
    go_enter Try.func8, Try.ntmps8
    go_upto_region 2 with (go_at_call 18; refine (pick_any _ _ (by omega) (by omega) _).mono ?_; rintro x w' ⟨rfl, rfl⟩; first | rw [Hp.out] | rw [Hq.out])
    obtain ⟨k0, k1, k2, k3, hsz, hx0⟩ := Hc.out _ rfl
    have HX := Lib.hid hx0
    obtain ⟨W, hW⟩ : ∃ W, (w.alloc (.cells #[.int .i64 c1, .int .i64 c2] 48)).alloc (.cells #[.int .i64 (p - 2), .int .i64 (q - 2)] 48) = W := ⟨_, rfl⟩
    rw [hW] at k0 k1 k2 k3 hsz HX
    rw [hW]
    clear hW hx0 hA
    go_wp2_with fail
    first | refine (mnew_bad e1 _).mono ?_ | refine (mnew_good e1 _).mono ?_
    first | rintro x w1 ⟨rfl, hx⟩ | rintro x w1 ⟨b1, m1, rfl, _, _, _, hx⟩
    have k0 := (hx.cell (p := ⟨A, 0, none⟩) (by simp only; omega)).trans k0; have k1 := (hx.cell (p := ⟨A, 1, none⟩) (by simp only; omega)).trans k1; have k2 := (hx.cell (p := ⟨A + 1, 0, none⟩) (by simp only; omega)).trans k2; have k3 := (hx.cell (p := ⟨A + 1, 1, none⟩) (by simp only; omega)).trans k3; have hsz := Nat.le_trans hsz hx.size; have HX := Lib.hid (HX.out.trans hx); clear hx
    go_wp2_with fail
    first | refine (rnewM_bad e1 _).mono ?_ | refine (rnewM_good e1 _).mono ?_
    first | rintro x w2 ⟨rfl, hx⟩ | rintro x w2 ⟨b2, rfl, _, _, hx⟩
    have k0 := (hx.cell (p := ⟨A, 0, none⟩) (by simp only; omega)).trans k0; have k1 := (hx.cell (p := ⟨A, 1, none⟩) (by simp only; omega)).trans k1; have k2 := (hx.cell (p := ⟨A + 1, 0, none⟩) (by simp only; omega)).trans k2; have k3 := (hx.cell (p := ⟨A + 1, 1, none⟩) (by simp only; omega)).trans k3; have hsz := Nat.le_trans hsz hx.size; have HX := Lib.hid (HX.out.trans hx); clear hx
    go_wp2_with fail
    first | refine (mnew_bad e2 _).mono ?_ | refine (mnew_good e2 _).mono ?_
    first | rintro x w3 ⟨rfl, hx⟩ | rintro x w3 ⟨b3, m3, rfl, _, _, _, hx⟩
    have k0 := (hx.cell (p := ⟨A, 0, none⟩) (by simp only; omega)).trans k0; have k1 := (hx.cell (p := ⟨A, 1, none⟩) (by simp only; omega)).trans k1; have k2 := (hx.cell (p := ⟨A + 1, 0, none⟩) (by simp only; omega)).trans k2; have k3 := (hx.cell (p := ⟨A + 1, 1, none⟩) (by simp only; omega)).trans k3; have hsz := Nat.le_trans hsz hx.size; have HX := Lib.hid (HX.out.trans hx); clear hx
    go_wp2_with fail
    first | refine (rnewM_bad e2 _).mono ?_ | refine (rnewM_good e2 _).mono ?_
    first | rintro x w4 ⟨rfl, hx⟩ | rintro x w4 ⟨b4, rfl, _, _, hx⟩
    have k0 := (hx.cell (p := ⟨A, 0, none⟩) (by simp only; omega)).trans k0; have k1 := (hx.cell (p := ⟨A, 1, none⟩) (by simp only; omega)).trans k1; have k2 := (hx.cell (p := ⟨A + 1, 0, none⟩) (by simp only; omega)).trans k2; have k3 := (hx.cell (p := ⟨A + 1, 1, none⟩) (by simp only; omega)).trans k3; have hsz := Nat.le_trans hsz hx.size; have HX := Lib.hid (HX.out.trans hx); clear hx
    go_wp2_with fail
    refine (awake28 _).mono ?_
    rintro x w5 ⟨rfl, hx⟩
    have HX := Lib.hid (HX.out.trans hx)
    clear hx
    go_wp2_with fail
    go_ret
    exact ⟨rfl, HX.out.below⟩
end modelNew
end Go.Proofs.Ytjefpeppkphgbaa
