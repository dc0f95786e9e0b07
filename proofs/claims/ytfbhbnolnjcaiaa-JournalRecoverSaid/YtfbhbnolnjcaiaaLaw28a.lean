/-
  ModelNew (28.1): New of the program and of the reference return the same error; and keep.Conf.
  Conditions: none.
-/
import Derived.Test.YtfbhbnolnjcaiaaAwake28
import Derived.Test.YtfbhbnolnjcaiaaKeepEnts
namespace Go.Proofs.Ytfbhbnolnjcaiaa
open Go.RowKit Go.Sort
set_option maxHeartbeats 4000000
set_option maxRecDepth 100000

def ConfPost (w : World) (e : Ending) (w' : World) : Prop := ∃ cl cp : Int, 1 ≤ cl ∧ cl ≤ 4 ∧ 1 ≤ cp ∧ cp ≤ 6 ∧ e = .returned (.agg #[.int .i64 cl, .int .i64 cp]) ∧ Ext w w'
theorem conf_any (a : Option Addr) (len cap : Nat) (w : World) (hrow : RowIn w a len) : Calls Try.prog 21 #[.slice a len cap] w (ConfPost w) := by
  obtain ⟨A, hA⟩ : ∃ A, w.heap.size = A := ⟨_, rfl⟩
  have hx0 : Ext w (w.alloc (.cells #[.int .i64 0, .int .i64 0] 37)) := (Ext.refl w).alloc _
  have hsrc := src_of_rowIn (cap := cap) hrow hx0
  have c0 : ((w.alloc (.cells #[.int .i64 0, .int .i64 0] 37)).alloc (.cells #[.slice a len cap, .int .i64 0] 124)).cell? ⟨w.heap.size, 0, none⟩ = some (.int .i64 0) := by go_simp
  have c1 : ((w.alloc (.cells #[.int .i64 0, .int .i64 0] 37)).alloc (.cells #[.slice a len cap, .int .i64 0] 124)).cell? ⟨w.heap.size, 1, none⟩ = some (.int .i64 0) := by go_simp
  have cf : ∀ i, ((w.alloc (.cells #[.int .i64 0, .int .i64 0] 37)).alloc (.cells #[.slice a len cap, .int .i64 0] 124)).frozen? ⟨w.heap.size, i, none⟩ = false := fun i => by go_simp
  have hs : ((w.alloc (.cells #[.int .i64 0, .int .i64 0] 37)).alloc (.cells #[.slice a len cap, .int .i64 0] 124)).heap.size = w.heap.size + 2 := by simp
  have e1 : (w.alloc (.cells #[.int .i64 0, .int .i64 0] 37)).heap.size = w.heap.size + 1 := by simp
  rw [e1] at hsrc
  have hx : Ext w ((w.alloc (.cells #[.int .i64 0, .int .i64 0] 37)).alloc (.cells #[.slice a len cap, .int .i64 0] 124)) := hx0.alloc _
  have Hs := Lib.hid (And.intro hsrc (And.intro c0 (And.intro c1 (And.intro cf (And.intro hs hx)))))
  clear hsrc c0 c1 cf hs e1 hx hx0 hrow
  go_enter Try.func21, Try.ntmps21
  go_wp2_with fail
  refine (from_any _ _ _ _).mono ?_
  rintro e w0 ⟨rfl, rfl⟩
  obtain ⟨hsrc, c0, c1, cf, hs, hx⟩ := Hs.out
  rw [hA] at c0 c1 cf hs hsrc
  have Hx := Lib.hid hx
  have Hsrc := Lib.hid hsrc
  have HA := Lib.hid hA
  obtain ⟨W, hW⟩ : ∃ W, (w.alloc (.cells #[.int .i64 0, .int .i64 0] 37)).alloc (.cells #[.slice a len cap, .int .i64 0] 124) = W := ⟨_, rfl⟩
  rw [hW] at c0 c1 cf hs Hx Hsrc
  clear hx hsrc Hs
  go_wp2_with fail
  refine (next_any _ _ (by omega) (by omega) _ _ Hsrc.out).mono ?_
  rintro e w2 ⟨x, hx, rfl, hsrc2, hc2, hz2⟩
  have c0 := (hc2.cell (p := ⟨A, 0, none⟩) (by simp only; omega) (by simp only; omega)).trans c0
  have c1 := (hc2.cell (p := ⟨A, 1, none⟩) (by simp only; omega) (by simp only; omega)).trans c1
  have cf := fun i => (hc2.frozen (p := ⟨A, i, none⟩) (by simp only; omega) (by simp only; omega)).trans (cf i)
  have Hx2 := Lib.hid (Hx.out.chg_new hc2 fun i hi => by have := HA.out; omega)
  have Hsrc2 := Lib.hid hsrc2
  have hz : A + 2 ≤ w2.heap.size := by omega
  have p0 : (0 : Int) ≤ (x : Int) := by omega
  clear hsrc2 hc2 hz2 Hsrc Hx hW hs hA
  go_wp2_with fail
  refine (next_any _ _ (by omega) (by omega) _ _ Hsrc2.out).mono ?_
  rintro e w3 ⟨y, hy, rfl, hsrc3, hc3, hz3⟩
  have c0 := (hc3.cell (p := ⟨A, 0, none⟩) (by simp only; omega) (by simp only; omega)).trans c0
  have c1 := (hc3.cell (p := ⟨A, 1, none⟩) (by simp only; omega) (by simp only; omega)).trans c1
  have cf := fun i => (hc3.frozen (p := ⟨A, i, none⟩) (by simp only; omega) (by simp only; omega)).trans (cf i)
  have Hx3 := Lib.hid (Hx2.out.chg_new hc3 fun i hi => by have := HA.out; omega)
  have p1 : (0 : Int) ≤ (y : Int) := by omega
  have hz : A + 2 ≤ w3.heap.size := by omega
  clear hsrc3 hc3 hz3 Hsrc2 Hx2
  go_wp2_with fail
  refine bodyPost_ret (v := .agg #[.int .i64 (1 + (x : Int)), .int .i64 (1 + (y : Int))]) (by simp [results, Try.results21, go_sem, *]) rfl ⟨1 + (x : Int), 1 + (y : Int), by omega, by omega, by omega, by omega, rfl, ?_⟩
  (repeat refine ext_setCell ?_ (by have := HA.out; simp only; omega) _)
  exact Hx3.out
theorem mnew_bad {cl cap : Int} (hc : confE cl cap = 3) (w : World) : Calls Try.prog 10 #[.agg #[.int .i64 cl, .int .i64 cap]] w fun e w' => e = .returned (.tuple #[.pointer none, .int .i64 3]) ∧ Ext w w' :=
  (mnew_any cl cap w).mono fun e w' h => by
    rcases h with ⟨_, h1, h2⟩ | ⟨h0, _⟩
    · exact ⟨h1, h2⟩
    · rw [hc] at h0; simp at h0
theorem mnew_good {cl cap : Int} (hc : confE cl cap = 0) (w : World) : Calls Try.prog 10 #[.agg #[.int .i64 cl, .int .i64 cap]] w fun e w' => ∃ b m, e = .returned (.tuple #[.pointer (some ⟨b, 0, none⟩), .int .i64 0]) ∧ ModAt w' b m cl cap [] ∧ w.heap.size ≤ b ∧ w.heap.size ≤ m ∧ Ext w w' :=
  (mnew_any cl cap w).mono fun e w' h => by
    rcases h with ⟨h0, _⟩ | ⟨_, h1⟩
    · rw [hc] at h0; simp at h0
    · exact h1
theorem rnewM_bad {cl cap : Int} (hc : confE cl cap = 3) (w : World) : Calls Try.prog 11 #[.agg #[.int .i64 cl, .int .i64 cap]] w fun e w' => e = .returned (.tuple #[.pointer none, .int .i64 3]) ∧ Ext w w' :=
  (rnewM_any cl cap w).mono fun e w' h => by
    rcases h with ⟨_, h1, h2⟩ | ⟨h0, _⟩
    · exact ⟨h1, h2⟩
    · rw [hc] at h0; simp at h0
theorem rnewM_good {cl cap : Int} (hc : confE cl cap = 0) (w : World) : Calls Try.prog 11 #[.agg #[.int .i64 cl, .int .i64 cap]] w fun e w' => ∃ b, e = .returned (.tuple #[.pointer (some ⟨b, 0, none⟩), .int .i64 0]) ∧ RModAt w' (fun _ => False) b cl cap [] ∧ w.heap.size ≤ b ∧ Ext w w' :=
  (rnewM_any cl cap w).mono fun e w' h => by
    rcases h with ⟨h0, _⟩ | ⟨_, h1⟩
    · rw [hc] at h0; simp at h0
    · exact h1
theorem confE_ok {cl cap : Int} (h1 : 1 ≤ cl) (h2 : cl ≤ 4) (h3 : 1 ≤ cap) (h4 : cap ≤ 6) : confE cl cap = 0 := by unfold confE; rw [if_neg (by omega)]
namespace modelNew
end modelNew
end Go.Proofs.Ytfbhbnolnjcaiaa
