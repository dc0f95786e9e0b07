/-
  Walks of the library's stable sort: swapRangeCmpFunc, rotateCmpFunc, insertionSortCmpFunc.
  Conditions: the row holds; cmp answers by the key.
-/
import Derived.Shelf.SlSortCmp.Kit1
import Derived.Sort.WalkA
import Derived.Deep.LoopGhost
import Derived.Test.YthenclenabcmgaaGround
import Derived.Test.YthenclenabcmgaaStab
namespace Go.Proofs.Ythenclenabcmgaa
open Go.Shelf Go.RowKit Go.Lib Go.Sort
set_option maxHeartbeats 16000000
set_option maxRecDepth 1000000
variable {α : Type} [Inhabited α]

theorem mixed_on : Try.prog.follows .mixedOrders = true := by kernel_rfl
theorem und_ints : Try.prog.underlying 33 = some (.slice 3) := by kernel_rfl
theorem info_int : (Try.prog.info? 3).map (fun i => (i.zero, i.size, i.bytes)) = some (some (.int .i64 0), 1, 8) := by kernel_rfl

omit [Inhabited α] in
theorem swapF_zero (f : Nat → α) (a b p : Nat) : swapF f a b 0 p = f p := by
  unfold swapF
  rw [if_neg (by omega), if_neg (by omega)]
theorem swapRange_any (enc : α → Value) (sz blk off cap a b n : Nat) (fv : Value) (d0 d : Array α) (w0 w : World) (R : Row1 enc w0 blk off d0) (hs : d0.size = sz) (hd : d.size = sz) (S : SW enc w0 blk off d w)
    (hab : a + n ≤ b ∨ b + n ≤ a) (ha : a + n ≤ sz) (hb : b + n ≤ sz) (hsz : sz < 4611686018427387904) :
    Calls Try.prog 48 #[.slice (some ⟨blk, off, none⟩) sz cap, .int .i64 a, .int .i64 b, .int .i64 n, fv] w fun e w' => e = .returned (.tuple #[]) ∧
      ∃ d', SW enc w0 blk off d' w' ∧ d'.size = sz ∧ (∀ p, d'[p]! = swapF (fun k => d[k]!) a b n p) ∧ ∀ lo hi, lo ≤ a → lo ≤ b → a + n ≤ hi → b + n ≤ hi → hi ≤ sz → PermIn lo hi d d' := by
  have mixed := mixed_on
  have hcl0 := R.hO.cells
  simp only [Value.cells] at hcl0
  have hst := R.hO.store Try.prog
  have S0 : Aside (SW enc w0 blk off d w) := S
  clear S
  go_enter Try.func48, Try.ntmps48
  go_wp2_with fail
  go_loopg [10] n (fun g1 vi wr => ∃ (i : Nat) (dk : Array α), vi = .int .i64 i ∧ i ≤ n ∧ n - i ≤ g1 ∧ dk.size = sz ∧ Aside (SW enc w0 blk off dk wr) ∧ Aside (∀ p, dk[p]! = swapF (fun k => d[k]!) a b i p) ∧ Aside (∀ lo hi, lo ≤ a → lo ≤ b → a + n ≤ hi → b + n ≤ hi → hi ≤ sz → PermIn lo hi d dk))
  case atStart => exact ⟨0, d, rfl, by omega, by omega, hd, S0, (show ∀ p, _ = _ from fun p => (swapF_zero (fun k => d[k]!) a b p).symm), (show ∀ lo hi, _ → _ → _ → _ → _ → _ from fun lo hi _ _ _ _ _ => permIn_refl _ _ _)⟩
  case round =>
    clear S0
    obtain ⟨i, dk, rfl, hin, hg1, hsk, S1, HF, HP⟩ := hrel
    by_cases hlt : i < n
    · have hltz : (i : Int) < (n : Int) := by omega
      obtain ⟨x, hx⟩ : ∃ x, x = a + i := ⟨_, rfl⟩
      obtain ⟨y, hy⟩ : ∃ y, y = b + i := ⟨_, rfl⟩
      have rx : IntKind.i64.wrap ((a : Int) + (i : Int)) = (x : Int) := by rw [IntKind.wrap_i64]; omega
      have ry : IntKind.i64.wrap ((b : Int) + (i : Int)) = (y : Int) := by rw [IntKind.wrap_i64]; omega
      have px : (0 : Int) ≤ (x : Int) := by omega
      have bx : (x : Int) < (sz : Int) := by omega
      have py : (0 : Int) ≤ (y : Int) := by omega
      have by_ : (y : Int) < (sz : Int) := by omega
      obtain ⟨vx, hvx⟩ : ∃ v, v = dk[x]! := ⟨_, rfl⟩
      obtain ⟨vy, hvy⟩ : ∃ v, v = dk[y]! := ⟨_, rfl⟩
      have S3 : Aside (SW enc w0 blk off (swp dk x y) ((wr.setCell ⟨blk, off + x, none⟩ (enc vy)).setCell ⟨blk, off + y, none⟩ (enc vx)).drew) := by rw [hvx, hvy]; exact S1.out.swapped R x y (by omega) (by omega)
      have ca := S1.out.c1 R (by omega) x (by omega)
      have cb := S1.out.c1 R (by omega) y (by omega)
      have fa := S1.out.f1 R (by omega) x (by omega)
      have fb := S1.out.f1 R (by omega) y (by omega)
      obtain ⟨u, cc⟩ := S1.out.c2 R (by omega) x y (by omega) (by omega) (enc vy)
      rw [← hvx] at ca
      rw [← hvy] at cb
      have HF2 : Aside (∀ p, (swp dk x y)[p]! = swapF (fun k => d[k]!) a b (i + 1) p) := by
        rw [hx, hy]
        exact swapF_next dk HF.out (by omega) (by omega) (by omega)
      have HP2 : Aside (∀ lo hi, lo ≤ a → lo ≤ b → a + n ≤ hi → b + n ≤ hi → hi ≤ sz → PermIn lo hi d (swp dk x y)) :=
        show ∀ lo hi, _ → _ → _ → _ → _ → _ from fun lo hi h1 h2 h3 h4 h5 => permIn_trans _ _ _ _ _ (HP.out lo hi h1 h2 h3 h4 h5) (swp_permIn dk lo hi x y (by omega) (by omega) (by omega) (by omega) (by omega))
      have hsz2 : (swp dk x y).size = sz := by rw [swp_size]; exact hsk
      clear S1 HF HP hvx hvy hx hy
      go_wp2_with fail
      go_big_region_o
      clear ca cb cc fa fb
      generalize ((wr.setCell ⟨blk, off + x, none⟩ (enc vy)).setCell ⟨blk, off + y, none⟩ (enc vx)).drew = w3 at S3 ⊢
      go_wp2_with fail
      go_roundg (n - (i + 1))
      case measure => omega
      case rel => exact ⟨i + 1, swp dk x y, by go_num, by omega, by omega, hsz2, S3, HF2, HP2⟩
    · have hltz : ¬ (i : Int) < (n : Int) := by omega
      obtain rfl : i = n := by omega
      go_wp2_with fail
      go_end0
      exact ⟨rfl, dk, S1.out, hsk, HF.out, HP.out⟩

theorem rotate_any (enc : α → Value) (sz blk off cap a m b : Nat) (fv : Value) (d0 d : Array α) (w0 w : World) (R : Row1 enc w0 blk off d0) (hs : d0.size = sz) (hd : d.size = sz) (S : SW enc w0 blk off d w)
    (ham : a < m) (hmb : m < b) (hb : b ≤ sz) (hsz : sz < 4611686018427387904) :
    Calls Try.prog 44 #[.slice (some ⟨blk, off, none⟩) sz cap, .int .i64 a, .int .i64 m, .int .i64 b, fv] w fun e w' => e = .returned (.tuple #[]) ∧
      ∃ d', SW enc w0 blk off d' w' ∧ d'.size = sz ∧ (∀ p, d'[p]! = rotF (fun k => d[k]!) a m b p) ∧ PermIn a b d d' := by
  have S0 : Aside (SW enc w0 blk off d w) := S
  clear S
  obtain ⟨i0, hi0, hi0'⟩ : ∃ x, x + a ≤ m ∧ m ≤ x + a := ⟨m - a, by omega, by omega⟩
  obtain ⟨j0, hj0, hj0'⟩ : ∃ x, x + m ≤ b ∧ b ≤ x + m := ⟨b - m, by omega, by omega⟩
  have ri0 : (m : Int) - (a : Int) = (i0 : Int) := by omega
  have rj0 : (b : Int) - (m : Int) = (j0 : Int) := by omega
  go_enter Try.func44, Try.ntmps44
  go_wp2_with fail
  go_loopg [10, 11] (i0 + j0) (fun g1 vi vj wr => ∃ (i j : Nat) (dk : Array α), vi = .int .i64 i ∧ vj = .int .i64 j ∧ 0 < i ∧ 0 < j ∧ i + a ≤ m ∧ m + j ≤ b ∧ i + j ≤ g1 ∧ dk.size = sz ∧ Aside (SW enc w0 blk off dk wr) ∧ Aside (∀ p, rotF (fun k => dk[k]!) (m - i) m (m + j) p = rotF (fun k => d[k]!) a m b p) ∧ Aside (PermIn a b d dk))
  case atStart =>
    refine ⟨i0, j0, d, rfl, rfl, by omega, by omega, by omega, by omega, Nat.le_refl _, hd, S0, ?_, permIn_refl _ _ _⟩
    show ∀ p, _ = _
    intro p
    rw [show m - i0 = a by omega, show m + j0 = b by omega]
  case round =>
    clear S0 ri0 rj0 hi0 hj0 hi0' hj0'
    obtain ⟨i, j, dk, rfl, rfl, hi, hj, hia, hjb, hg1, hsk, S1, HF, HP⟩ := hrel
    obtain ⟨x, hx, hx'⟩ : ∃ x, x + i ≤ m ∧ m ≤ x + i := ⟨m - i, by omega, by omega⟩
    have rx : (m : Int) - (i : Int) = (x : Int) := by omega
    by_cases hij : i = j
    · obtain rfl : i = j := hij
      have hne : ((i : Int) != (i : Int)) = false := by simp
      go_wp2_with fail
      refine (swapRange_any enc sz blk off cap x m i _ d0 dk w0 _ R hs hsk S1.out (by omega) (by omega) (by omega) hsz).mono ?_
      rintro e w2 ⟨rfl, d2, S2, hs2, hF2, hP2⟩
      go_wp2_with fail
      go_end0
      refine ⟨rfl, d2, S2, hs2, fun p => ?_, permIn_trans _ _ _ _ _ HP.out (hP2 a b (by omega) (by omega) (by omega) (by omega) hb)⟩
      rw [hF2, ← HF.out p, show x = m - i by omega]
      exact rot_eq (by omega) p
    · have hne : ((i : Int) != (j : Int)) = true := by simp; omega
      by_cases hlt : j < i
      · have hgt : (j : Int) < (i : Int) := by omega
        obtain ⟨i2, hi2, hi2'⟩ : ∃ x, x + j ≤ i ∧ i ≤ x + j := ⟨i - j, by omega, by omega⟩
        have ri2 : (i : Int) - (j : Int) = (i2 : Int) := by omega
        go_wp2_with fail
        refine (swapRange_any enc sz blk off cap x m j _ d0 dk w0 _ R hs hsk S1.out (by omega) (by omega) (by omega) hsz).mono ?_
        rintro e w2 ⟨rfl, d2, S2, hs2, hF2, hP2⟩
        have S2' : Aside _ := S2
        have HF2 : Aside (∀ p, rotF (fun k => d2[k]!) (m - i2) m (m + j) p = rotF (fun k => d[k]!) a m b p) := by
          show ∀ p, _ = _
          intro p
          rw [← HF.out p, ← rot_gt (f := fun k => dk[k]!) hlt (by omega) hj p, show i2 = i - j by omega]
          congr 1
          funext k
          rw [hF2, show x = m - i by omega]
        have HP2 : Aside (PermIn a b d d2) := permIn_trans _ _ _ _ _ HP.out (hP2 a b (by omega) (by omega) (by omega) (by omega) hb)
        clear S2 hF2 hP2 HF HP S1 rx
        go_wp2_with fail
        go_roundg (i2 + j)
        case measure => omega
        case rel => exact ⟨i2, j, d2, rfl, rfl, by omega, hj, by omega, hjb, Nat.le_refl _, hs2, S2', HF2, HP2⟩
      · have hgt : ¬ (j : Int) < (i : Int) := by omega
        obtain ⟨j2, hj2, hj2'⟩ : ∃ x, x + i ≤ j ∧ j ≤ x + i := ⟨j - i, by omega, by omega⟩
        obtain ⟨y, hy, hy'⟩ : ∃ x, x + i ≤ m + j ∧ m + j ≤ x + i := ⟨m + j - i, by omega, by omega⟩
        have rj2 : (j : Int) - (i : Int) = (j2 : Int) := by omega
        have ry : (m : Int) + (j : Int) - (i : Int) = (y : Int) := by omega
        go_wp2_with fail
        refine (swapRange_any enc sz blk off cap x y i _ d0 dk w0 _ R hs hsk S1.out (by omega) (by omega) (by omega) hsz).mono ?_
        rintro e w2 ⟨rfl, d2, S2, hs2, hF2, hP2⟩
        have S2' : Aside _ := S2
        have HF2 : Aside (∀ p, rotF (fun k => d2[k]!) (m - i) m (m + j2) p = rotF (fun k => d[k]!) a m b p) := by
          show ∀ p, _ = _
          intro p
          rw [← HF.out p, ← rot_lt (f := fun k => dk[k]!) (show i < j by omega) (by omega) hi p, show j2 = j - i by omega]
          congr 1
          funext k
          rw [hF2, show x = m - i by omega, show y = m + j - i by omega]
        have HP2 : Aside (PermIn a b d d2) := permIn_trans _ _ _ _ _ HP.out (hP2 a b (by omega) (by omega) (by omega) (by omega) hb)
        clear S2 hF2 hP2 HF HP S1 rx ry
        go_wp2_with fail
        go_roundg (i + j2)
        case measure => omega
        case rel => exact ⟨i, j2, d2, rfl, rfl, hi, by omega, hia, by omega, Nat.le_refl _, hs2, S2', HF2, HP2⟩
end Go.Proofs.Ythenclenabcmgaa
