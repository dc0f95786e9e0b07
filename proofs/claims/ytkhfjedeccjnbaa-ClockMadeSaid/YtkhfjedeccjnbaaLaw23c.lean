/-
  The walk of the law ClockMade: it returns true and changes nothing that was there.
  Conditions: none.
-/
import Derived.Test.YtkhfjedeccjnbaaRecs
namespace Go.Proofs.Ytkhfjedeccjnbaa
open Go.RowKit Go.Sort
set_option maxHeartbeats 1000000
set_option maxRecDepth 100000
attribute [local go_sem] cell_grow_any

namespace clockMade
theorem walk (a0 a1 : Int) (a : Option Addr) (len cap : Nat) (zs : List Int) (w : World) (i0 : I64 a0) (i1 : I64 a1) (h : IsRow .i64 w a len cap zs) :
    Calls Try.prog 7 #[.int .i64 a0, .int .i64 a1, .slice a len cap] w fun e w' => e = .returned (.bool true) ∧ Below w.heap.size w w' := by
  obtain ⟨u, hu⟩ : ∃ u, pickI a0 45 = u := ⟨_, rfl⟩
  go_enter Try.func7, Try.ntmps7
  go_wp2_with fail
  refine (ltick_any _ i0 _).mono ?_
  rintro e w' ⟨t, t0, t1, rfl, rfl⟩
  go_wp2_with fail
  refine (ltick_any _ i1 _).mono ?_
  rintro e w' ⟨x, x0, x1, rfl, rfl⟩
  go_wp2_with (first | (go_at_call 32; refine (deadline_any _ _ _).mono ?_; rintro e w' ⟨rfl, rfl⟩) | (go_at_call 38; refine (rdeadline_any _ _ _).mono ?_; rintro e w' ⟨rfl, rfl⟩))
  refine (records_any _ _ _ _ _ h).mono ?_
  rintro e w1 ⟨v, rs, h6, hok, rfl, hrec, hx1⟩
  have hrec' := hrec
  obtain ⟨a', cap', rfl, hm, hr⟩ := hrec'
  obtain ⟨n, hn⟩ : ∃ n, rs.length = n := ⟨_, rfl⟩
  have Hn := Lib.hid hn
  rw [hn] at hm h6 hrec hr ⊢
  clear hn hok h i0 i1
  unfold maxLen at hm
  go_wp2_with fail
  go_loopw [41] (fun i wr => ∃ k : Nat, k ≤ n ∧ i = .int .i64 (k : Int) ∧ Ext w1 wr) (fun i _ => n - (intOf i).toNat)
  case atStart => exact ⟨0, by omega, rfl, Ext.refl _⟩
  case round =>
    obtain ⟨k, hk, rfl, hx⟩ := hrel
    obtain ⟨wo, rfl⟩ : ∃ wo, wo = wr := ⟨_, rfl⟩
    by_cases hkn : k < n
    · have hd : decide ((k : Int) < (n : Int)) = true := by simpa using hkn
      obtain ⟨g, rfl, hg, c0, c1, c2, c3⟩ := hr k hkn
      have hc0 := (hx.cell (p := ⟨g, k * 4, none⟩) hg).trans c0
      have hc1 := (hx.cell (p := ⟨g, k * 4 + 1, none⟩) hg).trans c1
      have hc2 := (hx.cell (p := ⟨g, k * 4 + 2, none⟩) hg).trans c2
      have hc3 := (hx.cell (p := ⟨g, k * 4 + 3, none⟩) hg).trans c3
      obtain ⟨⟨st, ow, nm, dl⟩, hre⟩ : ∃ r, rs.getD k default = r := ⟨_, rfl⟩
      rw [hre] at hc0 hc1 hc2 hc3
      simp only at hc0 hc1 hc2 hc3
      clear c0 c1 c2 c3 hre hr hrec
      go_wp2_with fail
      clear hc0 hc1 hc2 hc3
      go_loopw [16] (fun o wr => ∃ j : Nat, j ≤ 45 ∧ o = .int .i64 (j : Int) ∧ Ext (wo.alloc (.cells #[.int .i64 st, .int .i64 ow, .string nm, .int .i64 dl] 30)) wr) (fun o _ => (45 - intOf o).toNat)
      case atStart => exact ⟨0, by omega, rfl, Ext.refl _⟩
      case round =>
        obtain ⟨j, hj, rfl, hxj⟩ := hrel
        have hc := fun i => hxj.cell (p := ⟨wo.heap.size, i, none⟩) (by simp)
        have hlt : wo.heap.size < wr.heap.size := (by have hs1 := hxj.size; simp at hs1; omega)
        by_cases hj5 : j < 45
        · have hd : decide ((j : Int) < 45) = true := by simp; omega
          go_wp2_with fail
          refine wp_region_ext (by kernel_rfl) (by kernel_rfl) ?_
          repeat (quiet_step (first | (go_at_call 33; exact ext_call (live_any _ _ _ _ _ _)) | (go_at_call 37; exact ext_call (rlive_any _ _ _ _ _ _)) | (go_at_call 34; exact ext_call (left_any _ _ _ _ _ _)) | (go_at_call 39; exact ext_call (rleft_any _ _ _ _ _ _))))
          refine wpQuiet_nil ?_; intro w1 hy
          go_wp2
          go_roundw
          case rel => first | exact ⟨j + 1, by omega, by go_num, hxj.trans hy⟩ | ((repeat apply Exists.intro); exact ⟨⟨j + 1, by omega, by go_num, hxj.trans hy⟩, rfl⟩)
          case measure => simp [intOf]; omega
        · have hd : decide ((j : Int) < 45) = false := by simp; omega
          go_wp2_with fail
          go_roundw
          case rel => first | exact ⟨k + 1, by omega, by go_num, (hx.alloc _).trans hxj⟩ | ((repeat apply Exists.intro); exact ⟨⟨k + 1, by omega, by go_num, (hx.alloc _).trans hxj⟩, rfl⟩)
          case measure => simp [intOf]; omega
    · have hd : decide ((k : Int) < (n : Int)) = false := by simp; omega
      have hkn' : k = n := by omega
      subst hkn'
      have hrec := hrec.ext hx
      have hx := hx1.trans hx
      go_wp2_with (first | (go_at_call 29; refine (pick_any _ _ (by omega) (by omega) _).mono ?_; rintro e w' ⟨rfl, rfl⟩) | (go_at_call 36; refine (soonest_any _ rs _ _ hrec).mono ?_; rintro e w2 ⟨rfl, hy⟩; have hrec := hrec.ext hy; have hx := hx.trans hy; clear hy) | (go_at_call 40; refine (rsoonest_any _ rs _ _ hrec).mono ?_; rintro e w2 ⟨rfl, hy⟩; have hrec := hrec.ext hy; have hx := hx.trans hy; clear hy) | (go_at_call 31; refine (awake23 _).mono ?_; rintro e w' ⟨rfl, rfl⟩) | (go_at_call 30; refine (advance_any _ _ _).mono ?_; rintro e w' ⟨rfl, rfl⟩) | (go_at_call 41; refine (radvance_any _ _ _).mono ?_; rintro e w' ⟨rfl, rfl⟩))
      go_ret
      exact ⟨rfl, Ext.below hx⟩
end clockMade
end Go.Proofs.Ytkhfjedeccjnbaa
