/-
  Walks of the library's stable sort: insertionSortCmpFunc.
  Conditions: the row holds; cmp answers by the key.
-/
import Derived.Test.YthenclenabcmgaaStabA
namespace Go.Proofs.Ythenclenabcmgaa
open Go.Shelf Go.RowKit Go.Lib Go.Sort
set_option maxHeartbeats 16000000
set_option maxRecDepth 1000000
variable {α : Type} [Inhabited α]

/-- What cmp answers. -/
def cfK (key : α → Int) (x y : α) : Int := if key x < key y then -1 else if key y < key x then 1 else 0
omit [Inhabited α] in
theorem cfK_true {key : α → Int} {x y : α} (h : ltK key x y = true) : cfK key x y < 0 := by
  simp only [ltK, decide_eq_true_eq] at h
  simp [cfK, h]
omit [Inhabited α] in
theorem cfK_false {key : α → Int} {x y : α} (h : ltK key x y = false) : ¬ cfK key x y < 0 := by
  simp only [ltK, decide_eq_false_iff_not] at h
  unfold cfK
  rw [if_neg h]
  split <;> omega
theorem enter_g (args : Array Value) (w : World) : (callFunc 24 args).run Try.prog w = .ok (.enter 24 args) w := by kernel_rfl

theorem insertion_any (enc : α → Value) (key : α → Int) (sz blk off cap a b : Nat) (cb : Array Value) (d0 d : Array α) (w0 w : World) (hcmp : CmpLays1 Try.prog 24 cb enc (cfK key) blk off sz w0) (R : Row1 enc w0 blk off d0) (hs : d0.size = sz) (hd : d.size = sz) (S : SW enc w0 blk off d w)
    (hab : a ≤ b) (hb : b ≤ sz) (hsz : sz < 4611686018427387904) :
    Calls Try.prog 33 #[.slice (some ⟨blk, off, none⟩) sz cap, .int .i64 a, .int .i64 b, .func (.func 24) #[] cb] w fun e w' => e = .returned (.tuple #[]) ∧ SW enc w0 blk off (insertionSort (ltK key) d a b) w' := by
  have mixed := mixed_on
  have eg := enter_g
  have hcl0 := R.hO.cells
  simp only [Value.cells] at hcl0
  have hst := R.hO.store Try.prog
  have HC : Aside _ := hcmp
  have S0 : Aside (SW enc w0 blk off d w) := S
  clear S
  clear hcmp
  go_enter Try.func33, Try.ntmps33
  go_wp2
  go_loopg [8] (b - a) (fun g1 vi wr => ∃ (i : Nat) (dk : Array α), vi = .int .i64 i ∧ a < i ∧ i ≤ b + 1 ∧ b + 1 - i ≤ g1 + 1 ∧ dk.size = sz ∧ Aside (SW enc w0 blk off dk wr) ∧ Hid (insOuter (ltK key) a b i dk = insOuter (ltK key) a b (a + 1) d))
  case atStart => exact ⟨a + 1, d, by go_num, by omega, by omega, by omega, hd, S0, rfl⟩
  case round =>
    clear S0
    obtain ⟨i, dk, rfl, hai, hib, hg1, hsk, S1, HO⟩ := hrel
    by_cases hlt : i < b
    · have hltz : (i : Int) < (b : Int) := by omega
      go_wp2
      -- the inner loop
      go_loopg [9] i (fun g2 vj wr2 => ∃ (j : Nat) (dj : Array α), vj = .int .i64 j ∧ a ≤ j ∧ j ≤ i ∧ j ≤ g2 ∧ dj.size = sz ∧ Aside (SW enc w0 blk off dj wr2) ∧ Hid (insInner (ltK key) a j dj = insInner (ltK key) a i dk))
      case atStart => exact ⟨i, dk, rfl, by omega, Nat.le_refl _, Nat.le_refl _, hsk, S1, rfl⟩
      case round =>
        clear S1
        obtain ⟨j, dj, rfl, haj, hji, hg2, hsj, SJ, HI⟩ := hrel
        have out : (j ≤ a ∨ (ltK key) dj[j]! dj[j - 1]! = false) → Hid (insOuter (ltK key) a b (i + 1) dj = insOuter (ltK key) a b (a + 1) d) := fun hs => by
          show _ = _
          rw [← HO.out, insOuter_go _ _ _ _ _ hlt, ← HI.out, insInner_stop _ _ _ _ hs]
        have OUT : Aside _ := out
        clear out
        by_cases hja : a < j
        · have hjaz : (a : Int) < (j : Int) := by omega
          obtain ⟨jp, hjp⟩ : ∃ q, q + 1 = j := ⟨j - 1, by omega⟩
          have zjp : (j : Int) = (jp : Int) + 1 := by omega
          have hjad : decide ((jp : Int) + 1 > (a : Int)) = true := decide_eq_true (by omega)
          have hjaz' : (a : Int) < (jp : Int) + 1 := by omega
          cases hlv : (ltK key) dj[j]! dj[j - 1]! with
          | true =>
            obtain ⟨iN1193, hiN1193⟩ : ∃ q, q = j := ⟨_, rfl⟩
            obtain ⟨jN1193, hjN1193⟩ : ∃ q, q = j - 1 := ⟨_, rfl⟩
            have ea1193 : ((jp : Int) + 1).toNat = iN1193 := by omega
            have pa1193 : (0 : Int) ≤ (jp : Int) + 1 := by omega
            have ba1193 : (jp : Int) + 1 < (sz : Int) := by omega
            have ra1193 : IntKind.i64.wrap ((jp : Int) + 1) = (jp : Int) + 1 := by rw [IntKind.wrap_i64]; omega
            have ec1193 : ((jp : Int)).toNat = jN1193 := by omega
            have pc1193 : (0 : Int) ≤ (jp : Int) := by omega
            have bc1193 : (jp : Int) < (sz : Int) := by omega
            have rc1193 : IntKind.i64.wrap ((jp : Int)) = (jp : Int) := by rw [IntKind.wrap_i64]; omega
            obtain ⟨x1193, hx1193⟩ : ∃ x, x = dj[j]! := ⟨_, rfl⟩
            obtain ⟨y1193, hy1193⟩ : ∃ x, x = dj[j - 1]! := ⟨_, rfl⟩
            have l1193a := SJ.out.cl R (by omega) (j) (by omega)
            have l1193b := SJ.out.cl R (by omega) (j - 1) (by omega)
            rw [← hx1193, ← hiN1193] at l1193a
            rw [← hy1193, ← hjN1193] at l1193b
            have hc1193 := SJ.out.cmp HC.out (by omega) x1193 y1193
            have hv1193 : cfK key x1193 y1193 < 0 := by rw [hx1193, hy1193]; exact cfK_true hlv
            have hd1193 : decide (cfK key x1193 y1193 < 0) = true := decide_eq_true hv1193
            clear hx1193 hy1193 hiN1193 hjN1193
            go_wp2_with fail
            go_quiet_grown (first | (go_at_fn 24; refine Calls.grown_of (hc1193 _ _)))
            have S2 : Aside (SW enc w0 blk off dj (grow (wr.drewN nq) osq)) := SJ.out.grown nq osq
            clear l1193a l1193b hc1193 SJ
            generalize grow (wr.drewN nq) osq = w2 at S2 ⊢
            clear nq osq
            clear ea1193 ec1193
            go_wp2_with fail
            obtain ⟨iN1194, hiN1194⟩ : ∃ q, q = j := ⟨_, rfl⟩
            obtain ⟨jN1194, hjN1194⟩ : ∃ q, q = j - 1 := ⟨_, rfl⟩
            have ea1194 : ((jp : Int) + 1).toNat = iN1194 := by omega
            have pa1194 : (0 : Int) ≤ (jp : Int) + 1 := by omega
            have ba1194 : (jp : Int) + 1 < (sz : Int) := by omega
            have ra1194 : IntKind.i64.wrap ((jp : Int) + 1) = (jp : Int) + 1 := by rw [IntKind.wrap_i64]; omega
            have ec1194 : ((jp : Int)).toNat = jN1194 := by omega
            have pc1194 : (0 : Int) ≤ (jp : Int) := by omega
            have bc1194 : (jp : Int) < (sz : Int) := by omega
            have rc1194 : IntKind.i64.wrap ((jp : Int)) = (jp : Int) := by rw [IntKind.wrap_i64]; omega
            obtain ⟨x1194, hx1194⟩ : ∃ x, x = dj[j]! := ⟨_, rfl⟩
            obtain ⟨y1194, hy1194⟩ : ∃ x, x = dj[j - 1]! := ⟨_, rfl⟩
            have S3 : Aside (SW enc w0 blk off (swp dj (j) (j - 1)) ((w2.setCell ⟨blk, off + iN1194, none⟩ (enc y1194)).setCell ⟨blk, off + jN1194, none⟩ (enc x1194)).drew) := by rw [hiN1194, hjN1194, hx1194, hy1194]; exact S2.out.swapped R (j) (j - 1) (by omega) (by omega)
            have c1194a := S2.out.c1 R (by omega) (j) (by omega)
            have c1194b := S2.out.c1 R (by omega) (j - 1) (by omega)
            have f1194a := S2.out.f1 R (by omega) (j) (by omega)
            have f1194b := S2.out.f1 R (by omega) (j - 1) (by omega)
            obtain ⟨u1194, c1194c⟩ := S2.out.c2 R (by omega) (j) (j - 1) (by omega) (by omega) (enc y1194)
            rw [← hjN1194, ← hiN1194] at c1194c
            rw [← hx1194, ← hiN1194] at c1194a
            rw [← hy1194, ← hjN1194] at c1194b
            rw [← hiN1194] at f1194a
            rw [← hjN1194] at f1194b
            clear S2 hx1194 hy1194 hiN1194 hjN1194
            go_wp2_with fail
            go_big_region_o
            clear c1194a c1194b c1194c f1194a f1194b
            generalize ((w2.setCell ⟨blk, off + iN1194, none⟩ (enc y1194)).setCell ⟨blk, off + jN1194, none⟩ (enc x1194)).drew = w3 at S3 ⊢
            clear ea1194 ec1194
            go_wp2
            go_roundg (j - 1)
            case measure => omega
            case rel => exact ⟨j - 1, swp dj j (j - 1), by first | rfl | go_num | (congr 1; omega), by omega, by omega, Nat.le_refl _, by rw [size_swp]; exact hsj, S3, (show Hid _ from by rw [← HI.out, insInner_go (ltK key) a j dj hja hlv]; exact rfl)⟩
          | false =>
            obtain ⟨iN1195, hiN1195⟩ : ∃ q, q = j := ⟨_, rfl⟩
            obtain ⟨jN1195, hjN1195⟩ : ∃ q, q = j - 1 := ⟨_, rfl⟩
            have ea1195 : ((jp : Int) + 1).toNat = iN1195 := by omega
            have pa1195 : (0 : Int) ≤ (jp : Int) + 1 := by omega
            have ba1195 : (jp : Int) + 1 < (sz : Int) := by omega
            have ra1195 : IntKind.i64.wrap ((jp : Int) + 1) = (jp : Int) + 1 := by rw [IntKind.wrap_i64]; omega
            have ec1195 : ((jp : Int)).toNat = jN1195 := by omega
            have pc1195 : (0 : Int) ≤ (jp : Int) := by omega
            have bc1195 : (jp : Int) < (sz : Int) := by omega
            have rc1195 : IntKind.i64.wrap ((jp : Int)) = (jp : Int) := by rw [IntKind.wrap_i64]; omega
            obtain ⟨x1195, hx1195⟩ : ∃ x, x = dj[j]! := ⟨_, rfl⟩
            obtain ⟨y1195, hy1195⟩ : ∃ x, x = dj[j - 1]! := ⟨_, rfl⟩
            have l1195a := SJ.out.cl R (by omega) (j) (by omega)
            have l1195b := SJ.out.cl R (by omega) (j - 1) (by omega)
            rw [← hx1195, ← hiN1195] at l1195a
            rw [← hy1195, ← hjN1195] at l1195b
            have hc1195 := SJ.out.cmp HC.out (by omega) x1195 y1195
            have hv1195 : ¬ cfK key x1195 y1195 < 0 := by rw [hx1195, hy1195]; exact cfK_false hlv
            have hd1195 : decide (cfK key x1195 y1195 < 0) = false := decide_eq_false hv1195
            clear hx1195 hy1195 hiN1195 hjN1195
            go_wp2_with fail
            go_quiet_grown (first | (go_at_fn 24; refine Calls.grown_of (hc1195 _ _)))
            have S2 : Aside (SW enc w0 blk off dj (grow (wr.drewN nq) osq)) := SJ.out.grown nq osq
            clear l1195a l1195b hc1195 SJ
            generalize grow (wr.drewN nq) osq = w2 at S2 ⊢
            clear nq osq
            clear ea1195 ec1195
            go_wp2
            go_roundg (b - (i + 1))
            case measure => omega
            case rel => exact ⟨i + 1, dj, by go_num, by omega, by omega, by omega, hsj, S2, OUT.out (Or.inr hlv)⟩
        · -- j = a: out of the inner loop (the guard is false: 'cmp' is not called)
          have hjaz : decide ((j : Int) > (a : Int)) = false := decide_eq_false (by omega)
          have hjaz' : ¬ (a : Int) < (j : Int) := by omega
          go_wp2_with fail
          go_big_region_o
          have S2 : Aside (SW enc w0 blk off dj wr.drew) := SJ.out.drew
          clear SJ
          generalize wr.drew = w2 at S2 ⊢
          go_wp2
          go_roundg (b - (i + 1))
          case measure => omega
          case rel => exact ⟨i + 1, dj, by go_num, by omega, by omega, by omega, hsj, S2, OUT.out (Or.inl (by omega))⟩
    · -- the outer loop is at its end
      have hltz : ¬ (i : Int) < (b : Int) := by omega
      go_wp2
      go_end0
      exact ⟨rfl, by unfold Sort.insertionSort; rw [← HO.out, insOuter_stop _ _ _ _ _ hlt]; exact S1.out⟩
end Go.Proofs.Ythenclenabcmgaa
