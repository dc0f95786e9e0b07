/-
  Walks of the library's stable sort: stableCmpFunc, SortStableFunc.
  Conditions: the row holds; cmp answers by the key; the row's indices ascend.
-/
import Derived.Test.YthenclenabcmgaaStabD
import Derived.Test.YthenclenabcmgaaStabP
namespace Go.Proofs.Ythenclenabcmgaa
open Go.Shelf Go.RowKit Go.Lib Go.Sort
set_option maxHeartbeats 16000000
set_option maxRecDepth 1000000
variable {α : Type} [Inhabited α]

theorem stable_any (enc : α → Value) (key : α → Int) (idx : α → Nat) (sz blk off cap : Nat) (cb : Array Value) (d0 : Array α) (w0 : World) (hcmp : CmpLays1 Try.prog 24 cb enc (cfK key) blk off sz w0) (R : Row1 enc w0 blk off d0) (hs : d0.size = sz) (hsz : sz ≤ 1000000000000000000)
    (hasc : ∀ p q, p < q → q < sz → idx d0[p]! < idx d0[q]!) :
    Calls Try.prog 29 #[.slice (some ⟨blk, off, none⟩) sz cap, .int .i64 sz, .func (.func 24) #[] cb] w0 (MergePost enc key idx w0 sz blk off 0 sz d0) := by
  have HC : Aside _ := hcmp
  have HI : Aside (InsPh key idx sz 0 d0 d0) := InsPh.start hasc
  have S0 : Aside (SW enc w0 blk off d0 w0) := SW.start R.hH
  have h62 : sz < 4611686018427387904 := by omega
  clear hcmp hasc
  go_enter Try.func29, Try.ntmps29
  go_wp2_with fail
  go_loopg [7, 8] sz (fun g1 va vb wr => ∃ (k : Nat) (d : Array α), va = .int .i64 ((k * 20 : Nat) : Int) ∧ vb = .int .i64 ((k * 20 + 20 : Nat) : Int) ∧ k * 20 ≤ sz ∧ sz - k * 20 ≤ g1 ∧ d.size = sz ∧ Aside (SW enc w0 blk off d wr) ∧ Aside (InsPh key idx sz k d0 d))
  case atStart => exact ⟨0, d0, by go_num, by go_num, by omega, by omega, hs, S0, HI⟩
  case round =>
    clear S0 HI
    obtain ⟨k, d, rfl, rfl, hk, hg, hd, S1, HI⟩ := hrel
    obtain ⟨a, ha⟩ : ∃ a, k * 20 = a := ⟨_, rfl⟩
    have HA := Lib.hid ha
    rw [ha] at hk hg ⊢
    clear ha
    by_cases hlt : a + 20 ≤ sz
    · have hltz : ((a + 20 : Nat) : Int) ≤ (sz : Int) := by omega
      have hltz2 : (a : Int) + 20 ≤ (sz : Int) := by omega
      go_wp2_with fail
      refine (insertion_any enc key sz blk off cap a (a + 20) cb d0 d w0 _ HC.out R hs hd S1.out (by omega) hlt h62).mono ?_
      rintro x w2 ⟨rfl, S2⟩
      have hd2 : (insertionSort (ltK key) d a (a + 20)).size = sz := by
        have := (HI.out.step (k := k) (b := k * 20 + 20) hd.symm (by omega) (by omega) (by rw [HA.out]; exact hlt) rfl).1.1
        rw [HA.out] at this; omega
      have HI2 : Aside (InsPh key idx sz (k + 1) d0 (insertionSort (ltK key) d a (a + 20))) := HI.out.next hd.symm (by rw [HA.out]; exact hlt) (by rw [HA.out])
      have S2' : Aside _ := S2
      obtain ⟨d2, hd2e⟩ : ∃ d2, insertionSort (ltK key) d a (a + 20) = d2 := ⟨_, rfl⟩
      rw [hd2e] at hd2 HI2 S2'
      have HA2 : (k + 1) * 20 = a + 20 := by rw [← HA.out, Nat.add_mul]
      clear S2 S1 HI hd2e
      go_wp2_with fail
      go_roundg (sz - (a + 20))
      case measure => omega
      case rel => exact ⟨k + 1, d2, by rw [HA2]; simp, by rw [HA2]; go_num, by omega, by omega, hd2, S2', HI2⟩
    · have hltz : ¬ ((a + 20 : Nat) : Int) ≤ (sz : Int) := by omega
      have hltz2 : ¬ (a : Int) + 20 ≤ (sz : Int) := by omega
      go_wp2_with fail
      refine (insertion_any enc key sz blk off cap a sz cb d0 d w0 _ HC.out R hs hd S1.out hk (Nat.le_refl _) h62).mono ?_
      rintro x w2 ⟨rfl, S2⟩
      have HM : Aside (MrgPh key idx sz 20 d0 (insertionSort (ltK key) d a sz)) := HI.out.last hd.symm (by rw [HA.out]; exact hk) (by rw [HA.out]; omega) (by rw [HA.out])
      have S2' : Aside _ := S2
      obtain ⟨d2, hd2e⟩ : ∃ d2, insertionSort (ltK key) d a sz = d2 := ⟨_, rfl⟩
      rw [hd2e] at HM S2'
      have hd2 : d2.size = sz := by have := HM.out.perm.1; omega
      clear S2 S1 HI hd2e HA hd hk hlt hltz hltz2 hg
      go_wp2_with fail
      go_loopg [6, 7, 8, 9] sz (fun g1 vB va vb vm wr => ∃ (B : Nat) (d : Array α), vB = .int .i64 (B : Int) ∧ 0 < B ∧ B ≤ 2000000000000000000 ∧ sz - B ≤ g1 ∧ d.size = sz ∧ Aside (SW enc w0 blk off d wr) ∧ Aside (MrgPh key idx sz B d0 d))
      case atStart => exact ⟨20, d2, by go_num, by omega, by omega, by omega, hd2, S2', HM⟩
      case round =>
        clear S2' HM hd2
        obtain ⟨B, d, rfl, hB0, hB1, hg, hd, S1, HM⟩ := hrel
        by_cases hlt : B < sz
        · have hltz : (B : Int) < (sz : Int) := by omega
          obtain ⟨C, hC1, hC2⟩ : ∃ C, C ≤ 2 * B ∧ 2 * B ≤ C := ⟨2 * B, Nat.le_refl _, Nat.le_refl _⟩
          have rC : 2 * (B : Int) = (C : Int) := by omega
          have rC2 : (B : Int) * 2 = (C : Int) := by omega
          have HN : Aside (MidPh key idx sz B 0 d0 d) := HM.out.mid
          clear HM
          go_wp2_with fail
          go_loopg [7, 8] sz (fun g2 va vb wr2 => ∃ (k a : Nat) (d : Array α), va = .int .i64 (a : Int) ∧ vb = .int .i64 ((a + C : Nat) : Int) ∧ Aside (k * (2 * B) = a) ∧ a ≤ sz ∧ sz - a ≤ g2 ∧ d.size = sz ∧ Aside (SW enc w0 blk off d wr2) ∧ Aside (MidPh key idx sz B k d0 d))
          case atStart => exact ⟨0, 0, d, by go_num, by simp, (show 0 * (2 * B) = 0 from Nat.zero_mul _), by omega, by omega, hd, S1, HN⟩
          case round =>
            clear S1 HN hd
            obtain ⟨k, a, d, rfl, rfl, HA, hk, hg2, hd, S1, HN⟩ := hrel
            have hCB : C = 2 * B := by omega
            have HCB : Aside _ := hCB
            clear hCB
            by_cases hlt2 : a + C ≤ sz
            · have hz1 : (a : Int) + (C : Int) ≤ (sz : Int) := by omega
              have hz2 : ((a + C : Nat) : Int) ≤ (sz : Int) := by omega
              obtain ⟨m, hm1, hm2⟩ : ∃ m, m ≤ a + B ∧ a + B ≤ m := ⟨a + B, Nat.le_refl _, Nat.le_refl _⟩
              have rm : (a : Int) + (B : Int) = (m : Int) := by omega
              have HM2 : Aside (Mg key idx a m (a + C) d) := by
                have := HN.out.mg hB0 (b := a + C) (by rw [HA.out]; omega) (by rw [HA.out]; omega) hlt2 (.inl (by rw [HA.out]; omega))
                rw [HA.out] at this
                rw [show m = a + B by omega]; exact this
              go_wp2_with fail
              refine (merge_any enc key idx sz blk off cap cb d0 w0 HC.out R hs h62 (a + C) a m (a + C) d _ (by omega) (by omega) (by omega) hlt2 hd S1.out HM2.out).mono ?_
              rintro x w3 ⟨rfl, d3, S3, hs3, hM3⟩
              have HN3 : Aside (MidPh key idx sz B (k + 1) d0 d3) := HN.out.next hd.symm (by rw [HA.out]; have := HCB.out; omega) (by rw [HA.out, ← HCB.out]; exact hM3)
              have S3' : Aside _ := S3
              have HA3 : Aside ((k + 1) * (2 * B) = a + C) := by show _ = _; rw [Nat.add_mul, Nat.one_mul, HA.out, HCB.out]
              clear S3 hM3 HN S1 HM2 rm
              go_wp2_with fail
              go_roundg (sz - (a + C))
              case measure => omega
              case rel => exact ⟨k + 1, a + C, d3, rfl, by go_num, HA3, hlt2, Nat.le_refl _, hs3, S3', HN3⟩
            · have hz1 : ¬ (a : Int) + (C : Int) ≤ (sz : Int) := by omega
              have hz2 : ¬ ((a + C : Nat) : Int) ≤ (sz : Int) := by omega
              obtain ⟨m, hm1, hm2⟩ : ∃ m, m ≤ a + B ∧ a + B ≤ m := ⟨a + B, Nat.le_refl _, Nat.le_refl _⟩
              have rm : (a : Int) + (B : Int) = (m : Int) := by omega
              by_cases hms : m < sz
              · have hz3 : (m : Int) < (sz : Int) := by omega
                have HM2 : Aside (Mg key idx a m sz d) := by
                  have := HN.out.mg hB0 (b := sz) (by rw [HA.out]; omega) (by rw [HA.out]; omega) (Nat.le_refl _) (.inr rfl)
                  rw [HA.out] at this
                  rw [show m = a + B by omega]; exact this
                go_wp2_with fail
                refine (merge_any enc key idx sz blk off cap cb d0 w0 HC.out R hs h62 sz a m sz d _ (by omega) (by omega) (by omega) (Nat.le_refl _) hd S1.out HM2.out).mono ?_
                rintro x w3 ⟨rfl, d3, S3, hs3, hM3⟩
                have HF : Aside (MrgPh key idx sz C d0 d3) := by
                  have := HN.out.fin_two hd.symm (by rw [HA.out]; exact hk) (by rw [HA.out, ← HCB.out]; omega) (by rw [HA.out]; exact hM3)
                  rw [HCB.out]; exact this
                have S3' : Aside _ := S3
                clear S3 hM3 HN S1 HM2 rm
                go_wp2_with fail
                go_roundg (sz - C)
                case measure => omega
                case rel => exact ⟨C, d3, by go_num, by omega, by omega, Nat.le_refl _, hs3, S3', HF⟩
              · have hz3 : ¬ (m : Int) < (sz : Int) := by omega
                have HF : Aside (MrgPh key idx sz C d0 d) := by
                  have := HN.out.fin_one (by rw [HA.out]; omega)
                  rw [HCB.out]; exact this
                clear HN
                go_wp2_with fail
                go_roundg (sz - C)
                case measure => omega
                case rel => exact ⟨C, d, by go_num, by omega, by omega, Nat.le_refl _, hd, S1, HF⟩
        · have hltz : ¬ (B : Int) < (sz : Int) := by omega
          go_wp2_with fail
          go_end0
          exact ⟨rfl, d, S1.out, hd, HM.out.whole (by omega)⟩

theorem sort_stable_any (enc : α → Value) (key : α → Int) (idx : α → Nat) (sz blk off cap : Nat) (cb : Array Value) (d0 : Array α) (w0 : World) (hcmp : CmpLays1 Try.prog 24 cb enc (cfK key) blk off sz w0) (R : Row1 enc w0 blk off d0) (hs : d0.size = sz) (hsz : sz ≤ 1000000000000000000)
    (hasc : ∀ p q, p < q → q < sz → idx d0[p]! < idx d0[q]!) :
    Calls Try.prog 23 #[.slice (some ⟨blk, off, none⟩) sz cap, .func (.func 24) #[] cb] w0 (MergePost enc key idx w0 sz blk off 0 sz d0) := by
  have HS : Aside _ := stable_any enc key idx sz blk off cap cb d0 w0 hcmp R hs hsz hasc
  clear hcmp hasc R
  go_enter Try.func23, Try.ntmps23
  go_wp2_with fail
  refine Calls.mono HS.out ?_
  rintro x w2 ⟨rfl, d, S, h1, h2⟩
  have S' : Aside _ := S
  have H2 : Aside _ := h2
  clear S h2
  go_wp2_with fail
  go_end0
  exact ⟨rfl, d, S'.out, h1, H2.out⟩
end Go.Proofs.Ythenclenabcmgaa
