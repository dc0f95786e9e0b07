/-
  Walks of the library's stable sort: symMergeCmpFunc, where one side has one element.
  Conditions: the row holds; cmp answers by the key; the two sides are in order.
-/
import Derived.Test.YthenclenabcmgaaStabB
namespace Go.Proofs.Ythenclenabcmgaa
open Go.Shelf Go.RowKit Go.Lib Go.Sort
set_option maxHeartbeats 16000000
set_option maxRecDepth 1000000
variable {α : Type} [Inhabited α]

theorem half_of (i j : Nat) (h : i + j < 9223372036854775808) : (IntKind.u64.wrap ((i : Int) + (j : Int))) = ((i + j : Nat) : Int) := by
  simp [IntKind.wrap, IntKind.bits, IntKind.signed]; omega
def MergePost (enc : α → Value) (key : α → Int) (idx : α → Nat) (w0 : World) (sz blk off a b : Nat) (d : Array α) (e : Ending) (w' : World) : Prop :=
  e = .returned (.tuple #[]) ∧ ∃ d', SW enc w0 blk off d' w' ∧ d'.size = sz ∧ Merged key idx a b d d'

theorem merge_left_any (enc : α → Value) (key : α → Int) (idx : α → Nat) (sz blk off cap a b : Nat) (cb : Array Value) (d0 d : Array α) (w0 w : World) (hcmp : CmpLays1 Try.prog 24 cb enc (cfK key) blk off sz w0) (R : Row1 enc w0 blk off d0) (hs : d0.size = sz) (hd : d.size = sz) (S : SW enc w0 blk off d w)
    (hab : a + 1 ≤ b) (hb : b ≤ sz) (hsz : sz < 4611686018427387904) (hm : Mg key idx a (a + 1) b d) :
    Calls Try.prog 34 #[.slice (some ⟨blk, off, none⟩) sz cap, .int .i64 a, .int .i64 ((a + 1 : Nat) : Int), .int .i64 b, .func (.func 24) #[] cb] w (MergePost enc key idx w0 sz blk off a b d) := by
  have mixed := mixed_on
  have eg := enter_g
  have hcl0 := R.hO.cells
  simp only [Value.cells] at hcl0
  have hst := R.hO.store Try.prog
  have HC : Aside _ := hcmp
  have HM : Aside _ := hm
  have S0 : Aside (SW enc w0 blk off d w) := S
  clear S hcmp hm
  have q1 : ((a : Int) + 1 - (a : Int) == 1) = true := by simp; omega
  go_enter Try.func34, Try.ntmps34
  go_wp2_with fail
  go_loopg [10, 11] (b - (a + 1)) (fun g1 vi vj wr => ∃ (i j : Nat), vi = .int .i64 i ∧ vj = .int .i64 j ∧ a + 1 ≤ i ∧ i ≤ j ∧ j ≤ b ∧ j - i ≤ g1 ∧ Aside (SW enc w0 blk off d wr) ∧ Aside (∀ q, a + 1 ≤ q → q < i → ltK key d[q]! d[a]! = true) ∧ Aside (∀ q, j ≤ q → q < b → ltK key d[q]! d[a]! = false))
  case atStart => exact ⟨a + 1, b, rfl, rfl, by omega, by omega, by omega, by omega, S0, (show ∀ q, _ → _ → _ from fun q h1 h2 => by omega), (show ∀ q, _ → _ → _ from fun q h1 h2 => by omega)⟩
  case round =>
    clear S0
    obtain ⟨i, j, rfl, rfl, hai, hij, hjb, hg1, S1, HL, HH⟩ := hrel
    by_cases hlt : i < j
    · have hltz : (i : Int) < (j : Int) := by omega
      obtain ⟨c, hc1, hc2⟩ : ∃ c, i + j ≤ 2 * c + 1 ∧ 2 * c ≤ i + j := ⟨(i + j) / 2, by omega, by omega⟩
      have rc : ((i : Int) + (j : Int)) / 2 = (c : Int) := by omega
      have pc : (0 : Int) ≤ (c : Int) := by omega
      have bc : (c : Int) < (sz : Int) := by omega
      have pa : (0 : Int) ≤ (a : Int) := by omega
      have ba : (a : Int) < (sz : Int) := by omega
      obtain ⟨x, hx⟩ : ∃ x, x = d[c]! := ⟨_, rfl⟩
      obtain ⟨y, hy⟩ : ∃ x, x = d[a]! := ⟨_, rfl⟩
      have la := S1.out.cl R (by omega) c (by omega)
      have lb := S1.out.cl R (by omega) a (by omega)
      rw [← hx] at la
      rw [← hy] at lb
      have hcm := S1.out.cmp HC.out (by omega) x y
      cases hlv : ltK key x y with
      | true =>
        have hv : cfK key x y < 0 := cfK_true hlv
        have hdv : decide (cfK key x y < 0) = true := decide_eq_true hv
        have HL2 : Aside (∀ q, a + 1 ≤ q → q < c + 1 → ltK key d[q]! d[a]! = true) := by
          show ∀ q, _ → _ → _
          intro q h1 h2
          have k1 := sorted_key HM.out.right h1 (show q ≤ c by omega) (by omega)
          rw [hx, hy] at hlv
          simp only [ltK, decide_eq_true_eq] at hlv ⊢
          omega
        clear hx hy HL hlv
        go_wp2_with fail
        go_quiet_grown (first | (go_at_fn 24; refine Calls.grown_of (hcm _ _)))
        have S2 : Aside (SW enc w0 blk off d (grow (wr.drewN nq) osq)) := S1.out.grown nq osq
        clear la lb hcm S1
        generalize grow (wr.drewN nq) osq = w2 at S2 ⊢
        clear nq osq
        go_wp2_with fail
        go_roundg (j - (c + 1))
        case measure => omega
        case rel => exact ⟨c + 1, j, by go_num, rfl, by omega, by omega, hjb, Nat.le_refl _, S2, HL2, HH⟩
      | false =>
        have hv : ¬ cfK key x y < 0 := cfK_false hlv
        have hdv : decide (cfK key x y < 0) = false := decide_eq_false hv
        have HH2 : Aside (∀ q, c ≤ q → q < b → ltK key d[q]! d[a]! = false) := by
          show ∀ q, _ → _ → _
          intro q h1 h2
          have k1 := sorted_key HM.out.right (show a + 1 ≤ c by omega) h1 h2
          rw [hx, hy] at hlv
          simp only [ltK, decide_eq_false_iff_not] at hlv ⊢
          omega
        clear hx hy HH hlv
        go_wp2_with fail
        go_quiet_grown (first | (go_at_fn 24; refine Calls.grown_of (hcm _ _)))
        have S2 : Aside (SW enc w0 blk off d (grow (wr.drewN nq) osq)) := S1.out.grown nq osq
        clear la lb hcm S1
        generalize grow (wr.drewN nq) osq = w2 at S2 ⊢
        clear nq osq
        go_wp2_with fail
        go_roundg (c - i)
        case measure => omega
        case rel => exact ⟨i, c, rfl, rfl, hai, by omega, by omega, Nat.le_refl _, S2, HL, HH2⟩
    · have hltz : ¬ (i : Int) < (j : Int) := by omega
      obtain rfl : i = j := by omega
      obtain ⟨t, ht, ht'⟩ : ∃ t, t + 1 ≤ i ∧ i ≤ t + 1 := ⟨i - 1, by omega, by omega⟩
      have rt : (i : Int) - 1 = (t : Int) := by omega
      go_wp2_with fail
      go_loopg [13] (t - a) (fun g1 vk wr2 => ∃ (k : Nat) (dk : Array α), vk = .int .i64 k ∧ a ≤ k ∧ k ≤ t ∧ t - k ≤ g1 ∧ dk.size = sz ∧ Aside (SW enc w0 blk off dk wr2) ∧ Aside (PermIn a b d dk) ∧ Aside (∀ p, a ≤ p → p < b → dk[p]! = if p < k then d[p + 1]! else if p = k then d[a]! else d[p]!))
      case atStart => exact ⟨a, d, rfl, Nat.le_refl _, by omega, by omega, hd, S1, permIn_refl _ _ _, (show ∀ p, _ → _ → _ from fun p h1 h2 => by rw [if_neg (by omega)]; split <;> first | rfl | (congr 1))⟩
      case round =>
        clear S1
        obtain ⟨k, dk, rfl, hak, hkt, hg2, hsk, SK, HP, HF⟩ := hrel
        by_cases hkl : k < t
        · have hkz : (k : Int) < (t : Int) := by omega
          have ea : ((k : Int) + 1).toNat = k + 1 := by omega
          have pk : (0 : Int) ≤ (k : Int) := by omega
          have bk : (k : Int) < (sz : Int) := by omega
          have pk1 : (0 : Int) ≤ (k : Int) + 1 := by omega
          have bk1 : (k : Int) + 1 < (sz : Int) := by omega
          obtain ⟨vx, hvx⟩ : ∃ v, v = dk[k]! := ⟨_, rfl⟩
          obtain ⟨vy, hvy⟩ : ∃ v, v = dk[k + 1]! := ⟨_, rfl⟩
          have S3 : Aside (SW enc w0 blk off (swp dk k (k + 1)) ((wr.setCell ⟨blk, off + k, none⟩ (enc vy)).setCell ⟨blk, off + (k + 1), none⟩ (enc vx)).drew) := by rw [hvx, hvy]; exact SK.out.swapped R k (k + 1) (by omega) (by omega)
          have ca := SK.out.c1 R (by omega) k (by omega)
          have cb2 := SK.out.c1 R (by omega) (k + 1) (by omega)
          have fa := SK.out.f1 R (by omega) k (by omega)
          have fb := SK.out.f1 R (by omega) (k + 1) (by omega)
          obtain ⟨u, cc⟩ := SK.out.c2 R (by omega) k (k + 1) (by omega) (by omega) (enc vy)
          rw [← hvx] at ca
          rw [← hvy] at cb2
          have HP2 : Aside (PermIn a b d (swp dk k (k + 1))) := permIn_trans _ _ _ _ _ HP.out (swp_permIn dk a b k (k + 1) (by omega) (by omega) (by omega) (by omega) (by omega))
          have HF2 : Aside (∀ p, a ≤ p → p < b → (swp dk k (k + 1))[p]! = if p < k + 1 then d[p + 1]! else if p = k + 1 then d[a]! else d[p]!) := by
            show ∀ p, _ → _ → _
            intro p h1 h2
            rw [swp_get dk (by omega) (by omega), HF.out k (by omega) (by omega), HF.out (k + 1) (by omega) (by omega), HF.out p h1 h2]
            simp only [Nat.lt_irrefl, if_false, if_true, show ¬ k + 1 < k by omega, show ¬ k + 1 = k by omega]
            by_cases e1 : p = k + 1
            · subst e1; simp
            · by_cases e2 : p = k
              · subst e2; simp
              · simp only [e1, e2, if_false]
                by_cases e3 : p < k
                · rw [if_pos e3, if_pos (by omega)]
                · rw [if_neg e3, if_neg (by omega)]
          have hsz2 : (swp dk k (k + 1)).size = sz := by rw [swp_size]; exact hsk
          clear SK HP HF hvx hvy
          go_wp2_with fail
          go_big_region_o
          clear ca cb2 cc fa fb
          generalize ((wr.setCell ⟨blk, off + k, none⟩ (enc vy)).setCell ⟨blk, off + (k + 1), none⟩ (enc vx)).drew = w3 at S3 ⊢
          go_wp2_with fail
          go_roundg (t - (k + 1))
          case measure => omega
          case rel => exact ⟨k + 1, swp dk k (k + 1), by go_num, by omega, by omega, Nat.le_refl _, hsz2, S3, HP2, HF2⟩
        · have hkz : ¬ (k : Int) < (t : Int) := by omega
          obtain rfl : k = t := by omega
          go_wp2_with fail
          go_end0
          exact ⟨rfl, dk, SK.out, hsk, merge_one_left HM.out hai hjb HP.out HL.out HH.out fun p h1 h2 => by rw [HF.out p h1 h2, show i - 1 = k by omega]⟩
end Go.Proofs.Ythenclenabcmgaa
