/-
  GetInt of the program and of the reference (3.2) reads what the plain law reads.
  Conditions: the index lies in the string, or at its end.
-/
import Derived.Test.YtfbhbnolnjcaiaaPutInt
namespace Go.Proofs.Ytfbhbnolnjcaiaa
open Go.RowKit Go.Sort
set_option maxHeartbeats 2000000
set_option maxRecDepth 10000

theorem pow7 (k : Nat) : (2 : Nat) ^ (7 * k) = 128 ^ k := by rw [Nat.pow_mul]
theorem and_127 {n : Nat} (hn : n < 256) : bits .and .u8 (n : Int) 127 = ((n % 128 : Nat) : Int) := by
  have h := u8_and_nat n 127 hn (by omega)
  rw [show ((127 : Nat) : Int) = 127 from rfl] at h
  rw [h]
  have : ∀ y, y < 256 → y &&& 127 = y % 128 := by decide
  rw [this n hn]
theorem or_step {acc k n : Nat} (ha : acc < 128 ^ k) (hk : k ≤ 9) (hn : n < 256) (h9 : k = 9 → n ≤ 1) :
    bits .or .u64 (acc : Int) (IntKind.u64.wrap (IntKind.u64.wrap (bits .and .u8 (n : Int) 127) * 2 ^ (7 * k))) = ((acc + n % 128 * 128 ^ k : Nat) : Int) := by
  have hm : n % 128 < 128 := Nat.mod_lt _ (by omega)
  have hp : (128 : Nat) ^ k ≤ 128 ^ 9 := Nat.pow_le_pow_right (by omega) hk
  have hb : n % 128 * 128 ^ k < 18446744073709551616 := by
    by_cases h : k = 9
    · subst h
      have := h9 rfl
      have : n % 128 ≤ 1 := by omega
      have := Nat.mul_le_mul_right (128 ^ 9) this
      omega
    · have h8 : (128 : Nat) ^ k ≤ 128 ^ 8 := Nat.pow_le_pow_right (by omega) (by omega)
      have := Nat.mul_le_mul (show n % 128 ≤ 127 by omega) h8
      omega
  have ha2 : acc < 18446744073709551616 := by omega
  have e1 : IntKind.u64.wrap (IntKind.u64.wrap (bits .and .u8 (n : Int) 127) * 2 ^ (7 * k)) = ((n % 128 * 128 ^ k : Nat) : Int) := by
    have e0 : ((n % 128 : Nat) : Int) % 18446744073709551616 = ((n % 128 : Nat) : Int) := by omega
    have e2 : ((n % 128 : Nat) : Int) * 2 ^ (7 * k) = ((n % 128 * 128 ^ k : Nat) : Int) := by
      rw [← pow7 k, Int.natCast_mul, Int.natCast_pow]; rfl
    rw [and_127 hn, IntKind.wrap_u64, IntKind.wrap_u64, e0, e2]
    obtain ⟨q, hq⟩ : ∃ q, n % 128 * 128 ^ k = q := ⟨_, rfl⟩
    rw [hq] at hb ⊢
    omega
  rw [e1]
  have h := u64_or_nat acc (n % 128 * 128 ^ k) ha2 hb
  rw [h]
  congr 1
  rw [← pow7, Nat.or_comm, ← Nat.shiftLeft_eq, Nat.add_comm]
  exact (Nat.shiftLeft_add_eq_or_of_lt (by rw [pow7]; exact ha) _).symm
theorem xor_i64_zero (a : Nat) (ha : a < 9223372036854775808) : bits .xor .i64 (a : Int) 0 = (a : Int) := by
  show IntKind.i64.wrap ((BitVec.ofInt 64 (a : Int) ^^^ BitVec.ofInt 64 0).toNat : Int) = _
  have h1 : BitVec.ofInt 64 0 = 0#64 := by decide
  rw [h1, BitVec.xor_zero, ofInt_u64 a (by omega)]
  simp [IntKind.wrap, IntKind.bits, IntKind.signed]
  omega
theorem xor_i64_ones (a : Nat) (ha : a < 9223372036854775808) : bits .xor .i64 (a : Int) (-1) = -1 - (a : Int) := by
  show IntKind.i64.wrap ((BitVec.ofInt 64 (a : Int) ^^^ BitVec.ofInt 64 (-1)).toNat : Int) = _
  have h1 : BitVec.ofInt 64 (-1) = BitVec.allOnes 64 := by decide
  rw [h1, BitVec.xor_allOnes, BitVec.toNat_not, ofInt_u64 a (by omega)]
  simp [IntKind.wrap, IntKind.bits, IntKind.signed]
  omega
theorem unzz_prog {z : Nat} (hz : z < 18446744073709551616) : bits BinOp.xor IntKind.i64 (wrap64 ((z : Int) / 2)) (wrap64 (-wrap64 (bits BinOp.and IntKind.u64 (z : Int) 1))) = unzz z := by
  have e1 : wrap64 ((z : Int) / 2) = ((z / 2 : Nat) : Int) := by unfold wrap64; omega
  rw [and_one_u64 (z : Int) (by omega) (by omega), e1]
  unfold unzz
  by_cases h : z % 2 = 0
  · have e2 : (z : Int) % 2 = 0 := by omega
    rw [e2, if_pos h]
    have e3 : wrap64 (-wrap64 0) = 0 := by simp [wrap64]
    rw [e3]
    exact xor_i64_zero _ (by omega)
  · have e2 : (z : Int) % 2 = 1 := by omega
    rw [e2, if_neg h]
    have e3 : wrap64 (-wrap64 1) = -1 := by simp [wrap64]
    rw [e3, xor_i64_ones _ (by omega)]
    omega
/-- What GetInt returns. -/
def GetPost (s : ByteArray) (at_ : Nat) (w : World) (e : Ending) (w' : World) : Prop :=
  w' = w ∧ ((∃ v k, getI (s.data.toList.drop at_) = some (v, k) ∧ e = .returned (.tuple #[.int .i64 v, .int .i64 ((at_ + k : Nat) : Int), .int .i64 0])) ∨
   (getI (s.data.toList.drop at_) = none ∧ ∃ c : Int, c ≠ 0 ∧ e = .returned (.tuple #[.int .i64 0, .int .i64 (at_ : Int), .int .i64 c])))
def GetRel (L : List UInt8) (acc k : Nat) : Prop := acc < 128 ^ k ∧ getB 0 0 L = getB k acc (L.drop k)
theorem getInt_any (s : ByteArray) (at_ : Nat) (hat : at_ ≤ s.size) (hs : s.size ≤ 140737488355328) (w : World) :
    Calls Try.prog 127 #[.string s, .int .i64 (at_ : Int)] w (GetPost s at_ w) := by
  have hd0 : decide ((at_ : Int) < 0) = false := by simp
  have hd1 : decide ((s.size : Int) < (at_ : Int)) = false := by simp; omega
  have hd2 : ¬ ((s.size : Int) < (at_ : Int)) := by omega
  obtain ⟨L, hL⟩ : ∃ L, s.data.toList.drop at_ = L := ⟨_, rfl⟩
  have hLl : L.length = s.size - at_ := by rw [← hL, List.length_drop]; rfl
  have HL := Lib.hid hL
  clear hL
  go_enter Try.func127, Try.ntmps127
  go_wp2_with fail
  go_loopw [7, 8] (fun x i wr => ∃ acc k : Nat, k ≤ 9 ∧ x = .int .u64 (acc : Int) ∧ i = .int .i64 (k : Int) ∧ GetRel L acc k ∧ at_ + k ≤ s.size ∧ wr = w) (fun _ i _ => (10 - intOf i).toNat)
  case atStart => exact ⟨0, 0, by omega, rfl, rfl, ⟨by simp, by simp⟩, by omega, rfl⟩
  case round =>
    obtain ⟨acc, k, hk, rfl, rfl, hrel, hkl, rfl⟩ := hrel
    have Hrel := Lib.hid hrel
    clear hrel
    by_cases hlt : at_ + k < s.size
    · have hd3 : decide ((s.size : Int) ≤ (at_ : Int) + (k : Int)) = false := by simp; omega
      have hd4 : ¬ ((s.size : Int) ≤ (at_ : Int) + (k : Int)) := by omega
      obtain ⟨c, hc⟩ : ∃ c, s.data.toList[at_ + k]? = some c := ⟨_, List.getElem?_eq_getElem (by simpa using hlt)⟩
      have hlv : ∀ h, (s[at_ + k]'h).toNat = c.toNat := fun h => by
        have : s[at_ + k] = c := by
          obtain ⟨h1, h2⟩ := List.getElem?_eq_some_iff.1 hc
          rw [← h2]; simp [ByteArray.getElem_eq_getElem_data]
        rw [this]
      have hstep : L.drop k = c :: L.drop (k + 1) := by
        rw [← HL.out, List.drop_drop, List.drop_drop]
        rw [List.drop_eq_getElem_cons (by simpa using hlt)]
        congr 1
        obtain ⟨h1, h2⟩ := List.getElem?_eq_some_iff.1 hc
        exact h2
      have hc256 := UInt8.toNat_lt c
      obtain ⟨n, hn⟩ : ∃ n, c.toNat = n := ⟨_, rfl⟩
      rw [hn] at hlv hc256
      have Hn := Lib.hid hn
      have Hstep := Lib.hid hstep
      have hget : getB k acc (L.drop k) = if k = 9 ∧ 1 < n then none else if 128 ≤ n then getB (k + 1) (acc + n % 128 * 128 ^ k) (L.drop (k + 1)) else if n = 0 ∧ 0 < k then none else some (acc + n * 128 ^ k, k + 1) := by
        rw [hstep, getB, hn]
      have hI : getI L = (getB k acc (L.drop k)).map fun p => (unzz p.1, p.2) := by unfold getI; rw [Hrel.out.2]
      rw [hget] at hI
      have HI := Lib.hid hI
      clear hc hstep hn hget hI
      by_cases hA : k = 9 ∧ 1 < n
      · obtain ⟨rfl, hn1⟩ := hA
        have Hno := Lib.hid (show getI L = none by rw [HI.out, if_pos ⟨rfl, hn1⟩]; rfl)
        clear HI
        go_wp2_with fail
        go_ret3
        exact ⟨rfl, .inr ⟨by rw [HL.out]; exact Hno.out, 4, by omega, rfl⟩⟩
      · by_cases hB : 128 ≤ n
        · have hk9 : ¬ k = 9 := fun e => hA ⟨e, by omega⟩
          have hk9' : ((k : Int) == 9) = false := by simp; omega
          have hor := or_step (n := n) Hrel.out.1 hk hc256 (fun e => absurd e hk9)
          have hlt2 : acc + n % 128 * 128 ^ k < 128 ^ (k + 1) := by
            have h1 := Hrel.out.1
            have h2 := Nat.mul_le_mul_right (128 ^ k) (show n % 128 ≤ 127 by omega)
            rw [Nat.pow_succ]; omega
          have hp : (128 : Nat) ^ (k + 1) ≤ 128 ^ 9 := Nat.pow_le_pow_right (by omega) (by omega)
          have hrel2 : getB 0 0 L = getB (k + 1) (acc + n % 128 * 128 ^ k) (L.drop (k + 1)) := by
            rw [Hrel.out.2, Hstep.out, getB, Hn.out, if_neg hA, if_pos hB]
          obtain ⟨z, hz⟩ : ∃ z, acc + n % 128 * 128 ^ k = z := ⟨_, rfl⟩
          rw [hz] at hor hlt2 hrel2
          have Hend := Lib.hid (show GetRel L z (k + 1) from ⟨hlt2, hrel2⟩)
          clear hz hlt2 hrel2 hp hA HI
          go_wp2_with fail
          go_roundw
          case rel => exact ⟨z, k + 1, by omega, rfl, by go_num, Hend.out, by omega, trivial⟩
          case measure => simp [intOf]; omega
        · by_cases hC : n = 0 ∧ 0 < k
          · obtain ⟨rfl, hk0⟩ := hC
            have Hno := Lib.hid (show getI L = none by rw [HI.out, if_neg hA, if_neg hB, if_pos ⟨rfl, hk0⟩]; rfl)
            clear HI hA
            go_wp2_with fail
            all_goals (go_ret3; exact ⟨rfl, .inr ⟨by rw [HL.out]; exact Hno.out, 4, by omega, rfl⟩⟩)
          · have hor := or_step (n := n) Hrel.out.1 hk hc256 (fun e => by have := fun h => hA ⟨e, h⟩; omega)
            have hnm : n % 128 = n := by omega
            rw [hnm] at hor
            have hz64 : acc + n * 128 ^ k < 18446744073709551616 := by
              have h1 := Hrel.out.1
              have hp : (128 : Nat) ^ k ≤ 128 ^ 9 := Nat.pow_le_pow_right (by omega) hk
              by_cases h : k = 9
              · have h2 : n ≤ 1 := by have := fun h' => hA ⟨h, h'⟩; omega
                subst h
                have := Nat.mul_le_mul_right (128 ^ 9) h2
                omega
              · have h8 : (128 : Nat) ^ k ≤ 128 ^ 8 := Nat.pow_le_pow_right (by omega) (by omega)
                have := Nat.mul_le_mul (show n ≤ 127 by omega) h8
                omega
            have Hyes := Lib.hid (show getI L = some (unzz (acc + n * 128 ^ k), k + 1) by rw [HI.out, if_neg hA, if_neg hB, if_neg hC]; rfl)
            obtain ⟨z, hz⟩ : ∃ z, acc + n * 128 ^ k = z := ⟨_, rfl⟩
            rw [hz] at hor hz64 Hyes
            have hfin := unzz_prog hz64
            have hfin2 : bits BinOp.xor IntKind.i64 ((z : Int) / 2) (wrap64 (-wrap64 (bits BinOp.and IntKind.u64 (z : Int) 1))) = unzz z := by
              rw [← hfin]; congr 1; unfold wrap64; omega
            have Hfin := Lib.hid hfin
            have Hfin2 := Lib.hid hfin2
            clear hfin hfin2
            clear hz HI hnm
            by_cases h0 : n = 0
            · subst h0
              obtain rfl : k = 0 := by have := fun h => hC ⟨rfl, h⟩; omega
              have hlv0 : ∀ h, (s[at_]'h).toNat = 0 := fun h => hlv h
              have hor3 : bits .or .u64 (acc : Int) (IntKind.u64.wrap (IntKind.u64.wrap (bits .and .u8 0 127))) = (z : Int) := by simpa using hor
              clear hA hC hlv hor
              go_wp2_with fail
              go_ret3
              exact ⟨rfl, .inl ⟨_, _, by rw [HL.out]; exact Hyes.out, by first | (rw [Hfin.out]; rfl) | (rw [Hfin2.out]; rfl)⟩⟩
            · by_cases h9 : k = 9
              · obtain rfl : n = 1 := by have := fun h => hA ⟨h9, h⟩; omega
                subst h9
                have hor2 : bits .or .u64 (acc : Int) (IntKind.u64.wrap (IntKind.u64.wrap (bits .and .u8 1 127) * 9223372036854775808)) = (z : Int) := hor
                clear hA hC hor
                go_wp2_with fail
                go_ret3
                exact ⟨rfl, .inl ⟨_, _, by rw [HL.out]; exact Hyes.out, by first | (rw [Hfin.out]; rfl) | (rw [Hfin2.out]; rfl)⟩⟩
              · clear hA hC
                go_wp2_with fail
                go_ret3
                exact ⟨rfl, .inl ⟨_, _, by rw [HL.out]; exact Hyes.out, by first | (rw [Hfin.out]; rfl) | (rw [Hfin2.out]; rfl)⟩⟩
    · have hd3 : decide ((s.size : Int) ≤ (at_ : Int) + (k : Int)) = true := by simp; omega
      have hd4 : ((s.size : Int) ≤ (at_ : Int) + (k : Int)) := by omega
      have Hno := Lib.hid (show getI L = none by unfold getI; rw [Hrel.out.2, List.drop_eq_nil_of_le (by omega)]; rfl)
      go_wp2_with fail
      go_ret3
      exact ⟨rfl, .inr ⟨by rw [HL.out]; exact Hno.out, 5, by omega, rfl⟩⟩
theorem unzz_ref {z : Nat} (hz : z < 18446744073709551616) : (bits BinOp.and IntKind.u64 (z : Int) 1 = 0 ∧ (z : Int) / 2 = unzz z) ∨ (bits BinOp.and IntKind.u64 (z : Int) 1 = 1 ∧ bits .xor .i64 (-1) ((z : Int) / 2) = unzz z ∧ True) := by
  rw [and_one_u64 (z : Int) (by omega) (by omega)]
  unfold unzz
  by_cases h : z % 2 = 0
  · refine .inl ⟨by omega, ?_⟩
    rw [if_pos h]; omega
  · refine .inr ⟨by omega, ?_, trivial⟩
    rw [if_neg h]
    have e : (z : Int) / 2 = ((z / 2 : Nat) : Int) := by omega
    rw [e, i64_not _ (by omega)]
    omega
theorem rgetInt_any (s : ByteArray) (at_ : Nat) (hat : at_ ≤ s.size) (hs : s.size ≤ 140737488355328) (w : World) :
    Calls Try.prog 128 #[.string s, .int .i64 (at_ : Int)] w (GetPost s at_ w) := by
  have hd0 : decide ((at_ : Int) < 0) = false := by simp
  have hd1 : decide ((s.size : Int) < (at_ : Int)) = false := by simp; omega
  have hd2 : ¬ ((s.size : Int) < (at_ : Int)) := by omega
  obtain ⟨L, hL⟩ : ∃ L, s.data.toList.drop at_ = L := ⟨_, rfl⟩
  have hLl : L.length = s.size - at_ := by rw [← hL, List.length_drop]; rfl
  have HL := Lib.hid hL
  clear hL
  go_enter Try.func128, Try.ntmps128
  go_wp2_with fail
  go_loopw [7, 8] (fun x i wr => ∃ acc k : Nat, k ≤ 9 ∧ x = .int .u64 (acc : Int) ∧ i = .int .i64 (k : Int) ∧ GetRel L acc k ∧ at_ + k ≤ s.size ∧ wr = w) (fun _ i _ => (10 - intOf i).toNat)
  case atStart => exact ⟨0, 0, by omega, rfl, rfl, ⟨by simp, by simp⟩, by omega, rfl⟩
  case round =>
    obtain ⟨acc, k, hk, rfl, rfl, hrel, hkl, rfl⟩ := hrel
    have Hrel := Lib.hid hrel
    have hd10 : decide ((k : Int) < 10) = true := by simp; omega
    clear hrel
    by_cases hlt : at_ + k < s.size
    · have hd3 : decide ((s.size : Int) ≤ (at_ : Int) + (k : Int)) = false := by simp; omega
      have hd4 : ¬ ((s.size : Int) ≤ (at_ : Int) + (k : Int)) := by omega
      obtain ⟨c, hc⟩ : ∃ c, s.data.toList[at_ + k]? = some c := ⟨_, List.getElem?_eq_getElem (by simpa using hlt)⟩
      have hlv : ∀ h, (s[at_ + k]'h).toNat = c.toNat := fun h => by
        have : s[at_ + k] = c := by
          obtain ⟨h1, h2⟩ := List.getElem?_eq_some_iff.1 hc
          rw [← h2]; simp [ByteArray.getElem_eq_getElem_data]
        rw [this]
      have hstep : L.drop k = c :: L.drop (k + 1) := by
        rw [← HL.out, List.drop_drop, List.drop_drop]
        rw [List.drop_eq_getElem_cons (by simpa using hlt)]
        congr 1
        obtain ⟨h1, h2⟩ := List.getElem?_eq_some_iff.1 hc
        exact h2
      have hc256 := UInt8.toNat_lt c
      obtain ⟨n, hn⟩ : ∃ n, c.toNat = n := ⟨_, rfl⟩
      rw [hn] at hlv hc256
      have Hn := Lib.hid hn
      have Hstep := Lib.hid hstep
      have hget : getB k acc (L.drop k) = if k = 9 ∧ 1 < n then none else if 128 ≤ n then getB (k + 1) (acc + n % 128 * 128 ^ k) (L.drop (k + 1)) else if n = 0 ∧ 0 < k then none else some (acc + n * 128 ^ k, k + 1) := by
        rw [hstep, getB, hn]
      have hI : getI L = (getB k acc (L.drop k)).map fun p => (unzz p.1, p.2) := by unfold getI; rw [Hrel.out.2]
      rw [hget] at hI
      have HI := Lib.hid hI
      clear hc hstep hn hget hI
      by_cases hA : k = 9 ∧ 1 < n
      · obtain ⟨rfl, hn1⟩ := hA
        have Hno := Lib.hid (show getI L = none by rw [HI.out, if_pos ⟨rfl, hn1⟩]; rfl)
        clear HI
        go_wp2_with fail
        go_ret3
        exact ⟨rfl, .inr ⟨by rw [HL.out]; exact Hno.out, 4, by omega, rfl⟩⟩
      · by_cases hB : 128 ≤ n
        · have hk9 : ¬ k = 9 := fun e => hA ⟨e, by omega⟩
          have hk9' : ((k : Int) == 9) = false := by simp; omega
          have hor := or_step (n := n) Hrel.out.1 hk hc256 (fun e => absurd e hk9)
          have hlt2 : acc + n % 128 * 128 ^ k < 128 ^ (k + 1) := by
            have h1 := Hrel.out.1
            have h2 := Nat.mul_le_mul_right (128 ^ k) (show n % 128 ≤ 127 by omega)
            rw [Nat.pow_succ]; omega
          have hp : (128 : Nat) ^ (k + 1) ≤ 128 ^ 9 := Nat.pow_le_pow_right (by omega) (by omega)
          have hrel2 : getB 0 0 L = getB (k + 1) (acc + n % 128 * 128 ^ k) (L.drop (k + 1)) := by
            rw [Hrel.out.2, Hstep.out, getB, Hn.out, if_neg hA, if_pos hB]
          obtain ⟨z, hz⟩ : ∃ z, acc + n % 128 * 128 ^ k = z := ⟨_, rfl⟩
          rw [hz] at hor hlt2 hrel2
          have Hend := Lib.hid (show GetRel L z (k + 1) from ⟨hlt2, hrel2⟩)
          clear hz hlt2 hrel2 hp hA HI
          go_wp2_with fail
          go_roundw
          case rel => exact ⟨z, k + 1, by omega, rfl, by go_num, Hend.out, by omega, trivial⟩
          case measure => simp [intOf]; omega
        · by_cases hC : n = 0 ∧ 0 < k
          · obtain ⟨rfl, hk0⟩ := hC
            have Hno := Lib.hid (show getI L = none by rw [HI.out, if_neg hA, if_neg hB, if_pos ⟨rfl, hk0⟩]; rfl)
            clear HI hA
            go_wp2_with fail
            all_goals (go_ret3; exact ⟨rfl, .inr ⟨by rw [HL.out]; exact Hno.out, 4, by omega, rfl⟩⟩)
          · have hor := or_step (n := n) Hrel.out.1 hk hc256 (fun e => by have := fun h => hA ⟨e, h⟩; omega)
            have hnm : n % 128 = n := by omega
            rw [hnm] at hor
            have hz64 : acc + n * 128 ^ k < 18446744073709551616 := by
              have h1 := Hrel.out.1
              have hp : (128 : Nat) ^ k ≤ 128 ^ 9 := Nat.pow_le_pow_right (by omega) hk
              by_cases h : k = 9
              · have h2 : n ≤ 1 := by have := fun h' => hA ⟨h, h'⟩; omega
                subst h
                have := Nat.mul_le_mul_right (128 ^ 9) h2
                omega
              · have h8 : (128 : Nat) ^ k ≤ 128 ^ 8 := Nat.pow_le_pow_right (by omega) (by omega)
                have := Nat.mul_le_mul (show n ≤ 127 by omega) h8
                omega
            have Hyes := Lib.hid (show getI L = some (unzz (acc + n * 128 ^ k), k + 1) by rw [HI.out, if_neg hA, if_neg hB, if_neg hC]; rfl)
            obtain ⟨z, hz⟩ : ∃ z, acc + n * 128 ^ k = z := ⟨_, rfl⟩
            rw [hz] at hor hz64 Hyes
            have Hz64 := Lib.hid hz64
            clear hz HI hnm
            by_cases h0 : n = 0
            · subst h0
              obtain rfl : k = 0 := by have := fun h => hC ⟨rfl, h⟩; omega
              have hlv0 : ∀ h, (s[at_]'h).toNat = 0 := fun h => hlv h
              have hor3 : bits .or .u64 (acc : Int) (IntKind.u64.wrap (IntKind.u64.wrap (bits .and .u8 0 127))) = (z : Int) := by simpa using hor
              clear hA hC hlv hor
              rcases unzz_ref Hz64.out with ⟨hone, hfin⟩ | ⟨hone, hfin, hfin2⟩ <;> (have Hfin := Lib.hid hfin; clear hfin; (try clear hfin2); go_wp2_with fail; all_goals (go_ret3; exact ⟨rfl, .inl ⟨_, _, by rw [HL.out]; exact Hyes.out, by rw [← Hfin.out]; rfl⟩⟩))
            · by_cases h9 : k = 9
              · obtain rfl : n = 1 := by have := fun h => hA ⟨h9, h⟩; omega
                subst h9
                have hor2 : bits .or .u64 (acc : Int) (IntKind.u64.wrap (IntKind.u64.wrap (bits .and .u8 1 127) * 9223372036854775808)) = (z : Int) := hor
                clear hA hC hor
                rcases unzz_ref Hz64.out with ⟨hone, hfin⟩ | ⟨hone, hfin, hfin2⟩ <;> (have Hfin := Lib.hid hfin; clear hfin; (try clear hfin2); go_wp2_with fail; all_goals (go_ret3; exact ⟨rfl, .inl ⟨_, _, by rw [HL.out]; exact Hyes.out, by rw [← Hfin.out]; rfl⟩⟩))
              · clear hA hC
                rcases unzz_ref Hz64.out with ⟨hone, hfin⟩ | ⟨hone, hfin, hfin2⟩ <;> (have Hfin := Lib.hid hfin; clear hfin; (try clear hfin2); go_wp2_with fail; all_goals (go_ret3; exact ⟨rfl, .inl ⟨_, _, by rw [HL.out]; exact Hyes.out, by rw [← Hfin.out]; rfl⟩⟩))
    · have hd3 : decide ((s.size : Int) ≤ (at_ : Int) + (k : Int)) = true := by simp; omega
      have hd4 : ((s.size : Int) ≤ (at_ : Int) + (k : Int)) := by omega
      have Hno := Lib.hid (show getI L = none by unfold getI; rw [Hrel.out.2, List.drop_eq_nil_of_le (by omega)]; rfl)
      go_wp2_with fail
      go_ret3
      exact ⟨rfl, .inr ⟨by rw [HL.out]; exact Hno.out, 5, by omega, rfl⟩⟩
end Go.Proofs.Ytfbhbnolnjcaiaa
