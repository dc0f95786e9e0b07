/-
  GetInt of the program and of the reference (3.2) reads what the plain law reads.
  Conditions: the index lies in the string, or at its end.
-/
import Derived.Test.YthenclenabcmgaaPutInt
namespace Go.Proofs.Ythenclenabcmgaa
open Go.RowKit Go.Sort
set_option maxHeartbeats 2000000
set_option maxRecDepth 10000

theorem pow7 (k : Nat) : (2 : Nat) ^ (7 * k) = 128 ^ k := by rw [Nat.pow_mul]
theorem and_127 {n : Nat} (hn : n < 256) : bits .and .u8 (n : Int) 127 = ((n % 128 : Nat) : Int) := by
  have h := u8_and_nat n 127 hn (by omega)
  rw [show ((127 : Nat) : Int) = 127 from rfl] at h
  rw [h]
  have : ∀ y, y < 256 → y &&& 127 = y % 128 := by decide
  rw [this n hn]
theorem or_step {acc k n : Nat} (ha : acc < 128 ^ k) (hk : k ≤ 9) (hn : n < 256) (h9 : k = 9 → n ≤ 1) :
    bits .or .u64 (acc : Int) (IntKind.u64.wrap (IntKind.u64.wrap (bits .and .u8 (n : Int) 127) * 2 ^ (7 * k))) = ((acc + n % 128 * 128 ^ k : Nat) : Int) := by
  have hm : n % 128 < 128 := Nat.mod_lt _ (by omega)
  have hp : (128 : Nat) ^ k ≤ 128 ^ 9 := Nat.pow_le_pow_right (by omega) hk
  have hb : n % 128 * 128 ^ k < 18446744073709551616 := by
    by_cases h : k = 9
    · subst h
      have := h9 rfl
      have : n % 128 ≤ 1 := by omega
      have := Nat.mul_le_mul_right (128 ^ 9) this
      omega
    · have h8 : (128 : Nat) ^ k ≤ 128 ^ 8 := Nat.pow_le_pow_right (by omega) (by omega)
      have := Nat.mul_le_mul (show n % 128 ≤ 127 by omega) h8
      omega
  have ha2 : acc < 18446744073709551616 := by omega
  have e1 : IntKind.u64.wrap (IntKind.u64.wrap (bits .and .u8 (n : Int) 127) * 2 ^ (7 * k)) = ((n % 128 * 128 ^ k : Nat) : Int) := by
    have e0 : ((n % 128 : Nat) : Int) % 18446744073709551616 = ((n % 128 : Nat) : Int) := by omega
    have e2 : ((n % 128 : Nat) : Int) * 2 ^ (7 * k) = ((n % 128 * 128 ^ k : Nat) : Int) := by
      rw [← pow7 k, Int.natCast_mul, Int.natCast_pow]; rfl
    rw [and_127 hn, IntKind.wrap_u64, IntKind.wrap_u64, e0, e2]
    obtain ⟨q, hq⟩ : ∃ q, n % 128 * 128 ^ k = q := ⟨_, rfl⟩
    rw [hq] at hb ⊢
    omega
  rw [e1]
  have h := u64_or_nat acc (n % 128 * 128 ^ k) ha2 hb
  rw [h]
  congr 1
  rw [← pow7, Nat.or_comm, ← Nat.shiftLeft_eq, Nat.add_comm]
  exact (Nat.shiftLeft_add_eq_or_of_lt (by rw [pow7]; exact ha) _).symm
theorem xor_i64_zero (a : Nat) (ha : a < 9223372036854775808) : bits .xor .i64 (a : Int) 0 = (a : Int) := by
  show IntKind.i64.wrap ((BitVec.ofInt 64 (a : Int) ^^^ BitVec.ofInt 64 0).toNat : Int) = _
  have h1 : BitVec.ofInt 64 0 = 0#64 := by decide
  rw [h1, BitVec.xor_zero, ofInt_u64 a (by omega)]
  simp [IntKind.wrap, IntKind.bits, IntKind.signed]
  omega
theorem xor_i64_ones (a : Nat) (ha : a < 9223372036854775808) : bits .xor .i64 (a : Int) (-1) = -1 - (a : Int) := by
  show IntKind.i64.wrap ((BitVec.ofInt 64 (a : Int) ^^^ BitVec.ofInt 64 (-1)).toNat : Int) = _
  have h1 : BitVec.ofInt 64 (-1) = BitVec.allOnes 64 := by decide
  rw [h1, BitVec.xor_allOnes, BitVec.toNat_not, ofInt_u64 a (by omega)]
  simp [IntKind.wrap, IntKind.bits, IntKind.signed]
  omega
theorem unzz_prog {z : Nat} (hz : z < 18446744073709551616) : bits BinOp.xor IntKind.i64 (wrap64 ((z : Int) / 2)) (wrap64 (-wrap64 (bits BinOp.and IntKind.u64 (z : Int) 1))) = unzz z := by
  have e1 : wrap64 ((z : Int) / 2) = ((z / 2 : Nat) : Int) := by unfold wrap64; omega
  rw [and_one_u64 (z : Int) (by omega) (by omega), e1]
  unfold unzz
  by_cases h : z % 2 = 0
  · have e2 : (z : Int) % 2 = 0 := by omega
    rw [e2, if_pos h]
    have e3 : wrap64 (-wrap64 0) = 0 := by simp [wrap64]
    rw [e3]
    exact xor_i64_zero _ (by omega)
  · have e2 : (z : Int) % 2 = 1 := by omega
    rw [e2, if_neg h]
    have e3 : wrap64 (-wrap64 1) = -1 := by simp [wrap64]
    rw [e3, xor_i64_ones _ (by omega)]
    omega
/-- What GetInt returns. -/
def GetPost (s : ByteArray) (at_ : Nat) (w : World) (e : Ending) (w' : World) : Prop :=
  w' = w ∧ ((∃ v k, getI (s.data.toList.drop at_) = some (v, k) ∧ e = .returned (.tuple #[.int .i64 v, .int .i64 ((at_ + k : Nat) : Int), .int .i64 0])) ∨
   (getI (s.data.toList.drop at_) = none ∧ ∃ c : Int, c ≠ 0 ∧ e = .returned (.tuple #[.int .i64 0, .int .i64 (at_ : Int), .int .i64 c])))
def GetRel (L : List UInt8) (acc k : Nat) : Prop := acc < 128 ^ k ∧ getB 0 0 L = getB k acc (L.drop k)
theorem unzz_ref {z : Nat} (hz : z < 18446744073709551616) : (bits BinOp.and IntKind.u64 (z : Int) 1 = 0 ∧ (z : Int) / 2 = unzz z) ∨ (bits BinOp.and IntKind.u64 (z : Int) 1 = 1 ∧ bits .xor .i64 (-1) ((z : Int) / 2) = unzz z ∧ True) := by
  rw [and_one_u64 (z : Int) (by omega) (by omega)]
  unfold unzz
  by_cases h : z % 2 = 0
  · refine .inl ⟨by omega, ?_⟩
    rw [if_pos h]; omega
  · refine .inr ⟨by omega, ?_, trivial⟩
    rw [if_neg h]
    have e : (z : Int) / 2 = ((z / 2 : Nat) : Int) := by omega
    rw [e, i64_not _ (by omega)]
    omega
end Go.Proofs.Ythenclenabcmgaa
