/-
  PutInt of the program and of the reference (3.1) writes the code of the plain law.
  Conditions: the string's length leaves room for a code.
-/
import Derived.Test.YthenclenabcmgaaPack
namespace Go.Proofs.Ythenclenabcmgaa
open Go.RowKit Go.Sort
set_option maxHeartbeats 1000000
set_option maxRecDepth 10000

theorem xor_ones (x : Nat) (hx : x < 18446744073709551616) : bits .xor .u64 (x : Int) 18446744073709551615 = 18446744073709551615 - (x : Int) := by
  show IntKind.u64.wrap ((BitVec.ofInt 64 (x : Int) ^^^ BitVec.ofInt 64 18446744073709551615).toNat : Int) = _
  have h1 : BitVec.ofInt 64 18446744073709551615 = BitVec.allOnes 64 := by decide
  rw [h1, BitVec.xor_allOnes, BitVec.toNat_not, ofInt_u64 x (by omega)]
  simp [IntKind.wrap, IntKind.bits, IntKind.signed]
  omega
theorem xor_none (x : Nat) (hx : x < 18446744073709551616) : bits .xor .u64 (x : Int) 0 = (x : Int) := by
  have := u64_xor_nat x 0 hx (by omega)
  simpa using this
theorem zz_prog {v : Int} (h1 : -9223372036854775808 ≤ v) (h2 : v ≤ 9223372036854775807) :
    bits BinOp.xor IntKind.u64 (IntKind.u64.wrap (IntKind.u64.wrap v * 2)) (IntKind.u64.wrap (v / 9223372036854775808)) = ((zz v : Nat) : Int) := by
  simp only [IntKind.wrap_u64]
  by_cases h0 : 0 ≤ v
  · have e1 : v / 9223372036854775808 % 18446744073709551616 = 0 := by omega
    have e2 : v % 18446744073709551616 * 2 % 18446744073709551616 = ((zz v : Nat) : Int) := by unfold zz; rw [if_pos h0]; omega
    rw [e1, e2, xor_none _ (zz_lt h1 h2)]
  · have e1 : v / 9223372036854775808 % 18446744073709551616 = 18446744073709551615 := by omega
    have e2 : v % 18446744073709551616 * 2 % 18446744073709551616 = ((18446744073709551615 - zz v : Nat) : Int) := by
      have := zz_lt h1 h2
      unfold zz at this ⊢; rw [if_neg h0] at this ⊢; omega
    have := zz_lt h1 h2
    rw [e1, e2, xor_ones _ (by omega)]
    omega
theorem or_128 (z : Nat) : bits .or .u8 ((z : Int) % 256) 128 = ((UInt8.ofNat (z % 128 + 128)).toNat : Int) := by
  rw [u8_of (by omega)]
  have e : ((z : Int) % 256) = ((z % 256 : Nat) : Int) := by omega
  rw [e]
  have h := u8_or_nat (z % 256) 128 (by omega) (by omega)
  rw [show ((128 : Nat) : Int) = 128 from rfl] at h
  rw [h]
  have : ∀ y, y < 256 → y ||| 128 = y % 128 + 128 := by decide
  rw [this _ (by omega)]
  omega

/-- What has been written, and what is left. -/
def PutRel (w : World) (s : ByteArray) (v : Int) (z : Nat) (o : Value) (wr : World) : Prop :=
  ∃ done g c, done ++ leb z = code v ∧ o = .slice (some ⟨g, 0, none⟩) (s.size + done.length) c ∧ BRow wr w.heap.size o (s.data.toList ++ done) ∧ Ext w wr
theorem ones_xor (x : Nat) (hx : x < 18446744073709551616) : bits .xor .u64 18446744073709551615 (x : Int) = 18446744073709551615 - (x : Int) := by
  show IntKind.u64.wrap ((BitVec.ofInt 64 18446744073709551615 ^^^ BitVec.ofInt 64 (x : Int)).toNat : Int) = _
  have h1 : BitVec.ofInt 64 18446744073709551615 = BitVec.allOnes 64 := by decide
  rw [h1, BitVec.allOnes_xor, BitVec.toNat_not, ofInt_u64 x (by omega)]
  simp [IntKind.wrap, IntKind.bits, IntKind.signed]
  omega
theorem zz_ref {v : Int} (h1 : -9223372036854775808 ≤ v) (h2 : v ≤ 9223372036854775807) (h0 : v < 0) :
    bits BinOp.xor IntKind.u64 IntKind.u64.max (IntKind.u64.wrap (IntKind.u64.wrap v * 2)) = ((zz v : Nat) : Int) := by
  simp only [IntKind.wrap_u64]
  have e2 : v % 18446744073709551616 * 2 % 18446744073709551616 = ((18446744073709551615 - zz v : Nat) : Int) := by
    have := zz_lt h1 h2
    unfold zz at this ⊢; rw [if_neg (by omega)] at this ⊢; omega
  have := zz_lt h1 h2
  have e3 : IntKind.u64.max = 18446744073709551615 := by decide
  rw [e2, e3, ones_xor _ (by omega)]
  omega
end Go.Proofs.Ythenclenabcmgaa
