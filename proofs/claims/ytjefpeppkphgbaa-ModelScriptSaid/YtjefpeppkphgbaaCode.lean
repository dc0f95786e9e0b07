/-
  Plain law of the compact codes: what PutInt writes, GetInt reads again.
-/
import Derived.Test.YtjefpeppkphgbaaBase
namespace Go.Proofs.Ytjefpeppkphgbaa

/-- The bytes of a string as a list, and back. -/
def bs (l : List UInt8) : ByteArray := ⟨l.toArray⟩
theorem bs_list (l : List UInt8) : (bs l).data.toList = l := rfl
theorem list_bs (s : ByteArray) : bs s.data.toList = s := rfl
theorem bs_inj {a b : List UInt8} (h : bs a = bs b) : a = b := by
  have := congrArg (fun s : ByteArray => s.data.toList) h
  simpa [bs] using this
theorem bs_append (a b : List UInt8) : bs (a ++ b) = bs a ++ bs b := by
  apply ByteArray.ext
  simp [bs, ByteArray.data_append]
theorem bs_size (l : List UInt8) : (bs l).size = l.length := by simp [bs, ByteArray.size]

/-- The zigzag code of an integer. -/
def zz (v : Int) : Nat := if 0 ≤ v then (2 * v).toNat else (-2 * v - 1).toNat
def unzz (u : Nat) : Int := if u % 2 = 0 then (u / 2 : Nat) else -((u / 2 : Nat) : Int) - 1
theorem unzz_zz (v : Int) : unzz (zz v) = v := by
  unfold unzz zz
  split
  · rename_i h
    split <;> omega
  · rename_i h
    split <;> omega
theorem zz_lt {v : Int} (h1 : -9223372036854775808 ≤ v) (h2 : v ≤ 9223372036854775807) : zz v < 18446744073709551616 := by
  unfold zz; split <;> omega
theorem zz_unzz (u : Nat) : zz (unzz u) = u := by
  unfold unzz
  split
  · unfold zz; split <;> omega
  · unfold zz; split <;> omega

/-- The bytes of a code, seven bits each, the low ones first. -/
def leb (u : Nat) : List UInt8 :=
  if u < 128 then [UInt8.ofNat u] else UInt8.ofNat (u % 128 + 128) :: leb (u / 128)
termination_by u
decreasing_by omega
theorem leb_small {u : Nat} (h : u < 128) : leb u = [UInt8.ofNat u] := by rw [leb, if_pos h]
theorem leb_big {u : Nat} (h : ¬ u < 128) : leb u = UInt8.ofNat (u % 128 + 128) :: leb (u / 128) := by rw [leb, if_neg h]
theorem leb_pos (u : Nat) : 0 < (leb u).length := by
  by_cases h : u < 128
  · rw [leb_small h]; simp
  · rw [leb_big h]; simp
theorem leb_len : ∀ (k u : Nat), u < 128 ^ (k + 1) → (leb u).length ≤ k + 1
  | 0, u, h => by rw [leb_small (by simpa using h)]; simp
  | k + 1, u, h => by
    by_cases hu : u < 128
    · rw [leb_small hu]; simp
    · rw [leb_big hu]
      have : u / 128 < 128 ^ (k + 1) := by
        rw [Nat.pow_succ] at h
        exact Nat.div_lt_of_lt_mul (by omega)
      have := leb_len k _ this
      simp; omega
theorem leb_ten {u : Nat} (h : u < 18446744073709551616) : (leb u).length ≤ 10 := leb_len 9 u (by omega)
/-- The number at the beginning of some bytes, and how many they are. -/
def getB (k acc : Nat) : List UInt8 → Option (Nat × Nat)
  | [] => none
  | c :: r =>
    if k = 9 ∧ 1 < c.toNat then none
    else if 128 ≤ c.toNat then getB (k + 1) (acc + (c.toNat % 128) * 128 ^ k) r
    else if c.toNat = 0 ∧ 0 < k then none
    else some (acc + c.toNat * 128 ^ k, k + 1)
theorem u8_of {n : Nat} (h : n < 256) : (UInt8.ofNat n).toNat = n := by
  simp [UInt8.toNat_ofNat']; omega
theorem getB_leb (r : List UInt8) : ∀ (z k acc : Nat), k ≤ 9 → z * 128 ^ k < 18446744073709551616 → (0 < k → 0 < z) →
    getB k acc (leb z ++ r) = some (acc + z * 128 ^ k, k + (leb z).length) := by
  intro z
  induction z using Nat.strongRecOn with
  | _ z ih =>
    intro k acc hk hz h0
    by_cases hs : z < 128
    · rw [leb_small hs]
      have h9 : ¬ (k = 9 ∧ 1 < z) := by
        rintro ⟨rfl, h⟩
        have : 2 * 128 ^ 9 ≤ z * 128 ^ 9 := Nat.mul_le_mul_right _ h
        omega
      have hc : (UInt8.ofNat z).toNat = z := u8_of (by omega)
      simp only [List.cons_append, List.nil_append, getB, hc]
      rw [if_neg h9, if_neg (by omega), if_neg (by omega)]
      simp
    · rw [leb_big hs]
      have hm : z % 128 < 128 := Nat.mod_lt _ (by omega)
      have hc : (UInt8.ofNat (z % 128 + 128)).toNat = z % 128 + 128 := u8_of (by omega)
      have hk9 : k ≠ 9 := by
        rintro rfl
        have : 128 * 128 ^ 9 ≤ z * 128 ^ 9 := Nat.mul_le_mul_right _ (by omega)
        omega
      simp only [List.cons_append, getB, hc]
      rw [if_neg (by omega), if_pos (by omega)]
      have hd : z / 128 * 128 ^ (k + 1) ≤ z * 128 ^ k := by
        rw [Nat.pow_succ, Nat.mul_comm (128 ^ k) 128, ← Nat.mul_assoc]
        exact Nat.mul_le_mul_right _ (Nat.div_mul_le_self z 128)
      rw [ih (z / 128) (by omega) (k + 1) _ (by omega) (by omega) (fun _ => by omega)]
      have e1 : (z % 128 + 128) % 128 = z % 128 := by omega
      rw [e1]
      have e2 : z % 128 * 128 ^ k + z / 128 * 128 ^ (k + 1) = z * 128 ^ k := by
        rw [Nat.pow_succ, Nat.mul_comm (128 ^ k) 128, ← Nat.mul_assoc, ← Nat.add_mul]
        congr 1; omega
      simp only [Option.some.injEq, Prod.mk.injEq, List.length_cons]
      refine ⟨by rw [Nat.add_assoc, e2], by omega⟩
/-- What is read is bounded, and no longer than ten bytes or the bytes. -/
theorem getB_bd : ∀ (l : List UInt8) (k acc z n : Nat), k ≤ 9 → acc < 128 ^ k → getB k acc l = some (z, n) → z < 18446744073709551616 ∧ k < n ∧ n ≤ k + l.length ∧ n ≤ 10
  | [], _, _, _, _, _, _, h => by simp [getB] at h
  | c :: r, k, acc, z, n, hk, ha, h => by
    rw [getB] at h
    have hc := UInt8.toNat_lt c
    split at h
    · simp at h
    · rename_i h1
      split at h
      · rename_i h2
        have hk9 : k ≠ 9 := fun e => h1 ⟨e, by omega⟩
        have hp : acc + (c.toNat % 128) * 128 ^ k < 128 ^ (k + 1) := by
          have : c.toNat % 128 ≤ 127 := by omega
          have := Nat.mul_le_mul_right (128 ^ k) this
          rw [Nat.pow_succ]; omega
        obtain ⟨a1, a2, a3, a4⟩ := getB_bd r (k + 1) _ z n (by omega) hp h
        simp only [List.length_cons]
        exact ⟨a1, by omega, by omega, a4⟩
      · split at h
        · simp at h
        · rename_i h2 h3
          simp only [Option.some.injEq, Prod.mk.injEq] at h
          obtain ⟨rfl, rfl⟩ := h
          simp only [List.length_cons]
          refine ⟨?_, by omega, by omega, by omega⟩
          by_cases hk9 : k = 9
          · subst hk9
            have : c.toNat ≤ 1 := Nat.le_of_not_lt fun h => h1 ⟨rfl, h⟩
            have := Nat.mul_le_mul_right (128 ^ 9) this
            omega
          · have h8 : k ≤ 8 := by omega
            have : c.toNat ≤ 127 := by omega
            have := Nat.mul_le_mul_right (128 ^ k) this
            have h9 : (128 : Nat) ^ k ≤ 128 ^ 8 := Nat.pow_le_pow_right (by omega) h8
            omega
/-- The code of an integer. -/
def code (v : Int) : List UInt8 := leb (zz v)
def getI (l : List UInt8) : Option (Int × Nat) := (getB 0 0 l).map fun p => (unzz p.1, p.2)
theorem getI_code {v : Int} (h1 : -9223372036854775808 ≤ v) (h2 : v ≤ 9223372036854775807) (r : List UInt8) : getI (code v ++ r) = some (v, (code v).length) := by
  unfold getI code
  rw [getB_leb r (zz v) 0 0 (by omega) (by simpa using zz_lt h1 h2) (by omega)]
  simp [unzz_zz]
theorem code_pos (v : Int) : 0 < (code v).length := leb_pos _
theorem code_ten {v : Int} (h1 : -9223372036854775808 ≤ v) (h2 : v ≤ 9223372036854775807) : (code v).length ≤ 10 := leb_ten (zz_lt h1 h2)
theorem unzz_bd {u : Nat} (h : u < 18446744073709551616) : -9223372036854775808 ≤ unzz u ∧ unzz u ≤ 9223372036854775807 := by
  unfold unzz; split <;> omega
theorem getI_bd {l : List UInt8} {v : Int} {n : Nat} (h : getI l = some (v, n)) : -9223372036854775808 ≤ v ∧ v ≤ 9223372036854775807 ∧ 0 < n ∧ n ≤ l.length ∧ n ≤ 10 := by
  unfold getI at h
  simp only [Option.map_eq_some_iff, Prod.mk.injEq] at h
  obtain ⟨⟨z, m⟩, h1, rfl, rfl⟩ := h
  obtain ⟨a1, a2, a3, a4⟩ := getB_bd l 0 0 z m (by omega) (by simp) h1
  obtain ⟨b1, b2⟩ := unzz_bd a1
  exact ⟨b1, b2, by omega, by omega, a4⟩
end Go.Proofs.Ytjefpeppkphgbaa
