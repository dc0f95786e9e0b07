/-
  The sum and the home of a key (25.1), in the program and in its reference.
  Conditions: the key's length is that of a Go string.
-/
import Derived.Test.YtjefpeppkphgbaaProg
import Derived.Test.YtjefpeppkphgbaaBase
import Derived.Laws.IdiomStrings
namespace Go.Proofs.Ytjefpeppkphgbaa
open Go.RowKit Go.Sort
set_option maxHeartbeats 400000

def byteAt (s : ByteArray) (k : Nat) : Int := if h : k < s.size then (s[k].toNat : Int) else 0
/-- One byte's part in the sum. -/
def sumStep (y b : Int) : Int := bits BinOp.xor IntKind.u32 y (b % 4294967296) * 16777619 % 4294967296
def sumU (s : ByteArray) : Nat → Int
  | 0 => 2166136261
  | k + 1 => sumStep (sumU s k) (byteAt s k)
def sumI (s : ByteArray) : Int := sumU s s.size
theorem sumU_bd (s : ByteArray) (k : Nat) : 0 ≤ sumU s k ∧ sumU s k < 4294967296 := by
  cases k with
  | zero => simp [sumU]
  | succ k => unfold sumU sumStep; omega
theorem sumI_bd (s : ByteArray) : 0 ≤ sumI s ∧ sumI s < 4294967296 := sumU_bd s _
theorem sum_wrap (s : ByteArray) : wrap64 (sumI s) = sumI s := by
  have := sumI_bd s
  unfold wrap64; omega
def homeI (s : ByteArray) (n : Int) : Int := if n < 1 then 0 else (sumI s).tmod n
theorem und_str : Try.prog.underlying 9 = some .string := by kernel_rfl
theorem und_bytes : Try.prog.underlying 101 = some (.slice 5) := by kernel_rfl
theorem und_byte : Try.prog.underlying 5 = some (.int .u8) := by kernel_rfl
theorem bytes_cell (w : World) (s : ByteArray) (c : Nat) (e : TypeId) (f : Nat × Nat) {k : Nat} (hk : k < s.size) : (w.alloc (.cells (bytesRow s c) e f)).drew.cell? ⟨w.heap.size, k, none⟩ = some (.int .u8 (byteAt s k)) := by
  have h1 : (w.alloc (.cells (bytesRow s c) e f)).drew.heap[w.heap.size]? = some (.cells (bytesRow s c) e f) := heap_alloc_new w _
  have h2 : k < s.data.size := hk
  have h3 : (bytesRow s c)[k]? = some (.int .u8 (byteAt s k)) := by
    unfold bytesRow byteAt
    rw [Array.getElem?_append_left (by simpa using h2), dif_pos hk]
    simp
    exact ⟨_, Array.getElem?_eq_getElem h2, rfl⟩
  simp only [World.cell?, h1]
  exact h3

theorem rsum_any (s : ByteArray) (w : World) (hs : s.size ≤ maxLen) : Calls Try.prog 63 #[.string s] w fun e w' => e = .returned (.int .i64 (sumI s)) ∧ w = w' := by
  unfold maxLen at hs
  obtain ⟨n, hn⟩ : ∃ n, s.size = n := ⟨_, rfl⟩
  have H := Lib.hid (show wrap64 (sumU s n) = sumI s by rw [← hn]; exact sum_wrap s)
  go_enter Try.func63, Try.ntmps63
  go_wp2_with fail
  go_loopw [3, 4] (fun x i wr => ∃ k : Nat, k ≤ n ∧ i = .int .i64 (k : Int) ∧ x = .int .u32 (sumU s k) ∧ w = wr) (fun _ i _ => n - (intOf i).toNat)
  case atStart => exact ⟨0, by omega, rfl, rfl, rfl⟩
  case round =>
    obtain ⟨k, hk, rfl, rfl, rfl⟩ := hrel
    by_cases hkn : k < n
    · have hd : decide ((k : Int) < (n : Int)) = true := by simpa using hkn
      have hkn2 : k < s.size := by omega
      go_wp2_with fail
      go_roundw
      case rel => exact ⟨k + 1, by omega, by go_num, by simp [sumU, sumStep, byteAt, hkn2], trivial⟩
      case measure => simp [intOf]; omega
    · have hd : decide ((k : Int) < (n : Int)) = false := by simp; omega
      have hkn' : k = n := by omega
      subst hkn'
      go_wp2_with fail
      rw [H.out]
      go_ret
      exact ⟨rfl, rfl⟩

theorem sum_any (s : ByteArray) (w : World) (hs : s.size ≤ maxLen) : Calls Try.prog 60 #[.string s] w fun e w' => e = .returned (.int .i64 (sumI s)) ∧ Ext w w' := by
  unfold maxLen at hs
  obtain ⟨n, hn⟩ : ∃ n, s.size = n := ⟨_, rfl⟩
  have H := Lib.hid (show wrap64 (sumU s n) = sumI s by rw [← hn]; exact sum_wrap s)
  have hcv := fun w s => run_bytes_of_string (P := Try.prog) w 9 101 5 s und_str und_bytes und_byte
  have hx : ∀ o, Ext w (w.alloc o).drew := fun o => ((Ext.refl w).alloc o).drew
  go_enter Try.func60, Try.ntmps60
  go_wp2_with fail
  have hb := fun c f k hk => bytes_cell w s c 5 f (k := k) hk
  go_loopw [3, 9] (fun x i wr => ∃ k : Nat, k ≤ n ∧ i = .int .i64 (k : Int) ∧ x = .int .u32 (sumU s k) ∧ Ext w wr ∧ ∀ k, k < s.size → wr.cell? ⟨w.heap.size, k, none⟩ = some (.int .u8 (byteAt s k))) (fun _ i _ => n - (intOf i).toNat)
  case atStart => exact ⟨0, by omega, rfl, rfl, hx _, fun k hk => hb _ _ k hk⟩
  case round =>
    obtain ⟨k, hk, rfl, rfl, hxr, hbr⟩ := hrel
    by_cases hkn : k < n
    · have hd : decide ((k : Int) < (n : Int)) = true := by simpa using hkn
      have hc := hbr k (by omega)
      go_wp2_with fail
      go_roundw
      case rel => exact ⟨k + 1, by omega, by go_num, by simp [sumU, sumStep], hxr, hbr⟩
      case measure => simp [intOf]; omega
    · have hd : decide ((k : Int) < (n : Int)) = false := by simp; omega
      have hkn' : k = n := by omega
      subst hkn'
      go_wp2_with fail
      rw [H.out]
      go_ret
      exact ⟨rfl, hxr⟩
end Go.Proofs.Ytjefpeppkphgbaa
