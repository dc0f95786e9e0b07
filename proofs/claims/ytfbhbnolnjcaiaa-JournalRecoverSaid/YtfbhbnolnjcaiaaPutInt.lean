/-
  PutInt of the program and of the reference (3.1) writes the code of the plain law.
  Conditions: the string's length leaves room for a code.
-/
import Derived.Test.YtfbhbnolnjcaiaaPack
namespace Go.Proofs.Ytfbhbnolnjcaiaa
open Go.RowKit Go.Sort
set_option maxHeartbeats 1000000
set_option maxRecDepth 10000

theorem xor_ones (x : Nat) (hx : x < 18446744073709551616) : bits .xor .u64 (x : Int) 18446744073709551615 = 18446744073709551615 - (x : Int) := by
  show IntKind.u64.wrap ((BitVec.ofInt 64 (x : Int) ^^^ BitVec.ofInt 64 18446744073709551615).toNat : Int) = _
  have h1 : BitVec.ofInt 64 18446744073709551615 = BitVec.allOnes 64 := by decide
  rw [h1, BitVec.xor_allOnes, BitVec.toNat_not, ofInt_u64 x (by omega)]
  simp [IntKind.wrap, IntKind.bits, IntKind.signed]
  omega
theorem xor_none (x : Nat) (hx : x < 18446744073709551616) : bits .xor .u64 (x : Int) 0 = (x : Int) := by
  have := u64_xor_nat x 0 hx (by omega)
  simpa using this
theorem zz_prog {v : Int} (h1 : -9223372036854775808 ≤ v) (h2 : v ≤ 9223372036854775807) :
    bits BinOp.xor IntKind.u64 (IntKind.u64.wrap (IntKind.u64.wrap v * 2)) (IntKind.u64.wrap (v / 9223372036854775808)) = ((zz v : Nat) : Int) := by
  simp only [IntKind.wrap_u64]
  by_cases h0 : 0 ≤ v
  · have e1 : v / 9223372036854775808 % 18446744073709551616 = 0 := by omega
    have e2 : v % 18446744073709551616 * 2 % 18446744073709551616 = ((zz v : Nat) : Int) := by unfold zz; rw [if_pos h0]; omega
    rw [e1, e2, xor_none _ (zz_lt h1 h2)]
  · have e1 : v / 9223372036854775808 % 18446744073709551616 = 18446744073709551615 := by omega
    have e2 : v % 18446744073709551616 * 2 % 18446744073709551616 = ((18446744073709551615 - zz v : Nat) : Int) := by
      have := zz_lt h1 h2
      unfold zz at this ⊢; rw [if_neg h0] at this ⊢; omega
    have := zz_lt h1 h2
    rw [e1, e2, xor_ones _ (by omega)]
    omega
theorem or_128 (z : Nat) : bits .or .u8 ((z : Int) % 256) 128 = ((UInt8.ofNat (z % 128 + 128)).toNat : Int) := by
  rw [u8_of (by omega)]
  have e : ((z : Int) % 256) = ((z % 256 : Nat) : Int) := by omega
  rw [e]
  have h := u8_or_nat (z % 256) 128 (by omega) (by omega)
  rw [show ((128 : Nat) : Int) = 128 from rfl] at h
  rw [h]
  have : ∀ y, y < 256 → y ||| 128 = y % 128 + 128 := by decide
  rw [this _ (by omega)]
  omega

/-- What has been written, and what is left. -/
def PutRel (w : World) (s : ByteArray) (v : Int) (z : Nat) (o : Value) (wr : World) : Prop :=
  ∃ done g c, done ++ leb z = code v ∧ o = .slice (some ⟨g, 0, none⟩) (s.size + done.length) c ∧ BRow wr w.heap.size o (s.data.toList ++ done) ∧ Ext w wr
theorem putInt_any (s : ByteArray) (v : Int) (hv : I64 v) (hs : s.size + 10 ≤ 140737488355328) (w : World) :
    Calls Try.prog 115 #[.string s, .int .i64 v] w fun e w' => e = .returned (.string (s ++ bs (code v))) ∧ Ext w w' := by
  obtain ⟨h1, h2⟩ := hv
  have hcv := fun w s => run_bytes_of_string (P := Try.prog) w 9 106 5 s und_str und_bytes und_byte
  have hrow := brow_of_string w s
  have hx0 : Ext w (w.alloc (.cells (bytesRow s (grownCap w s.size 0 5)) 5 ((bytesRow s (grownCap w s.size 0 5)).size, (bytesRow s (grownCap w s.size 0 5)).size + 1))).drew := ((Ext.refl w).alloc _).drew
  have HP := Lib.hid (show PutRel w s v (zz v) _ _ from ⟨[], _, _, rfl, rfl, by simpa using hrow, hx0⟩)
  have Hz := Lib.hid (zz_prog h1 h2)
  have Hc10 := Lib.hid (code_ten h1 h2)
  clear hrow hx0
  go_enter Try.func115, Try.ntmps115
  go_wp2_with fail
  go_loopw [5, 6] (fun x o wr => ∃ z : Nat, z < 18446744073709551616 ∧ x = .int .u64 (z : Int) ∧ PutRel w s v z o wr) (fun x _ _ => (intOf x).toNat)
  case atStart => exact ⟨zz v, zz_lt h1 h2, by rw [Hz.out], HP.out⟩
  case round =>
    clear HP hcv
    obtain ⟨z, hz, rfl, done, g, c, hd, rfl, hrow, hx⟩ := hrel
    have hlen : done.length + (leb z).length ≤ 10 := by have := Hc10.out; rw [← hd, List.length_append] at this; exact this
    have hlp := leb_pos z
    have hsl : (s.data.toList ++ done).length = s.size + done.length := by rw [List.length_append]; rfl
    have Hrow := Lib.hid hrow
    have Hx := Lib.hid hx
    have Hd := Lib.hid hd
    have Hsl := Lib.hid hsl
    clear hrow hx hd hsl
    by_cases hz1 : 128 ≤ z
    · have hd1 : decide (128 ≤ z) = true := by simpa using hz1
      have hxa : Ext wr (wr.alloc (.cells #[.int .u8 (bits .or .u8 ((z : Int) % 256) 128)] 5)) := (Ext.refl wr).alloc _
      have hcell : (wr.alloc (.cells #[.int .u8 (bits .or .u8 ((z : Int) % 256) 128)] 5)).cell? ⟨wr.heap.size, 0, none⟩ = some (.int .u8 ((UInt8.ofNat (z % 128 + 128)).toNat : Int)) := by
        rw [← or_128 z]; go_simp
      have hb := leb_big (u := z) (by omega)
      have hbl : (leb z).length = (leb (z / 128)).length + 1 := by rw [hb]; simp
      have hsz := Hx.out.size
      have Hb := Lib.hid hb
      clear hb
      go_wp2_with (at_builtin; refine wpList_append_byte rfl _ _ rfl w.heap.size _ _ rfl (Hrow.out.keep hxa) _ _ _ rfl hcell (by rw [Hsl.out]; omega) (by have := hxa.size; omega) ?_; intro v' w1 hrow1 hgrow1; have hcs := brow_string hrow1)
      have hx1 : Ext w w1 := (Hx.out.trans hxa).chg_new hgrow1 (fun i hi => hi)
      have hd2 : (done ++ [UInt8.ofNat (z % 128 + 128)]) ++ leb (z / 128) = code v := by rw [List.append_assoc, List.singleton_append, ← Hb.out]; exact Hd.out
      have hrow2 : BRow w1 w.heap.size v' (s.data.toList ++ (done ++ [UInt8.ofNat (z % 128 + 128)])) := by rw [← List.append_assoc]; exact hrow1
      obtain ⟨g2, c2, hv2, _⟩ := id hrow2
      have hl2 : (s.data.toList ++ (done ++ [UInt8.ofNat (z % 128 + 128)])).length = s.size + (done ++ [UInt8.ofNat (z % 128 + 128)]).length := by rw [List.length_append]; rfl
      rw [hl2] at hv2
      subst hv2
      have Hend := Lib.hid (show PutRel w s v (z / 128) _ w1 from ⟨_, _, _, hd2, rfl, hrow2, hx1⟩)
      have hq : (z : Int) / 128 = ((z / 128 : Nat) : Int) := by omega
      clear hx1 hd2 hrow2 hrow1 hgrow1 hxa hcell hl2 hcs
      go_wp2_with fail
      go_roundw
      case rel => exact ⟨z / 128, by omega, by rw [hq], Hend.out⟩
      case measure => simp [intOf]; omega
    · have hd1 : decide (128 ≤ z) = false := by simpa using hz1
      have hxa : Ext wr (wr.alloc (.cells #[.int .u8 (z : Int)] 5)) := (Ext.refl wr).alloc _
      have hcell : (wr.alloc (.cells #[.int .u8 (z : Int)] 5)).cell? ⟨wr.heap.size, 0, none⟩ = some (.int .u8 ((UInt8.ofNat z).toNat : Int)) := by
        rw [u8_of (show z < 256 by omega)]; go_simp
      have hb := leb_small (u := z) (by omega)
      have hsz := Hx.out.size
      have Hb := Lib.hid hb
      clear hb
      go_wp2_with (at_builtin; refine wpList_append_byte rfl _ _ rfl w.heap.size _ _ rfl (Hrow.out.keep hxa) _ _ _ rfl hcell (by rw [Hsl.out]; omega) (by have := hxa.size; omega) ?_; intro v' w1 hrow1 hgrow1; have hcs := brow_string hrow1)
      have hx1 : Ext w w1 := (Hx.out.trans hxa).chg_new hgrow1 (fun i hi => hi)
      have hfin : bs (s.data.toList ++ (done ++ [UInt8.ofNat z])) = s ++ bs (code v) := by rw [← Hb.out, Hd.out, bs_append, list_bs]
      rw [hfin]
      go_ret
      exact ⟨rfl, hx1⟩

theorem conv_one {w : World} {x : Nat} (hx : x < 256) : (convert 106 9 (.slice (some ⟨w.heap.size, 0, none⟩) 1 1)).run Try.prog (w.alloc (.cells #[.int .u8 (x : Int)] 5)) = .ok (.string (bs [UInt8.ofNat x])) (w.alloc (.cells #[.int .u8 (x : Int)] 5)) := by
  refine run_convert_bytes_back _ 106 9 5 ⟨w.heap.size, 0, none⟩ 1 [UInt8.ofNat x] und_bytes und_byte und_str fun j hj => ?_
  obtain rfl : j = 0 := by simp at hj; omega
  rw [add_head]
  show (w.alloc (.cells #[.int .u8 (x : Int)] 5)).cell? ⟨w.heap.size, 0, none⟩ = some (.int .u8 ((UInt8.ofNat x).toNat : Int))
  rw [u8_of hx]; go_simp
theorem ones_xor (x : Nat) (hx : x < 18446744073709551616) : bits .xor .u64 18446744073709551615 (x : Int) = 18446744073709551615 - (x : Int) := by
  show IntKind.u64.wrap ((BitVec.ofInt 64 18446744073709551615 ^^^ BitVec.ofInt 64 (x : Int)).toNat : Int) = _
  have h1 : BitVec.ofInt 64 18446744073709551615 = BitVec.allOnes 64 := by decide
  rw [h1, BitVec.allOnes_xor, BitVec.toNat_not, ofInt_u64 x (by omega)]
  simp [IntKind.wrap, IntKind.bits, IntKind.signed]
  omega
theorem zz_ref {v : Int} (h1 : -9223372036854775808 ≤ v) (h2 : v ≤ 9223372036854775807) (h0 : v < 0) :
    bits BinOp.xor IntKind.u64 IntKind.u64.max (IntKind.u64.wrap (IntKind.u64.wrap v * 2)) = ((zz v : Nat) : Int) := by
  simp only [IntKind.wrap_u64]
  have e2 : v % 18446744073709551616 * 2 % 18446744073709551616 = ((18446744073709551615 - zz v : Nat) : Int) := by
    have := zz_lt h1 h2
    unfold zz at this ⊢; rw [if_neg (by omega)] at this ⊢; omega
  have := zz_lt h1 h2
  have e3 : IntKind.u64.max = 18446744073709551615 := by decide
  rw [e2, e3, ones_xor _ (by omega)]
  omega
theorem rputInt_any (s : ByteArray) (v : Int) (hv : I64 v) (hs : s.size + 10 ≤ 140737488355328) (w : World) :
    Calls Try.prog 106 #[.string s, .int .i64 v] w fun e w' => e = .returned (.string (s ++ bs (code v))) ∧ Ext w w' := by
  obtain ⟨h1, h2⟩ := hv
  have Hlt := Lib.hid (zz_lt h1 h2)
  have Hc10 := Lib.hid (code_ten h1 h2)
  have H0 := Lib.hid (show s ++ bs [] = s by rw [← list_bs s, ← bs_append, List.append_nil])
  go_enter Try.func106, Try.ntmps106
  go_upto_if 10 with fail
  go_cut [5] from 9 to 12 (fun x wx => x = .int .u64 (zz v : Nat) ∧ wx = w)
  case first =>
    by_cases h0 : v < 0
    · have hd0 : decide (v < 0) = true := by simpa using h0
      have Hz := Lib.hid (zz_ref h1 h2 h0)
      go_wp2_with fail
      go_meet
      exact ⟨by rw [Hz.out], rfl⟩
    · have hd0 : decide (v < 0) = false := by simpa using h0
      have Hz := Lib.hid (show v * 2 = ((zz v : Nat) : Int) by unfold zz; rw [if_pos (by omega)]; omega)
      go_wp2_with fail
      go_meet
      exact ⟨by first | rw [Hz.out] | (rw [← Hz.out]; simp [IntKind.wrap_u64]; omega), rfl⟩
  case rest =>
    obtain ⟨rfl, rfl⟩ := hcut
    go_wp2_with fail
    go_loopw [0, 5] (fun o x wr => ∃ (z : Nat) (done : List UInt8), z < 18446744073709551616 ∧ o = .string (s ++ bs done) ∧ x = .int .u64 (z : Int) ∧ done ++ leb z = code v ∧ Ext wc wr) (fun _ x _ => (intOf x).toNat)
    case atStart => exact ⟨zz v, [], Hlt.out, by rw [H0.out], rfl, rfl, Ext.refl _⟩
    case round =>
      obtain ⟨z, done, hz, rfl, rfl, hd, hx⟩ := hrel
      have Hx := Lib.hid hx
      have Hd := Lib.hid hd
      clear hx hd
      have hlen : done.length + (leb z).length ≤ 10 := by have := Hc10.out; rw [← Hd.out, List.length_append] at this; exact this
      have hds := bs_size done
      obtain ⟨b0, hb0⟩ : ∃ b0, s ++ bs done = b0 := ⟨_, rfl⟩
      have hb0s : b0.size ≤ s.size + 10 := by rw [← hb0, ByteArray.size_append]; omega
      rw [hb0]
      have Hb0 := Lib.hid hb0
      clear hb0 hds
      by_cases hz1 : 127 < z
      · have hd1 : decide (127 < z) = true := by simpa using hz1
        have hc := conv_one (w := wr) (x := z % 128 + 128) (by omega)
        have he : ((z % 128 + 128 : Nat) : Int) = (z : Int) % 128 + 128 := by omega
        rw [he] at hc
        obtain ⟨b1, hb1⟩ : ∃ b1, bs [UInt8.ofNat (z % 128 + 128)] = b1 := ⟨_, rfl⟩
        have hb1s : b1.size = 1 := by rw [← hb1]; rfl
        rw [hb1] at hc
        have Hb1 := Lib.hid hb1
        have hno : ¬ 9223372036854775807 < b0.size + b1.size := by omega
        have Hq := Lib.hid (show (z : Int) / 128 = ((z / 128 : Nat) : Int) by omega)
        have hb := leb_big (u := z) (by omega)
        have Hd2 := Lib.hid (show (done ++ [UInt8.ofNat (z % 128 + 128)]) ++ leb (z / 128) = code v by rw [List.append_assoc, List.singleton_append, ← hb]; exact Hd.out)
        clear hb hb1 he hb1s
        go_wp2_with fail
        go_roundw
        case rel => exact ⟨z / 128, _, by omega, by rw [← Hb0.out, ← Hb1.out, bs_append]; simp [ByteArray.append_assoc], by rw [Hq.out], Hd2.out, Hx.out.alloc _⟩
        case measure => simp [intOf]; omega
      · have hd1 : decide (127 < z) = false := by simpa using hz1
        have hc := conv_one (w := wr) (x := z) (by omega)
        obtain ⟨b1, hb1⟩ : ∃ b1, bs [UInt8.ofNat z] = b1 := ⟨_, rfl⟩
        have hb1s : b1.size = 1 := by rw [← hb1]; rfl
        rw [hb1] at hc
        have Hb1 := Lib.hid hb1
        have hno : ¬ 9223372036854775807 < b0.size + b1.size := by omega
        have hb := leb_small (u := z) (by omega)
        have Hd2 := Lib.hid (show done ++ [UInt8.ofNat z] = code v by rw [← hb]; exact Hd.out)
        clear hb hb1 hb1s
        go_wp2_with fail
        have hfin : b0 ++ b1 = s ++ bs (code v) := by rw [← Hb0.out, ← Hb1.out, ← Hd2.out, bs_append]; simp [ByteArray.append_assoc]
        rw [hfin]
        go_ret
        exact ⟨rfl, Hx.out.alloc _⟩
end Go.Proofs.Ytfbhbnolnjcaiaa
