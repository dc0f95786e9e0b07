/-
  JournalRecover (33.5): Recover of the program and of the reference agree.
  Conditions: the raw string is within a process's reach.
-/
import Derived.Test.YtfbhbnolnjcaiaaLaw33d
import Derived.Test.YtfbhbnolnjcaiaaRRecov
import Derived.Test.YtfbhbnolnjcaiaaSameS
import Derived.Test.YtfbhbnolnjcaiaaSameR
namespace Go.Proofs.Ytfbhbnolnjcaiaa
open Go.RowKit Go.Sort
set_option maxHeartbeats 4000000
set_option maxRecDepth 100000

/-- The records, the tick and the error that Recover returns. -/
def outR (cl cp : Int) (s : List UInt8) : List Kp × Int × Int :=
  if confE cl cp = 0 then match recGo cl cp 0 [] (readJ s).1 with | none => ([], 0, 26) | some (l, t) => (l, t, 0) else ([], 0, 3)
def RecovIs (o : List Kp × Int × Int) (w : World) (x : Ending) (w' : World) : Prop :=
  Ext w w' ∧ ∃ kv rv, x = .returned (.tuple #[kv, rv, .int .i64 o.2.1, .int .i64 o.2.2]) ∧ Rd w' (fun k => w.heap.size ≤ k) 1 kv o.1.length ((keysL o.1).map encStr) ∧ RecsAt w' (fun k => w.heap.size ≤ k) rv (o.1.map Prod.snd)
theorem recov_is {cl cp : Int} {s : ByteArray} {w w' : World} {x : Ending} (h : RecovPost cl cp s w x w') : RecovIs (outR cl cp s.data.toList) w x w' := by
  obtain ⟨hx, h | h | h⟩ := h
  · obtain ⟨hc, rfl⟩ := h
    have : outR cl cp s.data.toList = ([], 0, 3) := by unfold outR; rw [if_neg (by omega)]
    rw [this]
    exact ⟨hx, _, _, rfl, Rd.nil _ _ _, Rd.nil _ _ _⟩
  · obtain ⟨hc, hr, rfl⟩ := h
    have : outR cl cp s.data.toList = ([], 0, 26) := by unfold outR; rw [if_pos hc, hr]
    rw [this]
    exact ⟨hx, _, _, rfl, Rd.nil _ _ _, Rd.nil _ _ _⟩
  · obtain ⟨hc, l, t, kv, rv, hr, rfl, h1, h2⟩ := h
    have : outR cl cp s.data.toList = (l, t, 0) := by unfold outR; rw [if_pos hc, hr]
    rw [this]
    refine ⟨hx, kv, rv, rfl, h1, ?_⟩
    unfold RecsAt
    rw [List.length_map]
    exact h2
theorem RowIn.ext {w w' : World} {a : Option Addr} {len : Nat} (h : RowIn w a len) (x : Ext w w') : RowIn w' a len := by
  obtain ⟨h1, h2⟩ := h
  refine ⟨h1, fun hl => ?_⟩
  obtain ⟨y, e, hy, hc⟩ := h2 hl
  refine ⟨y, e, Nat.lt_of_lt_of_le hy x.size, fun j hj => ?_⟩
  obtain ⟨z, hz, hi⟩ := hc j hj
  exact ⟨z, (x.cell (by rw [add_block]; exact hy)).trans hz, hi⟩
namespace journalRecover
theorem walk (raw : ByteArray) (a : Option Addr) (len cap : Nat) (zs : List Int) (a2 : Option Addr) (len2 cap2 : Nat) (zs2 : List Int) (k0 k1 how at_ v : Int) (w : World) (hraw : raw.size ≤ 140737488351232) (hr : IsRow .i64 w a len cap zs) (hr2 : IsRow .i64 w a2 len2 cap2 zs2) (_ : I64 k0) (_ : I64 k1) (_ : I64 how) (_ : I64 at_) (_ : I64 v) :
    Calls Try.prog 5 #[.string raw, .slice a len cap, .slice a2 len2 cap2, .agg #[.int .i64 k0, .int .i64 k1], .int .i64 how, .int .i64 at_, .int .i64 v] w fun e w' => e = .returned (.bool true) ∧ Below w.heap.size w w' := by
  have hx0 : Ext w (w.alloc (.cells #[.int .i64 k0, .int .i64 k1] 37)) := (Ext.refl w).alloc _
  have Hrow := Lib.hid (RowIn.of_row hr)
  have Hrow2 := Lib.hid (RowIn.of_row hr2)
  have Hx0 := Lib.hid hx0
  have f0 : (w.alloc (.cells #[.int .i64 k0, .int .i64 k1] 37)).cell? ⟨w.heap.size, 0, none⟩ = some (.int .i64 k0) := by go_simp
  have f1 : (w.alloc (.cells #[.int .i64 k0, .int .i64 k1] 37)).cell? ⟨w.heap.size, 1, none⟩ = some (.int .i64 k1) := by go_simp
  have hfl : w.heap.size < (w.alloc (.cells #[.int .i64 k0, .int .i64 k1] 37)).heap.size := by simp
  have F0 := Lib.hid f0
  have F1 := Lib.hid f1
  have Hfl := Lib.hid hfl
  clear hr hr2 hx0 f0 f1 hfl
  go_enter Try.func5, Try.ntmps5
  go_wp2_with fail
  refine (written_any _ _ _ _ (RowIn.ext Hrow.out Hx0.out)).mono ?_
  rintro x w1 ⟨hx1, va, ps, rfl, hok, hp5, hsm, hents⟩
  have hlb := bytes_len hok
  obtain ⟨jb, hjb⟩ : ∃ jb, bs (bytesE (ps.map Prod.fst)) = jb := ⟨_, rfl⟩
  have hjs : jb.size ≤ 21000 := by rw [← hjb, bs_size]; simp at hlb; omega
  rw [hjb]
  have f0 := (hx1.cell (p := ⟨w.heap.size, 0, none⟩) Hfl.out).trans F0.out
  have f1 := (hx1.cell (p := ⟨w.heap.size, 1, none⟩) Hfl.out).trans F1.out
  have hfl := Nat.lt_of_lt_of_le Hfl.out hx1.size
  have Hx1 := Lib.hid (Hx0.out.trans hx1)
  obtain ⟨fb, hfb⟩ : ∃ f, w.heap.size = f := ⟨_, rfl⟩
  rw [hfb] at f0 f1 hfl
  rw [hfb]
  clear hx1 hok hsm hents hlb hjb Hrow F0 F1 Hfl hfb Hx0
  go_wp2_with fail
  refine (conf_any _ _ _ _ (RowIn.ext Hrow2.out Hx1.out)).mono ?_
  rintro x w2 ⟨cl, cp, q1, q2, q3, q4, rfl, hx2⟩
  replace f0 := (hx2.cell (p := ⟨fb, 0, none⟩) hfl).trans f0
  replace f1 := (hx2.cell (p := ⟨fb, 1, none⟩) hfl).trans f1
  replace hfl := Nat.lt_of_lt_of_le hfl hx2.size
  have hg0 : (w2.alloc (.cells #[.int .i64 cl, .int .i64 cp] 37)).cell? ⟨w2.heap.size, 0, none⟩ = some (.int .i64 cl) := by go_simp
  have hg1 : (w2.alloc (.cells #[.int .i64 cl, .int .i64 cp] 37)).cell? ⟨w2.heap.size, 1, none⟩ = some (.int .i64 cp) := by go_simp
  have hgl : w2.heap.size < (w2.alloc (.cells #[.int .i64 cl, .int .i64 cp] 37)).heap.size := by simp
  have hxW : Ext w2 (w2.alloc (.cells #[.int .i64 cl, .int .i64 cp] 37)) := (Ext.refl w2).alloc _
  have Hx2 := Lib.hid (Hx1.out.trans hx2)
  clear hx2 Hx1 Hrow2
  go_upto_region 3 with fail
  obtain ⟨gb, hgb⟩ : ∃ f, w2.heap.size = f := ⟨_, rfl⟩
  obtain ⟨W, hW⟩ : ∃ W, w2.alloc (.cells #[.int .i64 cl, .int .i64 cp] 37) = W := ⟨_, rfl⟩
  rw [hW] at hg0 hg1 hgl hxW
  rw [hW]
  rw [hgb] at hg0 hg1 hgl
  rw [hgb]
  replace f0 := (hxW.cell (p := ⟨fb, 0, none⟩) hfl).trans f0
  replace f1 := (hxW.cell (p := ⟨fb, 1, none⟩) hfl).trans f1
  replace hfl := Nat.lt_of_lt_of_le hfl hxW.size
  have HxW := Lib.hid (Hx2.out.trans hxW)
  clear hW hgb hxW Hx2
  go_wp2_with fail
  refine (damaged_any jb how at_ v (by omega) _).mono ?_
  rintro x w3 ⟨db, rfl, hds, hx3⟩
  replace f0 := (hx3.cell (p := ⟨fb, 0, none⟩) hfl).trans f0
  replace f1 := (hx3.cell (p := ⟨fb, 1, none⟩) hfl).trans f1
  replace hfl := Nat.lt_of_lt_of_le hfl hx3.size
  replace hg0 := (hx3.cell (p := ⟨gb, 0, none⟩) hgl).trans hg0
  replace hg1 := (hx3.cell (p := ⟨gb, 1, none⟩) hgl).trans hg1
  replace hgl := Nat.lt_of_lt_of_le hgl hx3.size
  have Hx3 := Lib.hid (HxW.out.trans hx3)
  clear hx3 HxW
  have hsel : ∀ k, k < 3 → ∃ s : ByteArray, #[Value.string jb, .string db, .string raw][k]? = some (.string s) ∧ s.size ≤ 140737488351232 := by
    intro k hk
    rcases (show k = 0 ∨ k = 1 ∨ k = 2 by omega) with rfl | rfl | rfl
    · exact ⟨jb, rfl, by omega⟩
    · exact ⟨db, rfl, by omega⟩
    · exact ⟨raw, rfl, hraw⟩
  have Hsel := Lib.hid hsel
  clear hsel hraw hjs hds
  go_wp2_with fail
  go_loopw [51] (fun o wr => ∃ k : Nat, k ≤ 3 ∧ o = .int .i64 (k : Int) ∧ Ext w3 wr) (fun o _ => 3 - (intOf o).toNat)
  case atStart => exact ⟨0, by omega, rfl, Ext.refl _⟩
  case round =>
    obtain ⟨k, hk3, rfl, hx⟩ := hrel
    replace f0 := (hx.cell (p := ⟨fb, 0, none⟩) hfl).trans f0
    replace f1 := (hx.cell (p := ⟨fb, 1, none⟩) hfl).trans f1
    replace hfl := Nat.lt_of_lt_of_le hfl hx.size
    replace hg0 := (hx.cell (p := ⟨gb, 0, none⟩) hgl).trans hg0
    replace hg1 := (hx.cell (p := ⟨gb, 1, none⟩) hgl).trans hg1
    replace hgl := Nat.lt_of_lt_of_le hgl hx.size
    have Hx := Lib.hid hx
    clear hx
    by_cases hk : k < 3
    · have hd : decide ((k : Int) < 3) = true := by simp; omega
      obtain ⟨s, hs, hss⟩ := Hsel.out k hk
      have hix := run_index3 _ hk hs
      obtain ⟨o1, ho1⟩ : ∃ o, outR cl cp s.data.toList = o := ⟨_, rfl⟩
      obtain ⟨o2, ho2⟩ : ∃ o, outR k0 k1 s.data.toList = o := ⟨_, rfl⟩
      have Ho1 := Lib.hid ho1
      have Ho2 := Lib.hid ho2
      clear hs ho1 ho2
      go_wp2_with fail
      refine (recov_any cl cp s hss _).mono ?_
      intro x v5 hpost
      have his := recov_is hpost
      rw [Ho1.out] at his
      obtain ⟨hx5, kv5, rv5, rfl, hkv5, hrv5⟩ := his
      replace f0 := (hx5.cell (p := ⟨fb, 0, none⟩) hfl).trans f0
      replace f1 := (hx5.cell (p := ⟨fb, 1, none⟩) hfl).trans f1
      replace hg0 := (hx5.cell (p := ⟨gb, 0, none⟩) hgl).trans hg0
      replace hg1 := (hx5.cell (p := ⟨gb, 1, none⟩) hgl).trans hg1
      replace hfl := Nat.lt_of_lt_of_le hfl hx5.size
      replace hgl := Nat.lt_of_lt_of_le hgl hx5.size
      have HK5 := Lib.hid hkv5
      have HR5 := Lib.hid hrv5
      have Hx5 := Lib.hid (Hx.out.trans hx5)
      clear hpost hx5 hkv5 hrv5 Hx
      go_wp2_with fail
      refine (rrecov_any cl cp s hss _).mono ?_
      intro x v6 hpost
      have his := recov_is hpost
      rw [Ho1.out] at his
      obtain ⟨hx6, kv6, rv6, rfl, hkv6, hrv6⟩ := his
      replace f0 := (hx6.cell (p := ⟨fb, 0, none⟩) hfl).trans f0
      replace f1 := (hx6.cell (p := ⟨fb, 1, none⟩) hfl).trans f1
      replace hg0 := (hx6.cell (p := ⟨gb, 0, none⟩) hgl).trans hg0
      replace hg1 := (hx6.cell (p := ⟨gb, 1, none⟩) hgl).trans hg1
      replace hfl := Nat.lt_of_lt_of_le hfl hx6.size
      replace hgl := Nat.lt_of_lt_of_le hgl hx6.size
      replace HK5 := Lib.hid (Rd.ext HK5.out hx6)
      replace HR5 := Lib.hid (Rd.ext HR5.out hx6)
      have HK6 := Lib.hid hkv6
      have HR6 := Lib.hid hrv6
      have Hx6 := Lib.hid (Hx5.out.trans hx6)
      clear hpost hx6 hkv6 hrv6 Hx5
      go_wp2_with fail
      refine (recov_any k0 k1 s hss _).mono ?_
      intro x v7 hpost
      have his := recov_is hpost
      rw [Ho2.out] at his
      obtain ⟨hx7, kv7, rv7, rfl, hkv7, hrv7⟩ := his
      replace f0 := (hx7.cell (p := ⟨fb, 0, none⟩) hfl).trans f0
      replace f1 := (hx7.cell (p := ⟨fb, 1, none⟩) hfl).trans f1
      replace hg0 := (hx7.cell (p := ⟨gb, 0, none⟩) hgl).trans hg0
      replace hg1 := (hx7.cell (p := ⟨gb, 1, none⟩) hgl).trans hg1
      replace hfl := Nat.lt_of_lt_of_le hfl hx7.size
      replace hgl := Nat.lt_of_lt_of_le hgl hx7.size
      replace HK5 := Lib.hid (Rd.ext HK5.out hx7)
      replace HR5 := Lib.hid (Rd.ext HR5.out hx7)
      replace HK6 := Lib.hid (Rd.ext HK6.out hx7)
      replace HR6 := Lib.hid (Rd.ext HR6.out hx7)
      have Hx7 := Lib.hid (Hx6.out.trans hx7)
      clear hpost hx7 hkv7 hrv7 Hx6
      go_wp2_with fail
      refine (rrecov_any k0 k1 s hss _).mono ?_
      intro x v8 hpost
      have his := recov_is hpost
      rw [Ho2.out] at his
      obtain ⟨hx8, kv8, rv8, rfl, hkv8, hrv8⟩ := his
      replace f0 := (hx8.cell (p := ⟨fb, 0, none⟩) hfl).trans f0
      replace f1 := (hx8.cell (p := ⟨fb, 1, none⟩) hfl).trans f1
      replace hg0 := (hx8.cell (p := ⟨gb, 0, none⟩) hgl).trans hg0
      replace hg1 := (hx8.cell (p := ⟨gb, 1, none⟩) hgl).trans hg1
      replace hfl := Nat.lt_of_lt_of_le hfl hx8.size
      replace hgl := Nat.lt_of_lt_of_le hgl hx8.size
      replace HK5 := Lib.hid (Rd.ext HK5.out hx8)
      replace HR5 := Lib.hid (Rd.ext HR5.out hx8)
      replace HK6 := Lib.hid (Rd.ext HK6.out hx8)
      replace HR6 := Lib.hid (Rd.ext HR6.out hx8)
      have Hx8 := Lib.hid (Hx7.out.trans hx8)
      clear hpost hx8 hkv8 hrv8 Hx7
      clear f0 f1 hg0 hg1
      go_wp2_with fail
      refine (same_str kv5 kv6 _ (keysL o1.1) _ _ _ HK5.out HK6.out).mono ?_
      rintro x v9 ⟨rfl, hx9⟩
      have HR5' := Lib.hid (Rd.ext HR5.out hx9)
      have HR6' := Lib.hid (Rd.ext HR6.out hx9)
      have Hx9 := Lib.hid (Hx8.out.trans hx9)
      clear hx9 Hx8 HK5 HK6 HR5 HR6
      go_wp2_with fail
      refine (same_recs rv5 rv6 (o1.1.map Prod.snd) _ _ _ HR5'.out HR6'.out).mono ?_
      rintro x v10 ⟨rfl, hx10⟩
      have Hx10 := Lib.hid (Hx9.out.trans hx10)
      clear hx10 Hx9 HR5' HR6'
      go_wp2_with fail
      go_roundw
      case rel => exact ⟨k + 1, by omega, by go_num, Hx10.out⟩
      case measure => simp [intOf]; omega
    · have hd : decide ((k : Int) < 3) = false := by simp; omega
      clear f0 f1 hg0 hg1
      go_wp2_with fail
      refine (awake33 _).mono ?_
      rintro x w6 ⟨rfl, hx6⟩
      have Hx6 := Lib.hid ((Hx3.out.trans Hx.out).trans hx6)
      clear hx6
      go_wp2_with fail
      go_ret
      exact ⟨rfl, Hx6.out.below⟩
end journalRecover
end Go.Proofs.Ytfbhbnolnjcaiaa
