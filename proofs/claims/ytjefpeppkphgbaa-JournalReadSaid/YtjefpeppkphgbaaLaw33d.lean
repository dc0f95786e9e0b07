/-
  JournalRead (33.3): Read of the program and of the reference agree.
  Conditions: the raw string is within a process's reach.
-/
import Derived.Test.YtjefpeppkphgbaaAwake33
namespace Go.Proofs.Ytjefpeppkphgbaa
open Go.RowKit Go.Sort
set_option maxHeartbeats 4000000
set_option maxRecDepth 100000

theorem und3s : Try.prog.underlying 37 = some (.array 3 9) := by kernel_rfl
theorem sizeS : (Try.prog.info? 9).map (·.size) = some 1 := by kernel_rfl
/-- An element of an array of three strings. -/
theorem run_index3 (cs : Array Value) {k : Nat} {v : Value} (hk : k < 3) (h : cs[k]? = some v) (w : World) : (Instr.index 37 (.agg cs) (.int .i64 (k : Int))).run Try.prog w = .ok v w := by
  have hq := sizeS
  rw [Option.map_eq_some_iff] at hq
  obtain ⟨q, hq, hs⟩ := hq
  have hsz : (sizeOf 9).run Try.prog w = .ok 1 w := by
    simp [sizeOf, typeInfo, hq, hs]
  have h0 : (0 : Int) ≤ (k : Int) ∧ (k : Int) < 3 := by omega
  simp only [Instr.index, asIntOf, Sem.run_bind, Sem.run_pure, Result.andThen_ok, run_underlying und3s]
  simp [h0, hsz, part, h]

namespace journalRead
theorem walk (raw : ByteArray) (a : Option Addr) (len cap : Nat) (zs : List Int) (how at_ v : Int) (w : World) (hraw : raw.size ≤ 140737488351232) (hr : IsRow .i64 w a len cap zs) (_ : I64 how) (_ : I64 at_) (_ : I64 v) :
    Calls Try.prog 4 #[.string raw, .slice a len cap, .int .i64 how, .int .i64 at_, .int .i64 v] w fun e w' => e = .returned (.bool true) ∧ Below w.heap.size w w' := by
  have Hrow := Lib.hid (RowIn.of_row hr)
  clear hr
  go_enter Try.func4, Try.ntmps4
  go_wp2_with fail
  refine (written_any _ _ _ _ Hrow.out).mono ?_
  rintro x w1 ⟨hx1, va, ps, rfl, hok, hp5, hsm, hents⟩
  have hlb := bytes_len hok
  obtain ⟨jb, hjb⟩ : ∃ jb, bs (bytesE (ps.map Prod.fst)) = jb := ⟨_, rfl⟩
  have hjs : jb.size ≤ 21000 := by rw [← hjb, bs_size]; simp at hlb; omega
  rw [hjb]
  have Hx1 := Lib.hid hx1
  clear hx1 hok hsm hents hlb hjb Hrow
  go_wp2_with fail
  refine (damaged_any jb how at_ v (by omega) _).mono ?_
  rintro x w2 ⟨db, rfl, hds, hx2⟩
  have Hx2 := Lib.hid (Hx1.out.trans hx2)
  clear hx2 Hx1
  have hsel : ∀ k, k < 3 → ∃ s : ByteArray, #[Value.string jb, .string db, .string raw][k]? = some (.string s) ∧ s.size ≤ 140737488351232 := by
    intro k hk
    rcases (show k = 0 ∨ k = 1 ∨ k = 2 by omega) with rfl | rfl | rfl
    · exact ⟨jb, rfl, by omega⟩
    · exact ⟨db, rfl, by omega⟩
    · exact ⟨raw, rfl, hraw⟩
  have Hsel := Lib.hid hsel
  clear hsel hraw hjs hds
  go_wp2_with fail
  go_loopw [32] (fun o wr => ∃ k : Nat, k ≤ 3 ∧ o = .int .i64 (k : Int) ∧ Ext w wr) (fun o _ => 3 - (intOf o).toNat)
  case atStart => exact ⟨0, by omega, rfl, Hx2.out⟩
  case round =>
    clear Hx2
    obtain ⟨k, hk3, rfl, hx⟩ := hrel
    have Hx := Lib.hid hx
    clear hx
    by_cases hk : k < 3
    · have hd : decide ((k : Int) < 3) = true := by simp; omega
      obtain ⟨s, hs, hss⟩ := Hsel.out k hk
      have hix := run_index3 _ hk hs
      clear hs
      go_wp2_with fail
      refine (read_any s hss _).mono ?_
      rintro x w3 ⟨hx3, v1, rs1, rfl, hrs1, hent1⟩
      obtain ⟨A1, C1, rfl⟩ := hent1.shape
      obtain ⟨n, hn⟩ : ∃ n, (readJ s.data.toList).2 = n := ⟨_, rfl⟩
      rw [hn]
      have Hx3 := Lib.hid (Hx.out.trans hx3)
      have Hent1 := Lib.hid hent1
      have Hrs1 := Lib.hid hrs1
      have Hn := Lib.hid hn
      clear hx3 hent1 hrs1 hn Hx
      go_wp2_with fail
      refine (rread_any s hss _).mono ?_
      rintro x w4 ⟨hx4, v2, rs2, rfl, hrs2, hent2⟩
      obtain ⟨A2, C2, rfl⟩ := hent2.shape
      rw [Hn.out]
      have Hx4 := Lib.hid (Hx3.out.trans hx4)
      have Hent1 := Lib.hid (Hent1.out.ext hx4)
      have Hent2 := Lib.hid hent2
      have Hrs2 := Lib.hid hrs2
      clear hx4 hent2 hrs2 Hx3
      go_wp2_with fail
      have hcall := same_ents _ _ rs1 rs2 (by rw [Hrs1.out, Hrs2.out]) _ _ w4 Hent1.out Hent2.out
      with_reducible refine hcall.mono ?_
      rintro x w5 ⟨rfl, hx5⟩
      have Hx5 := Lib.hid (Hx4.out.trans hx5)
      clear hcall hx5 Hx4 Hent1 Hent2
      go_wp2_with fail
      go_roundw
      case rel => exact ⟨k + 1, by omega, by go_num, Hx5.out⟩
      case measure => simp [intOf]; omega
    · have hd : decide ((k : Int) < 3) = false := by simp; omega
      go_wp2_with fail
      refine (awake33 _).mono ?_
      rintro x w6 ⟨rfl, hx6⟩
      have Hx6 := Lib.hid (Hx.out.trans hx6)
      clear hx6
      go_wp2_with fail
      go_ret
      exact ⟨rfl, Hx6.out.below⟩
end journalRead
end Go.Proofs.Ytjefpeppkphgbaa
