/-
  JournalRead (33.3): Read of the program and of the reference agree.
  Conditions: the raw string is within a process's reach.
-/
import Derived.Test.YtfbhbnolnjcaiaaAwake33
namespace Go.Proofs.Ytfbhbnolnjcaiaa
open Go.RowKit Go.Sort
set_option maxHeartbeats 4000000
set_option maxRecDepth 100000

theorem und3s : Try.prog.underlying 61 = some (.array 3 9) := by kernel_rfl
theorem sizeS : (Try.prog.info? 9).map (·.size) = some 1 := by kernel_rfl
/-- An element of an array of three strings. -/
theorem run_index3 (cs : Array Value) {k : Nat} {v : Value} (hk : k < 3) (h : cs[k]? = some v) (w : World) : (Instr.index 61 (.agg cs) (.int .i64 (k : Int))).run Try.prog w = .ok v w := by
  have hq := sizeS
  rw [Option.map_eq_some_iff] at hq
  obtain ⟨q, hq, hs⟩ := hq
  have hsz : (sizeOf 9).run Try.prog w = .ok 1 w := by
    simp [sizeOf, typeInfo, hq, hs]
  have h0 : (0 : Int) ≤ (k : Int) ∧ (k : Int) < 3 := by omega
  simp only [Instr.index, asIntOf, Sem.run_bind, Sem.run_pure, Result.andThen_ok, run_underlying und3s]
  simp [h0, hsz, part, h]

namespace journalRead
end journalRead
end Go.Proofs.Ytfbhbnolnjcaiaa
