/-
  The type of strings, and of lists of strings.
  Conditions: none.
-/
import Derived.Test.YtjefpeppkphgbaaMkRec
namespace Go.Proofs.Ytjefpeppkphgbaa
open Go.RowKit
theorem info_str : (Try.prog.info? 9).map (fun i => (i.zero, i.size, i.bytes)) = some (some (.string ⟨#[]⟩), 1, 16) := by kernel_rfl
theorem und_strs : Try.prog.underlying 85 = some (.slice 9) := by kernel_rfl
end Go.Proofs.Ytjefpeppkphgbaa
