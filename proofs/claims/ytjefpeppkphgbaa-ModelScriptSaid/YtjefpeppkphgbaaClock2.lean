/-
  More of chapter 23: Left in both texts, the law's own tick and its example.
  Conditions: none.
-/
import Derived.Test.YtjefpeppkphgbaaClock
namespace Go.Proofs.Ytjefpeppkphgbaa
open Go.RowKit Go.Sort
set_option maxHeartbeats 400000

/-- Left (23.3). -/
def leftI (st dl now : Int) : Int := if st = 1 ∧ liveB st dl now = true ∧ tickB dl = true ∧ tickB now = true then dl - now else 0

/-- Some integer of a range is returned, and the world is as it was. -/
def RetIn (lo hi : Int) (w : World) (e : Ending) (w' : World) : Prop := ∃ n, lo ≤ n ∧ n ≤ hi ∧ e = .returned (.int .i64 n) ∧ w = w'

end Go.Proofs.Ytjefpeppkphgbaa
