/-
  ModelScript: all methods of the model return the specified results after any sequence of calls.
  Conditions: none.
-/
import Derived.Test.YtfbhbnolnjcaiaaMSt
import Derived.Test.YtfbhbnolnjcaiaaMKeys
import Derived.Test.YtfbhbnolnjcaiaaRKeys
import Derived.Test.YtfbhbnolnjcaiaaRDo
import Derived.Test.YtfbhbnolnjcaiaaSameS
namespace Go.Proofs.Ytfbhbnolnjcaiaa
open Go.RowKit Go.Sort Go.Shelf
set_option maxHeartbeats 8000000
set_option maxRecDepth 100000

/-- What happens beside the model and the calls leaves both as they were. -/
theorem MSt.beside {w wr w2 : World} {B b m yb : Nat} {cl cp : Int} {v : Value} {ps : List (Ent × Value)} {l : List Kp} {k : Nat} (h : MSt w wr B b m cl cp v ps l k) (c : Chg (· = yb) wr w2) (hm : m < yb) (hb : b < yb) (hB : yb < B) : MSt w w2 B b m cl cp v ps l k :=
  ⟨h.mod.chg c (by omega) (by omega), h.few, h.nz, h.ents.chgM c (fun i hi e => by omega), h.ext.chg_new c (fun i hi => by have := h.hw; omega), h.hm, h.hb, h.hw, Nat.le_trans h.big c.size⟩
namespace modelScript
end modelScript
end Go.Proofs.Ytfbhbnolnjcaiaa
