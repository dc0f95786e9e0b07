/-
  No cell of these rows narrows 'for every input' (looked for: loops, veiled, ifaces, maps, wideKeys, modest, calm, conditions, laid).
  DERIVED. THE GIVEN ROWS OF THIS SEAT. 3 by the template 'for every input the law returns true; each argument reads behind the call as it read before'; 0 by the template 'total and deterministic' (their statements: YtfbhbnolnjcaiaaTotals.lean).
  GIVEN WITH THE SEED: the statements are not yours to turn. If you find one false, say at which input.
  Laid BY PROGRAM, IN A SANDBOX (cutbox-rows.mjs): the forced cells as the released guide's own fill.sh prints them over the translation eb837a0f5569b332… (all of the seat's roots in one cut). By AI agents, Wed Nov 11 2026. No macro, syntax, notation, axiom, sorry.
-/
import Derived.Test.YtfbhbnolnjcaiaaChecked
import GoSem.Claim
import GoSem.ClaimJoined
import GoSem.ClaimMapViews
import Derived.JoinedTies
import Derived.KernelRfl
namespace Go.Proofs.Ytfbhbnolnjcaiaa
/- THE CELL 'sum', in the pinned program and in every row, IS THE sha256 OF THE DUMP (.gsa) THAT YtfbhbnolnjcaiaaProg.lean LOADS. Nothing in Lean hashes anything: it is a label: what it is worth is what the hold of that sum in a sandbox is worth. -/
noncomputable def Try.pinned : Pinned := { name := "ytfbhbnolnjcaiaa", sum := "eb837a0f5569b332c7ca994406ed04d41f8b63bc81f8ebb584fc80193f3a4fe2", checked := Try.checked }
namespace Rows
def none {H : Type} : Left H := { results := [], args := [] }

/-- 'namedesklaw32.HistoryNone': WHATEVER THE INPUT: true; the input reads as it did. -/
def historyNoneSpec : ChangeSpec := { name := "historyNone", fn := fun _ => fun
  | [d1, d2, d3] => { results := [.lit (.bool true)], args := [d1, d2, d3] }
  | _ => none }
def historyNoneRow : OpenClaim := { program := "ytfbhbnolnjcaiaa", sum := "eb837a0f5569b332c7ca994406ed04d41f8b63bc81f8ebb584fc80193f3a4fe2", func := "namedesk/namedesklaw32.HistoryNone", spec := "historyNone", unfollowed := true, recurses := true, apart := false }
def HistoryNoneSaid : Prop := historyNoneRow.holds Try.pinned (OpenSpec.ofChange historyNoneSpec)

/-- ITS FALSE NEIGHBOUR: 'it returns false'. Refute it at one input. -/
def historyNoneWrong : ChangeSpec := { name := "historyNone", fn := fun _ => fun
  | [d1, d2, d3] => { results := [.lit (.bool false)], args := [d1, d2, d3] }
  | _ => none }
def HistoryNoneWrongFalsely : Prop := historyNoneRow.holds Try.pinned (OpenSpec.ofChange historyNoneWrong)

/-- 'namedesklaw28.ModelRaw': WHATEVER THE INPUT: true; the input reads as it did. -/
def modelRawSpec : ChangeSpec := { name := "modelRaw", fn := fun _ => fun
  | [d1, d2, d3, d4, d5, d6] => { results := [.lit (.bool true)], args := [d1, d2, d3, d4, d5, d6] }
  | _ => none }
def modelRawRow : OpenClaim := { program := "ytfbhbnolnjcaiaa", sum := "eb837a0f5569b332c7ca994406ed04d41f8b63bc81f8ebb584fc80193f3a4fe2", func := "namedesk/namedesklaw28.ModelRaw", spec := "modelRaw", unfollowed := true, recurses := true, apart := false }
def ModelRawSaid : Prop := modelRawRow.holds Try.pinned (OpenSpec.ofChange modelRawSpec)

/-- ITS FALSE NEIGHBOUR: 'it returns false'. Refute it at one input. -/
def modelRawWrong : ChangeSpec := { name := "modelRaw", fn := fun _ => fun
  | [d1, d2, d3, d4, d5, d6] => { results := [.lit (.bool false)], args := [d1, d2, d3, d4, d5, d6] }
  | _ => none }
def ModelRawWrongFalsely : Prop := modelRawRow.holds Try.pinned (OpenSpec.ofChange modelRawWrong)

/-- 'namedesklaw33.JournalRecover': WHATEVER THE INPUT: true; the input reads as it did. -/
def journalRecoverSpec : ChangeSpec := { name := "journalRecover", fn := fun _ => fun
  | [d1, d2, d3, d4, d5, d6, d7] => { results := [.lit (.bool true)], args := [d1, d2, d3, d4, d5, d6, d7] }
  | _ => none }
def journalRecoverRow : OpenClaim := { program := "ytfbhbnolnjcaiaa", sum := "eb837a0f5569b332c7ca994406ed04d41f8b63bc81f8ebb584fc80193f3a4fe2", func := "namedesk/namedesklaw33.JournalRecover", spec := "journalRecover", unfollowed := true, recurses := true, apart := false }
def JournalRecoverSaid : Prop := journalRecoverRow.holds Try.pinned (OpenSpec.ofChange journalRecoverSpec)

/-- ITS FALSE NEIGHBOUR: 'it returns false'. Refute it at one input. -/
def journalRecoverWrong : ChangeSpec := { name := "journalRecover", fn := fun _ => fun
  | [d1, d2, d3, d4, d5, d6, d7] => { results := [.lit (.bool false)], args := [d1, d2, d3, d4, d5, d6, d7] }
  | _ => none }
def JournalRecoverWrongFalsely : Prop := journalRecoverRow.holds Try.pinned (OpenSpec.ofChange journalRecoverWrong)

/- THE SECOND FORM. 'bulk': how many values and letters a reading holds, each counted each time it is reached (what is shared counts as often as it is met; a slice's spare places count too). A statement '..UptoSaid' is the law's where the arguments, and the package variables that the reading takes, are together of bulk at most 1048576: NARROWER than '..Said'. Prove '..Said' where nothing that the law and all that it calls make is longer than what came in: it says more and counts as full. Else prove '..UptoSaid'. A law counts once. -/
mutual
def uptoBulk {H : Type} : DataW H → Nat
  | .lit (.string bytes) => bytes.length + 1
  | .lit _ => 1
  | .nil => 1
  | .ptr d => uptoBulk d + 1
  | .slice elems spare => uptoBulkAll elems + uptoBulkAll spare + 1
  | .agg parts => uptoBulkAll parts + 1
  | .iface _ d => uptoBulk d + 1
  | .map entries => uptoBulkEntries entries + 1
  | .held _ => 1
def uptoBulkAll {H : Type} : List (DataW H) → Nat
  | [] => 0
  | d :: r => uptoBulk d + uptoBulkAll r
def uptoBulkEntries {H : Type} : List (Lit × DataW H) → Nat
  | [] => 0
  | x :: r => uptoBulkEntry x + uptoBulkEntries r
def uptoBulkEntry {H : Type} : Lit × DataW H → Nat
  | (.string bytes, d) => bytes.length + uptoBulk d + 1
  | (_, d) => uptoBulk d + 1
 end
def uptoSmall : (H : Type) → List (DataW H) → Bool := fun _ ds => decide (uptoBulkAll ds ≤ 1048576)
def OpenSpec.upto (s : _root_.Go.ChangeSpec) : _root_.Go.OpenSpec := { _root_.Go.OpenSpec.ofChange s with cond := some uptoSmall }

/-- 'namedesklaw32.HistoryNone', WHERE WHAT IT READS IS OF BULK AT MOST 1048576: true; the input reads as it did. -/
def historyNoneUptoRow : OpenClaim := { program := "ytfbhbnolnjcaiaa", sum := "eb837a0f5569b332c7ca994406ed04d41f8b63bc81f8ebb584fc80193f3a4fe2", func := "namedesk/namedesklaw32.HistoryNone", spec := "historyNone", unfollowed := true, recurses := true, apart := false, narrowed := true }
def HistoryNoneUptoSaid : Prop := historyNoneUptoRow.holds Try.pinned (OpenSpec.upto historyNoneSpec)

/-- 'namedesklaw28.ModelRaw', WHERE WHAT IT READS IS OF BULK AT MOST 1048576: true; the input reads as it did. -/
def modelRawUptoRow : OpenClaim := { program := "ytfbhbnolnjcaiaa", sum := "eb837a0f5569b332c7ca994406ed04d41f8b63bc81f8ebb584fc80193f3a4fe2", func := "namedesk/namedesklaw28.ModelRaw", spec := "modelRaw", unfollowed := true, recurses := true, apart := false, narrowed := true }
def ModelRawUptoSaid : Prop := modelRawUptoRow.holds Try.pinned (OpenSpec.upto modelRawSpec)

/-- 'namedesklaw33.JournalRecover', WHERE WHAT IT READS IS OF BULK AT MOST 1048576: true; the input reads as it did. -/
def journalRecoverUptoRow : OpenClaim := { program := "ytfbhbnolnjcaiaa", sum := "eb837a0f5569b332c7ca994406ed04d41f8b63bc81f8ebb584fc80193f3a4fe2", func := "namedesk/namedesklaw33.JournalRecover", spec := "journalRecover", unfollowed := true, recurses := true, apart := false, narrowed := true }
def JournalRecoverUptoSaid : Prop := journalRecoverUptoRow.holds Try.pinned (OpenSpec.upto journalRecoverSpec)

end Rows
end Go.Proofs.Ytfbhbnolnjcaiaa
