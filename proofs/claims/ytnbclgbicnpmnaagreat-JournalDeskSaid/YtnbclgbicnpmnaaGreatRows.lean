/-
  No cell of these rows narrows 'for every input' (looked for: loops, veiled, ifaces, maps, wideKeys, modest, calm, conditions, laid).
  DERIVED. THE GIVEN ROWS OF THIS SEAT. 6 by the template 'for every input the law returns true; each argument reads behind the call as it read before'; 0 by the template 'total and deterministic' (their statements: YtnbclgbicnpmnaaGreatTotals.lean).
  GIVEN WITH THE SEED: the statements are not yours to turn. If you find one false, say at which input.
  Laid BY PROGRAM, IN A SANDBOX (cutbox-rows.mjs): the forced cells as the released guide's own fill.sh prints them over the translation eea8985ceeb137bd… (all of the seat's roots in one cut). By AI agents, Wed Nov 11 2026. No macro, syntax, notation, axiom, sorry.
-/
import Derived.Test.YtnbclgbicnpmnaaGreatChecked
import GoSem.Claim
import GoSem.ClaimJoined
import GoSem.ClaimMapViews
import Derived.JoinedTies
import Derived.KernelRfl
namespace Go.Proofs.YtnbclgbicnpmnaaGreat
/- THE CELL 'sum', in the pinned program and in every row, IS THE sha256 OF THE DUMP (.gsa) THAT YtnbclgbicnpmnaaGreatProg.lean LOADS. Nothing in Lean hashes anything: it is a label: what it is worth is what the hold of that sum in a sandbox is worth. -/
noncomputable def Tryz.pinned : Pinned := { name := "ytnbclgbicnpmnaagreat", sum := "eea8985ceeb137bd46a3af02effe468552135413507848ce490e2436732da63b", checked := Tryz.checked }
namespace Rows
def none {H : Type} : Left H := { results := [], args := [] }

/-- 'namedesklaw33.JournalEntries': WHATEVER THE INPUT: true; the input reads as it did. -/
def journalEntriesSpec : ChangeSpec := { name := "journalEntries", fn := fun _ => fun
  | [d1, d2, d3, d4] => { results := [.lit (.bool true)], args := [d1, d2, d3, d4] }
  | _ => none }
def journalEntriesRow : OpenClaim := { program := "ytnbclgbicnpmnaagreat", sum := "eea8985ceeb137bd46a3af02effe468552135413507848ce490e2436732da63b", func := "namedesk/namedesklaw33.JournalEntries", spec := "journalEntries", unfollowed := true, recurses := true, apart := false }
def JournalEntriesSaid : Prop := journalEntriesRow.holds Tryz.pinned (OpenSpec.ofChange journalEntriesSpec)

/-- ITS FALSE NEIGHBOUR: 'it returns false'. Refute it at one input. -/
def journalEntriesWrong : ChangeSpec := { name := "journalEntries", fn := fun _ => fun
  | [d1, d2, d3, d4] => { results := [.lit (.bool false)], args := [d1, d2, d3, d4] }
  | _ => none }
def JournalEntriesWrongFalsely : Prop := journalEntriesRow.holds Tryz.pinned (OpenSpec.ofChange journalEntriesWrong)

/-- 'namedesklaw32.HistoryMade': WHATEVER THE INPUT: true; the input reads as it did. -/
def historyMadeSpec : ChangeSpec := { name := "historyMade", fn := fun _ => fun
  | [d1, d2, d3, d4, d5, d6, d7, d8, d9] => { results := [.lit (.bool true)], args := [d1, d2, d3, d4, d5, d6, d7, d8, d9] }
  | _ => none }
def historyMadeRow : OpenClaim := { program := "ytnbclgbicnpmnaagreat", sum := "eea8985ceeb137bd46a3af02effe468552135413507848ce490e2436732da63b", func := "namedesk/namedesklaw32.HistoryMade", spec := "historyMade", unfollowed := true, recurses := true, apart := false }
def HistoryMadeSaid : Prop := historyMadeRow.holds Tryz.pinned (OpenSpec.ofChange historyMadeSpec)

/-- ITS FALSE NEIGHBOUR: 'it returns false'. Refute it at one input. -/
def historyMadeWrong : ChangeSpec := { name := "historyMade", fn := fun _ => fun
  | [d1, d2, d3, d4, d5, d6, d7, d8, d9] => { results := [.lit (.bool false)], args := [d1, d2, d3, d4, d5, d6, d7, d8, d9] }
  | _ => none }
def HistoryMadeWrongFalsely : Prop := historyMadeRow.holds Tryz.pinned (OpenSpec.ofChange historyMadeWrong)

/-- 'namedesklaw32.HistorySearch': WHATEVER THE INPUT: true; the input reads as it did. -/
def historySearchSpec : ChangeSpec := { name := "historySearch", fn := fun _ => fun
  | [d1, d2, d3, d4, d5, d6, d7] => { results := [.lit (.bool true)], args := [d1, d2, d3, d4, d5, d6, d7] }
  | _ => none }
def historySearchRow : OpenClaim := { program := "ytnbclgbicnpmnaagreat", sum := "eea8985ceeb137bd46a3af02effe468552135413507848ce490e2436732da63b", func := "namedesk/namedesklaw32.HistorySearch", spec := "historySearch", unfollowed := true, recurses := true, apart := false }
def HistorySearchSaid : Prop := historySearchRow.holds Tryz.pinned (OpenSpec.ofChange historySearchSpec)

/-- ITS FALSE NEIGHBOUR: 'it returns false'. Refute it at one input. -/
def historySearchWrong : ChangeSpec := { name := "historySearch", fn := fun _ => fun
  | [d1, d2, d3, d4, d5, d6, d7] => { results := [.lit (.bool false)], args := [d1, d2, d3, d4, d5, d6, d7] }
  | _ => none }
def HistorySearchWrongFalsely : Prop := historySearchRow.holds Tryz.pinned (OpenSpec.ofChange historySearchWrong)

/-- 'namedesklaw32.HistoryAccepts': WHATEVER THE INPUT: true; the input reads as it did. -/
def historyAcceptsSpec : ChangeSpec := { name := "historyAccepts", fn := fun _ => fun
  | [d1, d2, d3, d4] => { results := [.lit (.bool true)], args := [d1, d2, d3, d4] }
  | _ => none }
def historyAcceptsRow : OpenClaim := { program := "ytnbclgbicnpmnaagreat", sum := "eea8985ceeb137bd46a3af02effe468552135413507848ce490e2436732da63b", func := "namedesk/namedesklaw32.HistoryAccepts", spec := "historyAccepts", unfollowed := true, recurses := true, apart := false }
def HistoryAcceptsSaid : Prop := historyAcceptsRow.holds Tryz.pinned (OpenSpec.ofChange historyAcceptsSpec)

/-- ITS FALSE NEIGHBOUR: 'it returns false'. Refute it at one input. -/
def historyAcceptsWrong : ChangeSpec := { name := "historyAccepts", fn := fun _ => fun
  | [d1, d2, d3, d4] => { results := [.lit (.bool false)], args := [d1, d2, d3, d4] }
  | _ => none }
def HistoryAcceptsWrongFalsely : Prop := historyAcceptsRow.holds Tryz.pinned (OpenSpec.ofChange historyAcceptsWrong)

/-- 'namedesklaw32.HistoryFinds': WHATEVER THE INPUT: true; the input reads as it did. -/
def historyFindsSpec : ChangeSpec := { name := "historyFinds", fn := fun _ => fun
  | [d1, d2, d3] => { results := [.lit (.bool true)], args := [d1, d2, d3] }
  | _ => none }
def historyFindsRow : OpenClaim := { program := "ytnbclgbicnpmnaagreat", sum := "eea8985ceeb137bd46a3af02effe468552135413507848ce490e2436732da63b", func := "namedesk/namedesklaw32.HistoryFinds", spec := "historyFinds", unfollowed := true, recurses := true, apart := false }
def HistoryFindsSaid : Prop := historyFindsRow.holds Tryz.pinned (OpenSpec.ofChange historyFindsSpec)

/-- ITS FALSE NEIGHBOUR: 'it returns false'. Refute it at one input. -/
def historyFindsWrong : ChangeSpec := { name := "historyFinds", fn := fun _ => fun
  | [d1, d2, d3] => { results := [.lit (.bool false)], args := [d1, d2, d3] }
  | _ => none }
def HistoryFindsWrongFalsely : Prop := historyFindsRow.holds Tryz.pinned (OpenSpec.ofChange historyFindsWrong)

/-- 'namedesklaw33.JournalDesk': WHATEVER THE INPUT: true; the input reads as it did. -/
def journalDeskSpec : ChangeSpec := { name := "journalDesk", fn := fun _ => fun
  | [d1, d2, d3] => { results := [.lit (.bool true)], args := [d1, d2, d3] }
  | _ => none }
def journalDeskRow : OpenClaim := { program := "ytnbclgbicnpmnaagreat", sum := "eea8985ceeb137bd46a3af02effe468552135413507848ce490e2436732da63b", func := "namedesk/namedesklaw33.JournalDesk", spec := "journalDesk", unfollowed := true, recurses := true, apart := false }
def JournalDeskSaid : Prop := journalDeskRow.holds Tryz.pinned (OpenSpec.ofChange journalDeskSpec)

/-- ITS FALSE NEIGHBOUR: 'it returns false'. Refute it at one input. -/
def journalDeskWrong : ChangeSpec := { name := "journalDesk", fn := fun _ => fun
  | [d1, d2, d3] => { results := [.lit (.bool false)], args := [d1, d2, d3] }
  | _ => none }
def JournalDeskWrongFalsely : Prop := journalDeskRow.holds Tryz.pinned (OpenSpec.ofChange journalDeskWrong)

/- THE SECOND FORM. 'bulk': how many values and letters a reading holds, each counted each time it is reached (what is shared counts as often as it is met; a slice's spare places count too). A statement '..UptoSaid' is the law's where the arguments, and the package variables that the reading takes, are together of bulk at most 1048576: NARROWER than '..Said'. Prove '..Said' where nothing that the law and all that it calls make is longer than what came in: it says more and counts as full. Else prove '..UptoSaid'. A law counts once. -/
mutual
def uptoBulk {H : Type} : DataW H → Nat
  | .lit (.string bytes) => bytes.length + 1
  | .lit _ => 1
  | .nil => 1
  | .ptr d => uptoBulk d + 1
  | .slice elems spare => uptoBulkAll elems + uptoBulkAll spare + 1
  | .agg parts => uptoBulkAll parts + 1
  | .iface _ d => uptoBulk d + 1
  | .map entries => uptoBulkEntries entries + 1
  | .held _ => 1
def uptoBulkAll {H : Type} : List (DataW H) → Nat
  | [] => 0
  | d :: r => uptoBulk d + uptoBulkAll r
def uptoBulkEntries {H : Type} : List (Lit × DataW H) → Nat
  | [] => 0
  | x :: r => uptoBulkEntry x + uptoBulkEntries r
def uptoBulkEntry {H : Type} : Lit × DataW H → Nat
  | (.string bytes, d) => bytes.length + uptoBulk d + 1
  | (_, d) => uptoBulk d + 1
 end
def uptoSmall : (H : Type) → List (DataW H) → Bool := fun _ ds => decide (uptoBulkAll ds ≤ 1048576)
def OpenSpec.upto (s : _root_.Go.ChangeSpec) : _root_.Go.OpenSpec := { _root_.Go.OpenSpec.ofChange s with cond := some uptoSmall }

/-- 'namedesklaw33.JournalEntries', WHERE WHAT IT READS IS OF BULK AT MOST 1048576: true; the input reads as it did. -/
def journalEntriesUptoRow : OpenClaim := { program := "ytnbclgbicnpmnaagreat", sum := "eea8985ceeb137bd46a3af02effe468552135413507848ce490e2436732da63b", func := "namedesk/namedesklaw33.JournalEntries", spec := "journalEntries", unfollowed := true, recurses := true, apart := false, narrowed := true }
def JournalEntriesUptoSaid : Prop := journalEntriesUptoRow.holds Tryz.pinned (OpenSpec.upto journalEntriesSpec)

/-- 'namedesklaw32.HistoryMade', WHERE WHAT IT READS IS OF BULK AT MOST 1048576: true; the input reads as it did. -/
def historyMadeUptoRow : OpenClaim := { program := "ytnbclgbicnpmnaagreat", sum := "eea8985ceeb137bd46a3af02effe468552135413507848ce490e2436732da63b", func := "namedesk/namedesklaw32.HistoryMade", spec := "historyMade", unfollowed := true, recurses := true, apart := false, narrowed := true }
def HistoryMadeUptoSaid : Prop := historyMadeUptoRow.holds Tryz.pinned (OpenSpec.upto historyMadeSpec)

/-- 'namedesklaw32.HistorySearch', WHERE WHAT IT READS IS OF BULK AT MOST 1048576: true; the input reads as it did. -/
def historySearchUptoRow : OpenClaim := { program := "ytnbclgbicnpmnaagreat", sum := "eea8985ceeb137bd46a3af02effe468552135413507848ce490e2436732da63b", func := "namedesk/namedesklaw32.HistorySearch", spec := "historySearch", unfollowed := true, recurses := true, apart := false, narrowed := true }
def HistorySearchUptoSaid : Prop := historySearchUptoRow.holds Tryz.pinned (OpenSpec.upto historySearchSpec)

/-- 'namedesklaw32.HistoryAccepts', WHERE WHAT IT READS IS OF BULK AT MOST 1048576: true; the input reads as it did. -/
def historyAcceptsUptoRow : OpenClaim := { program := "ytnbclgbicnpmnaagreat", sum := "eea8985ceeb137bd46a3af02effe468552135413507848ce490e2436732da63b", func := "namedesk/namedesklaw32.HistoryAccepts", spec := "historyAccepts", unfollowed := true, recurses := true, apart := false, narrowed := true }
def HistoryAcceptsUptoSaid : Prop := historyAcceptsUptoRow.holds Tryz.pinned (OpenSpec.upto historyAcceptsSpec)

/-- 'namedesklaw32.HistoryFinds', WHERE WHAT IT READS IS OF BULK AT MOST 1048576: true; the input reads as it did. -/
def historyFindsUptoRow : OpenClaim := { program := "ytnbclgbicnpmnaagreat", sum := "eea8985ceeb137bd46a3af02effe468552135413507848ce490e2436732da63b", func := "namedesk/namedesklaw32.HistoryFinds", spec := "historyFinds", unfollowed := true, recurses := true, apart := false, narrowed := true }
def HistoryFindsUptoSaid : Prop := historyFindsUptoRow.holds Tryz.pinned (OpenSpec.upto historyFindsSpec)

/-- 'namedesklaw33.JournalDesk', WHERE WHAT IT READS IS OF BULK AT MOST 1048576: true; the input reads as it did. -/
def journalDeskUptoRow : OpenClaim := { program := "ytnbclgbicnpmnaagreat", sum := "eea8985ceeb137bd46a3af02effe468552135413507848ce490e2436732da63b", func := "namedesk/namedesklaw33.JournalDesk", spec := "journalDesk", unfollowed := true, recurses := true, apart := false, narrowed := true }
def JournalDeskUptoSaid : Prop := journalDeskUptoRow.holds Tryz.pinned (OpenSpec.upto journalDeskSpec)

end Rows
end Go.Proofs.YtnbclgbicnpmnaaGreat
