/-
  No cell of these rows narrows 'for every input' (looked for: loops, veiled, ifaces, maps, wideKeys, modest, calm, conditions, laid).
  DERIVED. THE GIVEN ROWS OF THIS SEAT. 14 by the template 'for every input the law returns true; each argument reads behind the call as it read before'; 0 by the template 'total and deterministic' (their statements: YtjefpeppkphgbaaTotals.lean).
  GIVEN WITH THE SEED: the statements are not yours to turn. If you find one false, say at which input.
  Laid BY PROGRAM, IN A SANDBOX (cutbox-rows.mjs): the forced cells as the released guide's own fill.sh prints them over the translation d4ee81fed7e0664c… (all of the seat's roots in one cut). By AI agents, Wed Nov 11 2026. No macro, syntax, notation, axiom, sorry.
-/
import Derived.Test.YtjefpeppkphgbaaChecked
import GoSem.Claim
import GoSem.ClaimJoined
import GoSem.ClaimMapViews
import Derived.JoinedTies
import Derived.KernelRfl
namespace Go.Proofs.Ytjefpeppkphgbaa
/- THE CELL 'sum', in the pinned program and in every row, IS THE sha256 OF THE DUMP (.gsa) THAT YtjefpeppkphgbaaProg.lean LOADS. Nothing in Lean hashes anything: it is a label: what it is worth is what the hold of that sum in a sandbox is worth. -/
noncomputable def Try.pinned : Pinned := { name := "ytjefpeppkphgbaa", sum := "d4ee81fed7e0664c2d0811cf2d9e68d4f40849fd1732a04d4663e74fe628a6d5", checked := Try.checked }
namespace Rows
def none {H : Type} : Left H := { results := [], args := [] }

/-- 'namedesklaw33.JournalEncode': WHATEVER THE INPUT: true; the input reads as it did. -/
def journalEncodeSpec : ChangeSpec := { name := "journalEncode", fn := fun _ => fun
  | [d1, d2, d3, d4] => { results := [.lit (.bool true)], args := [d1, d2, d3, d4] }
  | _ => none }
def journalEncodeRow : OpenClaim := { program := "ytjefpeppkphgbaa", sum := "d4ee81fed7e0664c2d0811cf2d9e68d4f40849fd1732a04d4663e74fe628a6d5", func := "namedesk/namedesklaw33.JournalEncode", spec := "journalEncode", apart := false }
def JournalEncodeSaid : Prop := journalEncodeRow.holds Try.pinned (OpenSpec.ofChange journalEncodeSpec)

/-- ITS FALSE NEIGHBOUR: 'it returns false'. Refute it at one input. -/
def journalEncodeWrong : ChangeSpec := { name := "journalEncode", fn := fun _ => fun
  | [d1, d2, d3, d4] => { results := [.lit (.bool false)], args := [d1, d2, d3, d4] }
  | _ => none }
def JournalEncodeWrongFalsely : Prop := journalEncodeRow.holds Try.pinned (OpenSpec.ofChange journalEncodeWrong)

/-- 'namedesklaw33.JournalRead': WHATEVER THE INPUT: true; the input reads as it did. -/
def journalReadSpec : ChangeSpec := { name := "journalRead", fn := fun _ => fun
  | [d1, d2, d3, d4, d5] => { results := [.lit (.bool true)], args := [d1, d2, d3, d4, d5] }
  | _ => none }
def journalReadRow : OpenClaim := { program := "ytjefpeppkphgbaa", sum := "d4ee81fed7e0664c2d0811cf2d9e68d4f40849fd1732a04d4663e74fe628a6d5", func := "namedesk/namedesklaw33.JournalRead", spec := "journalRead", apart := false }
def JournalReadSaid : Prop := journalReadRow.holds Try.pinned (OpenSpec.ofChange journalReadSpec)

/-- ITS FALSE NEIGHBOUR: 'it returns false'. Refute it at one input. -/
def journalReadWrong : ChangeSpec := { name := "journalRead", fn := fun _ => fun
  | [d1, d2, d3, d4, d5] => { results := [.lit (.bool false)], args := [d1, d2, d3, d4, d5] }
  | _ => none }
def JournalReadWrongFalsely : Prop := journalReadRow.holds Try.pinned (OpenSpec.ofChange journalReadWrong)

/-- 'namedesklaw33.JournalAppend': WHATEVER THE INPUT: true; the input reads as it did. -/
def journalAppendSpec : ChangeSpec := { name := "journalAppend", fn := fun _ => fun
  | [d1, d2, d3, d4, d5, d6] => { results := [.lit (.bool true)], args := [d1, d2, d3, d4, d5, d6] }
  | _ => none }
def journalAppendRow : OpenClaim := { program := "ytjefpeppkphgbaa", sum := "d4ee81fed7e0664c2d0811cf2d9e68d4f40849fd1732a04d4663e74fe628a6d5", func := "namedesk/namedesklaw33.JournalAppend", spec := "journalAppend", apart := false }
def JournalAppendSaid : Prop := journalAppendRow.holds Try.pinned (OpenSpec.ofChange journalAppendSpec)

/-- ITS FALSE NEIGHBOUR: 'it returns false'. Refute it at one input. -/
def journalAppendWrong : ChangeSpec := { name := "journalAppend", fn := fun _ => fun
  | [d1, d2, d3, d4, d5, d6] => { results := [.lit (.bool false)], args := [d1, d2, d3, d4, d5, d6] }
  | _ => none }
def JournalAppendWrongFalsely : Prop := journalAppendRow.holds Try.pinned (OpenSpec.ofChange journalAppendWrong)

/-- 'namedesklaw33.JournalBack': WHATEVER THE INPUT: true; the input reads as it did. -/
def journalBackSpec : ChangeSpec := { name := "journalBack", fn := fun _ => fun
  | [d] => { results := [.lit (.bool true)], args := [d] }
  | _ => none }
def journalBackRow : OpenClaim := { program := "ytjefpeppkphgbaa", sum := "d4ee81fed7e0664c2d0811cf2d9e68d4f40849fd1732a04d4663e74fe628a6d5", func := "namedesk/namedesklaw33.JournalBack", spec := "journalBack", apart := false }
def JournalBackSaid : Prop := journalBackRow.holds Try.pinned (OpenSpec.ofChange journalBackSpec)

/-- ITS FALSE NEIGHBOUR: 'it returns false'. Refute it at one input. -/
def journalBackWrong : ChangeSpec := { name := "journalBack", fn := fun _ => fun
  | [d] => { results := [.lit (.bool false)], args := [d] }
  | _ => none }
def JournalBackWrongFalsely : Prop := journalBackRow.holds Try.pinned (OpenSpec.ofChange journalBackWrong)

/-- 'namedesklaw33.JournalCut': WHATEVER THE INPUT: true; the input reads as it did. -/
def journalCutSpec : ChangeSpec := { name := "journalCut", fn := fun _ => fun
  | [d1, d2] => { results := [.lit (.bool true)], args := [d1, d2] }
  | _ => none }
def journalCutRow : OpenClaim := { program := "ytjefpeppkphgbaa", sum := "d4ee81fed7e0664c2d0811cf2d9e68d4f40849fd1732a04d4663e74fe628a6d5", func := "namedesk/namedesklaw33.JournalCut", spec := "journalCut", apart := false }
def JournalCutSaid : Prop := journalCutRow.holds Try.pinned (OpenSpec.ofChange journalCutSpec)

/-- ITS FALSE NEIGHBOUR: 'it returns false'. Refute it at one input. -/
def journalCutWrong : ChangeSpec := { name := "journalCut", fn := fun _ => fun
  | [d1, d2] => { results := [.lit (.bool false)], args := [d1, d2] }
  | _ => none }
def JournalCutWrongFalsely : Prop := journalCutRow.holds Try.pinned (OpenSpec.ofChange journalCutWrong)

/-- 'namedesklaw28.ModelNew': WHATEVER THE INPUT: true; the input reads as it did. -/
def modelNewSpec : ChangeSpec := { name := "modelNew", fn := fun _ => fun
  | [d1, d2, d3] => { results := [.lit (.bool true)], args := [d1, d2, d3] }
  | _ => none }
def modelNewRow : OpenClaim := { program := "ytjefpeppkphgbaa", sum := "d4ee81fed7e0664c2d0811cf2d9e68d4f40849fd1732a04d4663e74fe628a6d5", func := "namedesk/namedesklaw28.ModelNew", spec := "modelNew", unfollowed := true, recurses := true, apart := false }
def ModelNewSaid : Prop := modelNewRow.holds Try.pinned (OpenSpec.ofChange modelNewSpec)

/-- ITS FALSE NEIGHBOUR: 'it returns false'. Refute it at one input. -/
def modelNewWrong : ChangeSpec := { name := "modelNew", fn := fun _ => fun
  | [d1, d2, d3] => { results := [.lit (.bool false)], args := [d1, d2, d3] }
  | _ => none }
def ModelNewWrongFalsely : Prop := modelNewRow.holds Try.pinned (OpenSpec.ofChange modelNewWrong)

/-- 'namedesklaw28.ModelAll': WHATEVER THE INPUT: true; the input reads as it did. -/
def modelAllSpec : ChangeSpec := { name := "modelAll", fn := fun _ => fun
  | [d1, d2] => { results := [.lit (.bool true)], args := [d1, d2] }
  | _ => none }
def modelAllRow : OpenClaim := { program := "ytjefpeppkphgbaa", sum := "d4ee81fed7e0664c2d0811cf2d9e68d4f40849fd1732a04d4663e74fe628a6d5", func := "namedesk/namedesklaw28.ModelAll", spec := "modelAll", unfollowed := true, recurses := true, apart := false }
def ModelAllSaid : Prop := modelAllRow.holds Try.pinned (OpenSpec.ofChange modelAllSpec)

/-- ITS FALSE NEIGHBOUR: 'it returns false'. Refute it at one input. -/
def modelAllWrong : ChangeSpec := { name := "modelAll", fn := fun _ => fun
  | [d1, d2] => { results := [.lit (.bool false)], args := [d1, d2] }
  | _ => none }
def ModelAllWrongFalsely : Prop := modelAllRow.holds Try.pinned (OpenSpec.ofChange modelAllWrong)

/-- 'namedesklaw28.ModelLeast': WHATEVER THE INPUT: true; the input reads as it did. -/
def modelLeastSpec : ChangeSpec := { name := "modelLeast", fn := fun _ => fun
  | [d1, d2] => { results := [.lit (.bool true)], args := [d1, d2] }
  | _ => none }
def modelLeastRow : OpenClaim := { program := "ytjefpeppkphgbaa", sum := "d4ee81fed7e0664c2d0811cf2d9e68d4f40849fd1732a04d4663e74fe628a6d5", func := "namedesk/namedesklaw28.ModelLeast", spec := "modelLeast", unfollowed := true, recurses := true, apart := false }
def ModelLeastSaid : Prop := modelLeastRow.holds Try.pinned (OpenSpec.ofChange modelLeastSpec)

/-- ITS FALSE NEIGHBOUR: 'it returns false'. Refute it at one input. -/
def modelLeastWrong : ChangeSpec := { name := "modelLeast", fn := fun _ => fun
  | [d1, d2] => { results := [.lit (.bool false)], args := [d1, d2] }
  | _ => none }
def ModelLeastWrongFalsely : Prop := modelLeastRow.holds Try.pinned (OpenSpec.ofChange modelLeastWrong)

/-- 'namedesklaw28.ModelExclusive': WHATEVER THE INPUT: true; the input reads as it did. -/
def modelExclusiveSpec : ChangeSpec := { name := "modelExclusive", fn := fun _ => fun
  | [d1, d2, d3, d4] => { results := [.lit (.bool true)], args := [d1, d2, d3, d4] }
  | _ => none }
def modelExclusiveRow : OpenClaim := { program := "ytjefpeppkphgbaa", sum := "d4ee81fed7e0664c2d0811cf2d9e68d4f40849fd1732a04d4663e74fe628a6d5", func := "namedesk/namedesklaw28.ModelExclusive", spec := "modelExclusive", unfollowed := true, recurses := true, apart := false }
def ModelExclusiveSaid : Prop := modelExclusiveRow.holds Try.pinned (OpenSpec.ofChange modelExclusiveSpec)

/-- ITS FALSE NEIGHBOUR: 'it returns false'. Refute it at one input. -/
def modelExclusiveWrong : ChangeSpec := { name := "modelExclusive", fn := fun _ => fun
  | [d1, d2, d3, d4] => { results := [.lit (.bool false)], args := [d1, d2, d3, d4] }
  | _ => none }
def ModelExclusiveWrongFalsely : Prop := modelExclusiveRow.holds Try.pinned (OpenSpec.ofChange modelExclusiveWrong)

/-- 'namedesklaw32.HistoryNone': WHATEVER THE INPUT: true; the input reads as it did. -/
def historyNoneSpec : ChangeSpec := { name := "historyNone", fn := fun _ => fun
  | [d1, d2, d3] => { results := [.lit (.bool true)], args := [d1, d2, d3] }
  | _ => none }
def historyNoneRow : OpenClaim := { program := "ytjefpeppkphgbaa", sum := "d4ee81fed7e0664c2d0811cf2d9e68d4f40849fd1732a04d4663e74fe628a6d5", func := "namedesk/namedesklaw32.HistoryNone", spec := "historyNone", unfollowed := true, recurses := true, apart := false }
def HistoryNoneSaid : Prop := historyNoneRow.holds Try.pinned (OpenSpec.ofChange historyNoneSpec)

/-- ITS FALSE NEIGHBOUR: 'it returns false'. Refute it at one input. -/
def historyNoneWrong : ChangeSpec := { name := "historyNone", fn := fun _ => fun
  | [d1, d2, d3] => { results := [.lit (.bool false)], args := [d1, d2, d3] }
  | _ => none }
def HistoryNoneWrongFalsely : Prop := historyNoneRow.holds Try.pinned (OpenSpec.ofChange historyNoneWrong)

/-- 'namedesklaw28.ModelRaw': WHATEVER THE INPUT: true; the input reads as it did. -/
def modelRawSpec : ChangeSpec := { name := "modelRaw", fn := fun _ => fun
  | [d1, d2, d3, d4, d5, d6] => { results := [.lit (.bool true)], args := [d1, d2, d3, d4, d5, d6] }
  | _ => none }
def modelRawRow : OpenClaim := { program := "ytjefpeppkphgbaa", sum := "d4ee81fed7e0664c2d0811cf2d9e68d4f40849fd1732a04d4663e74fe628a6d5", func := "namedesk/namedesklaw28.ModelRaw", spec := "modelRaw", unfollowed := true, recurses := true, apart := false }
def ModelRawSaid : Prop := modelRawRow.holds Try.pinned (OpenSpec.ofChange modelRawSpec)

/-- ITS FALSE NEIGHBOUR: 'it returns false'. Refute it at one input. -/
def modelRawWrong : ChangeSpec := { name := "modelRaw", fn := fun _ => fun
  | [d1, d2, d3, d4, d5, d6] => { results := [.lit (.bool false)], args := [d1, d2, d3, d4, d5, d6] }
  | _ => none }
def ModelRawWrongFalsely : Prop := modelRawRow.holds Try.pinned (OpenSpec.ofChange modelRawWrong)

/-- 'namedesklaw28.ModelScript': WHATEVER THE INPUT: true; the input reads as it did. -/
def modelScriptSpec : ChangeSpec := { name := "modelScript", fn := fun _ => fun
  | [d1, d2] => { results := [.lit (.bool true)], args := [d1, d2] }
  | _ => none }
def modelScriptRow : OpenClaim := { program := "ytjefpeppkphgbaa", sum := "d4ee81fed7e0664c2d0811cf2d9e68d4f40849fd1732a04d4663e74fe628a6d5", func := "namedesk/namedesklaw28.ModelScript", spec := "modelScript", unfollowed := true, recurses := true, apart := false }
def ModelScriptSaid : Prop := modelScriptRow.holds Try.pinned (OpenSpec.ofChange modelScriptSpec)

/-- ITS FALSE NEIGHBOUR: 'it returns false'. Refute it at one input. -/
def modelScriptWrong : ChangeSpec := { name := "modelScript", fn := fun _ => fun
  | [d1, d2] => { results := [.lit (.bool false)], args := [d1, d2] }
  | _ => none }
def ModelScriptWrongFalsely : Prop := modelScriptRow.holds Try.pinned (OpenSpec.ofChange modelScriptWrong)

/-- 'namedesklaw28.ModelBounded': WHATEVER THE INPUT: true; the input reads as it did. -/
def modelBoundedSpec : ChangeSpec := { name := "modelBounded", fn := fun _ => fun
  | [d1, d2] => { results := [.lit (.bool true)], args := [d1, d2] }
  | _ => none }
def modelBoundedRow : OpenClaim := { program := "ytjefpeppkphgbaa", sum := "d4ee81fed7e0664c2d0811cf2d9e68d4f40849fd1732a04d4663e74fe628a6d5", func := "namedesk/namedesklaw28.ModelBounded", spec := "modelBounded", unfollowed := true, recurses := true, apart := false }
def ModelBoundedSaid : Prop := modelBoundedRow.holds Try.pinned (OpenSpec.ofChange modelBoundedSpec)

/-- ITS FALSE NEIGHBOUR: 'it returns false'. Refute it at one input. -/
def modelBoundedWrong : ChangeSpec := { name := "modelBounded", fn := fun _ => fun
  | [d1, d2] => { results := [.lit (.bool false)], args := [d1, d2] }
  | _ => none }
def ModelBoundedWrongFalsely : Prop := modelBoundedRow.holds Try.pinned (OpenSpec.ofChange modelBoundedWrong)

/-- 'namedesklaw33.JournalRecover': WHATEVER THE INPUT: true; the input reads as it did. -/
def journalRecoverSpec : ChangeSpec := { name := "journalRecover", fn := fun _ => fun
  | [d1, d2, d3, d4, d5, d6, d7] => { results := [.lit (.bool true)], args := [d1, d2, d3, d4, d5, d6, d7] }
  | _ => none }
def journalRecoverRow : OpenClaim := { program := "ytjefpeppkphgbaa", sum := "d4ee81fed7e0664c2d0811cf2d9e68d4f40849fd1732a04d4663e74fe628a6d5", func := "namedesk/namedesklaw33.JournalRecover", spec := "journalRecover", unfollowed := true, recurses := true, apart := false }
def JournalRecoverSaid : Prop := journalRecoverRow.holds Try.pinned (OpenSpec.ofChange journalRecoverSpec)

/-- ITS FALSE NEIGHBOUR: 'it returns false'. Refute it at one input. -/
def journalRecoverWrong : ChangeSpec := { name := "journalRecover", fn := fun _ => fun
  | [d1, d2, d3, d4, d5, d6, d7] => { results := [.lit (.bool false)], args := [d1, d2, d3, d4, d5, d6, d7] }
  | _ => none }
def JournalRecoverWrongFalsely : Prop := journalRecoverRow.holds Try.pinned (OpenSpec.ofChange journalRecoverWrong)

/- THE SECOND FORM. 'bulk': how many values and letters a reading holds, each counted each time it is reached (what is shared counts as often as it is met; a slice's spare places count too). A statement '..UptoSaid' is the law's where the arguments, and the package variables that the reading takes, are together of bulk at most 1048576: NARROWER than '..Said'. Prove '..Said' where nothing that the law and all that it calls make is longer than what came in: it says more and counts as full. Else prove '..UptoSaid'. A law counts once. -/
mutual
def uptoBulk {H : Type} : DataW H → Nat
  | .lit (.string bytes) => bytes.length + 1
  | .lit _ => 1
  | .nil => 1
  | .ptr d => uptoBulk d + 1
  | .slice elems spare => uptoBulkAll elems + uptoBulkAll spare + 1
  | .agg parts => uptoBulkAll parts + 1
  | .iface _ d => uptoBulk d + 1
  | .map entries => uptoBulkEntries entries + 1
  | .held _ => 1
def uptoBulkAll {H : Type} : List (DataW H) → Nat
  | [] => 0
  | d :: r => uptoBulk d + uptoBulkAll r
def uptoBulkEntries {H : Type} : List (Lit × DataW H) → Nat
  | [] => 0
  | x :: r => uptoBulkEntry x + uptoBulkEntries r
def uptoBulkEntry {H : Type} : Lit × DataW H → Nat
  | (.string bytes, d) => bytes.length + uptoBulk d + 1
  | (_, d) => uptoBulk d + 1
 end
def uptoSmall : (H : Type) → List (DataW H) → Bool := fun _ ds => decide (uptoBulkAll ds ≤ 1048576)
def OpenSpec.upto (s : _root_.Go.ChangeSpec) : _root_.Go.OpenSpec := { _root_.Go.OpenSpec.ofChange s with cond := some uptoSmall }

/-- 'namedesklaw33.JournalEncode', WHERE WHAT IT READS IS OF BULK AT MOST 1048576: true; the input reads as it did. -/
def journalEncodeUptoRow : OpenClaim := { program := "ytjefpeppkphgbaa", sum := "d4ee81fed7e0664c2d0811cf2d9e68d4f40849fd1732a04d4663e74fe628a6d5", func := "namedesk/namedesklaw33.JournalEncode", spec := "journalEncode", apart := false, narrowed := true }
def JournalEncodeUptoSaid : Prop := journalEncodeUptoRow.holds Try.pinned (OpenSpec.upto journalEncodeSpec)

/-- 'namedesklaw33.JournalRead', WHERE WHAT IT READS IS OF BULK AT MOST 1048576: true; the input reads as it did. -/
def journalReadUptoRow : OpenClaim := { program := "ytjefpeppkphgbaa", sum := "d4ee81fed7e0664c2d0811cf2d9e68d4f40849fd1732a04d4663e74fe628a6d5", func := "namedesk/namedesklaw33.JournalRead", spec := "journalRead", apart := false, narrowed := true }
def JournalReadUptoSaid : Prop := journalReadUptoRow.holds Try.pinned (OpenSpec.upto journalReadSpec)

/-- 'namedesklaw33.JournalAppend', WHERE WHAT IT READS IS OF BULK AT MOST 1048576: true; the input reads as it did. -/
def journalAppendUptoRow : OpenClaim := { program := "ytjefpeppkphgbaa", sum := "d4ee81fed7e0664c2d0811cf2d9e68d4f40849fd1732a04d4663e74fe628a6d5", func := "namedesk/namedesklaw33.JournalAppend", spec := "journalAppend", apart := false, narrowed := true }
def JournalAppendUptoSaid : Prop := journalAppendUptoRow.holds Try.pinned (OpenSpec.upto journalAppendSpec)

/-- 'namedesklaw33.JournalBack', WHERE WHAT IT READS IS OF BULK AT MOST 1048576: true; the input reads as it did. -/
def journalBackUptoRow : OpenClaim := { program := "ytjefpeppkphgbaa", sum := "d4ee81fed7e0664c2d0811cf2d9e68d4f40849fd1732a04d4663e74fe628a6d5", func := "namedesk/namedesklaw33.JournalBack", spec := "journalBack", apart := false, narrowed := true }
def JournalBackUptoSaid : Prop := journalBackUptoRow.holds Try.pinned (OpenSpec.upto journalBackSpec)

/-- 'namedesklaw33.JournalCut', WHERE WHAT IT READS IS OF BULK AT MOST 1048576: true; the input reads as it did. -/
def journalCutUptoRow : OpenClaim := { program := "ytjefpeppkphgbaa", sum := "d4ee81fed7e0664c2d0811cf2d9e68d4f40849fd1732a04d4663e74fe628a6d5", func := "namedesk/namedesklaw33.JournalCut", spec := "journalCut", apart := false, narrowed := true }
def JournalCutUptoSaid : Prop := journalCutUptoRow.holds Try.pinned (OpenSpec.upto journalCutSpec)

/-- 'namedesklaw28.ModelNew', WHERE WHAT IT READS IS OF BULK AT MOST 1048576: true; the input reads as it did. -/
def modelNewUptoRow : OpenClaim := { program := "ytjefpeppkphgbaa", sum := "d4ee81fed7e0664c2d0811cf2d9e68d4f40849fd1732a04d4663e74fe628a6d5", func := "namedesk/namedesklaw28.ModelNew", spec := "modelNew", unfollowed := true, recurses := true, apart := false, narrowed := true }
def ModelNewUptoSaid : Prop := modelNewUptoRow.holds Try.pinned (OpenSpec.upto modelNewSpec)

/-- 'namedesklaw28.ModelAll', WHERE WHAT IT READS IS OF BULK AT MOST 1048576: true; the input reads as it did. -/
def modelAllUptoRow : OpenClaim := { program := "ytjefpeppkphgbaa", sum := "d4ee81fed7e0664c2d0811cf2d9e68d4f40849fd1732a04d4663e74fe628a6d5", func := "namedesk/namedesklaw28.ModelAll", spec := "modelAll", unfollowed := true, recurses := true, apart := false, narrowed := true }
def ModelAllUptoSaid : Prop := modelAllUptoRow.holds Try.pinned (OpenSpec.upto modelAllSpec)

/-- 'namedesklaw28.ModelLeast', WHERE WHAT IT READS IS OF BULK AT MOST 1048576: true; the input reads as it did. -/
def modelLeastUptoRow : OpenClaim := { program := "ytjefpeppkphgbaa", sum := "d4ee81fed7e0664c2d0811cf2d9e68d4f40849fd1732a04d4663e74fe628a6d5", func := "namedesk/namedesklaw28.ModelLeast", spec := "modelLeast", unfollowed := true, recurses := true, apart := false, narrowed := true }
def ModelLeastUptoSaid : Prop := modelLeastUptoRow.holds Try.pinned (OpenSpec.upto modelLeastSpec)

/-- 'namedesklaw28.ModelExclusive', WHERE WHAT IT READS IS OF BULK AT MOST 1048576: true; the input reads as it did. -/
def modelExclusiveUptoRow : OpenClaim := { program := "ytjefpeppkphgbaa", sum := "d4ee81fed7e0664c2d0811cf2d9e68d4f40849fd1732a04d4663e74fe628a6d5", func := "namedesk/namedesklaw28.ModelExclusive", spec := "modelExclusive", unfollowed := true, recurses := true, apart := false, narrowed := true }
def ModelExclusiveUptoSaid : Prop := modelExclusiveUptoRow.holds Try.pinned (OpenSpec.upto modelExclusiveSpec)

/-- 'namedesklaw32.HistoryNone', WHERE WHAT IT READS IS OF BULK AT MOST 1048576: true; the input reads as it did. -/
def historyNoneUptoRow : OpenClaim := { program := "ytjefpeppkphgbaa", sum := "d4ee81fed7e0664c2d0811cf2d9e68d4f40849fd1732a04d4663e74fe628a6d5", func := "namedesk/namedesklaw32.HistoryNone", spec := "historyNone", unfollowed := true, recurses := true, apart := false, narrowed := true }
def HistoryNoneUptoSaid : Prop := historyNoneUptoRow.holds Try.pinned (OpenSpec.upto historyNoneSpec)

/-- 'namedesklaw28.ModelRaw', WHERE WHAT IT READS IS OF BULK AT MOST 1048576: true; the input reads as it did. -/
def modelRawUptoRow : OpenClaim := { program := "ytjefpeppkphgbaa", sum := "d4ee81fed7e0664c2d0811cf2d9e68d4f40849fd1732a04d4663e74fe628a6d5", func := "namedesk/namedesklaw28.ModelRaw", spec := "modelRaw", unfollowed := true, recurses := true, apart := false, narrowed := true }
def ModelRawUptoSaid : Prop := modelRawUptoRow.holds Try.pinned (OpenSpec.upto modelRawSpec)

/-- 'namedesklaw28.ModelScript', WHERE WHAT IT READS IS OF BULK AT MOST 1048576: true; the input reads as it did. -/
def modelScriptUptoRow : OpenClaim := { program := "ytjefpeppkphgbaa", sum := "d4ee81fed7e0664c2d0811cf2d9e68d4f40849fd1732a04d4663e74fe628a6d5", func := "namedesk/namedesklaw28.ModelScript", spec := "modelScript", unfollowed := true, recurses := true, apart := false, narrowed := true }
def ModelScriptUptoSaid : Prop := modelScriptUptoRow.holds Try.pinned (OpenSpec.upto modelScriptSpec)

/-- 'namedesklaw28.ModelBounded', WHERE WHAT IT READS IS OF BULK AT MOST 1048576: true; the input reads as it did. -/
def modelBoundedUptoRow : OpenClaim := { program := "ytjefpeppkphgbaa", sum := "d4ee81fed7e0664c2d0811cf2d9e68d4f40849fd1732a04d4663e74fe628a6d5", func := "namedesk/namedesklaw28.ModelBounded", spec := "modelBounded", unfollowed := true, recurses := true, apart := false, narrowed := true }
def ModelBoundedUptoSaid : Prop := modelBoundedUptoRow.holds Try.pinned (OpenSpec.upto modelBoundedSpec)

/-- 'namedesklaw33.JournalRecover', WHERE WHAT IT READS IS OF BULK AT MOST 1048576: true; the input reads as it did. -/
def journalRecoverUptoRow : OpenClaim := { program := "ytjefpeppkphgbaa", sum := "d4ee81fed7e0664c2d0811cf2d9e68d4f40849fd1732a04d4663e74fe628a6d5", func := "namedesk/namedesklaw33.JournalRecover", spec := "journalRecover", unfollowed := true, recurses := true, apart := false, narrowed := true }
def JournalRecoverUptoSaid : Prop := journalRecoverUptoRow.holds Try.pinned (OpenSpec.upto journalRecoverSpec)

end Rows
end Go.Proofs.Ytjefpeppkphgbaa
