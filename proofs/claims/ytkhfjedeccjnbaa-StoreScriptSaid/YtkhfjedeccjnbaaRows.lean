/-
  No cell of these rows narrows 'for every input' (looked for: loops, veiled, ifaces, maps, wideKeys, modest, calm, conditions, laid).
  DERIVED. THE GIVEN ROWS OF THIS SEAT. 25 by the template 'for every input the law returns true; each argument reads behind the call as it read before'; 0 by the template 'total and deterministic' (their statements: YtkhfjedeccjnbaaTotals.lean).
  GIVEN WITH THE SEED: the statements are not yours to turn. If you find one false, say at which input.
  Laid BY PROGRAM, IN A SANDBOX (cutbox-rows.mjs): the forced cells as the released guide's own fill.sh prints them over the translation 9bce34083498d371… (all of the seat's roots in one cut). By AI agents, Wed Nov 11 2026. No macro, syntax, notation, axiom, sorry.
-/
import Derived.Test.YtkhfjedeccjnbaaChecked
import GoSem.Claim
import GoSem.ClaimJoined
import GoSem.ClaimMapViews
import Derived.JoinedTies
import Derived.KernelRfl
namespace Go.Proofs.Ytkhfjedeccjnbaa
/- THE CELL 'sum', in the pinned program and in every row, IS THE sha256 OF THE DUMP (.gsa) THAT YtkhfjedeccjnbaaProg.lean LOADS. Nothing in Lean hashes anything: it is a label: what it is worth is what the hold of that sum in a sandbox is worth. -/
noncomputable def Try.pinned : Pinned := { name := "ytkhfjedeccjnbaa", sum := "9bce34083498d371d254b92fb1d50be7903bc32d76ef6d63d2fc1555ebc6687d", checked := Try.checked }
namespace Rows
def none {H : Type} : Left H := { results := [], args := [] }

/-- 'namedesklaw23.ClockAdvance': WHATEVER THE INPUT: true; the input reads as it did. -/
def clockAdvanceSpec : ChangeSpec := { name := "clockAdvance", fn := fun _ => fun
  | [d1, d2, d3] => { results := [.lit (.bool true)], args := [d1, d2, d3] }
  | _ => none }
def clockAdvanceRow : OpenClaim := { program := "ytkhfjedeccjnbaa", sum := "9bce34083498d371d254b92fb1d50be7903bc32d76ef6d63d2fc1555ebc6687d", func := "namedesk/namedesklaw23.ClockAdvance", spec := "clockAdvance", apart := false }
def ClockAdvanceSaid : Prop := clockAdvanceRow.holds Try.pinned (OpenSpec.ofChange clockAdvanceSpec)

/-- ITS FALSE NEIGHBOUR: 'it returns false'. Refute it at one input. -/
def clockAdvanceWrong : ChangeSpec := { name := "clockAdvance", fn := fun _ => fun
  | [d1, d2, d3] => { results := [.lit (.bool false)], args := [d1, d2, d3] }
  | _ => none }
def ClockAdvanceWrongFalsely : Prop := clockAdvanceRow.holds Try.pinned (OpenSpec.ofChange clockAdvanceWrong)

/-- 'namedesklaw23.ClockExpiry': WHATEVER THE INPUT: true; the input reads as it did. -/
def clockExpirySpec : ChangeSpec := { name := "clockExpiry", fn := fun _ => fun
  | [d1, d2, d3] => { results := [.lit (.bool true)], args := [d1, d2, d3] }
  | _ => none }
def clockExpiryRow : OpenClaim := { program := "ytkhfjedeccjnbaa", sum := "9bce34083498d371d254b92fb1d50be7903bc32d76ef6d63d2fc1555ebc6687d", func := "namedesk/namedesklaw23.ClockExpiry", spec := "clockExpiry", apart := false }
def ClockExpirySaid : Prop := clockExpiryRow.holds Try.pinned (OpenSpec.ofChange clockExpirySpec)

/-- ITS FALSE NEIGHBOUR: 'it returns false'. Refute it at one input. -/
def clockExpiryWrong : ChangeSpec := { name := "clockExpiry", fn := fun _ => fun
  | [d1, d2, d3] => { results := [.lit (.bool false)], args := [d1, d2, d3] }
  | _ => none }
def ClockExpiryWrongFalsely : Prop := clockExpiryRow.holds Try.pinned (OpenSpec.ofChange clockExpiryWrong)

/-- 'namedesklaw23.ClockForever': WHATEVER THE INPUT: true; the input reads as it did. -/
def clockForeverSpec : ChangeSpec := { name := "clockForever", fn := fun _ => fun
  | [d1, d2] => { results := [.lit (.bool true)], args := [d1, d2] }
  | _ => none }
def clockForeverRow : OpenClaim := { program := "ytkhfjedeccjnbaa", sum := "9bce34083498d371d254b92fb1d50be7903bc32d76ef6d63d2fc1555ebc6687d", func := "namedesk/namedesklaw23.ClockForever", spec := "clockForever", apart := false }
def ClockForeverSaid : Prop := clockForeverRow.holds Try.pinned (OpenSpec.ofChange clockForeverSpec)

/-- ITS FALSE NEIGHBOUR: 'it returns false'. Refute it at one input. -/
def clockForeverWrong : ChangeSpec := { name := "clockForever", fn := fun _ => fun
  | [d1, d2] => { results := [.lit (.bool false)], args := [d1, d2] }
  | _ => none }
def ClockForeverWrongFalsely : Prop := clockForeverRow.holds Try.pinned (OpenSpec.ofChange clockForeverWrong)

/-- 'namedesklaw23.ClockSoonest': WHATEVER THE INPUT: true; the input reads as it did. -/
def clockSoonestSpec : ChangeSpec := { name := "clockSoonest", fn := fun _ => fun
  | [d1, d2] => { results := [.lit (.bool true)], args := [d1, d2] }
  | _ => none }
def clockSoonestRow : OpenClaim := { program := "ytkhfjedeccjnbaa", sum := "9bce34083498d371d254b92fb1d50be7903bc32d76ef6d63d2fc1555ebc6687d", func := "namedesk/namedesklaw23.ClockSoonest", spec := "clockSoonest", apart := false }
def ClockSoonestSaid : Prop := clockSoonestRow.holds Try.pinned (OpenSpec.ofChange clockSoonestSpec)

/-- ITS FALSE NEIGHBOUR: 'it returns false'. Refute it at one input. -/
def clockSoonestWrong : ChangeSpec := { name := "clockSoonest", fn := fun _ => fun
  | [d1, d2] => { results := [.lit (.bool false)], args := [d1, d2] }
  | _ => none }
def ClockSoonestWrongFalsely : Prop := clockSoonestRow.holds Try.pinned (OpenSpec.ofChange clockSoonestWrong)

/-- 'namedesklaw23.ClockMade': WHATEVER THE INPUT: true; the input reads as it did. -/
def clockMadeSpec : ChangeSpec := { name := "clockMade", fn := fun _ => fun
  | [d1, d2, d3] => { results := [.lit (.bool true)], args := [d1, d2, d3] }
  | _ => none }
def clockMadeRow : OpenClaim := { program := "ytkhfjedeccjnbaa", sum := "9bce34083498d371d254b92fb1d50be7903bc32d76ef6d63d2fc1555ebc6687d", func := "namedesk/namedesklaw23.ClockMade", spec := "clockMade", apart := false }
def ClockMadeSaid : Prop := clockMadeRow.holds Try.pinned (OpenSpec.ofChange clockMadeSpec)

/-- ITS FALSE NEIGHBOUR: 'it returns false'. Refute it at one input. -/
def clockMadeWrong : ChangeSpec := { name := "clockMade", fn := fun _ => fun
  | [d1, d2, d3] => { results := [.lit (.bool false)], args := [d1, d2, d3] }
  | _ => none }
def ClockMadeWrongFalsely : Prop := clockMadeRow.holds Try.pinned (OpenSpec.ofChange clockMadeWrong)

/-- 'namedesklaw25.LocksNew': WHATEVER THE INPUT: true; the input reads as it did. -/
def locksNewSpec : ChangeSpec := { name := "locksNew", fn := fun _ => fun
  | [d1, d2, d3] => { results := [.lit (.bool true)], args := [d1, d2, d3] }
  | _ => none }
def locksNewRow : OpenClaim := { program := "ytkhfjedeccjnbaa", sum := "9bce34083498d371d254b92fb1d50be7903bc32d76ef6d63d2fc1555ebc6687d", func := "namedesk/namedesklaw25.LocksNew", spec := "locksNew", apart := false }
def LocksNewSaid : Prop := locksNewRow.holds Try.pinned (OpenSpec.ofChange locksNewSpec)

/-- ITS FALSE NEIGHBOUR: 'it returns false'. Refute it at one input. -/
def locksNewWrong : ChangeSpec := { name := "locksNew", fn := fun _ => fun
  | [d1, d2, d3] => { results := [.lit (.bool false)], args := [d1, d2, d3] }
  | _ => none }
def LocksNewWrongFalsely : Prop := locksNewRow.holds Try.pinned (OpenSpec.ofChange locksNewWrong)

/-- 'namedesklaw24.RecordStays': WHATEVER THE INPUT: true; the input reads as it did. -/
def recordStaysSpec : ChangeSpec := { name := "recordStays", fn := fun _ => fun
  | [d1, d2, d3, d4, d5] => { results := [.lit (.bool true)], args := [d1, d2, d3, d4, d5] }
  | _ => none }
def recordStaysRow : OpenClaim := { program := "ytkhfjedeccjnbaa", sum := "9bce34083498d371d254b92fb1d50be7903bc32d76ef6d63d2fc1555ebc6687d", func := "namedesk/namedesklaw24.RecordStays", spec := "recordStays", apart := false }
def RecordStaysSaid : Prop := recordStaysRow.holds Try.pinned (OpenSpec.ofChange recordStaysSpec)

/-- ITS FALSE NEIGHBOUR: 'it returns false'. Refute it at one input. -/
def recordStaysWrong : ChangeSpec := { name := "recordStays", fn := fun _ => fun
  | [d1, d2, d3, d4, d5] => { results := [.lit (.bool false)], args := [d1, d2, d3, d4, d5] }
  | _ => none }
def RecordStaysWrongFalsely : Prop := recordStaysRow.holds Try.pinned (OpenSpec.ofChange recordStaysWrong)

/-- 'namedesklaw24.RecordOwner': WHATEVER THE INPUT: true; the input reads as it did. -/
def recordOwnerSpec : ChangeSpec := { name := "recordOwner", fn := fun _ => fun
  | [d1, d2, d3, d4] => { results := [.lit (.bool true)], args := [d1, d2, d3, d4] }
  | _ => none }
def recordOwnerRow : OpenClaim := { program := "ytkhfjedeccjnbaa", sum := "9bce34083498d371d254b92fb1d50be7903bc32d76ef6d63d2fc1555ebc6687d", func := "namedesk/namedesklaw24.RecordOwner", spec := "recordOwner", apart := false }
def RecordOwnerSaid : Prop := recordOwnerRow.holds Try.pinned (OpenSpec.ofChange recordOwnerSpec)

/-- ITS FALSE NEIGHBOUR: 'it returns false'. Refute it at one input. -/
def recordOwnerWrong : ChangeSpec := { name := "recordOwner", fn := fun _ => fun
  | [d1, d2, d3, d4] => { results := [.lit (.bool false)], args := [d1, d2, d3, d4] }
  | _ => none }
def RecordOwnerWrongFalsely : Prop := recordOwnerRow.holds Try.pinned (OpenSpec.ofChange recordOwnerWrong)

/-- 'namedesklaw24.RecordRaw': WHATEVER THE INPUT: true; the input reads as it did. -/
def recordRawSpec : ChangeSpec := { name := "recordRaw", fn := fun _ => fun
  | [d1, d2, d3, d4, d5, d6] => { results := [.lit (.bool true)], args := [d1, d2, d3, d4, d5, d6] }
  | _ => none }
def recordRawRow : OpenClaim := { program := "ytkhfjedeccjnbaa", sum := "9bce34083498d371d254b92fb1d50be7903bc32d76ef6d63d2fc1555ebc6687d", func := "namedesk/namedesklaw24.RecordRaw", spec := "recordRaw", apart := false }
def RecordRawSaid : Prop := recordRawRow.holds Try.pinned (OpenSpec.ofChange recordRawSpec)

/-- ITS FALSE NEIGHBOUR: 'it returns false'. Refute it at one input. -/
def recordRawWrong : ChangeSpec := { name := "recordRaw", fn := fun _ => fun
  | [d1, d2, d3, d4, d5, d6] => { results := [.lit (.bool false)], args := [d1, d2, d3, d4, d5, d6] }
  | _ => none }
def RecordRawWrongFalsely : Prop := recordRawRow.holds Try.pinned (OpenSpec.ofChange recordRawWrong)

/-- 'namedesklaw24.RecordMade': WHATEVER THE INPUT: true; the input reads as it did. -/
def recordMadeSpec : ChangeSpec := { name := "recordMade", fn := fun _ => fun
  | [d1, d2, d3] => { results := [.lit (.bool true)], args := [d1, d2, d3] }
  | _ => none }
def recordMadeRow : OpenClaim := { program := "ytkhfjedeccjnbaa", sum := "9bce34083498d371d254b92fb1d50be7903bc32d76ef6d63d2fc1555ebc6687d", func := "namedesk/namedesklaw24.RecordMade", spec := "recordMade", apart := false }
def RecordMadeSaid : Prop := recordMadeRow.holds Try.pinned (OpenSpec.ofChange recordMadeSpec)

/-- ITS FALSE NEIGHBOUR: 'it returns false'. Refute it at one input. -/
def recordMadeWrong : ChangeSpec := { name := "recordMade", fn := fun _ => fun
  | [d1, d2, d3] => { results := [.lit (.bool false)], args := [d1, d2, d3] }
  | _ => none }
def RecordMadeWrongFalsely : Prop := recordMadeRow.holds Try.pinned (OpenSpec.ofChange recordMadeWrong)

/-- 'namedesklaw24.RecordCycle': WHATEVER THE INPUT: true; the input reads as it did. -/
def recordCycleSpec : ChangeSpec := { name := "recordCycle", fn := fun _ => fun
  | [d1, d2, d3] => { results := [.lit (.bool true)], args := [d1, d2, d3] }
  | _ => none }
def recordCycleRow : OpenClaim := { program := "ytkhfjedeccjnbaa", sum := "9bce34083498d371d254b92fb1d50be7903bc32d76ef6d63d2fc1555ebc6687d", func := "namedesk/namedesklaw24.RecordCycle", spec := "recordCycle", apart := false }
def RecordCycleSaid : Prop := recordCycleRow.holds Try.pinned (OpenSpec.ofChange recordCycleSpec)

/-- ITS FALSE NEIGHBOUR: 'it returns false'. Refute it at one input. -/
def recordCycleWrong : ChangeSpec := { name := "recordCycle", fn := fun _ => fun
  | [d1, d2, d3] => { results := [.lit (.bool false)], args := [d1, d2, d3] }
  | _ => none }
def RecordCycleWrongFalsely : Prop := recordCycleRow.holds Try.pinned (OpenSpec.ofChange recordCycleWrong)

/-- 'namedesklaw24.RecordExpired': WHATEVER THE INPUT: true; the input reads as it did. -/
def recordExpiredSpec : ChangeSpec := { name := "recordExpired", fn := fun _ => fun
  | [d1, d2, d3] => { results := [.lit (.bool true)], args := [d1, d2, d3] }
  | _ => none }
def recordExpiredRow : OpenClaim := { program := "ytkhfjedeccjnbaa", sum := "9bce34083498d371d254b92fb1d50be7903bc32d76ef6d63d2fc1555ebc6687d", func := "namedesk/namedesklaw24.RecordExpired", spec := "recordExpired", apart := false }
def RecordExpiredSaid : Prop := recordExpiredRow.holds Try.pinned (OpenSpec.ofChange recordExpiredSpec)

/-- ITS FALSE NEIGHBOUR: 'it returns false'. Refute it at one input. -/
def recordExpiredWrong : ChangeSpec := { name := "recordExpired", fn := fun _ => fun
  | [d1, d2, d3] => { results := [.lit (.bool false)], args := [d1, d2, d3] }
  | _ => none }
def RecordExpiredWrongFalsely : Prop := recordExpiredRow.holds Try.pinned (OpenSpec.ofChange recordExpiredWrong)

/-- 'namedesklaw24.RecordGrows': WHATEVER THE INPUT: true; the input reads as it did. -/
def recordGrowsSpec : ChangeSpec := { name := "recordGrows", fn := fun _ => fun
  | [d1, d2, d3, d4] => { results := [.lit (.bool true)], args := [d1, d2, d3, d4] }
  | _ => none }
def recordGrowsRow : OpenClaim := { program := "ytkhfjedeccjnbaa", sum := "9bce34083498d371d254b92fb1d50be7903bc32d76ef6d63d2fc1555ebc6687d", func := "namedesk/namedesklaw24.RecordGrows", spec := "recordGrows", apart := false }
def RecordGrowsSaid : Prop := recordGrowsRow.holds Try.pinned (OpenSpec.ofChange recordGrowsSpec)

/-- ITS FALSE NEIGHBOUR: 'it returns false'. Refute it at one input. -/
def recordGrowsWrong : ChangeSpec := { name := "recordGrows", fn := fun _ => fun
  | [d1, d2, d3, d4] => { results := [.lit (.bool false)], args := [d1, d2, d3, d4] }
  | _ => none }
def RecordGrowsWrongFalsely : Prop := recordGrowsRow.holds Try.pinned (OpenSpec.ofChange recordGrowsWrong)

/-- 'namedesklaw25.LocksExclusive': WHATEVER THE INPUT: true; the input reads as it did. -/
def locksExclusiveSpec : ChangeSpec := { name := "locksExclusive", fn := fun _ => fun
  | [d1, d2, d3, d4] => { results := [.lit (.bool true)], args := [d1, d2, d3, d4] }
  | _ => none }
def locksExclusiveRow : OpenClaim := { program := "ytkhfjedeccjnbaa", sum := "9bce34083498d371d254b92fb1d50be7903bc32d76ef6d63d2fc1555ebc6687d", func := "namedesk/namedesklaw25.LocksExclusive", spec := "locksExclusive", unfollowed := true, recurses := true, apart := false }
def LocksExclusiveSaid : Prop := locksExclusiveRow.holds Try.pinned (OpenSpec.ofChange locksExclusiveSpec)

/-- ITS FALSE NEIGHBOUR: 'it returns false'. Refute it at one input. -/
def locksExclusiveWrong : ChangeSpec := { name := "locksExclusive", fn := fun _ => fun
  | [d1, d2, d3, d4] => { results := [.lit (.bool false)], args := [d1, d2, d3, d4] }
  | _ => none }
def LocksExclusiveWrongFalsely : Prop := locksExclusiveRow.holds Try.pinned (OpenSpec.ofChange locksExclusiveWrong)

/-- 'namedesklaw26.StoreNew': WHATEVER THE INPUT: true; the input reads as it did. -/
def storeNewSpec : ChangeSpec := { name := "storeNew", fn := fun _ => fun
  | [d1, d2] => { results := [.lit (.bool true)], args := [d1, d2] }
  | _ => none }
def storeNewRow : OpenClaim := { program := "ytkhfjedeccjnbaa", sum := "9bce34083498d371d254b92fb1d50be7903bc32d76ef6d63d2fc1555ebc6687d", func := "namedesk/namedesklaw26.StoreNew", spec := "storeNew", unfollowed := true, recurses := true, apart := false }
def StoreNewSaid : Prop := storeNewRow.holds Try.pinned (OpenSpec.ofChange storeNewSpec)

/-- ITS FALSE NEIGHBOUR: 'it returns false'. Refute it at one input. -/
def storeNewWrong : ChangeSpec := { name := "storeNew", fn := fun _ => fun
  | [d1, d2] => { results := [.lit (.bool false)], args := [d1, d2] }
  | _ => none }
def StoreNewWrongFalsely : Prop := storeNewRow.holds Try.pinned (OpenSpec.ofChange storeNewWrong)

/-- 'namedesklaw26.StoreRaw': WHATEVER THE INPUT: true; the input reads as it did. -/
def storeRawSpec : ChangeSpec := { name := "storeRaw", fn := fun _ => fun
  | [d1, d2, d3, d4, d5] => { results := [.lit (.bool true)], args := [d1, d2, d3, d4, d5] }
  | _ => none }
def storeRawRow : OpenClaim := { program := "ytkhfjedeccjnbaa", sum := "9bce34083498d371d254b92fb1d50be7903bc32d76ef6d63d2fc1555ebc6687d", func := "namedesk/namedesklaw26.StoreRaw", spec := "storeRaw", unfollowed := true, recurses := true, apart := false }
def StoreRawSaid : Prop := storeRawRow.holds Try.pinned (OpenSpec.ofChange storeRawSpec)

/-- ITS FALSE NEIGHBOUR: 'it returns false'. Refute it at one input. -/
def storeRawWrong : ChangeSpec := { name := "storeRaw", fn := fun _ => fun
  | [d1, d2, d3, d4, d5] => { results := [.lit (.bool false)], args := [d1, d2, d3, d4, d5] }
  | _ => none }
def StoreRawWrongFalsely : Prop := storeRawRow.holds Try.pinned (OpenSpec.ofChange storeRawWrong)

/-- 'namedesklaw26.StoreFull': WHATEVER THE INPUT: true; the input reads as it did. -/
def storeFullSpec : ChangeSpec := { name := "storeFull", fn := fun _ => fun
  | [d] => { results := [.lit (.bool true)], args := [d] }
  | _ => none }
def storeFullRow : OpenClaim := { program := "ytkhfjedeccjnbaa", sum := "9bce34083498d371d254b92fb1d50be7903bc32d76ef6d63d2fc1555ebc6687d", func := "namedesk/namedesklaw26.StoreFull", spec := "storeFull", unfollowed := true, recurses := true, apart := false }
def StoreFullSaid : Prop := storeFullRow.holds Try.pinned (OpenSpec.ofChange storeFullSpec)

/-- ITS FALSE NEIGHBOUR: 'it returns false'. Refute it at one input. -/
def storeFullWrong : ChangeSpec := { name := "storeFull", fn := fun _ => fun
  | [d] => { results := [.lit (.bool false)], args := [d] }
  | _ => none }
def StoreFullWrongFalsely : Prop := storeFullRow.holds Try.pinned (OpenSpec.ofChange storeFullWrong)

/-- 'namedesklaw25.LocksRoom': WHATEVER THE INPUT: true; the input reads as it did. -/
def locksRoomSpec : ChangeSpec := { name := "locksRoom", fn := fun _ => fun
  | [d] => { results := [.lit (.bool true)], args := [d] }
  | _ => none }
def locksRoomRow : OpenClaim := { program := "ytkhfjedeccjnbaa", sum := "9bce34083498d371d254b92fb1d50be7903bc32d76ef6d63d2fc1555ebc6687d", func := "namedesk/namedesklaw25.LocksRoom", spec := "locksRoom", unfollowed := true, recurses := true, apart := false }
def LocksRoomSaid : Prop := locksRoomRow.holds Try.pinned (OpenSpec.ofChange locksRoomSpec)

/-- ITS FALSE NEIGHBOUR: 'it returns false'. Refute it at one input. -/
def locksRoomWrong : ChangeSpec := { name := "locksRoom", fn := fun _ => fun
  | [d] => { results := [.lit (.bool false)], args := [d] }
  | _ => none }
def LocksRoomWrongFalsely : Prop := locksRoomRow.holds Try.pinned (OpenSpec.ofChange locksRoomWrong)

/-- 'namedesklaw25.LocksHeld': WHATEVER THE INPUT: true; the input reads as it did. -/
def locksHeldSpec : ChangeSpec := { name := "locksHeld", fn := fun _ => fun
  | [d] => { results := [.lit (.bool true)], args := [d] }
  | _ => none }
def locksHeldRow : OpenClaim := { program := "ytkhfjedeccjnbaa", sum := "9bce34083498d371d254b92fb1d50be7903bc32d76ef6d63d2fc1555ebc6687d", func := "namedesk/namedesklaw25.LocksHeld", spec := "locksHeld", unfollowed := true, recurses := true, apart := false }
def LocksHeldSaid : Prop := locksHeldRow.holds Try.pinned (OpenSpec.ofChange locksHeldSpec)

/-- ITS FALSE NEIGHBOUR: 'it returns false'. Refute it at one input. -/
def locksHeldWrong : ChangeSpec := { name := "locksHeld", fn := fun _ => fun
  | [d] => { results := [.lit (.bool false)], args := [d] }
  | _ => none }
def LocksHeldWrongFalsely : Prop := locksHeldRow.holds Try.pinned (OpenSpec.ofChange locksHeldWrong)

/-- 'namedesklaw25.LocksProbes': WHATEVER THE INPUT: true; the input reads as it did. -/
def locksProbesSpec : ChangeSpec := { name := "locksProbes", fn := fun _ => fun
  | [d1, d2] => { results := [.lit (.bool true)], args := [d1, d2] }
  | _ => none }
def locksProbesRow : OpenClaim := { program := "ytkhfjedeccjnbaa", sum := "9bce34083498d371d254b92fb1d50be7903bc32d76ef6d63d2fc1555ebc6687d", func := "namedesk/namedesklaw25.LocksProbes", spec := "locksProbes", unfollowed := true, recurses := true, apart := false }
def LocksProbesSaid : Prop := locksProbesRow.holds Try.pinned (OpenSpec.ofChange locksProbesSpec)

/-- ITS FALSE NEIGHBOUR: 'it returns false'. Refute it at one input. -/
def locksProbesWrong : ChangeSpec := { name := "locksProbes", fn := fun _ => fun
  | [d1, d2] => { results := [.lit (.bool false)], args := [d1, d2] }
  | _ => none }
def LocksProbesWrongFalsely : Prop := locksProbesRow.holds Try.pinned (OpenSpec.ofChange locksProbesWrong)

/-- 'namedesklaw25.LocksScript': WHATEVER THE INPUT: true; the input reads as it did. -/
def locksScriptSpec : ChangeSpec := { name := "locksScript", fn := fun _ => fun
  | [d1, d2] => { results := [.lit (.bool true)], args := [d1, d2] }
  | _ => none }
def locksScriptRow : OpenClaim := { program := "ytkhfjedeccjnbaa", sum := "9bce34083498d371d254b92fb1d50be7903bc32d76ef6d63d2fc1555ebc6687d", func := "namedesk/namedesklaw25.LocksScript", spec := "locksScript", unfollowed := true, recurses := true, apart := false }
def LocksScriptSaid : Prop := locksScriptRow.holds Try.pinned (OpenSpec.ofChange locksScriptSpec)

/-- ITS FALSE NEIGHBOUR: 'it returns false'. Refute it at one input. -/
def locksScriptWrong : ChangeSpec := { name := "locksScript", fn := fun _ => fun
  | [d1, d2] => { results := [.lit (.bool false)], args := [d1, d2] }
  | _ => none }
def LocksScriptWrongFalsely : Prop := locksScriptRow.holds Try.pinned (OpenSpec.ofChange locksScriptWrong)

/-- 'namedesklaw25.LocksRaw': WHATEVER THE INPUT: true; the input reads as it did. -/
def locksRawSpec : ChangeSpec := { name := "locksRaw", fn := fun _ => fun
  | [d1, d2, d3, d4] => { results := [.lit (.bool true)], args := [d1, d2, d3, d4] }
  | _ => none }
def locksRawRow : OpenClaim := { program := "ytkhfjedeccjnbaa", sum := "9bce34083498d371d254b92fb1d50be7903bc32d76ef6d63d2fc1555ebc6687d", func := "namedesk/namedesklaw25.LocksRaw", spec := "locksRaw", unfollowed := true, recurses := true, apart := false }
def LocksRawSaid : Prop := locksRawRow.holds Try.pinned (OpenSpec.ofChange locksRawSpec)

/-- ITS FALSE NEIGHBOUR: 'it returns false'. Refute it at one input. -/
def locksRawWrong : ChangeSpec := { name := "locksRaw", fn := fun _ => fun
  | [d1, d2, d3, d4] => { results := [.lit (.bool false)], args := [d1, d2, d3, d4] }
  | _ => none }
def LocksRawWrongFalsely : Prop := locksRawRow.holds Try.pinned (OpenSpec.ofChange locksRawWrong)

/-- 'namedesklaw26.StoreScript': WHATEVER THE INPUT: true; the input reads as it did. -/
def storeScriptSpec : ChangeSpec := { name := "storeScript", fn := fun _ => fun
  | [d1, d2] => { results := [.lit (.bool true)], args := [d1, d2] }
  | _ => none }
def storeScriptRow : OpenClaim := { program := "ytkhfjedeccjnbaa", sum := "9bce34083498d371d254b92fb1d50be7903bc32d76ef6d63d2fc1555ebc6687d", func := "namedesk/namedesklaw26.StoreScript", spec := "storeScript", unfollowed := true, recurses := true, apart := false }
def StoreScriptSaid : Prop := storeScriptRow.holds Try.pinned (OpenSpec.ofChange storeScriptSpec)

/-- ITS FALSE NEIGHBOUR: 'it returns false'. Refute it at one input. -/
def storeScriptWrong : ChangeSpec := { name := "storeScript", fn := fun _ => fun
  | [d1, d2] => { results := [.lit (.bool false)], args := [d1, d2] }
  | _ => none }
def StoreScriptWrongFalsely : Prop := storeScriptRow.holds Try.pinned (OpenSpec.ofChange storeScriptWrong)

/-- 'namedesklaw26.StoreLast': WHATEVER THE INPUT: true; the input reads as it did. -/
def storeLastSpec : ChangeSpec := { name := "storeLast", fn := fun _ => fun
  | [d] => { results := [.lit (.bool true)], args := [d] }
  | _ => none }
def storeLastRow : OpenClaim := { program := "ytkhfjedeccjnbaa", sum := "9bce34083498d371d254b92fb1d50be7903bc32d76ef6d63d2fc1555ebc6687d", func := "namedesk/namedesklaw26.StoreLast", spec := "storeLast", unfollowed := true, recurses := true, apart := false }
def StoreLastSaid : Prop := storeLastRow.holds Try.pinned (OpenSpec.ofChange storeLastSpec)

/-- ITS FALSE NEIGHBOUR: 'it returns false'. Refute it at one input. -/
def storeLastWrong : ChangeSpec := { name := "storeLast", fn := fun _ => fun
  | [d] => { results := [.lit (.bool false)], args := [d] }
  | _ => none }
def StoreLastWrongFalsely : Prop := storeLastRow.holds Try.pinned (OpenSpec.ofChange storeLastWrong)

/-- 'namedesklaw26.StoreProbes': WHATEVER THE INPUT: true; the input reads as it did. -/
def storeProbesSpec : ChangeSpec := { name := "storeProbes", fn := fun _ => fun
  | [d] => { results := [.lit (.bool true)], args := [d] }
  | _ => none }
def storeProbesRow : OpenClaim := { program := "ytkhfjedeccjnbaa", sum := "9bce34083498d371d254b92fb1d50be7903bc32d76ef6d63d2fc1555ebc6687d", func := "namedesk/namedesklaw26.StoreProbes", spec := "storeProbes", unfollowed := true, recurses := true, apart := false }
def StoreProbesSaid : Prop := storeProbesRow.holds Try.pinned (OpenSpec.ofChange storeProbesSpec)

/-- ITS FALSE NEIGHBOUR: 'it returns false'. Refute it at one input. -/
def storeProbesWrong : ChangeSpec := { name := "storeProbes", fn := fun _ => fun
  | [d] => { results := [.lit (.bool false)], args := [d] }
  | _ => none }
def StoreProbesWrongFalsely : Prop := storeProbesRow.holds Try.pinned (OpenSpec.ofChange storeProbesWrong)

/- THE SECOND FORM. 'bulk': how many values and letters a reading holds, each counted each time it is reached (what is shared counts as often as it is met; a slice's spare places count too). A statement '..UptoSaid' is the law's where the arguments, and the package variables that the reading takes, are together of bulk at most 1048576: NARROWER than '..Said'. Prove '..Said' where nothing that the law and all that it calls make is longer than what came in: it says more and counts as full. Else prove '..UptoSaid'. A law counts once. -/
mutual
def uptoBulk {H : Type} : DataW H → Nat
  | .lit (.string bytes) => bytes.length + 1
  | .lit _ => 1
  | .nil => 1
  | .ptr d => uptoBulk d + 1
  | .slice elems spare => uptoBulkAll elems + uptoBulkAll spare + 1
  | .agg parts => uptoBulkAll parts + 1
  | .iface _ d => uptoBulk d + 1
  | .map entries => uptoBulkEntries entries + 1
  | .held _ => 1
def uptoBulkAll {H : Type} : List (DataW H) → Nat
  | [] => 0
  | d :: r => uptoBulk d + uptoBulkAll r
def uptoBulkEntries {H : Type} : List (Lit × DataW H) → Nat
  | [] => 0
  | x :: r => uptoBulkEntry x + uptoBulkEntries r
def uptoBulkEntry {H : Type} : Lit × DataW H → Nat
  | (.string bytes, d) => bytes.length + uptoBulk d + 1
  | (_, d) => uptoBulk d + 1
 end
def uptoSmall : (H : Type) → List (DataW H) → Bool := fun _ ds => decide (uptoBulkAll ds ≤ 1048576)
def OpenSpec.upto (s : _root_.Go.ChangeSpec) : _root_.Go.OpenSpec := { _root_.Go.OpenSpec.ofChange s with cond := some uptoSmall }

/-- 'namedesklaw23.ClockAdvance', WHERE WHAT IT READS IS OF BULK AT MOST 1048576: true; the input reads as it did. -/
def clockAdvanceUptoRow : OpenClaim := { program := "ytkhfjedeccjnbaa", sum := "9bce34083498d371d254b92fb1d50be7903bc32d76ef6d63d2fc1555ebc6687d", func := "namedesk/namedesklaw23.ClockAdvance", spec := "clockAdvance", apart := false, narrowed := true }
def ClockAdvanceUptoSaid : Prop := clockAdvanceUptoRow.holds Try.pinned (OpenSpec.upto clockAdvanceSpec)

/-- 'namedesklaw23.ClockExpiry', WHERE WHAT IT READS IS OF BULK AT MOST 1048576: true; the input reads as it did. -/
def clockExpiryUptoRow : OpenClaim := { program := "ytkhfjedeccjnbaa", sum := "9bce34083498d371d254b92fb1d50be7903bc32d76ef6d63d2fc1555ebc6687d", func := "namedesk/namedesklaw23.ClockExpiry", spec := "clockExpiry", apart := false, narrowed := true }
def ClockExpiryUptoSaid : Prop := clockExpiryUptoRow.holds Try.pinned (OpenSpec.upto clockExpirySpec)

/-- 'namedesklaw23.ClockForever', WHERE WHAT IT READS IS OF BULK AT MOST 1048576: true; the input reads as it did. -/
def clockForeverUptoRow : OpenClaim := { program := "ytkhfjedeccjnbaa", sum := "9bce34083498d371d254b92fb1d50be7903bc32d76ef6d63d2fc1555ebc6687d", func := "namedesk/namedesklaw23.ClockForever", spec := "clockForever", apart := false, narrowed := true }
def ClockForeverUptoSaid : Prop := clockForeverUptoRow.holds Try.pinned (OpenSpec.upto clockForeverSpec)

/-- 'namedesklaw23.ClockSoonest', WHERE WHAT IT READS IS OF BULK AT MOST 1048576: true; the input reads as it did. -/
def clockSoonestUptoRow : OpenClaim := { program := "ytkhfjedeccjnbaa", sum := "9bce34083498d371d254b92fb1d50be7903bc32d76ef6d63d2fc1555ebc6687d", func := "namedesk/namedesklaw23.ClockSoonest", spec := "clockSoonest", apart := false, narrowed := true }
def ClockSoonestUptoSaid : Prop := clockSoonestUptoRow.holds Try.pinned (OpenSpec.upto clockSoonestSpec)

/-- 'namedesklaw23.ClockMade', WHERE WHAT IT READS IS OF BULK AT MOST 1048576: true; the input reads as it did. -/
def clockMadeUptoRow : OpenClaim := { program := "ytkhfjedeccjnbaa", sum := "9bce34083498d371d254b92fb1d50be7903bc32d76ef6d63d2fc1555ebc6687d", func := "namedesk/namedesklaw23.ClockMade", spec := "clockMade", apart := false, narrowed := true }
def ClockMadeUptoSaid : Prop := clockMadeUptoRow.holds Try.pinned (OpenSpec.upto clockMadeSpec)

/-- 'namedesklaw25.LocksNew', WHERE WHAT IT READS IS OF BULK AT MOST 1048576: true; the input reads as it did. -/
def locksNewUptoRow : OpenClaim := { program := "ytkhfjedeccjnbaa", sum := "9bce34083498d371d254b92fb1d50be7903bc32d76ef6d63d2fc1555ebc6687d", func := "namedesk/namedesklaw25.LocksNew", spec := "locksNew", apart := false, narrowed := true }
def LocksNewUptoSaid : Prop := locksNewUptoRow.holds Try.pinned (OpenSpec.upto locksNewSpec)

/-- 'namedesklaw24.RecordStays', WHERE WHAT IT READS IS OF BULK AT MOST 1048576: true; the input reads as it did. -/
def recordStaysUptoRow : OpenClaim := { program := "ytkhfjedeccjnbaa", sum := "9bce34083498d371d254b92fb1d50be7903bc32d76ef6d63d2fc1555ebc6687d", func := "namedesk/namedesklaw24.RecordStays", spec := "recordStays", apart := false, narrowed := true }
def RecordStaysUptoSaid : Prop := recordStaysUptoRow.holds Try.pinned (OpenSpec.upto recordStaysSpec)

/-- 'namedesklaw24.RecordOwner', WHERE WHAT IT READS IS OF BULK AT MOST 1048576: true; the input reads as it did. -/
def recordOwnerUptoRow : OpenClaim := { program := "ytkhfjedeccjnbaa", sum := "9bce34083498d371d254b92fb1d50be7903bc32d76ef6d63d2fc1555ebc6687d", func := "namedesk/namedesklaw24.RecordOwner", spec := "recordOwner", apart := false, narrowed := true }
def RecordOwnerUptoSaid : Prop := recordOwnerUptoRow.holds Try.pinned (OpenSpec.upto recordOwnerSpec)

/-- 'namedesklaw24.RecordRaw', WHERE WHAT IT READS IS OF BULK AT MOST 1048576: true; the input reads as it did. -/
def recordRawUptoRow : OpenClaim := { program := "ytkhfjedeccjnbaa", sum := "9bce34083498d371d254b92fb1d50be7903bc32d76ef6d63d2fc1555ebc6687d", func := "namedesk/namedesklaw24.RecordRaw", spec := "recordRaw", apart := false, narrowed := true }
def RecordRawUptoSaid : Prop := recordRawUptoRow.holds Try.pinned (OpenSpec.upto recordRawSpec)

/-- 'namedesklaw24.RecordMade', WHERE WHAT IT READS IS OF BULK AT MOST 1048576: true; the input reads as it did. -/
def recordMadeUptoRow : OpenClaim := { program := "ytkhfjedeccjnbaa", sum := "9bce34083498d371d254b92fb1d50be7903bc32d76ef6d63d2fc1555ebc6687d", func := "namedesk/namedesklaw24.RecordMade", spec := "recordMade", apart := false, narrowed := true }
def RecordMadeUptoSaid : Prop := recordMadeUptoRow.holds Try.pinned (OpenSpec.upto recordMadeSpec)

/-- 'namedesklaw24.RecordCycle', WHERE WHAT IT READS IS OF BULK AT MOST 1048576: true; the input reads as it did. -/
def recordCycleUptoRow : OpenClaim := { program := "ytkhfjedeccjnbaa", sum := "9bce34083498d371d254b92fb1d50be7903bc32d76ef6d63d2fc1555ebc6687d", func := "namedesk/namedesklaw24.RecordCycle", spec := "recordCycle", apart := false, narrowed := true }
def RecordCycleUptoSaid : Prop := recordCycleUptoRow.holds Try.pinned (OpenSpec.upto recordCycleSpec)

/-- 'namedesklaw24.RecordExpired', WHERE WHAT IT READS IS OF BULK AT MOST 1048576: true; the input reads as it did. -/
def recordExpiredUptoRow : OpenClaim := { program := "ytkhfjedeccjnbaa", sum := "9bce34083498d371d254b92fb1d50be7903bc32d76ef6d63d2fc1555ebc6687d", func := "namedesk/namedesklaw24.RecordExpired", spec := "recordExpired", apart := false, narrowed := true }
def RecordExpiredUptoSaid : Prop := recordExpiredUptoRow.holds Try.pinned (OpenSpec.upto recordExpiredSpec)

/-- 'namedesklaw24.RecordGrows', WHERE WHAT IT READS IS OF BULK AT MOST 1048576: true; the input reads as it did. -/
def recordGrowsUptoRow : OpenClaim := { program := "ytkhfjedeccjnbaa", sum := "9bce34083498d371d254b92fb1d50be7903bc32d76ef6d63d2fc1555ebc6687d", func := "namedesk/namedesklaw24.RecordGrows", spec := "recordGrows", apart := false, narrowed := true }
def RecordGrowsUptoSaid : Prop := recordGrowsUptoRow.holds Try.pinned (OpenSpec.upto recordGrowsSpec)

/-- 'namedesklaw25.LocksExclusive', WHERE WHAT IT READS IS OF BULK AT MOST 1048576: true; the input reads as it did. -/
def locksExclusiveUptoRow : OpenClaim := { program := "ytkhfjedeccjnbaa", sum := "9bce34083498d371d254b92fb1d50be7903bc32d76ef6d63d2fc1555ebc6687d", func := "namedesk/namedesklaw25.LocksExclusive", spec := "locksExclusive", unfollowed := true, recurses := true, apart := false, narrowed := true }
def LocksExclusiveUptoSaid : Prop := locksExclusiveUptoRow.holds Try.pinned (OpenSpec.upto locksExclusiveSpec)

/-- 'namedesklaw26.StoreNew', WHERE WHAT IT READS IS OF BULK AT MOST 1048576: true; the input reads as it did. -/
def storeNewUptoRow : OpenClaim := { program := "ytkhfjedeccjnbaa", sum := "9bce34083498d371d254b92fb1d50be7903bc32d76ef6d63d2fc1555ebc6687d", func := "namedesk/namedesklaw26.StoreNew", spec := "storeNew", unfollowed := true, recurses := true, apart := false, narrowed := true }
def StoreNewUptoSaid : Prop := storeNewUptoRow.holds Try.pinned (OpenSpec.upto storeNewSpec)

/-- 'namedesklaw26.StoreRaw', WHERE WHAT IT READS IS OF BULK AT MOST 1048576: true; the input reads as it did. -/
def storeRawUptoRow : OpenClaim := { program := "ytkhfjedeccjnbaa", sum := "9bce34083498d371d254b92fb1d50be7903bc32d76ef6d63d2fc1555ebc6687d", func := "namedesk/namedesklaw26.StoreRaw", spec := "storeRaw", unfollowed := true, recurses := true, apart := false, narrowed := true }
def StoreRawUptoSaid : Prop := storeRawUptoRow.holds Try.pinned (OpenSpec.upto storeRawSpec)

/-- 'namedesklaw26.StoreFull', WHERE WHAT IT READS IS OF BULK AT MOST 1048576: true; the input reads as it did. -/
def storeFullUptoRow : OpenClaim := { program := "ytkhfjedeccjnbaa", sum := "9bce34083498d371d254b92fb1d50be7903bc32d76ef6d63d2fc1555ebc6687d", func := "namedesk/namedesklaw26.StoreFull", spec := "storeFull", unfollowed := true, recurses := true, apart := false, narrowed := true }
def StoreFullUptoSaid : Prop := storeFullUptoRow.holds Try.pinned (OpenSpec.upto storeFullSpec)

/-- 'namedesklaw25.LocksRoom', WHERE WHAT IT READS IS OF BULK AT MOST 1048576: true; the input reads as it did. -/
def locksRoomUptoRow : OpenClaim := { program := "ytkhfjedeccjnbaa", sum := "9bce34083498d371d254b92fb1d50be7903bc32d76ef6d63d2fc1555ebc6687d", func := "namedesk/namedesklaw25.LocksRoom", spec := "locksRoom", unfollowed := true, recurses := true, apart := false, narrowed := true }
def LocksRoomUptoSaid : Prop := locksRoomUptoRow.holds Try.pinned (OpenSpec.upto locksRoomSpec)

/-- 'namedesklaw25.LocksHeld', WHERE WHAT IT READS IS OF BULK AT MOST 1048576: true; the input reads as it did. -/
def locksHeldUptoRow : OpenClaim := { program := "ytkhfjedeccjnbaa", sum := "9bce34083498d371d254b92fb1d50be7903bc32d76ef6d63d2fc1555ebc6687d", func := "namedesk/namedesklaw25.LocksHeld", spec := "locksHeld", unfollowed := true, recurses := true, apart := false, narrowed := true }
def LocksHeldUptoSaid : Prop := locksHeldUptoRow.holds Try.pinned (OpenSpec.upto locksHeldSpec)

/-- 'namedesklaw25.LocksProbes', WHERE WHAT IT READS IS OF BULK AT MOST 1048576: true; the input reads as it did. -/
def locksProbesUptoRow : OpenClaim := { program := "ytkhfjedeccjnbaa", sum := "9bce34083498d371d254b92fb1d50be7903bc32d76ef6d63d2fc1555ebc6687d", func := "namedesk/namedesklaw25.LocksProbes", spec := "locksProbes", unfollowed := true, recurses := true, apart := false, narrowed := true }
def LocksProbesUptoSaid : Prop := locksProbesUptoRow.holds Try.pinned (OpenSpec.upto locksProbesSpec)

/-- 'namedesklaw25.LocksScript', WHERE WHAT IT READS IS OF BULK AT MOST 1048576: true; the input reads as it did. -/
def locksScriptUptoRow : OpenClaim := { program := "ytkhfjedeccjnbaa", sum := "9bce34083498d371d254b92fb1d50be7903bc32d76ef6d63d2fc1555ebc6687d", func := "namedesk/namedesklaw25.LocksScript", spec := "locksScript", unfollowed := true, recurses := true, apart := false, narrowed := true }
def LocksScriptUptoSaid : Prop := locksScriptUptoRow.holds Try.pinned (OpenSpec.upto locksScriptSpec)

/-- 'namedesklaw25.LocksRaw', WHERE WHAT IT READS IS OF BULK AT MOST 1048576: true; the input reads as it did. -/
def locksRawUptoRow : OpenClaim := { program := "ytkhfjedeccjnbaa", sum := "9bce34083498d371d254b92fb1d50be7903bc32d76ef6d63d2fc1555ebc6687d", func := "namedesk/namedesklaw25.LocksRaw", spec := "locksRaw", unfollowed := true, recurses := true, apart := false, narrowed := true }
def LocksRawUptoSaid : Prop := locksRawUptoRow.holds Try.pinned (OpenSpec.upto locksRawSpec)

/-- 'namedesklaw26.StoreScript', WHERE WHAT IT READS IS OF BULK AT MOST 1048576: true; the input reads as it did. -/
def storeScriptUptoRow : OpenClaim := { program := "ytkhfjedeccjnbaa", sum := "9bce34083498d371d254b92fb1d50be7903bc32d76ef6d63d2fc1555ebc6687d", func := "namedesk/namedesklaw26.StoreScript", spec := "storeScript", unfollowed := true, recurses := true, apart := false, narrowed := true }
def StoreScriptUptoSaid : Prop := storeScriptUptoRow.holds Try.pinned (OpenSpec.upto storeScriptSpec)

/-- 'namedesklaw26.StoreLast', WHERE WHAT IT READS IS OF BULK AT MOST 1048576: true; the input reads as it did. -/
def storeLastUptoRow : OpenClaim := { program := "ytkhfjedeccjnbaa", sum := "9bce34083498d371d254b92fb1d50be7903bc32d76ef6d63d2fc1555ebc6687d", func := "namedesk/namedesklaw26.StoreLast", spec := "storeLast", unfollowed := true, recurses := true, apart := false, narrowed := true }
def StoreLastUptoSaid : Prop := storeLastUptoRow.holds Try.pinned (OpenSpec.upto storeLastSpec)

/-- 'namedesklaw26.StoreProbes', WHERE WHAT IT READS IS OF BULK AT MOST 1048576: true; the input reads as it did. -/
def storeProbesUptoRow : OpenClaim := { program := "ytkhfjedeccjnbaa", sum := "9bce34083498d371d254b92fb1d50be7903bc32d76ef6d63d2fc1555ebc6687d", func := "namedesk/namedesklaw26.StoreProbes", spec := "storeProbes", unfollowed := true, recurses := true, apart := false, narrowed := true }
def StoreProbesUptoSaid : Prop := storeProbesUptoRow.holds Try.pinned (OpenSpec.upto storeProbesSpec)

end Rows
end Go.Proofs.Ytkhfjedeccjnbaa
