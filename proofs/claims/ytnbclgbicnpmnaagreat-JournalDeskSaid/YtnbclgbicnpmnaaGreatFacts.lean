/-
  The closed facts about the loaded program that every claim of this seat needs, each proved by itself, so that the kernel never holds them together.
  Conditions: none.
-/
import Derived.JoinedOf
import Derived.KernelRfl
import Derived.Test.YtnbclgbicnpmnaaGreatRows
namespace Go.Proofs.YtnbclgbicnpmnaaGreat
open Go

namespace Head
theorem toList_of {s : String} {l : List Char} (h : s = String.ofList l) : s.toList = l := by rw [h, String.toList_ofList]
theorem strip_cut (rest : List (List Char)) : stripLifts liftWords ("cut".toList :: rest) = ([], "cut".toList :: rest) := by
  simp [stripLifts, liftWords]
theorem head_form {l : List (List Char)} (h : l.head? = some "cut".toList) : ∃ rest, l = "cut".toList :: rest := by
  cases l with
  | nil => cases h
  | cons c rest => simp only [List.head?_cons, Option.some.injEq] at h; exact ⟨rest, by rw [h]⟩
theorem mayEnter {P : Program} {l : List Char} (h : P.initOrder = String.ofList l) (hh : (behindMainWord (wordsSigns l)).head? = some "cut".toList)
    (h1 : P.laysLater = false) (h2 : P.bearsReflect = false) (h3 : P.doorRows = []) : P.mayEnter = true := by
  obtain ⟨rest, hr⟩ := head_form hh
  unfold Program.mayEnter Program.doorFits
  rw [toList_of h, hr]
  simp only [strip_cut, h1, h2, h3]
  simp
theorem headLifts {P : Program} {l : List Char} (h : P.initOrder = String.ofList l) (hh : (behindMainWord (wordsSigns l)).head? = some "cut".toList) : P.headLifts = [] := by
  obtain ⟨rest, hr⟩ := head_form hh
  unfold Program.headLifts
  rw [toList_of h, hr]
  simp only [strip_cut]
  simp
theorem liftsFinal {P : Program} {l : List Char} (h : P.initOrder = String.ofList l) (hh : (behindMainWord (wordsSigns l)).head? = some "cut".toList) : P.liftsFinal = false := by
  have hl := headLifts h hh
  obtain ⟨rest, hr⟩ := head_form hh
  unfold Program.liftsFinal
  rw [hl, toList_of h, hr]
  simp
theorem make {P : Program} {l : List Char} (h : P.initOrder = String.ofList l) (hh : (behindMainWord (wordsSigns l)).head? = some "cut".toList) : P.make = some .cut := by
  obtain ⟨rest, hr⟩ := head_form hh
  unfold Program.make
  rw [toList_of h, hr]
  simp

theorem and2 {a b : Bool} (h : a = true) (k : b = true) : (a && b) = true := by rw [h, k]; rfl
/-- The joined facts out of their parts. -/
theorem joined {P : Program} {f : FuncId} {fn : Func} {s : ChangeSpec} {c : OpenClaim}
    (k1 : c.wf (OpenSpec.ofChange s) = true) (k2 : laidOutB P = true) (k3 : mapsRowed P = true) (k4 : fn.params.all (P.readableRec ·) = true) (k5 : namedTie P c.named s.vars = true)
    (k6 : (c.stops == []) = true) (k7 : (P.stops == []) = true) (k8 : (c.knobs == []) = true) (k9 : (P.stopKnobs == []) = true)
    (k10 : (c.inPlace == P.inPlace f) = true) (k11 : (c.unfollowed == P.unfollowed f) = true) (k12 : (c.recurses == P.recurses f) = true) (k13 : (c.named == P.varsNamed f) = true)
    (k14 : (c.maps == (fn.params.toList ++ s.plain.varTypes P).any (P.mapsRec ·)) = true) (k15 : (c.ifaces == (fn.params.toList ++ s.plain.varTypes P).any (P.ifacesRec ·)) = true) (k16 : (c.mapsOut == P.mapsAmong fn.resultTypes.toList) = true)
    (k17 : (c.loops == (fn.params.toList ++ s.plain.varTypes P).any (P.loopsFrom ·)) = true) (k17b : (c.wideKeys == (fn.params.toList ++ s.plain.varTypes P ++ fn.resultTypes.toList).any (P.wideKeysFrom ·)) = true)
    (k18 : s.vars.all (P.varReadable ·) = true) (k19 : fn.resultTypes.all (fun t => P.readableRec t && decide (t < P.types.size)) = true) (k20 : (c.ifacesOut == fn.resultTypes.toList.any (P.ifacesRec ·)) = true)
    (k21 : (c.loopsOut == fn.resultTypes.toList.any (P.loopsFrom ·)) = true) (k22 : (c.plainKeys == P.plainKeys) = true) (k23 : c.shortTexts.isNone = true) (k23b : P.stopsHeard = true) (k24 : P.mayEnter = true)
    (k24b : (c.lifted == P.liftsFinal) = true) (k24c : (P.make == some c.make) = true)
    (k25 : (c.kinds == (if c.domain.isEmpty then [] else fn.params.toList.map fun t => match P.underlying t with | some (.int k) => some k | _ => none)) = true) (k26 : (c.pinned == c.pinnedBy) = true)
    (k27 : (c.veiled == (fn.params.toList ++ s.plain.varTypes P ++ fn.resultTypes.toList).any (P.veiledRec ·)) = true) (k28 : c.veiledFits P fn.params.toList (fn.params.toList ++ s.plain.varTypes P ++ fn.resultTypes.toList) = true) :
    joinedFacts P f fn s c = true := by
  exact (and2 (and2 (and2 (and2 (and2 (and2 (and2 (and2 (and2 (and2 (and2 (and2 (and2 (and2 (and2 (and2 (and2 (and2 (and2 (and2 (and2 (and2 (and2 (and2 (and2 (and2 (and2 (and2 (and2 (and2 (and2 k1 k2) k3) k4) k5) k6) k7) k8) k9) k10) k11) k12) k13) k14) k15) k16) k17) k17b) k18) k19) k20) k21) k22) k23) k23b) k24) k24b) k24c) k25) k26) k27) k28)
end Head

namespace Fact
set_option maxRecDepth 1000000 in
theorem head : ∃ l, Tryz.prog.initOrder = String.ofList l ∧ (behindMainWord (wordsSigns l)).head? = some "cut".toList := ⟨_, rfl, by kernel_rfl⟩
theorem laysLater : Tryz.prog.laysLater = false := by kernel_rfl
theorem bearsReflect : Tryz.prog.bearsReflect = false := by kernel_rfl
theorem doorRows : Tryz.prog.doorRows = [] := by kernel_rfl
theorem mayEnter : Tryz.prog.mayEnter = true := by
  obtain ⟨l, h, hh⟩ := head
  exact Head.mayEnter h hh laysLater bearsReflect doorRows
theorem liftsFinal : Tryz.prog.liftsFinal = false := by
  obtain ⟨l, h, hh⟩ := head
  exact Head.liftsFinal h hh
theorem make : Tryz.prog.make = some .cut := by
  obtain ⟨l, h, hh⟩ := head
  exact Head.make h hh
theorem laidOut : laidOutB Tryz.prog = true := by kernel_rfl
theorem mapsRowed : mapsRowed Tryz.prog = true := by kernel_rfl
theorem stops : (Tryz.prog.stops == []) = true := by kernel_rfl
theorem stopKnobs : (Tryz.prog.stopKnobs == []) = true := by kernel_rfl
theorem plainKeys : Tryz.prog.plainKeys = true := by kernel_rfl
theorem stopsHeard : Tryz.prog.stopsHeard = true := by kernel_rfl
theorem own : ownKnob Tryz.prog.godebug = none := by kernel_rfl
theorem checkedProg : Tryz.checked.prog = Tryz.prog := rfl
theorem mayEnterC : Tryz.checked.prog.mayEnter = true := by rw [checkedProg]; exact mayEnter
theorem ownC : ownKnob Tryz.checked.prog.godebug = none := by rw [checkedProg]; exact own
end Fact
end Go.Proofs.YtnbclgbicnpmnaaGreat
