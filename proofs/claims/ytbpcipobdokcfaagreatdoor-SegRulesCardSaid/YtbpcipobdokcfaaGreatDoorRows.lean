/-
  NARROWER THAN 'FOR EVERY INPUT', by the rows' own cells (each row's printed sentence says how): SegCuts: laid · SegSteps: laid · SegAll: laid · SegBreaks: laid · SegTells: laid · SegShifts: laid · SegRules: laid.
  DERIVED. THE GIVEN ROWS OF THIS SEAT. 7 by the template 'for every input the law returns true; each argument reads behind the call as it read before'; 0 by the template 'total and deterministic' (their statements: YtbpcipobdokcfaaGreatDoorTotals.lean).
  GIVEN WITH THE SEED: the statements are not yours to turn. If you find one false, say at which input.
  Laid BY PROGRAM, IN A SANDBOX (cutbox-rows.mjs): the forced cells as the released guide's own fill.sh prints them over the translation 52778ecd03619446… (all of the seat's roots in one cut). By AI agents, Wed Nov 11 2026. No macro, syntax, notation, axiom, sorry.
-/
import Derived.Test.YtbpcipobdokcfaaGreatDoorChecked
import GoSem.Claim
import GoSem.ClaimJoined
import GoSem.ClaimMapViews
import Derived.JoinedTies
import Derived.KernelRfl
namespace Go.Proofs.YtbpcipobdokcfaaGreatDoor
/- THE CELL 'sum', in the pinned program and in every row, IS THE sha256 OF THE DUMP (.gsa) THAT YtbpcipobdokcfaaGreatDoorProg.lean LOADS. Nothing in Lean hashes anything: it is a label: what it is worth is what the hold of that sum in a sandbox is worth. -/
noncomputable def Tryz.pinned : Pinned := { name := "ytbpcipobdokcfaagreatdoor", sum := "52778ecd03619446c1c7a6a3a46d82caa8bbd502f310d29eefe064590ae3c526", checked := Tryz.checked }
namespace Rows
def none {H : Type} : Left H := { results := [], args := [] }

/- WHAT THE LISTED PACKAGE-LEVEL VARIABLES READ AS WHEN THE CALL BEGINS. Each datum BY PROGRAM (the guide's laid-datum.mjs) off the statement by which the dump's own 'gosem.cut.vars' lays the variable. In a bare row this is a premise. The card (YtbpcipobdokcfaaGreatDoorCards.lean) ties it to the program's text. -/
def laid_virama_dfa_errRule {H : Type} : DataW H := .iface "*errors.errorString" (.ptr (.agg [.lit (.string [110, 111, 32, 114, 117, 108, 101, 115])]))
def laid_virama_dfa_errMachine {H : Type} : DataW H := .iface "*errors.errorString" (.ptr (.agg [.lit (.string [110, 111, 32, 109, 97, 99, 104, 105, 110, 101])]))
def laid_virama_seg_errCut {H : Type} : DataW H := .iface "*errors.errorString" (.ptr (.agg [.lit (.string [110, 111, 32, 99, 117, 116, 115])]))
def laid_virama_nfa_errPattern {H : Type} : DataW H := .iface "*errors.errorString" (.ptr (.agg [.lit (.string [110, 111, 32, 112, 97, 116, 116, 101, 114, 110])]))

/-- 'viramalaw13.SegCuts': WHATEVER THE INPUT: true; the input reads as it did. -/
def segCutsSpec : ChangeSpec := { name := "segCuts", fn := fun _ => fun
  | [d1, d2, d3, d4] => { results := [.lit (.bool true)], args := [d1, d2, d3, d4] }
  | _ => none }
def segCutsRow : OpenClaim := { program := "ytbpcipobdokcfaagreatdoor", sum := "52778ecd03619446c1c7a6a3a46d82caa8bbd502f310d29eefe064590ae3c526", func := "virama/viramalaw13.SegCuts", spec := "segCuts", inPlace := ["internal/reflectlite.TypeOf"], unfollowed := true, recurses := true, named := ["virama/seg.errCut", "virama/dfa.errMachine", "virama/dfa.errRule"], plainKeys := false, apart := false, laid := [("virama/dfa.errRule", laid_virama_dfa_errRule), ("virama/dfa.errMachine", laid_virama_dfa_errMachine), ("virama/seg.errCut", laid_virama_seg_errCut)] }
def SegCutsSaid : Prop := segCutsRow.holds Tryz.pinned (OpenSpec.ofChange segCutsSpec)

/-- ITS FALSE NEIGHBOUR: 'it returns false'. Refute it at one input. -/
def segCutsWrong : ChangeSpec := { name := "segCuts", fn := fun _ => fun
  | [d1, d2, d3, d4] => { results := [.lit (.bool false)], args := [d1, d2, d3, d4] }
  | _ => none }
def SegCutsWrongFalsely : Prop := segCutsRow.holds Tryz.pinned (OpenSpec.ofChange segCutsWrong)

/-- 'viramalaw13.SegSteps': WHATEVER THE INPUT: true; the input reads as it did. -/
def segStepsSpec : ChangeSpec := { name := "segSteps", fn := fun _ => fun
  | [d1, d2] => { results := [.lit (.bool true)], args := [d1, d2] }
  | _ => none }
def segStepsRow : OpenClaim := { program := "ytbpcipobdokcfaagreatdoor", sum := "52778ecd03619446c1c7a6a3a46d82caa8bbd502f310d29eefe064590ae3c526", func := "virama/viramalaw13.SegSteps", spec := "segSteps", inPlace := ["internal/reflectlite.TypeOf"], unfollowed := true, recurses := true, named := ["virama/seg.errCut", "virama/dfa.errMachine", "virama/dfa.errRule"], plainKeys := false, apart := false, laid := [("virama/dfa.errRule", laid_virama_dfa_errRule), ("virama/dfa.errMachine", laid_virama_dfa_errMachine), ("virama/seg.errCut", laid_virama_seg_errCut)] }
def SegStepsSaid : Prop := segStepsRow.holds Tryz.pinned (OpenSpec.ofChange segStepsSpec)

/-- ITS FALSE NEIGHBOUR: 'it returns false'. Refute it at one input. -/
def segStepsWrong : ChangeSpec := { name := "segSteps", fn := fun _ => fun
  | [d1, d2] => { results := [.lit (.bool false)], args := [d1, d2] }
  | _ => none }
def SegStepsWrongFalsely : Prop := segStepsRow.holds Tryz.pinned (OpenSpec.ofChange segStepsWrong)

/-- 'viramalaw13.SegAll': WHATEVER THE INPUT: true; the input reads as it did. -/
def segAllSpec : ChangeSpec := { name := "segAll", fn := fun _ => fun
  | [d1, d2] => { results := [.lit (.bool true)], args := [d1, d2] }
  | _ => none }
def segAllRow : OpenClaim := { program := "ytbpcipobdokcfaagreatdoor", sum := "52778ecd03619446c1c7a6a3a46d82caa8bbd502f310d29eefe064590ae3c526", func := "virama/viramalaw13.SegAll", spec := "segAll", inPlace := ["internal/reflectlite.TypeOf"], unfollowed := true, recurses := true, named := ["virama/seg.errCut", "virama/dfa.errMachine", "virama/dfa.errRule"], plainKeys := false, apart := false, laid := [("virama/dfa.errRule", laid_virama_dfa_errRule), ("virama/dfa.errMachine", laid_virama_dfa_errMachine), ("virama/seg.errCut", laid_virama_seg_errCut)] }
def SegAllSaid : Prop := segAllRow.holds Tryz.pinned (OpenSpec.ofChange segAllSpec)

/-- ITS FALSE NEIGHBOUR: 'it returns false'. Refute it at one input. -/
def segAllWrong : ChangeSpec := { name := "segAll", fn := fun _ => fun
  | [d1, d2] => { results := [.lit (.bool false)], args := [d1, d2] }
  | _ => none }
def SegAllWrongFalsely : Prop := segAllRow.holds Tryz.pinned (OpenSpec.ofChange segAllWrong)

/-- 'viramalaw13.SegBreaks': WHATEVER THE INPUT: true; the input reads as it did. -/
def segBreaksSpec : ChangeSpec := { name := "segBreaks", fn := fun _ => fun
  | [d1, d2, d3, d4] => { results := [.lit (.bool true)], args := [d1, d2, d3, d4] }
  | _ => none }
def segBreaksRow : OpenClaim := { program := "ytbpcipobdokcfaagreatdoor", sum := "52778ecd03619446c1c7a6a3a46d82caa8bbd502f310d29eefe064590ae3c526", func := "virama/viramalaw13.SegBreaks", spec := "segBreaks", inPlace := ["internal/reflectlite.TypeOf"], unfollowed := true, recurses := true, named := ["virama/seg.errCut", "virama/dfa.errMachine", "virama/dfa.errRule"], plainKeys := false, apart := false, laid := [("virama/dfa.errRule", laid_virama_dfa_errRule), ("virama/dfa.errMachine", laid_virama_dfa_errMachine), ("virama/seg.errCut", laid_virama_seg_errCut)] }
def SegBreaksSaid : Prop := segBreaksRow.holds Tryz.pinned (OpenSpec.ofChange segBreaksSpec)

/-- ITS FALSE NEIGHBOUR: 'it returns false'. Refute it at one input. -/
def segBreaksWrong : ChangeSpec := { name := "segBreaks", fn := fun _ => fun
  | [d1, d2, d3, d4] => { results := [.lit (.bool false)], args := [d1, d2, d3, d4] }
  | _ => none }
def SegBreaksWrongFalsely : Prop := segBreaksRow.holds Tryz.pinned (OpenSpec.ofChange segBreaksWrong)

/-- 'viramalaw13.SegTells': WHATEVER THE INPUT: true; the input reads as it did. -/
def segTellsSpec : ChangeSpec := { name := "segTells", fn := fun _ => fun
  | [d1, d2, d3] => { results := [.lit (.bool true)], args := [d1, d2, d3] }
  | _ => none }
def segTellsRow : OpenClaim := { program := "ytbpcipobdokcfaagreatdoor", sum := "52778ecd03619446c1c7a6a3a46d82caa8bbd502f310d29eefe064590ae3c526", func := "virama/viramalaw13.SegTells", spec := "segTells", inPlace := ["internal/reflectlite.TypeOf"], unfollowed := true, recurses := true, named := ["virama/seg.errCut", "virama/dfa.errMachine", "virama/dfa.errRule"], plainKeys := false, apart := false, laid := [("virama/dfa.errRule", laid_virama_dfa_errRule), ("virama/dfa.errMachine", laid_virama_dfa_errMachine), ("virama/seg.errCut", laid_virama_seg_errCut)] }
def SegTellsSaid : Prop := segTellsRow.holds Tryz.pinned (OpenSpec.ofChange segTellsSpec)

/-- ITS FALSE NEIGHBOUR: 'it returns false'. Refute it at one input. -/
def segTellsWrong : ChangeSpec := { name := "segTells", fn := fun _ => fun
  | [d1, d2, d3] => { results := [.lit (.bool false)], args := [d1, d2, d3] }
  | _ => none }
def SegTellsWrongFalsely : Prop := segTellsRow.holds Tryz.pinned (OpenSpec.ofChange segTellsWrong)

/-- 'viramalaw13.SegShifts': WHATEVER THE INPUT: true; the input reads as it did. -/
def segShiftsSpec : ChangeSpec := { name := "segShifts", fn := fun _ => fun
  | [d1, d2, d3] => { results := [.lit (.bool true)], args := [d1, d2, d3] }
  | _ => none }
def segShiftsRow : OpenClaim := { program := "ytbpcipobdokcfaagreatdoor", sum := "52778ecd03619446c1c7a6a3a46d82caa8bbd502f310d29eefe064590ae3c526", func := "virama/viramalaw13.SegShifts", spec := "segShifts", inPlace := ["internal/reflectlite.TypeOf"], unfollowed := true, recurses := true, named := ["virama/seg.errCut", "virama/dfa.errMachine", "virama/dfa.errRule"], plainKeys := false, apart := false, laid := [("virama/dfa.errRule", laid_virama_dfa_errRule), ("virama/dfa.errMachine", laid_virama_dfa_errMachine), ("virama/seg.errCut", laid_virama_seg_errCut)] }
def SegShiftsSaid : Prop := segShiftsRow.holds Tryz.pinned (OpenSpec.ofChange segShiftsSpec)

/-- ITS FALSE NEIGHBOUR: 'it returns false'. Refute it at one input. -/
def segShiftsWrong : ChangeSpec := { name := "segShifts", fn := fun _ => fun
  | [d1, d2, d3] => { results := [.lit (.bool false)], args := [d1, d2, d3] }
  | _ => none }
def SegShiftsWrongFalsely : Prop := segShiftsRow.holds Tryz.pinned (OpenSpec.ofChange segShiftsWrong)

/-- 'viramalaw13.SegRules': WHATEVER THE INPUT: true; the input reads as it did. -/
def segRulesSpec : ChangeSpec := { name := "segRules", fn := fun _ => fun
  | [d1, d2, d3] => { results := [.lit (.bool true)], args := [d1, d2, d3] }
  | _ => none }
def segRulesRow : OpenClaim := { program := "ytbpcipobdokcfaagreatdoor", sum := "52778ecd03619446c1c7a6a3a46d82caa8bbd502f310d29eefe064590ae3c526", func := "virama/viramalaw13.SegRules", spec := "segRules", inPlace := ["internal/reflectlite.TypeOf"], unfollowed := true, recurses := true, named := ["virama/seg.errCut", "virama/dfa.errMachine", "virama/dfa.errRule", "virama/nfa.errPattern"], plainKeys := false, apart := false, laid := [("virama/nfa.errPattern", laid_virama_nfa_errPattern), ("virama/dfa.errRule", laid_virama_dfa_errRule), ("virama/dfa.errMachine", laid_virama_dfa_errMachine), ("virama/seg.errCut", laid_virama_seg_errCut)] }
def SegRulesSaid : Prop := segRulesRow.holds Tryz.pinned (OpenSpec.ofChange segRulesSpec)

/-- ITS FALSE NEIGHBOUR: 'it returns false'. Refute it at one input. -/
def segRulesWrong : ChangeSpec := { name := "segRules", fn := fun _ => fun
  | [d1, d2, d3] => { results := [.lit (.bool false)], args := [d1, d2, d3] }
  | _ => none }
def SegRulesWrongFalsely : Prop := segRulesRow.holds Tryz.pinned (OpenSpec.ofChange segRulesWrong)

/- THE SECOND FORM. 'bulk': how many values and letters a reading holds, each counted each time it is reached (what is shared counts as often as it is met; a slice's spare places count too). A statement '..UptoSaid' is the law's where the arguments, and the package variables that the reading takes, are together of bulk at most 1048576: NARROWER than '..Said'. Prove '..Said' where nothing that the law and all that it calls make is longer than what came in: it says more and counts as full. Else prove '..UptoSaid'. A law counts once. -/
mutual
def uptoBulk {H : Type} : DataW H → Nat
  | .lit (.string bytes) => bytes.length + 1
  | .lit _ => 1
  | .nil => 1
  | .ptr d => uptoBulk d + 1
  | .slice elems spare => uptoBulkAll elems + uptoBulkAll spare + 1
  | .agg parts => uptoBulkAll parts + 1
  | .iface _ d => uptoBulk d + 1
  | .map entries => uptoBulkEntries entries + 1
  | .held _ => 1
def uptoBulkAll {H : Type} : List (DataW H) → Nat
  | [] => 0
  | d :: r => uptoBulk d + uptoBulkAll r
def uptoBulkEntries {H : Type} : List (Lit × DataW H) → Nat
  | [] => 0
  | x :: r => uptoBulkEntry x + uptoBulkEntries r
def uptoBulkEntry {H : Type} : Lit × DataW H → Nat
  | (.string bytes, d) => bytes.length + uptoBulk d + 1
  | (_, d) => uptoBulk d + 1
 end
def uptoSmall : (H : Type) → List (DataW H) → Bool := fun _ ds => decide (uptoBulkAll ds ≤ 1048576)
def OpenSpec.upto (s : _root_.Go.ChangeSpec) : _root_.Go.OpenSpec := { _root_.Go.OpenSpec.ofChange s with cond := some uptoSmall }

/-- 'viramalaw13.SegCuts', WHERE WHAT IT READS IS OF BULK AT MOST 1048576: true; the input reads as it did. -/
def segCutsUptoRow : OpenClaim := { program := "ytbpcipobdokcfaagreatdoor", sum := "52778ecd03619446c1c7a6a3a46d82caa8bbd502f310d29eefe064590ae3c526", func := "virama/viramalaw13.SegCuts", spec := "segCuts", inPlace := ["internal/reflectlite.TypeOf"], unfollowed := true, recurses := true, named := ["virama/seg.errCut", "virama/dfa.errMachine", "virama/dfa.errRule"], plainKeys := false, apart := false, laid := [("virama/dfa.errRule", laid_virama_dfa_errRule), ("virama/dfa.errMachine", laid_virama_dfa_errMachine), ("virama/seg.errCut", laid_virama_seg_errCut)], narrowed := true }
def SegCutsUptoSaid : Prop := segCutsUptoRow.holds Tryz.pinned (OpenSpec.upto segCutsSpec)

/-- 'viramalaw13.SegSteps', WHERE WHAT IT READS IS OF BULK AT MOST 1048576: true; the input reads as it did. -/
def segStepsUptoRow : OpenClaim := { program := "ytbpcipobdokcfaagreatdoor", sum := "52778ecd03619446c1c7a6a3a46d82caa8bbd502f310d29eefe064590ae3c526", func := "virama/viramalaw13.SegSteps", spec := "segSteps", inPlace := ["internal/reflectlite.TypeOf"], unfollowed := true, recurses := true, named := ["virama/seg.errCut", "virama/dfa.errMachine", "virama/dfa.errRule"], plainKeys := false, apart := false, laid := [("virama/dfa.errRule", laid_virama_dfa_errRule), ("virama/dfa.errMachine", laid_virama_dfa_errMachine), ("virama/seg.errCut", laid_virama_seg_errCut)], narrowed := true }
def SegStepsUptoSaid : Prop := segStepsUptoRow.holds Tryz.pinned (OpenSpec.upto segStepsSpec)

/-- 'viramalaw13.SegAll', WHERE WHAT IT READS IS OF BULK AT MOST 1048576: true; the input reads as it did. -/
def segAllUptoRow : OpenClaim := { program := "ytbpcipobdokcfaagreatdoor", sum := "52778ecd03619446c1c7a6a3a46d82caa8bbd502f310d29eefe064590ae3c526", func := "virama/viramalaw13.SegAll", spec := "segAll", inPlace := ["internal/reflectlite.TypeOf"], unfollowed := true, recurses := true, named := ["virama/seg.errCut", "virama/dfa.errMachine", "virama/dfa.errRule"], plainKeys := false, apart := false, laid := [("virama/dfa.errRule", laid_virama_dfa_errRule), ("virama/dfa.errMachine", laid_virama_dfa_errMachine), ("virama/seg.errCut", laid_virama_seg_errCut)], narrowed := true }
def SegAllUptoSaid : Prop := segAllUptoRow.holds Tryz.pinned (OpenSpec.upto segAllSpec)

/-- 'viramalaw13.SegBreaks', WHERE WHAT IT READS IS OF BULK AT MOST 1048576: true; the input reads as it did. -/
def segBreaksUptoRow : OpenClaim := { program := "ytbpcipobdokcfaagreatdoor", sum := "52778ecd03619446c1c7a6a3a46d82caa8bbd502f310d29eefe064590ae3c526", func := "virama/viramalaw13.SegBreaks", spec := "segBreaks", inPlace := ["internal/reflectlite.TypeOf"], unfollowed := true, recurses := true, named := ["virama/seg.errCut", "virama/dfa.errMachine", "virama/dfa.errRule"], plainKeys := false, apart := false, laid := [("virama/dfa.errRule", laid_virama_dfa_errRule), ("virama/dfa.errMachine", laid_virama_dfa_errMachine), ("virama/seg.errCut", laid_virama_seg_errCut)], narrowed := true }
def SegBreaksUptoSaid : Prop := segBreaksUptoRow.holds Tryz.pinned (OpenSpec.upto segBreaksSpec)

/-- 'viramalaw13.SegTells', WHERE WHAT IT READS IS OF BULK AT MOST 1048576: true; the input reads as it did. -/
def segTellsUptoRow : OpenClaim := { program := "ytbpcipobdokcfaagreatdoor", sum := "52778ecd03619446c1c7a6a3a46d82caa8bbd502f310d29eefe064590ae3c526", func := "virama/viramalaw13.SegTells", spec := "segTells", inPlace := ["internal/reflectlite.TypeOf"], unfollowed := true, recurses := true, named := ["virama/seg.errCut", "virama/dfa.errMachine", "virama/dfa.errRule"], plainKeys := false, apart := false, laid := [("virama/dfa.errRule", laid_virama_dfa_errRule), ("virama/dfa.errMachine", laid_virama_dfa_errMachine), ("virama/seg.errCut", laid_virama_seg_errCut)], narrowed := true }
def SegTellsUptoSaid : Prop := segTellsUptoRow.holds Tryz.pinned (OpenSpec.upto segTellsSpec)

/-- 'viramalaw13.SegShifts', WHERE WHAT IT READS IS OF BULK AT MOST 1048576: true; the input reads as it did. -/
def segShiftsUptoRow : OpenClaim := { program := "ytbpcipobdokcfaagreatdoor", sum := "52778ecd03619446c1c7a6a3a46d82caa8bbd502f310d29eefe064590ae3c526", func := "virama/viramalaw13.SegShifts", spec := "segShifts", inPlace := ["internal/reflectlite.TypeOf"], unfollowed := true, recurses := true, named := ["virama/seg.errCut", "virama/dfa.errMachine", "virama/dfa.errRule"], plainKeys := false, apart := false, laid := [("virama/dfa.errRule", laid_virama_dfa_errRule), ("virama/dfa.errMachine", laid_virama_dfa_errMachine), ("virama/seg.errCut", laid_virama_seg_errCut)], narrowed := true }
def SegShiftsUptoSaid : Prop := segShiftsUptoRow.holds Tryz.pinned (OpenSpec.upto segShiftsSpec)

/-- 'viramalaw13.SegRules', WHERE WHAT IT READS IS OF BULK AT MOST 1048576: true; the input reads as it did. -/
def segRulesUptoRow : OpenClaim := { program := "ytbpcipobdokcfaagreatdoor", sum := "52778ecd03619446c1c7a6a3a46d82caa8bbd502f310d29eefe064590ae3c526", func := "virama/viramalaw13.SegRules", spec := "segRules", inPlace := ["internal/reflectlite.TypeOf"], unfollowed := true, recurses := true, named := ["virama/seg.errCut", "virama/dfa.errMachine", "virama/dfa.errRule", "virama/nfa.errPattern"], plainKeys := false, apart := false, laid := [("virama/nfa.errPattern", laid_virama_nfa_errPattern), ("virama/dfa.errRule", laid_virama_dfa_errRule), ("virama/dfa.errMachine", laid_virama_dfa_errMachine), ("virama/seg.errCut", laid_virama_seg_errCut)], narrowed := true }
def SegRulesUptoSaid : Prop := segRulesUptoRow.holds Tryz.pinned (OpenSpec.upto segRulesSpec)

end Rows
end Go.Proofs.YtbpcipobdokcfaaGreatDoor
