/-
  NARROWER THAN 'FOR EVERY INPUT', by the rows' own cells (each row's printed sentence says how): TitleFinals: laid · TitleWords: laid · TitleTexts: laid · TitleThree: laid · TitleStays: laid · TitleAhead: laid · TitleNear: laid · TitleSmall: laid.
  DERIVED. THE GIVEN ROWS OF THIS SEAT. 8 by the template 'for every input the law returns true; each argument reads behind the call as it read before'; 0 by the template 'total and deterministic' (their statements: YtlmdjifffmofeaaGreatDoorTotals.lean).
  GIVEN WITH THE SEED: the statements are not yours to turn. If you find one false, say at which input.
  Laid BY PROGRAM, IN A SANDBOX (cutbox-rows.mjs): the forced cells as the released guide's own fill.sh prints them over the translation f55a5323f4487f7f… (all of the seat's roots in one cut). By AI agents, Wed Nov 11 2026. No macro, syntax, notation, axiom, sorry.
-/
import Derived.Test.YtlmdjifffmofeaaGreatDoorChecked
import GoSem.Claim
import GoSem.ClaimJoined
import GoSem.ClaimMapViews
import Derived.JoinedTies
import Derived.KernelRfl
namespace Go.Proofs.YtlmdjifffmofeaaGreatDoor
/- THE CELL 'sum', in the pinned program and in every row, IS THE sha256 OF THE DUMP (.gsa) THAT YtlmdjifffmofeaaGreatDoorProg.lean LOADS. Nothing in Lean hashes anything: it is a label: what it is worth is what the hold of that sum in a sandbox is worth. -/
noncomputable def Tryz.pinned : Pinned := { name := "ytlmdjifffmofeaagreatdoor", sum := "f55a5323f4487f7f5f6220f07dba0b682e1c9a6fd46c8e03b83030d5cc8452f8", checked := Tryz.checked }
namespace Rows
def none {H : Type} : Left H := { results := [], args := [] }

/- WHAT THE LISTED PACKAGE-LEVEL VARIABLES READ AS WHEN THE CALL BEGINS. Each datum BY PROGRAM (the guide's laid-datum.mjs) off the statement by which the dump's own 'gosem.cut.vars' lays the variable. In a bare row this is a premise. The card (YtlmdjifffmofeaaGreatDoorCards.lean) ties it to the program's text. -/
def laid_errors_errorType {H : Type} : DataW H := .iface "internal/reflectlite.rtype" (.agg [.ptr (.lit (.string [101, 114, 114, 111, 114]))])
def laid_virama_scalar_errScalar {H : Type} : DataW H := .iface "*errors.errorString" (.ptr (.agg [.lit (.string [110, 111, 32, 115, 99, 97, 108, 97, 114])]))
def laid_virama_scalar_errUtf {H : Type} : DataW H := .iface "*errors.errorString" (.ptr (.agg [.lit (.string [110, 111, 116, 32, 119, 101, 108, 108, 45, 102, 111, 114, 109, 101, 100])]))
def laid_virama_dfa_errRule {H : Type} : DataW H := .iface "*errors.errorString" (.ptr (.agg [.lit (.string [110, 111, 32, 114, 117, 108, 101, 115])]))
def laid_virama_dfa_errMachine {H : Type} : DataW H := .iface "*errors.errorString" (.ptr (.agg [.lit (.string [110, 111, 32, 109, 97, 99, 104, 105, 110, 101])]))
def laid_virama_seg_errCut {H : Type} : DataW H := .iface "*errors.errorString" (.ptr (.agg [.lit (.string [110, 111, 32, 99, 117, 116, 115])]))
def laid_virama_title_errCase {H : Type} : DataW H := .iface "*errors.errorString" (.ptr (.agg [.lit (.string [110, 111, 32, 99, 97, 115, 101, 115])]))
def laid_virama_title_errText {H : Type} : DataW H := .iface "*errors.errorString" (.ptr (.agg [.lit (.string [116, 111, 111, 32, 108, 111, 110, 103])]))
def laid_virama_title_errScalar {H : Type} : DataW H := .iface "*errors.errorString" (.ptr (.agg [.lit (.string [110, 111, 32, 115, 99, 97, 108, 97, 114, 115])]))
def laid_virama_title_errPlace {H : Type} : DataW H := .iface "*errors.errorString" (.ptr (.agg [.lit (.string [110, 111, 32, 112, 108, 97, 99, 101])]))

/-- 'viramalaw17.TitleFinals': WHATEVER THE INPUT: true; the input reads as it did. -/
def titleFinalsSpec : ChangeSpec := { name := "titleFinals", fn := fun _ => fun
  | [d1, d2, d3] => { results := [.lit (.bool true)], args := [d1, d2, d3] }
  | _ => none }
def titleFinalsRow : OpenClaim := { program := "ytlmdjifffmofeaagreatdoor", sum := "f55a5323f4487f7f5f6220f07dba0b682e1c9a6fd46c8e03b83030d5cc8452f8", func := "virama/viramalaw17.TitleFinals", spec := "titleFinals", inPlace := ["internal/reflectlite.TypeOf", "internal/abi.NoEscape", "internal/reflectlite.ValueOf", "(internal/reflectlite.Value).Type", "(internal/reflectlite.Value).IsNil", "(internal/reflectlite.Value).Elem", "(internal/reflectlite.Value).Set"], unfollowed := true, recurses := true, named := ["virama/title.errCase", "virama/title.errText", "virama/title.errScalar", "virama/title.errPlace", "virama/seg.errCut", "virama/dfa.errMachine", "virama/dfa.errRule", "virama/scalar.errScalar", "virama/scalar.errUtf", "errors.errorType"], apart := false, laid := [("errors.errorType", laid_errors_errorType), ("virama/scalar.errScalar", laid_virama_scalar_errScalar), ("virama/scalar.errUtf", laid_virama_scalar_errUtf), ("virama/dfa.errRule", laid_virama_dfa_errRule), ("virama/dfa.errMachine", laid_virama_dfa_errMachine), ("virama/seg.errCut", laid_virama_seg_errCut), ("virama/title.errCase", laid_virama_title_errCase), ("virama/title.errText", laid_virama_title_errText), ("virama/title.errScalar", laid_virama_title_errScalar), ("virama/title.errPlace", laid_virama_title_errPlace)] }
def TitleFinalsSaid : Prop := titleFinalsRow.holds Tryz.pinned (OpenSpec.ofChange titleFinalsSpec)

/-- ITS FALSE NEIGHBOUR: 'it returns false'. Refute it at one input. -/
def titleFinalsWrong : ChangeSpec := { name := "titleFinals", fn := fun _ => fun
  | [d1, d2, d3] => { results := [.lit (.bool false)], args := [d1, d2, d3] }
  | _ => none }
def TitleFinalsWrongFalsely : Prop := titleFinalsRow.holds Tryz.pinned (OpenSpec.ofChange titleFinalsWrong)

/-- 'viramalaw17.TitleWords': WHATEVER THE INPUT: true; the input reads as it did. -/
def titleWordsSpec : ChangeSpec := { name := "titleWords", fn := fun _ => fun
  | [d1, d2, d3, d4] => { results := [.lit (.bool true)], args := [d1, d2, d3, d4] }
  | _ => none }
def titleWordsRow : OpenClaim := { program := "ytlmdjifffmofeaagreatdoor", sum := "f55a5323f4487f7f5f6220f07dba0b682e1c9a6fd46c8e03b83030d5cc8452f8", func := "virama/viramalaw17.TitleWords", spec := "titleWords", inPlace := ["internal/reflectlite.TypeOf", "internal/abi.NoEscape", "internal/reflectlite.ValueOf", "(internal/reflectlite.Value).Type", "(internal/reflectlite.Value).IsNil", "(internal/reflectlite.Value).Elem", "(internal/reflectlite.Value).Set"], unfollowed := true, recurses := true, named := ["virama/title.errCase", "virama/title.errText", "virama/title.errScalar", "virama/title.errPlace", "virama/seg.errCut", "virama/dfa.errMachine", "virama/dfa.errRule", "virama/scalar.errScalar", "virama/scalar.errUtf", "errors.errorType"], apart := false, laid := [("errors.errorType", laid_errors_errorType), ("virama/scalar.errScalar", laid_virama_scalar_errScalar), ("virama/scalar.errUtf", laid_virama_scalar_errUtf), ("virama/dfa.errRule", laid_virama_dfa_errRule), ("virama/dfa.errMachine", laid_virama_dfa_errMachine), ("virama/seg.errCut", laid_virama_seg_errCut), ("virama/title.errCase", laid_virama_title_errCase), ("virama/title.errText", laid_virama_title_errText), ("virama/title.errScalar", laid_virama_title_errScalar), ("virama/title.errPlace", laid_virama_title_errPlace)] }
def TitleWordsSaid : Prop := titleWordsRow.holds Tryz.pinned (OpenSpec.ofChange titleWordsSpec)

/-- ITS FALSE NEIGHBOUR: 'it returns false'. Refute it at one input. -/
def titleWordsWrong : ChangeSpec := { name := "titleWords", fn := fun _ => fun
  | [d1, d2, d3, d4] => { results := [.lit (.bool false)], args := [d1, d2, d3, d4] }
  | _ => none }
def TitleWordsWrongFalsely : Prop := titleWordsRow.holds Tryz.pinned (OpenSpec.ofChange titleWordsWrong)

/-- 'viramalaw17.TitleTexts': WHATEVER THE INPUT: true; the input reads as it did. -/
def titleTextsSpec : ChangeSpec := { name := "titleTexts", fn := fun _ => fun
  | [d1, d2, d3] => { results := [.lit (.bool true)], args := [d1, d2, d3] }
  | _ => none }
def titleTextsRow : OpenClaim := { program := "ytlmdjifffmofeaagreatdoor", sum := "f55a5323f4487f7f5f6220f07dba0b682e1c9a6fd46c8e03b83030d5cc8452f8", func := "virama/viramalaw17.TitleTexts", spec := "titleTexts", inPlace := ["internal/reflectlite.TypeOf", "internal/abi.NoEscape", "internal/reflectlite.ValueOf", "(internal/reflectlite.Value).Type", "(internal/reflectlite.Value).IsNil", "(internal/reflectlite.Value).Elem", "(internal/reflectlite.Value).Set"], unfollowed := true, recurses := true, named := ["virama/title.errCase", "virama/title.errText", "virama/title.errScalar", "virama/title.errPlace", "virama/seg.errCut", "virama/dfa.errMachine", "virama/dfa.errRule", "virama/scalar.errScalar", "virama/scalar.errUtf", "errors.errorType"], apart := false, laid := [("errors.errorType", laid_errors_errorType), ("virama/scalar.errScalar", laid_virama_scalar_errScalar), ("virama/scalar.errUtf", laid_virama_scalar_errUtf), ("virama/dfa.errRule", laid_virama_dfa_errRule), ("virama/dfa.errMachine", laid_virama_dfa_errMachine), ("virama/seg.errCut", laid_virama_seg_errCut), ("virama/title.errCase", laid_virama_title_errCase), ("virama/title.errText", laid_virama_title_errText), ("virama/title.errScalar", laid_virama_title_errScalar), ("virama/title.errPlace", laid_virama_title_errPlace)] }
def TitleTextsSaid : Prop := titleTextsRow.holds Tryz.pinned (OpenSpec.ofChange titleTextsSpec)

/-- ITS FALSE NEIGHBOUR: 'it returns false'. Refute it at one input. -/
def titleTextsWrong : ChangeSpec := { name := "titleTexts", fn := fun _ => fun
  | [d1, d2, d3] => { results := [.lit (.bool false)], args := [d1, d2, d3] }
  | _ => none }
def TitleTextsWrongFalsely : Prop := titleTextsRow.holds Tryz.pinned (OpenSpec.ofChange titleTextsWrong)

/-- 'viramalaw17.TitleThree': WHATEVER THE INPUT: true; the input reads as it did. -/
def titleThreeSpec : ChangeSpec := { name := "titleThree", fn := fun _ => fun
  | [d1, d2, d3] => { results := [.lit (.bool true)], args := [d1, d2, d3] }
  | _ => none }
def titleThreeRow : OpenClaim := { program := "ytlmdjifffmofeaagreatdoor", sum := "f55a5323f4487f7f5f6220f07dba0b682e1c9a6fd46c8e03b83030d5cc8452f8", func := "virama/viramalaw17.TitleThree", spec := "titleThree", inPlace := ["internal/reflectlite.TypeOf", "internal/abi.NoEscape", "internal/reflectlite.ValueOf", "(internal/reflectlite.Value).Type", "(internal/reflectlite.Value).IsNil", "(internal/reflectlite.Value).Elem", "(internal/reflectlite.Value).Set"], unfollowed := true, recurses := true, named := ["virama/title.errCase", "virama/title.errText", "virama/title.errScalar", "virama/title.errPlace", "virama/seg.errCut", "virama/dfa.errMachine", "virama/dfa.errRule", "virama/scalar.errScalar", "virama/scalar.errUtf", "errors.errorType"], apart := false, laid := [("errors.errorType", laid_errors_errorType), ("virama/scalar.errScalar", laid_virama_scalar_errScalar), ("virama/scalar.errUtf", laid_virama_scalar_errUtf), ("virama/dfa.errRule", laid_virama_dfa_errRule), ("virama/dfa.errMachine", laid_virama_dfa_errMachine), ("virama/seg.errCut", laid_virama_seg_errCut), ("virama/title.errCase", laid_virama_title_errCase), ("virama/title.errText", laid_virama_title_errText), ("virama/title.errScalar", laid_virama_title_errScalar), ("virama/title.errPlace", laid_virama_title_errPlace)] }
def TitleThreeSaid : Prop := titleThreeRow.holds Tryz.pinned (OpenSpec.ofChange titleThreeSpec)

/-- ITS FALSE NEIGHBOUR: 'it returns false'. Refute it at one input. -/
def titleThreeWrong : ChangeSpec := { name := "titleThree", fn := fun _ => fun
  | [d1, d2, d3] => { results := [.lit (.bool false)], args := [d1, d2, d3] }
  | _ => none }
def TitleThreeWrongFalsely : Prop := titleThreeRow.holds Tryz.pinned (OpenSpec.ofChange titleThreeWrong)

/-- 'viramalaw17.TitleStays': WHATEVER THE INPUT: true; the input reads as it did. -/
def titleStaysSpec : ChangeSpec := { name := "titleStays", fn := fun _ => fun
  | [d1, d2, d3] => { results := [.lit (.bool true)], args := [d1, d2, d3] }
  | _ => none }
def titleStaysRow : OpenClaim := { program := "ytlmdjifffmofeaagreatdoor", sum := "f55a5323f4487f7f5f6220f07dba0b682e1c9a6fd46c8e03b83030d5cc8452f8", func := "virama/viramalaw17.TitleStays", spec := "titleStays", inPlace := ["internal/reflectlite.TypeOf", "internal/abi.NoEscape", "internal/reflectlite.ValueOf", "(internal/reflectlite.Value).Type", "(internal/reflectlite.Value).IsNil", "(internal/reflectlite.Value).Elem", "(internal/reflectlite.Value).Set"], unfollowed := true, recurses := true, named := ["virama/title.errCase", "virama/title.errText", "virama/title.errScalar", "virama/title.errPlace", "virama/seg.errCut", "virama/dfa.errMachine", "virama/dfa.errRule", "virama/scalar.errScalar", "virama/scalar.errUtf", "errors.errorType"], apart := false, laid := [("errors.errorType", laid_errors_errorType), ("virama/scalar.errScalar", laid_virama_scalar_errScalar), ("virama/scalar.errUtf", laid_virama_scalar_errUtf), ("virama/dfa.errRule", laid_virama_dfa_errRule), ("virama/dfa.errMachine", laid_virama_dfa_errMachine), ("virama/seg.errCut", laid_virama_seg_errCut), ("virama/title.errCase", laid_virama_title_errCase), ("virama/title.errText", laid_virama_title_errText), ("virama/title.errScalar", laid_virama_title_errScalar), ("virama/title.errPlace", laid_virama_title_errPlace)] }
def TitleStaysSaid : Prop := titleStaysRow.holds Tryz.pinned (OpenSpec.ofChange titleStaysSpec)

/-- ITS FALSE NEIGHBOUR: 'it returns false'. Refute it at one input. -/
def titleStaysWrong : ChangeSpec := { name := "titleStays", fn := fun _ => fun
  | [d1, d2, d3] => { results := [.lit (.bool false)], args := [d1, d2, d3] }
  | _ => none }
def TitleStaysWrongFalsely : Prop := titleStaysRow.holds Tryz.pinned (OpenSpec.ofChange titleStaysWrong)

/-- 'viramalaw17.TitleAhead': WHATEVER THE INPUT: true; the input reads as it did. -/
def titleAheadSpec : ChangeSpec := { name := "titleAhead", fn := fun _ => fun
  | [d1, d2, d3, d4, d5] => { results := [.lit (.bool true)], args := [d1, d2, d3, d4, d5] }
  | _ => none }
def titleAheadRow : OpenClaim := { program := "ytlmdjifffmofeaagreatdoor", sum := "f55a5323f4487f7f5f6220f07dba0b682e1c9a6fd46c8e03b83030d5cc8452f8", func := "virama/viramalaw17.TitleAhead", spec := "titleAhead", inPlace := ["internal/reflectlite.TypeOf", "internal/abi.NoEscape", "internal/reflectlite.ValueOf", "(internal/reflectlite.Value).Type", "(internal/reflectlite.Value).IsNil", "(internal/reflectlite.Value).Elem", "(internal/reflectlite.Value).Set"], unfollowed := true, recurses := true, named := ["virama/title.errCase", "virama/title.errText", "virama/title.errScalar", "virama/title.errPlace", "virama/seg.errCut", "virama/dfa.errMachine", "virama/dfa.errRule", "virama/scalar.errScalar", "virama/scalar.errUtf", "errors.errorType"], apart := false, laid := [("errors.errorType", laid_errors_errorType), ("virama/scalar.errScalar", laid_virama_scalar_errScalar), ("virama/scalar.errUtf", laid_virama_scalar_errUtf), ("virama/dfa.errRule", laid_virama_dfa_errRule), ("virama/dfa.errMachine", laid_virama_dfa_errMachine), ("virama/seg.errCut", laid_virama_seg_errCut), ("virama/title.errCase", laid_virama_title_errCase), ("virama/title.errText", laid_virama_title_errText), ("virama/title.errScalar", laid_virama_title_errScalar), ("virama/title.errPlace", laid_virama_title_errPlace)] }
def TitleAheadSaid : Prop := titleAheadRow.holds Tryz.pinned (OpenSpec.ofChange titleAheadSpec)

/-- ITS FALSE NEIGHBOUR: 'it returns false'. Refute it at one input. -/
def titleAheadWrong : ChangeSpec := { name := "titleAhead", fn := fun _ => fun
  | [d1, d2, d3, d4, d5] => { results := [.lit (.bool false)], args := [d1, d2, d3, d4, d5] }
  | _ => none }
def TitleAheadWrongFalsely : Prop := titleAheadRow.holds Tryz.pinned (OpenSpec.ofChange titleAheadWrong)

/-- 'viramalaw17.TitleNear': WHATEVER THE INPUT: true; the input reads as it did. -/
def titleNearSpec : ChangeSpec := { name := "titleNear", fn := fun _ => fun
  | [d1, d2, d3] => { results := [.lit (.bool true)], args := [d1, d2, d3] }
  | _ => none }
def titleNearRow : OpenClaim := { program := "ytlmdjifffmofeaagreatdoor", sum := "f55a5323f4487f7f5f6220f07dba0b682e1c9a6fd46c8e03b83030d5cc8452f8", func := "virama/viramalaw17.TitleNear", spec := "titleNear", inPlace := ["internal/reflectlite.TypeOf", "internal/abi.NoEscape", "internal/reflectlite.ValueOf", "(internal/reflectlite.Value).Type", "(internal/reflectlite.Value).IsNil", "(internal/reflectlite.Value).Elem", "(internal/reflectlite.Value).Set"], unfollowed := true, recurses := true, named := ["virama/title.errCase", "virama/title.errText", "virama/title.errScalar", "virama/title.errPlace", "virama/seg.errCut", "virama/dfa.errMachine", "virama/dfa.errRule", "virama/scalar.errScalar", "virama/scalar.errUtf", "errors.errorType"], apart := false, laid := [("errors.errorType", laid_errors_errorType), ("virama/scalar.errScalar", laid_virama_scalar_errScalar), ("virama/scalar.errUtf", laid_virama_scalar_errUtf), ("virama/dfa.errRule", laid_virama_dfa_errRule), ("virama/dfa.errMachine", laid_virama_dfa_errMachine), ("virama/seg.errCut", laid_virama_seg_errCut), ("virama/title.errCase", laid_virama_title_errCase), ("virama/title.errText", laid_virama_title_errText), ("virama/title.errScalar", laid_virama_title_errScalar), ("virama/title.errPlace", laid_virama_title_errPlace)] }
def TitleNearSaid : Prop := titleNearRow.holds Tryz.pinned (OpenSpec.ofChange titleNearSpec)

/-- ITS FALSE NEIGHBOUR: 'it returns false'. Refute it at one input. -/
def titleNearWrong : ChangeSpec := { name := "titleNear", fn := fun _ => fun
  | [d1, d2, d3] => { results := [.lit (.bool false)], args := [d1, d2, d3] }
  | _ => none }
def TitleNearWrongFalsely : Prop := titleNearRow.holds Tryz.pinned (OpenSpec.ofChange titleNearWrong)

/-- 'viramalaw17.TitleSmall': WHATEVER THE INPUT: true; the input reads as it did. -/
def titleSmallSpec : ChangeSpec := { name := "titleSmall", fn := fun _ => fun
  | [d1, d2] => { results := [.lit (.bool true)], args := [d1, d2] }
  | _ => none }
def titleSmallRow : OpenClaim := { program := "ytlmdjifffmofeaagreatdoor", sum := "f55a5323f4487f7f5f6220f07dba0b682e1c9a6fd46c8e03b83030d5cc8452f8", func := "virama/viramalaw17.TitleSmall", spec := "titleSmall", inPlace := ["internal/reflectlite.TypeOf", "internal/abi.NoEscape", "internal/reflectlite.ValueOf", "(internal/reflectlite.Value).Type", "(internal/reflectlite.Value).IsNil", "(internal/reflectlite.Value).Elem", "(internal/reflectlite.Value).Set"], unfollowed := true, recurses := true, named := ["virama/title.errCase", "virama/title.errText", "virama/title.errScalar", "virama/title.errPlace", "virama/seg.errCut", "virama/dfa.errMachine", "virama/dfa.errRule", "virama/scalar.errScalar", "virama/scalar.errUtf", "errors.errorType"], apart := false, laid := [("errors.errorType", laid_errors_errorType), ("virama/scalar.errScalar", laid_virama_scalar_errScalar), ("virama/scalar.errUtf", laid_virama_scalar_errUtf), ("virama/dfa.errRule", laid_virama_dfa_errRule), ("virama/dfa.errMachine", laid_virama_dfa_errMachine), ("virama/seg.errCut", laid_virama_seg_errCut), ("virama/title.errCase", laid_virama_title_errCase), ("virama/title.errText", laid_virama_title_errText), ("virama/title.errScalar", laid_virama_title_errScalar), ("virama/title.errPlace", laid_virama_title_errPlace)] }
def TitleSmallSaid : Prop := titleSmallRow.holds Tryz.pinned (OpenSpec.ofChange titleSmallSpec)

/-- ITS FALSE NEIGHBOUR: 'it returns false'. Refute it at one input. -/
def titleSmallWrong : ChangeSpec := { name := "titleSmall", fn := fun _ => fun
  | [d1, d2] => { results := [.lit (.bool false)], args := [d1, d2] }
  | _ => none }
def TitleSmallWrongFalsely : Prop := titleSmallRow.holds Tryz.pinned (OpenSpec.ofChange titleSmallWrong)

/- THE SECOND FORM. 'bulk': how many values and letters a reading holds, each counted each time it is reached (what is shared counts as often as it is met; a slice's spare places count too). A statement '..UptoSaid' is the law's where the arguments, and the package variables that the reading takes, are together of bulk at most 1048576: NARROWER than '..Said'. Prove '..Said' where nothing that the law and all that it calls make is longer than what came in: it says more and counts as full. Else prove '..UptoSaid'. A law counts once. -/
mutual
def uptoBulk {H : Type} : DataW H → Nat
  | .lit (.string bytes) => bytes.length + 1
  | .lit _ => 1
  | .nil => 1
  | .ptr d => uptoBulk d + 1
  | .slice elems spare => uptoBulkAll elems + uptoBulkAll spare + 1
  | .agg parts => uptoBulkAll parts + 1
  | .iface _ d => uptoBulk d + 1
  | .map entries => uptoBulkEntries entries + 1
  | .held _ => 1
def uptoBulkAll {H : Type} : List (DataW H) → Nat
  | [] => 0
  | d :: r => uptoBulk d + uptoBulkAll r
def uptoBulkEntries {H : Type} : List (Lit × DataW H) → Nat
  | [] => 0
  | x :: r => uptoBulkEntry x + uptoBulkEntries r
def uptoBulkEntry {H : Type} : Lit × DataW H → Nat
  | (.string bytes, d) => bytes.length + uptoBulk d + 1
  | (_, d) => uptoBulk d + 1
 end
def uptoSmall : (H : Type) → List (DataW H) → Bool := fun _ ds => decide (uptoBulkAll ds ≤ 1048576)
def OpenSpec.upto (s : _root_.Go.ChangeSpec) : _root_.Go.OpenSpec := { _root_.Go.OpenSpec.ofChange s with cond := some uptoSmall }

/-- 'viramalaw17.TitleFinals', WHERE WHAT IT READS IS OF BULK AT MOST 1048576: true; the input reads as it did. -/
def titleFinalsUptoRow : OpenClaim := { program := "ytlmdjifffmofeaagreatdoor", sum := "f55a5323f4487f7f5f6220f07dba0b682e1c9a6fd46c8e03b83030d5cc8452f8", func := "virama/viramalaw17.TitleFinals", spec := "titleFinals", inPlace := ["internal/reflectlite.TypeOf", "internal/abi.NoEscape", "internal/reflectlite.ValueOf", "(internal/reflectlite.Value).Type", "(internal/reflectlite.Value).IsNil", "(internal/reflectlite.Value).Elem", "(internal/reflectlite.Value).Set"], unfollowed := true, recurses := true, named := ["virama/title.errCase", "virama/title.errText", "virama/title.errScalar", "virama/title.errPlace", "virama/seg.errCut", "virama/dfa.errMachine", "virama/dfa.errRule", "virama/scalar.errScalar", "virama/scalar.errUtf", "errors.errorType"], apart := false, laid := [("errors.errorType", laid_errors_errorType), ("virama/scalar.errScalar", laid_virama_scalar_errScalar), ("virama/scalar.errUtf", laid_virama_scalar_errUtf), ("virama/dfa.errRule", laid_virama_dfa_errRule), ("virama/dfa.errMachine", laid_virama_dfa_errMachine), ("virama/seg.errCut", laid_virama_seg_errCut), ("virama/title.errCase", laid_virama_title_errCase), ("virama/title.errText", laid_virama_title_errText), ("virama/title.errScalar", laid_virama_title_errScalar), ("virama/title.errPlace", laid_virama_title_errPlace)], narrowed := true }
def TitleFinalsUptoSaid : Prop := titleFinalsUptoRow.holds Tryz.pinned (OpenSpec.upto titleFinalsSpec)

/-- 'viramalaw17.TitleWords', WHERE WHAT IT READS IS OF BULK AT MOST 1048576: true; the input reads as it did. -/
def titleWordsUptoRow : OpenClaim := { program := "ytlmdjifffmofeaagreatdoor", sum := "f55a5323f4487f7f5f6220f07dba0b682e1c9a6fd46c8e03b83030d5cc8452f8", func := "virama/viramalaw17.TitleWords", spec := "titleWords", inPlace := ["internal/reflectlite.TypeOf", "internal/abi.NoEscape", "internal/reflectlite.ValueOf", "(internal/reflectlite.Value).Type", "(internal/reflectlite.Value).IsNil", "(internal/reflectlite.Value).Elem", "(internal/reflectlite.Value).Set"], unfollowed := true, recurses := true, named := ["virama/title.errCase", "virama/title.errText", "virama/title.errScalar", "virama/title.errPlace", "virama/seg.errCut", "virama/dfa.errMachine", "virama/dfa.errRule", "virama/scalar.errScalar", "virama/scalar.errUtf", "errors.errorType"], apart := false, laid := [("errors.errorType", laid_errors_errorType), ("virama/scalar.errScalar", laid_virama_scalar_errScalar), ("virama/scalar.errUtf", laid_virama_scalar_errUtf), ("virama/dfa.errRule", laid_virama_dfa_errRule), ("virama/dfa.errMachine", laid_virama_dfa_errMachine), ("virama/seg.errCut", laid_virama_seg_errCut), ("virama/title.errCase", laid_virama_title_errCase), ("virama/title.errText", laid_virama_title_errText), ("virama/title.errScalar", laid_virama_title_errScalar), ("virama/title.errPlace", laid_virama_title_errPlace)], narrowed := true }
def TitleWordsUptoSaid : Prop := titleWordsUptoRow.holds Tryz.pinned (OpenSpec.upto titleWordsSpec)

/-- 'viramalaw17.TitleTexts', WHERE WHAT IT READS IS OF BULK AT MOST 1048576: true; the input reads as it did. -/
def titleTextsUptoRow : OpenClaim := { program := "ytlmdjifffmofeaagreatdoor", sum := "f55a5323f4487f7f5f6220f07dba0b682e1c9a6fd46c8e03b83030d5cc8452f8", func := "virama/viramalaw17.TitleTexts", spec := "titleTexts", inPlace := ["internal/reflectlite.TypeOf", "internal/abi.NoEscape", "internal/reflectlite.ValueOf", "(internal/reflectlite.Value).Type", "(internal/reflectlite.Value).IsNil", "(internal/reflectlite.Value).Elem", "(internal/reflectlite.Value).Set"], unfollowed := true, recurses := true, named := ["virama/title.errCase", "virama/title.errText", "virama/title.errScalar", "virama/title.errPlace", "virama/seg.errCut", "virama/dfa.errMachine", "virama/dfa.errRule", "virama/scalar.errScalar", "virama/scalar.errUtf", "errors.errorType"], apart := false, laid := [("errors.errorType", laid_errors_errorType), ("virama/scalar.errScalar", laid_virama_scalar_errScalar), ("virama/scalar.errUtf", laid_virama_scalar_errUtf), ("virama/dfa.errRule", laid_virama_dfa_errRule), ("virama/dfa.errMachine", laid_virama_dfa_errMachine), ("virama/seg.errCut", laid_virama_seg_errCut), ("virama/title.errCase", laid_virama_title_errCase), ("virama/title.errText", laid_virama_title_errText), ("virama/title.errScalar", laid_virama_title_errScalar), ("virama/title.errPlace", laid_virama_title_errPlace)], narrowed := true }
def TitleTextsUptoSaid : Prop := titleTextsUptoRow.holds Tryz.pinned (OpenSpec.upto titleTextsSpec)

/-- 'viramalaw17.TitleThree', WHERE WHAT IT READS IS OF BULK AT MOST 1048576: true; the input reads as it did. -/
def titleThreeUptoRow : OpenClaim := { program := "ytlmdjifffmofeaagreatdoor", sum := "f55a5323f4487f7f5f6220f07dba0b682e1c9a6fd46c8e03b83030d5cc8452f8", func := "virama/viramalaw17.TitleThree", spec := "titleThree", inPlace := ["internal/reflectlite.TypeOf", "internal/abi.NoEscape", "internal/reflectlite.ValueOf", "(internal/reflectlite.Value).Type", "(internal/reflectlite.Value).IsNil", "(internal/reflectlite.Value).Elem", "(internal/reflectlite.Value).Set"], unfollowed := true, recurses := true, named := ["virama/title.errCase", "virama/title.errText", "virama/title.errScalar", "virama/title.errPlace", "virama/seg.errCut", "virama/dfa.errMachine", "virama/dfa.errRule", "virama/scalar.errScalar", "virama/scalar.errUtf", "errors.errorType"], apart := false, laid := [("errors.errorType", laid_errors_errorType), ("virama/scalar.errScalar", laid_virama_scalar_errScalar), ("virama/scalar.errUtf", laid_virama_scalar_errUtf), ("virama/dfa.errRule", laid_virama_dfa_errRule), ("virama/dfa.errMachine", laid_virama_dfa_errMachine), ("virama/seg.errCut", laid_virama_seg_errCut), ("virama/title.errCase", laid_virama_title_errCase), ("virama/title.errText", laid_virama_title_errText), ("virama/title.errScalar", laid_virama_title_errScalar), ("virama/title.errPlace", laid_virama_title_errPlace)], narrowed := true }
def TitleThreeUptoSaid : Prop := titleThreeUptoRow.holds Tryz.pinned (OpenSpec.upto titleThreeSpec)

/-- 'viramalaw17.TitleStays', WHERE WHAT IT READS IS OF BULK AT MOST 1048576: true; the input reads as it did. -/
def titleStaysUptoRow : OpenClaim := { program := "ytlmdjifffmofeaagreatdoor", sum := "f55a5323f4487f7f5f6220f07dba0b682e1c9a6fd46c8e03b83030d5cc8452f8", func := "virama/viramalaw17.TitleStays", spec := "titleStays", inPlace := ["internal/reflectlite.TypeOf", "internal/abi.NoEscape", "internal/reflectlite.ValueOf", "(internal/reflectlite.Value).Type", "(internal/reflectlite.Value).IsNil", "(internal/reflectlite.Value).Elem", "(internal/reflectlite.Value).Set"], unfollowed := true, recurses := true, named := ["virama/title.errCase", "virama/title.errText", "virama/title.errScalar", "virama/title.errPlace", "virama/seg.errCut", "virama/dfa.errMachine", "virama/dfa.errRule", "virama/scalar.errScalar", "virama/scalar.errUtf", "errors.errorType"], apart := false, laid := [("errors.errorType", laid_errors_errorType), ("virama/scalar.errScalar", laid_virama_scalar_errScalar), ("virama/scalar.errUtf", laid_virama_scalar_errUtf), ("virama/dfa.errRule", laid_virama_dfa_errRule), ("virama/dfa.errMachine", laid_virama_dfa_errMachine), ("virama/seg.errCut", laid_virama_seg_errCut), ("virama/title.errCase", laid_virama_title_errCase), ("virama/title.errText", laid_virama_title_errText), ("virama/title.errScalar", laid_virama_title_errScalar), ("virama/title.errPlace", laid_virama_title_errPlace)], narrowed := true }
def TitleStaysUptoSaid : Prop := titleStaysUptoRow.holds Tryz.pinned (OpenSpec.upto titleStaysSpec)

/-- 'viramalaw17.TitleAhead', WHERE WHAT IT READS IS OF BULK AT MOST 1048576: true; the input reads as it did. -/
def titleAheadUptoRow : OpenClaim := { program := "ytlmdjifffmofeaagreatdoor", sum := "f55a5323f4487f7f5f6220f07dba0b682e1c9a6fd46c8e03b83030d5cc8452f8", func := "virama/viramalaw17.TitleAhead", spec := "titleAhead", inPlace := ["internal/reflectlite.TypeOf", "internal/abi.NoEscape", "internal/reflectlite.ValueOf", "(internal/reflectlite.Value).Type", "(internal/reflectlite.Value).IsNil", "(internal/reflectlite.Value).Elem", "(internal/reflectlite.Value).Set"], unfollowed := true, recurses := true, named := ["virama/title.errCase", "virama/title.errText", "virama/title.errScalar", "virama/title.errPlace", "virama/seg.errCut", "virama/dfa.errMachine", "virama/dfa.errRule", "virama/scalar.errScalar", "virama/scalar.errUtf", "errors.errorType"], apart := false, laid := [("errors.errorType", laid_errors_errorType), ("virama/scalar.errScalar", laid_virama_scalar_errScalar), ("virama/scalar.errUtf", laid_virama_scalar_errUtf), ("virama/dfa.errRule", laid_virama_dfa_errRule), ("virama/dfa.errMachine", laid_virama_dfa_errMachine), ("virama/seg.errCut", laid_virama_seg_errCut), ("virama/title.errCase", laid_virama_title_errCase), ("virama/title.errText", laid_virama_title_errText), ("virama/title.errScalar", laid_virama_title_errScalar), ("virama/title.errPlace", laid_virama_title_errPlace)], narrowed := true }
def TitleAheadUptoSaid : Prop := titleAheadUptoRow.holds Tryz.pinned (OpenSpec.upto titleAheadSpec)

/-- 'viramalaw17.TitleNear', WHERE WHAT IT READS IS OF BULK AT MOST 1048576: true; the input reads as it did. -/
def titleNearUptoRow : OpenClaim := { program := "ytlmdjifffmofeaagreatdoor", sum := "f55a5323f4487f7f5f6220f07dba0b682e1c9a6fd46c8e03b83030d5cc8452f8", func := "virama/viramalaw17.TitleNear", spec := "titleNear", inPlace := ["internal/reflectlite.TypeOf", "internal/abi.NoEscape", "internal/reflectlite.ValueOf", "(internal/reflectlite.Value).Type", "(internal/reflectlite.Value).IsNil", "(internal/reflectlite.Value).Elem", "(internal/reflectlite.Value).Set"], unfollowed := true, recurses := true, named := ["virama/title.errCase", "virama/title.errText", "virama/title.errScalar", "virama/title.errPlace", "virama/seg.errCut", "virama/dfa.errMachine", "virama/dfa.errRule", "virama/scalar.errScalar", "virama/scalar.errUtf", "errors.errorType"], apart := false, laid := [("errors.errorType", laid_errors_errorType), ("virama/scalar.errScalar", laid_virama_scalar_errScalar), ("virama/scalar.errUtf", laid_virama_scalar_errUtf), ("virama/dfa.errRule", laid_virama_dfa_errRule), ("virama/dfa.errMachine", laid_virama_dfa_errMachine), ("virama/seg.errCut", laid_virama_seg_errCut), ("virama/title.errCase", laid_virama_title_errCase), ("virama/title.errText", laid_virama_title_errText), ("virama/title.errScalar", laid_virama_title_errScalar), ("virama/title.errPlace", laid_virama_title_errPlace)], narrowed := true }
def TitleNearUptoSaid : Prop := titleNearUptoRow.holds Tryz.pinned (OpenSpec.upto titleNearSpec)

/-- 'viramalaw17.TitleSmall', WHERE WHAT IT READS IS OF BULK AT MOST 1048576: true; the input reads as it did. -/
def titleSmallUptoRow : OpenClaim := { program := "ytlmdjifffmofeaagreatdoor", sum := "f55a5323f4487f7f5f6220f07dba0b682e1c9a6fd46c8e03b83030d5cc8452f8", func := "virama/viramalaw17.TitleSmall", spec := "titleSmall", inPlace := ["internal/reflectlite.TypeOf", "internal/abi.NoEscape", "internal/reflectlite.ValueOf", "(internal/reflectlite.Value).Type", "(internal/reflectlite.Value).IsNil", "(internal/reflectlite.Value).Elem", "(internal/reflectlite.Value).Set"], unfollowed := true, recurses := true, named := ["virama/title.errCase", "virama/title.errText", "virama/title.errScalar", "virama/title.errPlace", "virama/seg.errCut", "virama/dfa.errMachine", "virama/dfa.errRule", "virama/scalar.errScalar", "virama/scalar.errUtf", "errors.errorType"], apart := false, laid := [("errors.errorType", laid_errors_errorType), ("virama/scalar.errScalar", laid_virama_scalar_errScalar), ("virama/scalar.errUtf", laid_virama_scalar_errUtf), ("virama/dfa.errRule", laid_virama_dfa_errRule), ("virama/dfa.errMachine", laid_virama_dfa_errMachine), ("virama/seg.errCut", laid_virama_seg_errCut), ("virama/title.errCase", laid_virama_title_errCase), ("virama/title.errText", laid_virama_title_errText), ("virama/title.errScalar", laid_virama_title_errScalar), ("virama/title.errPlace", laid_virama_title_errPlace)], narrowed := true }
def TitleSmallUptoSaid : Prop := titleSmallUptoRow.holds Tryz.pinned (OpenSpec.upto titleSmallSpec)

end Rows
end Go.Proofs.YtlmdjifffmofeaaGreatDoor
