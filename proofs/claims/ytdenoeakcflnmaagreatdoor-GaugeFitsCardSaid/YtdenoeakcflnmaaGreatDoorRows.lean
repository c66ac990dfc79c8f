/-
  NARROWER THAN 'FOR EVERY INPUT', by the rows' own cells (each row's printed sentence says how): GaugeWith: laid · GaugeSums: laid · GaugeGoes: laid · GaugeAny: laid · GaugeMeasures: laid · GaugeFits: laid · GaugeHeads: laid · GaugeKinds: laid.
  DERIVED. THE GIVEN ROWS OF THIS SEAT. 8 by the template 'for every input the law returns true; each argument reads behind the call as it read before'; 0 by the template 'total and deterministic' (their statements: YtdenoeakcflnmaaGreatDoorTotals.lean).
  GIVEN WITH THE SEED: the statements are not yours to turn. If you find one false, say at which input.
  Laid BY PROGRAM, IN A SANDBOX (cutbox-rows.mjs): the forced cells as the released guide's own fill.sh prints them over the translation 59dedbcbead644cb… (all of the seat's roots in one cut). By AI agents, Wed Nov 11 2026. No macro, syntax, notation, axiom, sorry.
-/
import Derived.Test.YtdenoeakcflnmaaGreatDoorChecked
import GoSem.Claim
import GoSem.ClaimJoined
import GoSem.ClaimMapViews
import Derived.JoinedTies
import Derived.KernelRfl
namespace Go.Proofs.YtdenoeakcflnmaaGreatDoor
/- THE CELL 'sum', in the pinned program and in every row, IS THE sha256 OF THE DUMP (.gsa) THAT YtdenoeakcflnmaaGreatDoorProg.lean LOADS. Nothing in Lean hashes anything: it is a label: what it is worth is what the hold of that sum in a sandbox is worth. -/
noncomputable def Tryz.pinned : Pinned := { name := "ytdenoeakcflnmaagreatdoor", sum := "59dedbcbead644cbb297ade9952950b0d492af7ab7bf8329611d06e51da7c552", checked := Tryz.checked }
namespace Rows
def none {H : Type} : Left H := { results := [], args := [] }

/- WHAT THE LISTED PACKAGE-LEVEL VARIABLES READ AS WHEN THE CALL BEGINS. Each datum BY PROGRAM (the guide's laid-datum.mjs) off the statement by which the dump's own 'gosem.cut.vars' lays the variable. In a bare row this is a premise. The card (YtdenoeakcflnmaaGreatDoorCards.lean) ties it to the program's text. -/
def laid_errors_errorType {H : Type} : DataW H := .iface "internal/reflectlite.rtype" (.agg [.ptr (.lit (.string [101, 114, 114, 111, 114]))])
def laid_virama_scalar_errScalar {H : Type} : DataW H := .iface "*errors.errorString" (.ptr (.agg [.lit (.string [110, 111, 32, 115, 99, 97, 108, 97, 114])]))
def laid_virama_scalar_errUtf {H : Type} : DataW H := .iface "*errors.errorString" (.ptr (.agg [.lit (.string [110, 111, 116, 32, 119, 101, 108, 108, 45, 102, 111, 114, 109, 101, 100])]))
def laid_virama_dfa_errRule {H : Type} : DataW H := .iface "*errors.errorString" (.ptr (.agg [.lit (.string [110, 111, 32, 114, 117, 108, 101, 115])]))
def laid_virama_dfa_errMachine {H : Type} : DataW H := .iface "*errors.errorString" (.ptr (.agg [.lit (.string [110, 111, 32, 109, 97, 99, 104, 105, 110, 101])]))
def laid_virama_seg_errCut {H : Type} : DataW H := .iface "*errors.errorString" (.ptr (.agg [.lit (.string [110, 111, 32, 99, 117, 116, 115])]))
def laid_virama_width_errWidth {H : Type} : DataW H := .iface "*errors.errorString" (.ptr (.agg [.lit (.string [110, 111, 32, 119, 105, 100, 116, 104, 115])]))
def laid_virama_width_errScalar {H : Type} : DataW H := .iface "*errors.errorString" (.ptr (.agg [.lit (.string [110, 111, 32, 115, 99, 97, 108, 97, 114])]))
def laid_virama_width_errUtf {H : Type} : DataW H := .iface "*errors.errorString" (.ptr (.agg [.lit (.string [110, 111, 116, 32, 119, 101, 108, 108, 45, 102, 111, 114, 109, 101, 100])]))
def laid_virama_gauge_errGauge {H : Type} : DataW H := .iface "*errors.errorString" (.ptr (.agg [.lit (.string [110, 111, 32, 103, 97, 117, 103, 101])]))
def laid_virama_gauge_errText {H : Type} : DataW H := .iface "*errors.errorString" (.ptr (.agg [.lit (.string [116, 111, 111, 32, 108, 111, 110, 103])]))

/-- 'viramalaw18.GaugeWith': WHATEVER THE INPUT: true; the input reads as it did. -/
def gaugeWithSpec : ChangeSpec := { name := "gaugeWith", fn := fun _ => fun
  | [d1, d2, d3, d4] => { results := [.lit (.bool true)], args := [d1, d2, d3, d4] }
  | _ => none }
def gaugeWithRow : OpenClaim := { program := "ytdenoeakcflnmaagreatdoor", sum := "59dedbcbead644cbb297ade9952950b0d492af7ab7bf8329611d06e51da7c552", func := "virama/viramalaw18.GaugeWith", spec := "gaugeWith", inPlace := ["internal/reflectlite.TypeOf", "internal/abi.NoEscape", "internal/reflectlite.ValueOf", "(internal/reflectlite.Value).Type", "(internal/reflectlite.Value).IsNil", "(internal/reflectlite.Value).Elem", "(internal/reflectlite.Value).Set", "internal/bytealg.MakeNoZero"], unfollowed := true, recurses := true, named := ["virama/gauge.errGauge", "virama/gauge.errText", "virama/seg.errCut", "virama/dfa.errMachine", "virama/dfa.errRule", "virama/width.errWidth", "virama/width.errUtf", "virama/scalar.errUtf", "virama/scalar.errScalar", "virama/width.errScalar", "errors.errorType"], apart := false, laid := [("errors.errorType", laid_errors_errorType), ("virama/scalar.errScalar", laid_virama_scalar_errScalar), ("virama/scalar.errUtf", laid_virama_scalar_errUtf), ("virama/dfa.errRule", laid_virama_dfa_errRule), ("virama/dfa.errMachine", laid_virama_dfa_errMachine), ("virama/seg.errCut", laid_virama_seg_errCut), ("virama/width.errWidth", laid_virama_width_errWidth), ("virama/width.errScalar", laid_virama_width_errScalar), ("virama/width.errUtf", laid_virama_width_errUtf), ("virama/gauge.errGauge", laid_virama_gauge_errGauge), ("virama/gauge.errText", laid_virama_gauge_errText)] }
def GaugeWithSaid : Prop := gaugeWithRow.holds Tryz.pinned (OpenSpec.ofChange gaugeWithSpec)

/-- ITS FALSE NEIGHBOUR: 'it returns false'. Refute it at one input. -/
def gaugeWithWrong : ChangeSpec := { name := "gaugeWith", fn := fun _ => fun
  | [d1, d2, d3, d4] => { results := [.lit (.bool false)], args := [d1, d2, d3, d4] }
  | _ => none }
def GaugeWithWrongFalsely : Prop := gaugeWithRow.holds Tryz.pinned (OpenSpec.ofChange gaugeWithWrong)

/-- 'viramalaw18.GaugeSums': WHATEVER THE INPUT: true; the input reads as it did. -/
def gaugeSumsSpec : ChangeSpec := { name := "gaugeSums", fn := fun _ => fun
  | [d1, d2] => { results := [.lit (.bool true)], args := [d1, d2] }
  | _ => none }
def gaugeSumsRow : OpenClaim := { program := "ytdenoeakcflnmaagreatdoor", sum := "59dedbcbead644cbb297ade9952950b0d492af7ab7bf8329611d06e51da7c552", func := "virama/viramalaw18.GaugeSums", spec := "gaugeSums", inPlace := ["internal/reflectlite.TypeOf", "internal/abi.NoEscape", "internal/reflectlite.ValueOf", "(internal/reflectlite.Value).Type", "(internal/reflectlite.Value).IsNil", "(internal/reflectlite.Value).Elem", "(internal/reflectlite.Value).Set", "internal/bytealg.MakeNoZero"], unfollowed := true, recurses := true, named := ["virama/gauge.errGauge", "virama/gauge.errText", "virama/seg.errCut", "virama/dfa.errMachine", "virama/dfa.errRule", "virama/width.errWidth", "virama/width.errUtf", "virama/scalar.errUtf", "virama/scalar.errScalar", "virama/width.errScalar", "errors.errorType"], apart := false, laid := [("errors.errorType", laid_errors_errorType), ("virama/scalar.errScalar", laid_virama_scalar_errScalar), ("virama/scalar.errUtf", laid_virama_scalar_errUtf), ("virama/dfa.errRule", laid_virama_dfa_errRule), ("virama/dfa.errMachine", laid_virama_dfa_errMachine), ("virama/seg.errCut", laid_virama_seg_errCut), ("virama/width.errWidth", laid_virama_width_errWidth), ("virama/width.errScalar", laid_virama_width_errScalar), ("virama/width.errUtf", laid_virama_width_errUtf), ("virama/gauge.errGauge", laid_virama_gauge_errGauge), ("virama/gauge.errText", laid_virama_gauge_errText)] }
def GaugeSumsSaid : Prop := gaugeSumsRow.holds Tryz.pinned (OpenSpec.ofChange gaugeSumsSpec)

/-- ITS FALSE NEIGHBOUR: 'it returns false'. Refute it at one input. -/
def gaugeSumsWrong : ChangeSpec := { name := "gaugeSums", fn := fun _ => fun
  | [d1, d2] => { results := [.lit (.bool false)], args := [d1, d2] }
  | _ => none }
def GaugeSumsWrongFalsely : Prop := gaugeSumsRow.holds Tryz.pinned (OpenSpec.ofChange gaugeSumsWrong)

/-- 'viramalaw18.GaugeGoes': WHATEVER THE INPUT: true; the input reads as it did. -/
def gaugeGoesSpec : ChangeSpec := { name := "gaugeGoes", fn := fun _ => fun
  | [d1, d2, d3, d4] => { results := [.lit (.bool true)], args := [d1, d2, d3, d4] }
  | _ => none }
def gaugeGoesRow : OpenClaim := { program := "ytdenoeakcflnmaagreatdoor", sum := "59dedbcbead644cbb297ade9952950b0d492af7ab7bf8329611d06e51da7c552", func := "virama/viramalaw18.GaugeGoes", spec := "gaugeGoes", inPlace := ["internal/reflectlite.TypeOf", "internal/abi.NoEscape", "internal/reflectlite.ValueOf", "(internal/reflectlite.Value).Type", "(internal/reflectlite.Value).IsNil", "(internal/reflectlite.Value).Elem", "(internal/reflectlite.Value).Set", "internal/bytealg.MakeNoZero"], unfollowed := true, recurses := true, named := ["virama/gauge.errGauge", "virama/gauge.errText", "virama/seg.errCut", "virama/dfa.errMachine", "virama/dfa.errRule", "virama/width.errWidth", "virama/width.errUtf", "virama/scalar.errUtf", "virama/scalar.errScalar", "virama/width.errScalar", "errors.errorType"], apart := false, laid := [("errors.errorType", laid_errors_errorType), ("virama/scalar.errScalar", laid_virama_scalar_errScalar), ("virama/scalar.errUtf", laid_virama_scalar_errUtf), ("virama/dfa.errRule", laid_virama_dfa_errRule), ("virama/dfa.errMachine", laid_virama_dfa_errMachine), ("virama/seg.errCut", laid_virama_seg_errCut), ("virama/width.errWidth", laid_virama_width_errWidth), ("virama/width.errScalar", laid_virama_width_errScalar), ("virama/width.errUtf", laid_virama_width_errUtf), ("virama/gauge.errGauge", laid_virama_gauge_errGauge), ("virama/gauge.errText", laid_virama_gauge_errText)] }
def GaugeGoesSaid : Prop := gaugeGoesRow.holds Tryz.pinned (OpenSpec.ofChange gaugeGoesSpec)

/-- ITS FALSE NEIGHBOUR: 'it returns false'. Refute it at one input. -/
def gaugeGoesWrong : ChangeSpec := { name := "gaugeGoes", fn := fun _ => fun
  | [d1, d2, d3, d4] => { results := [.lit (.bool false)], args := [d1, d2, d3, d4] }
  | _ => none }
def GaugeGoesWrongFalsely : Prop := gaugeGoesRow.holds Tryz.pinned (OpenSpec.ofChange gaugeGoesWrong)

/-- 'viramalaw18.GaugeAny': WHATEVER THE INPUT: true; the input reads as it did. -/
def gaugeAnySpec : ChangeSpec := { name := "gaugeAny", fn := fun _ => fun
  | [d1, d2, d3, d4, d5] => { results := [.lit (.bool true)], args := [d1, d2, d3, d4, d5] }
  | _ => none }
def gaugeAnyRow : OpenClaim := { program := "ytdenoeakcflnmaagreatdoor", sum := "59dedbcbead644cbb297ade9952950b0d492af7ab7bf8329611d06e51da7c552", func := "virama/viramalaw18.GaugeAny", spec := "gaugeAny", inPlace := ["internal/reflectlite.TypeOf", "internal/abi.NoEscape", "internal/reflectlite.ValueOf", "(internal/reflectlite.Value).Type", "(internal/reflectlite.Value).IsNil", "(internal/reflectlite.Value).Elem", "(internal/reflectlite.Value).Set", "internal/bytealg.MakeNoZero"], unfollowed := true, recurses := true, named := ["virama/gauge.errGauge", "virama/gauge.errText", "virama/seg.errCut", "virama/dfa.errMachine", "virama/dfa.errRule", "virama/width.errWidth", "virama/width.errUtf", "virama/scalar.errUtf", "virama/scalar.errScalar", "virama/width.errScalar", "errors.errorType"], apart := false, laid := [("errors.errorType", laid_errors_errorType), ("virama/scalar.errScalar", laid_virama_scalar_errScalar), ("virama/scalar.errUtf", laid_virama_scalar_errUtf), ("virama/dfa.errRule", laid_virama_dfa_errRule), ("virama/dfa.errMachine", laid_virama_dfa_errMachine), ("virama/seg.errCut", laid_virama_seg_errCut), ("virama/width.errWidth", laid_virama_width_errWidth), ("virama/width.errScalar", laid_virama_width_errScalar), ("virama/width.errUtf", laid_virama_width_errUtf), ("virama/gauge.errGauge", laid_virama_gauge_errGauge), ("virama/gauge.errText", laid_virama_gauge_errText)] }
def GaugeAnySaid : Prop := gaugeAnyRow.holds Tryz.pinned (OpenSpec.ofChange gaugeAnySpec)

/-- ITS FALSE NEIGHBOUR: 'it returns false'. Refute it at one input. -/
def gaugeAnyWrong : ChangeSpec := { name := "gaugeAny", fn := fun _ => fun
  | [d1, d2, d3, d4, d5] => { results := [.lit (.bool false)], args := [d1, d2, d3, d4, d5] }
  | _ => none }
def GaugeAnyWrongFalsely : Prop := gaugeAnyRow.holds Tryz.pinned (OpenSpec.ofChange gaugeAnyWrong)

/-- 'viramalaw18.GaugeMeasures': WHATEVER THE INPUT: true; the input reads as it did. -/
def gaugeMeasuresSpec : ChangeSpec := { name := "gaugeMeasures", fn := fun _ => fun
  | [d1, d2, d3] => { results := [.lit (.bool true)], args := [d1, d2, d3] }
  | _ => none }
def gaugeMeasuresRow : OpenClaim := { program := "ytdenoeakcflnmaagreatdoor", sum := "59dedbcbead644cbb297ade9952950b0d492af7ab7bf8329611d06e51da7c552", func := "virama/viramalaw18.GaugeMeasures", spec := "gaugeMeasures", inPlace := ["internal/reflectlite.TypeOf", "internal/abi.NoEscape", "internal/reflectlite.ValueOf", "(internal/reflectlite.Value).Type", "(internal/reflectlite.Value).IsNil", "(internal/reflectlite.Value).Elem", "(internal/reflectlite.Value).Set", "internal/bytealg.MakeNoZero"], unfollowed := true, recurses := true, named := ["virama/gauge.errGauge", "virama/gauge.errText", "virama/seg.errCut", "virama/dfa.errMachine", "virama/dfa.errRule", "virama/width.errWidth", "virama/width.errUtf", "virama/scalar.errUtf", "virama/scalar.errScalar", "virama/width.errScalar", "errors.errorType"], apart := false, laid := [("errors.errorType", laid_errors_errorType), ("virama/scalar.errScalar", laid_virama_scalar_errScalar), ("virama/scalar.errUtf", laid_virama_scalar_errUtf), ("virama/dfa.errRule", laid_virama_dfa_errRule), ("virama/dfa.errMachine", laid_virama_dfa_errMachine), ("virama/seg.errCut", laid_virama_seg_errCut), ("virama/width.errWidth", laid_virama_width_errWidth), ("virama/width.errScalar", laid_virama_width_errScalar), ("virama/width.errUtf", laid_virama_width_errUtf), ("virama/gauge.errGauge", laid_virama_gauge_errGauge), ("virama/gauge.errText", laid_virama_gauge_errText)] }
def GaugeMeasuresSaid : Prop := gaugeMeasuresRow.holds Tryz.pinned (OpenSpec.ofChange gaugeMeasuresSpec)

/-- ITS FALSE NEIGHBOUR: 'it returns false'. Refute it at one input. -/
def gaugeMeasuresWrong : ChangeSpec := { name := "gaugeMeasures", fn := fun _ => fun
  | [d1, d2, d3] => { results := [.lit (.bool false)], args := [d1, d2, d3] }
  | _ => none }
def GaugeMeasuresWrongFalsely : Prop := gaugeMeasuresRow.holds Tryz.pinned (OpenSpec.ofChange gaugeMeasuresWrong)

/-- 'viramalaw18.GaugeFits': WHATEVER THE INPUT: true; the input reads as it did. -/
def gaugeFitsSpec : ChangeSpec := { name := "gaugeFits", fn := fun _ => fun
  | [d1, d2, d3] => { results := [.lit (.bool true)], args := [d1, d2, d3] }
  | _ => none }
def gaugeFitsRow : OpenClaim := { program := "ytdenoeakcflnmaagreatdoor", sum := "59dedbcbead644cbb297ade9952950b0d492af7ab7bf8329611d06e51da7c552", func := "virama/viramalaw18.GaugeFits", spec := "gaugeFits", inPlace := ["internal/reflectlite.TypeOf", "internal/abi.NoEscape", "internal/reflectlite.ValueOf", "(internal/reflectlite.Value).Type", "(internal/reflectlite.Value).IsNil", "(internal/reflectlite.Value).Elem", "(internal/reflectlite.Value).Set", "internal/bytealg.MakeNoZero"], unfollowed := true, recurses := true, named := ["virama/gauge.errGauge", "virama/gauge.errText", "virama/seg.errCut", "virama/dfa.errMachine", "virama/dfa.errRule", "virama/width.errWidth", "virama/width.errUtf", "virama/scalar.errUtf", "virama/scalar.errScalar", "virama/width.errScalar", "errors.errorType"], apart := false, laid := [("errors.errorType", laid_errors_errorType), ("virama/scalar.errScalar", laid_virama_scalar_errScalar), ("virama/scalar.errUtf", laid_virama_scalar_errUtf), ("virama/dfa.errRule", laid_virama_dfa_errRule), ("virama/dfa.errMachine", laid_virama_dfa_errMachine), ("virama/seg.errCut", laid_virama_seg_errCut), ("virama/width.errWidth", laid_virama_width_errWidth), ("virama/width.errScalar", laid_virama_width_errScalar), ("virama/width.errUtf", laid_virama_width_errUtf), ("virama/gauge.errGauge", laid_virama_gauge_errGauge), ("virama/gauge.errText", laid_virama_gauge_errText)] }
def GaugeFitsSaid : Prop := gaugeFitsRow.holds Tryz.pinned (OpenSpec.ofChange gaugeFitsSpec)

/-- ITS FALSE NEIGHBOUR: 'it returns false'. Refute it at one input. -/
def gaugeFitsWrong : ChangeSpec := { name := "gaugeFits", fn := fun _ => fun
  | [d1, d2, d3] => { results := [.lit (.bool false)], args := [d1, d2, d3] }
  | _ => none }
def GaugeFitsWrongFalsely : Prop := gaugeFitsRow.holds Tryz.pinned (OpenSpec.ofChange gaugeFitsWrong)

/-- 'viramalaw18.GaugeHeads': WHATEVER THE INPUT: true; the input reads as it did. -/
def gaugeHeadsSpec : ChangeSpec := { name := "gaugeHeads", fn := fun _ => fun
  | [d1, d2, d3] => { results := [.lit (.bool true)], args := [d1, d2, d3] }
  | _ => none }
def gaugeHeadsRow : OpenClaim := { program := "ytdenoeakcflnmaagreatdoor", sum := "59dedbcbead644cbb297ade9952950b0d492af7ab7bf8329611d06e51da7c552", func := "virama/viramalaw18.GaugeHeads", spec := "gaugeHeads", inPlace := ["internal/reflectlite.TypeOf", "internal/abi.NoEscape", "internal/reflectlite.ValueOf", "(internal/reflectlite.Value).Type", "(internal/reflectlite.Value).IsNil", "(internal/reflectlite.Value).Elem", "(internal/reflectlite.Value).Set", "internal/bytealg.MakeNoZero"], unfollowed := true, recurses := true, named := ["virama/gauge.errGauge", "virama/gauge.errText", "virama/seg.errCut", "virama/dfa.errMachine", "virama/dfa.errRule", "virama/width.errWidth", "virama/width.errUtf", "virama/scalar.errUtf", "virama/scalar.errScalar", "virama/width.errScalar", "errors.errorType"], apart := false, laid := [("errors.errorType", laid_errors_errorType), ("virama/scalar.errScalar", laid_virama_scalar_errScalar), ("virama/scalar.errUtf", laid_virama_scalar_errUtf), ("virama/dfa.errRule", laid_virama_dfa_errRule), ("virama/dfa.errMachine", laid_virama_dfa_errMachine), ("virama/seg.errCut", laid_virama_seg_errCut), ("virama/width.errWidth", laid_virama_width_errWidth), ("virama/width.errScalar", laid_virama_width_errScalar), ("virama/width.errUtf", laid_virama_width_errUtf), ("virama/gauge.errGauge", laid_virama_gauge_errGauge), ("virama/gauge.errText", laid_virama_gauge_errText)] }
def GaugeHeadsSaid : Prop := gaugeHeadsRow.holds Tryz.pinned (OpenSpec.ofChange gaugeHeadsSpec)

/-- ITS FALSE NEIGHBOUR: 'it returns false'. Refute it at one input. -/
def gaugeHeadsWrong : ChangeSpec := { name := "gaugeHeads", fn := fun _ => fun
  | [d1, d2, d3] => { results := [.lit (.bool false)], args := [d1, d2, d3] }
  | _ => none }
def GaugeHeadsWrongFalsely : Prop := gaugeHeadsRow.holds Tryz.pinned (OpenSpec.ofChange gaugeHeadsWrong)

/-- 'viramalaw18.GaugeKinds': WHATEVER THE INPUT: true; the input reads as it did. -/
def gaugeKindsSpec : ChangeSpec := { name := "gaugeKinds", fn := fun _ => fun
  | [d1, d2] => { results := [.lit (.bool true)], args := [d1, d2] }
  | _ => none }
def gaugeKindsRow : OpenClaim := { program := "ytdenoeakcflnmaagreatdoor", sum := "59dedbcbead644cbb297ade9952950b0d492af7ab7bf8329611d06e51da7c552", func := "virama/viramalaw18.GaugeKinds", spec := "gaugeKinds", inPlace := ["internal/reflectlite.TypeOf", "internal/abi.NoEscape", "internal/reflectlite.ValueOf", "(internal/reflectlite.Value).Type", "(internal/reflectlite.Value).IsNil", "(internal/reflectlite.Value).Elem", "(internal/reflectlite.Value).Set", "internal/bytealg.MakeNoZero"], unfollowed := true, recurses := true, named := ["virama/gauge.errGauge", "virama/gauge.errText", "virama/seg.errCut", "virama/dfa.errMachine", "virama/dfa.errRule", "virama/width.errWidth", "virama/width.errUtf", "virama/scalar.errUtf", "virama/scalar.errScalar", "virama/width.errScalar", "errors.errorType"], apart := false, laid := [("errors.errorType", laid_errors_errorType), ("virama/scalar.errScalar", laid_virama_scalar_errScalar), ("virama/scalar.errUtf", laid_virama_scalar_errUtf), ("virama/dfa.errRule", laid_virama_dfa_errRule), ("virama/dfa.errMachine", laid_virama_dfa_errMachine), ("virama/seg.errCut", laid_virama_seg_errCut), ("virama/width.errWidth", laid_virama_width_errWidth), ("virama/width.errScalar", laid_virama_width_errScalar), ("virama/width.errUtf", laid_virama_width_errUtf), ("virama/gauge.errGauge", laid_virama_gauge_errGauge), ("virama/gauge.errText", laid_virama_gauge_errText)] }
def GaugeKindsSaid : Prop := gaugeKindsRow.holds Tryz.pinned (OpenSpec.ofChange gaugeKindsSpec)

/-- ITS FALSE NEIGHBOUR: 'it returns false'. Refute it at one input. -/
def gaugeKindsWrong : ChangeSpec := { name := "gaugeKinds", fn := fun _ => fun
  | [d1, d2] => { results := [.lit (.bool false)], args := [d1, d2] }
  | _ => none }
def GaugeKindsWrongFalsely : Prop := gaugeKindsRow.holds Tryz.pinned (OpenSpec.ofChange gaugeKindsWrong)

/- THE SECOND FORM. 'bulk': how many values and letters a reading holds, each counted each time it is reached (what is shared counts as often as it is met; a slice's spare places count too). A statement '..UptoSaid' is the law's where the arguments, and the package variables that the reading takes, are together of bulk at most 1048576: NARROWER than '..Said'. Prove '..Said' where nothing that the law and all that it calls make is longer than what came in: it says more and counts as full. Else prove '..UptoSaid'. A law counts once. -/
mutual
def uptoBulk {H : Type} : DataW H → Nat
  | .lit (.string bytes) => bytes.length + 1
  | .lit _ => 1
  | .nil => 1
  | .ptr d => uptoBulk d + 1
  | .slice elems spare => uptoBulkAll elems + uptoBulkAll spare + 1
  | .agg parts => uptoBulkAll parts + 1
  | .iface _ d => uptoBulk d + 1
  | .map entries => uptoBulkEntries entries + 1
  | .held _ => 1
def uptoBulkAll {H : Type} : List (DataW H) → Nat
  | [] => 0
  | d :: r => uptoBulk d + uptoBulkAll r
def uptoBulkEntries {H : Type} : List (Lit × DataW H) → Nat
  | [] => 0
  | x :: r => uptoBulkEntry x + uptoBulkEntries r
def uptoBulkEntry {H : Type} : Lit × DataW H → Nat
  | (.string bytes, d) => bytes.length + uptoBulk d + 1
  | (_, d) => uptoBulk d + 1
 end
def uptoSmall : (H : Type) → List (DataW H) → Bool := fun _ ds => decide (uptoBulkAll ds ≤ 1048576)
def OpenSpec.upto (s : _root_.Go.ChangeSpec) : _root_.Go.OpenSpec := { _root_.Go.OpenSpec.ofChange s with cond := some uptoSmall }

/-- 'viramalaw18.GaugeWith', WHERE WHAT IT READS IS OF BULK AT MOST 1048576: true; the input reads as it did. -/
def gaugeWithUptoRow : OpenClaim := { program := "ytdenoeakcflnmaagreatdoor", sum := "59dedbcbead644cbb297ade9952950b0d492af7ab7bf8329611d06e51da7c552", func := "virama/viramalaw18.GaugeWith", spec := "gaugeWith", inPlace := ["internal/reflectlite.TypeOf", "internal/abi.NoEscape", "internal/reflectlite.ValueOf", "(internal/reflectlite.Value).Type", "(internal/reflectlite.Value).IsNil", "(internal/reflectlite.Value).Elem", "(internal/reflectlite.Value).Set", "internal/bytealg.MakeNoZero"], unfollowed := true, recurses := true, named := ["virama/gauge.errGauge", "virama/gauge.errText", "virama/seg.errCut", "virama/dfa.errMachine", "virama/dfa.errRule", "virama/width.errWidth", "virama/width.errUtf", "virama/scalar.errUtf", "virama/scalar.errScalar", "virama/width.errScalar", "errors.errorType"], apart := false, laid := [("errors.errorType", laid_errors_errorType), ("virama/scalar.errScalar", laid_virama_scalar_errScalar), ("virama/scalar.errUtf", laid_virama_scalar_errUtf), ("virama/dfa.errRule", laid_virama_dfa_errRule), ("virama/dfa.errMachine", laid_virama_dfa_errMachine), ("virama/seg.errCut", laid_virama_seg_errCut), ("virama/width.errWidth", laid_virama_width_errWidth), ("virama/width.errScalar", laid_virama_width_errScalar), ("virama/width.errUtf", laid_virama_width_errUtf), ("virama/gauge.errGauge", laid_virama_gauge_errGauge), ("virama/gauge.errText", laid_virama_gauge_errText)], narrowed := true }
def GaugeWithUptoSaid : Prop := gaugeWithUptoRow.holds Tryz.pinned (OpenSpec.upto gaugeWithSpec)

/-- 'viramalaw18.GaugeSums', WHERE WHAT IT READS IS OF BULK AT MOST 1048576: true; the input reads as it did. -/
def gaugeSumsUptoRow : OpenClaim := { program := "ytdenoeakcflnmaagreatdoor", sum := "59dedbcbead644cbb297ade9952950b0d492af7ab7bf8329611d06e51da7c552", func := "virama/viramalaw18.GaugeSums", spec := "gaugeSums", inPlace := ["internal/reflectlite.TypeOf", "internal/abi.NoEscape", "internal/reflectlite.ValueOf", "(internal/reflectlite.Value).Type", "(internal/reflectlite.Value).IsNil", "(internal/reflectlite.Value).Elem", "(internal/reflectlite.Value).Set", "internal/bytealg.MakeNoZero"], unfollowed := true, recurses := true, named := ["virama/gauge.errGauge", "virama/gauge.errText", "virama/seg.errCut", "virama/dfa.errMachine", "virama/dfa.errRule", "virama/width.errWidth", "virama/width.errUtf", "virama/scalar.errUtf", "virama/scalar.errScalar", "virama/width.errScalar", "errors.errorType"], apart := false, laid := [("errors.errorType", laid_errors_errorType), ("virama/scalar.errScalar", laid_virama_scalar_errScalar), ("virama/scalar.errUtf", laid_virama_scalar_errUtf), ("virama/dfa.errRule", laid_virama_dfa_errRule), ("virama/dfa.errMachine", laid_virama_dfa_errMachine), ("virama/seg.errCut", laid_virama_seg_errCut), ("virama/width.errWidth", laid_virama_width_errWidth), ("virama/width.errScalar", laid_virama_width_errScalar), ("virama/width.errUtf", laid_virama_width_errUtf), ("virama/gauge.errGauge", laid_virama_gauge_errGauge), ("virama/gauge.errText", laid_virama_gauge_errText)], narrowed := true }
def GaugeSumsUptoSaid : Prop := gaugeSumsUptoRow.holds Tryz.pinned (OpenSpec.upto gaugeSumsSpec)

/-- 'viramalaw18.GaugeGoes', WHERE WHAT IT READS IS OF BULK AT MOST 1048576: true; the input reads as it did. -/
def gaugeGoesUptoRow : OpenClaim := { program := "ytdenoeakcflnmaagreatdoor", sum := "59dedbcbead644cbb297ade9952950b0d492af7ab7bf8329611d06e51da7c552", func := "virama/viramalaw18.GaugeGoes", spec := "gaugeGoes", inPlace := ["internal/reflectlite.TypeOf", "internal/abi.NoEscape", "internal/reflectlite.ValueOf", "(internal/reflectlite.Value).Type", "(internal/reflectlite.Value).IsNil", "(internal/reflectlite.Value).Elem", "(internal/reflectlite.Value).Set", "internal/bytealg.MakeNoZero"], unfollowed := true, recurses := true, named := ["virama/gauge.errGauge", "virama/gauge.errText", "virama/seg.errCut", "virama/dfa.errMachine", "virama/dfa.errRule", "virama/width.errWidth", "virama/width.errUtf", "virama/scalar.errUtf", "virama/scalar.errScalar", "virama/width.errScalar", "errors.errorType"], apart := false, laid := [("errors.errorType", laid_errors_errorType), ("virama/scalar.errScalar", laid_virama_scalar_errScalar), ("virama/scalar.errUtf", laid_virama_scalar_errUtf), ("virama/dfa.errRule", laid_virama_dfa_errRule), ("virama/dfa.errMachine", laid_virama_dfa_errMachine), ("virama/seg.errCut", laid_virama_seg_errCut), ("virama/width.errWidth", laid_virama_width_errWidth), ("virama/width.errScalar", laid_virama_width_errScalar), ("virama/width.errUtf", laid_virama_width_errUtf), ("virama/gauge.errGauge", laid_virama_gauge_errGauge), ("virama/gauge.errText", laid_virama_gauge_errText)], narrowed := true }
def GaugeGoesUptoSaid : Prop := gaugeGoesUptoRow.holds Tryz.pinned (OpenSpec.upto gaugeGoesSpec)

/-- 'viramalaw18.GaugeAny', WHERE WHAT IT READS IS OF BULK AT MOST 1048576: true; the input reads as it did. -/
def gaugeAnyUptoRow : OpenClaim := { program := "ytdenoeakcflnmaagreatdoor", sum := "59dedbcbead644cbb297ade9952950b0d492af7ab7bf8329611d06e51da7c552", func := "virama/viramalaw18.GaugeAny", spec := "gaugeAny", inPlace := ["internal/reflectlite.TypeOf", "internal/abi.NoEscape", "internal/reflectlite.ValueOf", "(internal/reflectlite.Value).Type", "(internal/reflectlite.Value).IsNil", "(internal/reflectlite.Value).Elem", "(internal/reflectlite.Value).Set", "internal/bytealg.MakeNoZero"], unfollowed := true, recurses := true, named := ["virama/gauge.errGauge", "virama/gauge.errText", "virama/seg.errCut", "virama/dfa.errMachine", "virama/dfa.errRule", "virama/width.errWidth", "virama/width.errUtf", "virama/scalar.errUtf", "virama/scalar.errScalar", "virama/width.errScalar", "errors.errorType"], apart := false, laid := [("errors.errorType", laid_errors_errorType), ("virama/scalar.errScalar", laid_virama_scalar_errScalar), ("virama/scalar.errUtf", laid_virama_scalar_errUtf), ("virama/dfa.errRule", laid_virama_dfa_errRule), ("virama/dfa.errMachine", laid_virama_dfa_errMachine), ("virama/seg.errCut", laid_virama_seg_errCut), ("virama/width.errWidth", laid_virama_width_errWidth), ("virama/width.errScalar", laid_virama_width_errScalar), ("virama/width.errUtf", laid_virama_width_errUtf), ("virama/gauge.errGauge", laid_virama_gauge_errGauge), ("virama/gauge.errText", laid_virama_gauge_errText)], narrowed := true }
def GaugeAnyUptoSaid : Prop := gaugeAnyUptoRow.holds Tryz.pinned (OpenSpec.upto gaugeAnySpec)

/-- 'viramalaw18.GaugeMeasures', WHERE WHAT IT READS IS OF BULK AT MOST 1048576: true; the input reads as it did. -/
def gaugeMeasuresUptoRow : OpenClaim := { program := "ytdenoeakcflnmaagreatdoor", sum := "59dedbcbead644cbb297ade9952950b0d492af7ab7bf8329611d06e51da7c552", func := "virama/viramalaw18.GaugeMeasures", spec := "gaugeMeasures", inPlace := ["internal/reflectlite.TypeOf", "internal/abi.NoEscape", "internal/reflectlite.ValueOf", "(internal/reflectlite.Value).Type", "(internal/reflectlite.Value).IsNil", "(internal/reflectlite.Value).Elem", "(internal/reflectlite.Value).Set", "internal/bytealg.MakeNoZero"], unfollowed := true, recurses := true, named := ["virama/gauge.errGauge", "virama/gauge.errText", "virama/seg.errCut", "virama/dfa.errMachine", "virama/dfa.errRule", "virama/width.errWidth", "virama/width.errUtf", "virama/scalar.errUtf", "virama/scalar.errScalar", "virama/width.errScalar", "errors.errorType"], apart := false, laid := [("errors.errorType", laid_errors_errorType), ("virama/scalar.errScalar", laid_virama_scalar_errScalar), ("virama/scalar.errUtf", laid_virama_scalar_errUtf), ("virama/dfa.errRule", laid_virama_dfa_errRule), ("virama/dfa.errMachine", laid_virama_dfa_errMachine), ("virama/seg.errCut", laid_virama_seg_errCut), ("virama/width.errWidth", laid_virama_width_errWidth), ("virama/width.errScalar", laid_virama_width_errScalar), ("virama/width.errUtf", laid_virama_width_errUtf), ("virama/gauge.errGauge", laid_virama_gauge_errGauge), ("virama/gauge.errText", laid_virama_gauge_errText)], narrowed := true }
def GaugeMeasuresUptoSaid : Prop := gaugeMeasuresUptoRow.holds Tryz.pinned (OpenSpec.upto gaugeMeasuresSpec)

/-- 'viramalaw18.GaugeFits', WHERE WHAT IT READS IS OF BULK AT MOST 1048576: true; the input reads as it did. -/
def gaugeFitsUptoRow : OpenClaim := { program := "ytdenoeakcflnmaagreatdoor", sum := "59dedbcbead644cbb297ade9952950b0d492af7ab7bf8329611d06e51da7c552", func := "virama/viramalaw18.GaugeFits", spec := "gaugeFits", inPlace := ["internal/reflectlite.TypeOf", "internal/abi.NoEscape", "internal/reflectlite.ValueOf", "(internal/reflectlite.Value).Type", "(internal/reflectlite.Value).IsNil", "(internal/reflectlite.Value).Elem", "(internal/reflectlite.Value).Set", "internal/bytealg.MakeNoZero"], unfollowed := true, recurses := true, named := ["virama/gauge.errGauge", "virama/gauge.errText", "virama/seg.errCut", "virama/dfa.errMachine", "virama/dfa.errRule", "virama/width.errWidth", "virama/width.errUtf", "virama/scalar.errUtf", "virama/scalar.errScalar", "virama/width.errScalar", "errors.errorType"], apart := false, laid := [("errors.errorType", laid_errors_errorType), ("virama/scalar.errScalar", laid_virama_scalar_errScalar), ("virama/scalar.errUtf", laid_virama_scalar_errUtf), ("virama/dfa.errRule", laid_virama_dfa_errRule), ("virama/dfa.errMachine", laid_virama_dfa_errMachine), ("virama/seg.errCut", laid_virama_seg_errCut), ("virama/width.errWidth", laid_virama_width_errWidth), ("virama/width.errScalar", laid_virama_width_errScalar), ("virama/width.errUtf", laid_virama_width_errUtf), ("virama/gauge.errGauge", laid_virama_gauge_errGauge), ("virama/gauge.errText", laid_virama_gauge_errText)], narrowed := true }
def GaugeFitsUptoSaid : Prop := gaugeFitsUptoRow.holds Tryz.pinned (OpenSpec.upto gaugeFitsSpec)

/-- 'viramalaw18.GaugeHeads', WHERE WHAT IT READS IS OF BULK AT MOST 1048576: true; the input reads as it did. -/
def gaugeHeadsUptoRow : OpenClaim := { program := "ytdenoeakcflnmaagreatdoor", sum := "59dedbcbead644cbb297ade9952950b0d492af7ab7bf8329611d06e51da7c552", func := "virama/viramalaw18.GaugeHeads", spec := "gaugeHeads", inPlace := ["internal/reflectlite.TypeOf", "internal/abi.NoEscape", "internal/reflectlite.ValueOf", "(internal/reflectlite.Value).Type", "(internal/reflectlite.Value).IsNil", "(internal/reflectlite.Value).Elem", "(internal/reflectlite.Value).Set", "internal/bytealg.MakeNoZero"], unfollowed := true, recurses := true, named := ["virama/gauge.errGauge", "virama/gauge.errText", "virama/seg.errCut", "virama/dfa.errMachine", "virama/dfa.errRule", "virama/width.errWidth", "virama/width.errUtf", "virama/scalar.errUtf", "virama/scalar.errScalar", "virama/width.errScalar", "errors.errorType"], apart := false, laid := [("errors.errorType", laid_errors_errorType), ("virama/scalar.errScalar", laid_virama_scalar_errScalar), ("virama/scalar.errUtf", laid_virama_scalar_errUtf), ("virama/dfa.errRule", laid_virama_dfa_errRule), ("virama/dfa.errMachine", laid_virama_dfa_errMachine), ("virama/seg.errCut", laid_virama_seg_errCut), ("virama/width.errWidth", laid_virama_width_errWidth), ("virama/width.errScalar", laid_virama_width_errScalar), ("virama/width.errUtf", laid_virama_width_errUtf), ("virama/gauge.errGauge", laid_virama_gauge_errGauge), ("virama/gauge.errText", laid_virama_gauge_errText)], narrowed := true }
def GaugeHeadsUptoSaid : Prop := gaugeHeadsUptoRow.holds Tryz.pinned (OpenSpec.upto gaugeHeadsSpec)

/-- 'viramalaw18.GaugeKinds', WHERE WHAT IT READS IS OF BULK AT MOST 1048576: true; the input reads as it did. -/
def gaugeKindsUptoRow : OpenClaim := { program := "ytdenoeakcflnmaagreatdoor", sum := "59dedbcbead644cbb297ade9952950b0d492af7ab7bf8329611d06e51da7c552", func := "virama/viramalaw18.GaugeKinds", spec := "gaugeKinds", inPlace := ["internal/reflectlite.TypeOf", "internal/abi.NoEscape", "internal/reflectlite.ValueOf", "(internal/reflectlite.Value).Type", "(internal/reflectlite.Value).IsNil", "(internal/reflectlite.Value).Elem", "(internal/reflectlite.Value).Set", "internal/bytealg.MakeNoZero"], unfollowed := true, recurses := true, named := ["virama/gauge.errGauge", "virama/gauge.errText", "virama/seg.errCut", "virama/dfa.errMachine", "virama/dfa.errRule", "virama/width.errWidth", "virama/width.errUtf", "virama/scalar.errUtf", "virama/scalar.errScalar", "virama/width.errScalar", "errors.errorType"], apart := false, laid := [("errors.errorType", laid_errors_errorType), ("virama/scalar.errScalar", laid_virama_scalar_errScalar), ("virama/scalar.errUtf", laid_virama_scalar_errUtf), ("virama/dfa.errRule", laid_virama_dfa_errRule), ("virama/dfa.errMachine", laid_virama_dfa_errMachine), ("virama/seg.errCut", laid_virama_seg_errCut), ("virama/width.errWidth", laid_virama_width_errWidth), ("virama/width.errScalar", laid_virama_width_errScalar), ("virama/width.errUtf", laid_virama_width_errUtf), ("virama/gauge.errGauge", laid_virama_gauge_errGauge), ("virama/gauge.errText", laid_virama_gauge_errText)], narrowed := true }
def GaugeKindsUptoSaid : Prop := gaugeKindsUptoRow.holds Tryz.pinned (OpenSpec.upto gaugeKindsSpec)

end Rows
end Go.Proofs.YtdenoeakcflnmaaGreatDoor
