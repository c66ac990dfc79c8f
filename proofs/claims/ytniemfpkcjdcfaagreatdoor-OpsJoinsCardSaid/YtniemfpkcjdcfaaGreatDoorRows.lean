/-
  NARROWER THAN 'FOR EVERY INPUT', by the rows' own cells (each row's printed sentence says how): OpsJoins: laid.
  DERIVED. THE GIVEN ROWS OF THIS SEAT. 1 by the template 'for every input the law returns true; each argument reads behind the call as it read before'; 0 by the template 'total and deterministic' (their statements: YtniemfpkcjdcfaaGreatDoorTotals.lean).
  GIVEN WITH THE SEED: the statements are not yours to turn. If you find one false, say at which input.
  Laid BY PROGRAM, IN A SANDBOX (cutbox-rows.mjs): the forced cells as the released guide's own fill.sh prints them over the translation 495526afd09a5252… (all of the seat's roots in one cut). By AI agents, Wed Nov 11 2026. No macro, syntax, notation, axiom, sorry.
-/
import Derived.Test.YtniemfpkcjdcfaaGreatDoorChecked
import GoSem.Claim
import GoSem.ClaimJoined
import GoSem.ClaimMapViews
import Derived.JoinedTies
import Derived.KernelRfl
namespace Go.Proofs.YtniemfpkcjdcfaaGreatDoor
/- THE CELL 'sum', in the pinned program and in every row, IS THE sha256 OF THE DUMP (.gsa) THAT YtniemfpkcjdcfaaGreatDoorProg.lean LOADS. Nothing in Lean hashes anything: it is a label: what it is worth is what the hold of that sum in a sandbox is worth. -/
noncomputable def Tryz.pinned : Pinned := { name := "ytniemfpkcjdcfaagreatdoor", sum := "495526afd09a52527cb457a841a60332d20631395a655a2eeb1953f6d82e3ece", checked := Tryz.checked }
namespace Rows
def none {H : Type} : Left H := { results := [], args := [] }

/- WHAT THE LISTED PACKAGE-LEVEL VARIABLES READ AS WHEN THE CALL BEGINS. Each datum BY PROGRAM (the guide's laid-datum.mjs) off the statement by which the dump's own 'gosem.cut.vars' lays the variable. In a bare row this is a premise. The card (YtniemfpkcjdcfaaGreatDoorCards.lean) ties it to the program's text. -/
def laid_errors_errorType {H : Type} : DataW H := .iface "internal/reflectlite.rtype" (.agg [.ptr (.lit (.string [101, 114, 114, 111, 114]))])
def laid_virama_scalar_errScalar {H : Type} : DataW H := .iface "*errors.errorString" (.ptr (.agg [.lit (.string [110, 111, 32, 115, 99, 97, 108, 97, 114])]))
def laid_virama_scalar_errUtf {H : Type} : DataW H := .iface "*errors.errorString" (.ptr (.agg [.lit (.string [110, 111, 116, 32, 119, 101, 108, 108, 45, 102, 111, 114, 109, 101, 100])]))
def laid_virama_dfa_errRule {H : Type} : DataW H := .iface "*errors.errorString" (.ptr (.agg [.lit (.string [110, 111, 32, 114, 117, 108, 101, 115])]))
def laid_virama_dfa_errMachine {H : Type} : DataW H := .iface "*errors.errorString" (.ptr (.agg [.lit (.string [110, 111, 32, 109, 97, 99, 104, 105, 110, 101])]))
def laid_virama_seg_errCut {H : Type} : DataW H := .iface "*errors.errorString" (.ptr (.agg [.lit (.string [110, 111, 32, 99, 117, 116, 115])]))
def laid_virama_title_errCase {H : Type} : DataW H := .iface "*errors.errorString" (.ptr (.agg [.lit (.string [110, 111, 32, 99, 97, 115, 101, 115])]))
def laid_virama_title_errText {H : Type} : DataW H := .iface "*errors.errorString" (.ptr (.agg [.lit (.string [116, 111, 111, 32, 108, 111, 110, 103])]))
def laid_virama_title_errScalar {H : Type} : DataW H := .iface "*errors.errorString" (.ptr (.agg [.lit (.string [110, 111, 32, 115, 99, 97, 108, 97, 114, 115])]))
def laid_virama_title_errPlace {H : Type} : DataW H := .iface "*errors.errorString" (.ptr (.agg [.lit (.string [110, 111, 32, 112, 108, 97, 99, 101])]))
def laid_virama_width_errWidth {H : Type} : DataW H := .iface "*errors.errorString" (.ptr (.agg [.lit (.string [110, 111, 32, 119, 105, 100, 116, 104, 115])]))
def laid_virama_width_errScalar {H : Type} : DataW H := .iface "*errors.errorString" (.ptr (.agg [.lit (.string [110, 111, 32, 115, 99, 97, 108, 97, 114])]))
def laid_virama_width_errUtf {H : Type} : DataW H := .iface "*errors.errorString" (.ptr (.agg [.lit (.string [110, 111, 116, 32, 119, 101, 108, 108, 45, 102, 111, 114, 109, 101, 100])]))
def laid_virama_gauge_errGauge {H : Type} : DataW H := .iface "*errors.errorString" (.ptr (.agg [.lit (.string [110, 111, 32, 103, 97, 117, 103, 101])]))
def laid_virama_gauge_errText {H : Type} : DataW H := .iface "*errors.errorString" (.ptr (.agg [.lit (.string [116, 111, 111, 32, 108, 111, 110, 103])]))

/-- 'viramalaw19.OpsJoins': WHATEVER THE INPUT: true; the input reads as it did. -/
def opsJoinsSpec : ChangeSpec := { name := "opsJoins", fn := fun _ => fun
  | [d1, d2, d3, d4] => { results := [.lit (.bool true)], args := [d1, d2, d3, d4] }
  | _ => none }
def opsJoinsRow : OpenClaim := { program := "ytniemfpkcjdcfaagreatdoor", sum := "495526afd09a52527cb457a841a60332d20631395a655a2eeb1953f6d82e3ece", func := "virama/viramalaw19.OpsJoins", spec := "opsJoins", inPlace := ["internal/reflectlite.TypeOf", "internal/reflectlite.ValueOf", "(internal/reflectlite.Value).Type", "(internal/reflectlite.Value).IsNil", "(internal/reflectlite.Value).Elem", "(internal/reflectlite.Value).Set", "internal/abi.NoEscape", "internal/bytealg.MakeNoZero"], unfollowed := true, recurses := true, named := ["virama/seg.errCut", "virama/dfa.errMachine", "virama/dfa.errRule", "errors.errorType", "virama/gauge.errGauge", "virama/gauge.errText", "virama/width.errWidth", "virama/width.errUtf", "virama/scalar.errUtf", "virama/scalar.errScalar", "virama/width.errScalar", "virama/title.errCase", "virama/title.errText", "virama/title.errScalar", "virama/title.errPlace"], apart := false, laid := [("errors.errorType", laid_errors_errorType), ("virama/scalar.errScalar", laid_virama_scalar_errScalar), ("virama/scalar.errUtf", laid_virama_scalar_errUtf), ("virama/dfa.errRule", laid_virama_dfa_errRule), ("virama/dfa.errMachine", laid_virama_dfa_errMachine), ("virama/seg.errCut", laid_virama_seg_errCut), ("virama/title.errCase", laid_virama_title_errCase), ("virama/title.errText", laid_virama_title_errText), ("virama/title.errScalar", laid_virama_title_errScalar), ("virama/title.errPlace", laid_virama_title_errPlace), ("virama/width.errWidth", laid_virama_width_errWidth), ("virama/width.errScalar", laid_virama_width_errScalar), ("virama/width.errUtf", laid_virama_width_errUtf), ("virama/gauge.errGauge", laid_virama_gauge_errGauge), ("virama/gauge.errText", laid_virama_gauge_errText)] }
def OpsJoinsSaid : Prop := opsJoinsRow.holds Tryz.pinned (OpenSpec.ofChange opsJoinsSpec)

/-- ITS FALSE NEIGHBOUR: 'it returns false'. Refute it at one input. -/
def opsJoinsWrong : ChangeSpec := { name := "opsJoins", fn := fun _ => fun
  | [d1, d2, d3, d4] => { results := [.lit (.bool false)], args := [d1, d2, d3, d4] }
  | _ => none }
def OpsJoinsWrongFalsely : Prop := opsJoinsRow.holds Tryz.pinned (OpenSpec.ofChange opsJoinsWrong)

/- THE SECOND FORM. 'bulk': how many values and letters a reading holds, each counted each time it is reached (what is shared counts as often as it is met; a slice's spare places count too). A statement '..UptoSaid' is the law's where the arguments, and the package variables that the reading takes, are together of bulk at most 1048576: NARROWER than '..Said'. Prove '..Said' where nothing that the law and all that it calls make is longer than what came in: it says more and counts as full. Else prove '..UptoSaid'. A law counts once. -/
mutual
def uptoBulk {H : Type} : DataW H → Nat
  | .lit (.string bytes) => bytes.length + 1
  | .lit _ => 1
  | .nil => 1
  | .ptr d => uptoBulk d + 1
  | .slice elems spare => uptoBulkAll elems + uptoBulkAll spare + 1
  | .agg parts => uptoBulkAll parts + 1
  | .iface _ d => uptoBulk d + 1
  | .map entries => uptoBulkEntries entries + 1
  | .held _ => 1
def uptoBulkAll {H : Type} : List (DataW H) → Nat
  | [] => 0
  | d :: r => uptoBulk d + uptoBulkAll r
def uptoBulkEntries {H : Type} : List (Lit × DataW H) → Nat
  | [] => 0
  | x :: r => uptoBulkEntry x + uptoBulkEntries r
def uptoBulkEntry {H : Type} : Lit × DataW H → Nat
  | (.string bytes, d) => bytes.length + uptoBulk d + 1
  | (_, d) => uptoBulk d + 1
 end
def uptoSmall : (H : Type) → List (DataW H) → Bool := fun _ ds => decide (uptoBulkAll ds ≤ 1048576)
def OpenSpec.upto (s : _root_.Go.ChangeSpec) : _root_.Go.OpenSpec := { _root_.Go.OpenSpec.ofChange s with cond := some uptoSmall }

/-- 'viramalaw19.OpsJoins', WHERE WHAT IT READS IS OF BULK AT MOST 1048576: true; the input reads as it did. -/
def opsJoinsUptoRow : OpenClaim := { program := "ytniemfpkcjdcfaagreatdoor", sum := "495526afd09a52527cb457a841a60332d20631395a655a2eeb1953f6d82e3ece", func := "virama/viramalaw19.OpsJoins", spec := "opsJoins", inPlace := ["internal/reflectlite.TypeOf", "internal/reflectlite.ValueOf", "(internal/reflectlite.Value).Type", "(internal/reflectlite.Value).IsNil", "(internal/reflectlite.Value).Elem", "(internal/reflectlite.Value).Set", "internal/abi.NoEscape", "internal/bytealg.MakeNoZero"], unfollowed := true, recurses := true, named := ["virama/seg.errCut", "virama/dfa.errMachine", "virama/dfa.errRule", "errors.errorType", "virama/gauge.errGauge", "virama/gauge.errText", "virama/width.errWidth", "virama/width.errUtf", "virama/scalar.errUtf", "virama/scalar.errScalar", "virama/width.errScalar", "virama/title.errCase", "virama/title.errText", "virama/title.errScalar", "virama/title.errPlace"], apart := false, laid := [("errors.errorType", laid_errors_errorType), ("virama/scalar.errScalar", laid_virama_scalar_errScalar), ("virama/scalar.errUtf", laid_virama_scalar_errUtf), ("virama/dfa.errRule", laid_virama_dfa_errRule), ("virama/dfa.errMachine", laid_virama_dfa_errMachine), ("virama/seg.errCut", laid_virama_seg_errCut), ("virama/title.errCase", laid_virama_title_errCase), ("virama/title.errText", laid_virama_title_errText), ("virama/title.errScalar", laid_virama_title_errScalar), ("virama/title.errPlace", laid_virama_title_errPlace), ("virama/width.errWidth", laid_virama_width_errWidth), ("virama/width.errScalar", laid_virama_width_errScalar), ("virama/width.errUtf", laid_virama_width_errUtf), ("virama/gauge.errGauge", laid_virama_gauge_errGauge), ("virama/gauge.errText", laid_virama_gauge_errText)], narrowed := true }
def OpsJoinsUptoSaid : Prop := opsJoinsUptoRow.holds Tryz.pinned (OpenSpec.upto opsJoinsSpec)

end Rows
end Go.Proofs.YtniemfpkcjdcfaaGreatDoor
