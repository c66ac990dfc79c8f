/-
  NARROWER THAN 'FOR EVERY INPUT', by the rows' own cells (each row's printed sentence says how): DfaGoes: laid · DfaBehind: laid.
  DERIVED. THE GIVEN ROWS OF THIS SEAT. 2 by the template 'for every input the law returns true; each argument reads behind the call as it read before'; 0 by the template 'total and deterministic' (their statements: YtjemdepcaaadiaaGreatDoorTotals.lean).
  GIVEN WITH THE SEED: the statements are not yours to turn. If you find one false, say at which input.
  Laid BY PROGRAM, IN A SANDBOX (cutbox-rows.mjs): the forced cells as the released guide's own fill.sh prints them over the translation 388002b73a77a75b… (all of the seat's roots in one cut). By AI agents, Wed Nov 11 2026. No macro, syntax, notation, axiom, sorry.
-/
import Derived.Test.YtjemdepcaaadiaaGreatDoorChecked
import GoSem.Claim
import GoSem.ClaimJoined
import GoSem.ClaimMapViews
import Derived.JoinedTies
import Derived.KernelRfl
namespace Go.Proofs.YtjemdepcaaadiaaGreatDoor
/- THE CELL 'sum', in the pinned program and in every row, IS THE sha256 OF THE DUMP (.gsa) THAT YtjemdepcaaadiaaGreatDoorProg.lean LOADS. Nothing in Lean hashes anything: it is a label: what it is worth is what the hold of that sum in a sandbox is worth. -/
noncomputable def Tryz.pinned : Pinned := { name := "ytjemdepcaaadiaagreatdoor", sum := "388002b73a77a75b838882f8161f871ea29981af2e3ecff3cb5ef03ba5114b05", checked := Tryz.checked }
namespace Rows
def none {H : Type} : Left H := { results := [], args := [] }

/- WHAT THE LISTED PACKAGE-LEVEL VARIABLES READ AS WHEN THE CALL BEGINS. Each datum BY PROGRAM (the guide's laid-datum.mjs) off the statement by which the dump's own 'gosem.cut.vars' lays the variable. In a bare row this is a premise. The card (YtjemdepcaaadiaaGreatDoorCards.lean) ties it to the program's text. -/
def laid_virama_nfa_errPattern {H : Type} : DataW H := .iface "*errors.errorString" (.ptr (.agg [.lit (.string [110, 111, 32, 112, 97, 116, 116, 101, 114, 110])]))
def laid_virama_dfa_errRule {H : Type} : DataW H := .iface "*errors.errorString" (.ptr (.agg [.lit (.string [110, 111, 32, 114, 117, 108, 101, 115])]))
def laid_virama_dfa_errMachine {H : Type} : DataW H := .iface "*errors.errorString" (.ptr (.agg [.lit (.string [110, 111, 32, 109, 97, 99, 104, 105, 110, 101])]))

/-- 'viramalaw12.DfaGoes': WHATEVER THE INPUT: true; the input reads as it did. -/
def dfaGoesSpec : ChangeSpec := { name := "dfaGoes", fn := fun _ => fun
  | [d1, d2, d3, d4] => { results := [.lit (.bool true)], args := [d1, d2, d3, d4] }
  | _ => none }
def dfaGoesRow : OpenClaim := { program := "ytjemdepcaaadiaagreatdoor", sum := "388002b73a77a75b838882f8161f871ea29981af2e3ecff3cb5ef03ba5114b05", func := "virama/viramalaw12.DfaGoes", spec := "dfaGoes", inPlace := ["internal/reflectlite.TypeOf"], unfollowed := true, recurses := true, named := ["virama/dfa.errRule", "virama/dfa.errMachine", "virama/nfa.errPattern"], plainKeys := false, apart := false, laid := [("virama/nfa.errPattern", laid_virama_nfa_errPattern), ("virama/dfa.errRule", laid_virama_dfa_errRule), ("virama/dfa.errMachine", laid_virama_dfa_errMachine)] }
def DfaGoesSaid : Prop := dfaGoesRow.holds Tryz.pinned (OpenSpec.ofChange dfaGoesSpec)

/-- ITS FALSE NEIGHBOUR: 'it returns false'. Refute it at one input. -/
def dfaGoesWrong : ChangeSpec := { name := "dfaGoes", fn := fun _ => fun
  | [d1, d2, d3, d4] => { results := [.lit (.bool false)], args := [d1, d2, d3, d4] }
  | _ => none }
def DfaGoesWrongFalsely : Prop := dfaGoesRow.holds Tryz.pinned (OpenSpec.ofChange dfaGoesWrong)

/-- 'viramalaw12.DfaBehind': WHATEVER THE INPUT: true; the input reads as it did. -/
def dfaBehindSpec : ChangeSpec := { name := "dfaBehind", fn := fun _ => fun
  | [d1, d2, d3] => { results := [.lit (.bool true)], args := [d1, d2, d3] }
  | _ => none }
def dfaBehindRow : OpenClaim := { program := "ytjemdepcaaadiaagreatdoor", sum := "388002b73a77a75b838882f8161f871ea29981af2e3ecff3cb5ef03ba5114b05", func := "virama/viramalaw12.DfaBehind", spec := "dfaBehind", inPlace := ["internal/reflectlite.TypeOf"], unfollowed := true, recurses := true, named := ["virama/dfa.errRule", "virama/dfa.errMachine", "virama/nfa.errPattern"], plainKeys := false, apart := false, laid := [("virama/nfa.errPattern", laid_virama_nfa_errPattern), ("virama/dfa.errRule", laid_virama_dfa_errRule), ("virama/dfa.errMachine", laid_virama_dfa_errMachine)] }
def DfaBehindSaid : Prop := dfaBehindRow.holds Tryz.pinned (OpenSpec.ofChange dfaBehindSpec)

/-- ITS FALSE NEIGHBOUR: 'it returns false'. Refute it at one input. -/
def dfaBehindWrong : ChangeSpec := { name := "dfaBehind", fn := fun _ => fun
  | [d1, d2, d3] => { results := [.lit (.bool false)], args := [d1, d2, d3] }
  | _ => none }
def DfaBehindWrongFalsely : Prop := dfaBehindRow.holds Tryz.pinned (OpenSpec.ofChange dfaBehindWrong)

/- THE SECOND FORM. 'bulk': how many values and letters a reading holds, each counted each time it is reached (what is shared counts as often as it is met; a slice's spare places count too). A statement '..UptoSaid' is the law's where the arguments, and the package variables that the reading takes, are together of bulk at most 1048576: NARROWER than '..Said'. Prove '..Said' where nothing that the law and all that it calls make is longer than what came in: it says more and counts as full. Else prove '..UptoSaid'. A law counts once. -/
mutual
def uptoBulk {H : Type} : DataW H → Nat
  | .lit (.string bytes) => bytes.length + 1
  | .lit _ => 1
  | .nil => 1
  | .ptr d => uptoBulk d + 1
  | .slice elems spare => uptoBulkAll elems + uptoBulkAll spare + 1
  | .agg parts => uptoBulkAll parts + 1
  | .iface _ d => uptoBulk d + 1
  | .map entries => uptoBulkEntries entries + 1
  | .held _ => 1
def uptoBulkAll {H : Type} : List (DataW H) → Nat
  | [] => 0
  | d :: r => uptoBulk d + uptoBulkAll r
def uptoBulkEntries {H : Type} : List (Lit × DataW H) → Nat
  | [] => 0
  | x :: r => uptoBulkEntry x + uptoBulkEntries r
def uptoBulkEntry {H : Type} : Lit × DataW H → Nat
  | (.string bytes, d) => bytes.length + uptoBulk d + 1
  | (_, d) => uptoBulk d + 1
 end
def uptoSmall : (H : Type) → List (DataW H) → Bool := fun _ ds => decide (uptoBulkAll ds ≤ 1048576)
def OpenSpec.upto (s : _root_.Go.ChangeSpec) : _root_.Go.OpenSpec := { _root_.Go.OpenSpec.ofChange s with cond := some uptoSmall }

/-- 'viramalaw12.DfaGoes', WHERE WHAT IT READS IS OF BULK AT MOST 1048576: true; the input reads as it did. -/
def dfaGoesUptoRow : OpenClaim := { program := "ytjemdepcaaadiaagreatdoor", sum := "388002b73a77a75b838882f8161f871ea29981af2e3ecff3cb5ef03ba5114b05", func := "virama/viramalaw12.DfaGoes", spec := "dfaGoes", inPlace := ["internal/reflectlite.TypeOf"], unfollowed := true, recurses := true, named := ["virama/dfa.errRule", "virama/dfa.errMachine", "virama/nfa.errPattern"], plainKeys := false, apart := false, laid := [("virama/nfa.errPattern", laid_virama_nfa_errPattern), ("virama/dfa.errRule", laid_virama_dfa_errRule), ("virama/dfa.errMachine", laid_virama_dfa_errMachine)], narrowed := true }
def DfaGoesUptoSaid : Prop := dfaGoesUptoRow.holds Tryz.pinned (OpenSpec.upto dfaGoesSpec)

/-- 'viramalaw12.DfaBehind', WHERE WHAT IT READS IS OF BULK AT MOST 1048576: true; the input reads as it did. -/
def dfaBehindUptoRow : OpenClaim := { program := "ytjemdepcaaadiaagreatdoor", sum := "388002b73a77a75b838882f8161f871ea29981af2e3ecff3cb5ef03ba5114b05", func := "virama/viramalaw12.DfaBehind", spec := "dfaBehind", inPlace := ["internal/reflectlite.TypeOf"], unfollowed := true, recurses := true, named := ["virama/dfa.errRule", "virama/dfa.errMachine", "virama/nfa.errPattern"], plainKeys := false, apart := false, laid := [("virama/nfa.errPattern", laid_virama_nfa_errPattern), ("virama/dfa.errRule", laid_virama_dfa_errRule), ("virama/dfa.errMachine", laid_virama_dfa_errMachine)], narrowed := true }
def DfaBehindUptoSaid : Prop := dfaBehindUptoRow.holds Tryz.pinned (OpenSpec.upto dfaBehindSpec)

end Rows
end Go.Proofs.YtjemdepcaaadiaaGreatDoor
