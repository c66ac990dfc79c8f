/-
  NARROWER THAN 'FOR EVERY INPUT', by the rows' own cells (each row's printed sentence says how): DfaCompiles: laid · DfaParts: laid · DfaLefts: laid · DfaTwice: laid · NfaBehind: laid · DfaReached: laid.
  DERIVED. THE GIVEN ROWS OF THIS SEAT. 6 by the template 'for every input the law returns true; each argument reads behind the call as it read before'; 0 by the template 'total and deterministic' (their statements: YtjemdepcaaadiaaDoorTotals.lean).
  GIVEN WITH THE SEED: the statements are not yours to turn. If you find one false, say at which input.
  Laid BY PROGRAM, IN A SANDBOX (cutbox-rows.mjs): the forced cells as the released guide's own fill.sh prints them over the translation 9e8eb278ece908c3… (all of the seat's roots in one cut). By AI agents, Wed Nov 11 2026. No macro, syntax, notation, axiom, sorry.
-/
import Derived.Test.YtjemdepcaaadiaaDoorChecked
import GoSem.Claim
import GoSem.ClaimJoined
import GoSem.ClaimMapViews
import Derived.JoinedTies
import Derived.KernelRfl
namespace Go.Proofs.YtjemdepcaaadiaaDoor
/- THE CELL 'sum', in the pinned program and in every row, IS THE sha256 OF THE DUMP (.gsa) THAT YtjemdepcaaadiaaDoorProg.lean LOADS. Nothing in Lean hashes anything: it is a label: what it is worth is what the hold of that sum in a sandbox is worth. -/
noncomputable def Tryd.pinned : Pinned := { name := "ytjemdepcaaadiaadoor", sum := "9e8eb278ece908c32ba9479a175fbbf339363883a271afb7f3a3bb7bc3587f00", checked := Tryd.checked }
namespace Rows
def none {H : Type} : Left H := { results := [], args := [] }

/- WHAT THE LISTED PACKAGE-LEVEL VARIABLES READ AS WHEN THE CALL BEGINS. Each datum BY PROGRAM (the guide's laid-datum.mjs) off the statement by which the dump's own 'gosem.cut.vars' lays the variable. In a bare row this is a premise. The card (YtjemdepcaaadiaaDoorCards.lean) ties it to the program's text. -/
def laid_virama_nfa_errPattern {H : Type} : DataW H := .iface "*errors.errorString" (.ptr (.agg [.lit (.string [110, 111, 32, 112, 97, 116, 116, 101, 114, 110])]))
def laid_virama_dfa_errRule {H : Type} : DataW H := .iface "*errors.errorString" (.ptr (.agg [.lit (.string [110, 111, 32, 114, 117, 108, 101, 115])]))
def laid_virama_dfa_errMachine {H : Type} : DataW H := .iface "*errors.errorString" (.ptr (.agg [.lit (.string [110, 111, 32, 109, 97, 99, 104, 105, 110, 101])]))

/-- 'viramalaw12.DfaCompiles': WHATEVER THE INPUT: true; the input reads as it did. -/
def dfaCompilesSpec : ChangeSpec := { name := "dfaCompiles", fn := fun _ => fun
  | [d1, d2] => { results := [.lit (.bool true)], args := [d1, d2] }
  | _ => none }
def dfaCompilesRow : OpenClaim := { program := "ytjemdepcaaadiaadoor", sum := "9e8eb278ece908c32ba9479a175fbbf339363883a271afb7f3a3bb7bc3587f00", func := "virama/viramalaw12.DfaCompiles", spec := "dfaCompiles", inPlace := ["internal/reflectlite.TypeOf"], unfollowed := true, recurses := true, named := ["virama/dfa.errRule", "virama/dfa.errMachine", "virama/nfa.errPattern"], plainKeys := false, apart := false, laid := [("virama/nfa.errPattern", laid_virama_nfa_errPattern), ("virama/dfa.errRule", laid_virama_dfa_errRule), ("virama/dfa.errMachine", laid_virama_dfa_errMachine)] }
def DfaCompilesSaid : Prop := dfaCompilesRow.holds Tryd.pinned (OpenSpec.ofChange dfaCompilesSpec)

/-- ITS FALSE NEIGHBOUR: 'it returns false'. Refute it at one input. -/
def dfaCompilesWrong : ChangeSpec := { name := "dfaCompiles", fn := fun _ => fun
  | [d1, d2] => { results := [.lit (.bool false)], args := [d1, d2] }
  | _ => none }
def DfaCompilesWrongFalsely : Prop := dfaCompilesRow.holds Tryd.pinned (OpenSpec.ofChange dfaCompilesWrong)

/-- 'viramalaw12.DfaParts': WHATEVER THE INPUT: true; the input reads as it did. -/
def dfaPartsSpec : ChangeSpec := { name := "dfaParts", fn := fun _ => fun
  | [d1, d2, d3, d4] => { results := [.lit (.bool true)], args := [d1, d2, d3, d4] }
  | _ => none }
def dfaPartsRow : OpenClaim := { program := "ytjemdepcaaadiaadoor", sum := "9e8eb278ece908c32ba9479a175fbbf339363883a271afb7f3a3bb7bc3587f00", func := "virama/viramalaw12.DfaParts", spec := "dfaParts", inPlace := ["internal/reflectlite.TypeOf"], unfollowed := true, recurses := true, named := ["virama/dfa.errRule", "virama/dfa.errMachine", "virama/nfa.errPattern"], plainKeys := false, apart := false, laid := [("virama/nfa.errPattern", laid_virama_nfa_errPattern), ("virama/dfa.errRule", laid_virama_dfa_errRule), ("virama/dfa.errMachine", laid_virama_dfa_errMachine)] }
def DfaPartsSaid : Prop := dfaPartsRow.holds Tryd.pinned (OpenSpec.ofChange dfaPartsSpec)

/-- ITS FALSE NEIGHBOUR: 'it returns false'. Refute it at one input. -/
def dfaPartsWrong : ChangeSpec := { name := "dfaParts", fn := fun _ => fun
  | [d1, d2, d3, d4] => { results := [.lit (.bool false)], args := [d1, d2, d3, d4] }
  | _ => none }
def DfaPartsWrongFalsely : Prop := dfaPartsRow.holds Tryd.pinned (OpenSpec.ofChange dfaPartsWrong)

/-- 'viramalaw12.DfaLefts': WHATEVER THE INPUT: true; the input reads as it did. -/
def dfaLeftsSpec : ChangeSpec := { name := "dfaLefts", fn := fun _ => fun
  | [d1, d2] => { results := [.lit (.bool true)], args := [d1, d2] }
  | _ => none }
def dfaLeftsRow : OpenClaim := { program := "ytjemdepcaaadiaadoor", sum := "9e8eb278ece908c32ba9479a175fbbf339363883a271afb7f3a3bb7bc3587f00", func := "virama/viramalaw12.DfaLefts", spec := "dfaLefts", inPlace := ["internal/reflectlite.TypeOf"], unfollowed := true, recurses := true, named := ["virama/dfa.errRule", "virama/dfa.errMachine", "virama/nfa.errPattern"], plainKeys := false, apart := false, laid := [("virama/nfa.errPattern", laid_virama_nfa_errPattern), ("virama/dfa.errRule", laid_virama_dfa_errRule), ("virama/dfa.errMachine", laid_virama_dfa_errMachine)] }
def DfaLeftsSaid : Prop := dfaLeftsRow.holds Tryd.pinned (OpenSpec.ofChange dfaLeftsSpec)

/-- ITS FALSE NEIGHBOUR: 'it returns false'. Refute it at one input. -/
def dfaLeftsWrong : ChangeSpec := { name := "dfaLefts", fn := fun _ => fun
  | [d1, d2] => { results := [.lit (.bool false)], args := [d1, d2] }
  | _ => none }
def DfaLeftsWrongFalsely : Prop := dfaLeftsRow.holds Tryd.pinned (OpenSpec.ofChange dfaLeftsWrong)

/-- 'viramalaw12.DfaTwice': WHATEVER THE INPUT: true; the input reads as it did. -/
def dfaTwiceSpec : ChangeSpec := { name := "dfaTwice", fn := fun _ => fun
  | [d1, d2] => { results := [.lit (.bool true)], args := [d1, d2] }
  | _ => none }
def dfaTwiceRow : OpenClaim := { program := "ytjemdepcaaadiaadoor", sum := "9e8eb278ece908c32ba9479a175fbbf339363883a271afb7f3a3bb7bc3587f00", func := "virama/viramalaw12.DfaTwice", spec := "dfaTwice", inPlace := ["internal/reflectlite.TypeOf"], unfollowed := true, recurses := true, named := ["virama/dfa.errRule", "virama/dfa.errMachine", "virama/nfa.errPattern"], plainKeys := false, apart := false, laid := [("virama/nfa.errPattern", laid_virama_nfa_errPattern), ("virama/dfa.errRule", laid_virama_dfa_errRule), ("virama/dfa.errMachine", laid_virama_dfa_errMachine)] }
def DfaTwiceSaid : Prop := dfaTwiceRow.holds Tryd.pinned (OpenSpec.ofChange dfaTwiceSpec)

/-- ITS FALSE NEIGHBOUR: 'it returns false'. Refute it at one input. -/
def dfaTwiceWrong : ChangeSpec := { name := "dfaTwice", fn := fun _ => fun
  | [d1, d2] => { results := [.lit (.bool false)], args := [d1, d2] }
  | _ => none }
def DfaTwiceWrongFalsely : Prop := dfaTwiceRow.holds Tryd.pinned (OpenSpec.ofChange dfaTwiceWrong)

/-- 'viramalaw10.NfaBehind': WHATEVER THE INPUT: true; the input reads as it did. -/
def nfaBehindSpec : ChangeSpec := { name := "nfaBehind", fn := fun _ => fun
  | [d1, d2] => { results := [.lit (.bool true)], args := [d1, d2] }
  | _ => none }
def nfaBehindRow : OpenClaim := { program := "ytjemdepcaaadiaadoor", sum := "9e8eb278ece908c32ba9479a175fbbf339363883a271afb7f3a3bb7bc3587f00", func := "virama/viramalaw10.NfaBehind", spec := "nfaBehind", inPlace := ["internal/reflectlite.TypeOf"], unfollowed := true, recurses := true, named := ["virama/nfa.errPattern"], plainKeys := false, apart := false, laid := [("virama/nfa.errPattern", laid_virama_nfa_errPattern)] }
def NfaBehindSaid : Prop := nfaBehindRow.holds Tryd.pinned (OpenSpec.ofChange nfaBehindSpec)

/-- ITS FALSE NEIGHBOUR: 'it returns false'. Refute it at one input. -/
def nfaBehindWrong : ChangeSpec := { name := "nfaBehind", fn := fun _ => fun
  | [d1, d2] => { results := [.lit (.bool false)], args := [d1, d2] }
  | _ => none }
def NfaBehindWrongFalsely : Prop := nfaBehindRow.holds Tryd.pinned (OpenSpec.ofChange nfaBehindWrong)

/-- 'viramalaw12.DfaReached': WHATEVER THE INPUT: true; the input reads as it did. -/
def dfaReachedSpec : ChangeSpec := { name := "dfaReached", fn := fun _ => fun
  | [d1, d2] => { results := [.lit (.bool true)], args := [d1, d2] }
  | _ => none }
def dfaReachedRow : OpenClaim := { program := "ytjemdepcaaadiaadoor", sum := "9e8eb278ece908c32ba9479a175fbbf339363883a271afb7f3a3bb7bc3587f00", func := "virama/viramalaw12.DfaReached", spec := "dfaReached", inPlace := ["internal/reflectlite.TypeOf"], unfollowed := true, recurses := true, named := ["virama/dfa.errRule", "virama/dfa.errMachine", "virama/nfa.errPattern"], plainKeys := false, apart := false, laid := [("virama/nfa.errPattern", laid_virama_nfa_errPattern), ("virama/dfa.errRule", laid_virama_dfa_errRule), ("virama/dfa.errMachine", laid_virama_dfa_errMachine)] }
def DfaReachedSaid : Prop := dfaReachedRow.holds Tryd.pinned (OpenSpec.ofChange dfaReachedSpec)

/-- ITS FALSE NEIGHBOUR: 'it returns false'. Refute it at one input. -/
def dfaReachedWrong : ChangeSpec := { name := "dfaReached", fn := fun _ => fun
  | [d1, d2] => { results := [.lit (.bool false)], args := [d1, d2] }
  | _ => none }
def DfaReachedWrongFalsely : Prop := dfaReachedRow.holds Tryd.pinned (OpenSpec.ofChange dfaReachedWrong)

/- THE SECOND FORM. 'bulk': how many values and letters a reading holds, each counted each time it is reached (what is shared counts as often as it is met; a slice's spare places count too). A statement '..UptoSaid' is the law's where the arguments, and the package variables that the reading takes, are together of bulk at most 1048576: NARROWER than '..Said'. Prove '..Said' where nothing that the law and all that it calls make is longer than what came in: it says more and counts as full. Else prove '..UptoSaid'. A law counts once. -/
mutual
def uptoBulk {H : Type} : DataW H → Nat
  | .lit (.string bytes) => bytes.length + 1
  | .lit _ => 1
  | .nil => 1
  | .ptr d => uptoBulk d + 1
  | .slice elems spare => uptoBulkAll elems + uptoBulkAll spare + 1
  | .agg parts => uptoBulkAll parts + 1
  | .iface _ d => uptoBulk d + 1
  | .map entries => uptoBulkEntries entries + 1
  | .held _ => 1
def uptoBulkAll {H : Type} : List (DataW H) → Nat
  | [] => 0
  | d :: r => uptoBulk d + uptoBulkAll r
def uptoBulkEntries {H : Type} : List (Lit × DataW H) → Nat
  | [] => 0
  | x :: r => uptoBulkEntry x + uptoBulkEntries r
def uptoBulkEntry {H : Type} : Lit × DataW H → Nat
  | (.string bytes, d) => bytes.length + uptoBulk d + 1
  | (_, d) => uptoBulk d + 1
 end
def uptoSmall : (H : Type) → List (DataW H) → Bool := fun _ ds => decide (uptoBulkAll ds ≤ 1048576)
def OpenSpec.upto (s : _root_.Go.ChangeSpec) : _root_.Go.OpenSpec := { _root_.Go.OpenSpec.ofChange s with cond := some uptoSmall }

/-- 'viramalaw12.DfaCompiles', WHERE WHAT IT READS IS OF BULK AT MOST 1048576: true; the input reads as it did. -/
def dfaCompilesUptoRow : OpenClaim := { program := "ytjemdepcaaadiaadoor", sum := "9e8eb278ece908c32ba9479a175fbbf339363883a271afb7f3a3bb7bc3587f00", func := "virama/viramalaw12.DfaCompiles", spec := "dfaCompiles", inPlace := ["internal/reflectlite.TypeOf"], unfollowed := true, recurses := true, named := ["virama/dfa.errRule", "virama/dfa.errMachine", "virama/nfa.errPattern"], plainKeys := false, apart := false, laid := [("virama/nfa.errPattern", laid_virama_nfa_errPattern), ("virama/dfa.errRule", laid_virama_dfa_errRule), ("virama/dfa.errMachine", laid_virama_dfa_errMachine)], narrowed := true }
def DfaCompilesUptoSaid : Prop := dfaCompilesUptoRow.holds Tryd.pinned (OpenSpec.upto dfaCompilesSpec)

/-- 'viramalaw12.DfaParts', WHERE WHAT IT READS IS OF BULK AT MOST 1048576: true; the input reads as it did. -/
def dfaPartsUptoRow : OpenClaim := { program := "ytjemdepcaaadiaadoor", sum := "9e8eb278ece908c32ba9479a175fbbf339363883a271afb7f3a3bb7bc3587f00", func := "virama/viramalaw12.DfaParts", spec := "dfaParts", inPlace := ["internal/reflectlite.TypeOf"], unfollowed := true, recurses := true, named := ["virama/dfa.errRule", "virama/dfa.errMachine", "virama/nfa.errPattern"], plainKeys := false, apart := false, laid := [("virama/nfa.errPattern", laid_virama_nfa_errPattern), ("virama/dfa.errRule", laid_virama_dfa_errRule), ("virama/dfa.errMachine", laid_virama_dfa_errMachine)], narrowed := true }
def DfaPartsUptoSaid : Prop := dfaPartsUptoRow.holds Tryd.pinned (OpenSpec.upto dfaPartsSpec)

/-- 'viramalaw12.DfaLefts', WHERE WHAT IT READS IS OF BULK AT MOST 1048576: true; the input reads as it did. -/
def dfaLeftsUptoRow : OpenClaim := { program := "ytjemdepcaaadiaadoor", sum := "9e8eb278ece908c32ba9479a175fbbf339363883a271afb7f3a3bb7bc3587f00", func := "virama/viramalaw12.DfaLefts", spec := "dfaLefts", inPlace := ["internal/reflectlite.TypeOf"], unfollowed := true, recurses := true, named := ["virama/dfa.errRule", "virama/dfa.errMachine", "virama/nfa.errPattern"], plainKeys := false, apart := false, laid := [("virama/nfa.errPattern", laid_virama_nfa_errPattern), ("virama/dfa.errRule", laid_virama_dfa_errRule), ("virama/dfa.errMachine", laid_virama_dfa_errMachine)], narrowed := true }
def DfaLeftsUptoSaid : Prop := dfaLeftsUptoRow.holds Tryd.pinned (OpenSpec.upto dfaLeftsSpec)

/-- 'viramalaw12.DfaTwice', WHERE WHAT IT READS IS OF BULK AT MOST 1048576: true; the input reads as it did. -/
def dfaTwiceUptoRow : OpenClaim := { program := "ytjemdepcaaadiaadoor", sum := "9e8eb278ece908c32ba9479a175fbbf339363883a271afb7f3a3bb7bc3587f00", func := "virama/viramalaw12.DfaTwice", spec := "dfaTwice", inPlace := ["internal/reflectlite.TypeOf"], unfollowed := true, recurses := true, named := ["virama/dfa.errRule", "virama/dfa.errMachine", "virama/nfa.errPattern"], plainKeys := false, apart := false, laid := [("virama/nfa.errPattern", laid_virama_nfa_errPattern), ("virama/dfa.errRule", laid_virama_dfa_errRule), ("virama/dfa.errMachine", laid_virama_dfa_errMachine)], narrowed := true }
def DfaTwiceUptoSaid : Prop := dfaTwiceUptoRow.holds Tryd.pinned (OpenSpec.upto dfaTwiceSpec)

/-- 'viramalaw10.NfaBehind', WHERE WHAT IT READS IS OF BULK AT MOST 1048576: true; the input reads as it did. -/
def nfaBehindUptoRow : OpenClaim := { program := "ytjemdepcaaadiaadoor", sum := "9e8eb278ece908c32ba9479a175fbbf339363883a271afb7f3a3bb7bc3587f00", func := "virama/viramalaw10.NfaBehind", spec := "nfaBehind", inPlace := ["internal/reflectlite.TypeOf"], unfollowed := true, recurses := true, named := ["virama/nfa.errPattern"], plainKeys := false, apart := false, laid := [("virama/nfa.errPattern", laid_virama_nfa_errPattern)], narrowed := true }
def NfaBehindUptoSaid : Prop := nfaBehindUptoRow.holds Tryd.pinned (OpenSpec.upto nfaBehindSpec)

/-- 'viramalaw12.DfaReached', WHERE WHAT IT READS IS OF BULK AT MOST 1048576: true; the input reads as it did. -/
def dfaReachedUptoRow : OpenClaim := { program := "ytjemdepcaaadiaadoor", sum := "9e8eb278ece908c32ba9479a175fbbf339363883a271afb7f3a3bb7bc3587f00", func := "virama/viramalaw12.DfaReached", spec := "dfaReached", inPlace := ["internal/reflectlite.TypeOf"], unfollowed := true, recurses := true, named := ["virama/dfa.errRule", "virama/dfa.errMachine", "virama/nfa.errPattern"], plainKeys := false, apart := false, laid := [("virama/nfa.errPattern", laid_virama_nfa_errPattern), ("virama/dfa.errRule", laid_virama_dfa_errRule), ("virama/dfa.errMachine", laid_virama_dfa_errMachine)], narrowed := true }
def DfaReachedUptoSaid : Prop := dfaReachedUptoRow.holds Tryd.pinned (OpenSpec.upto dfaReachedSpec)

end Rows
end Go.Proofs.YtjemdepcaaadiaaDoor
