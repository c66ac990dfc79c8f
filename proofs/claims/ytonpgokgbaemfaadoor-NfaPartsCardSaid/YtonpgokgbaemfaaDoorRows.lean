/-
  NARROWER THAN 'FOR EVERY INPUT', by the rows' own cells (each row's printed sentence says how): NfaRuns: laid · NfaUnions: laid · NfaParts: laid · NfaWithin: laid · NfaStart: laid · NfaSteps: laid.
  DERIVED. THE GIVEN ROWS OF THIS SEAT. 6 by the template 'for every input the law returns true; each argument reads behind the call as it read before'; 0 by the template 'total and deterministic' (their statements: YtonpgokgbaemfaaDoorTotals.lean).
  GIVEN WITH THE SEED: the statements are not yours to turn. If you find one false, say at which input.
  Laid BY PROGRAM, IN A SANDBOX (cutbox-rows.mjs): the forced cells as the released guide's own fill.sh prints them over the translation 4c14417ed5d0b72c… (all of the seat's roots in one cut). By AI agents, Wed Nov 11 2026. No macro, syntax, notation, axiom, sorry.
-/
import Derived.Test.YtonpgokgbaemfaaDoorChecked
import GoSem.Claim
import GoSem.ClaimJoined
import GoSem.ClaimMapViews
import Derived.JoinedTies
import Derived.KernelRfl
namespace Go.Proofs.YtonpgokgbaemfaaDoor
/- THE CELL 'sum', in the pinned program and in every row, IS THE sha256 OF THE DUMP (.gsa) THAT YtonpgokgbaemfaaDoorProg.lean LOADS. Nothing in Lean hashes anything: it is a label: what it is worth is what the hold of that sum in a sandbox is worth. -/
noncomputable def Tryd.pinned : Pinned := { name := "ytonpgokgbaemfaadoor", sum := "4c14417ed5d0b72c8ccc84e63f525a2325e2f2e6d3756b3ac061936ae2eec23a", checked := Tryd.checked }
namespace Rows
def none {H : Type} : Left H := { results := [], args := [] }

/- WHAT THE LISTED PACKAGE-LEVEL VARIABLES READ AS WHEN THE CALL BEGINS. Each datum BY PROGRAM (the guide's laid-datum.mjs) off the statement by which the dump's own 'gosem.cut.vars' lays the variable. In a bare row this is a premise. The card (YtonpgokgbaemfaaDoorCards.lean) ties it to the program's text. -/
def laid_virama_nfa_errPattern {H : Type} : DataW H := .iface "*errors.errorString" (.ptr (.agg [.lit (.string [110, 111, 32, 112, 97, 116, 116, 101, 114, 110])]))

/-- 'viramalaw10.NfaRuns': WHATEVER THE INPUT: true; the input reads as it did. -/
def nfaRunsSpec : ChangeSpec := { name := "nfaRuns", fn := fun _ => fun
  | [d1, d2] => { results := [.lit (.bool true)], args := [d1, d2] }
  | _ => none }
def nfaRunsRow : OpenClaim := { program := "ytonpgokgbaemfaadoor", sum := "4c14417ed5d0b72c8ccc84e63f525a2325e2f2e6d3756b3ac061936ae2eec23a", func := "virama/viramalaw10.NfaRuns", spec := "nfaRuns", inPlace := ["internal/reflectlite.TypeOf"], unfollowed := true, recurses := true, named := ["virama/nfa.errPattern"], apart := false, laid := [("virama/nfa.errPattern", laid_virama_nfa_errPattern)] }
def NfaRunsSaid : Prop := nfaRunsRow.holds Tryd.pinned (OpenSpec.ofChange nfaRunsSpec)

/-- ITS FALSE NEIGHBOUR: 'it returns false'. Refute it at one input. -/
def nfaRunsWrong : ChangeSpec := { name := "nfaRuns", fn := fun _ => fun
  | [d1, d2] => { results := [.lit (.bool false)], args := [d1, d2] }
  | _ => none }
def NfaRunsWrongFalsely : Prop := nfaRunsRow.holds Tryd.pinned (OpenSpec.ofChange nfaRunsWrong)

/-- 'viramalaw10.NfaUnions': WHATEVER THE INPUT: true; the input reads as it did. -/
def nfaUnionsSpec : ChangeSpec := { name := "nfaUnions", fn := fun _ => fun
  | [d1, d2, d3, d4] => { results := [.lit (.bool true)], args := [d1, d2, d3, d4] }
  | _ => none }
def nfaUnionsRow : OpenClaim := { program := "ytonpgokgbaemfaadoor", sum := "4c14417ed5d0b72c8ccc84e63f525a2325e2f2e6d3756b3ac061936ae2eec23a", func := "virama/viramalaw10.NfaUnions", spec := "nfaUnions", inPlace := ["internal/reflectlite.TypeOf"], unfollowed := true, recurses := true, named := ["virama/nfa.errPattern"], apart := false, laid := [("virama/nfa.errPattern", laid_virama_nfa_errPattern)] }
def NfaUnionsSaid : Prop := nfaUnionsRow.holds Tryd.pinned (OpenSpec.ofChange nfaUnionsSpec)

/-- ITS FALSE NEIGHBOUR: 'it returns false'. Refute it at one input. -/
def nfaUnionsWrong : ChangeSpec := { name := "nfaUnions", fn := fun _ => fun
  | [d1, d2, d3, d4] => { results := [.lit (.bool false)], args := [d1, d2, d3, d4] }
  | _ => none }
def NfaUnionsWrongFalsely : Prop := nfaUnionsRow.holds Tryd.pinned (OpenSpec.ofChange nfaUnionsWrong)

/-- 'viramalaw10.NfaParts': WHATEVER THE INPUT: true; the input reads as it did. -/
def nfaPartsSpec : ChangeSpec := { name := "nfaParts", fn := fun _ => fun
  | [d1, d2, d3] => { results := [.lit (.bool true)], args := [d1, d2, d3] }
  | _ => none }
def nfaPartsRow : OpenClaim := { program := "ytonpgokgbaemfaadoor", sum := "4c14417ed5d0b72c8ccc84e63f525a2325e2f2e6d3756b3ac061936ae2eec23a", func := "virama/viramalaw10.NfaParts", spec := "nfaParts", inPlace := ["internal/reflectlite.TypeOf"], unfollowed := true, recurses := true, named := ["virama/nfa.errPattern"], apart := false, laid := [("virama/nfa.errPattern", laid_virama_nfa_errPattern)] }
def NfaPartsSaid : Prop := nfaPartsRow.holds Tryd.pinned (OpenSpec.ofChange nfaPartsSpec)

/-- ITS FALSE NEIGHBOUR: 'it returns false'. Refute it at one input. -/
def nfaPartsWrong : ChangeSpec := { name := "nfaParts", fn := fun _ => fun
  | [d1, d2, d3] => { results := [.lit (.bool false)], args := [d1, d2, d3] }
  | _ => none }
def NfaPartsWrongFalsely : Prop := nfaPartsRow.holds Tryd.pinned (OpenSpec.ofChange nfaPartsWrong)

/-- 'viramalaw10.NfaWithin': WHATEVER THE INPUT: true; the input reads as it did. -/
def nfaWithinSpec : ChangeSpec := { name := "nfaWithin", fn := fun _ => fun
  | [d1, d2] => { results := [.lit (.bool true)], args := [d1, d2] }
  | _ => none }
def nfaWithinRow : OpenClaim := { program := "ytonpgokgbaemfaadoor", sum := "4c14417ed5d0b72c8ccc84e63f525a2325e2f2e6d3756b3ac061936ae2eec23a", func := "virama/viramalaw10.NfaWithin", spec := "nfaWithin", inPlace := ["internal/reflectlite.TypeOf"], unfollowed := true, recurses := true, named := ["virama/nfa.errPattern"], apart := false, laid := [("virama/nfa.errPattern", laid_virama_nfa_errPattern)] }
def NfaWithinSaid : Prop := nfaWithinRow.holds Tryd.pinned (OpenSpec.ofChange nfaWithinSpec)

/-- ITS FALSE NEIGHBOUR: 'it returns false'. Refute it at one input. -/
def nfaWithinWrong : ChangeSpec := { name := "nfaWithin", fn := fun _ => fun
  | [d1, d2] => { results := [.lit (.bool false)], args := [d1, d2] }
  | _ => none }
def NfaWithinWrongFalsely : Prop := nfaWithinRow.holds Tryd.pinned (OpenSpec.ofChange nfaWithinWrong)

/-- 'viramalaw10.NfaStart': WHATEVER THE INPUT: true; the input reads as it did. -/
def nfaStartSpec : ChangeSpec := { name := "nfaStart", fn := fun _ => fun
  | [d1, d2] => { results := [.lit (.bool true)], args := [d1, d2] }
  | _ => none }
def nfaStartRow : OpenClaim := { program := "ytonpgokgbaemfaadoor", sum := "4c14417ed5d0b72c8ccc84e63f525a2325e2f2e6d3756b3ac061936ae2eec23a", func := "virama/viramalaw10.NfaStart", spec := "nfaStart", inPlace := ["internal/reflectlite.TypeOf"], unfollowed := true, recurses := true, named := ["virama/nfa.errPattern"], apart := false, laid := [("virama/nfa.errPattern", laid_virama_nfa_errPattern)] }
def NfaStartSaid : Prop := nfaStartRow.holds Tryd.pinned (OpenSpec.ofChange nfaStartSpec)

/-- ITS FALSE NEIGHBOUR: 'it returns false'. Refute it at one input. -/
def nfaStartWrong : ChangeSpec := { name := "nfaStart", fn := fun _ => fun
  | [d1, d2] => { results := [.lit (.bool false)], args := [d1, d2] }
  | _ => none }
def NfaStartWrongFalsely : Prop := nfaStartRow.holds Tryd.pinned (OpenSpec.ofChange nfaStartWrong)

/-- 'viramalaw10.NfaSteps': WHATEVER THE INPUT: true; the input reads as it did. -/
def nfaStepsSpec : ChangeSpec := { name := "nfaSteps", fn := fun _ => fun
  | [d1, d2, d3] => { results := [.lit (.bool true)], args := [d1, d2, d3] }
  | _ => none }
def nfaStepsRow : OpenClaim := { program := "ytonpgokgbaemfaadoor", sum := "4c14417ed5d0b72c8ccc84e63f525a2325e2f2e6d3756b3ac061936ae2eec23a", func := "virama/viramalaw10.NfaSteps", spec := "nfaSteps", inPlace := ["internal/reflectlite.TypeOf"], unfollowed := true, recurses := true, named := ["virama/nfa.errPattern"], apart := false, laid := [("virama/nfa.errPattern", laid_virama_nfa_errPattern)] }
def NfaStepsSaid : Prop := nfaStepsRow.holds Tryd.pinned (OpenSpec.ofChange nfaStepsSpec)

/-- ITS FALSE NEIGHBOUR: 'it returns false'. Refute it at one input. -/
def nfaStepsWrong : ChangeSpec := { name := "nfaSteps", fn := fun _ => fun
  | [d1, d2, d3] => { results := [.lit (.bool false)], args := [d1, d2, d3] }
  | _ => none }
def NfaStepsWrongFalsely : Prop := nfaStepsRow.holds Tryd.pinned (OpenSpec.ofChange nfaStepsWrong)

/- THE SECOND FORM. 'bulk': how many values and letters a reading holds, each counted each time it is reached (what is shared counts as often as it is met; a slice's spare places count too). A statement '..UptoSaid' is the law's where the arguments, and the package variables that the reading takes, are together of bulk at most 1048576: NARROWER than '..Said'. Prove '..Said' where nothing that the law and all that it calls make is longer than what came in: it says more and counts as full. Else prove '..UptoSaid'. A law counts once. -/
mutual
def uptoBulk {H : Type} : DataW H → Nat
  | .lit (.string bytes) => bytes.length + 1
  | .lit _ => 1
  | .nil => 1
  | .ptr d => uptoBulk d + 1
  | .slice elems spare => uptoBulkAll elems + uptoBulkAll spare + 1
  | .agg parts => uptoBulkAll parts + 1
  | .iface _ d => uptoBulk d + 1
  | .map entries => uptoBulkEntries entries + 1
  | .held _ => 1
def uptoBulkAll {H : Type} : List (DataW H) → Nat
  | [] => 0
  | d :: r => uptoBulk d + uptoBulkAll r
def uptoBulkEntries {H : Type} : List (Lit × DataW H) → Nat
  | [] => 0
  | x :: r => uptoBulkEntry x + uptoBulkEntries r
def uptoBulkEntry {H : Type} : Lit × DataW H → Nat
  | (.string bytes, d) => bytes.length + uptoBulk d + 1
  | (_, d) => uptoBulk d + 1
 end
def uptoSmall : (H : Type) → List (DataW H) → Bool := fun _ ds => decide (uptoBulkAll ds ≤ 1048576)
def OpenSpec.upto (s : _root_.Go.ChangeSpec) : _root_.Go.OpenSpec := { _root_.Go.OpenSpec.ofChange s with cond := some uptoSmall }

/-- 'viramalaw10.NfaRuns', WHERE WHAT IT READS IS OF BULK AT MOST 1048576: true; the input reads as it did. -/
def nfaRunsUptoRow : OpenClaim := { program := "ytonpgokgbaemfaadoor", sum := "4c14417ed5d0b72c8ccc84e63f525a2325e2f2e6d3756b3ac061936ae2eec23a", func := "virama/viramalaw10.NfaRuns", spec := "nfaRuns", inPlace := ["internal/reflectlite.TypeOf"], unfollowed := true, recurses := true, named := ["virama/nfa.errPattern"], apart := false, laid := [("virama/nfa.errPattern", laid_virama_nfa_errPattern)], narrowed := true }
def NfaRunsUptoSaid : Prop := nfaRunsUptoRow.holds Tryd.pinned (OpenSpec.upto nfaRunsSpec)

/-- 'viramalaw10.NfaUnions', WHERE WHAT IT READS IS OF BULK AT MOST 1048576: true; the input reads as it did. -/
def nfaUnionsUptoRow : OpenClaim := { program := "ytonpgokgbaemfaadoor", sum := "4c14417ed5d0b72c8ccc84e63f525a2325e2f2e6d3756b3ac061936ae2eec23a", func := "virama/viramalaw10.NfaUnions", spec := "nfaUnions", inPlace := ["internal/reflectlite.TypeOf"], unfollowed := true, recurses := true, named := ["virama/nfa.errPattern"], apart := false, laid := [("virama/nfa.errPattern", laid_virama_nfa_errPattern)], narrowed := true }
def NfaUnionsUptoSaid : Prop := nfaUnionsUptoRow.holds Tryd.pinned (OpenSpec.upto nfaUnionsSpec)

/-- 'viramalaw10.NfaParts', WHERE WHAT IT READS IS OF BULK AT MOST 1048576: true; the input reads as it did. -/
def nfaPartsUptoRow : OpenClaim := { program := "ytonpgokgbaemfaadoor", sum := "4c14417ed5d0b72c8ccc84e63f525a2325e2f2e6d3756b3ac061936ae2eec23a", func := "virama/viramalaw10.NfaParts", spec := "nfaParts", inPlace := ["internal/reflectlite.TypeOf"], unfollowed := true, recurses := true, named := ["virama/nfa.errPattern"], apart := false, laid := [("virama/nfa.errPattern", laid_virama_nfa_errPattern)], narrowed := true }
def NfaPartsUptoSaid : Prop := nfaPartsUptoRow.holds Tryd.pinned (OpenSpec.upto nfaPartsSpec)

/-- 'viramalaw10.NfaWithin', WHERE WHAT IT READS IS OF BULK AT MOST 1048576: true; the input reads as it did. -/
def nfaWithinUptoRow : OpenClaim := { program := "ytonpgokgbaemfaadoor", sum := "4c14417ed5d0b72c8ccc84e63f525a2325e2f2e6d3756b3ac061936ae2eec23a", func := "virama/viramalaw10.NfaWithin", spec := "nfaWithin", inPlace := ["internal/reflectlite.TypeOf"], unfollowed := true, recurses := true, named := ["virama/nfa.errPattern"], apart := false, laid := [("virama/nfa.errPattern", laid_virama_nfa_errPattern)], narrowed := true }
def NfaWithinUptoSaid : Prop := nfaWithinUptoRow.holds Tryd.pinned (OpenSpec.upto nfaWithinSpec)

/-- 'viramalaw10.NfaStart', WHERE WHAT IT READS IS OF BULK AT MOST 1048576: true; the input reads as it did. -/
def nfaStartUptoRow : OpenClaim := { program := "ytonpgokgbaemfaadoor", sum := "4c14417ed5d0b72c8ccc84e63f525a2325e2f2e6d3756b3ac061936ae2eec23a", func := "virama/viramalaw10.NfaStart", spec := "nfaStart", inPlace := ["internal/reflectlite.TypeOf"], unfollowed := true, recurses := true, named := ["virama/nfa.errPattern"], apart := false, laid := [("virama/nfa.errPattern", laid_virama_nfa_errPattern)], narrowed := true }
def NfaStartUptoSaid : Prop := nfaStartUptoRow.holds Tryd.pinned (OpenSpec.upto nfaStartSpec)

/-- 'viramalaw10.NfaSteps', WHERE WHAT IT READS IS OF BULK AT MOST 1048576: true; the input reads as it did. -/
def nfaStepsUptoRow : OpenClaim := { program := "ytonpgokgbaemfaadoor", sum := "4c14417ed5d0b72c8ccc84e63f525a2325e2f2e6d3756b3ac061936ae2eec23a", func := "virama/viramalaw10.NfaSteps", spec := "nfaSteps", inPlace := ["internal/reflectlite.TypeOf"], unfollowed := true, recurses := true, named := ["virama/nfa.errPattern"], apart := false, laid := [("virama/nfa.errPattern", laid_virama_nfa_errPattern)], narrowed := true }
def NfaStepsUptoSaid : Prop := nfaStepsUptoRow.holds Tryd.pinned (OpenSpec.upto nfaStepsSpec)

end Rows
end Go.Proofs.YtonpgokgbaemfaaDoor
