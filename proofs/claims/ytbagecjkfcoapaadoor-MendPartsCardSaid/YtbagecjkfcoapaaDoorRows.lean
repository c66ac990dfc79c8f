/-
  NARROWER THAN 'FOR EVERY INPUT', by the rows' own cells (each row's printed sentence says how): MendSteps: laid · MendMakes: laid · MendParts: laid · MendJoins: laid · MendWalks: laid · MendRights: laid · MendCounts: laid.
  DERIVED. THE GIVEN ROWS OF THIS SEAT. 7 by the template 'for every input the law returns true; each argument reads behind the call as it read before'; 0 by the template 'total and deterministic' (their statements: YtbagecjkfcoapaaDoorTotals.lean).
  GIVEN WITH THE SEED: the statements are not yours to turn. If you find one false, say at which input.
  Laid BY PROGRAM, IN A SANDBOX (cutbox-rows.mjs): the forced cells as the released guide's own fill.sh prints them over the translation 7ce726e1de5ace6a… (all of the seat's roots in one cut). By AI agents, Wed Nov 11 2026. No macro, syntax, notation, axiom, sorry.
-/
import Derived.Test.YtbagecjkfcoapaaDoorChecked
import GoSem.Claim
import GoSem.ClaimJoined
import GoSem.ClaimMapViews
import Derived.JoinedTies
import Derived.KernelRfl
namespace Go.Proofs.YtbagecjkfcoapaaDoor
/- THE CELL 'sum', in the pinned program and in every row, IS THE sha256 OF THE DUMP (.gsa) THAT YtbagecjkfcoapaaDoorProg.lean LOADS. Nothing in Lean hashes anything: it is a label: what it is worth is what the hold of that sum in a sandbox is worth. -/
noncomputable def Tryd.pinned : Pinned := { name := "ytbagecjkfcoapaadoor", sum := "7ce726e1de5ace6a6f6b52c54963962e1648dc073d7447c8df560e1ec8c25af5", checked := Tryd.checked }
namespace Rows
def none {H : Type} : Left H := { results := [], args := [] }

/- WHAT THE LISTED PACKAGE-LEVEL VARIABLES READ AS WHEN THE CALL BEGINS. Each datum BY PROGRAM (the guide's laid-datum.mjs) off the statement by which the dump's own 'gosem.cut.vars' lays the variable. In a bare row this is a premise. The card (YtbagecjkfcoapaaDoorCards.lean) ties it to the program's text. -/
def laid_virama_scalar_errScalar {H : Type} : DataW H := .iface "*errors.errorString" (.ptr (.agg [.lit (.string [110, 111, 32, 115, 99, 97, 108, 97, 114])]))
def laid_virama_scalar_errUtf {H : Type} : DataW H := .iface "*errors.errorString" (.ptr (.agg [.lit (.string [110, 111, 116, 32, 119, 101, 108, 108, 45, 102, 111, 114, 109, 101, 100])]))
def laid_virama_mend_errPlace {H : Type} : DataW H := .iface "*errors.errorString" (.ptr (.agg [.lit (.string [110, 111, 32, 117, 110, 105, 116])]))

/-- 'viramalaw02.MendSteps': WHATEVER THE INPUT: true; the input reads as it did. -/
def mendStepsSpec : ChangeSpec := { name := "mendSteps", fn := fun _ => fun
  | [d1, d2] => { results := [.lit (.bool true)], args := [d1, d2] }
  | _ => none }
def mendStepsRow : OpenClaim := { program := "ytbagecjkfcoapaadoor", sum := "7ce726e1de5ace6a6f6b52c54963962e1648dc073d7447c8df560e1ec8c25af5", func := "virama/viramalaw02.MendSteps", spec := "mendSteps", inPlace := ["internal/reflectlite.TypeOf", "internal/abi.NoEscape"], unfollowed := true, recurses := true, named := ["virama/scalar.errUtf", "virama/mend.errPlace", "virama/scalar.errScalar"], apart := false, laid := [("virama/scalar.errScalar", laid_virama_scalar_errScalar), ("virama/scalar.errUtf", laid_virama_scalar_errUtf), ("virama/mend.errPlace", laid_virama_mend_errPlace)] }
def MendStepsSaid : Prop := mendStepsRow.holds Tryd.pinned (OpenSpec.ofChange mendStepsSpec)

/-- ITS FALSE NEIGHBOUR: 'it returns false'. Refute it at one input. -/
def mendStepsWrong : ChangeSpec := { name := "mendSteps", fn := fun _ => fun
  | [d1, d2] => { results := [.lit (.bool false)], args := [d1, d2] }
  | _ => none }
def MendStepsWrongFalsely : Prop := mendStepsRow.holds Tryd.pinned (OpenSpec.ofChange mendStepsWrong)

/-- 'viramalaw02.MendMakes': WHATEVER THE INPUT: true; the input reads as it did. -/
def mendMakesSpec : ChangeSpec := { name := "mendMakes", fn := fun _ => fun
  | [d1, d2] => { results := [.lit (.bool true)], args := [d1, d2] }
  | _ => none }
def mendMakesRow : OpenClaim := { program := "ytbagecjkfcoapaadoor", sum := "7ce726e1de5ace6a6f6b52c54963962e1648dc073d7447c8df560e1ec8c25af5", func := "virama/viramalaw02.MendMakes", spec := "mendMakes", inPlace := ["internal/reflectlite.TypeOf", "internal/abi.NoEscape"], unfollowed := true, recurses := true, named := ["virama/scalar.errUtf", "virama/mend.errPlace", "virama/scalar.errScalar"], apart := false, laid := [("virama/scalar.errScalar", laid_virama_scalar_errScalar), ("virama/scalar.errUtf", laid_virama_scalar_errUtf), ("virama/mend.errPlace", laid_virama_mend_errPlace)] }
def MendMakesSaid : Prop := mendMakesRow.holds Tryd.pinned (OpenSpec.ofChange mendMakesSpec)

/-- ITS FALSE NEIGHBOUR: 'it returns false'. Refute it at one input. -/
def mendMakesWrong : ChangeSpec := { name := "mendMakes", fn := fun _ => fun
  | [d1, d2] => { results := [.lit (.bool false)], args := [d1, d2] }
  | _ => none }
def MendMakesWrongFalsely : Prop := mendMakesRow.holds Tryd.pinned (OpenSpec.ofChange mendMakesWrong)

/-- 'viramalaw02.MendParts': WHATEVER THE INPUT: true; the input reads as it did. -/
def mendPartsSpec : ChangeSpec := { name := "mendParts", fn := fun _ => fun
  | [d1, d2] => { results := [.lit (.bool true)], args := [d1, d2] }
  | _ => none }
def mendPartsRow : OpenClaim := { program := "ytbagecjkfcoapaadoor", sum := "7ce726e1de5ace6a6f6b52c54963962e1648dc073d7447c8df560e1ec8c25af5", func := "virama/viramalaw02.MendParts", spec := "mendParts", inPlace := ["internal/reflectlite.TypeOf", "internal/abi.NoEscape"], unfollowed := true, recurses := true, named := ["virama/scalar.errUtf", "virama/mend.errPlace", "virama/scalar.errScalar"], apart := false, laid := [("virama/scalar.errScalar", laid_virama_scalar_errScalar), ("virama/scalar.errUtf", laid_virama_scalar_errUtf), ("virama/mend.errPlace", laid_virama_mend_errPlace)] }
def MendPartsSaid : Prop := mendPartsRow.holds Tryd.pinned (OpenSpec.ofChange mendPartsSpec)

/-- ITS FALSE NEIGHBOUR: 'it returns false'. Refute it at one input. -/
def mendPartsWrong : ChangeSpec := { name := "mendParts", fn := fun _ => fun
  | [d1, d2] => { results := [.lit (.bool false)], args := [d1, d2] }
  | _ => none }
def MendPartsWrongFalsely : Prop := mendPartsRow.holds Tryd.pinned (OpenSpec.ofChange mendPartsWrong)

/-- 'viramalaw02.MendJoins': WHATEVER THE INPUT: true; the input reads as it did. -/
def mendJoinsSpec : ChangeSpec := { name := "mendJoins", fn := fun _ => fun
  | [d1, d2] => { results := [.lit (.bool true)], args := [d1, d2] }
  | _ => none }
def mendJoinsRow : OpenClaim := { program := "ytbagecjkfcoapaadoor", sum := "7ce726e1de5ace6a6f6b52c54963962e1648dc073d7447c8df560e1ec8c25af5", func := "virama/viramalaw02.MendJoins", spec := "mendJoins", inPlace := ["internal/reflectlite.TypeOf", "internal/abi.NoEscape"], unfollowed := true, recurses := true, named := ["virama/scalar.errUtf", "virama/mend.errPlace", "virama/scalar.errScalar"], apart := false, laid := [("virama/scalar.errScalar", laid_virama_scalar_errScalar), ("virama/scalar.errUtf", laid_virama_scalar_errUtf), ("virama/mend.errPlace", laid_virama_mend_errPlace)] }
def MendJoinsSaid : Prop := mendJoinsRow.holds Tryd.pinned (OpenSpec.ofChange mendJoinsSpec)

/-- ITS FALSE NEIGHBOUR: 'it returns false'. Refute it at one input. -/
def mendJoinsWrong : ChangeSpec := { name := "mendJoins", fn := fun _ => fun
  | [d1, d2] => { results := [.lit (.bool false)], args := [d1, d2] }
  | _ => none }
def MendJoinsWrongFalsely : Prop := mendJoinsRow.holds Tryd.pinned (OpenSpec.ofChange mendJoinsWrong)

/-- 'viramalaw02.MendWalks': WHATEVER THE INPUT: true; the input reads as it did. -/
def mendWalksSpec : ChangeSpec := { name := "mendWalks", fn := fun _ => fun
  | [d] => { results := [.lit (.bool true)], args := [d] }
  | _ => none }
def mendWalksRow : OpenClaim := { program := "ytbagecjkfcoapaadoor", sum := "7ce726e1de5ace6a6f6b52c54963962e1648dc073d7447c8df560e1ec8c25af5", func := "virama/viramalaw02.MendWalks", spec := "mendWalks", inPlace := ["internal/reflectlite.TypeOf", "internal/abi.NoEscape"], unfollowed := true, recurses := true, named := ["virama/scalar.errUtf", "virama/mend.errPlace", "virama/scalar.errScalar"], apart := false, laid := [("virama/scalar.errScalar", laid_virama_scalar_errScalar), ("virama/scalar.errUtf", laid_virama_scalar_errUtf), ("virama/mend.errPlace", laid_virama_mend_errPlace)] }
def MendWalksSaid : Prop := mendWalksRow.holds Tryd.pinned (OpenSpec.ofChange mendWalksSpec)

/-- ITS FALSE NEIGHBOUR: 'it returns false'. Refute it at one input. -/
def mendWalksWrong : ChangeSpec := { name := "mendWalks", fn := fun _ => fun
  | [d] => { results := [.lit (.bool false)], args := [d] }
  | _ => none }
def MendWalksWrongFalsely : Prop := mendWalksRow.holds Tryd.pinned (OpenSpec.ofChange mendWalksWrong)

/-- 'viramalaw02.MendRights': WHATEVER THE INPUT: true; the input reads as it did. -/
def mendRightsSpec : ChangeSpec := { name := "mendRights", fn := fun _ => fun
  | [d] => { results := [.lit (.bool true)], args := [d] }
  | _ => none }
def mendRightsRow : OpenClaim := { program := "ytbagecjkfcoapaadoor", sum := "7ce726e1de5ace6a6f6b52c54963962e1648dc073d7447c8df560e1ec8c25af5", func := "virama/viramalaw02.MendRights", spec := "mendRights", inPlace := ["internal/reflectlite.TypeOf", "internal/abi.NoEscape"], unfollowed := true, recurses := true, named := ["virama/scalar.errUtf", "virama/mend.errPlace", "virama/scalar.errScalar"], apart := false, laid := [("virama/scalar.errScalar", laid_virama_scalar_errScalar), ("virama/scalar.errUtf", laid_virama_scalar_errUtf), ("virama/mend.errPlace", laid_virama_mend_errPlace)] }
def MendRightsSaid : Prop := mendRightsRow.holds Tryd.pinned (OpenSpec.ofChange mendRightsSpec)

/-- ITS FALSE NEIGHBOUR: 'it returns false'. Refute it at one input. -/
def mendRightsWrong : ChangeSpec := { name := "mendRights", fn := fun _ => fun
  | [d] => { results := [.lit (.bool false)], args := [d] }
  | _ => none }
def MendRightsWrongFalsely : Prop := mendRightsRow.holds Tryd.pinned (OpenSpec.ofChange mendRightsWrong)

/-- 'viramalaw02.MendCounts': WHATEVER THE INPUT: true; the input reads as it did. -/
def mendCountsSpec : ChangeSpec := { name := "mendCounts", fn := fun _ => fun
  | [d] => { results := [.lit (.bool true)], args := [d] }
  | _ => none }
def mendCountsRow : OpenClaim := { program := "ytbagecjkfcoapaadoor", sum := "7ce726e1de5ace6a6f6b52c54963962e1648dc073d7447c8df560e1ec8c25af5", func := "virama/viramalaw02.MendCounts", spec := "mendCounts", inPlace := ["internal/reflectlite.TypeOf", "internal/abi.NoEscape"], unfollowed := true, recurses := true, named := ["virama/scalar.errUtf", "virama/mend.errPlace", "virama/scalar.errScalar"], apart := false, laid := [("virama/scalar.errScalar", laid_virama_scalar_errScalar), ("virama/scalar.errUtf", laid_virama_scalar_errUtf), ("virama/mend.errPlace", laid_virama_mend_errPlace)] }
def MendCountsSaid : Prop := mendCountsRow.holds Tryd.pinned (OpenSpec.ofChange mendCountsSpec)

/-- ITS FALSE NEIGHBOUR: 'it returns false'. Refute it at one input. -/
def mendCountsWrong : ChangeSpec := { name := "mendCounts", fn := fun _ => fun
  | [d] => { results := [.lit (.bool false)], args := [d] }
  | _ => none }
def MendCountsWrongFalsely : Prop := mendCountsRow.holds Tryd.pinned (OpenSpec.ofChange mendCountsWrong)

/- THE SECOND FORM. 'bulk': how many values and letters a reading holds, each counted each time it is reached (what is shared counts as often as it is met; a slice's spare places count too). A statement '..UptoSaid' is the law's where the arguments, and the package variables that the reading takes, are together of bulk at most 1048576: NARROWER than '..Said'. Prove '..Said' where nothing that the law and all that it calls make is longer than what came in: it says more and counts as full. Else prove '..UptoSaid'. A law counts once. -/
mutual
def uptoBulk {H : Type} : DataW H → Nat
  | .lit (.string bytes) => bytes.length + 1
  | .lit _ => 1
  | .nil => 1
  | .ptr d => uptoBulk d + 1
  | .slice elems spare => uptoBulkAll elems + uptoBulkAll spare + 1
  | .agg parts => uptoBulkAll parts + 1
  | .iface _ d => uptoBulk d + 1
  | .map entries => uptoBulkEntries entries + 1
  | .held _ => 1
def uptoBulkAll {H : Type} : List (DataW H) → Nat
  | [] => 0
  | d :: r => uptoBulk d + uptoBulkAll r
def uptoBulkEntries {H : Type} : List (Lit × DataW H) → Nat
  | [] => 0
  | x :: r => uptoBulkEntry x + uptoBulkEntries r
def uptoBulkEntry {H : Type} : Lit × DataW H → Nat
  | (.string bytes, d) => bytes.length + uptoBulk d + 1
  | (_, d) => uptoBulk d + 1
 end
def uptoSmall : (H : Type) → List (DataW H) → Bool := fun _ ds => decide (uptoBulkAll ds ≤ 1048576)
def OpenSpec.upto (s : _root_.Go.ChangeSpec) : _root_.Go.OpenSpec := { _root_.Go.OpenSpec.ofChange s with cond := some uptoSmall }

/-- 'viramalaw02.MendSteps', WHERE WHAT IT READS IS OF BULK AT MOST 1048576: true; the input reads as it did. -/
def mendStepsUptoRow : OpenClaim := { program := "ytbagecjkfcoapaadoor", sum := "7ce726e1de5ace6a6f6b52c54963962e1648dc073d7447c8df560e1ec8c25af5", func := "virama/viramalaw02.MendSteps", spec := "mendSteps", inPlace := ["internal/reflectlite.TypeOf", "internal/abi.NoEscape"], unfollowed := true, recurses := true, named := ["virama/scalar.errUtf", "virama/mend.errPlace", "virama/scalar.errScalar"], apart := false, laid := [("virama/scalar.errScalar", laid_virama_scalar_errScalar), ("virama/scalar.errUtf", laid_virama_scalar_errUtf), ("virama/mend.errPlace", laid_virama_mend_errPlace)], narrowed := true }
def MendStepsUptoSaid : Prop := mendStepsUptoRow.holds Tryd.pinned (OpenSpec.upto mendStepsSpec)

/-- 'viramalaw02.MendMakes', WHERE WHAT IT READS IS OF BULK AT MOST 1048576: true; the input reads as it did. -/
def mendMakesUptoRow : OpenClaim := { program := "ytbagecjkfcoapaadoor", sum := "7ce726e1de5ace6a6f6b52c54963962e1648dc073d7447c8df560e1ec8c25af5", func := "virama/viramalaw02.MendMakes", spec := "mendMakes", inPlace := ["internal/reflectlite.TypeOf", "internal/abi.NoEscape"], unfollowed := true, recurses := true, named := ["virama/scalar.errUtf", "virama/mend.errPlace", "virama/scalar.errScalar"], apart := false, laid := [("virama/scalar.errScalar", laid_virama_scalar_errScalar), ("virama/scalar.errUtf", laid_virama_scalar_errUtf), ("virama/mend.errPlace", laid_virama_mend_errPlace)], narrowed := true }
def MendMakesUptoSaid : Prop := mendMakesUptoRow.holds Tryd.pinned (OpenSpec.upto mendMakesSpec)

/-- 'viramalaw02.MendParts', WHERE WHAT IT READS IS OF BULK AT MOST 1048576: true; the input reads as it did. -/
def mendPartsUptoRow : OpenClaim := { program := "ytbagecjkfcoapaadoor", sum := "7ce726e1de5ace6a6f6b52c54963962e1648dc073d7447c8df560e1ec8c25af5", func := "virama/viramalaw02.MendParts", spec := "mendParts", inPlace := ["internal/reflectlite.TypeOf", "internal/abi.NoEscape"], unfollowed := true, recurses := true, named := ["virama/scalar.errUtf", "virama/mend.errPlace", "virama/scalar.errScalar"], apart := false, laid := [("virama/scalar.errScalar", laid_virama_scalar_errScalar), ("virama/scalar.errUtf", laid_virama_scalar_errUtf), ("virama/mend.errPlace", laid_virama_mend_errPlace)], narrowed := true }
def MendPartsUptoSaid : Prop := mendPartsUptoRow.holds Tryd.pinned (OpenSpec.upto mendPartsSpec)

/-- 'viramalaw02.MendJoins', WHERE WHAT IT READS IS OF BULK AT MOST 1048576: true; the input reads as it did. -/
def mendJoinsUptoRow : OpenClaim := { program := "ytbagecjkfcoapaadoor", sum := "7ce726e1de5ace6a6f6b52c54963962e1648dc073d7447c8df560e1ec8c25af5", func := "virama/viramalaw02.MendJoins", spec := "mendJoins", inPlace := ["internal/reflectlite.TypeOf", "internal/abi.NoEscape"], unfollowed := true, recurses := true, named := ["virama/scalar.errUtf", "virama/mend.errPlace", "virama/scalar.errScalar"], apart := false, laid := [("virama/scalar.errScalar", laid_virama_scalar_errScalar), ("virama/scalar.errUtf", laid_virama_scalar_errUtf), ("virama/mend.errPlace", laid_virama_mend_errPlace)], narrowed := true }
def MendJoinsUptoSaid : Prop := mendJoinsUptoRow.holds Tryd.pinned (OpenSpec.upto mendJoinsSpec)

/-- 'viramalaw02.MendWalks', WHERE WHAT IT READS IS OF BULK AT MOST 1048576: true; the input reads as it did. -/
def mendWalksUptoRow : OpenClaim := { program := "ytbagecjkfcoapaadoor", sum := "7ce726e1de5ace6a6f6b52c54963962e1648dc073d7447c8df560e1ec8c25af5", func := "virama/viramalaw02.MendWalks", spec := "mendWalks", inPlace := ["internal/reflectlite.TypeOf", "internal/abi.NoEscape"], unfollowed := true, recurses := true, named := ["virama/scalar.errUtf", "virama/mend.errPlace", "virama/scalar.errScalar"], apart := false, laid := [("virama/scalar.errScalar", laid_virama_scalar_errScalar), ("virama/scalar.errUtf", laid_virama_scalar_errUtf), ("virama/mend.errPlace", laid_virama_mend_errPlace)], narrowed := true }
def MendWalksUptoSaid : Prop := mendWalksUptoRow.holds Tryd.pinned (OpenSpec.upto mendWalksSpec)

/-- 'viramalaw02.MendRights', WHERE WHAT IT READS IS OF BULK AT MOST 1048576: true; the input reads as it did. -/
def mendRightsUptoRow : OpenClaim := { program := "ytbagecjkfcoapaadoor", sum := "7ce726e1de5ace6a6f6b52c54963962e1648dc073d7447c8df560e1ec8c25af5", func := "virama/viramalaw02.MendRights", spec := "mendRights", inPlace := ["internal/reflectlite.TypeOf", "internal/abi.NoEscape"], unfollowed := true, recurses := true, named := ["virama/scalar.errUtf", "virama/mend.errPlace", "virama/scalar.errScalar"], apart := false, laid := [("virama/scalar.errScalar", laid_virama_scalar_errScalar), ("virama/scalar.errUtf", laid_virama_scalar_errUtf), ("virama/mend.errPlace", laid_virama_mend_errPlace)], narrowed := true }
def MendRightsUptoSaid : Prop := mendRightsUptoRow.holds Tryd.pinned (OpenSpec.upto mendRightsSpec)

/-- 'viramalaw02.MendCounts', WHERE WHAT IT READS IS OF BULK AT MOST 1048576: true; the input reads as it did. -/
def mendCountsUptoRow : OpenClaim := { program := "ytbagecjkfcoapaadoor", sum := "7ce726e1de5ace6a6f6b52c54963962e1648dc073d7447c8df560e1ec8c25af5", func := "virama/viramalaw02.MendCounts", spec := "mendCounts", inPlace := ["internal/reflectlite.TypeOf", "internal/abi.NoEscape"], unfollowed := true, recurses := true, named := ["virama/scalar.errUtf", "virama/mend.errPlace", "virama/scalar.errScalar"], apart := false, laid := [("virama/scalar.errScalar", laid_virama_scalar_errScalar), ("virama/scalar.errUtf", laid_virama_scalar_errUtf), ("virama/mend.errPlace", laid_virama_mend_errPlace)], narrowed := true }
def MendCountsUptoSaid : Prop := mendCountsUptoRow.holds Tryd.pinned (OpenSpec.upto mendCountsSpec)

end Rows
end Go.Proofs.YtbagecjkfcoapaaDoor
