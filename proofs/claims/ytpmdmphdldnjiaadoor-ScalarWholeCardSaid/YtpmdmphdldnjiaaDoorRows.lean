/-
  NARROWER THAN 'FOR EVERY INPUT', by the rows' own cells (each row's printed sentence says how): ScalarBytes: laid · ScalarBack: laid · ScalarJoins: laid · ScalarOrder: laid · ScalarFirst: laid · ScalarPieces: laid · ScalarTexts: laid · ScalarWhole: laid.
  DERIVED. THE GIVEN ROWS OF THIS SEAT. 8 by the template 'for every input the law returns true; each argument reads behind the call as it read before'; 0 by the template 'total and deterministic' (their statements: YtpmdmphdldnjiaaDoorTotals.lean).
  GIVEN WITH THE SEED: the statements are not yours to turn. If you find one false, say at which input.
  Laid BY PROGRAM, IN A SANDBOX (cutbox-rows.mjs): the forced cells as the released guide's own fill.sh prints them over the translation 272aab57be95a454… (all of the seat's roots in one cut). By AI agents, Wed Nov 11 2026. No macro, syntax, notation, axiom, sorry.
-/
import Derived.Test.YtpmdmphdldnjiaaDoorChecked
import GoSem.Claim
import GoSem.ClaimJoined
import GoSem.ClaimMapViews
import Derived.JoinedTies
import Derived.KernelRfl
namespace Go.Proofs.YtpmdmphdldnjiaaDoor
/- THE CELL 'sum', in the pinned program and in every row, IS THE sha256 OF THE DUMP (.gsa) THAT YtpmdmphdldnjiaaDoorProg.lean LOADS. Nothing in Lean hashes anything: it is a label: what it is worth is what the hold of that sum in a sandbox is worth. -/
noncomputable def Tryd.pinned : Pinned := { name := "ytpmdmphdldnjiaadoor", sum := "272aab57be95a454b30a0e555f2abdf1b3ab3498459d96ed8281a50f177a2741", checked := Tryd.checked }
namespace Rows
def none {H : Type} : Left H := { results := [], args := [] }

/- WHAT THE LISTED PACKAGE-LEVEL VARIABLES READ AS WHEN THE CALL BEGINS. Each datum BY PROGRAM (the guide's laid-datum.mjs) off the statement by which the dump's own 'gosem.cut.vars' lays the variable. In a bare row this is a premise. The card (YtpmdmphdldnjiaaDoorCards.lean) ties it to the program's text. -/
def laid_virama_scalar_errScalar {H : Type} : DataW H := .iface "*errors.errorString" (.ptr (.agg [.lit (.string [110, 111, 32, 115, 99, 97, 108, 97, 114])]))
def laid_virama_scalar_errUtf {H : Type} : DataW H := .iface "*errors.errorString" (.ptr (.agg [.lit (.string [110, 111, 116, 32, 119, 101, 108, 108, 45, 102, 111, 114, 109, 101, 100])]))

/-- 'viramalaw01.ScalarBytes': WHATEVER THE INPUT: true; the input reads as it did. -/
def scalarBytesSpec : ChangeSpec := { name := "scalarBytes", fn := fun _ => fun
  | [d1, d2] => { results := [.lit (.bool true)], args := [d1, d2] }
  | _ => none }
def scalarBytesRow : OpenClaim := { program := "ytpmdmphdldnjiaadoor", sum := "272aab57be95a454b30a0e555f2abdf1b3ab3498459d96ed8281a50f177a2741", func := "virama/viramalaw01.ScalarBytes", spec := "scalarBytes", inPlace := ["internal/reflectlite.TypeOf"], unfollowed := true, recurses := true, named := ["virama/scalar.errScalar", "virama/scalar.errUtf"], apart := false, laid := [("virama/scalar.errScalar", laid_virama_scalar_errScalar), ("virama/scalar.errUtf", laid_virama_scalar_errUtf)] }
def ScalarBytesSaid : Prop := scalarBytesRow.holds Tryd.pinned (OpenSpec.ofChange scalarBytesSpec)

/-- ITS FALSE NEIGHBOUR: 'it returns false'. Refute it at one input. -/
def scalarBytesWrong : ChangeSpec := { name := "scalarBytes", fn := fun _ => fun
  | [d1, d2] => { results := [.lit (.bool false)], args := [d1, d2] }
  | _ => none }
def ScalarBytesWrongFalsely : Prop := scalarBytesRow.holds Tryd.pinned (OpenSpec.ofChange scalarBytesWrong)

/-- 'viramalaw01.ScalarBack': WHATEVER THE INPUT: true; the input reads as it did. -/
def scalarBackSpec : ChangeSpec := { name := "scalarBack", fn := fun _ => fun
  | [d1, d2] => { results := [.lit (.bool true)], args := [d1, d2] }
  | _ => none }
def scalarBackRow : OpenClaim := { program := "ytpmdmphdldnjiaadoor", sum := "272aab57be95a454b30a0e555f2abdf1b3ab3498459d96ed8281a50f177a2741", func := "virama/viramalaw01.ScalarBack", spec := "scalarBack", inPlace := ["internal/reflectlite.TypeOf"], unfollowed := true, recurses := true, named := ["virama/scalar.errScalar", "virama/scalar.errUtf"], apart := false, laid := [("virama/scalar.errScalar", laid_virama_scalar_errScalar), ("virama/scalar.errUtf", laid_virama_scalar_errUtf)] }
def ScalarBackSaid : Prop := scalarBackRow.holds Tryd.pinned (OpenSpec.ofChange scalarBackSpec)

/-- ITS FALSE NEIGHBOUR: 'it returns false'. Refute it at one input. -/
def scalarBackWrong : ChangeSpec := { name := "scalarBack", fn := fun _ => fun
  | [d1, d2] => { results := [.lit (.bool false)], args := [d1, d2] }
  | _ => none }
def ScalarBackWrongFalsely : Prop := scalarBackRow.holds Tryd.pinned (OpenSpec.ofChange scalarBackWrong)

/-- 'viramalaw01.ScalarJoins': WHATEVER THE INPUT: true; the input reads as it did. -/
def scalarJoinsSpec : ChangeSpec := { name := "scalarJoins", fn := fun _ => fun
  | [d1, d2] => { results := [.lit (.bool true)], args := [d1, d2] }
  | _ => none }
def scalarJoinsRow : OpenClaim := { program := "ytpmdmphdldnjiaadoor", sum := "272aab57be95a454b30a0e555f2abdf1b3ab3498459d96ed8281a50f177a2741", func := "virama/viramalaw01.ScalarJoins", spec := "scalarJoins", inPlace := ["internal/reflectlite.TypeOf"], unfollowed := true, recurses := true, named := ["virama/scalar.errScalar", "virama/scalar.errUtf"], apart := false, laid := [("virama/scalar.errScalar", laid_virama_scalar_errScalar), ("virama/scalar.errUtf", laid_virama_scalar_errUtf)] }
def ScalarJoinsSaid : Prop := scalarJoinsRow.holds Tryd.pinned (OpenSpec.ofChange scalarJoinsSpec)

/-- ITS FALSE NEIGHBOUR: 'it returns false'. Refute it at one input. -/
def scalarJoinsWrong : ChangeSpec := { name := "scalarJoins", fn := fun _ => fun
  | [d1, d2] => { results := [.lit (.bool false)], args := [d1, d2] }
  | _ => none }
def ScalarJoinsWrongFalsely : Prop := scalarJoinsRow.holds Tryd.pinned (OpenSpec.ofChange scalarJoinsWrong)

/-- 'viramalaw01.ScalarOrder': WHATEVER THE INPUT: true; the input reads as it did. -/
def scalarOrderSpec : ChangeSpec := { name := "scalarOrder", fn := fun _ => fun
  | [d1, d2] => { results := [.lit (.bool true)], args := [d1, d2] }
  | _ => none }
def scalarOrderRow : OpenClaim := { program := "ytpmdmphdldnjiaadoor", sum := "272aab57be95a454b30a0e555f2abdf1b3ab3498459d96ed8281a50f177a2741", func := "virama/viramalaw01.ScalarOrder", spec := "scalarOrder", inPlace := ["internal/reflectlite.TypeOf"], unfollowed := true, recurses := true, named := ["virama/scalar.errScalar", "virama/scalar.errUtf"], apart := false, laid := [("virama/scalar.errScalar", laid_virama_scalar_errScalar), ("virama/scalar.errUtf", laid_virama_scalar_errUtf)] }
def ScalarOrderSaid : Prop := scalarOrderRow.holds Tryd.pinned (OpenSpec.ofChange scalarOrderSpec)

/-- ITS FALSE NEIGHBOUR: 'it returns false'. Refute it at one input. -/
def scalarOrderWrong : ChangeSpec := { name := "scalarOrder", fn := fun _ => fun
  | [d1, d2] => { results := [.lit (.bool false)], args := [d1, d2] }
  | _ => none }
def ScalarOrderWrongFalsely : Prop := scalarOrderRow.holds Tryd.pinned (OpenSpec.ofChange scalarOrderWrong)

/-- 'viramalaw01.ScalarFirst': WHATEVER THE INPUT: true; the input reads as it did. -/
def scalarFirstSpec : ChangeSpec := { name := "scalarFirst", fn := fun _ => fun
  | [d1, d2] => { results := [.lit (.bool true)], args := [d1, d2] }
  | _ => none }
def scalarFirstRow : OpenClaim := { program := "ytpmdmphdldnjiaadoor", sum := "272aab57be95a454b30a0e555f2abdf1b3ab3498459d96ed8281a50f177a2741", func := "virama/viramalaw01.ScalarFirst", spec := "scalarFirst", inPlace := ["internal/reflectlite.TypeOf"], unfollowed := true, recurses := true, named := ["virama/scalar.errScalar", "virama/scalar.errUtf"], apart := false, laid := [("virama/scalar.errScalar", laid_virama_scalar_errScalar), ("virama/scalar.errUtf", laid_virama_scalar_errUtf)] }
def ScalarFirstSaid : Prop := scalarFirstRow.holds Tryd.pinned (OpenSpec.ofChange scalarFirstSpec)

/-- ITS FALSE NEIGHBOUR: 'it returns false'. Refute it at one input. -/
def scalarFirstWrong : ChangeSpec := { name := "scalarFirst", fn := fun _ => fun
  | [d1, d2] => { results := [.lit (.bool false)], args := [d1, d2] }
  | _ => none }
def ScalarFirstWrongFalsely : Prop := scalarFirstRow.holds Tryd.pinned (OpenSpec.ofChange scalarFirstWrong)

/-- 'viramalaw01.ScalarPieces': WHATEVER THE INPUT: true; the input reads as it did. -/
def scalarPiecesSpec : ChangeSpec := { name := "scalarPieces", fn := fun _ => fun
  | [d] => { results := [.lit (.bool true)], args := [d] }
  | _ => none }
def scalarPiecesRow : OpenClaim := { program := "ytpmdmphdldnjiaadoor", sum := "272aab57be95a454b30a0e555f2abdf1b3ab3498459d96ed8281a50f177a2741", func := "virama/viramalaw01.ScalarPieces", spec := "scalarPieces", inPlace := ["internal/reflectlite.TypeOf"], unfollowed := true, recurses := true, named := ["virama/scalar.errScalar", "virama/scalar.errUtf"], apart := false, laid := [("virama/scalar.errScalar", laid_virama_scalar_errScalar), ("virama/scalar.errUtf", laid_virama_scalar_errUtf)] }
def ScalarPiecesSaid : Prop := scalarPiecesRow.holds Tryd.pinned (OpenSpec.ofChange scalarPiecesSpec)

/-- ITS FALSE NEIGHBOUR: 'it returns false'. Refute it at one input. -/
def scalarPiecesWrong : ChangeSpec := { name := "scalarPieces", fn := fun _ => fun
  | [d] => { results := [.lit (.bool false)], args := [d] }
  | _ => none }
def ScalarPiecesWrongFalsely : Prop := scalarPiecesRow.holds Tryd.pinned (OpenSpec.ofChange scalarPiecesWrong)

/-- 'viramalaw01.ScalarTexts': WHATEVER THE INPUT: true; the input reads as it did. -/
def scalarTextsSpec : ChangeSpec := { name := "scalarTexts", fn := fun _ => fun
  | [d1, d2] => { results := [.lit (.bool true)], args := [d1, d2] }
  | _ => none }
def scalarTextsRow : OpenClaim := { program := "ytpmdmphdldnjiaadoor", sum := "272aab57be95a454b30a0e555f2abdf1b3ab3498459d96ed8281a50f177a2741", func := "virama/viramalaw01.ScalarTexts", spec := "scalarTexts", inPlace := ["internal/reflectlite.TypeOf", "internal/abi.NoEscape"], unfollowed := true, recurses := true, named := ["virama/scalar.errScalar", "virama/scalar.errUtf"], apart := false, laid := [("virama/scalar.errScalar", laid_virama_scalar_errScalar), ("virama/scalar.errUtf", laid_virama_scalar_errUtf)] }
def ScalarTextsSaid : Prop := scalarTextsRow.holds Tryd.pinned (OpenSpec.ofChange scalarTextsSpec)

/-- ITS FALSE NEIGHBOUR: 'it returns false'. Refute it at one input. -/
def scalarTextsWrong : ChangeSpec := { name := "scalarTexts", fn := fun _ => fun
  | [d1, d2] => { results := [.lit (.bool false)], args := [d1, d2] }
  | _ => none }
def ScalarTextsWrongFalsely : Prop := scalarTextsRow.holds Tryd.pinned (OpenSpec.ofChange scalarTextsWrong)

/-- 'viramalaw01.ScalarWhole': WHATEVER THE INPUT: true; the input reads as it did. -/
def scalarWholeSpec : ChangeSpec := { name := "scalarWhole", fn := fun _ => fun
  | [d1, d2] => { results := [.lit (.bool true)], args := [d1, d2] }
  | _ => none }
def scalarWholeRow : OpenClaim := { program := "ytpmdmphdldnjiaadoor", sum := "272aab57be95a454b30a0e555f2abdf1b3ab3498459d96ed8281a50f177a2741", func := "virama/viramalaw01.ScalarWhole", spec := "scalarWhole", inPlace := ["internal/reflectlite.TypeOf", "internal/abi.NoEscape"], unfollowed := true, recurses := true, named := ["virama/scalar.errScalar", "virama/scalar.errUtf"], apart := false, laid := [("virama/scalar.errScalar", laid_virama_scalar_errScalar), ("virama/scalar.errUtf", laid_virama_scalar_errUtf)] }
def ScalarWholeSaid : Prop := scalarWholeRow.holds Tryd.pinned (OpenSpec.ofChange scalarWholeSpec)

/-- ITS FALSE NEIGHBOUR: 'it returns false'. Refute it at one input. -/
def scalarWholeWrong : ChangeSpec := { name := "scalarWhole", fn := fun _ => fun
  | [d1, d2] => { results := [.lit (.bool false)], args := [d1, d2] }
  | _ => none }
def ScalarWholeWrongFalsely : Prop := scalarWholeRow.holds Tryd.pinned (OpenSpec.ofChange scalarWholeWrong)

/- THE SECOND FORM. 'bulk': how many values and letters a reading holds, each counted each time it is reached (what is shared counts as often as it is met; a slice's spare places count too). A statement '..UptoSaid' is the law's where the arguments, and the package variables that the reading takes, are together of bulk at most 1048576: NARROWER than '..Said'. Prove '..Said' where nothing that the law and all that it calls make is longer than what came in: it says more and counts as full. Else prove '..UptoSaid'. A law counts once. -/
mutual
def uptoBulk {H : Type} : DataW H → Nat
  | .lit (.string bytes) => bytes.length + 1
  | .lit _ => 1
  | .nil => 1
  | .ptr d => uptoBulk d + 1
  | .slice elems spare => uptoBulkAll elems + uptoBulkAll spare + 1
  | .agg parts => uptoBulkAll parts + 1
  | .iface _ d => uptoBulk d + 1
  | .map entries => uptoBulkEntries entries + 1
  | .held _ => 1
def uptoBulkAll {H : Type} : List (DataW H) → Nat
  | [] => 0
  | d :: r => uptoBulk d + uptoBulkAll r
def uptoBulkEntries {H : Type} : List (Lit × DataW H) → Nat
  | [] => 0
  | x :: r => uptoBulkEntry x + uptoBulkEntries r
def uptoBulkEntry {H : Type} : Lit × DataW H → Nat
  | (.string bytes, d) => bytes.length + uptoBulk d + 1
  | (_, d) => uptoBulk d + 1
 end
def uptoSmall : (H : Type) → List (DataW H) → Bool := fun _ ds => decide (uptoBulkAll ds ≤ 1048576)
def OpenSpec.upto (s : _root_.Go.ChangeSpec) : _root_.Go.OpenSpec := { _root_.Go.OpenSpec.ofChange s with cond := some uptoSmall }

/-- 'viramalaw01.ScalarBytes', WHERE WHAT IT READS IS OF BULK AT MOST 1048576: true; the input reads as it did. -/
def scalarBytesUptoRow : OpenClaim := { program := "ytpmdmphdldnjiaadoor", sum := "272aab57be95a454b30a0e555f2abdf1b3ab3498459d96ed8281a50f177a2741", func := "virama/viramalaw01.ScalarBytes", spec := "scalarBytes", inPlace := ["internal/reflectlite.TypeOf"], unfollowed := true, recurses := true, named := ["virama/scalar.errScalar", "virama/scalar.errUtf"], apart := false, laid := [("virama/scalar.errScalar", laid_virama_scalar_errScalar), ("virama/scalar.errUtf", laid_virama_scalar_errUtf)], narrowed := true }
def ScalarBytesUptoSaid : Prop := scalarBytesUptoRow.holds Tryd.pinned (OpenSpec.upto scalarBytesSpec)

/-- 'viramalaw01.ScalarBack', WHERE WHAT IT READS IS OF BULK AT MOST 1048576: true; the input reads as it did. -/
def scalarBackUptoRow : OpenClaim := { program := "ytpmdmphdldnjiaadoor", sum := "272aab57be95a454b30a0e555f2abdf1b3ab3498459d96ed8281a50f177a2741", func := "virama/viramalaw01.ScalarBack", spec := "scalarBack", inPlace := ["internal/reflectlite.TypeOf"], unfollowed := true, recurses := true, named := ["virama/scalar.errScalar", "virama/scalar.errUtf"], apart := false, laid := [("virama/scalar.errScalar", laid_virama_scalar_errScalar), ("virama/scalar.errUtf", laid_virama_scalar_errUtf)], narrowed := true }
def ScalarBackUptoSaid : Prop := scalarBackUptoRow.holds Tryd.pinned (OpenSpec.upto scalarBackSpec)

/-- 'viramalaw01.ScalarJoins', WHERE WHAT IT READS IS OF BULK AT MOST 1048576: true; the input reads as it did. -/
def scalarJoinsUptoRow : OpenClaim := { program := "ytpmdmphdldnjiaadoor", sum := "272aab57be95a454b30a0e555f2abdf1b3ab3498459d96ed8281a50f177a2741", func := "virama/viramalaw01.ScalarJoins", spec := "scalarJoins", inPlace := ["internal/reflectlite.TypeOf"], unfollowed := true, recurses := true, named := ["virama/scalar.errScalar", "virama/scalar.errUtf"], apart := false, laid := [("virama/scalar.errScalar", laid_virama_scalar_errScalar), ("virama/scalar.errUtf", laid_virama_scalar_errUtf)], narrowed := true }
def ScalarJoinsUptoSaid : Prop := scalarJoinsUptoRow.holds Tryd.pinned (OpenSpec.upto scalarJoinsSpec)

/-- 'viramalaw01.ScalarOrder', WHERE WHAT IT READS IS OF BULK AT MOST 1048576: true; the input reads as it did. -/
def scalarOrderUptoRow : OpenClaim := { program := "ytpmdmphdldnjiaadoor", sum := "272aab57be95a454b30a0e555f2abdf1b3ab3498459d96ed8281a50f177a2741", func := "virama/viramalaw01.ScalarOrder", spec := "scalarOrder", inPlace := ["internal/reflectlite.TypeOf"], unfollowed := true, recurses := true, named := ["virama/scalar.errScalar", "virama/scalar.errUtf"], apart := false, laid := [("virama/scalar.errScalar", laid_virama_scalar_errScalar), ("virama/scalar.errUtf", laid_virama_scalar_errUtf)], narrowed := true }
def ScalarOrderUptoSaid : Prop := scalarOrderUptoRow.holds Tryd.pinned (OpenSpec.upto scalarOrderSpec)

/-- 'viramalaw01.ScalarFirst', WHERE WHAT IT READS IS OF BULK AT MOST 1048576: true; the input reads as it did. -/
def scalarFirstUptoRow : OpenClaim := { program := "ytpmdmphdldnjiaadoor", sum := "272aab57be95a454b30a0e555f2abdf1b3ab3498459d96ed8281a50f177a2741", func := "virama/viramalaw01.ScalarFirst", spec := "scalarFirst", inPlace := ["internal/reflectlite.TypeOf"], unfollowed := true, recurses := true, named := ["virama/scalar.errScalar", "virama/scalar.errUtf"], apart := false, laid := [("virama/scalar.errScalar", laid_virama_scalar_errScalar), ("virama/scalar.errUtf", laid_virama_scalar_errUtf)], narrowed := true }
def ScalarFirstUptoSaid : Prop := scalarFirstUptoRow.holds Tryd.pinned (OpenSpec.upto scalarFirstSpec)

/-- 'viramalaw01.ScalarPieces', WHERE WHAT IT READS IS OF BULK AT MOST 1048576: true; the input reads as it did. -/
def scalarPiecesUptoRow : OpenClaim := { program := "ytpmdmphdldnjiaadoor", sum := "272aab57be95a454b30a0e555f2abdf1b3ab3498459d96ed8281a50f177a2741", func := "virama/viramalaw01.ScalarPieces", spec := "scalarPieces", inPlace := ["internal/reflectlite.TypeOf"], unfollowed := true, recurses := true, named := ["virama/scalar.errScalar", "virama/scalar.errUtf"], apart := false, laid := [("virama/scalar.errScalar", laid_virama_scalar_errScalar), ("virama/scalar.errUtf", laid_virama_scalar_errUtf)], narrowed := true }
def ScalarPiecesUptoSaid : Prop := scalarPiecesUptoRow.holds Tryd.pinned (OpenSpec.upto scalarPiecesSpec)

/-- 'viramalaw01.ScalarTexts', WHERE WHAT IT READS IS OF BULK AT MOST 1048576: true; the input reads as it did. -/
def scalarTextsUptoRow : OpenClaim := { program := "ytpmdmphdldnjiaadoor", sum := "272aab57be95a454b30a0e555f2abdf1b3ab3498459d96ed8281a50f177a2741", func := "virama/viramalaw01.ScalarTexts", spec := "scalarTexts", inPlace := ["internal/reflectlite.TypeOf", "internal/abi.NoEscape"], unfollowed := true, recurses := true, named := ["virama/scalar.errScalar", "virama/scalar.errUtf"], apart := false, laid := [("virama/scalar.errScalar", laid_virama_scalar_errScalar), ("virama/scalar.errUtf", laid_virama_scalar_errUtf)], narrowed := true }
def ScalarTextsUptoSaid : Prop := scalarTextsUptoRow.holds Tryd.pinned (OpenSpec.upto scalarTextsSpec)

/-- 'viramalaw01.ScalarWhole', WHERE WHAT IT READS IS OF BULK AT MOST 1048576: true; the input reads as it did. -/
def scalarWholeUptoRow : OpenClaim := { program := "ytpmdmphdldnjiaadoor", sum := "272aab57be95a454b30a0e555f2abdf1b3ab3498459d96ed8281a50f177a2741", func := "virama/viramalaw01.ScalarWhole", spec := "scalarWhole", inPlace := ["internal/reflectlite.TypeOf", "internal/abi.NoEscape"], unfollowed := true, recurses := true, named := ["virama/scalar.errScalar", "virama/scalar.errUtf"], apart := false, laid := [("virama/scalar.errScalar", laid_virama_scalar_errScalar), ("virama/scalar.errUtf", laid_virama_scalar_errUtf)], narrowed := true }
def ScalarWholeUptoSaid : Prop := scalarWholeUptoRow.holds Tryd.pinned (OpenSpec.upto scalarWholeSpec)

end Rows
end Go.Proofs.YtpmdmphdldnjiaaDoor
