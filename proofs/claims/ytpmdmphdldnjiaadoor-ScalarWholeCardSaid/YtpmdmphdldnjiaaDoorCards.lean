/-
  DERIVED. GIVEN WITH THE SEED: THE CARDS: each row of YtpmdmphdldnjiaaDoorRows.lean that lists a variable, with what it lists TIED to the program's text (the seventh form; the later family's looks); each row that meets fmt, with fmt's text TOLD by the authors' own Lean function (tested against real Go, not proved from fmt's source: count such statements apart). THE CARD IS WHAT COUNTS. Prove the row's statement (the work); the ties are given (YtpmdmphdldnjiaaDoorTie.lean); close each card by the builder's one call (the guide's Derived/Test/ToyasCard.lean, 'card_holds'). Laid BY PROGRAM, IN A SANDBOX (cutbox-door.mjs). By AI agents, Wed Nov 11 2026. No macro, syntax, notation, axiom, sorry.
-/
import Derived.Test.YtpmdmphdldnjiaaDoorRows
import GoSem.ClaimSeven
namespace Go.Proofs.YtpmdmphdldnjiaaDoor
namespace Rows

/-- THE TIED CARD OF 'viramalaw01.ScalarBytes'. -/
def scalarBytesCard : Claim7 := { stood := { row := scalarBytesRow, standIns := [], harness := (true, "38cd3ce7a6b5bd8cc7688046f07082dca5726fb9afca72f3a97e938ace3fc162"), looks := true }, kinds := [], alts := [], laidByText := true, laidKinds := [.sentinel, .sentinel], laidTests := true, laidLooks := .later }
def ScalarBytesCardSaid : Prop := Claim7.holds Tryd.pinned (.plain (OpenSpec.ofChange scalarBytesSpec)) scalarBytesCard

/-- THE TIED CARD OF 'viramalaw01.ScalarBack'. -/
def scalarBackCard : Claim7 := { stood := { row := scalarBackRow, standIns := [], harness := (true, "38cd3ce7a6b5bd8cc7688046f07082dca5726fb9afca72f3a97e938ace3fc162"), looks := true }, kinds := [], alts := [], laidByText := true, laidKinds := [.sentinel, .sentinel], laidTests := true, laidLooks := .later }
def ScalarBackCardSaid : Prop := Claim7.holds Tryd.pinned (.plain (OpenSpec.ofChange scalarBackSpec)) scalarBackCard

/-- THE TIED CARD OF 'viramalaw01.ScalarJoins'. -/
def scalarJoinsCard : Claim7 := { stood := { row := scalarJoinsRow, standIns := [], harness := (true, "38cd3ce7a6b5bd8cc7688046f07082dca5726fb9afca72f3a97e938ace3fc162"), looks := true }, kinds := [], alts := [], laidByText := true, laidKinds := [.sentinel, .sentinel], laidTests := true, laidLooks := .later }
def ScalarJoinsCardSaid : Prop := Claim7.holds Tryd.pinned (.plain (OpenSpec.ofChange scalarJoinsSpec)) scalarJoinsCard

/-- THE TIED CARD OF 'viramalaw01.ScalarOrder'. -/
def scalarOrderCard : Claim7 := { stood := { row := scalarOrderRow, standIns := [], harness := (true, "38cd3ce7a6b5bd8cc7688046f07082dca5726fb9afca72f3a97e938ace3fc162"), looks := true }, kinds := [], alts := [], laidByText := true, laidKinds := [.sentinel, .sentinel], laidTests := true, laidLooks := .later }
def ScalarOrderCardSaid : Prop := Claim7.holds Tryd.pinned (.plain (OpenSpec.ofChange scalarOrderSpec)) scalarOrderCard

/-- THE TIED CARD OF 'viramalaw01.ScalarFirst'. -/
def scalarFirstCard : Claim7 := { stood := { row := scalarFirstRow, standIns := [], harness := (true, "38cd3ce7a6b5bd8cc7688046f07082dca5726fb9afca72f3a97e938ace3fc162"), looks := true }, kinds := [], alts := [], laidByText := true, laidKinds := [.sentinel, .sentinel], laidTests := true, laidLooks := .later }
def ScalarFirstCardSaid : Prop := Claim7.holds Tryd.pinned (.plain (OpenSpec.ofChange scalarFirstSpec)) scalarFirstCard

/-- THE TIED CARD OF 'viramalaw01.ScalarPieces'. -/
def scalarPiecesCard : Claim7 := { stood := { row := scalarPiecesRow, standIns := [], harness := (true, "38cd3ce7a6b5bd8cc7688046f07082dca5726fb9afca72f3a97e938ace3fc162"), looks := true }, kinds := [], alts := [], laidByText := true, laidKinds := [.sentinel, .sentinel], laidTests := true, laidLooks := .later }
def ScalarPiecesCardSaid : Prop := Claim7.holds Tryd.pinned (.plain (OpenSpec.ofChange scalarPiecesSpec)) scalarPiecesCard

/-- THE TIED CARD OF 'viramalaw01.ScalarTexts'. -/
def scalarTextsCard : Claim7 := { stood := { row := scalarTextsRow, standIns := [], harness := (true, "38cd3ce7a6b5bd8cc7688046f07082dca5726fb9afca72f3a97e938ace3fc162"), looks := true }, kinds := [], alts := [], laidByText := true, laidKinds := [.sentinel, .sentinel], laidTests := true, laidLooks := .later }
def ScalarTextsCardSaid : Prop := Claim7.holds Tryd.pinned (.plain (OpenSpec.ofChange scalarTextsSpec)) scalarTextsCard

/-- THE TIED CARD OF 'viramalaw01.ScalarWhole'. -/
def scalarWholeCard : Claim7 := { stood := { row := scalarWholeRow, standIns := [], harness := (true, "38cd3ce7a6b5bd8cc7688046f07082dca5726fb9afca72f3a97e938ace3fc162"), looks := true }, kinds := [], alts := [], laidByText := true, laidKinds := [.sentinel, .sentinel], laidTests := true, laidLooks := .later }
def ScalarWholeCardSaid : Prop := Claim7.holds Tryd.pinned (.plain (OpenSpec.ofChange scalarWholeSpec)) scalarWholeCard

/-- THE SECOND FORM's CARD OF 'viramalaw01.ScalarBytes'. -/
def scalarBytesUptoCard : Claim7 := { stood := { row := scalarBytesUptoRow, standIns := [], harness := (true, "38cd3ce7a6b5bd8cc7688046f07082dca5726fb9afca72f3a97e938ace3fc162"), looks := true }, kinds := [], alts := [], laidByText := true, laidKinds := [.sentinel, .sentinel], laidTests := true, laidLooks := .later }
def ScalarBytesUptoCardSaid : Prop := Claim7.holds Tryd.pinned (.plain (OpenSpec.upto scalarBytesSpec)) scalarBytesUptoCard

/-- THE SECOND FORM's CARD OF 'viramalaw01.ScalarBack'. -/
def scalarBackUptoCard : Claim7 := { stood := { row := scalarBackUptoRow, standIns := [], harness := (true, "38cd3ce7a6b5bd8cc7688046f07082dca5726fb9afca72f3a97e938ace3fc162"), looks := true }, kinds := [], alts := [], laidByText := true, laidKinds := [.sentinel, .sentinel], laidTests := true, laidLooks := .later }
def ScalarBackUptoCardSaid : Prop := Claim7.holds Tryd.pinned (.plain (OpenSpec.upto scalarBackSpec)) scalarBackUptoCard

/-- THE SECOND FORM's CARD OF 'viramalaw01.ScalarJoins'. -/
def scalarJoinsUptoCard : Claim7 := { stood := { row := scalarJoinsUptoRow, standIns := [], harness := (true, "38cd3ce7a6b5bd8cc7688046f07082dca5726fb9afca72f3a97e938ace3fc162"), looks := true }, kinds := [], alts := [], laidByText := true, laidKinds := [.sentinel, .sentinel], laidTests := true, laidLooks := .later }
def ScalarJoinsUptoCardSaid : Prop := Claim7.holds Tryd.pinned (.plain (OpenSpec.upto scalarJoinsSpec)) scalarJoinsUptoCard

/-- THE SECOND FORM's CARD OF 'viramalaw01.ScalarOrder'. -/
def scalarOrderUptoCard : Claim7 := { stood := { row := scalarOrderUptoRow, standIns := [], harness := (true, "38cd3ce7a6b5bd8cc7688046f07082dca5726fb9afca72f3a97e938ace3fc162"), looks := true }, kinds := [], alts := [], laidByText := true, laidKinds := [.sentinel, .sentinel], laidTests := true, laidLooks := .later }
def ScalarOrderUptoCardSaid : Prop := Claim7.holds Tryd.pinned (.plain (OpenSpec.upto scalarOrderSpec)) scalarOrderUptoCard

/-- THE SECOND FORM's CARD OF 'viramalaw01.ScalarFirst'. -/
def scalarFirstUptoCard : Claim7 := { stood := { row := scalarFirstUptoRow, standIns := [], harness := (true, "38cd3ce7a6b5bd8cc7688046f07082dca5726fb9afca72f3a97e938ace3fc162"), looks := true }, kinds := [], alts := [], laidByText := true, laidKinds := [.sentinel, .sentinel], laidTests := true, laidLooks := .later }
def ScalarFirstUptoCardSaid : Prop := Claim7.holds Tryd.pinned (.plain (OpenSpec.upto scalarFirstSpec)) scalarFirstUptoCard

/-- THE SECOND FORM's CARD OF 'viramalaw01.ScalarPieces'. -/
def scalarPiecesUptoCard : Claim7 := { stood := { row := scalarPiecesUptoRow, standIns := [], harness := (true, "38cd3ce7a6b5bd8cc7688046f07082dca5726fb9afca72f3a97e938ace3fc162"), looks := true }, kinds := [], alts := [], laidByText := true, laidKinds := [.sentinel, .sentinel], laidTests := true, laidLooks := .later }
def ScalarPiecesUptoCardSaid : Prop := Claim7.holds Tryd.pinned (.plain (OpenSpec.upto scalarPiecesSpec)) scalarPiecesUptoCard

/-- THE SECOND FORM's CARD OF 'viramalaw01.ScalarTexts'. -/
def scalarTextsUptoCard : Claim7 := { stood := { row := scalarTextsUptoRow, standIns := [], harness := (true, "38cd3ce7a6b5bd8cc7688046f07082dca5726fb9afca72f3a97e938ace3fc162"), looks := true }, kinds := [], alts := [], laidByText := true, laidKinds := [.sentinel, .sentinel], laidTests := true, laidLooks := .later }
def ScalarTextsUptoCardSaid : Prop := Claim7.holds Tryd.pinned (.plain (OpenSpec.upto scalarTextsSpec)) scalarTextsUptoCard

/-- THE SECOND FORM's CARD OF 'viramalaw01.ScalarWhole'. -/
def scalarWholeUptoCard : Claim7 := { stood := { row := scalarWholeUptoRow, standIns := [], harness := (true, "38cd3ce7a6b5bd8cc7688046f07082dca5726fb9afca72f3a97e938ace3fc162"), looks := true }, kinds := [], alts := [], laidByText := true, laidKinds := [.sentinel, .sentinel], laidTests := true, laidLooks := .later }
def ScalarWholeUptoCardSaid : Prop := Claim7.holds Tryd.pinned (.plain (OpenSpec.upto scalarWholeSpec)) scalarWholeUptoCard
end Rows
end Go.Proofs.YtpmdmphdldnjiaaDoor
