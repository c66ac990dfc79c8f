/-
  DERIVED. GIVEN WITH THE SEED: THE CARDS: each row of YtlmdjifffmofeaaGreatDoorRows.lean that lists a variable, with what it lists TIED to the program's text (the seventh form; the later family's looks); each row that meets fmt, with fmt's text TOLD by the authors' own Lean function (tested against real Go, not proved from fmt's source: count such statements apart). THE CARD IS WHAT COUNTS. Prove the row's statement (the work); the ties are given (YtlmdjifffmofeaaGreatDoorTie.lean); close each card by the builder's one call (the guide's Derived/Test/ToyasCard.lean, 'card_holds'). Laid BY PROGRAM, IN A SANDBOX (cutbox-door.mjs). By AI agents, Wed Nov 11 2026. No macro, syntax, notation, axiom, sorry.
-/
import Derived.Test.YtlmdjifffmofeaaGreatDoorRows
import GoSem.ClaimSeven
namespace Go.Proofs.YtlmdjifffmofeaaGreatDoor
namespace Rows

/-- THE TIED CARD OF 'viramalaw17.TitleFinals'. -/
def titleFinalsCard : Claim7 := { stood := { row := titleFinalsRow, standIns := [], harness := (true, "8100c48a5b92b92ed9936a1d3700d41dedc3391df550d117cbb496056115f804"), looks := true }, kinds := [], alts := [], laidByText := true, laidKinds := [.handle, .sentinel, .sentinel, .sentinel, .sentinel, .sentinel, .sentinel, .sentinel, .sentinel, .sentinel], laidTests := true, laidLooks := .later }
def TitleFinalsCardSaid : Prop := Claim7.holds Tryz.pinned (.plain (OpenSpec.ofChange titleFinalsSpec)) titleFinalsCard

/-- THE TIED CARD OF 'viramalaw17.TitleWords'. -/
def titleWordsCard : Claim7 := { stood := { row := titleWordsRow, standIns := [], harness := (true, "8100c48a5b92b92ed9936a1d3700d41dedc3391df550d117cbb496056115f804"), looks := true }, kinds := [], alts := [], laidByText := true, laidKinds := [.handle, .sentinel, .sentinel, .sentinel, .sentinel, .sentinel, .sentinel, .sentinel, .sentinel, .sentinel], laidTests := true, laidLooks := .later }
def TitleWordsCardSaid : Prop := Claim7.holds Tryz.pinned (.plain (OpenSpec.ofChange titleWordsSpec)) titleWordsCard

/-- THE TIED CARD OF 'viramalaw17.TitleTexts'. -/
def titleTextsCard : Claim7 := { stood := { row := titleTextsRow, standIns := [], harness := (true, "8100c48a5b92b92ed9936a1d3700d41dedc3391df550d117cbb496056115f804"), looks := true }, kinds := [], alts := [], laidByText := true, laidKinds := [.handle, .sentinel, .sentinel, .sentinel, .sentinel, .sentinel, .sentinel, .sentinel, .sentinel, .sentinel], laidTests := true, laidLooks := .later }
def TitleTextsCardSaid : Prop := Claim7.holds Tryz.pinned (.plain (OpenSpec.ofChange titleTextsSpec)) titleTextsCard

/-- THE TIED CARD OF 'viramalaw17.TitleThree'. -/
def titleThreeCard : Claim7 := { stood := { row := titleThreeRow, standIns := [], harness := (true, "8100c48a5b92b92ed9936a1d3700d41dedc3391df550d117cbb496056115f804"), looks := true }, kinds := [], alts := [], laidByText := true, laidKinds := [.handle, .sentinel, .sentinel, .sentinel, .sentinel, .sentinel, .sentinel, .sentinel, .sentinel, .sentinel], laidTests := true, laidLooks := .later }
def TitleThreeCardSaid : Prop := Claim7.holds Tryz.pinned (.plain (OpenSpec.ofChange titleThreeSpec)) titleThreeCard

/-- THE TIED CARD OF 'viramalaw17.TitleStays'. -/
def titleStaysCard : Claim7 := { stood := { row := titleStaysRow, standIns := [], harness := (true, "8100c48a5b92b92ed9936a1d3700d41dedc3391df550d117cbb496056115f804"), looks := true }, kinds := [], alts := [], laidByText := true, laidKinds := [.handle, .sentinel, .sentinel, .sentinel, .sentinel, .sentinel, .sentinel, .sentinel, .sentinel, .sentinel], laidTests := true, laidLooks := .later }
def TitleStaysCardSaid : Prop := Claim7.holds Tryz.pinned (.plain (OpenSpec.ofChange titleStaysSpec)) titleStaysCard

/-- THE TIED CARD OF 'viramalaw17.TitleAhead'. -/
def titleAheadCard : Claim7 := { stood := { row := titleAheadRow, standIns := [], harness := (true, "8100c48a5b92b92ed9936a1d3700d41dedc3391df550d117cbb496056115f804"), looks := true }, kinds := [], alts := [], laidByText := true, laidKinds := [.handle, .sentinel, .sentinel, .sentinel, .sentinel, .sentinel, .sentinel, .sentinel, .sentinel, .sentinel], laidTests := true, laidLooks := .later }
def TitleAheadCardSaid : Prop := Claim7.holds Tryz.pinned (.plain (OpenSpec.ofChange titleAheadSpec)) titleAheadCard

/-- THE TIED CARD OF 'viramalaw17.TitleNear'. -/
def titleNearCard : Claim7 := { stood := { row := titleNearRow, standIns := [], harness := (true, "8100c48a5b92b92ed9936a1d3700d41dedc3391df550d117cbb496056115f804"), looks := true }, kinds := [], alts := [], laidByText := true, laidKinds := [.handle, .sentinel, .sentinel, .sentinel, .sentinel, .sentinel, .sentinel, .sentinel, .sentinel, .sentinel], laidTests := true, laidLooks := .later }
def TitleNearCardSaid : Prop := Claim7.holds Tryz.pinned (.plain (OpenSpec.ofChange titleNearSpec)) titleNearCard

/-- THE TIED CARD OF 'viramalaw17.TitleSmall'. -/
def titleSmallCard : Claim7 := { stood := { row := titleSmallRow, standIns := [], harness := (true, "8100c48a5b92b92ed9936a1d3700d41dedc3391df550d117cbb496056115f804"), looks := true }, kinds := [], alts := [], laidByText := true, laidKinds := [.handle, .sentinel, .sentinel, .sentinel, .sentinel, .sentinel, .sentinel, .sentinel, .sentinel, .sentinel], laidTests := true, laidLooks := .later }
def TitleSmallCardSaid : Prop := Claim7.holds Tryz.pinned (.plain (OpenSpec.ofChange titleSmallSpec)) titleSmallCard

/-- THE SECOND FORM's CARD OF 'viramalaw17.TitleFinals'. -/
def titleFinalsUptoCard : Claim7 := { stood := { row := titleFinalsUptoRow, standIns := [], harness := (true, "8100c48a5b92b92ed9936a1d3700d41dedc3391df550d117cbb496056115f804"), looks := true }, kinds := [], alts := [], laidByText := true, laidKinds := [.handle, .sentinel, .sentinel, .sentinel, .sentinel, .sentinel, .sentinel, .sentinel, .sentinel, .sentinel], laidTests := true, laidLooks := .later }
def TitleFinalsUptoCardSaid : Prop := Claim7.holds Tryz.pinned (.plain (OpenSpec.upto titleFinalsSpec)) titleFinalsUptoCard

/-- THE SECOND FORM's CARD OF 'viramalaw17.TitleWords'. -/
def titleWordsUptoCard : Claim7 := { stood := { row := titleWordsUptoRow, standIns := [], harness := (true, "8100c48a5b92b92ed9936a1d3700d41dedc3391df550d117cbb496056115f804"), looks := true }, kinds := [], alts := [], laidByText := true, laidKinds := [.handle, .sentinel, .sentinel, .sentinel, .sentinel, .sentinel, .sentinel, .sentinel, .sentinel, .sentinel], laidTests := true, laidLooks := .later }
def TitleWordsUptoCardSaid : Prop := Claim7.holds Tryz.pinned (.plain (OpenSpec.upto titleWordsSpec)) titleWordsUptoCard

/-- THE SECOND FORM's CARD OF 'viramalaw17.TitleTexts'. -/
def titleTextsUptoCard : Claim7 := { stood := { row := titleTextsUptoRow, standIns := [], harness := (true, "8100c48a5b92b92ed9936a1d3700d41dedc3391df550d117cbb496056115f804"), looks := true }, kinds := [], alts := [], laidByText := true, laidKinds := [.handle, .sentinel, .sentinel, .sentinel, .sentinel, .sentinel, .sentinel, .sentinel, .sentinel, .sentinel], laidTests := true, laidLooks := .later }
def TitleTextsUptoCardSaid : Prop := Claim7.holds Tryz.pinned (.plain (OpenSpec.upto titleTextsSpec)) titleTextsUptoCard

/-- THE SECOND FORM's CARD OF 'viramalaw17.TitleThree'. -/
def titleThreeUptoCard : Claim7 := { stood := { row := titleThreeUptoRow, standIns := [], harness := (true, "8100c48a5b92b92ed9936a1d3700d41dedc3391df550d117cbb496056115f804"), looks := true }, kinds := [], alts := [], laidByText := true, laidKinds := [.handle, .sentinel, .sentinel, .sentinel, .sentinel, .sentinel, .sentinel, .sentinel, .sentinel, .sentinel], laidTests := true, laidLooks := .later }
def TitleThreeUptoCardSaid : Prop := Claim7.holds Tryz.pinned (.plain (OpenSpec.upto titleThreeSpec)) titleThreeUptoCard

/-- THE SECOND FORM's CARD OF 'viramalaw17.TitleStays'. -/
def titleStaysUptoCard : Claim7 := { stood := { row := titleStaysUptoRow, standIns := [], harness := (true, "8100c48a5b92b92ed9936a1d3700d41dedc3391df550d117cbb496056115f804"), looks := true }, kinds := [], alts := [], laidByText := true, laidKinds := [.handle, .sentinel, .sentinel, .sentinel, .sentinel, .sentinel, .sentinel, .sentinel, .sentinel, .sentinel], laidTests := true, laidLooks := .later }
def TitleStaysUptoCardSaid : Prop := Claim7.holds Tryz.pinned (.plain (OpenSpec.upto titleStaysSpec)) titleStaysUptoCard

/-- THE SECOND FORM's CARD OF 'viramalaw17.TitleAhead'. -/
def titleAheadUptoCard : Claim7 := { stood := { row := titleAheadUptoRow, standIns := [], harness := (true, "8100c48a5b92b92ed9936a1d3700d41dedc3391df550d117cbb496056115f804"), looks := true }, kinds := [], alts := [], laidByText := true, laidKinds := [.handle, .sentinel, .sentinel, .sentinel, .sentinel, .sentinel, .sentinel, .sentinel, .sentinel, .sentinel], laidTests := true, laidLooks := .later }
def TitleAheadUptoCardSaid : Prop := Claim7.holds Tryz.pinned (.plain (OpenSpec.upto titleAheadSpec)) titleAheadUptoCard

/-- THE SECOND FORM's CARD OF 'viramalaw17.TitleNear'. -/
def titleNearUptoCard : Claim7 := { stood := { row := titleNearUptoRow, standIns := [], harness := (true, "8100c48a5b92b92ed9936a1d3700d41dedc3391df550d117cbb496056115f804"), looks := true }, kinds := [], alts := [], laidByText := true, laidKinds := [.handle, .sentinel, .sentinel, .sentinel, .sentinel, .sentinel, .sentinel, .sentinel, .sentinel, .sentinel], laidTests := true, laidLooks := .later }
def TitleNearUptoCardSaid : Prop := Claim7.holds Tryz.pinned (.plain (OpenSpec.upto titleNearSpec)) titleNearUptoCard

/-- THE SECOND FORM's CARD OF 'viramalaw17.TitleSmall'. -/
def titleSmallUptoCard : Claim7 := { stood := { row := titleSmallUptoRow, standIns := [], harness := (true, "8100c48a5b92b92ed9936a1d3700d41dedc3391df550d117cbb496056115f804"), looks := true }, kinds := [], alts := [], laidByText := true, laidKinds := [.handle, .sentinel, .sentinel, .sentinel, .sentinel, .sentinel, .sentinel, .sentinel, .sentinel, .sentinel], laidTests := true, laidLooks := .later }
def TitleSmallUptoCardSaid : Prop := Claim7.holds Tryz.pinned (.plain (OpenSpec.upto titleSmallSpec)) titleSmallUptoCard
end Rows
end Go.Proofs.YtlmdjifffmofeaaGreatDoor
