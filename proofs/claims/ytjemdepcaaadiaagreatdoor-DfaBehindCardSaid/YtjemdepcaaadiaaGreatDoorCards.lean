/-
  DERIVED. GIVEN WITH THE SEED: THE CARDS: each row of YtjemdepcaaadiaaGreatDoorRows.lean that lists a variable, with what it lists TIED to the program's text (the seventh form; the later family's looks); each row that meets fmt, with fmt's text TOLD by the authors' own Lean function (tested against real Go, not proved from fmt's source: count such statements apart). THE CARD IS WHAT COUNTS. Prove the row's statement (the work); the ties are given (YtjemdepcaaadiaaGreatDoorTie.lean); close each card by the builder's one call (the guide's Derived/Test/ToyasCard.lean, 'card_holds'). Laid BY PROGRAM, IN A SANDBOX (cutbox-door.mjs). By AI agents, Wed Nov 11 2026. No macro, syntax, notation, axiom, sorry.
-/
import Derived.Test.YtjemdepcaaadiaaGreatDoorRows
import GoSem.ClaimSeven
namespace Go.Proofs.YtjemdepcaaadiaaGreatDoor
namespace Rows

/-- THE TIED CARD OF 'viramalaw12.DfaGoes'. -/
def dfaGoesCard : Claim7 := { stood := { row := dfaGoesRow, standIns := [], harness := (true, "75d3e63e003a17ff20569aa1df0c101b1b23af71c9019b8f627b63852d2f8e0e"), looks := true }, kinds := [], alts := [], laidByText := true, laidKinds := [.sentinel, .sentinel, .sentinel], laidTests := true, laidLooks := .later }
def DfaGoesCardSaid : Prop := Claim7.holds Tryz.pinned (.plain (OpenSpec.ofChange dfaGoesSpec)) dfaGoesCard

/-- THE TIED CARD OF 'viramalaw12.DfaBehind'. -/
def dfaBehindCard : Claim7 := { stood := { row := dfaBehindRow, standIns := [], harness := (true, "75d3e63e003a17ff20569aa1df0c101b1b23af71c9019b8f627b63852d2f8e0e"), looks := true }, kinds := [], alts := [], laidByText := true, laidKinds := [.sentinel, .sentinel, .sentinel], laidTests := true, laidLooks := .later }
def DfaBehindCardSaid : Prop := Claim7.holds Tryz.pinned (.plain (OpenSpec.ofChange dfaBehindSpec)) dfaBehindCard

/-- THE SECOND FORM's CARD OF 'viramalaw12.DfaGoes'. -/
def dfaGoesUptoCard : Claim7 := { stood := { row := dfaGoesUptoRow, standIns := [], harness := (true, "75d3e63e003a17ff20569aa1df0c101b1b23af71c9019b8f627b63852d2f8e0e"), looks := true }, kinds := [], alts := [], laidByText := true, laidKinds := [.sentinel, .sentinel, .sentinel], laidTests := true, laidLooks := .later }
def DfaGoesUptoCardSaid : Prop := Claim7.holds Tryz.pinned (.plain (OpenSpec.upto dfaGoesSpec)) dfaGoesUptoCard

/-- THE SECOND FORM's CARD OF 'viramalaw12.DfaBehind'. -/
def dfaBehindUptoCard : Claim7 := { stood := { row := dfaBehindUptoRow, standIns := [], harness := (true, "75d3e63e003a17ff20569aa1df0c101b1b23af71c9019b8f627b63852d2f8e0e"), looks := true }, kinds := [], alts := [], laidByText := true, laidKinds := [.sentinel, .sentinel, .sentinel], laidTests := true, laidLooks := .later }
def DfaBehindUptoCardSaid : Prop := Claim7.holds Tryz.pinned (.plain (OpenSpec.upto dfaBehindSpec)) dfaBehindUptoCard
end Rows
end Go.Proofs.YtjemdepcaaadiaaGreatDoor
