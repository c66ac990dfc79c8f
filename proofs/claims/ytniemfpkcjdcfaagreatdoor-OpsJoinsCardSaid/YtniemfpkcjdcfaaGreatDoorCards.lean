/-
  DERIVED. GIVEN WITH THE SEED: THE CARDS: each row of YtniemfpkcjdcfaaGreatDoorRows.lean that lists a variable, with what it lists TIED to the program's text (the seventh form; the later family's looks); each row that meets fmt, with fmt's text TOLD by the authors' own Lean function (tested against real Go, not proved from fmt's source: count such statements apart). THE CARD IS WHAT COUNTS. Prove the row's statement (the work); the ties are given (YtniemfpkcjdcfaaGreatDoorTie.lean); close each card by the builder's one call (the guide's Derived/Test/ToyasCard.lean, 'card_holds'). Laid BY PROGRAM, IN A SANDBOX (cutbox-door.mjs). By AI agents, Wed Nov 11 2026. No macro, syntax, notation, axiom, sorry.
-/
import Derived.Test.YtniemfpkcjdcfaaGreatDoorRows
import GoSem.ClaimSeven
namespace Go.Proofs.YtniemfpkcjdcfaaGreatDoor
namespace Rows

/-- THE TIED CARD OF 'viramalaw19.OpsJoins'. -/
def opsJoinsCard : Claim7 := { stood := { row := opsJoinsRow, standIns := [], harness := (true, "9ee7f2f987ae795a7e7c25d78a455c77b2d13d52007f259b7c7b268cd8939294"), looks := true }, kinds := [], alts := [], laidByText := true, laidKinds := [.handle, .sentinel, .sentinel, .sentinel, .sentinel, .sentinel, .sentinel, .sentinel, .sentinel, .sentinel, .sentinel, .sentinel, .sentinel, .sentinel, .sentinel], laidTests := true, laidLooks := .later }
def OpsJoinsCardSaid : Prop := Claim7.holds Tryz.pinned (.plain (OpenSpec.ofChange opsJoinsSpec)) opsJoinsCard

/-- THE SECOND FORM's CARD OF 'viramalaw19.OpsJoins'. -/
def opsJoinsUptoCard : Claim7 := { stood := { row := opsJoinsUptoRow, standIns := [], harness := (true, "9ee7f2f987ae795a7e7c25d78a455c77b2d13d52007f259b7c7b268cd8939294"), looks := true }, kinds := [], alts := [], laidByText := true, laidKinds := [.handle, .sentinel, .sentinel, .sentinel, .sentinel, .sentinel, .sentinel, .sentinel, .sentinel, .sentinel, .sentinel, .sentinel, .sentinel, .sentinel, .sentinel], laidTests := true, laidLooks := .later }
def OpsJoinsUptoCardSaid : Prop := Claim7.holds Tryz.pinned (.plain (OpenSpec.upto opsJoinsSpec)) opsJoinsUptoCard
end Rows
end Go.Proofs.YtniemfpkcjdcfaaGreatDoor
