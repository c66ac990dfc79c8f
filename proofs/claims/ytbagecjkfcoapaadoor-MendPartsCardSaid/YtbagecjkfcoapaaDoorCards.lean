/-
  DERIVED. GIVEN WITH THE SEED: THE CARDS: each row of YtbagecjkfcoapaaDoorRows.lean that lists a variable, with what it lists TIED to the program's text (the seventh form; the later family's looks); each row that meets fmt, with fmt's text TOLD by the authors' own Lean function (tested against real Go, not proved from fmt's source: count such statements apart). THE CARD IS WHAT COUNTS. Prove the row's statement (the work); the ties are given (YtbagecjkfcoapaaDoorTie.lean); close each card by the builder's one call (the guide's Derived/Test/ToyasCard.lean, 'card_holds'). Laid BY PROGRAM, IN A SANDBOX (cutbox-door.mjs). By AI agents, Wed Nov 11 2026. No macro, syntax, notation, axiom, sorry.
-/
import Derived.Test.YtbagecjkfcoapaaDoorRows
import GoSem.ClaimSeven
namespace Go.Proofs.YtbagecjkfcoapaaDoor
namespace Rows

/-- THE TIED CARD OF 'viramalaw02.MendSteps'. -/
def mendStepsCard : Claim7 := { stood := { row := mendStepsRow, standIns := [], harness := (true, "822e430ff5491fec974cbef0bc7ee884d48109df54f761946011ca2d97a9158e"), looks := true }, kinds := [], alts := [], laidByText := true, laidKinds := [.sentinel, .sentinel, .sentinel], laidTests := true, laidLooks := .later }
def MendStepsCardSaid : Prop := Claim7.holds Tryd.pinned (.plain (OpenSpec.ofChange mendStepsSpec)) mendStepsCard

/-- THE TIED CARD OF 'viramalaw02.MendMakes'. -/
def mendMakesCard : Claim7 := { stood := { row := mendMakesRow, standIns := [], harness := (true, "822e430ff5491fec974cbef0bc7ee884d48109df54f761946011ca2d97a9158e"), looks := true }, kinds := [], alts := [], laidByText := true, laidKinds := [.sentinel, .sentinel, .sentinel], laidTests := true, laidLooks := .later }
def MendMakesCardSaid : Prop := Claim7.holds Tryd.pinned (.plain (OpenSpec.ofChange mendMakesSpec)) mendMakesCard

/-- THE TIED CARD OF 'viramalaw02.MendParts'. -/
def mendPartsCard : Claim7 := { stood := { row := mendPartsRow, standIns := [], harness := (true, "822e430ff5491fec974cbef0bc7ee884d48109df54f761946011ca2d97a9158e"), looks := true }, kinds := [], alts := [], laidByText := true, laidKinds := [.sentinel, .sentinel, .sentinel], laidTests := true, laidLooks := .later }
def MendPartsCardSaid : Prop := Claim7.holds Tryd.pinned (.plain (OpenSpec.ofChange mendPartsSpec)) mendPartsCard

/-- THE TIED CARD OF 'viramalaw02.MendJoins'. -/
def mendJoinsCard : Claim7 := { stood := { row := mendJoinsRow, standIns := [], harness := (true, "822e430ff5491fec974cbef0bc7ee884d48109df54f761946011ca2d97a9158e"), looks := true }, kinds := [], alts := [], laidByText := true, laidKinds := [.sentinel, .sentinel, .sentinel], laidTests := true, laidLooks := .later }
def MendJoinsCardSaid : Prop := Claim7.holds Tryd.pinned (.plain (OpenSpec.ofChange mendJoinsSpec)) mendJoinsCard

/-- THE TIED CARD OF 'viramalaw02.MendWalks'. -/
def mendWalksCard : Claim7 := { stood := { row := mendWalksRow, standIns := [], harness := (true, "822e430ff5491fec974cbef0bc7ee884d48109df54f761946011ca2d97a9158e"), looks := true }, kinds := [], alts := [], laidByText := true, laidKinds := [.sentinel, .sentinel, .sentinel], laidTests := true, laidLooks := .later }
def MendWalksCardSaid : Prop := Claim7.holds Tryd.pinned (.plain (OpenSpec.ofChange mendWalksSpec)) mendWalksCard

/-- THE TIED CARD OF 'viramalaw02.MendRights'. -/
def mendRightsCard : Claim7 := { stood := { row := mendRightsRow, standIns := [], harness := (true, "822e430ff5491fec974cbef0bc7ee884d48109df54f761946011ca2d97a9158e"), looks := true }, kinds := [], alts := [], laidByText := true, laidKinds := [.sentinel, .sentinel, .sentinel], laidTests := true, laidLooks := .later }
def MendRightsCardSaid : Prop := Claim7.holds Tryd.pinned (.plain (OpenSpec.ofChange mendRightsSpec)) mendRightsCard

/-- THE TIED CARD OF 'viramalaw02.MendCounts'. -/
def mendCountsCard : Claim7 := { stood := { row := mendCountsRow, standIns := [], harness := (true, "822e430ff5491fec974cbef0bc7ee884d48109df54f761946011ca2d97a9158e"), looks := true }, kinds := [], alts := [], laidByText := true, laidKinds := [.sentinel, .sentinel, .sentinel], laidTests := true, laidLooks := .later }
def MendCountsCardSaid : Prop := Claim7.holds Tryd.pinned (.plain (OpenSpec.ofChange mendCountsSpec)) mendCountsCard

/-- THE SECOND FORM's CARD OF 'viramalaw02.MendSteps'. -/
def mendStepsUptoCard : Claim7 := { stood := { row := mendStepsUptoRow, standIns := [], harness := (true, "822e430ff5491fec974cbef0bc7ee884d48109df54f761946011ca2d97a9158e"), looks := true }, kinds := [], alts := [], laidByText := true, laidKinds := [.sentinel, .sentinel, .sentinel], laidTests := true, laidLooks := .later }
def MendStepsUptoCardSaid : Prop := Claim7.holds Tryd.pinned (.plain (OpenSpec.upto mendStepsSpec)) mendStepsUptoCard

/-- THE SECOND FORM's CARD OF 'viramalaw02.MendMakes'. -/
def mendMakesUptoCard : Claim7 := { stood := { row := mendMakesUptoRow, standIns := [], harness := (true, "822e430ff5491fec974cbef0bc7ee884d48109df54f761946011ca2d97a9158e"), looks := true }, kinds := [], alts := [], laidByText := true, laidKinds := [.sentinel, .sentinel, .sentinel], laidTests := true, laidLooks := .later }
def MendMakesUptoCardSaid : Prop := Claim7.holds Tryd.pinned (.plain (OpenSpec.upto mendMakesSpec)) mendMakesUptoCard

/-- THE SECOND FORM's CARD OF 'viramalaw02.MendParts'. -/
def mendPartsUptoCard : Claim7 := { stood := { row := mendPartsUptoRow, standIns := [], harness := (true, "822e430ff5491fec974cbef0bc7ee884d48109df54f761946011ca2d97a9158e"), looks := true }, kinds := [], alts := [], laidByText := true, laidKinds := [.sentinel, .sentinel, .sentinel], laidTests := true, laidLooks := .later }
def MendPartsUptoCardSaid : Prop := Claim7.holds Tryd.pinned (.plain (OpenSpec.upto mendPartsSpec)) mendPartsUptoCard

/-- THE SECOND FORM's CARD OF 'viramalaw02.MendJoins'. -/
def mendJoinsUptoCard : Claim7 := { stood := { row := mendJoinsUptoRow, standIns := [], harness := (true, "822e430ff5491fec974cbef0bc7ee884d48109df54f761946011ca2d97a9158e"), looks := true }, kinds := [], alts := [], laidByText := true, laidKinds := [.sentinel, .sentinel, .sentinel], laidTests := true, laidLooks := .later }
def MendJoinsUptoCardSaid : Prop := Claim7.holds Tryd.pinned (.plain (OpenSpec.upto mendJoinsSpec)) mendJoinsUptoCard

/-- THE SECOND FORM's CARD OF 'viramalaw02.MendWalks'. -/
def mendWalksUptoCard : Claim7 := { stood := { row := mendWalksUptoRow, standIns := [], harness := (true, "822e430ff5491fec974cbef0bc7ee884d48109df54f761946011ca2d97a9158e"), looks := true }, kinds := [], alts := [], laidByText := true, laidKinds := [.sentinel, .sentinel, .sentinel], laidTests := true, laidLooks := .later }
def MendWalksUptoCardSaid : Prop := Claim7.holds Tryd.pinned (.plain (OpenSpec.upto mendWalksSpec)) mendWalksUptoCard

/-- THE SECOND FORM's CARD OF 'viramalaw02.MendRights'. -/
def mendRightsUptoCard : Claim7 := { stood := { row := mendRightsUptoRow, standIns := [], harness := (true, "822e430ff5491fec974cbef0bc7ee884d48109df54f761946011ca2d97a9158e"), looks := true }, kinds := [], alts := [], laidByText := true, laidKinds := [.sentinel, .sentinel, .sentinel], laidTests := true, laidLooks := .later }
def MendRightsUptoCardSaid : Prop := Claim7.holds Tryd.pinned (.plain (OpenSpec.upto mendRightsSpec)) mendRightsUptoCard

/-- THE SECOND FORM's CARD OF 'viramalaw02.MendCounts'. -/
def mendCountsUptoCard : Claim7 := { stood := { row := mendCountsUptoRow, standIns := [], harness := (true, "822e430ff5491fec974cbef0bc7ee884d48109df54f761946011ca2d97a9158e"), looks := true }, kinds := [], alts := [], laidByText := true, laidKinds := [.sentinel, .sentinel, .sentinel], laidTests := true, laidLooks := .later }
def MendCountsUptoCardSaid : Prop := Claim7.holds Tryd.pinned (.plain (OpenSpec.upto mendCountsSpec)) mendCountsUptoCard
end Rows
end Go.Proofs.YtbagecjkfcoapaaDoor
