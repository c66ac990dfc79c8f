/-
  DERIVED. GIVEN WITH THE SEED: THE CARDS: each row of YtonpgokgbaemfaaDoorRows.lean that lists a variable, with what it lists TIED to the program's text (the seventh form; the later family's looks); each row that meets fmt, with fmt's text TOLD by the authors' own Lean function (tested against real Go, not proved from fmt's source: count such statements apart). THE CARD IS WHAT COUNTS. Prove the row's statement (the work); the ties are given (YtonpgokgbaemfaaDoorTie.lean); close each card by the builder's one call (the guide's Derived/Test/ToyasCard.lean, 'card_holds'). Laid BY PROGRAM, IN A SANDBOX (cutbox-door.mjs). By AI agents, Wed Nov 11 2026. No macro, syntax, notation, axiom, sorry.
-/
import Derived.Test.YtonpgokgbaemfaaDoorRows
import GoSem.ClaimSeven
namespace Go.Proofs.YtonpgokgbaemfaaDoor
namespace Rows

/-- THE TIED CARD OF 'viramalaw10.NfaRuns'. -/
def nfaRunsCard : Claim7 := { stood := { row := nfaRunsRow, standIns := [], harness := (true, "b94380fb0102d9263f949098073453cf865967a4c646bc6c77693065d4dad038"), looks := true }, kinds := [], alts := [], laidByText := true, laidKinds := [.sentinel], laidTests := true, laidLooks := .later }
def NfaRunsCardSaid : Prop := Claim7.holds Tryd.pinned (.plain (OpenSpec.ofChange nfaRunsSpec)) nfaRunsCard

/-- THE TIED CARD OF 'viramalaw10.NfaUnions'. -/
def nfaUnionsCard : Claim7 := { stood := { row := nfaUnionsRow, standIns := [], harness := (true, "b94380fb0102d9263f949098073453cf865967a4c646bc6c77693065d4dad038"), looks := true }, kinds := [], alts := [], laidByText := true, laidKinds := [.sentinel], laidTests := true, laidLooks := .later }
def NfaUnionsCardSaid : Prop := Claim7.holds Tryd.pinned (.plain (OpenSpec.ofChange nfaUnionsSpec)) nfaUnionsCard

/-- THE TIED CARD OF 'viramalaw10.NfaParts'. -/
def nfaPartsCard : Claim7 := { stood := { row := nfaPartsRow, standIns := [], harness := (true, "b94380fb0102d9263f949098073453cf865967a4c646bc6c77693065d4dad038"), looks := true }, kinds := [], alts := [], laidByText := true, laidKinds := [.sentinel], laidTests := true, laidLooks := .later }
def NfaPartsCardSaid : Prop := Claim7.holds Tryd.pinned (.plain (OpenSpec.ofChange nfaPartsSpec)) nfaPartsCard

/-- THE TIED CARD OF 'viramalaw10.NfaWithin'. -/
def nfaWithinCard : Claim7 := { stood := { row := nfaWithinRow, standIns := [], harness := (true, "b94380fb0102d9263f949098073453cf865967a4c646bc6c77693065d4dad038"), looks := true }, kinds := [], alts := [], laidByText := true, laidKinds := [.sentinel], laidTests := true, laidLooks := .later }
def NfaWithinCardSaid : Prop := Claim7.holds Tryd.pinned (.plain (OpenSpec.ofChange nfaWithinSpec)) nfaWithinCard

/-- THE TIED CARD OF 'viramalaw10.NfaStart'. -/
def nfaStartCard : Claim7 := { stood := { row := nfaStartRow, standIns := [], harness := (true, "b94380fb0102d9263f949098073453cf865967a4c646bc6c77693065d4dad038"), looks := true }, kinds := [], alts := [], laidByText := true, laidKinds := [.sentinel], laidTests := true, laidLooks := .later }
def NfaStartCardSaid : Prop := Claim7.holds Tryd.pinned (.plain (OpenSpec.ofChange nfaStartSpec)) nfaStartCard

/-- THE TIED CARD OF 'viramalaw10.NfaSteps'. -/
def nfaStepsCard : Claim7 := { stood := { row := nfaStepsRow, standIns := [], harness := (true, "b94380fb0102d9263f949098073453cf865967a4c646bc6c77693065d4dad038"), looks := true }, kinds := [], alts := [], laidByText := true, laidKinds := [.sentinel], laidTests := true, laidLooks := .later }
def NfaStepsCardSaid : Prop := Claim7.holds Tryd.pinned (.plain (OpenSpec.ofChange nfaStepsSpec)) nfaStepsCard

/-- THE SECOND FORM's CARD OF 'viramalaw10.NfaRuns'. -/
def nfaRunsUptoCard : Claim7 := { stood := { row := nfaRunsUptoRow, standIns := [], harness := (true, "b94380fb0102d9263f949098073453cf865967a4c646bc6c77693065d4dad038"), looks := true }, kinds := [], alts := [], laidByText := true, laidKinds := [.sentinel], laidTests := true, laidLooks := .later }
def NfaRunsUptoCardSaid : Prop := Claim7.holds Tryd.pinned (.plain (OpenSpec.upto nfaRunsSpec)) nfaRunsUptoCard

/-- THE SECOND FORM's CARD OF 'viramalaw10.NfaUnions'. -/
def nfaUnionsUptoCard : Claim7 := { stood := { row := nfaUnionsUptoRow, standIns := [], harness := (true, "b94380fb0102d9263f949098073453cf865967a4c646bc6c77693065d4dad038"), looks := true }, kinds := [], alts := [], laidByText := true, laidKinds := [.sentinel], laidTests := true, laidLooks := .later }
def NfaUnionsUptoCardSaid : Prop := Claim7.holds Tryd.pinned (.plain (OpenSpec.upto nfaUnionsSpec)) nfaUnionsUptoCard

/-- THE SECOND FORM's CARD OF 'viramalaw10.NfaParts'. -/
def nfaPartsUptoCard : Claim7 := { stood := { row := nfaPartsUptoRow, standIns := [], harness := (true, "b94380fb0102d9263f949098073453cf865967a4c646bc6c77693065d4dad038"), looks := true }, kinds := [], alts := [], laidByText := true, laidKinds := [.sentinel], laidTests := true, laidLooks := .later }
def NfaPartsUptoCardSaid : Prop := Claim7.holds Tryd.pinned (.plain (OpenSpec.upto nfaPartsSpec)) nfaPartsUptoCard

/-- THE SECOND FORM's CARD OF 'viramalaw10.NfaWithin'. -/
def nfaWithinUptoCard : Claim7 := { stood := { row := nfaWithinUptoRow, standIns := [], harness := (true, "b94380fb0102d9263f949098073453cf865967a4c646bc6c77693065d4dad038"), looks := true }, kinds := [], alts := [], laidByText := true, laidKinds := [.sentinel], laidTests := true, laidLooks := .later }
def NfaWithinUptoCardSaid : Prop := Claim7.holds Tryd.pinned (.plain (OpenSpec.upto nfaWithinSpec)) nfaWithinUptoCard

/-- THE SECOND FORM's CARD OF 'viramalaw10.NfaStart'. -/
def nfaStartUptoCard : Claim7 := { stood := { row := nfaStartUptoRow, standIns := [], harness := (true, "b94380fb0102d9263f949098073453cf865967a4c646bc6c77693065d4dad038"), looks := true }, kinds := [], alts := [], laidByText := true, laidKinds := [.sentinel], laidTests := true, laidLooks := .later }
def NfaStartUptoCardSaid : Prop := Claim7.holds Tryd.pinned (.plain (OpenSpec.upto nfaStartSpec)) nfaStartUptoCard

/-- THE SECOND FORM's CARD OF 'viramalaw10.NfaSteps'. -/
def nfaStepsUptoCard : Claim7 := { stood := { row := nfaStepsUptoRow, standIns := [], harness := (true, "b94380fb0102d9263f949098073453cf865967a4c646bc6c77693065d4dad038"), looks := true }, kinds := [], alts := [], laidByText := true, laidKinds := [.sentinel], laidTests := true, laidLooks := .later }
def NfaStepsUptoCardSaid : Prop := Claim7.holds Tryd.pinned (.plain (OpenSpec.upto nfaStepsSpec)) nfaStepsUptoCard
end Rows
end Go.Proofs.YtonpgokgbaemfaaDoor
