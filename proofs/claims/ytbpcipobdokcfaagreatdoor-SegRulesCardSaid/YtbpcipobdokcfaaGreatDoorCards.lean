/-
  DERIVED. GIVEN WITH THE SEED: THE CARDS: each row of YtbpcipobdokcfaaGreatDoorRows.lean that lists a variable, with what it lists TIED to the program's text (the seventh form; the later family's looks); each row that meets fmt, with fmt's text TOLD by the authors' own Lean function (tested against real Go, not proved from fmt's source: count such statements apart). THE CARD IS WHAT COUNTS. Prove the row's statement (the work); the ties are given (YtbpcipobdokcfaaGreatDoorTie.lean); close each card by the builder's one call (the guide's Derived/Test/ToyasCard.lean, 'card_holds'). Laid BY PROGRAM, IN A SANDBOX (cutbox-door.mjs). By AI agents, Wed Nov 11 2026. No macro, syntax, notation, axiom, sorry.
-/
import Derived.Test.YtbpcipobdokcfaaGreatDoorRows
import GoSem.ClaimSeven
namespace Go.Proofs.YtbpcipobdokcfaaGreatDoor
namespace Rows

/-- THE TIED CARD OF 'viramalaw13.SegCuts'. -/
def segCutsCard : Claim7 := { stood := { row := segCutsRow, standIns := [], harness := (true, "6d9ac1cf2a2ddce83b51a391056e20a9a927db34afcfaf93a1ef3ada18af7694"), looks := true }, kinds := [], alts := [], laidByText := true, laidKinds := [.sentinel, .sentinel, .sentinel], laidTests := true, laidLooks := .later }
def SegCutsCardSaid : Prop := Claim7.holds Tryz.pinned (.plain (OpenSpec.ofChange segCutsSpec)) segCutsCard

/-- THE TIED CARD OF 'viramalaw13.SegSteps'. -/
def segStepsCard : Claim7 := { stood := { row := segStepsRow, standIns := [], harness := (true, "6d9ac1cf2a2ddce83b51a391056e20a9a927db34afcfaf93a1ef3ada18af7694"), looks := true }, kinds := [], alts := [], laidByText := true, laidKinds := [.sentinel, .sentinel, .sentinel], laidTests := true, laidLooks := .later }
def SegStepsCardSaid : Prop := Claim7.holds Tryz.pinned (.plain (OpenSpec.ofChange segStepsSpec)) segStepsCard

/-- THE TIED CARD OF 'viramalaw13.SegAll'. -/
def segAllCard : Claim7 := { stood := { row := segAllRow, standIns := [], harness := (true, "6d9ac1cf2a2ddce83b51a391056e20a9a927db34afcfaf93a1ef3ada18af7694"), looks := true }, kinds := [], alts := [], laidByText := true, laidKinds := [.sentinel, .sentinel, .sentinel], laidTests := true, laidLooks := .later }
def SegAllCardSaid : Prop := Claim7.holds Tryz.pinned (.plain (OpenSpec.ofChange segAllSpec)) segAllCard

/-- THE TIED CARD OF 'viramalaw13.SegBreaks'. -/
def segBreaksCard : Claim7 := { stood := { row := segBreaksRow, standIns := [], harness := (true, "6d9ac1cf2a2ddce83b51a391056e20a9a927db34afcfaf93a1ef3ada18af7694"), looks := true }, kinds := [], alts := [], laidByText := true, laidKinds := [.sentinel, .sentinel, .sentinel], laidTests := true, laidLooks := .later }
def SegBreaksCardSaid : Prop := Claim7.holds Tryz.pinned (.plain (OpenSpec.ofChange segBreaksSpec)) segBreaksCard

/-- THE TIED CARD OF 'viramalaw13.SegTells'. -/
def segTellsCard : Claim7 := { stood := { row := segTellsRow, standIns := [], harness := (true, "6d9ac1cf2a2ddce83b51a391056e20a9a927db34afcfaf93a1ef3ada18af7694"), looks := true }, kinds := [], alts := [], laidByText := true, laidKinds := [.sentinel, .sentinel, .sentinel], laidTests := true, laidLooks := .later }
def SegTellsCardSaid : Prop := Claim7.holds Tryz.pinned (.plain (OpenSpec.ofChange segTellsSpec)) segTellsCard

/-- THE TIED CARD OF 'viramalaw13.SegShifts'. -/
def segShiftsCard : Claim7 := { stood := { row := segShiftsRow, standIns := [], harness := (true, "6d9ac1cf2a2ddce83b51a391056e20a9a927db34afcfaf93a1ef3ada18af7694"), looks := true }, kinds := [], alts := [], laidByText := true, laidKinds := [.sentinel, .sentinel, .sentinel], laidTests := true, laidLooks := .later }
def SegShiftsCardSaid : Prop := Claim7.holds Tryz.pinned (.plain (OpenSpec.ofChange segShiftsSpec)) segShiftsCard

/-- THE TIED CARD OF 'viramalaw13.SegRules'. -/
def segRulesCard : Claim7 := { stood := { row := segRulesRow, standIns := [], harness := (true, "6d9ac1cf2a2ddce83b51a391056e20a9a927db34afcfaf93a1ef3ada18af7694"), looks := true }, kinds := [], alts := [], laidByText := true, laidKinds := [.sentinel, .sentinel, .sentinel, .sentinel], laidTests := true, laidLooks := .later }
def SegRulesCardSaid : Prop := Claim7.holds Tryz.pinned (.plain (OpenSpec.ofChange segRulesSpec)) segRulesCard

/-- THE SECOND FORM's CARD OF 'viramalaw13.SegCuts'. -/
def segCutsUptoCard : Claim7 := { stood := { row := segCutsUptoRow, standIns := [], harness := (true, "6d9ac1cf2a2ddce83b51a391056e20a9a927db34afcfaf93a1ef3ada18af7694"), looks := true }, kinds := [], alts := [], laidByText := true, laidKinds := [.sentinel, .sentinel, .sentinel], laidTests := true, laidLooks := .later }
def SegCutsUptoCardSaid : Prop := Claim7.holds Tryz.pinned (.plain (OpenSpec.upto segCutsSpec)) segCutsUptoCard

/-- THE SECOND FORM's CARD OF 'viramalaw13.SegSteps'. -/
def segStepsUptoCard : Claim7 := { stood := { row := segStepsUptoRow, standIns := [], harness := (true, "6d9ac1cf2a2ddce83b51a391056e20a9a927db34afcfaf93a1ef3ada18af7694"), looks := true }, kinds := [], alts := [], laidByText := true, laidKinds := [.sentinel, .sentinel, .sentinel], laidTests := true, laidLooks := .later }
def SegStepsUptoCardSaid : Prop := Claim7.holds Tryz.pinned (.plain (OpenSpec.upto segStepsSpec)) segStepsUptoCard

/-- THE SECOND FORM's CARD OF 'viramalaw13.SegAll'. -/
def segAllUptoCard : Claim7 := { stood := { row := segAllUptoRow, standIns := [], harness := (true, "6d9ac1cf2a2ddce83b51a391056e20a9a927db34afcfaf93a1ef3ada18af7694"), looks := true }, kinds := [], alts := [], laidByText := true, laidKinds := [.sentinel, .sentinel, .sentinel], laidTests := true, laidLooks := .later }
def SegAllUptoCardSaid : Prop := Claim7.holds Tryz.pinned (.plain (OpenSpec.upto segAllSpec)) segAllUptoCard

/-- THE SECOND FORM's CARD OF 'viramalaw13.SegBreaks'. -/
def segBreaksUptoCard : Claim7 := { stood := { row := segBreaksUptoRow, standIns := [], harness := (true, "6d9ac1cf2a2ddce83b51a391056e20a9a927db34afcfaf93a1ef3ada18af7694"), looks := true }, kinds := [], alts := [], laidByText := true, laidKinds := [.sentinel, .sentinel, .sentinel], laidTests := true, laidLooks := .later }
def SegBreaksUptoCardSaid : Prop := Claim7.holds Tryz.pinned (.plain (OpenSpec.upto segBreaksSpec)) segBreaksUptoCard

/-- THE SECOND FORM's CARD OF 'viramalaw13.SegTells'. -/
def segTellsUptoCard : Claim7 := { stood := { row := segTellsUptoRow, standIns := [], harness := (true, "6d9ac1cf2a2ddce83b51a391056e20a9a927db34afcfaf93a1ef3ada18af7694"), looks := true }, kinds := [], alts := [], laidByText := true, laidKinds := [.sentinel, .sentinel, .sentinel], laidTests := true, laidLooks := .later }
def SegTellsUptoCardSaid : Prop := Claim7.holds Tryz.pinned (.plain (OpenSpec.upto segTellsSpec)) segTellsUptoCard

/-- THE SECOND FORM's CARD OF 'viramalaw13.SegShifts'. -/
def segShiftsUptoCard : Claim7 := { stood := { row := segShiftsUptoRow, standIns := [], harness := (true, "6d9ac1cf2a2ddce83b51a391056e20a9a927db34afcfaf93a1ef3ada18af7694"), looks := true }, kinds := [], alts := [], laidByText := true, laidKinds := [.sentinel, .sentinel, .sentinel], laidTests := true, laidLooks := .later }
def SegShiftsUptoCardSaid : Prop := Claim7.holds Tryz.pinned (.plain (OpenSpec.upto segShiftsSpec)) segShiftsUptoCard

/-- THE SECOND FORM's CARD OF 'viramalaw13.SegRules'. -/
def segRulesUptoCard : Claim7 := { stood := { row := segRulesUptoRow, standIns := [], harness := (true, "6d9ac1cf2a2ddce83b51a391056e20a9a927db34afcfaf93a1ef3ada18af7694"), looks := true }, kinds := [], alts := [], laidByText := true, laidKinds := [.sentinel, .sentinel, .sentinel, .sentinel], laidTests := true, laidLooks := .later }
def SegRulesUptoCardSaid : Prop := Claim7.holds Tryz.pinned (.plain (OpenSpec.upto segRulesSpec)) segRulesUptoCard
end Rows
end Go.Proofs.YtbpcipobdokcfaaGreatDoor
