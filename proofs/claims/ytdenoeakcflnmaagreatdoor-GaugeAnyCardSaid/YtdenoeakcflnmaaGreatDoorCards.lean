/-
  DERIVED. GIVEN WITH THE SEED: THE CARDS: each row of YtdenoeakcflnmaaGreatDoorRows.lean that lists a variable, with what it lists TIED to the program's text (the seventh form; the later family's looks); each row that meets fmt, with fmt's text TOLD by the authors' own Lean function (tested against real Go, not proved from fmt's source: count such statements apart). THE CARD IS WHAT COUNTS. Prove the row's statement (the work); the ties are given (YtdenoeakcflnmaaGreatDoorTie.lean); close each card by the builder's one call (the guide's Derived/Test/ToyasCard.lean, 'card_holds'). Laid BY PROGRAM, IN A SANDBOX (cutbox-door.mjs). By AI agents, Wed Nov 11 2026. No macro, syntax, notation, axiom, sorry.
-/
import Derived.Test.YtdenoeakcflnmaaGreatDoorRows
import GoSem.ClaimSeven
namespace Go.Proofs.YtdenoeakcflnmaaGreatDoor
namespace Rows

/-- THE TIED CARD OF 'viramalaw18.GaugeWith'. -/
def gaugeWithCard : Claim7 := { stood := { row := gaugeWithRow, standIns := [], harness := (true, "07940ea3b11cfbafc6669fe668e3f5e501d0b7f085783f83df8982073fbe87f9"), looks := true }, kinds := [], alts := [], laidByText := true, laidKinds := [.handle, .sentinel, .sentinel, .sentinel, .sentinel, .sentinel, .sentinel, .sentinel, .sentinel, .sentinel, .sentinel], laidTests := true, laidLooks := .later }
def GaugeWithCardSaid : Prop := Claim7.holds Tryz.pinned (.plain (OpenSpec.ofChange gaugeWithSpec)) gaugeWithCard

/-- THE TIED CARD OF 'viramalaw18.GaugeSums'. -/
def gaugeSumsCard : Claim7 := { stood := { row := gaugeSumsRow, standIns := [], harness := (true, "07940ea3b11cfbafc6669fe668e3f5e501d0b7f085783f83df8982073fbe87f9"), looks := true }, kinds := [], alts := [], laidByText := true, laidKinds := [.handle, .sentinel, .sentinel, .sentinel, .sentinel, .sentinel, .sentinel, .sentinel, .sentinel, .sentinel, .sentinel], laidTests := true, laidLooks := .later }
def GaugeSumsCardSaid : Prop := Claim7.holds Tryz.pinned (.plain (OpenSpec.ofChange gaugeSumsSpec)) gaugeSumsCard

/-- THE TIED CARD OF 'viramalaw18.GaugeGoes'. -/
def gaugeGoesCard : Claim7 := { stood := { row := gaugeGoesRow, standIns := [], harness := (true, "07940ea3b11cfbafc6669fe668e3f5e501d0b7f085783f83df8982073fbe87f9"), looks := true }, kinds := [], alts := [], laidByText := true, laidKinds := [.handle, .sentinel, .sentinel, .sentinel, .sentinel, .sentinel, .sentinel, .sentinel, .sentinel, .sentinel, .sentinel], laidTests := true, laidLooks := .later }
def GaugeGoesCardSaid : Prop := Claim7.holds Tryz.pinned (.plain (OpenSpec.ofChange gaugeGoesSpec)) gaugeGoesCard

/-- THE TIED CARD OF 'viramalaw18.GaugeAny'. -/
def gaugeAnyCard : Claim7 := { stood := { row := gaugeAnyRow, standIns := [], harness := (true, "07940ea3b11cfbafc6669fe668e3f5e501d0b7f085783f83df8982073fbe87f9"), looks := true }, kinds := [], alts := [], laidByText := true, laidKinds := [.handle, .sentinel, .sentinel, .sentinel, .sentinel, .sentinel, .sentinel, .sentinel, .sentinel, .sentinel, .sentinel], laidTests := true, laidLooks := .later }
def GaugeAnyCardSaid : Prop := Claim7.holds Tryz.pinned (.plain (OpenSpec.ofChange gaugeAnySpec)) gaugeAnyCard

/-- THE TIED CARD OF 'viramalaw18.GaugeMeasures'. -/
def gaugeMeasuresCard : Claim7 := { stood := { row := gaugeMeasuresRow, standIns := [], harness := (true, "07940ea3b11cfbafc6669fe668e3f5e501d0b7f085783f83df8982073fbe87f9"), looks := true }, kinds := [], alts := [], laidByText := true, laidKinds := [.handle, .sentinel, .sentinel, .sentinel, .sentinel, .sentinel, .sentinel, .sentinel, .sentinel, .sentinel, .sentinel], laidTests := true, laidLooks := .later }
def GaugeMeasuresCardSaid : Prop := Claim7.holds Tryz.pinned (.plain (OpenSpec.ofChange gaugeMeasuresSpec)) gaugeMeasuresCard

/-- THE TIED CARD OF 'viramalaw18.GaugeFits'. -/
def gaugeFitsCard : Claim7 := { stood := { row := gaugeFitsRow, standIns := [], harness := (true, "07940ea3b11cfbafc6669fe668e3f5e501d0b7f085783f83df8982073fbe87f9"), looks := true }, kinds := [], alts := [], laidByText := true, laidKinds := [.handle, .sentinel, .sentinel, .sentinel, .sentinel, .sentinel, .sentinel, .sentinel, .sentinel, .sentinel, .sentinel], laidTests := true, laidLooks := .later }
def GaugeFitsCardSaid : Prop := Claim7.holds Tryz.pinned (.plain (OpenSpec.ofChange gaugeFitsSpec)) gaugeFitsCard

/-- THE TIED CARD OF 'viramalaw18.GaugeHeads'. -/
def gaugeHeadsCard : Claim7 := { stood := { row := gaugeHeadsRow, standIns := [], harness := (true, "07940ea3b11cfbafc6669fe668e3f5e501d0b7f085783f83df8982073fbe87f9"), looks := true }, kinds := [], alts := [], laidByText := true, laidKinds := [.handle, .sentinel, .sentinel, .sentinel, .sentinel, .sentinel, .sentinel, .sentinel, .sentinel, .sentinel, .sentinel], laidTests := true, laidLooks := .later }
def GaugeHeadsCardSaid : Prop := Claim7.holds Tryz.pinned (.plain (OpenSpec.ofChange gaugeHeadsSpec)) gaugeHeadsCard

/-- THE TIED CARD OF 'viramalaw18.GaugeKinds'. -/
def gaugeKindsCard : Claim7 := { stood := { row := gaugeKindsRow, standIns := [], harness := (true, "07940ea3b11cfbafc6669fe668e3f5e501d0b7f085783f83df8982073fbe87f9"), looks := true }, kinds := [], alts := [], laidByText := true, laidKinds := [.handle, .sentinel, .sentinel, .sentinel, .sentinel, .sentinel, .sentinel, .sentinel, .sentinel, .sentinel, .sentinel], laidTests := true, laidLooks := .later }
def GaugeKindsCardSaid : Prop := Claim7.holds Tryz.pinned (.plain (OpenSpec.ofChange gaugeKindsSpec)) gaugeKindsCard

/-- THE SECOND FORM's CARD OF 'viramalaw18.GaugeWith'. -/
def gaugeWithUptoCard : Claim7 := { stood := { row := gaugeWithUptoRow, standIns := [], harness := (true, "07940ea3b11cfbafc6669fe668e3f5e501d0b7f085783f83df8982073fbe87f9"), looks := true }, kinds := [], alts := [], laidByText := true, laidKinds := [.handle, .sentinel, .sentinel, .sentinel, .sentinel, .sentinel, .sentinel, .sentinel, .sentinel, .sentinel, .sentinel], laidTests := true, laidLooks := .later }
def GaugeWithUptoCardSaid : Prop := Claim7.holds Tryz.pinned (.plain (OpenSpec.upto gaugeWithSpec)) gaugeWithUptoCard

/-- THE SECOND FORM's CARD OF 'viramalaw18.GaugeSums'. -/
def gaugeSumsUptoCard : Claim7 := { stood := { row := gaugeSumsUptoRow, standIns := [], harness := (true, "07940ea3b11cfbafc6669fe668e3f5e501d0b7f085783f83df8982073fbe87f9"), looks := true }, kinds := [], alts := [], laidByText := true, laidKinds := [.handle, .sentinel, .sentinel, .sentinel, .sentinel, .sentinel, .sentinel, .sentinel, .sentinel, .sentinel, .sentinel], laidTests := true, laidLooks := .later }
def GaugeSumsUptoCardSaid : Prop := Claim7.holds Tryz.pinned (.plain (OpenSpec.upto gaugeSumsSpec)) gaugeSumsUptoCard

/-- THE SECOND FORM's CARD OF 'viramalaw18.GaugeGoes'. -/
def gaugeGoesUptoCard : Claim7 := { stood := { row := gaugeGoesUptoRow, standIns := [], harness := (true, "07940ea3b11cfbafc6669fe668e3f5e501d0b7f085783f83df8982073fbe87f9"), looks := true }, kinds := [], alts := [], laidByText := true, laidKinds := [.handle, .sentinel, .sentinel, .sentinel, .sentinel, .sentinel, .sentinel, .sentinel, .sentinel, .sentinel, .sentinel], laidTests := true, laidLooks := .later }
def GaugeGoesUptoCardSaid : Prop := Claim7.holds Tryz.pinned (.plain (OpenSpec.upto gaugeGoesSpec)) gaugeGoesUptoCard

/-- THE SECOND FORM's CARD OF 'viramalaw18.GaugeAny'. -/
def gaugeAnyUptoCard : Claim7 := { stood := { row := gaugeAnyUptoRow, standIns := [], harness := (true, "07940ea3b11cfbafc6669fe668e3f5e501d0b7f085783f83df8982073fbe87f9"), looks := true }, kinds := [], alts := [], laidByText := true, laidKinds := [.handle, .sentinel, .sentinel, .sentinel, .sentinel, .sentinel, .sentinel, .sentinel, .sentinel, .sentinel, .sentinel], laidTests := true, laidLooks := .later }
def GaugeAnyUptoCardSaid : Prop := Claim7.holds Tryz.pinned (.plain (OpenSpec.upto gaugeAnySpec)) gaugeAnyUptoCard

/-- THE SECOND FORM's CARD OF 'viramalaw18.GaugeMeasures'. -/
def gaugeMeasuresUptoCard : Claim7 := { stood := { row := gaugeMeasuresUptoRow, standIns := [], harness := (true, "07940ea3b11cfbafc6669fe668e3f5e501d0b7f085783f83df8982073fbe87f9"), looks := true }, kinds := [], alts := [], laidByText := true, laidKinds := [.handle, .sentinel, .sentinel, .sentinel, .sentinel, .sentinel, .sentinel, .sentinel, .sentinel, .sentinel, .sentinel], laidTests := true, laidLooks := .later }
def GaugeMeasuresUptoCardSaid : Prop := Claim7.holds Tryz.pinned (.plain (OpenSpec.upto gaugeMeasuresSpec)) gaugeMeasuresUptoCard

/-- THE SECOND FORM's CARD OF 'viramalaw18.GaugeFits'. -/
def gaugeFitsUptoCard : Claim7 := { stood := { row := gaugeFitsUptoRow, standIns := [], harness := (true, "07940ea3b11cfbafc6669fe668e3f5e501d0b7f085783f83df8982073fbe87f9"), looks := true }, kinds := [], alts := [], laidByText := true, laidKinds := [.handle, .sentinel, .sentinel, .sentinel, .sentinel, .sentinel, .sentinel, .sentinel, .sentinel, .sentinel, .sentinel], laidTests := true, laidLooks := .later }
def GaugeFitsUptoCardSaid : Prop := Claim7.holds Tryz.pinned (.plain (OpenSpec.upto gaugeFitsSpec)) gaugeFitsUptoCard

/-- THE SECOND FORM's CARD OF 'viramalaw18.GaugeHeads'. -/
def gaugeHeadsUptoCard : Claim7 := { stood := { row := gaugeHeadsUptoRow, standIns := [], harness := (true, "07940ea3b11cfbafc6669fe668e3f5e501d0b7f085783f83df8982073fbe87f9"), looks := true }, kinds := [], alts := [], laidByText := true, laidKinds := [.handle, .sentinel, .sentinel, .sentinel, .sentinel, .sentinel, .sentinel, .sentinel, .sentinel, .sentinel, .sentinel], laidTests := true, laidLooks := .later }
def GaugeHeadsUptoCardSaid : Prop := Claim7.holds Tryz.pinned (.plain (OpenSpec.upto gaugeHeadsSpec)) gaugeHeadsUptoCard

/-- THE SECOND FORM's CARD OF 'viramalaw18.GaugeKinds'. -/
def gaugeKindsUptoCard : Claim7 := { stood := { row := gaugeKindsUptoRow, standIns := [], harness := (true, "07940ea3b11cfbafc6669fe668e3f5e501d0b7f085783f83df8982073fbe87f9"), looks := true }, kinds := [], alts := [], laidByText := true, laidKinds := [.handle, .sentinel, .sentinel, .sentinel, .sentinel, .sentinel, .sentinel, .sentinel, .sentinel, .sentinel, .sentinel], laidTests := true, laidLooks := .later }
def GaugeKindsUptoCardSaid : Prop := Claim7.holds Tryz.pinned (.plain (OpenSpec.upto gaugeKindsSpec)) gaugeKindsUptoCard
end Rows
end Go.Proofs.YtdenoeakcflnmaaGreatDoor
