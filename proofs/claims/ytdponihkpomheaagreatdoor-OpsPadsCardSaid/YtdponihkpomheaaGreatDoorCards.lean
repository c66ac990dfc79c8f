/-
  DERIVED. GIVEN WITH THE SEED: THE CARDS: each row of YtdponihkpomheaaGreatDoorRows.lean that lists a variable, with what it lists TIED to the program's text (the seventh form; the later family's looks); each row that meets fmt, with fmt's text TOLD by the authors' own Lean function (tested against real Go, not proved from fmt's source: count such statements apart). THE CARD IS WHAT COUNTS. Prove the row's statement (the work); the ties are given (YtdponihkpomheaaGreatDoorTie.lean); close each card by the builder's one call (the guide's Derived/Test/ToyasCard.lean, 'card_holds'). Laid BY PROGRAM, IN A SANDBOX (cutbox-door.mjs). By AI agents, Wed Nov 11 2026. No macro, syntax, notation, axiom, sorry.
-/
import Derived.Test.YtdponihkpomheaaGreatDoorRows
import GoSem.ClaimSeven
namespace Go.Proofs.YtdponihkpomheaaGreatDoor
namespace Rows

/-- THE TIED CARD OF 'viramalaw19.OpsTruncates'. -/
def opsTruncatesCard : Claim7 := { stood := { row := opsTruncatesRow, standIns := [], harness := (true, "1c939b39171ead6302d3511fc9161381519fad6a15934627edcb725e667007df"), looks := true }, kinds := [], alts := [], laidByText := true, laidKinds := [.handle, .sentinel, .sentinel, .sentinel, .sentinel, .sentinel, .sentinel, .sentinel, .sentinel, .sentinel, .sentinel, .sentinel, .sentinel, .sentinel, .sentinel], laidTests := true, laidLooks := .later }
def OpsTruncatesCardSaid : Prop := Claim7.holds Tryz.pinned (.plain (OpenSpec.ofChange opsTruncatesSpec)) opsTruncatesCard

/-- THE TIED CARD OF 'viramalaw19.OpsCuts'. -/
def opsCutsCard : Claim7 := { stood := { row := opsCutsRow, standIns := [], harness := (true, "1c939b39171ead6302d3511fc9161381519fad6a15934627edcb725e667007df"), looks := true }, kinds := [], alts := [], laidByText := true, laidKinds := [.handle, .sentinel, .sentinel, .sentinel, .sentinel, .sentinel, .sentinel, .sentinel, .sentinel, .sentinel, .sentinel, .sentinel, .sentinel, .sentinel, .sentinel], laidTests := true, laidLooks := .later }
def OpsCutsCardSaid : Prop := Claim7.holds Tryz.pinned (.plain (OpenSpec.ofChange opsCutsSpec)) opsCutsCard

/-- THE TIED CARD OF 'viramalaw19.OpsPads'. -/
def opsPadsCard : Claim7 := { stood := { row := opsPadsRow, standIns := [], harness := (true, "1c939b39171ead6302d3511fc9161381519fad6a15934627edcb725e667007df"), looks := true }, kinds := [], alts := [], laidByText := true, laidKinds := [.handle, .sentinel, .sentinel, .sentinel, .sentinel, .sentinel, .sentinel, .sentinel, .sentinel, .sentinel, .sentinel, .sentinel, .sentinel, .sentinel, .sentinel], laidTests := true, laidLooks := .later }
def OpsPadsCardSaid : Prop := Claim7.holds Tryz.pinned (.plain (OpenSpec.ofChange opsPadsSpec)) opsPadsCard

/-- THE TIED CARD OF 'viramalaw19.OpsEnds'. -/
def opsEndsCard : Claim7 := { stood := { row := opsEndsRow, standIns := [], harness := (true, "1c939b39171ead6302d3511fc9161381519fad6a15934627edcb725e667007df"), looks := true }, kinds := [], alts := [], laidByText := true, laidKinds := [.handle, .sentinel, .sentinel, .sentinel, .sentinel, .sentinel, .sentinel, .sentinel, .sentinel, .sentinel, .sentinel, .sentinel, .sentinel, .sentinel, .sentinel], laidTests := true, laidLooks := .later }
def OpsEndsCardSaid : Prop := Claim7.holds Tryz.pinned (.plain (OpenSpec.ofChange opsEndsSpec)) opsEndsCard

/-- THE TIED CARD OF 'viramalaw19.OpsSubs'. -/
def opsSubsCard : Claim7 := { stood := { row := opsSubsRow, standIns := [], harness := (true, "1c939b39171ead6302d3511fc9161381519fad6a15934627edcb725e667007df"), looks := true }, kinds := [], alts := [], laidByText := true, laidKinds := [.handle, .sentinel, .sentinel, .sentinel, .sentinel, .sentinel, .sentinel, .sentinel, .sentinel, .sentinel, .sentinel, .sentinel, .sentinel, .sentinel, .sentinel], laidTests := true, laidLooks := .later }
def OpsSubsCardSaid : Prop := Claim7.holds Tryz.pinned (.plain (OpenSpec.ofChange opsSubsSpec)) opsSubsCard

/-- THE TIED CARD OF 'viramalaw19.OpsTurned'. -/
def opsTurnedCard : Claim7 := { stood := { row := opsTurnedRow, standIns := [], harness := (true, "1c939b39171ead6302d3511fc9161381519fad6a15934627edcb725e667007df"), looks := true }, kinds := [], alts := [], laidByText := true, laidKinds := [.handle, .sentinel, .sentinel, .sentinel, .sentinel, .sentinel, .sentinel, .sentinel, .sentinel, .sentinel, .sentinel, .sentinel, .sentinel, .sentinel, .sentinel], laidTests := true, laidLooks := .later }
def OpsTurnedCardSaid : Prop := Claim7.holds Tryz.pinned (.plain (OpenSpec.ofChange opsTurnedSpec)) opsTurnedCard

/-- THE TIED CARD OF 'viramalaw19.OpsSides'. -/
def opsSidesCard : Claim7 := { stood := { row := opsSidesRow, standIns := [], harness := (true, "1c939b39171ead6302d3511fc9161381519fad6a15934627edcb725e667007df"), looks := true }, kinds := [], alts := [], laidByText := true, laidKinds := [.handle, .sentinel, .sentinel, .sentinel, .sentinel, .sentinel, .sentinel, .sentinel, .sentinel, .sentinel, .sentinel, .sentinel, .sentinel, .sentinel, .sentinel], laidTests := true, laidLooks := .later }
def OpsSidesCardSaid : Prop := Claim7.holds Tryz.pinned (.plain (OpenSpec.ofChange opsSidesSpec)) opsSidesCard

/-- THE TIED CARD OF 'viramalaw19.OpsBack'. -/
def opsBackCard : Claim7 := { stood := { row := opsBackRow, standIns := [], harness := (true, "1c939b39171ead6302d3511fc9161381519fad6a15934627edcb725e667007df"), looks := true }, kinds := [], alts := [], laidByText := true, laidKinds := [.handle, .sentinel, .sentinel, .sentinel, .sentinel, .sentinel, .sentinel, .sentinel, .sentinel, .sentinel, .sentinel, .sentinel, .sentinel, .sentinel, .sentinel], laidTests := true, laidLooks := .later }
def OpsBackCardSaid : Prop := Claim7.holds Tryz.pinned (.plain (OpenSpec.ofChange opsBackSpec)) opsBackCard

/-- THE TIED CARD OF 'viramalaw19.OpsClips'. -/
def opsClipsCard : Claim7 := { stood := { row := opsClipsRow, standIns := [], harness := (true, "1c939b39171ead6302d3511fc9161381519fad6a15934627edcb725e667007df"), looks := true }, kinds := [], alts := [], laidByText := true, laidKinds := [.handle, .sentinel, .sentinel, .sentinel, .sentinel, .sentinel, .sentinel, .sentinel, .sentinel, .sentinel, .sentinel, .sentinel, .sentinel, .sentinel, .sentinel], laidTests := true, laidLooks := .later }
def OpsClipsCardSaid : Prop := Claim7.holds Tryz.pinned (.plain (OpenSpec.ofChange opsClipsSpec)) opsClipsCard

/-- THE TIED CARD OF 'viramalaw19.OpsJoins'. -/
def opsJoinsCard : Claim7 := { stood := { row := opsJoinsRow, standIns := [], harness := (true, "1c939b39171ead6302d3511fc9161381519fad6a15934627edcb725e667007df"), looks := true }, kinds := [], alts := [], laidByText := true, laidKinds := [.handle, .sentinel, .sentinel, .sentinel, .sentinel, .sentinel, .sentinel, .sentinel, .sentinel, .sentinel, .sentinel, .sentinel, .sentinel, .sentinel, .sentinel], laidTests := true, laidLooks := .later }
def OpsJoinsCardSaid : Prop := Claim7.holds Tryz.pinned (.plain (OpenSpec.ofChange opsJoinsSpec)) opsJoinsCard

/-- THE SECOND FORM's CARD OF 'viramalaw19.OpsTruncates'. -/
def opsTruncatesUptoCard : Claim7 := { stood := { row := opsTruncatesUptoRow, standIns := [], harness := (true, "1c939b39171ead6302d3511fc9161381519fad6a15934627edcb725e667007df"), looks := true }, kinds := [], alts := [], laidByText := true, laidKinds := [.handle, .sentinel, .sentinel, .sentinel, .sentinel, .sentinel, .sentinel, .sentinel, .sentinel, .sentinel, .sentinel, .sentinel, .sentinel, .sentinel, .sentinel], laidTests := true, laidLooks := .later }
def OpsTruncatesUptoCardSaid : Prop := Claim7.holds Tryz.pinned (.plain (OpenSpec.upto opsTruncatesSpec)) opsTruncatesUptoCard

/-- THE SECOND FORM's CARD OF 'viramalaw19.OpsCuts'. -/
def opsCutsUptoCard : Claim7 := { stood := { row := opsCutsUptoRow, standIns := [], harness := (true, "1c939b39171ead6302d3511fc9161381519fad6a15934627edcb725e667007df"), looks := true }, kinds := [], alts := [], laidByText := true, laidKinds := [.handle, .sentinel, .sentinel, .sentinel, .sentinel, .sentinel, .sentinel, .sentinel, .sentinel, .sentinel, .sentinel, .sentinel, .sentinel, .sentinel, .sentinel], laidTests := true, laidLooks := .later }
def OpsCutsUptoCardSaid : Prop := Claim7.holds Tryz.pinned (.plain (OpenSpec.upto opsCutsSpec)) opsCutsUptoCard

/-- THE SECOND FORM's CARD OF 'viramalaw19.OpsPads'. -/
def opsPadsUptoCard : Claim7 := { stood := { row := opsPadsUptoRow, standIns := [], harness := (true, "1c939b39171ead6302d3511fc9161381519fad6a15934627edcb725e667007df"), looks := true }, kinds := [], alts := [], laidByText := true, laidKinds := [.handle, .sentinel, .sentinel, .sentinel, .sentinel, .sentinel, .sentinel, .sentinel, .sentinel, .sentinel, .sentinel, .sentinel, .sentinel, .sentinel, .sentinel], laidTests := true, laidLooks := .later }
def OpsPadsUptoCardSaid : Prop := Claim7.holds Tryz.pinned (.plain (OpenSpec.upto opsPadsSpec)) opsPadsUptoCard

/-- THE SECOND FORM's CARD OF 'viramalaw19.OpsEnds'. -/
def opsEndsUptoCard : Claim7 := { stood := { row := opsEndsUptoRow, standIns := [], harness := (true, "1c939b39171ead6302d3511fc9161381519fad6a15934627edcb725e667007df"), looks := true }, kinds := [], alts := [], laidByText := true, laidKinds := [.handle, .sentinel, .sentinel, .sentinel, .sentinel, .sentinel, .sentinel, .sentinel, .sentinel, .sentinel, .sentinel, .sentinel, .sentinel, .sentinel, .sentinel], laidTests := true, laidLooks := .later }
def OpsEndsUptoCardSaid : Prop := Claim7.holds Tryz.pinned (.plain (OpenSpec.upto opsEndsSpec)) opsEndsUptoCard

/-- THE SECOND FORM's CARD OF 'viramalaw19.OpsSubs'. -/
def opsSubsUptoCard : Claim7 := { stood := { row := opsSubsUptoRow, standIns := [], harness := (true, "1c939b39171ead6302d3511fc9161381519fad6a15934627edcb725e667007df"), looks := true }, kinds := [], alts := [], laidByText := true, laidKinds := [.handle, .sentinel, .sentinel, .sentinel, .sentinel, .sentinel, .sentinel, .sentinel, .sentinel, .sentinel, .sentinel, .sentinel, .sentinel, .sentinel, .sentinel], laidTests := true, laidLooks := .later }
def OpsSubsUptoCardSaid : Prop := Claim7.holds Tryz.pinned (.plain (OpenSpec.upto opsSubsSpec)) opsSubsUptoCard

/-- THE SECOND FORM's CARD OF 'viramalaw19.OpsTurned'. -/
def opsTurnedUptoCard : Claim7 := { stood := { row := opsTurnedUptoRow, standIns := [], harness := (true, "1c939b39171ead6302d3511fc9161381519fad6a15934627edcb725e667007df"), looks := true }, kinds := [], alts := [], laidByText := true, laidKinds := [.handle, .sentinel, .sentinel, .sentinel, .sentinel, .sentinel, .sentinel, .sentinel, .sentinel, .sentinel, .sentinel, .sentinel, .sentinel, .sentinel, .sentinel], laidTests := true, laidLooks := .later }
def OpsTurnedUptoCardSaid : Prop := Claim7.holds Tryz.pinned (.plain (OpenSpec.upto opsTurnedSpec)) opsTurnedUptoCard

/-- THE SECOND FORM's CARD OF 'viramalaw19.OpsSides'. -/
def opsSidesUptoCard : Claim7 := { stood := { row := opsSidesUptoRow, standIns := [], harness := (true, "1c939b39171ead6302d3511fc9161381519fad6a15934627edcb725e667007df"), looks := true }, kinds := [], alts := [], laidByText := true, laidKinds := [.handle, .sentinel, .sentinel, .sentinel, .sentinel, .sentinel, .sentinel, .sentinel, .sentinel, .sentinel, .sentinel, .sentinel, .sentinel, .sentinel, .sentinel], laidTests := true, laidLooks := .later }
def OpsSidesUptoCardSaid : Prop := Claim7.holds Tryz.pinned (.plain (OpenSpec.upto opsSidesSpec)) opsSidesUptoCard

/-- THE SECOND FORM's CARD OF 'viramalaw19.OpsBack'. -/
def opsBackUptoCard : Claim7 := { stood := { row := opsBackUptoRow, standIns := [], harness := (true, "1c939b39171ead6302d3511fc9161381519fad6a15934627edcb725e667007df"), looks := true }, kinds := [], alts := [], laidByText := true, laidKinds := [.handle, .sentinel, .sentinel, .sentinel, .sentinel, .sentinel, .sentinel, .sentinel, .sentinel, .sentinel, .sentinel, .sentinel, .sentinel, .sentinel, .sentinel], laidTests := true, laidLooks := .later }
def OpsBackUptoCardSaid : Prop := Claim7.holds Tryz.pinned (.plain (OpenSpec.upto opsBackSpec)) opsBackUptoCard

/-- THE SECOND FORM's CARD OF 'viramalaw19.OpsClips'. -/
def opsClipsUptoCard : Claim7 := { stood := { row := opsClipsUptoRow, standIns := [], harness := (true, "1c939b39171ead6302d3511fc9161381519fad6a15934627edcb725e667007df"), looks := true }, kinds := [], alts := [], laidByText := true, laidKinds := [.handle, .sentinel, .sentinel, .sentinel, .sentinel, .sentinel, .sentinel, .sentinel, .sentinel, .sentinel, .sentinel, .sentinel, .sentinel, .sentinel, .sentinel], laidTests := true, laidLooks := .later }
def OpsClipsUptoCardSaid : Prop := Claim7.holds Tryz.pinned (.plain (OpenSpec.upto opsClipsSpec)) opsClipsUptoCard

/-- THE SECOND FORM's CARD OF 'viramalaw19.OpsJoins'. -/
def opsJoinsUptoCard : Claim7 := { stood := { row := opsJoinsUptoRow, standIns := [], harness := (true, "1c939b39171ead6302d3511fc9161381519fad6a15934627edcb725e667007df"), looks := true }, kinds := [], alts := [], laidByText := true, laidKinds := [.handle, .sentinel, .sentinel, .sentinel, .sentinel, .sentinel, .sentinel, .sentinel, .sentinel, .sentinel, .sentinel, .sentinel, .sentinel, .sentinel, .sentinel], laidTests := true, laidLooks := .later }
def OpsJoinsUptoCardSaid : Prop := Claim7.holds Tryz.pinned (.plain (OpenSpec.upto opsJoinsSpec)) opsJoinsUptoCard
end Rows
end Go.Proofs.YtdponihkpomheaaGreatDoor
