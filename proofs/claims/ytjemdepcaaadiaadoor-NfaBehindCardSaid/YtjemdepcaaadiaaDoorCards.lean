/-
  DERIVED. GIVEN WITH THE SEED: THE CARDS: each row of YtjemdepcaaadiaaDoorRows.lean that lists a variable, with what it lists TIED to the program's text (the seventh form; the later family's looks); each row that meets fmt, with fmt's text TOLD by the authors' own Lean function (tested against real Go, not proved from fmt's source: count such statements apart). THE CARD IS WHAT COUNTS. Prove the row's statement (the work); the ties are given (YtjemdepcaaadiaaDoorTie.lean); close each card by the builder's one call (the guide's Derived/Test/ToyasCard.lean, 'card_holds'). Laid BY PROGRAM, IN A SANDBOX (cutbox-door.mjs). By AI agents, Wed Nov 11 2026. No macro, syntax, notation, axiom, sorry.
-/
import Derived.Test.YtjemdepcaaadiaaDoorRows
import GoSem.ClaimSeven
namespace Go.Proofs.YtjemdepcaaadiaaDoor
namespace Rows

/-- THE TIED CARD OF 'viramalaw12.DfaCompiles'. -/
def dfaCompilesCard : Claim7 := { stood := { row := dfaCompilesRow, standIns := [], harness := (true, "9be9b13a39f26230e072fcbad56a9df2228d1184f2e18660bdc53f80a05c4cce"), looks := true }, kinds := [], alts := [], laidByText := true, laidKinds := [.sentinel, .sentinel, .sentinel], laidTests := true, laidLooks := .later }
def DfaCompilesCardSaid : Prop := Claim7.holds Tryd.pinned (.plain (OpenSpec.ofChange dfaCompilesSpec)) dfaCompilesCard

/-- THE TIED CARD OF 'viramalaw12.DfaParts'. -/
def dfaPartsCard : Claim7 := { stood := { row := dfaPartsRow, standIns := [], harness := (true, "9be9b13a39f26230e072fcbad56a9df2228d1184f2e18660bdc53f80a05c4cce"), looks := true }, kinds := [], alts := [], laidByText := true, laidKinds := [.sentinel, .sentinel, .sentinel], laidTests := true, laidLooks := .later }
def DfaPartsCardSaid : Prop := Claim7.holds Tryd.pinned (.plain (OpenSpec.ofChange dfaPartsSpec)) dfaPartsCard

/-- THE TIED CARD OF 'viramalaw12.DfaLefts'. -/
def dfaLeftsCard : Claim7 := { stood := { row := dfaLeftsRow, standIns := [], harness := (true, "9be9b13a39f26230e072fcbad56a9df2228d1184f2e18660bdc53f80a05c4cce"), looks := true }, kinds := [], alts := [], laidByText := true, laidKinds := [.sentinel, .sentinel, .sentinel], laidTests := true, laidLooks := .later }
def DfaLeftsCardSaid : Prop := Claim7.holds Tryd.pinned (.plain (OpenSpec.ofChange dfaLeftsSpec)) dfaLeftsCard

/-- THE TIED CARD OF 'viramalaw12.DfaTwice'. -/
def dfaTwiceCard : Claim7 := { stood := { row := dfaTwiceRow, standIns := [], harness := (true, "9be9b13a39f26230e072fcbad56a9df2228d1184f2e18660bdc53f80a05c4cce"), looks := true }, kinds := [], alts := [], laidByText := true, laidKinds := [.sentinel, .sentinel, .sentinel], laidTests := true, laidLooks := .later }
def DfaTwiceCardSaid : Prop := Claim7.holds Tryd.pinned (.plain (OpenSpec.ofChange dfaTwiceSpec)) dfaTwiceCard

/-- THE TIED CARD OF 'viramalaw10.NfaBehind'. -/
def nfaBehindCard : Claim7 := { stood := { row := nfaBehindRow, standIns := [], harness := (true, "9be9b13a39f26230e072fcbad56a9df2228d1184f2e18660bdc53f80a05c4cce"), looks := true }, kinds := [], alts := [], laidByText := true, laidKinds := [.sentinel], laidTests := true, laidLooks := .later }
def NfaBehindCardSaid : Prop := Claim7.holds Tryd.pinned (.plain (OpenSpec.ofChange nfaBehindSpec)) nfaBehindCard

/-- THE TIED CARD OF 'viramalaw12.DfaReached'. -/
def dfaReachedCard : Claim7 := { stood := { row := dfaReachedRow, standIns := [], harness := (true, "9be9b13a39f26230e072fcbad56a9df2228d1184f2e18660bdc53f80a05c4cce"), looks := true }, kinds := [], alts := [], laidByText := true, laidKinds := [.sentinel, .sentinel, .sentinel], laidTests := true, laidLooks := .later }
def DfaReachedCardSaid : Prop := Claim7.holds Tryd.pinned (.plain (OpenSpec.ofChange dfaReachedSpec)) dfaReachedCard

/-- THE SECOND FORM's CARD OF 'viramalaw12.DfaCompiles'. -/
def dfaCompilesUptoCard : Claim7 := { stood := { row := dfaCompilesUptoRow, standIns := [], harness := (true, "9be9b13a39f26230e072fcbad56a9df2228d1184f2e18660bdc53f80a05c4cce"), looks := true }, kinds := [], alts := [], laidByText := true, laidKinds := [.sentinel, .sentinel, .sentinel], laidTests := true, laidLooks := .later }
def DfaCompilesUptoCardSaid : Prop := Claim7.holds Tryd.pinned (.plain (OpenSpec.upto dfaCompilesSpec)) dfaCompilesUptoCard

/-- THE SECOND FORM's CARD OF 'viramalaw12.DfaParts'. -/
def dfaPartsUptoCard : Claim7 := { stood := { row := dfaPartsUptoRow, standIns := [], harness := (true, "9be9b13a39f26230e072fcbad56a9df2228d1184f2e18660bdc53f80a05c4cce"), looks := true }, kinds := [], alts := [], laidByText := true, laidKinds := [.sentinel, .sentinel, .sentinel], laidTests := true, laidLooks := .later }
def DfaPartsUptoCardSaid : Prop := Claim7.holds Tryd.pinned (.plain (OpenSpec.upto dfaPartsSpec)) dfaPartsUptoCard

/-- THE SECOND FORM's CARD OF 'viramalaw12.DfaLefts'. -/
def dfaLeftsUptoCard : Claim7 := { stood := { row := dfaLeftsUptoRow, standIns := [], harness := (true, "9be9b13a39f26230e072fcbad56a9df2228d1184f2e18660bdc53f80a05c4cce"), looks := true }, kinds := [], alts := [], laidByText := true, laidKinds := [.sentinel, .sentinel, .sentinel], laidTests := true, laidLooks := .later }
def DfaLeftsUptoCardSaid : Prop := Claim7.holds Tryd.pinned (.plain (OpenSpec.upto dfaLeftsSpec)) dfaLeftsUptoCard

/-- THE SECOND FORM's CARD OF 'viramalaw12.DfaTwice'. -/
def dfaTwiceUptoCard : Claim7 := { stood := { row := dfaTwiceUptoRow, standIns := [], harness := (true, "9be9b13a39f26230e072fcbad56a9df2228d1184f2e18660bdc53f80a05c4cce"), looks := true }, kinds := [], alts := [], laidByText := true, laidKinds := [.sentinel, .sentinel, .sentinel], laidTests := true, laidLooks := .later }
def DfaTwiceUptoCardSaid : Prop := Claim7.holds Tryd.pinned (.plain (OpenSpec.upto dfaTwiceSpec)) dfaTwiceUptoCard

/-- THE SECOND FORM's CARD OF 'viramalaw10.NfaBehind'. -/
def nfaBehindUptoCard : Claim7 := { stood := { row := nfaBehindUptoRow, standIns := [], harness := (true, "9be9b13a39f26230e072fcbad56a9df2228d1184f2e18660bdc53f80a05c4cce"), looks := true }, kinds := [], alts := [], laidByText := true, laidKinds := [.sentinel], laidTests := true, laidLooks := .later }
def NfaBehindUptoCardSaid : Prop := Claim7.holds Tryd.pinned (.plain (OpenSpec.upto nfaBehindSpec)) nfaBehindUptoCard

/-- THE SECOND FORM's CARD OF 'viramalaw12.DfaReached'. -/
def dfaReachedUptoCard : Claim7 := { stood := { row := dfaReachedUptoRow, standIns := [], harness := (true, "9be9b13a39f26230e072fcbad56a9df2228d1184f2e18660bdc53f80a05c4cce"), looks := true }, kinds := [], alts := [], laidByText := true, laidKinds := [.sentinel, .sentinel, .sentinel], laidTests := true, laidLooks := .later }
def DfaReachedUptoCardSaid : Prop := Claim7.holds Tryd.pinned (.plain (OpenSpec.upto dfaReachedSpec)) dfaReachedUptoCard
end Rows
end Go.Proofs.YtjemdepcaaadiaaDoor
