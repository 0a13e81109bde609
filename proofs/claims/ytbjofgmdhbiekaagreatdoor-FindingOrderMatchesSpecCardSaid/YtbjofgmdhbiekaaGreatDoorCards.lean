/-
  DERIVED. GIVEN WITH THE SEED: THE CARDS: each row of YtbjofgmdhbiekaaGreatDoorRows.lean that lists a variable, with what it lists TIED to the program's text (the seventh form; the later family's looks); each row that meets fmt, with fmt's text TOLD by the authors' own Lean function (tested against real Go, not proved from fmt's source: count such statements apart). THE CARD IS WHAT COUNTS. Prove the row's statement (the work); the ties are given (YtbjofgmdhbiekaaGreatDoorTie.lean); close each card by the builder's one call (the guide's Derived/Test/ToyasCard.lean, 'card_holds'). Laid BY PROGRAM, IN A SANDBOX (cutbox-door.mjs). By AI agents, Wed Nov 11 2026. No macro, syntax, notation, axiom, sorry.
-/
import Derived.Test.YtbjofgmdhbiekaaGreatDoorRows
import GoSem.ClaimSeven
namespace Go.Proofs.YtbjofgmdhbiekaaGreatDoor
namespace Rows

/-- THE TIED CARD OF 'orangeboxlaw7.FindingWordsMatchSpec'. -/
def findingWordsMatchSpecCard : Claim7 := { stood := { row := findingWordsMatchSpecRow, standIns := [], harness := (true, "d5fd78a7e4e076487ed0b6ec847679dee461a3824f8de6fc2140bb6ae9085a28"), looks := true }, kinds := [], alts := [], laidByText := true, laidKinds := [.data, .data, .data, .data, .sentinel, .sentinel, .widerDeep], laidTests := true, laidLooks := .later }
def FindingWordsMatchSpecCardSaid : Prop := Claim7.holds Tryz.pinned (.plain (OpenSpec.ofChange findingWordsMatchSpecSpec)) findingWordsMatchSpecCard

/-- THE TIED CARD OF 'orangeboxlaw7.FindingOnlyKnowsLess'. -/
def findingOnlyKnowsLessCard : Claim7 := { stood := { row := findingOnlyKnowsLessRow, standIns := [], harness := (true, "d5fd78a7e4e076487ed0b6ec847679dee461a3824f8de6fc2140bb6ae9085a28"), looks := true }, kinds := [], alts := [], laidByText := true, laidKinds := [.data, .data, .data, .data, .sentinel, .sentinel, .widerDeep], laidTests := true, laidLooks := .later }
def FindingOnlyKnowsLessCardSaid : Prop := Claim7.holds Tryz.pinned (.plain (OpenSpec.ofChange findingOnlyKnowsLessSpec)) findingOnlyKnowsLessCard

/-- THE TIED CARD OF 'orangeboxlaw7.FindingOrderMatchesSpec'. -/
def findingOrderMatchesSpecCard : Claim7 := { stood := { row := findingOrderMatchesSpecRow, standIns := [], harness := (true, "d5fd78a7e4e076487ed0b6ec847679dee461a3824f8de6fc2140bb6ae9085a28"), looks := true }, kinds := [], alts := [], laidByText := true, laidKinds := [.data, .data, .data, .data, .sentinel, .sentinel, .widerDeep], laidTests := true, laidLooks := .later }
def FindingOrderMatchesSpecCardSaid : Prop := Claim7.holds Tryz.pinned (.plain (OpenSpec.ofChange findingOrderMatchesSpecSpec)) findingOrderMatchesSpecCard

/-- THE TIED CARD OF 'orangeboxlaw7.FindingWordsAreAll'. -/
def findingWordsAreAllCard : Claim7 := { stood := { row := findingWordsAreAllRow, standIns := [], harness := (true, "d5fd78a7e4e076487ed0b6ec847679dee461a3824f8de6fc2140bb6ae9085a28"), looks := true }, kinds := [], alts := [], laidByText := true, laidKinds := [.data, .data, .data, .data, .sentinel, .sentinel, .widerDeep], laidTests := true, laidLooks := .later }
def FindingWordsAreAllCardSaid : Prop := Claim7.holds Tryz.pinned (.plain (OpenSpec.ofChange findingWordsAreAllSpec)) findingWordsAreAllCard

/-- THE SECOND FORM's CARD OF 'orangeboxlaw7.FindingWordsMatchSpec'. -/
def findingWordsMatchSpecUptoCard : Claim7 := { stood := { row := findingWordsMatchSpecUptoRow, standIns := [], harness := (true, "d5fd78a7e4e076487ed0b6ec847679dee461a3824f8de6fc2140bb6ae9085a28"), looks := true }, kinds := [], alts := [], laidByText := true, laidKinds := [.data, .data, .data, .data, .sentinel, .sentinel, .widerDeep], laidTests := true, laidLooks := .later }
def FindingWordsMatchSpecUptoCardSaid : Prop := Claim7.holds Tryz.pinned (.plain (OpenSpec.upto findingWordsMatchSpecSpec)) findingWordsMatchSpecUptoCard

/-- THE SECOND FORM's CARD OF 'orangeboxlaw7.FindingOnlyKnowsLess'. -/
def findingOnlyKnowsLessUptoCard : Claim7 := { stood := { row := findingOnlyKnowsLessUptoRow, standIns := [], harness := (true, "d5fd78a7e4e076487ed0b6ec847679dee461a3824f8de6fc2140bb6ae9085a28"), looks := true }, kinds := [], alts := [], laidByText := true, laidKinds := [.data, .data, .data, .data, .sentinel, .sentinel, .widerDeep], laidTests := true, laidLooks := .later }
def FindingOnlyKnowsLessUptoCardSaid : Prop := Claim7.holds Tryz.pinned (.plain (OpenSpec.upto findingOnlyKnowsLessSpec)) findingOnlyKnowsLessUptoCard

/-- THE SECOND FORM's CARD OF 'orangeboxlaw7.FindingOrderMatchesSpec'. -/
def findingOrderMatchesSpecUptoCard : Claim7 := { stood := { row := findingOrderMatchesSpecUptoRow, standIns := [], harness := (true, "d5fd78a7e4e076487ed0b6ec847679dee461a3824f8de6fc2140bb6ae9085a28"), looks := true }, kinds := [], alts := [], laidByText := true, laidKinds := [.data, .data, .data, .data, .sentinel, .sentinel, .widerDeep], laidTests := true, laidLooks := .later }
def FindingOrderMatchesSpecUptoCardSaid : Prop := Claim7.holds Tryz.pinned (.plain (OpenSpec.upto findingOrderMatchesSpecSpec)) findingOrderMatchesSpecUptoCard

/-- THE SECOND FORM's CARD OF 'orangeboxlaw7.FindingWordsAreAll'. -/
def findingWordsAreAllUptoCard : Claim7 := { stood := { row := findingWordsAreAllUptoRow, standIns := [], harness := (true, "d5fd78a7e4e076487ed0b6ec847679dee461a3824f8de6fc2140bb6ae9085a28"), looks := true }, kinds := [], alts := [], laidByText := true, laidKinds := [.data, .data, .data, .data, .sentinel, .sentinel, .widerDeep], laidTests := true, laidLooks := .later }
def FindingWordsAreAllUptoCardSaid : Prop := Claim7.holds Tryz.pinned (.plain (OpenSpec.upto findingWordsAreAllSpec)) findingWordsAreAllUptoCard
end Rows
end Go.Proofs.YtbjofgmdhbiekaaGreatDoor
