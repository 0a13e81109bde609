/-
  DERIVED. GIVEN WITH THE SEED: THE CARDS: each row of YtibkjjklfhfipadGreatDoorRows.lean that lists a variable, with what it lists TIED to the program's text (the seventh form; the later family's looks); each row that meets fmt, with fmt's text TOLD by the authors' own Lean function (tested against real Go, not proved from fmt's source: count such statements apart). THE CARD IS WHAT COUNTS. Prove the row's statement (the work); the ties are given (YtibkjjklfhfipadGreatDoorTie.lean); close each card by the builder's one call (the guide's Derived/Test/ToyasCard.lean, 'card_holds'). Laid BY PROGRAM, IN A SANDBOX (cutbox-door.mjs). By AI agents, Wed Nov 11 2026. No macro, syntax, notation, axiom, sorry.
-/
import Derived.Test.YtibkjjklfhfipadGreatDoorRows
import GoSem.ClaimSeven
namespace Go.Proofs.YtibkjjklfhfipadGreatDoor
namespace Rows

/-- THE TIED CARD OF 'orangeboxlaw7.FindingReasonsMatchSpec'. -/
def findingReasonsMatchSpecCard : Claim7 := { stood := { row := findingReasonsMatchSpecRow, standIns := [], harness := (true, "fff9862471d4270f48a249c7658a8bec6290e924810c5b42816ede58d230ad78"), looks := true }, kinds := [], alts := [], laidByText := true, laidKinds := [.data, .data, .data, .sentinel, .sentinel, .widerDeep], laidTests := true, laidLooks := .later }
def FindingReasonsMatchSpecCardSaid : Prop := Claim7.holds Tryz.pinned (.plain (OpenSpec.ofChange findingReasonsMatchSpecSpec)) findingReasonsMatchSpecCard

/-- THE SECOND FORM's CARD OF 'orangeboxlaw7.FindingReasonsMatchSpec'. -/
def findingReasonsMatchSpecUptoCard : Claim7 := { stood := { row := findingReasonsMatchSpecUptoRow, standIns := [], harness := (true, "fff9862471d4270f48a249c7658a8bec6290e924810c5b42816ede58d230ad78"), looks := true }, kinds := [], alts := [], laidByText := true, laidKinds := [.data, .data, .data, .sentinel, .sentinel, .widerDeep], laidTests := true, laidLooks := .later }
def FindingReasonsMatchSpecUptoCardSaid : Prop := Claim7.holds Tryz.pinned (.plain (OpenSpec.upto findingReasonsMatchSpecSpec)) findingReasonsMatchSpecUptoCard
end Rows
end Go.Proofs.YtibkjjklfhfipadGreatDoor
