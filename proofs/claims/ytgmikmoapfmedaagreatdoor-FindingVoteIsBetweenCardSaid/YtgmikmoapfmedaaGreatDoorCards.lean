/-
  DERIVED. GIVEN WITH THE SEED: THE CARDS: each row of YtgmikmoapfmedaaGreatDoorRows.lean that lists a variable, with what it lists TIED to the program's text (the seventh form; the later family's looks); each row that meets fmt, with fmt's text TOLD by the authors' own Lean function (tested against real Go, not proved from fmt's source: count such statements apart). THE CARD IS WHAT COUNTS. Prove the row's statement (the work); the ties are given (YtgmikmoapfmedaaGreatDoorTie.lean); close each card by the builder's one call (the guide's Derived/Test/ToyasCard.lean, 'card_holds'). Laid BY PROGRAM, IN A SANDBOX (cutbox-door.mjs). By AI agents, Wed Nov 11 2026. No macro, syntax, notation, axiom, sorry.
-/
import Derived.Test.YtgmikmoapfmedaaGreatDoorRows
import GoSem.ClaimSeven
namespace Go.Proofs.YtgmikmoapfmedaaGreatDoor
namespace Rows

/-- THE TIED CARD OF 'orangeboxlaw7.FindingClashesMatchSpec'. -/
def findingClashesMatchSpecCard : Claim7 := { stood := { row := findingClashesMatchSpecRow, standIns := [], harness := (true, "b8df533e52ade2c76f23e194e7573a005e33082f6605c6c940739c160afef9d1"), looks := true }, kinds := [], alts := [], laidByText := true, laidKinds := [.data, .data, .data, .sentinel, .sentinel, .widerDeep], laidTests := true, laidLooks := .later }
def FindingClashesMatchSpecCardSaid : Prop := Claim7.holds Tryz.pinned (.plain (OpenSpec.ofChange findingClashesMatchSpecSpec)) findingClashesMatchSpecCard

/-- THE TIED CARD OF 'orangeboxlaw7.FindingVoteIsBetween'. -/
def findingVoteIsBetweenCard : Claim7 := { stood := { row := findingVoteIsBetweenRow, standIns := [], harness := (true, "b8df533e52ade2c76f23e194e7573a005e33082f6605c6c940739c160afef9d1"), looks := true }, kinds := [], alts := [], laidByText := true, laidKinds := [.data, .data, .data, .sentinel, .sentinel, .widerDeep], laidTests := true, laidLooks := .later }
def FindingVoteIsBetweenCardSaid : Prop := Claim7.holds Tryz.pinned (.plain (OpenSpec.ofChange findingVoteIsBetweenSpec)) findingVoteIsBetweenCard

/-- THE TIED CARD OF 'orangeboxlaw7.FindingVoteMatchesSpec'. -/
def findingVoteMatchesSpecCard : Claim7 := { stood := { row := findingVoteMatchesSpecRow, standIns := [], harness := (true, "b8df533e52ade2c76f23e194e7573a005e33082f6605c6c940739c160afef9d1"), looks := true }, kinds := [], alts := [], laidByText := true, laidKinds := [.data, .data, .data, .sentinel, .sentinel, .widerDeep], laidTests := true, laidLooks := .later }
def FindingVoteMatchesSpecCardSaid : Prop := Claim7.holds Tryz.pinned (.plain (OpenSpec.ofChange findingVoteMatchesSpecSpec)) findingVoteMatchesSpecCard

/-- THE SECOND FORM's CARD OF 'orangeboxlaw7.FindingClashesMatchSpec'. -/
def findingClashesMatchSpecUptoCard : Claim7 := { stood := { row := findingClashesMatchSpecUptoRow, standIns := [], harness := (true, "b8df533e52ade2c76f23e194e7573a005e33082f6605c6c940739c160afef9d1"), looks := true }, kinds := [], alts := [], laidByText := true, laidKinds := [.data, .data, .data, .sentinel, .sentinel, .widerDeep], laidTests := true, laidLooks := .later }
def FindingClashesMatchSpecUptoCardSaid : Prop := Claim7.holds Tryz.pinned (.plain (OpenSpec.upto findingClashesMatchSpecSpec)) findingClashesMatchSpecUptoCard

/-- THE SECOND FORM's CARD OF 'orangeboxlaw7.FindingVoteIsBetween'. -/
def findingVoteIsBetweenUptoCard : Claim7 := { stood := { row := findingVoteIsBetweenUptoRow, standIns := [], harness := (true, "b8df533e52ade2c76f23e194e7573a005e33082f6605c6c940739c160afef9d1"), looks := true }, kinds := [], alts := [], laidByText := true, laidKinds := [.data, .data, .data, .sentinel, .sentinel, .widerDeep], laidTests := true, laidLooks := .later }
def FindingVoteIsBetweenUptoCardSaid : Prop := Claim7.holds Tryz.pinned (.plain (OpenSpec.upto findingVoteIsBetweenSpec)) findingVoteIsBetweenUptoCard

/-- THE SECOND FORM's CARD OF 'orangeboxlaw7.FindingVoteMatchesSpec'. -/
def findingVoteMatchesSpecUptoCard : Claim7 := { stood := { row := findingVoteMatchesSpecUptoRow, standIns := [], harness := (true, "b8df533e52ade2c76f23e194e7573a005e33082f6605c6c940739c160afef9d1"), looks := true }, kinds := [], alts := [], laidByText := true, laidKinds := [.data, .data, .data, .sentinel, .sentinel, .widerDeep], laidTests := true, laidLooks := .later }
def FindingVoteMatchesSpecUptoCardSaid : Prop := Claim7.holds Tryz.pinned (.plain (OpenSpec.upto findingVoteMatchesSpecSpec)) findingVoteMatchesSpecUptoCard
end Rows
end Go.Proofs.YtgmikmoapfmedaaGreatDoor
