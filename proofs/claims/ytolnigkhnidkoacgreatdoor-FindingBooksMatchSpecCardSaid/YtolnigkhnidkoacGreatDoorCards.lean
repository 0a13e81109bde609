/-
  DERIVED. GIVEN WITH THE SEED: THE CARDS: each row of YtolnigkhnidkoacGreatDoorRows.lean that lists a variable, with what it lists TIED to the program's text (the seventh form; the later family's looks); each row that meets fmt, with fmt's text TOLD by the authors' own Lean function (tested against real Go, not proved from fmt's source: count such statements apart). THE CARD IS WHAT COUNTS. Prove the row's statement (the work); the ties are given (YtolnigkhnidkoacGreatDoorTie.lean); close each card by the builder's one call (the guide's Derived/Test/ToyasCard.lean, 'card_holds'). Laid BY PROGRAM, IN A SANDBOX (cutbox-door.mjs). By AI agents, Wed Nov 11 2026. No macro, syntax, notation, axiom, sorry.
-/
import Derived.Test.YtolnigkhnidkoacGreatDoorRows
import GoSem.ClaimSeven
namespace Go.Proofs.YtolnigkhnidkoacGreatDoor
namespace Rows

/-- THE TIED CARD OF 'orangeboxlaw7.FindingBooksMatchSpec'. -/
def findingBooksMatchSpecCard : Claim7 := { stood := { row := findingBooksMatchSpecRow, standIns := [], harness := (true, "6c002ec5168beea328b6e92b99d333851dd8194bc8e78529379aeac17574ef23"), looks := true }, kinds := [], alts := [], laidByText := true, laidKinds := [.data, .data, .data, .data, .sentinel, .sentinel, .widerDeep], laidTests := true, laidLooks := .later }
def FindingBooksMatchSpecCardSaid : Prop := Claim7.holds Tryz.pinned (.plain (OpenSpec.ofChange findingBooksMatchSpecSpec)) findingBooksMatchSpecCard

/-- THE SECOND FORM's CARD OF 'orangeboxlaw7.FindingBooksMatchSpec'. -/
def findingBooksMatchSpecUptoCard : Claim7 := { stood := { row := findingBooksMatchSpecUptoRow, standIns := [], harness := (true, "6c002ec5168beea328b6e92b99d333851dd8194bc8e78529379aeac17574ef23"), looks := true }, kinds := [], alts := [], laidByText := true, laidKinds := [.data, .data, .data, .data, .sentinel, .sentinel, .widerDeep], laidTests := true, laidLooks := .later }
def FindingBooksMatchSpecUptoCardSaid : Prop := Claim7.holds Tryz.pinned (.plain (OpenSpec.upto findingBooksMatchSpecSpec)) findingBooksMatchSpecUptoCard
end Rows
end Go.Proofs.YtolnigkhnidkoacGreatDoor
