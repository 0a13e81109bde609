/-
  DERIVED. GIVEN WITH THE SEED: THE CARDS: each row of YtnccbhdmemheeaaGreatDoorRows.lean that lists a variable, with what it lists TIED to the program's text (the seventh form; the later family's looks); each row that meets fmt, with fmt's text TOLD by the authors' own Lean function (tested against real Go, not proved from fmt's source: count such statements apart). THE CARD IS WHAT COUNTS. Prove the row's statement (the work); the ties are given (YtnccbhdmemheeaaGreatDoorTie.lean); close each card by the builder's one call (the guide's Derived/Test/ToyasCard.lean, 'card_holds'). Laid BY PROGRAM, IN A SANDBOX (cutbox-door.mjs). By AI agents, Wed Nov 11 2026. No macro, syntax, notation, axiom, sorry.
-/
import Derived.Test.YtnccbhdmemheeaaGreatDoorRows
import GoSem.ClaimSeven
namespace Go.Proofs.YtnccbhdmemheeaaGreatDoor
namespace Rows

/-- THE TIED CARD OF 'orangeboxlaw6.EventWatchMatchesSpec'. -/
def eventWatchMatchesSpecCard : Claim7 := { stood := { row := eventWatchMatchesSpecRow, standIns := [], harness := (true, "a0a1baedd7bab7c46a9d6b4b95b37d76523a0a45cc79b50b231a9fee4d1a1c4a"), looks := true }, kinds := [], alts := [], laidByText := true, laidKinds := [.data, .data, .data, .sentinel, .sentinel, .widerDeep], laidTests := true, laidLooks := .later }
def EventWatchMatchesSpecCardSaid : Prop := Claim7.holds Tryz.pinned (.plain (OpenSpec.ofChange eventWatchMatchesSpecSpec)) eventWatchMatchesSpecCard

/-- THE SECOND FORM's CARD OF 'orangeboxlaw6.EventWatchMatchesSpec'. -/
def eventWatchMatchesSpecUptoCard : Claim7 := { stood := { row := eventWatchMatchesSpecUptoRow, standIns := [], harness := (true, "a0a1baedd7bab7c46a9d6b4b95b37d76523a0a45cc79b50b231a9fee4d1a1c4a"), looks := true }, kinds := [], alts := [], laidByText := true, laidKinds := [.data, .data, .data, .sentinel, .sentinel, .widerDeep], laidTests := true, laidLooks := .later }
def EventWatchMatchesSpecUptoCardSaid : Prop := Claim7.holds Tryz.pinned (.plain (OpenSpec.upto eventWatchMatchesSpecSpec)) eventWatchMatchesSpecUptoCard
end Rows
end Go.Proofs.YtnccbhdmemheeaaGreatDoor
