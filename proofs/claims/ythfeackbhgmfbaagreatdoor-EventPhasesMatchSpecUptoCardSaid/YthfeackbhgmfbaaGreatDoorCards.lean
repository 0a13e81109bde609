/-
  DERIVED. GIVEN WITH THE SEED: THE CARDS: each row of YthfeackbhgmfbaaGreatDoorRows.lean that lists a variable, with what it lists TIED to the program's text (the seventh form; the later family's looks); each row that meets fmt, with fmt's text TOLD by the authors' own Lean function (tested against real Go, not proved from fmt's source: count such statements apart). THE CARD IS WHAT COUNTS. Prove the row's statement (the work); the ties are given (YthfeackbhgmfbaaGreatDoorTie.lean); close each card by the builder's one call (the guide's Derived/Test/ToyasCard.lean, 'card_holds'). Laid BY PROGRAM, IN A SANDBOX (cutbox-door.mjs). By AI agents, Wed Nov 11 2026. No macro, syntax, notation, axiom, sorry.
-/
import Derived.Test.YthfeackbhgmfbaaGreatDoorRows
import GoSem.ClaimSeven
namespace Go.Proofs.YthfeackbhgmfbaaGreatDoor
namespace Rows

/-- THE TIED CARD OF 'orangeboxlaw6.EventPhasesMatchSpec'. -/
def eventPhasesMatchSpecCard : Claim7 := { stood := { row := eventPhasesMatchSpecRow, standIns := [], harness := (true, "49b5cc0f96d40870f4dc47a116a0a564f660aa2051424628e130d401634129e3"), looks := true }, kinds := [], alts := [], laidByText := true, laidKinds := [.data, .data, .data, .sentinel, .sentinel, .widerDeep], laidTests := true, laidLooks := .later }
def EventPhasesMatchSpecCardSaid : Prop := Claim7.holds Tryz.pinned (.plain (OpenSpec.ofChange eventPhasesMatchSpecSpec)) eventPhasesMatchSpecCard

/-- THE SECOND FORM's CARD OF 'orangeboxlaw6.EventPhasesMatchSpec'. -/
def eventPhasesMatchSpecUptoCard : Claim7 := { stood := { row := eventPhasesMatchSpecUptoRow, standIns := [], harness := (true, "49b5cc0f96d40870f4dc47a116a0a564f660aa2051424628e130d401634129e3"), looks := true }, kinds := [], alts := [], laidByText := true, laidKinds := [.data, .data, .data, .sentinel, .sentinel, .widerDeep], laidTests := true, laidLooks := .later }
def EventPhasesMatchSpecUptoCardSaid : Prop := Claim7.holds Tryz.pinned (.plain (OpenSpec.upto eventPhasesMatchSpecSpec)) eventPhasesMatchSpecUptoCard
end Rows
end Go.Proofs.YthfeackbhgmfbaaGreatDoor
