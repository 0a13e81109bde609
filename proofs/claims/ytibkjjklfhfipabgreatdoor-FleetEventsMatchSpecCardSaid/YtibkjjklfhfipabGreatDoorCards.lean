/-
  DERIVED. GIVEN WITH THE SEED: THE CARDS: each row of YtibkjjklfhfipabGreatDoorRows.lean that lists a variable, with what it lists TIED to the program's text (the seventh form; the later family's looks); each row that meets fmt, with fmt's text TOLD by the authors' own Lean function (tested against real Go, not proved from fmt's source: count such statements apart). THE CARD IS WHAT COUNTS. Prove the row's statement (the work); the ties are given (YtibkjjklfhfipabGreatDoorTie.lean); close each card by the builder's one call (the guide's Derived/Test/ToyasCard.lean, 'card_holds'). Laid BY PROGRAM, IN A SANDBOX (cutbox-door.mjs). By AI agents, Wed Nov 11 2026. No macro, syntax, notation, axiom, sorry.
-/
import Derived.Test.YtibkjjklfhfipabGreatDoorRows
import GoSem.ClaimSeven
namespace Go.Proofs.YtibkjjklfhfipabGreatDoor
namespace Rows

/-- THE TIED CARD OF 'orangeboxlaw9.FleetEventsMatchSpec'. -/
def fleetEventsMatchSpecCard : Claim7 := { stood := { row := fleetEventsMatchSpecRow, standIns := [], harness := (true, "d0cf78ff9c8cf1538821b0dc568fb6d95cb2568fcf5b9b7a521cdf798a6d06cd"), looks := false }, kinds := [], alts := [], laidByText := true, laidKinds := [.data, .data, .data], laidTests := true, laidLooks := .later }
def FleetEventsMatchSpecCardSaid : Prop := Claim7.holds Tryz.pinned (.plain (OpenSpec.ofChange fleetEventsMatchSpecSpec)) fleetEventsMatchSpecCard

/-- THE SECOND FORM's CARD OF 'orangeboxlaw9.FleetEventsMatchSpec'. -/
def fleetEventsMatchSpecUptoCard : Claim7 := { stood := { row := fleetEventsMatchSpecUptoRow, standIns := [], harness := (true, "d0cf78ff9c8cf1538821b0dc568fb6d95cb2568fcf5b9b7a521cdf798a6d06cd"), looks := false }, kinds := [], alts := [], laidByText := true, laidKinds := [.data, .data, .data], laidTests := true, laidLooks := .later }
def FleetEventsMatchSpecUptoCardSaid : Prop := Claim7.holds Tryz.pinned (.plain (OpenSpec.upto fleetEventsMatchSpecSpec)) fleetEventsMatchSpecUptoCard
end Rows
end Go.Proofs.YtibkjjklfhfipabGreatDoor
