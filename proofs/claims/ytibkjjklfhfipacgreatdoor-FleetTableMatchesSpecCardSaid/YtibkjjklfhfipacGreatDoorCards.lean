/-
  DERIVED. GIVEN WITH THE SEED: THE CARDS: each row of YtibkjjklfhfipacGreatDoorRows.lean that lists a variable, with what it lists TIED to the program's text (the seventh form; the later family's looks); each row that meets fmt, with fmt's text TOLD by the authors' own Lean function (tested against real Go, not proved from fmt's source: count such statements apart). THE CARD IS WHAT COUNTS. Prove the row's statement (the work); the ties are given (YtibkjjklfhfipacGreatDoorTie.lean); close each card by the builder's one call (the guide's Derived/Test/ToyasCard.lean, 'card_holds'). Laid BY PROGRAM, IN A SANDBOX (cutbox-door.mjs). By AI agents, Wed Nov 11 2026. No macro, syntax, notation, axiom, sorry.
-/
import Derived.Test.YtibkjjklfhfipacGreatDoorRows
import GoSem.ClaimSeven
namespace Go.Proofs.YtibkjjklfhfipacGreatDoor
namespace Rows

/-- THE TIED CARD OF 'orangeboxlaw9.FleetTableMatchesSpec'. -/
def fleetTableMatchesSpecCard : Claim7 := { stood := { row := fleetTableMatchesSpecRow, standIns := [], harness := (true, "95622bdb9a866ab902aff9bbf0389b99d42d954f96b713cc2e1c604fd5bf0fbc"), looks := false }, kinds := [], alts := [], laidByText := true, laidKinds := [.data, .data, .data], laidTests := true, laidLooks := .later }
def FleetTableMatchesSpecCardSaid : Prop := Claim7.holds Tryz.pinned (.plain (OpenSpec.ofChange fleetTableMatchesSpecSpec)) fleetTableMatchesSpecCard

/-- THE SECOND FORM's CARD OF 'orangeboxlaw9.FleetTableMatchesSpec'. -/
def fleetTableMatchesSpecUptoCard : Claim7 := { stood := { row := fleetTableMatchesSpecUptoRow, standIns := [], harness := (true, "95622bdb9a866ab902aff9bbf0389b99d42d954f96b713cc2e1c604fd5bf0fbc"), looks := false }, kinds := [], alts := [], laidByText := true, laidKinds := [.data, .data, .data], laidTests := true, laidLooks := .later }
def FleetTableMatchesSpecUptoCardSaid : Prop := Claim7.holds Tryz.pinned (.plain (OpenSpec.upto fleetTableMatchesSpecSpec)) fleetTableMatchesSpecUptoCard
end Rows
end Go.Proofs.YtibkjjklfhfipacGreatDoor
