/-
  DERIVED. GIVEN WITH THE SEED: THE CARDS: each row of YtbjhondbheijiaaGreatDoorRows.lean that lists a variable, with what it lists TIED to the program's text (the seventh form; the later family's looks); each row that meets fmt, with fmt's text TOLD by the authors' own Lean function (tested against real Go, not proved from fmt's source: count such statements apart). THE CARD IS WHAT COUNTS. Prove the row's statement (the work); the ties are given (YtbjhondbheijiaaGreatDoorTie.lean); close each card by the builder's one call (the guide's Derived/Test/ToyasCard.lean, 'card_holds'). Laid BY PROGRAM, IN A SANDBOX (cutbox-door.mjs). By AI agents, Wed Nov 11 2026. No macro, syntax, notation, axiom, sorry.
-/
import Derived.Test.YtbjhondbheijiaaGreatDoorRows
import GoSem.ClaimSeven
namespace Go.Proofs.YtbjhondbheijiaaGreatDoor
namespace Rows

/-- THE TIED CARD OF 'orangeboxlaw9.FleetApartMatchesSpec'. -/
def fleetApartMatchesSpecCard : Claim7 := { stood := { row := fleetApartMatchesSpecRow, standIns := [], harness := (true, "a00809de44bfaf4d76bee2ab35c1e317ab5bab11b5f380533c561c52f154746b"), looks := false }, kinds := [], alts := [], laidByText := true, laidKinds := [.data, .data, .data], laidTests := true, laidLooks := .later }
def FleetApartMatchesSpecCardSaid : Prop := Claim7.holds Tryz.pinned (.plain (OpenSpec.ofChange fleetApartMatchesSpecSpec)) fleetApartMatchesSpecCard

/-- THE SECOND FORM's CARD OF 'orangeboxlaw9.FleetApartMatchesSpec'. -/
def fleetApartMatchesSpecUptoCard : Claim7 := { stood := { row := fleetApartMatchesSpecUptoRow, standIns := [], harness := (true, "a00809de44bfaf4d76bee2ab35c1e317ab5bab11b5f380533c561c52f154746b"), looks := false }, kinds := [], alts := [], laidByText := true, laidKinds := [.data, .data, .data], laidTests := true, laidLooks := .later }
def FleetApartMatchesSpecUptoCardSaid : Prop := Claim7.holds Tryz.pinned (.plain (OpenSpec.upto fleetApartMatchesSpecSpec)) fleetApartMatchesSpecUptoCard
end Rows
end Go.Proofs.YtbjhondbheijiaaGreatDoor
