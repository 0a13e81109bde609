/-
  DERIVED. GIVEN WITH THE SEED: THE CARDS: each row of YtbjhondbheijiaaDoorRows.lean that lists a variable, with what it lists TIED to the program's text (the seventh form; the later family's looks); each row that meets fmt, with fmt's text TOLD by the authors' own Lean function (tested against real Go, not proved from fmt's source: count such statements apart). THE CARD IS WHAT COUNTS. Prove the row's statement (the work); the ties are given (YtbjhondbheijiaaDoorTie.lean); close each card by the builder's one call (the guide's Derived/Test/ToyasCard.lean, 'card_holds'). Laid BY PROGRAM, IN A SANDBOX (cutbox-door.mjs). By AI agents, Wed Nov 11 2026. No macro, syntax, notation, axiom, sorry.
-/
import Derived.Test.YtbjhondbheijiaaDoorRows
import GoSem.ClaimSeven
namespace Go.Proofs.YtbjhondbheijiaaDoor
namespace Rows

/-- THE TIED CARD OF 'orangeboxlaw9.FleetRowsMatchSpec'. -/
def fleetRowsMatchSpecCard : Claim7 := { stood := { row := fleetRowsMatchSpecRow, standIns := [], harness := (true, "5de5e90b04132193777f8b3de43ef450876f1a9bd6e63671243b34dcc71359d6"), looks := false }, kinds := [], alts := [], laidByText := true, laidKinds := [.data, .data, .data], laidTests := true, laidLooks := .later }
def FleetRowsMatchSpecCardSaid : Prop := Claim7.holds Tryd.pinned (.plain (OpenSpec.ofChange fleetRowsMatchSpecSpec)) fleetRowsMatchSpecCard

/-- THE TIED CARD OF 'orangeboxlaw9.FleetMaskMatchesSpec'. -/
def fleetMaskMatchesSpecCard : Claim7 := { stood := { row := fleetMaskMatchesSpecRow, standIns := [], harness := (true, "5de5e90b04132193777f8b3de43ef450876f1a9bd6e63671243b34dcc71359d6"), looks := false }, kinds := [], alts := [], laidByText := true, laidKinds := [.data, .data, .data], laidTests := true, laidLooks := .later }
def FleetMaskMatchesSpecCardSaid : Prop := Claim7.holds Tryd.pinned (.plain (OpenSpec.ofChange fleetMaskMatchesSpecSpec)) fleetMaskMatchesSpecCard

/-- THE SECOND FORM's CARD OF 'orangeboxlaw9.FleetRowsMatchSpec'. -/
def fleetRowsMatchSpecUptoCard : Claim7 := { stood := { row := fleetRowsMatchSpecUptoRow, standIns := [], harness := (true, "5de5e90b04132193777f8b3de43ef450876f1a9bd6e63671243b34dcc71359d6"), looks := false }, kinds := [], alts := [], laidByText := true, laidKinds := [.data, .data, .data], laidTests := true, laidLooks := .later }
def FleetRowsMatchSpecUptoCardSaid : Prop := Claim7.holds Tryd.pinned (.plain (OpenSpec.upto fleetRowsMatchSpecSpec)) fleetRowsMatchSpecUptoCard

/-- THE SECOND FORM's CARD OF 'orangeboxlaw9.FleetMaskMatchesSpec'. -/
def fleetMaskMatchesSpecUptoCard : Claim7 := { stood := { row := fleetMaskMatchesSpecUptoRow, standIns := [], harness := (true, "5de5e90b04132193777f8b3de43ef450876f1a9bd6e63671243b34dcc71359d6"), looks := false }, kinds := [], alts := [], laidByText := true, laidKinds := [.data, .data, .data], laidTests := true, laidLooks := .later }
def FleetMaskMatchesSpecUptoCardSaid : Prop := Claim7.holds Tryd.pinned (.plain (OpenSpec.upto fleetMaskMatchesSpecSpec)) fleetMaskMatchesSpecUptoCard
end Rows
end Go.Proofs.YtbjhondbheijiaaDoor
