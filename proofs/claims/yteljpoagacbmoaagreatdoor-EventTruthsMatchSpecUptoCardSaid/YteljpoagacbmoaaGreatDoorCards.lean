/-
  DERIVED. GIVEN WITH THE SEED: THE CARDS: each row of YteljpoagacbmoaaGreatDoorRows.lean that lists a variable, with what it lists TIED to the program's text (the seventh form; the later family's looks); each row that meets fmt, with fmt's text TOLD by the authors' own Lean function (tested against real Go, not proved from fmt's source: count such statements apart). THE CARD IS WHAT COUNTS. Prove the row's statement (the work); the ties are given (YteljpoagacbmoaaGreatDoorTie.lean); close each card by the builder's one call (the guide's Derived/Test/ToyasCard.lean, 'card_holds'). Laid BY PROGRAM, IN A SANDBOX (cutbox-door.mjs). By AI agents, Wed Nov 11 2026. No macro, syntax, notation, axiom, sorry.
-/
import Derived.Test.YteljpoagacbmoaaGreatDoorRows
import GoSem.ClaimSeven
namespace Go.Proofs.YteljpoagacbmoaaGreatDoor
namespace Rows

/-- THE TIED CARD OF 'orangeboxlaw9.FleetEventsMatchSpec'. -/
def fleetEventsMatchSpecCard : Claim7 := { stood := { row := fleetEventsMatchSpecRow, standIns := [], harness := (true, "4a44e43c9c8662d40836018d069731281d54281e577c30fc33e5a80217505c76"), looks := true }, kinds := [], alts := [], laidByText := true, laidKinds := [.data, .data, .data], laidTests := true, laidLooks := .later }
def FleetEventsMatchSpecCardSaid : Prop := Claim7.holds Tryz.pinned (.plain (OpenSpec.ofChange fleetEventsMatchSpecSpec)) fleetEventsMatchSpecCard

/-- THE TIED CARD OF 'orangeboxlaw9.FleetTableMatchesSpec'. -/
def fleetTableMatchesSpecCard : Claim7 := { stood := { row := fleetTableMatchesSpecRow, standIns := [], harness := (true, "4a44e43c9c8662d40836018d069731281d54281e577c30fc33e5a80217505c76"), looks := true }, kinds := [], alts := [], laidByText := true, laidKinds := [.data, .data, .data], laidTests := true, laidLooks := .later }
def FleetTableMatchesSpecCardSaid : Prop := Claim7.holds Tryz.pinned (.plain (OpenSpec.ofChange fleetTableMatchesSpecSpec)) fleetTableMatchesSpecCard

/-- THE TIED CARD OF 'orangeboxlaw6.EventTruthsMatchSpec'. -/
def eventTruthsMatchSpecCard : Claim7 := { stood := { row := eventTruthsMatchSpecRow, standIns := [], harness := (true, "4a44e43c9c8662d40836018d069731281d54281e577c30fc33e5a80217505c76"), looks := true }, kinds := [], alts := [], laidByText := true, laidKinds := [.data, .data, .data, .sentinel, .sentinel, .widerDeep], laidTests := true, laidLooks := .later }
def EventTruthsMatchSpecCardSaid : Prop := Claim7.holds Tryz.pinned (.plain (OpenSpec.ofChange eventTruthsMatchSpecSpec)) eventTruthsMatchSpecCard

/-- THE TIED CARD OF 'orangeboxlaw6.EventWatchMatchesSpec'. -/
def eventWatchMatchesSpecCard : Claim7 := { stood := { row := eventWatchMatchesSpecRow, standIns := [], harness := (true, "4a44e43c9c8662d40836018d069731281d54281e577c30fc33e5a80217505c76"), looks := true }, kinds := [], alts := [], laidByText := true, laidKinds := [.data, .data, .data, .sentinel, .sentinel, .widerDeep], laidTests := true, laidLooks := .later }
def EventWatchMatchesSpecCardSaid : Prop := Claim7.holds Tryz.pinned (.plain (OpenSpec.ofChange eventWatchMatchesSpecSpec)) eventWatchMatchesSpecCard

/-- THE TIED CARD OF 'orangeboxlaw6.EventPhasesMatchSpec'. -/
def eventPhasesMatchSpecCard : Claim7 := { stood := { row := eventPhasesMatchSpecRow, standIns := [], harness := (true, "4a44e43c9c8662d40836018d069731281d54281e577c30fc33e5a80217505c76"), looks := true }, kinds := [], alts := [], laidByText := true, laidKinds := [.data, .data, .data, .sentinel, .sentinel, .widerDeep], laidTests := true, laidLooks := .later }
def EventPhasesMatchSpecCardSaid : Prop := Claim7.holds Tryz.pinned (.plain (OpenSpec.ofChange eventPhasesMatchSpecSpec)) eventPhasesMatchSpecCard

/-- THE SECOND FORM's CARD OF 'orangeboxlaw9.FleetEventsMatchSpec'. -/
def fleetEventsMatchSpecUptoCard : Claim7 := { stood := { row := fleetEventsMatchSpecUptoRow, standIns := [], harness := (true, "4a44e43c9c8662d40836018d069731281d54281e577c30fc33e5a80217505c76"), looks := true }, kinds := [], alts := [], laidByText := true, laidKinds := [.data, .data, .data], laidTests := true, laidLooks := .later }
def FleetEventsMatchSpecUptoCardSaid : Prop := Claim7.holds Tryz.pinned (.plain (OpenSpec.upto fleetEventsMatchSpecSpec)) fleetEventsMatchSpecUptoCard

/-- THE SECOND FORM's CARD OF 'orangeboxlaw9.FleetTableMatchesSpec'. -/
def fleetTableMatchesSpecUptoCard : Claim7 := { stood := { row := fleetTableMatchesSpecUptoRow, standIns := [], harness := (true, "4a44e43c9c8662d40836018d069731281d54281e577c30fc33e5a80217505c76"), looks := true }, kinds := [], alts := [], laidByText := true, laidKinds := [.data, .data, .data], laidTests := true, laidLooks := .later }
def FleetTableMatchesSpecUptoCardSaid : Prop := Claim7.holds Tryz.pinned (.plain (OpenSpec.upto fleetTableMatchesSpecSpec)) fleetTableMatchesSpecUptoCard

/-- THE SECOND FORM's CARD OF 'orangeboxlaw6.EventTruthsMatchSpec'. -/
def eventTruthsMatchSpecUptoCard : Claim7 := { stood := { row := eventTruthsMatchSpecUptoRow, standIns := [], harness := (true, "4a44e43c9c8662d40836018d069731281d54281e577c30fc33e5a80217505c76"), looks := true }, kinds := [], alts := [], laidByText := true, laidKinds := [.data, .data, .data, .sentinel, .sentinel, .widerDeep], laidTests := true, laidLooks := .later }
def EventTruthsMatchSpecUptoCardSaid : Prop := Claim7.holds Tryz.pinned (.plain (OpenSpec.upto eventTruthsMatchSpecSpec)) eventTruthsMatchSpecUptoCard

/-- THE SECOND FORM's CARD OF 'orangeboxlaw6.EventWatchMatchesSpec'. -/
def eventWatchMatchesSpecUptoCard : Claim7 := { stood := { row := eventWatchMatchesSpecUptoRow, standIns := [], harness := (true, "4a44e43c9c8662d40836018d069731281d54281e577c30fc33e5a80217505c76"), looks := true }, kinds := [], alts := [], laidByText := true, laidKinds := [.data, .data, .data, .sentinel, .sentinel, .widerDeep], laidTests := true, laidLooks := .later }
def EventWatchMatchesSpecUptoCardSaid : Prop := Claim7.holds Tryz.pinned (.plain (OpenSpec.upto eventWatchMatchesSpecSpec)) eventWatchMatchesSpecUptoCard

/-- THE SECOND FORM's CARD OF 'orangeboxlaw6.EventPhasesMatchSpec'. -/
def eventPhasesMatchSpecUptoCard : Claim7 := { stood := { row := eventPhasesMatchSpecUptoRow, standIns := [], harness := (true, "4a44e43c9c8662d40836018d069731281d54281e577c30fc33e5a80217505c76"), looks := true }, kinds := [], alts := [], laidByText := true, laidKinds := [.data, .data, .data, .sentinel, .sentinel, .widerDeep], laidTests := true, laidLooks := .later }
def EventPhasesMatchSpecUptoCardSaid : Prop := Claim7.holds Tryz.pinned (.plain (OpenSpec.upto eventPhasesMatchSpecSpec)) eventPhasesMatchSpecUptoCard
end Rows
end Go.Proofs.YteljpoagacbmoaaGreatDoor
