/-
  DERIVED. GIVEN WITH THE SEED: THE CARDS: each row of YthllgjnlmjpinaaGreatDoorRows.lean that lists a variable, with what it lists TIED to the program's text (the seventh form; the later family's looks); each row that meets fmt, with fmt's text TOLD by the authors' own Lean function (tested against real Go, not proved from fmt's source: count such statements apart). THE CARD IS WHAT COUNTS. Prove the row's statement (the work); the ties are given (YthllgjnlmjpinaaGreatDoorTie.lean); close each card by the builder's one call (the guide's Derived/Test/ToyasCard.lean, 'card_holds'). Laid BY PROGRAM, IN A SANDBOX (cutbox-door.mjs). By AI agents, Wed Nov 11 2026. No macro, syntax, notation, axiom, sorry.
-/
import Derived.Test.YthllgjnlmjpinaaGreatDoorRows
import GoSem.ClaimSeven
namespace Go.Proofs.YthllgjnlmjpinaaGreatDoor
namespace Rows

/-- THE TIED CARD OF 'orangeboxlaw9.FleetFewAreHidden'. -/
def fleetFewAreHiddenCard : Claim7 := { stood := { row := fleetFewAreHiddenRow, standIns := [], harness := (true, "232d95d1ae4b6cfd05783f10b3bfb4aefcb786e7cf8acabb6fe19f01cbd21ba4"), looks := false }, kinds := [], alts := [], laidByText := true, laidKinds := [.data, .data, .data], laidTests := true, laidLooks := .later }
def FleetFewAreHiddenCardSaid : Prop := Claim7.holds Tryz.pinned (.plain (OpenSpec.ofChange fleetFewAreHiddenSpec)) fleetFewAreHiddenCard

/-- THE TIED CARD OF 'orangeboxlaw9.FleetTablesAddUp'. -/
def fleetTablesAddUpCard : Claim7 := { stood := { row := fleetTablesAddUpRow, standIns := [], harness := (true, "232d95d1ae4b6cfd05783f10b3bfb4aefcb786e7cf8acabb6fe19f01cbd21ba4"), looks := false }, kinds := [], alts := [], laidByText := true, laidKinds := [.data, .data, .data], laidTests := true, laidLooks := .later }
def FleetTablesAddUpCardSaid : Prop := Claim7.holds Tryz.pinned (.plain (OpenSpec.ofChange fleetTablesAddUpSpec)) fleetTablesAddUpCard

/-- THE TIED CARD OF 'orangeboxtop.TopMasksHide'. -/
def topMasksHideCard : Claim7 := { stood := { row := topMasksHideRow, standIns := [], harness := (true, "232d95d1ae4b6cfd05783f10b3bfb4aefcb786e7cf8acabb6fe19f01cbd21ba4"), looks := false }, kinds := [], alts := [], laidByText := true, laidKinds := [.data, .data, .data, .data], laidTests := true, laidLooks := .later }
def TopMasksHideCardSaid : Prop := Claim7.holds Tryz.pinned (.plain (OpenSpec.ofChange topMasksHideSpec)) topMasksHideCard

/-- THE SECOND FORM's CARD OF 'orangeboxlaw9.FleetFewAreHidden'. -/
def fleetFewAreHiddenUptoCard : Claim7 := { stood := { row := fleetFewAreHiddenUptoRow, standIns := [], harness := (true, "232d95d1ae4b6cfd05783f10b3bfb4aefcb786e7cf8acabb6fe19f01cbd21ba4"), looks := false }, kinds := [], alts := [], laidByText := true, laidKinds := [.data, .data, .data], laidTests := true, laidLooks := .later }
def FleetFewAreHiddenUptoCardSaid : Prop := Claim7.holds Tryz.pinned (.plain (OpenSpec.upto fleetFewAreHiddenSpec)) fleetFewAreHiddenUptoCard

/-- THE SECOND FORM's CARD OF 'orangeboxlaw9.FleetTablesAddUp'. -/
def fleetTablesAddUpUptoCard : Claim7 := { stood := { row := fleetTablesAddUpUptoRow, standIns := [], harness := (true, "232d95d1ae4b6cfd05783f10b3bfb4aefcb786e7cf8acabb6fe19f01cbd21ba4"), looks := false }, kinds := [], alts := [], laidByText := true, laidKinds := [.data, .data, .data], laidTests := true, laidLooks := .later }
def FleetTablesAddUpUptoCardSaid : Prop := Claim7.holds Tryz.pinned (.plain (OpenSpec.upto fleetTablesAddUpSpec)) fleetTablesAddUpUptoCard

/-- THE SECOND FORM's CARD OF 'orangeboxtop.TopMasksHide'. -/
def topMasksHideUptoCard : Claim7 := { stood := { row := topMasksHideUptoRow, standIns := [], harness := (true, "232d95d1ae4b6cfd05783f10b3bfb4aefcb786e7cf8acabb6fe19f01cbd21ba4"), looks := false }, kinds := [], alts := [], laidByText := true, laidKinds := [.data, .data, .data, .data], laidTests := true, laidLooks := .later }
def TopMasksHideUptoCardSaid : Prop := Claim7.holds Tryz.pinned (.plain (OpenSpec.upto topMasksHideSpec)) topMasksHideUptoCard
end Rows
end Go.Proofs.YthllgjnlmjpinaaGreatDoor
