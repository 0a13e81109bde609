/-
  DERIVED. GIVEN WITH THE SEED: THE CARDS: each row of YtnajnkghilemhaaGreatDoorRows.lean that lists a variable, with what it lists TIED to the program's text (the seventh form; the later family's looks); each row that meets fmt, with fmt's text TOLD by the authors' own Lean function (tested against real Go, not proved from fmt's source: count such statements apart). THE CARD IS WHAT COUNTS. Prove the row's statement (the work); the ties are given (YtnajnkghilemhaaGreatDoorTie.lean); close each card by the builder's one call (the guide's Derived/Test/ToyasCard.lean, 'card_holds'). Laid BY PROGRAM, IN A SANDBOX (cutbox-door.mjs). By AI agents, Wed Nov 11 2026. No macro, syntax, notation, axiom, sorry.
-/
import Derived.Test.YtnajnkghilemhaaGreatDoorRows
import GoSem.ClaimSeven
namespace Go.Proofs.YtnajnkghilemhaaGreatDoor
namespace Rows

/-- THE TIED CARD OF 'orangeboxtop.TopUnknownIsHonest'. -/
def topUnknownIsHonestCard : Claim7 := { stood := { row := topUnknownIsHonestRow, standIns := [], harness := (true, "e6fe387065f781bf88725ab2aef103eba54c428cbc2e03d1fac54505725764da"), looks := true }, kinds := [], alts := [], laidByText := true, laidKinds := [.data], laidTests := true, laidLooks := .later }
def TopUnknownIsHonestCardSaid : Prop := Claim7.holds Tryz.pinned (.plain (OpenSpec.ofChange topUnknownIsHonestSpec)) topUnknownIsHonestCard

/-- THE TIED CARD OF 'orangeboxlaw6.EventReadMatchesSpec'. -/
def eventReadMatchesSpecCard : Claim7 := { stood := { row := eventReadMatchesSpecRow, standIns := [], harness := (true, "e6fe387065f781bf88725ab2aef103eba54c428cbc2e03d1fac54505725764da"), looks := true }, kinds := [], alts := [], laidByText := true, laidKinds := [.data, .data, .data, .sentinel, .sentinel, .widerDeep], laidTests := true, laidLooks := .later }
def EventReadMatchesSpecCardSaid : Prop := Claim7.holds Tryz.pinned (.plain (OpenSpec.ofChange eventReadMatchesSpecSpec)) eventReadMatchesSpecCard

/-- THE TIED CARD OF 'orangeboxlaw6.EventPrintMatchesSpec'. -/
def eventPrintMatchesSpecCard : Claim7 := { stood := { row := eventPrintMatchesSpecRow, standIns := [], harness := (true, "e6fe387065f781bf88725ab2aef103eba54c428cbc2e03d1fac54505725764da"), looks := true }, kinds := [], alts := [], laidByText := true, laidKinds := [.data, .data, .data, .sentinel, .sentinel, .widerDeep], laidTests := true, laidLooks := .later }
def EventPrintMatchesSpecCardSaid : Prop := Claim7.holds Tryz.pinned (.plain (OpenSpec.ofChange eventPrintMatchesSpecSpec)) eventPrintMatchesSpecCard

/-- THE TIED CARD OF 'orangeboxlaw6.EventInwardMatchesSpec'. -/
def eventInwardMatchesSpecCard : Claim7 := { stood := { row := eventInwardMatchesSpecRow, standIns := [], harness := (true, "e6fe387065f781bf88725ab2aef103eba54c428cbc2e03d1fac54505725764da"), looks := true }, kinds := [], alts := [], laidByText := true, laidKinds := [.data, .data, .data, .sentinel, .sentinel, .widerDeep], laidTests := true, laidLooks := .later }
def EventInwardMatchesSpecCardSaid : Prop := Claim7.holds Tryz.pinned (.plain (OpenSpec.ofChange eventInwardMatchesSpecSpec)) eventInwardMatchesSpecCard

/-- THE TIED CARD OF 'orangeboxlaw6.EventSlowerMatchesSpec'. -/
def eventSlowerMatchesSpecCard : Claim7 := { stood := { row := eventSlowerMatchesSpecRow, standIns := [], harness := (true, "e6fe387065f781bf88725ab2aef103eba54c428cbc2e03d1fac54505725764da"), looks := true }, kinds := [], alts := [], laidByText := true, laidKinds := [.data, .data, .data, .sentinel, .sentinel, .widerDeep], laidTests := true, laidLooks := .later }
def EventSlowerMatchesSpecCardSaid : Prop := Claim7.holds Tryz.pinned (.plain (OpenSpec.ofChange eventSlowerMatchesSpecSpec)) eventSlowerMatchesSpecCard

/-- THE TIED CARD OF 'orangeboxlaw6.EventInputsMatchSpec'. -/
def eventInputsMatchSpecCard : Claim7 := { stood := { row := eventInputsMatchSpecRow, standIns := [], harness := (true, "e6fe387065f781bf88725ab2aef103eba54c428cbc2e03d1fac54505725764da"), looks := true }, kinds := [], alts := [], laidByText := true, laidKinds := [.data, .data, .data, .sentinel, .sentinel, .widerDeep], laidTests := true, laidLooks := .later }
def EventInputsMatchSpecCardSaid : Prop := Claim7.holds Tryz.pinned (.plain (OpenSpec.ofChange eventInputsMatchSpecSpec)) eventInputsMatchSpecCard

/-- THE SECOND FORM's CARD OF 'orangeboxtop.TopUnknownIsHonest'. -/
def topUnknownIsHonestUptoCard : Claim7 := { stood := { row := topUnknownIsHonestUptoRow, standIns := [], harness := (true, "e6fe387065f781bf88725ab2aef103eba54c428cbc2e03d1fac54505725764da"), looks := true }, kinds := [], alts := [], laidByText := true, laidKinds := [.data], laidTests := true, laidLooks := .later }
def TopUnknownIsHonestUptoCardSaid : Prop := Claim7.holds Tryz.pinned (.plain (OpenSpec.upto topUnknownIsHonestSpec)) topUnknownIsHonestUptoCard

/-- THE SECOND FORM's CARD OF 'orangeboxlaw6.EventReadMatchesSpec'. -/
def eventReadMatchesSpecUptoCard : Claim7 := { stood := { row := eventReadMatchesSpecUptoRow, standIns := [], harness := (true, "e6fe387065f781bf88725ab2aef103eba54c428cbc2e03d1fac54505725764da"), looks := true }, kinds := [], alts := [], laidByText := true, laidKinds := [.data, .data, .data, .sentinel, .sentinel, .widerDeep], laidTests := true, laidLooks := .later }
def EventReadMatchesSpecUptoCardSaid : Prop := Claim7.holds Tryz.pinned (.plain (OpenSpec.upto eventReadMatchesSpecSpec)) eventReadMatchesSpecUptoCard

/-- THE SECOND FORM's CARD OF 'orangeboxlaw6.EventPrintMatchesSpec'. -/
def eventPrintMatchesSpecUptoCard : Claim7 := { stood := { row := eventPrintMatchesSpecUptoRow, standIns := [], harness := (true, "e6fe387065f781bf88725ab2aef103eba54c428cbc2e03d1fac54505725764da"), looks := true }, kinds := [], alts := [], laidByText := true, laidKinds := [.data, .data, .data, .sentinel, .sentinel, .widerDeep], laidTests := true, laidLooks := .later }
def EventPrintMatchesSpecUptoCardSaid : Prop := Claim7.holds Tryz.pinned (.plain (OpenSpec.upto eventPrintMatchesSpecSpec)) eventPrintMatchesSpecUptoCard

/-- THE SECOND FORM's CARD OF 'orangeboxlaw6.EventInwardMatchesSpec'. -/
def eventInwardMatchesSpecUptoCard : Claim7 := { stood := { row := eventInwardMatchesSpecUptoRow, standIns := [], harness := (true, "e6fe387065f781bf88725ab2aef103eba54c428cbc2e03d1fac54505725764da"), looks := true }, kinds := [], alts := [], laidByText := true, laidKinds := [.data, .data, .data, .sentinel, .sentinel, .widerDeep], laidTests := true, laidLooks := .later }
def EventInwardMatchesSpecUptoCardSaid : Prop := Claim7.holds Tryz.pinned (.plain (OpenSpec.upto eventInwardMatchesSpecSpec)) eventInwardMatchesSpecUptoCard

/-- THE SECOND FORM's CARD OF 'orangeboxlaw6.EventSlowerMatchesSpec'. -/
def eventSlowerMatchesSpecUptoCard : Claim7 := { stood := { row := eventSlowerMatchesSpecUptoRow, standIns := [], harness := (true, "e6fe387065f781bf88725ab2aef103eba54c428cbc2e03d1fac54505725764da"), looks := true }, kinds := [], alts := [], laidByText := true, laidKinds := [.data, .data, .data, .sentinel, .sentinel, .widerDeep], laidTests := true, laidLooks := .later }
def EventSlowerMatchesSpecUptoCardSaid : Prop := Claim7.holds Tryz.pinned (.plain (OpenSpec.upto eventSlowerMatchesSpecSpec)) eventSlowerMatchesSpecUptoCard

/-- THE SECOND FORM's CARD OF 'orangeboxlaw6.EventInputsMatchSpec'. -/
def eventInputsMatchSpecUptoCard : Claim7 := { stood := { row := eventInputsMatchSpecUptoRow, standIns := [], harness := (true, "e6fe387065f781bf88725ab2aef103eba54c428cbc2e03d1fac54505725764da"), looks := true }, kinds := [], alts := [], laidByText := true, laidKinds := [.data, .data, .data, .sentinel, .sentinel, .widerDeep], laidTests := true, laidLooks := .later }
def EventInputsMatchSpecUptoCardSaid : Prop := Claim7.holds Tryz.pinned (.plain (OpenSpec.upto eventInputsMatchSpecSpec)) eventInputsMatchSpecUptoCard
end Rows
end Go.Proofs.YtnajnkghilemhaaGreatDoor
