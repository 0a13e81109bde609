/-
  DERIVED. GIVEN WITH THE SEED: THE CARDS: each row of YthgccglopkgghaaGreatDoorRows.lean that lists a variable, with what it lists TIED to the program's text (the seventh form; the later family's looks); each row that meets fmt, with fmt's text TOLD by the authors' own Lean function (tested against real Go, not proved from fmt's source: count such statements apart). THE CARD IS WHAT COUNTS. Prove the row's statement (the work); the ties are given (YthgccglopkgghaaGreatDoorTie.lean); close each card by the builder's one call (the guide's Derived/Test/ToyasCard.lean, 'card_holds'). Laid BY PROGRAM, IN A SANDBOX (cutbox-door.mjs). By AI agents, Wed Nov 11 2026. No macro, syntax, notation, axiom, sorry.
-/
import Derived.Test.YthgccglopkgghaaGreatDoorRows
import GoSem.ClaimSeven
namespace Go.Proofs.YthgccglopkgghaaGreatDoor
namespace Rows

/-- THE TIED CARD OF 'orangeboxlaw6.EventReadMatchesSpec'. -/
def eventReadMatchesSpecCard : Claim7 := { stood := { row := eventReadMatchesSpecRow, standIns := [], harness := (true, "015628bbdae35a6180050296d4ee10c1dd5c32f53ae1456fa121a061ecc1be85"), looks := true }, kinds := [], alts := [], laidByText := true, laidKinds := [.data, .data, .data, .sentinel, .sentinel, .widerDeep], laidTests := true, laidLooks := .later }
def EventReadMatchesSpecCardSaid : Prop := Claim7.holds Tryz.pinned (.plain (OpenSpec.ofChange eventReadMatchesSpecSpec)) eventReadMatchesSpecCard

/-- THE TIED CARD OF 'orangeboxlaw6.EventPrintMatchesSpec'. -/
def eventPrintMatchesSpecCard : Claim7 := { stood := { row := eventPrintMatchesSpecRow, standIns := [], harness := (true, "015628bbdae35a6180050296d4ee10c1dd5c32f53ae1456fa121a061ecc1be85"), looks := true }, kinds := [], alts := [], laidByText := true, laidKinds := [.data, .data, .data, .sentinel, .sentinel, .widerDeep], laidTests := true, laidLooks := .later }
def EventPrintMatchesSpecCardSaid : Prop := Claim7.holds Tryz.pinned (.plain (OpenSpec.ofChange eventPrintMatchesSpecSpec)) eventPrintMatchesSpecCard

/-- THE SECOND FORM's CARD OF 'orangeboxlaw6.EventReadMatchesSpec'. -/
def eventReadMatchesSpecUptoCard : Claim7 := { stood := { row := eventReadMatchesSpecUptoRow, standIns := [], harness := (true, "015628bbdae35a6180050296d4ee10c1dd5c32f53ae1456fa121a061ecc1be85"), looks := true }, kinds := [], alts := [], laidByText := true, laidKinds := [.data, .data, .data, .sentinel, .sentinel, .widerDeep], laidTests := true, laidLooks := .later }
def EventReadMatchesSpecUptoCardSaid : Prop := Claim7.holds Tryz.pinned (.plain (OpenSpec.upto eventReadMatchesSpecSpec)) eventReadMatchesSpecUptoCard

/-- THE SECOND FORM's CARD OF 'orangeboxlaw6.EventPrintMatchesSpec'. -/
def eventPrintMatchesSpecUptoCard : Claim7 := { stood := { row := eventPrintMatchesSpecUptoRow, standIns := [], harness := (true, "015628bbdae35a6180050296d4ee10c1dd5c32f53ae1456fa121a061ecc1be85"), looks := true }, kinds := [], alts := [], laidByText := true, laidKinds := [.data, .data, .data, .sentinel, .sentinel, .widerDeep], laidTests := true, laidLooks := .later }
def EventPrintMatchesSpecUptoCardSaid : Prop := Claim7.holds Tryz.pinned (.plain (OpenSpec.upto eventPrintMatchesSpecSpec)) eventPrintMatchesSpecUptoCard
end Rows
end Go.Proofs.YthgccglopkgghaaGreatDoor
