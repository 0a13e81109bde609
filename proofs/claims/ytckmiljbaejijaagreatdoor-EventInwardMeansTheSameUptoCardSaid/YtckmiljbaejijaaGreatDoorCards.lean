/-
  DERIVED. GIVEN WITH THE SEED: THE CARDS: each row of YtckmiljbaejijaaGreatDoorRows.lean that lists a variable, with what it lists TIED to the program's text (the seventh form; the later family's looks); each row that meets fmt, with fmt's text TOLD by the authors' own Lean function (tested against real Go, not proved from fmt's source: count such statements apart). THE CARD IS WHAT COUNTS. Prove the row's statement (the work); the ties are given (YtckmiljbaejijaaGreatDoorTie.lean); close each card by the builder's one call (the guide's Derived/Test/ToyasCard.lean, 'card_holds'). Laid BY PROGRAM, IN A SANDBOX (cutbox-door.mjs). By AI agents, Wed Nov 11 2026. No macro, syntax, notation, axiom, sorry.
-/
import Derived.Test.YtckmiljbaejijaaGreatDoorRows
import GoSem.ClaimSeven
namespace Go.Proofs.YtckmiljbaejijaaGreatDoor
namespace Rows

/-- THE TIED CARD OF 'orangeboxtop.TopUnknownIsHonest'. -/
def topUnknownIsHonestCard : Claim7 := { stood := { row := topUnknownIsHonestRow, standIns := [], harness := (true, "e393cda4db139a45f04eb2f6ef96dc77e927a75d0668cf579b0d0f3486e85ee6"), looks := true }, kinds := [], alts := [], laidByText := true, laidKinds := [.data], laidTests := true, laidLooks := .later }
def TopUnknownIsHonestCardSaid : Prop := Claim7.holds Tryz.pinned (.plain (OpenSpec.ofChange topUnknownIsHonestSpec)) topUnknownIsHonestCard

/-- THE TIED CARD OF 'orangeboxlaw6.EventReadMatchesSpec'. -/
def eventReadMatchesSpecCard : Claim7 := { stood := { row := eventReadMatchesSpecRow, standIns := [], harness := (true, "e393cda4db139a45f04eb2f6ef96dc77e927a75d0668cf579b0d0f3486e85ee6"), looks := true }, kinds := [], alts := [], laidByText := true, laidKinds := [.data, .data, .data, .sentinel, .sentinel, .widerDeep], laidTests := true, laidLooks := .later }
def EventReadMatchesSpecCardSaid : Prop := Claim7.holds Tryz.pinned (.plain (OpenSpec.ofChange eventReadMatchesSpecSpec)) eventReadMatchesSpecCard

/-- THE TIED CARD OF 'orangeboxlaw6.EventPrintMatchesSpec'. -/
def eventPrintMatchesSpecCard : Claim7 := { stood := { row := eventPrintMatchesSpecRow, standIns := [], harness := (true, "e393cda4db139a45f04eb2f6ef96dc77e927a75d0668cf579b0d0f3486e85ee6"), looks := true }, kinds := [], alts := [], laidByText := true, laidKinds := [.data, .data, .data, .sentinel, .sentinel, .widerDeep], laidTests := true, laidLooks := .later }
def EventPrintMatchesSpecCardSaid : Prop := Claim7.holds Tryz.pinned (.plain (OpenSpec.ofChange eventPrintMatchesSpecSpec)) eventPrintMatchesSpecCard

/-- THE TIED CARD OF 'orangeboxtop.TopOnlineIsAtOnce'. -/
def topOnlineIsAtOnceCard : Claim7 := { stood := { row := topOnlineIsAtOnceRow, standIns := [], harness := (true, "e393cda4db139a45f04eb2f6ef96dc77e927a75d0668cf579b0d0f3486e85ee6"), looks := true }, kinds := [], alts := [], laidByText := true, laidKinds := [.data, .data, .data, .data], laidTests := true, laidLooks := .later }
def TopOnlineIsAtOnceCardSaid : Prop := Claim7.holds Tryz.pinned (.plain (OpenSpec.ofChange topOnlineIsAtOnceSpec)) topOnlineIsAtOnceCard

/-- THE TIED CARD OF 'orangeboxlaw6.EventCheckMatchesSpec'. -/
def eventCheckMatchesSpecCard : Claim7 := { stood := { row := eventCheckMatchesSpecRow, standIns := [], harness := (true, "e393cda4db139a45f04eb2f6ef96dc77e927a75d0668cf579b0d0f3486e85ee6"), looks := true }, kinds := [], alts := [], laidByText := true, laidKinds := [.data, .data, .data, .sentinel, .sentinel, .widerDeep], laidTests := true, laidLooks := .later }
def EventCheckMatchesSpecCardSaid : Prop := Claim7.holds Tryz.pinned (.plain (OpenSpec.ofChange eventCheckMatchesSpecSpec)) eventCheckMatchesSpecCard

/-- THE TIED CARD OF 'orangeboxlaw6.EventCopiesGoApart'. -/
def eventCopiesGoApartCard : Claim7 := { stood := { row := eventCopiesGoApartRow, standIns := [], harness := (true, "e393cda4db139a45f04eb2f6ef96dc77e927a75d0668cf579b0d0f3486e85ee6"), looks := true }, kinds := [], alts := [], laidByText := true, laidKinds := [.data, .data, .data, .sentinel, .sentinel, .widerDeep], laidTests := true, laidLooks := .later }
def EventCopiesGoApartCardSaid : Prop := Claim7.holds Tryz.pinned (.plain (OpenSpec.ofChange eventCopiesGoApartSpec)) eventCopiesGoApartCard

/-- THE TIED CARD OF 'orangeboxlaw6.EventTruthsMatchSpec'. -/
def eventTruthsMatchSpecCard : Claim7 := { stood := { row := eventTruthsMatchSpecRow, standIns := [], harness := (true, "e393cda4db139a45f04eb2f6ef96dc77e927a75d0668cf579b0d0f3486e85ee6"), looks := true }, kinds := [], alts := [], laidByText := true, laidKinds := [.data, .data, .data, .sentinel, .sentinel, .widerDeep], laidTests := true, laidLooks := .later }
def EventTruthsMatchSpecCardSaid : Prop := Claim7.holds Tryz.pinned (.plain (OpenSpec.ofChange eventTruthsMatchSpecSpec)) eventTruthsMatchSpecCard

/-- THE TIED CARD OF 'orangeboxlaw6.EventDepthsAreEnough'. -/
def eventDepthsAreEnoughCard : Claim7 := { stood := { row := eventDepthsAreEnoughRow, standIns := [], harness := (true, "e393cda4db139a45f04eb2f6ef96dc77e927a75d0668cf579b0d0f3486e85ee6"), looks := true }, kinds := [], alts := [], laidByText := true, laidKinds := [.data, .data, .data, .sentinel, .sentinel, .widerDeep], laidTests := true, laidLooks := .later }
def EventDepthsAreEnoughCardSaid : Prop := Claim7.holds Tryz.pinned (.plain (OpenSpec.ofChange eventDepthsAreEnoughSpec)) eventDepthsAreEnoughCard

/-- THE TIED CARD OF 'orangeboxlaw6.EventWatchMatchesSpec'. -/
def eventWatchMatchesSpecCard : Claim7 := { stood := { row := eventWatchMatchesSpecRow, standIns := [], harness := (true, "e393cda4db139a45f04eb2f6ef96dc77e927a75d0668cf579b0d0f3486e85ee6"), looks := true }, kinds := [], alts := [], laidByText := true, laidKinds := [.data, .data, .data, .sentinel, .sentinel, .widerDeep], laidTests := true, laidLooks := .later }
def EventWatchMatchesSpecCardSaid : Prop := Claim7.holds Tryz.pinned (.plain (OpenSpec.ofChange eventWatchMatchesSpecSpec)) eventWatchMatchesSpecCard

/-- THE TIED CARD OF 'orangeboxlaw6.EventPhasesMatchSpec'. -/
def eventPhasesMatchSpecCard : Claim7 := { stood := { row := eventPhasesMatchSpecRow, standIns := [], harness := (true, "e393cda4db139a45f04eb2f6ef96dc77e927a75d0668cf579b0d0f3486e85ee6"), looks := true }, kinds := [], alts := [], laidByText := true, laidKinds := [.data, .data, .data, .sentinel, .sentinel, .widerDeep], laidTests := true, laidLooks := .later }
def EventPhasesMatchSpecCardSaid : Prop := Claim7.holds Tryz.pinned (.plain (OpenSpec.ofChange eventPhasesMatchSpecSpec)) eventPhasesMatchSpecCard

/-- THE TIED CARD OF 'orangeboxlaw6.EventInwardMeansTheSame'. -/
def eventInwardMeansTheSameCard : Claim7 := { stood := { row := eventInwardMeansTheSameRow, standIns := [], harness := (true, "e393cda4db139a45f04eb2f6ef96dc77e927a75d0668cf579b0d0f3486e85ee6"), looks := true }, kinds := [], alts := [], laidByText := true, laidKinds := [.data, .data, .data, .sentinel, .sentinel, .widerDeep], laidTests := true, laidLooks := .later }
def EventInwardMeansTheSameCardSaid : Prop := Claim7.holds Tryz.pinned (.plain (OpenSpec.ofChange eventInwardMeansTheSameSpec)) eventInwardMeansTheSameCard

/-- THE SECOND FORM's CARD OF 'orangeboxtop.TopUnknownIsHonest'. -/
def topUnknownIsHonestUptoCard : Claim7 := { stood := { row := topUnknownIsHonestUptoRow, standIns := [], harness := (true, "e393cda4db139a45f04eb2f6ef96dc77e927a75d0668cf579b0d0f3486e85ee6"), looks := true }, kinds := [], alts := [], laidByText := true, laidKinds := [.data], laidTests := true, laidLooks := .later }
def TopUnknownIsHonestUptoCardSaid : Prop := Claim7.holds Tryz.pinned (.plain (OpenSpec.upto topUnknownIsHonestSpec)) topUnknownIsHonestUptoCard

/-- THE SECOND FORM's CARD OF 'orangeboxlaw6.EventReadMatchesSpec'. -/
def eventReadMatchesSpecUptoCard : Claim7 := { stood := { row := eventReadMatchesSpecUptoRow, standIns := [], harness := (true, "e393cda4db139a45f04eb2f6ef96dc77e927a75d0668cf579b0d0f3486e85ee6"), looks := true }, kinds := [], alts := [], laidByText := true, laidKinds := [.data, .data, .data, .sentinel, .sentinel, .widerDeep], laidTests := true, laidLooks := .later }
def EventReadMatchesSpecUptoCardSaid : Prop := Claim7.holds Tryz.pinned (.plain (OpenSpec.upto eventReadMatchesSpecSpec)) eventReadMatchesSpecUptoCard

/-- THE SECOND FORM's CARD OF 'orangeboxlaw6.EventPrintMatchesSpec'. -/
def eventPrintMatchesSpecUptoCard : Claim7 := { stood := { row := eventPrintMatchesSpecUptoRow, standIns := [], harness := (true, "e393cda4db139a45f04eb2f6ef96dc77e927a75d0668cf579b0d0f3486e85ee6"), looks := true }, kinds := [], alts := [], laidByText := true, laidKinds := [.data, .data, .data, .sentinel, .sentinel, .widerDeep], laidTests := true, laidLooks := .later }
def EventPrintMatchesSpecUptoCardSaid : Prop := Claim7.holds Tryz.pinned (.plain (OpenSpec.upto eventPrintMatchesSpecSpec)) eventPrintMatchesSpecUptoCard

/-- THE SECOND FORM's CARD OF 'orangeboxtop.TopOnlineIsAtOnce'. -/
def topOnlineIsAtOnceUptoCard : Claim7 := { stood := { row := topOnlineIsAtOnceUptoRow, standIns := [], harness := (true, "e393cda4db139a45f04eb2f6ef96dc77e927a75d0668cf579b0d0f3486e85ee6"), looks := true }, kinds := [], alts := [], laidByText := true, laidKinds := [.data, .data, .data, .data], laidTests := true, laidLooks := .later }
def TopOnlineIsAtOnceUptoCardSaid : Prop := Claim7.holds Tryz.pinned (.plain (OpenSpec.upto topOnlineIsAtOnceSpec)) topOnlineIsAtOnceUptoCard

/-- THE SECOND FORM's CARD OF 'orangeboxlaw6.EventCheckMatchesSpec'. -/
def eventCheckMatchesSpecUptoCard : Claim7 := { stood := { row := eventCheckMatchesSpecUptoRow, standIns := [], harness := (true, "e393cda4db139a45f04eb2f6ef96dc77e927a75d0668cf579b0d0f3486e85ee6"), looks := true }, kinds := [], alts := [], laidByText := true, laidKinds := [.data, .data, .data, .sentinel, .sentinel, .widerDeep], laidTests := true, laidLooks := .later }
def EventCheckMatchesSpecUptoCardSaid : Prop := Claim7.holds Tryz.pinned (.plain (OpenSpec.upto eventCheckMatchesSpecSpec)) eventCheckMatchesSpecUptoCard

/-- THE SECOND FORM's CARD OF 'orangeboxlaw6.EventCopiesGoApart'. -/
def eventCopiesGoApartUptoCard : Claim7 := { stood := { row := eventCopiesGoApartUptoRow, standIns := [], harness := (true, "e393cda4db139a45f04eb2f6ef96dc77e927a75d0668cf579b0d0f3486e85ee6"), looks := true }, kinds := [], alts := [], laidByText := true, laidKinds := [.data, .data, .data, .sentinel, .sentinel, .widerDeep], laidTests := true, laidLooks := .later }
def EventCopiesGoApartUptoCardSaid : Prop := Claim7.holds Tryz.pinned (.plain (OpenSpec.upto eventCopiesGoApartSpec)) eventCopiesGoApartUptoCard

/-- THE SECOND FORM's CARD OF 'orangeboxlaw6.EventTruthsMatchSpec'. -/
def eventTruthsMatchSpecUptoCard : Claim7 := { stood := { row := eventTruthsMatchSpecUptoRow, standIns := [], harness := (true, "e393cda4db139a45f04eb2f6ef96dc77e927a75d0668cf579b0d0f3486e85ee6"), looks := true }, kinds := [], alts := [], laidByText := true, laidKinds := [.data, .data, .data, .sentinel, .sentinel, .widerDeep], laidTests := true, laidLooks := .later }
def EventTruthsMatchSpecUptoCardSaid : Prop := Claim7.holds Tryz.pinned (.plain (OpenSpec.upto eventTruthsMatchSpecSpec)) eventTruthsMatchSpecUptoCard

/-- THE SECOND FORM's CARD OF 'orangeboxlaw6.EventDepthsAreEnough'. -/
def eventDepthsAreEnoughUptoCard : Claim7 := { stood := { row := eventDepthsAreEnoughUptoRow, standIns := [], harness := (true, "e393cda4db139a45f04eb2f6ef96dc77e927a75d0668cf579b0d0f3486e85ee6"), looks := true }, kinds := [], alts := [], laidByText := true, laidKinds := [.data, .data, .data, .sentinel, .sentinel, .widerDeep], laidTests := true, laidLooks := .later }
def EventDepthsAreEnoughUptoCardSaid : Prop := Claim7.holds Tryz.pinned (.plain (OpenSpec.upto eventDepthsAreEnoughSpec)) eventDepthsAreEnoughUptoCard

/-- THE SECOND FORM's CARD OF 'orangeboxlaw6.EventWatchMatchesSpec'. -/
def eventWatchMatchesSpecUptoCard : Claim7 := { stood := { row := eventWatchMatchesSpecUptoRow, standIns := [], harness := (true, "e393cda4db139a45f04eb2f6ef96dc77e927a75d0668cf579b0d0f3486e85ee6"), looks := true }, kinds := [], alts := [], laidByText := true, laidKinds := [.data, .data, .data, .sentinel, .sentinel, .widerDeep], laidTests := true, laidLooks := .later }
def EventWatchMatchesSpecUptoCardSaid : Prop := Claim7.holds Tryz.pinned (.plain (OpenSpec.upto eventWatchMatchesSpecSpec)) eventWatchMatchesSpecUptoCard

/-- THE SECOND FORM's CARD OF 'orangeboxlaw6.EventPhasesMatchSpec'. -/
def eventPhasesMatchSpecUptoCard : Claim7 := { stood := { row := eventPhasesMatchSpecUptoRow, standIns := [], harness := (true, "e393cda4db139a45f04eb2f6ef96dc77e927a75d0668cf579b0d0f3486e85ee6"), looks := true }, kinds := [], alts := [], laidByText := true, laidKinds := [.data, .data, .data, .sentinel, .sentinel, .widerDeep], laidTests := true, laidLooks := .later }
def EventPhasesMatchSpecUptoCardSaid : Prop := Claim7.holds Tryz.pinned (.plain (OpenSpec.upto eventPhasesMatchSpecSpec)) eventPhasesMatchSpecUptoCard

/-- THE SECOND FORM's CARD OF 'orangeboxlaw6.EventInwardMeansTheSame'. -/
def eventInwardMeansTheSameUptoCard : Claim7 := { stood := { row := eventInwardMeansTheSameUptoRow, standIns := [], harness := (true, "e393cda4db139a45f04eb2f6ef96dc77e927a75d0668cf579b0d0f3486e85ee6"), looks := true }, kinds := [], alts := [], laidByText := true, laidKinds := [.data, .data, .data, .sentinel, .sentinel, .widerDeep], laidTests := true, laidLooks := .later }
def EventInwardMeansTheSameUptoCardSaid : Prop := Claim7.holds Tryz.pinned (.plain (OpenSpec.upto eventInwardMeansTheSameSpec)) eventInwardMeansTheSameUptoCard
end Rows
end Go.Proofs.YtckmiljbaejijaaGreatDoor
