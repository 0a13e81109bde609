/-
  DERIVED. GIVEN WITH THE SEED: THE CARDS: each row of YtafgmocdnjdmoaaDoorRows.lean that lists a variable, with what it lists TIED to the program's text (the seventh form; the later family's looks); each row that meets fmt, with fmt's text TOLD by the authors' own Lean function (tested against real Go, not proved from fmt's source: count such statements apart). THE CARD IS WHAT COUNTS. Prove the row's statement (the work); the ties are given (YtafgmocdnjdmoaaDoorTie.lean); close each card by the builder's one call (the guide's Derived/Test/ToyasCard.lean, 'card_holds'). Laid BY PROGRAM, IN A SANDBOX (cutbox-door.mjs). By AI agents, Wed Nov 11 2026. No macro, syntax, notation, axiom, sorry.
-/
import Derived.Test.YtafgmocdnjdmoaaDoorRows
import GoSem.ClaimSeven
namespace Go.Proofs.YtafgmocdnjdmoaaDoor
namespace Rows

/-- THE TIED CARD OF 'orangeboxlaw1.FramePutMatchesSpec'. -/
def framePutMatchesSpecCard : Claim7 := { stood := { row := framePutMatchesSpecRow, standIns := [], harness := (true, "e379a32236622c4de899be3acdea188a1e7507a2912f9d6419c3b397db05b2b7"), looks := false }, kinds := [], alts := [], laidByText := true, laidKinds := [.data], laidTests := true, laidLooks := .later }
def FramePutMatchesSpecCardSaid : Prop := Claim7.holds Tryd.pinned (.plain (OpenSpec.ofChange framePutMatchesSpecSpec)) framePutMatchesSpecCard

/-- THE TIED CARD OF 'orangeboxlaw1.FrameDistanceIsAMetric'. -/
def frameDistanceIsAMetricCard : Claim7 := { stood := { row := frameDistanceIsAMetricRow, standIns := [], harness := (true, "e379a32236622c4de899be3acdea188a1e7507a2912f9d6419c3b397db05b2b7"), looks := false }, kinds := [], alts := [], laidByText := true, laidKinds := [.data], laidTests := true, laidLooks := .later }
def FrameDistanceIsAMetricCardSaid : Prop := Claim7.holds Tryd.pinned (.plain (OpenSpec.ofChange frameDistanceIsAMetricSpec)) frameDistanceIsAMetricCard

/-- THE TIED CARD OF 'orangeboxlaw1.FrameSetWordMatchesSpec'. -/
def frameSetWordMatchesSpecCard : Claim7 := { stood := { row := frameSetWordMatchesSpecRow, standIns := [], harness := (true, "e379a32236622c4de899be3acdea188a1e7507a2912f9d6419c3b397db05b2b7"), looks := false }, kinds := [], alts := [], laidByText := true, laidKinds := [.data], laidTests := true, laidLooks := .later }
def FrameSetWordMatchesSpecCardSaid : Prop := Claim7.holds Tryd.pinned (.plain (OpenSpec.ofChange frameSetWordMatchesSpecSpec)) frameSetWordMatchesSpecCard

/-- THE TIED CARD OF 'orangeboxlaw1.FrameWordMatchesSpec'. -/
def frameWordMatchesSpecCard : Claim7 := { stood := { row := frameWordMatchesSpecRow, standIns := [], harness := (true, "e379a32236622c4de899be3acdea188a1e7507a2912f9d6419c3b397db05b2b7"), looks := false }, kinds := [], alts := [], laidByText := true, laidKinds := [.data], laidTests := true, laidLooks := .later }
def FrameWordMatchesSpecCardSaid : Prop := Claim7.holds Tryd.pinned (.plain (OpenSpec.ofChange frameWordMatchesSpecSpec)) frameWordMatchesSpecCard

/-- THE TIED CARD OF 'orangeboxlaw1.FrameFlipsAreNoticed'. -/
def frameFlipsAreNoticedCard : Claim7 := { stood := { row := frameFlipsAreNoticedRow, standIns := [], harness := (true, "e379a32236622c4de899be3acdea188a1e7507a2912f9d6419c3b397db05b2b7"), looks := false }, kinds := [], alts := [], laidByText := true, laidKinds := [.data], laidTests := true, laidLooks := .later }
def FrameFlipsAreNoticedCardSaid : Prop := Claim7.holds Tryd.pinned (.plain (OpenSpec.ofChange frameFlipsAreNoticedSpec)) frameFlipsAreNoticedCard

/-- THE TIED CARD OF 'orangeboxlaw1.FrameBytesRoundTrip'. -/
def frameBytesRoundTripCard : Claim7 := { stood := { row := frameBytesRoundTripRow, standIns := [], harness := (true, "e379a32236622c4de899be3acdea188a1e7507a2912f9d6419c3b397db05b2b7"), looks := false }, kinds := [], alts := [], laidByText := true, laidKinds := [.data], laidTests := true, laidLooks := .later }
def FrameBytesRoundTripCardSaid : Prop := Claim7.holds Tryd.pinned (.plain (OpenSpec.ofChange frameBytesRoundTripSpec)) frameBytesRoundTripCard

/-- THE TIED CARD OF 'orangeboxlaw1.FramePutSecondMatchesSpec'. -/
def framePutSecondMatchesSpecCard : Claim7 := { stood := { row := framePutSecondMatchesSpecRow, standIns := [], harness := (true, "e379a32236622c4de899be3acdea188a1e7507a2912f9d6419c3b397db05b2b7"), looks := false }, kinds := [], alts := [], laidByText := true, laidKinds := [.data], laidTests := true, laidLooks := .later }
def FramePutSecondMatchesSpecCardSaid : Prop := Claim7.holds Tryd.pinned (.plain (OpenSpec.ofChange framePutSecondMatchesSpecSpec)) framePutSecondMatchesSpecCard

/-- THE TIED CARD OF 'orangeboxlaw1.FrameSwapMatchesSpec'. -/
def frameSwapMatchesSpecCard : Claim7 := { stood := { row := frameSwapMatchesSpecRow, standIns := [], harness := (true, "e379a32236622c4de899be3acdea188a1e7507a2912f9d6419c3b397db05b2b7"), looks := false }, kinds := [], alts := [], laidByText := true, laidKinds := [.data], laidTests := true, laidLooks := .later }
def FrameSwapMatchesSpecCardSaid : Prop := Claim7.holds Tryd.pinned (.plain (OpenSpec.ofChange frameSwapMatchesSpecSpec)) frameSwapMatchesSpecCard

/-- THE TIED CARD OF 'orangeboxlaw1.FrameSpoiltWordIsMended'. -/
def frameSpoiltWordIsMendedCard : Claim7 := { stood := { row := frameSpoiltWordIsMendedRow, standIns := [], harness := (true, "e379a32236622c4de899be3acdea188a1e7507a2912f9d6419c3b397db05b2b7"), looks := false }, kinds := [], alts := [], laidByText := true, laidKinds := [.data], laidTests := true, laidLooks := .later }
def FrameSpoiltWordIsMendedCardSaid : Prop := Claim7.holds Tryd.pinned (.plain (OpenSpec.ofChange frameSpoiltWordIsMendedSpec)) frameSpoiltWordIsMendedCard

/-- THE TIED CARD OF 'orangeboxlaw1.FrameNewMatchesSpec'. -/
def frameNewMatchesSpecCard : Claim7 := { stood := { row := frameNewMatchesSpecRow, standIns := [], harness := (true, "e379a32236622c4de899be3acdea188a1e7507a2912f9d6419c3b397db05b2b7"), looks := false }, kinds := [], alts := [], laidByText := true, laidKinds := [.data], laidTests := true, laidLooks := .later }
def FrameNewMatchesSpecCardSaid : Prop := Claim7.holds Tryd.pinned (.plain (OpenSpec.ofChange frameNewMatchesSpecSpec)) frameNewMatchesSpecCard

/-- THE TIED CARD OF 'orangeboxlaw1.FrameReadMatchesSpec'. -/
def frameReadMatchesSpecCard : Claim7 := { stood := { row := frameReadMatchesSpecRow, standIns := [], harness := (true, "e379a32236622c4de899be3acdea188a1e7507a2912f9d6419c3b397db05b2b7"), looks := false }, kinds := [], alts := [], laidByText := true, laidKinds := [.data], laidTests := true, laidLooks := .later }
def FrameReadMatchesSpecCardSaid : Prop := Claim7.holds Tryd.pinned (.plain (OpenSpec.ofChange frameReadMatchesSpecSpec)) frameReadMatchesSpecCard

/-- THE TIED CARD OF 'orangeboxlaw1.FrameMendMatchesSpec'. -/
def frameMendMatchesSpecCard : Claim7 := { stood := { row := frameMendMatchesSpecRow, standIns := [], harness := (true, "e379a32236622c4de899be3acdea188a1e7507a2912f9d6419c3b397db05b2b7"), looks := false }, kinds := [], alts := [], laidByText := true, laidKinds := [.data], laidTests := true, laidLooks := .later }
def FrameMendMatchesSpecCardSaid : Prop := Claim7.holds Tryd.pinned (.plain (OpenSpec.ofChange frameMendMatchesSpecSpec)) frameMendMatchesSpecCard

/-- THE TIED CARD OF 'orangeboxlaw1.FrameFromBytesMatchesSpec'. -/
def frameFromBytesMatchesSpecCard : Claim7 := { stood := { row := frameFromBytesMatchesSpecRow, standIns := [], harness := (true, "e379a32236622c4de899be3acdea188a1e7507a2912f9d6419c3b397db05b2b7"), looks := false }, kinds := [], alts := [], laidByText := true, laidKinds := [.data], laidTests := true, laidLooks := .later }
def FrameFromBytesMatchesSpecCardSaid : Prop := Claim7.holds Tryd.pinned (.plain (OpenSpec.ofChange frameFromBytesMatchesSpecSpec)) frameFromBytesMatchesSpecCard

/-- THE SECOND FORM's CARD OF 'orangeboxlaw1.FramePutMatchesSpec'. -/
def framePutMatchesSpecUptoCard : Claim7 := { stood := { row := framePutMatchesSpecUptoRow, standIns := [], harness := (true, "e379a32236622c4de899be3acdea188a1e7507a2912f9d6419c3b397db05b2b7"), looks := false }, kinds := [], alts := [], laidByText := true, laidKinds := [.data], laidTests := true, laidLooks := .later }
def FramePutMatchesSpecUptoCardSaid : Prop := Claim7.holds Tryd.pinned (.plain (OpenSpec.upto framePutMatchesSpecSpec)) framePutMatchesSpecUptoCard

/-- THE SECOND FORM's CARD OF 'orangeboxlaw1.FrameDistanceIsAMetric'. -/
def frameDistanceIsAMetricUptoCard : Claim7 := { stood := { row := frameDistanceIsAMetricUptoRow, standIns := [], harness := (true, "e379a32236622c4de899be3acdea188a1e7507a2912f9d6419c3b397db05b2b7"), looks := false }, kinds := [], alts := [], laidByText := true, laidKinds := [.data], laidTests := true, laidLooks := .later }
def FrameDistanceIsAMetricUptoCardSaid : Prop := Claim7.holds Tryd.pinned (.plain (OpenSpec.upto frameDistanceIsAMetricSpec)) frameDistanceIsAMetricUptoCard

/-- THE SECOND FORM's CARD OF 'orangeboxlaw1.FrameSetWordMatchesSpec'. -/
def frameSetWordMatchesSpecUptoCard : Claim7 := { stood := { row := frameSetWordMatchesSpecUptoRow, standIns := [], harness := (true, "e379a32236622c4de899be3acdea188a1e7507a2912f9d6419c3b397db05b2b7"), looks := false }, kinds := [], alts := [], laidByText := true, laidKinds := [.data], laidTests := true, laidLooks := .later }
def FrameSetWordMatchesSpecUptoCardSaid : Prop := Claim7.holds Tryd.pinned (.plain (OpenSpec.upto frameSetWordMatchesSpecSpec)) frameSetWordMatchesSpecUptoCard

/-- THE SECOND FORM's CARD OF 'orangeboxlaw1.FrameWordMatchesSpec'. -/
def frameWordMatchesSpecUptoCard : Claim7 := { stood := { row := frameWordMatchesSpecUptoRow, standIns := [], harness := (true, "e379a32236622c4de899be3acdea188a1e7507a2912f9d6419c3b397db05b2b7"), looks := false }, kinds := [], alts := [], laidByText := true, laidKinds := [.data], laidTests := true, laidLooks := .later }
def FrameWordMatchesSpecUptoCardSaid : Prop := Claim7.holds Tryd.pinned (.plain (OpenSpec.upto frameWordMatchesSpecSpec)) frameWordMatchesSpecUptoCard

/-- THE SECOND FORM's CARD OF 'orangeboxlaw1.FrameFlipsAreNoticed'. -/
def frameFlipsAreNoticedUptoCard : Claim7 := { stood := { row := frameFlipsAreNoticedUptoRow, standIns := [], harness := (true, "e379a32236622c4de899be3acdea188a1e7507a2912f9d6419c3b397db05b2b7"), looks := false }, kinds := [], alts := [], laidByText := true, laidKinds := [.data], laidTests := true, laidLooks := .later }
def FrameFlipsAreNoticedUptoCardSaid : Prop := Claim7.holds Tryd.pinned (.plain (OpenSpec.upto frameFlipsAreNoticedSpec)) frameFlipsAreNoticedUptoCard

/-- THE SECOND FORM's CARD OF 'orangeboxlaw1.FrameBytesRoundTrip'. -/
def frameBytesRoundTripUptoCard : Claim7 := { stood := { row := frameBytesRoundTripUptoRow, standIns := [], harness := (true, "e379a32236622c4de899be3acdea188a1e7507a2912f9d6419c3b397db05b2b7"), looks := false }, kinds := [], alts := [], laidByText := true, laidKinds := [.data], laidTests := true, laidLooks := .later }
def FrameBytesRoundTripUptoCardSaid : Prop := Claim7.holds Tryd.pinned (.plain (OpenSpec.upto frameBytesRoundTripSpec)) frameBytesRoundTripUptoCard

/-- THE SECOND FORM's CARD OF 'orangeboxlaw1.FramePutSecondMatchesSpec'. -/
def framePutSecondMatchesSpecUptoCard : Claim7 := { stood := { row := framePutSecondMatchesSpecUptoRow, standIns := [], harness := (true, "e379a32236622c4de899be3acdea188a1e7507a2912f9d6419c3b397db05b2b7"), looks := false }, kinds := [], alts := [], laidByText := true, laidKinds := [.data], laidTests := true, laidLooks := .later }
def FramePutSecondMatchesSpecUptoCardSaid : Prop := Claim7.holds Tryd.pinned (.plain (OpenSpec.upto framePutSecondMatchesSpecSpec)) framePutSecondMatchesSpecUptoCard

/-- THE SECOND FORM's CARD OF 'orangeboxlaw1.FrameSwapMatchesSpec'. -/
def frameSwapMatchesSpecUptoCard : Claim7 := { stood := { row := frameSwapMatchesSpecUptoRow, standIns := [], harness := (true, "e379a32236622c4de899be3acdea188a1e7507a2912f9d6419c3b397db05b2b7"), looks := false }, kinds := [], alts := [], laidByText := true, laidKinds := [.data], laidTests := true, laidLooks := .later }
def FrameSwapMatchesSpecUptoCardSaid : Prop := Claim7.holds Tryd.pinned (.plain (OpenSpec.upto frameSwapMatchesSpecSpec)) frameSwapMatchesSpecUptoCard

/-- THE SECOND FORM's CARD OF 'orangeboxlaw1.FrameSpoiltWordIsMended'. -/
def frameSpoiltWordIsMendedUptoCard : Claim7 := { stood := { row := frameSpoiltWordIsMendedUptoRow, standIns := [], harness := (true, "e379a32236622c4de899be3acdea188a1e7507a2912f9d6419c3b397db05b2b7"), looks := false }, kinds := [], alts := [], laidByText := true, laidKinds := [.data], laidTests := true, laidLooks := .later }
def FrameSpoiltWordIsMendedUptoCardSaid : Prop := Claim7.holds Tryd.pinned (.plain (OpenSpec.upto frameSpoiltWordIsMendedSpec)) frameSpoiltWordIsMendedUptoCard

/-- THE SECOND FORM's CARD OF 'orangeboxlaw1.FrameNewMatchesSpec'. -/
def frameNewMatchesSpecUptoCard : Claim7 := { stood := { row := frameNewMatchesSpecUptoRow, standIns := [], harness := (true, "e379a32236622c4de899be3acdea188a1e7507a2912f9d6419c3b397db05b2b7"), looks := false }, kinds := [], alts := [], laidByText := true, laidKinds := [.data], laidTests := true, laidLooks := .later }
def FrameNewMatchesSpecUptoCardSaid : Prop := Claim7.holds Tryd.pinned (.plain (OpenSpec.upto frameNewMatchesSpecSpec)) frameNewMatchesSpecUptoCard

/-- THE SECOND FORM's CARD OF 'orangeboxlaw1.FrameReadMatchesSpec'. -/
def frameReadMatchesSpecUptoCard : Claim7 := { stood := { row := frameReadMatchesSpecUptoRow, standIns := [], harness := (true, "e379a32236622c4de899be3acdea188a1e7507a2912f9d6419c3b397db05b2b7"), looks := false }, kinds := [], alts := [], laidByText := true, laidKinds := [.data], laidTests := true, laidLooks := .later }
def FrameReadMatchesSpecUptoCardSaid : Prop := Claim7.holds Tryd.pinned (.plain (OpenSpec.upto frameReadMatchesSpecSpec)) frameReadMatchesSpecUptoCard

/-- THE SECOND FORM's CARD OF 'orangeboxlaw1.FrameMendMatchesSpec'. -/
def frameMendMatchesSpecUptoCard : Claim7 := { stood := { row := frameMendMatchesSpecUptoRow, standIns := [], harness := (true, "e379a32236622c4de899be3acdea188a1e7507a2912f9d6419c3b397db05b2b7"), looks := false }, kinds := [], alts := [], laidByText := true, laidKinds := [.data], laidTests := true, laidLooks := .later }
def FrameMendMatchesSpecUptoCardSaid : Prop := Claim7.holds Tryd.pinned (.plain (OpenSpec.upto frameMendMatchesSpecSpec)) frameMendMatchesSpecUptoCard

/-- THE SECOND FORM's CARD OF 'orangeboxlaw1.FrameFromBytesMatchesSpec'. -/
def frameFromBytesMatchesSpecUptoCard : Claim7 := { stood := { row := frameFromBytesMatchesSpecUptoRow, standIns := [], harness := (true, "e379a32236622c4de899be3acdea188a1e7507a2912f9d6419c3b397db05b2b7"), looks := false }, kinds := [], alts := [], laidByText := true, laidKinds := [.data], laidTests := true, laidLooks := .later }
def FrameFromBytesMatchesSpecUptoCardSaid : Prop := Claim7.holds Tryd.pinned (.plain (OpenSpec.upto frameFromBytesMatchesSpecSpec)) frameFromBytesMatchesSpecUptoCard
end Rows
end Go.Proofs.YtafgmocdnjdmoaaDoor
