/-
  NARROWER THAN 'FOR EVERY INPUT', by the rows' own cells (each row's printed sentence says how): FramePutMatchesSpec: laid · FrameDistanceIsAMetric: laid · FrameSetWordMatchesSpec: laid · FrameWordMatchesSpec: laid · FrameFlipsAreNoticed: laid · FrameBytesRoundTrip: laid · FramePutSecondMatchesSpec: laid · FrameSwapMatchesSpec: laid · FrameSpoiltWordIsMended: laid · FrameNewMatchesSpec: laid · FrameReadMatchesSpec: laid · FrameMendMatchesSpec: laid · FrameFromBytesMatchesSpec: laid.
  DERIVED. THE GIVEN ROWS OF THIS SEAT. 13 by the template 'for every input the law returns true; each argument reads behind the call as it read before'; 0 by the template 'total and deterministic' (their statements: YtafgmocdnjdmoaaDoorTotals.lean).
  GIVEN WITH THE SEED: the statements are not yours to turn. If you find one false, say at which input.
  Laid BY PROGRAM, IN A SANDBOX (cutbox-rows.mjs): the forced cells as the released guide's own fill.sh prints them over the translation e7cd21f834eb5767… (all of the seat's roots in one cut). By AI agents, Wed Nov 11 2026. No macro, syntax, notation, axiom, sorry.
-/
import Derived.Test.YtafgmocdnjdmoaaDoorChecked
import GoSem.Claim
import GoSem.ClaimJoined
import GoSem.ClaimMapViews
import Derived.JoinedTies
import Derived.KernelRfl
namespace Go.Proofs.YtafgmocdnjdmoaaDoor
/- THE CELL 'sum', in the pinned program and in every row, IS THE sha256 OF THE DUMP (.gsa) THAT YtafgmocdnjdmoaaDoorProg.lean LOADS. Nothing in Lean hashes anything: it is a label: what it is worth is what the hold of that sum in a sandbox is worth. -/
noncomputable def Tryd.pinned : Pinned := { name := "ytafgmocdnjdmoaadoor", sum := "e7cd21f834eb5767bbf8a94b7bcd1223762f0539d0aca38d963bd5ada8789b62", checked := Tryd.checked }
namespace Rows
def none {H : Type} : Left H := { results := [], args := [] }

/- WHAT THE LISTED PACKAGE-LEVEL VARIABLES READ AS WHEN THE CALL BEGINS. Each datum BY PROGRAM (the guide's laid-datum.mjs) off the statement by which the dump's own 'gosem.cut.vars' lays the variable. In a bare row this is a premise. The card (YtafgmocdnjdmoaaDoorCards.lean) ties it to the program's text. -/
def laid_orangebox_frame_syncs {H : Type} : DataW H := .agg [.lit (.int .u16 583), .lit (.int .u16 1464), .lit (.int .u16 2631), .lit (.int .u16 3512)]

/-- 'orangeboxlaw1.FramePutMatchesSpec': WHATEVER THE INPUT: true; the input reads as it did. -/
def framePutMatchesSpecSpec : ChangeSpec := { name := "framePutMatchesSpec", fn := fun _ => fun
  | [d1, d2, d3] => { results := [.lit (.bool true)], args := [d1, d2, d3] }
  | _ => none }
def framePutMatchesSpecRow : OpenClaim := { program := "ytafgmocdnjdmoaadoor", sum := "e7cd21f834eb5767bbf8a94b7bcd1223762f0539d0aca38d963bd5ada8789b62", func := "orangebox/orangeboxlaw1.FramePutMatchesSpec", spec := "framePutMatchesSpec", named := ["orangebox/frame.syncs"], apart := false, laid := [("orangebox/frame.syncs", laid_orangebox_frame_syncs)] }
def FramePutMatchesSpecSaid : Prop := framePutMatchesSpecRow.holds Tryd.pinned (OpenSpec.ofChange framePutMatchesSpecSpec)

/-- ITS FALSE NEIGHBOUR: 'it returns false'. Refute it at one input. -/
def framePutMatchesSpecWrong : ChangeSpec := { name := "framePutMatchesSpec", fn := fun _ => fun
  | [d1, d2, d3] => { results := [.lit (.bool false)], args := [d1, d2, d3] }
  | _ => none }
def FramePutMatchesSpecWrongFalsely : Prop := framePutMatchesSpecRow.holds Tryd.pinned (OpenSpec.ofChange framePutMatchesSpecWrong)

/-- 'orangeboxlaw1.FrameDistanceIsAMetric': WHATEVER THE INPUT: true; the input reads as it did. -/
def frameDistanceIsAMetricSpec : ChangeSpec := { name := "frameDistanceIsAMetric", fn := fun _ => fun
  | [d1, d2, d3] => { results := [.lit (.bool true)], args := [d1, d2, d3] }
  | _ => none }
def frameDistanceIsAMetricRow : OpenClaim := { program := "ytafgmocdnjdmoaadoor", sum := "e7cd21f834eb5767bbf8a94b7bcd1223762f0539d0aca38d963bd5ada8789b62", func := "orangebox/orangeboxlaw1.FrameDistanceIsAMetric", spec := "frameDistanceIsAMetric", named := ["orangebox/frame.syncs"], apart := false, laid := [("orangebox/frame.syncs", laid_orangebox_frame_syncs)] }
def FrameDistanceIsAMetricSaid : Prop := frameDistanceIsAMetricRow.holds Tryd.pinned (OpenSpec.ofChange frameDistanceIsAMetricSpec)

/-- ITS FALSE NEIGHBOUR: 'it returns false'. Refute it at one input. -/
def frameDistanceIsAMetricWrong : ChangeSpec := { name := "frameDistanceIsAMetric", fn := fun _ => fun
  | [d1, d2, d3] => { results := [.lit (.bool false)], args := [d1, d2, d3] }
  | _ => none }
def FrameDistanceIsAMetricWrongFalsely : Prop := frameDistanceIsAMetricRow.holds Tryd.pinned (OpenSpec.ofChange frameDistanceIsAMetricWrong)

/-- 'orangeboxlaw1.FrameSetWordMatchesSpec': WHATEVER THE INPUT: true; the input reads as it did. -/
def frameSetWordMatchesSpecSpec : ChangeSpec := { name := "frameSetWordMatchesSpec", fn := fun _ => fun
  | [d1, d2, d3, d4] => { results := [.lit (.bool true)], args := [d1, d2, d3, d4] }
  | _ => none }
def frameSetWordMatchesSpecRow : OpenClaim := { program := "ytafgmocdnjdmoaadoor", sum := "e7cd21f834eb5767bbf8a94b7bcd1223762f0539d0aca38d963bd5ada8789b62", func := "orangebox/orangeboxlaw1.FrameSetWordMatchesSpec", spec := "frameSetWordMatchesSpec", named := ["orangebox/frame.syncs"], apart := false, laid := [("orangebox/frame.syncs", laid_orangebox_frame_syncs)] }
def FrameSetWordMatchesSpecSaid : Prop := frameSetWordMatchesSpecRow.holds Tryd.pinned (OpenSpec.ofChange frameSetWordMatchesSpecSpec)

/-- ITS FALSE NEIGHBOUR: 'it returns false'. Refute it at one input. -/
def frameSetWordMatchesSpecWrong : ChangeSpec := { name := "frameSetWordMatchesSpec", fn := fun _ => fun
  | [d1, d2, d3, d4] => { results := [.lit (.bool false)], args := [d1, d2, d3, d4] }
  | _ => none }
def FrameSetWordMatchesSpecWrongFalsely : Prop := frameSetWordMatchesSpecRow.holds Tryd.pinned (OpenSpec.ofChange frameSetWordMatchesSpecWrong)

/-- 'orangeboxlaw1.FrameWordMatchesSpec': WHATEVER THE INPUT: true; the input reads as it did. -/
def frameWordMatchesSpecSpec : ChangeSpec := { name := "frameWordMatchesSpec", fn := fun _ => fun
  | [d] => { results := [.lit (.bool true)], args := [d] }
  | _ => none }
def frameWordMatchesSpecRow : OpenClaim := { program := "ytafgmocdnjdmoaadoor", sum := "e7cd21f834eb5767bbf8a94b7bcd1223762f0539d0aca38d963bd5ada8789b62", func := "orangebox/orangeboxlaw1.FrameWordMatchesSpec", spec := "frameWordMatchesSpec", named := ["orangebox/frame.syncs"], apart := false, laid := [("orangebox/frame.syncs", laid_orangebox_frame_syncs)] }
def FrameWordMatchesSpecSaid : Prop := frameWordMatchesSpecRow.holds Tryd.pinned (OpenSpec.ofChange frameWordMatchesSpecSpec)

/-- ITS FALSE NEIGHBOUR: 'it returns false'. Refute it at one input. -/
def frameWordMatchesSpecWrong : ChangeSpec := { name := "frameWordMatchesSpec", fn := fun _ => fun
  | [d] => { results := [.lit (.bool false)], args := [d] }
  | _ => none }
def FrameWordMatchesSpecWrongFalsely : Prop := frameWordMatchesSpecRow.holds Tryd.pinned (OpenSpec.ofChange frameWordMatchesSpecWrong)

/-- 'orangeboxlaw1.FrameFlipsAreNoticed': WHATEVER THE INPUT: true; the input reads as it did. -/
def frameFlipsAreNoticedSpec : ChangeSpec := { name := "frameFlipsAreNoticed", fn := fun _ => fun
  | [d1, d2, d3] => { results := [.lit (.bool true)], args := [d1, d2, d3] }
  | _ => none }
def frameFlipsAreNoticedRow : OpenClaim := { program := "ytafgmocdnjdmoaadoor", sum := "e7cd21f834eb5767bbf8a94b7bcd1223762f0539d0aca38d963bd5ada8789b62", func := "orangebox/orangeboxlaw1.FrameFlipsAreNoticed", spec := "frameFlipsAreNoticed", named := ["orangebox/frame.syncs"], apart := false, laid := [("orangebox/frame.syncs", laid_orangebox_frame_syncs)] }
def FrameFlipsAreNoticedSaid : Prop := frameFlipsAreNoticedRow.holds Tryd.pinned (OpenSpec.ofChange frameFlipsAreNoticedSpec)

/-- ITS FALSE NEIGHBOUR: 'it returns false'. Refute it at one input. -/
def frameFlipsAreNoticedWrong : ChangeSpec := { name := "frameFlipsAreNoticed", fn := fun _ => fun
  | [d1, d2, d3] => { results := [.lit (.bool false)], args := [d1, d2, d3] }
  | _ => none }
def FrameFlipsAreNoticedWrongFalsely : Prop := frameFlipsAreNoticedRow.holds Tryd.pinned (OpenSpec.ofChange frameFlipsAreNoticedWrong)

/-- 'orangeboxlaw1.FrameBytesRoundTrip': WHATEVER THE INPUT: true; the input reads as it did. -/
def frameBytesRoundTripSpec : ChangeSpec := { name := "frameBytesRoundTrip", fn := fun _ => fun
  | [d1, d2] => { results := [.lit (.bool true)], args := [d1, d2] }
  | _ => none }
def frameBytesRoundTripRow : OpenClaim := { program := "ytafgmocdnjdmoaadoor", sum := "e7cd21f834eb5767bbf8a94b7bcd1223762f0539d0aca38d963bd5ada8789b62", func := "orangebox/orangeboxlaw1.FrameBytesRoundTrip", spec := "frameBytesRoundTrip", named := ["orangebox/frame.syncs"], apart := false, laid := [("orangebox/frame.syncs", laid_orangebox_frame_syncs)] }
def FrameBytesRoundTripSaid : Prop := frameBytesRoundTripRow.holds Tryd.pinned (OpenSpec.ofChange frameBytesRoundTripSpec)

/-- ITS FALSE NEIGHBOUR: 'it returns false'. Refute it at one input. -/
def frameBytesRoundTripWrong : ChangeSpec := { name := "frameBytesRoundTrip", fn := fun _ => fun
  | [d1, d2] => { results := [.lit (.bool false)], args := [d1, d2] }
  | _ => none }
def FrameBytesRoundTripWrongFalsely : Prop := frameBytesRoundTripRow.holds Tryd.pinned (OpenSpec.ofChange frameBytesRoundTripWrong)

/-- 'orangeboxlaw1.FramePutSecondMatchesSpec': WHATEVER THE INPUT: true; the input reads as it did. -/
def framePutSecondMatchesSpecSpec : ChangeSpec := { name := "framePutSecondMatchesSpec", fn := fun _ => fun
  | [d1, d2, d3] => { results := [.lit (.bool true)], args := [d1, d2, d3] }
  | _ => none }
def framePutSecondMatchesSpecRow : OpenClaim := { program := "ytafgmocdnjdmoaadoor", sum := "e7cd21f834eb5767bbf8a94b7bcd1223762f0539d0aca38d963bd5ada8789b62", func := "orangebox/orangeboxlaw1.FramePutSecondMatchesSpec", spec := "framePutSecondMatchesSpec", named := ["orangebox/frame.syncs"], apart := false, laid := [("orangebox/frame.syncs", laid_orangebox_frame_syncs)] }
def FramePutSecondMatchesSpecSaid : Prop := framePutSecondMatchesSpecRow.holds Tryd.pinned (OpenSpec.ofChange framePutSecondMatchesSpecSpec)

/-- ITS FALSE NEIGHBOUR: 'it returns false'. Refute it at one input. -/
def framePutSecondMatchesSpecWrong : ChangeSpec := { name := "framePutSecondMatchesSpec", fn := fun _ => fun
  | [d1, d2, d3] => { results := [.lit (.bool false)], args := [d1, d2, d3] }
  | _ => none }
def FramePutSecondMatchesSpecWrongFalsely : Prop := framePutSecondMatchesSpecRow.holds Tryd.pinned (OpenSpec.ofChange framePutSecondMatchesSpecWrong)

/-- 'orangeboxlaw1.FrameSwapMatchesSpec': WHATEVER THE INPUT: true; the input reads as it did. -/
def frameSwapMatchesSpecSpec : ChangeSpec := { name := "frameSwapMatchesSpec", fn := fun _ => fun
  | [d1, d2, d3] => { results := [.lit (.bool true)], args := [d1, d2, d3] }
  | _ => none }
def frameSwapMatchesSpecRow : OpenClaim := { program := "ytafgmocdnjdmoaadoor", sum := "e7cd21f834eb5767bbf8a94b7bcd1223762f0539d0aca38d963bd5ada8789b62", func := "orangebox/orangeboxlaw1.FrameSwapMatchesSpec", spec := "frameSwapMatchesSpec", named := ["orangebox/frame.syncs"], apart := false, laid := [("orangebox/frame.syncs", laid_orangebox_frame_syncs)] }
def FrameSwapMatchesSpecSaid : Prop := frameSwapMatchesSpecRow.holds Tryd.pinned (OpenSpec.ofChange frameSwapMatchesSpecSpec)

/-- ITS FALSE NEIGHBOUR: 'it returns false'. Refute it at one input. -/
def frameSwapMatchesSpecWrong : ChangeSpec := { name := "frameSwapMatchesSpec", fn := fun _ => fun
  | [d1, d2, d3] => { results := [.lit (.bool false)], args := [d1, d2, d3] }
  | _ => none }
def FrameSwapMatchesSpecWrongFalsely : Prop := frameSwapMatchesSpecRow.holds Tryd.pinned (OpenSpec.ofChange frameSwapMatchesSpecWrong)

/-- 'orangeboxlaw1.FrameSpoiltWordIsMended': WHATEVER THE INPUT: true; the input reads as it did. -/
def frameSpoiltWordIsMendedSpec : ChangeSpec := { name := "frameSpoiltWordIsMended", fn := fun _ => fun
  | [d1, d2, d3, d4] => { results := [.lit (.bool true)], args := [d1, d2, d3, d4] }
  | _ => none }
def frameSpoiltWordIsMendedRow : OpenClaim := { program := "ytafgmocdnjdmoaadoor", sum := "e7cd21f834eb5767bbf8a94b7bcd1223762f0539d0aca38d963bd5ada8789b62", func := "orangebox/orangeboxlaw1.FrameSpoiltWordIsMended", spec := "frameSpoiltWordIsMended", named := ["orangebox/frame.syncs"], apart := false, laid := [("orangebox/frame.syncs", laid_orangebox_frame_syncs)] }
def FrameSpoiltWordIsMendedSaid : Prop := frameSpoiltWordIsMendedRow.holds Tryd.pinned (OpenSpec.ofChange frameSpoiltWordIsMendedSpec)

/-- ITS FALSE NEIGHBOUR: 'it returns false'. Refute it at one input. -/
def frameSpoiltWordIsMendedWrong : ChangeSpec := { name := "frameSpoiltWordIsMended", fn := fun _ => fun
  | [d1, d2, d3, d4] => { results := [.lit (.bool false)], args := [d1, d2, d3, d4] }
  | _ => none }
def FrameSpoiltWordIsMendedWrongFalsely : Prop := frameSpoiltWordIsMendedRow.holds Tryd.pinned (OpenSpec.ofChange frameSpoiltWordIsMendedWrong)

/-- 'orangeboxlaw1.FrameNewMatchesSpec': WHATEVER THE INPUT: true; the input reads as it did. -/
def frameNewMatchesSpecSpec : ChangeSpec := { name := "frameNewMatchesSpec", fn := fun _ => fun
  | [d1, d2] => { results := [.lit (.bool true)], args := [d1, d2] }
  | _ => none }
def frameNewMatchesSpecRow : OpenClaim := { program := "ytafgmocdnjdmoaadoor", sum := "e7cd21f834eb5767bbf8a94b7bcd1223762f0539d0aca38d963bd5ada8789b62", func := "orangebox/orangeboxlaw1.FrameNewMatchesSpec", spec := "frameNewMatchesSpec", named := ["orangebox/frame.syncs"], apart := false, laid := [("orangebox/frame.syncs", laid_orangebox_frame_syncs)] }
def FrameNewMatchesSpecSaid : Prop := frameNewMatchesSpecRow.holds Tryd.pinned (OpenSpec.ofChange frameNewMatchesSpecSpec)

/-- ITS FALSE NEIGHBOUR: 'it returns false'. Refute it at one input. -/
def frameNewMatchesSpecWrong : ChangeSpec := { name := "frameNewMatchesSpec", fn := fun _ => fun
  | [d1, d2] => { results := [.lit (.bool false)], args := [d1, d2] }
  | _ => none }
def FrameNewMatchesSpecWrongFalsely : Prop := frameNewMatchesSpecRow.holds Tryd.pinned (OpenSpec.ofChange frameNewMatchesSpecWrong)

/-- 'orangeboxlaw1.FrameReadMatchesSpec': WHATEVER THE INPUT: true; the input reads as it did. -/
def frameReadMatchesSpecSpec : ChangeSpec := { name := "frameReadMatchesSpec", fn := fun _ => fun
  | [d] => { results := [.lit (.bool true)], args := [d] }
  | _ => none }
def frameReadMatchesSpecRow : OpenClaim := { program := "ytafgmocdnjdmoaadoor", sum := "e7cd21f834eb5767bbf8a94b7bcd1223762f0539d0aca38d963bd5ada8789b62", func := "orangebox/orangeboxlaw1.FrameReadMatchesSpec", spec := "frameReadMatchesSpec", named := ["orangebox/frame.syncs"], apart := false, laid := [("orangebox/frame.syncs", laid_orangebox_frame_syncs)] }
def FrameReadMatchesSpecSaid : Prop := frameReadMatchesSpecRow.holds Tryd.pinned (OpenSpec.ofChange frameReadMatchesSpecSpec)

/-- ITS FALSE NEIGHBOUR: 'it returns false'. Refute it at one input. -/
def frameReadMatchesSpecWrong : ChangeSpec := { name := "frameReadMatchesSpec", fn := fun _ => fun
  | [d] => { results := [.lit (.bool false)], args := [d] }
  | _ => none }
def FrameReadMatchesSpecWrongFalsely : Prop := frameReadMatchesSpecRow.holds Tryd.pinned (OpenSpec.ofChange frameReadMatchesSpecWrong)

/-- 'orangeboxlaw1.FrameMendMatchesSpec': WHATEVER THE INPUT: true; the input reads as it did. -/
def frameMendMatchesSpecSpec : ChangeSpec := { name := "frameMendMatchesSpec", fn := fun _ => fun
  | [d] => { results := [.lit (.bool true)], args := [d] }
  | _ => none }
def frameMendMatchesSpecRow : OpenClaim := { program := "ytafgmocdnjdmoaadoor", sum := "e7cd21f834eb5767bbf8a94b7bcd1223762f0539d0aca38d963bd5ada8789b62", func := "orangebox/orangeboxlaw1.FrameMendMatchesSpec", spec := "frameMendMatchesSpec", named := ["orangebox/frame.syncs"], apart := false, laid := [("orangebox/frame.syncs", laid_orangebox_frame_syncs)] }
def FrameMendMatchesSpecSaid : Prop := frameMendMatchesSpecRow.holds Tryd.pinned (OpenSpec.ofChange frameMendMatchesSpecSpec)

/-- ITS FALSE NEIGHBOUR: 'it returns false'. Refute it at one input. -/
def frameMendMatchesSpecWrong : ChangeSpec := { name := "frameMendMatchesSpec", fn := fun _ => fun
  | [d] => { results := [.lit (.bool false)], args := [d] }
  | _ => none }
def FrameMendMatchesSpecWrongFalsely : Prop := frameMendMatchesSpecRow.holds Tryd.pinned (OpenSpec.ofChange frameMendMatchesSpecWrong)

/-- 'orangeboxlaw1.FrameFromBytesMatchesSpec': WHATEVER THE INPUT: true; the input reads as it did. -/
def frameFromBytesMatchesSpecSpec : ChangeSpec := { name := "frameFromBytesMatchesSpec", fn := fun _ => fun
  | [d1, d2, d3, d4] => { results := [.lit (.bool true)], args := [d1, d2, d3, d4] }
  | _ => none }
def frameFromBytesMatchesSpecRow : OpenClaim := { program := "ytafgmocdnjdmoaadoor", sum := "e7cd21f834eb5767bbf8a94b7bcd1223762f0539d0aca38d963bd5ada8789b62", func := "orangebox/orangeboxlaw1.FrameFromBytesMatchesSpec", spec := "frameFromBytesMatchesSpec", named := ["orangebox/frame.syncs"], apart := false, laid := [("orangebox/frame.syncs", laid_orangebox_frame_syncs)] }
def FrameFromBytesMatchesSpecSaid : Prop := frameFromBytesMatchesSpecRow.holds Tryd.pinned (OpenSpec.ofChange frameFromBytesMatchesSpecSpec)

/-- ITS FALSE NEIGHBOUR: 'it returns false'. Refute it at one input. -/
def frameFromBytesMatchesSpecWrong : ChangeSpec := { name := "frameFromBytesMatchesSpec", fn := fun _ => fun
  | [d1, d2, d3, d4] => { results := [.lit (.bool false)], args := [d1, d2, d3, d4] }
  | _ => none }
def FrameFromBytesMatchesSpecWrongFalsely : Prop := frameFromBytesMatchesSpecRow.holds Tryd.pinned (OpenSpec.ofChange frameFromBytesMatchesSpecWrong)

/- THE SECOND FORM. 'bulk': how many values and letters a reading holds, each counted each time it is reached (what is shared counts as often as it is met; a slice's spare places count too). A statement '..UptoSaid' is the law's where the arguments, and the package variables that the reading takes, are together of bulk at most 1048576: NARROWER than '..Said'. Prove '..Said' where nothing that the law and all that it calls make is longer than what came in: it says more and counts as full. Else prove '..UptoSaid'. A law counts once. -/
mutual
def uptoBulk {H : Type} : DataW H → Nat
  | .lit (.string bytes) => bytes.length + 1
  | .lit _ => 1
  | .nil => 1
  | .ptr d => uptoBulk d + 1
  | .slice elems spare => uptoBulkAll elems + uptoBulkAll spare + 1
  | .agg parts => uptoBulkAll parts + 1
  | .iface _ d => uptoBulk d + 1
  | .map entries => uptoBulkEntries entries + 1
  | .held _ => 1
def uptoBulkAll {H : Type} : List (DataW H) → Nat
  | [] => 0
  | d :: r => uptoBulk d + uptoBulkAll r
def uptoBulkEntries {H : Type} : List (Lit × DataW H) → Nat
  | [] => 0
  | x :: r => uptoBulkEntry x + uptoBulkEntries r
def uptoBulkEntry {H : Type} : Lit × DataW H → Nat
  | (.string bytes, d) => bytes.length + uptoBulk d + 1
  | (_, d) => uptoBulk d + 1
 end
def uptoSmall : (H : Type) → List (DataW H) → Bool := fun _ ds => decide (uptoBulkAll ds ≤ 1048576)
def OpenSpec.upto (s : _root_.Go.ChangeSpec) : _root_.Go.OpenSpec := { _root_.Go.OpenSpec.ofChange s with cond := some uptoSmall }

/-- 'orangeboxlaw1.FramePutMatchesSpec', WHERE WHAT IT READS IS OF BULK AT MOST 1048576: true; the input reads as it did. -/
def framePutMatchesSpecUptoRow : OpenClaim := { program := "ytafgmocdnjdmoaadoor", sum := "e7cd21f834eb5767bbf8a94b7bcd1223762f0539d0aca38d963bd5ada8789b62", func := "orangebox/orangeboxlaw1.FramePutMatchesSpec", spec := "framePutMatchesSpec", named := ["orangebox/frame.syncs"], apart := false, laid := [("orangebox/frame.syncs", laid_orangebox_frame_syncs)], narrowed := true }
def FramePutMatchesSpecUptoSaid : Prop := framePutMatchesSpecUptoRow.holds Tryd.pinned (OpenSpec.upto framePutMatchesSpecSpec)

/-- 'orangeboxlaw1.FrameDistanceIsAMetric', WHERE WHAT IT READS IS OF BULK AT MOST 1048576: true; the input reads as it did. -/
def frameDistanceIsAMetricUptoRow : OpenClaim := { program := "ytafgmocdnjdmoaadoor", sum := "e7cd21f834eb5767bbf8a94b7bcd1223762f0539d0aca38d963bd5ada8789b62", func := "orangebox/orangeboxlaw1.FrameDistanceIsAMetric", spec := "frameDistanceIsAMetric", named := ["orangebox/frame.syncs"], apart := false, laid := [("orangebox/frame.syncs", laid_orangebox_frame_syncs)], narrowed := true }
def FrameDistanceIsAMetricUptoSaid : Prop := frameDistanceIsAMetricUptoRow.holds Tryd.pinned (OpenSpec.upto frameDistanceIsAMetricSpec)

/-- 'orangeboxlaw1.FrameSetWordMatchesSpec', WHERE WHAT IT READS IS OF BULK AT MOST 1048576: true; the input reads as it did. -/
def frameSetWordMatchesSpecUptoRow : OpenClaim := { program := "ytafgmocdnjdmoaadoor", sum := "e7cd21f834eb5767bbf8a94b7bcd1223762f0539d0aca38d963bd5ada8789b62", func := "orangebox/orangeboxlaw1.FrameSetWordMatchesSpec", spec := "frameSetWordMatchesSpec", named := ["orangebox/frame.syncs"], apart := false, laid := [("orangebox/frame.syncs", laid_orangebox_frame_syncs)], narrowed := true }
def FrameSetWordMatchesSpecUptoSaid : Prop := frameSetWordMatchesSpecUptoRow.holds Tryd.pinned (OpenSpec.upto frameSetWordMatchesSpecSpec)

/-- 'orangeboxlaw1.FrameWordMatchesSpec', WHERE WHAT IT READS IS OF BULK AT MOST 1048576: true; the input reads as it did. -/
def frameWordMatchesSpecUptoRow : OpenClaim := { program := "ytafgmocdnjdmoaadoor", sum := "e7cd21f834eb5767bbf8a94b7bcd1223762f0539d0aca38d963bd5ada8789b62", func := "orangebox/orangeboxlaw1.FrameWordMatchesSpec", spec := "frameWordMatchesSpec", named := ["orangebox/frame.syncs"], apart := false, laid := [("orangebox/frame.syncs", laid_orangebox_frame_syncs)], narrowed := true }
def FrameWordMatchesSpecUptoSaid : Prop := frameWordMatchesSpecUptoRow.holds Tryd.pinned (OpenSpec.upto frameWordMatchesSpecSpec)

/-- 'orangeboxlaw1.FrameFlipsAreNoticed', WHERE WHAT IT READS IS OF BULK AT MOST 1048576: true; the input reads as it did. -/
def frameFlipsAreNoticedUptoRow : OpenClaim := { program := "ytafgmocdnjdmoaadoor", sum := "e7cd21f834eb5767bbf8a94b7bcd1223762f0539d0aca38d963bd5ada8789b62", func := "orangebox/orangeboxlaw1.FrameFlipsAreNoticed", spec := "frameFlipsAreNoticed", named := ["orangebox/frame.syncs"], apart := false, laid := [("orangebox/frame.syncs", laid_orangebox_frame_syncs)], narrowed := true }
def FrameFlipsAreNoticedUptoSaid : Prop := frameFlipsAreNoticedUptoRow.holds Tryd.pinned (OpenSpec.upto frameFlipsAreNoticedSpec)

/-- 'orangeboxlaw1.FrameBytesRoundTrip', WHERE WHAT IT READS IS OF BULK AT MOST 1048576: true; the input reads as it did. -/
def frameBytesRoundTripUptoRow : OpenClaim := { program := "ytafgmocdnjdmoaadoor", sum := "e7cd21f834eb5767bbf8a94b7bcd1223762f0539d0aca38d963bd5ada8789b62", func := "orangebox/orangeboxlaw1.FrameBytesRoundTrip", spec := "frameBytesRoundTrip", named := ["orangebox/frame.syncs"], apart := false, laid := [("orangebox/frame.syncs", laid_orangebox_frame_syncs)], narrowed := true }
def FrameBytesRoundTripUptoSaid : Prop := frameBytesRoundTripUptoRow.holds Tryd.pinned (OpenSpec.upto frameBytesRoundTripSpec)

/-- 'orangeboxlaw1.FramePutSecondMatchesSpec', WHERE WHAT IT READS IS OF BULK AT MOST 1048576: true; the input reads as it did. -/
def framePutSecondMatchesSpecUptoRow : OpenClaim := { program := "ytafgmocdnjdmoaadoor", sum := "e7cd21f834eb5767bbf8a94b7bcd1223762f0539d0aca38d963bd5ada8789b62", func := "orangebox/orangeboxlaw1.FramePutSecondMatchesSpec", spec := "framePutSecondMatchesSpec", named := ["orangebox/frame.syncs"], apart := false, laid := [("orangebox/frame.syncs", laid_orangebox_frame_syncs)], narrowed := true }
def FramePutSecondMatchesSpecUptoSaid : Prop := framePutSecondMatchesSpecUptoRow.holds Tryd.pinned (OpenSpec.upto framePutSecondMatchesSpecSpec)

/-- 'orangeboxlaw1.FrameSwapMatchesSpec', WHERE WHAT IT READS IS OF BULK AT MOST 1048576: true; the input reads as it did. -/
def frameSwapMatchesSpecUptoRow : OpenClaim := { program := "ytafgmocdnjdmoaadoor", sum := "e7cd21f834eb5767bbf8a94b7bcd1223762f0539d0aca38d963bd5ada8789b62", func := "orangebox/orangeboxlaw1.FrameSwapMatchesSpec", spec := "frameSwapMatchesSpec", named := ["orangebox/frame.syncs"], apart := false, laid := [("orangebox/frame.syncs", laid_orangebox_frame_syncs)], narrowed := true }
def FrameSwapMatchesSpecUptoSaid : Prop := frameSwapMatchesSpecUptoRow.holds Tryd.pinned (OpenSpec.upto frameSwapMatchesSpecSpec)

/-- 'orangeboxlaw1.FrameSpoiltWordIsMended', WHERE WHAT IT READS IS OF BULK AT MOST 1048576: true; the input reads as it did. -/
def frameSpoiltWordIsMendedUptoRow : OpenClaim := { program := "ytafgmocdnjdmoaadoor", sum := "e7cd21f834eb5767bbf8a94b7bcd1223762f0539d0aca38d963bd5ada8789b62", func := "orangebox/orangeboxlaw1.FrameSpoiltWordIsMended", spec := "frameSpoiltWordIsMended", named := ["orangebox/frame.syncs"], apart := false, laid := [("orangebox/frame.syncs", laid_orangebox_frame_syncs)], narrowed := true }
def FrameSpoiltWordIsMendedUptoSaid : Prop := frameSpoiltWordIsMendedUptoRow.holds Tryd.pinned (OpenSpec.upto frameSpoiltWordIsMendedSpec)

/-- 'orangeboxlaw1.FrameNewMatchesSpec', WHERE WHAT IT READS IS OF BULK AT MOST 1048576: true; the input reads as it did. -/
def frameNewMatchesSpecUptoRow : OpenClaim := { program := "ytafgmocdnjdmoaadoor", sum := "e7cd21f834eb5767bbf8a94b7bcd1223762f0539d0aca38d963bd5ada8789b62", func := "orangebox/orangeboxlaw1.FrameNewMatchesSpec", spec := "frameNewMatchesSpec", named := ["orangebox/frame.syncs"], apart := false, laid := [("orangebox/frame.syncs", laid_orangebox_frame_syncs)], narrowed := true }
def FrameNewMatchesSpecUptoSaid : Prop := frameNewMatchesSpecUptoRow.holds Tryd.pinned (OpenSpec.upto frameNewMatchesSpecSpec)

/-- 'orangeboxlaw1.FrameReadMatchesSpec', WHERE WHAT IT READS IS OF BULK AT MOST 1048576: true; the input reads as it did. -/
def frameReadMatchesSpecUptoRow : OpenClaim := { program := "ytafgmocdnjdmoaadoor", sum := "e7cd21f834eb5767bbf8a94b7bcd1223762f0539d0aca38d963bd5ada8789b62", func := "orangebox/orangeboxlaw1.FrameReadMatchesSpec", spec := "frameReadMatchesSpec", named := ["orangebox/frame.syncs"], apart := false, laid := [("orangebox/frame.syncs", laid_orangebox_frame_syncs)], narrowed := true }
def FrameReadMatchesSpecUptoSaid : Prop := frameReadMatchesSpecUptoRow.holds Tryd.pinned (OpenSpec.upto frameReadMatchesSpecSpec)

/-- 'orangeboxlaw1.FrameMendMatchesSpec', WHERE WHAT IT READS IS OF BULK AT MOST 1048576: true; the input reads as it did. -/
def frameMendMatchesSpecUptoRow : OpenClaim := { program := "ytafgmocdnjdmoaadoor", sum := "e7cd21f834eb5767bbf8a94b7bcd1223762f0539d0aca38d963bd5ada8789b62", func := "orangebox/orangeboxlaw1.FrameMendMatchesSpec", spec := "frameMendMatchesSpec", named := ["orangebox/frame.syncs"], apart := false, laid := [("orangebox/frame.syncs", laid_orangebox_frame_syncs)], narrowed := true }
def FrameMendMatchesSpecUptoSaid : Prop := frameMendMatchesSpecUptoRow.holds Tryd.pinned (OpenSpec.upto frameMendMatchesSpecSpec)

/-- 'orangeboxlaw1.FrameFromBytesMatchesSpec', WHERE WHAT IT READS IS OF BULK AT MOST 1048576: true; the input reads as it did. -/
def frameFromBytesMatchesSpecUptoRow : OpenClaim := { program := "ytafgmocdnjdmoaadoor", sum := "e7cd21f834eb5767bbf8a94b7bcd1223762f0539d0aca38d963bd5ada8789b62", func := "orangebox/orangeboxlaw1.FrameFromBytesMatchesSpec", spec := "frameFromBytesMatchesSpec", named := ["orangebox/frame.syncs"], apart := false, laid := [("orangebox/frame.syncs", laid_orangebox_frame_syncs)], narrowed := true }
def FrameFromBytesMatchesSpecUptoSaid : Prop := frameFromBytesMatchesSpecUptoRow.holds Tryd.pinned (OpenSpec.upto frameFromBytesMatchesSpecSpec)

end Rows
end Go.Proofs.YtafgmocdnjdmoaaDoor
