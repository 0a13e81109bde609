/- The types of data: how they lie in memory. -/
import Derived.Test.YtbjhondbheijiaaDoorX1
namespace Go.Lf
open Go.RowKit Go.OB
structure FleetRow where
  Key : Str
  Hidden : Bool
  Flights : Int
  Events : List Int
  deriving DecidableEq
def rFleetRow : Rp FleetRow := Rp.iso (Rp.pair Rp.str (Rp.pair Rp.bool (Rp.pair (Rp.int .i64) (Rp.sl (Rp.int .i64))))) fun x => (x.Key, x.Hidden, x.Flights, x.Events)
theorem rFleetRow_open {F : Nat → Prop} {w : World} {cs : List Value} {x : FleetRow} (h : rFleetRow.rd F w cs x) : ∃ v263, cs = [.string (bs x.Key), .bool x.Hidden, .int .i64 x.Flights, v263] ∧ SlF (Rp.int .i64) F w v263 x.Events := by
  obtain ⟨_, _, rfl, rfl, ⟨_, _, rfl, rfl, ⟨_, _, rfl, rfl, ⟨v3, rfl, h3⟩⟩⟩⟩ := h
  exact ⟨v3, rfl, h3⟩
theorem rFleetRow_mk {F : Nat → Prop} {w : World} {x : FleetRow} {v0 : Value} (h0 : SlF (Rp.int .i64) F w v0 x.Events) : rFleetRow.rd F w [.string (bs x.Key), .bool x.Hidden, .int .i64 x.Flights, v0] x := ⟨[_], _, rfl, rfl, ⟨[_], _, rfl, rfl, ⟨[_], _, rfl, rfl, ⟨_, rfl, h0⟩⟩⟩⟩
structure Orangeboxref0Ink where
  out : List Int
  deriving DecidableEq
def rOrangeboxref0Ink : Rp Orangeboxref0Ink := Rp.iso (Rp.sl (Rp.int .u8)) fun x => (x.out)
theorem rOrangeboxref0Ink_open {F : Nat → Prop} {w : World} {cs : List Value} {x : Orangeboxref0Ink} (h : rOrangeboxref0Ink.rd F w cs x) : ∃ v264, cs = [v264] ∧ SlF (Rp.int .u8) F w v264 x.out := by
  obtain ⟨v0, rfl, h0⟩ := h
  exact ⟨v0, rfl, h0⟩
theorem rOrangeboxref0Ink_mk {F : Nat → Prop} {w : World} {x : Orangeboxref0Ink} {v0 : Value} (h0 : SlF (Rp.int .u8) F w v0 x.out) : rOrangeboxref0Ink.rd F w [v0] x := ⟨_, rfl, h0⟩
end Go.Lf
