/- The types of data: how they lie in memory. -/
import Derived.Test.YtbjhondbheijiaaGreatDoorXY1
namespace Go.Lf
open Go.RowKit Go.OB
structure Sample where
  At : Int
  N : Int
  Mark : Int
  deriving DecidableEq
def rSample : Rp Sample := Rp.iso (Rp.pair (Rp.int .i64) (Rp.pair (Rp.int .i64) (Rp.int .i64))) fun x => (x.At, x.N, x.Mark)
theorem rSample_open {F : Nat → Prop} {w : World} {cs : List Value} {x : Sample} (h : rSample.rd F w cs x) : cs = [.int .i64 x.At, .int .i64 x.N, .int .i64 x.Mark] := by
  obtain ⟨_, _, rfl, rfl, ⟨_, _, rfl, rfl, rfl⟩⟩ := h
  exact rfl
theorem rSample_mk {F : Nat → Prop} {w : World} {x : Sample} : rSample.rd F w [.int .i64 x.At, .int .i64 x.N, .int .i64 x.Mark] x := ⟨[_], _, rfl, rfl, ⟨[_], _, rfl, rfl, rfl⟩⟩
structure Series where
  Den : Int
  Samples : List Sample
  deriving DecidableEq
def rSeries : Rp Series := Rp.iso (Rp.pair (Rp.int .i64) (Rp.sl rSample)) fun x => (x.Den, x.Samples)
structure Track where
  Name : Str
  Series : Series
  Long : Int
  deriving DecidableEq
def rTrack : Rp Track := Rp.iso (Rp.pair Rp.str (Rp.pair rSeries (Rp.int .i64))) fun x => (x.Name, x.Series, x.Long)
theorem rTrack_open {F : Nat → Prop} {w : World} {cs : List Value} {x : Track} (h : rTrack.rd F w cs x) : ∃ v199, cs = [.string (bs x.Name), .int .i64 x.Series.Den, v199, .int .i64 x.Long] ∧ SlF rSample F w v199 x.Series.Samples := by
  obtain ⟨_, _, rfl, rfl, ⟨_, _, rfl, ⟨_, _, rfl, rfl, ⟨v1_1, rfl, h1_1⟩⟩, rfl⟩⟩ := h
  exact ⟨v1_1, rfl, h1_1⟩
theorem rTrack_mk {F : Nat → Prop} {w : World} {x : Track} {v0 : Value} (h0 : SlF rSample F w v0 x.Series.Samples) : rTrack.rd F w [.string (bs x.Name), .int .i64 x.Series.Den, v0, .int .i64 x.Long] x := ⟨[_], _, rfl, rfl, ⟨[_, _], _, rfl, ⟨[_], _, rfl, rfl, ⟨_, rfl, h0⟩⟩, rfl⟩⟩
structure Flight where
  Tail : Str
  Route : Str
  Day : Int
  From : Int
  To : Int
  Tracks : List Track
  deriving DecidableEq
def rFlight : Rp Flight := Rp.iso (Rp.pair Rp.str (Rp.pair Rp.str (Rp.pair (Rp.int .i64) (Rp.pair (Rp.int .i64) (Rp.pair (Rp.int .i64) (Rp.sl rTrack)))))) fun x => (x.Tail, x.Route, x.Day, x.From, x.To, x.Tracks)
theorem rFlight_open {F : Nat → Prop} {w : World} {cs : List Value} {x : Flight} (h : rFlight.rd F w cs x) : ∃ v200, cs = [.string (bs x.Tail), .string (bs x.Route), .int .i64 x.Day, .int .i64 x.From, .int .i64 x.To, v200] ∧ SlF rTrack F w v200 x.Tracks := by
  obtain ⟨_, _, rfl, rfl, ⟨_, _, rfl, rfl, ⟨_, _, rfl, rfl, ⟨_, _, rfl, rfl, ⟨_, _, rfl, rfl, ⟨v5, rfl, h5⟩⟩⟩⟩⟩⟩ := h
  exact ⟨v5, rfl, h5⟩
structure Grain where
  Track : Str
  N : Int
  deriving DecidableEq
def rGrain : Rp Grain := Rp.iso (Rp.pair Rp.str (Rp.int .i64)) fun x => (x.Track, x.N)
theorem rGrain_open {F : Nat → Prop} {w : World} {cs : List Value} {x : Grain} (h : rGrain.rd F w cs x) : cs = [.string (bs x.Track), .int .i64 x.N] := by
  obtain ⟨_, _, rfl, rfl, rfl⟩ := h
  exact rfl
structure Mask where
  Tails : Bool
  Days : Int
  Hide : List Str
  Grains : List Grain
  Least : Int
  deriving DecidableEq
def rMask : Rp Mask := Rp.iso (Rp.pair Rp.bool (Rp.pair (Rp.int .i64) (Rp.pair (Rp.sl Rp.str) (Rp.pair (Rp.sl rGrain) (Rp.int .i64))))) fun x => (x.Tails, x.Days, x.Hide, x.Grains, x.Least)
theorem rMask_open {F : Nat → Prop} {w : World} {cs : List Value} {x : Mask} (h : rMask.rd F w cs x) : ∃ v201 v202, cs = [.bool x.Tails, .int .i64 x.Days, v201, v202, .int .i64 x.Least] ∧ SlF Rp.str F w v201 x.Hide ∧ SlF rGrain F w v202 x.Grains := by
  obtain ⟨_, _, rfl, rfl, ⟨_, _, rfl, rfl, ⟨_, _, rfl, ⟨v2, rfl, h2⟩, ⟨_, _, rfl, ⟨v3, rfl, h3⟩, rfl⟩⟩⟩⟩ := h
  exact ⟨v2, v3, rfl, h2, h3⟩
structure Ratio where
  Num : Int
  Den : Int
  deriving DecidableEq
def flRatio : Fl Ratio := Fl.iso (Fl.pair (Fl.int .i64) (Fl.int .i64)) fun x => (x.Num, x.Den)
structure FleetPeaks where
  l : List Int
  flights : List Int
  den : Int
  deriving DecidableEq
def rFleetPeaks : Rp FleetPeaks := Rp.iso (Rp.pair (Rp.sl (Rp.int .i64)) (Rp.pair (Rp.sl (Rp.int .i64)) (Rp.int .i64))) fun x => (x.l, x.flights, x.den)
theorem rFleetPeaks_open {F : Nat → Prop} {w : World} {cs : List Value} {x : FleetPeaks} (h : rFleetPeaks.rd F w cs x) : ∃ v203 v204, cs = [v203, v204, .int .i64 x.den] ∧ SlF (Rp.int .i64) F w v203 x.l ∧ SlF (Rp.int .i64) F w v204 x.flights := by
  obtain ⟨_, _, rfl, ⟨v0, rfl, h0⟩, ⟨_, _, rfl, ⟨v1, rfl, h1⟩, rfl⟩⟩ := h
  exact ⟨v0, v1, rfl, h0, h1⟩
theorem rFleetPeaks_mk {F : Nat → Prop} {w : World} {x : FleetPeaks} {v0 : Value} {v1 : Value} (h0 : SlF (Rp.int .i64) F w v0 x.l) (h1 : SlF (Rp.int .i64) F w v1 x.flights) : rFleetPeaks.rd F w [v0, v1, .int .i64 x.den] x := ⟨[_], _, rfl, ⟨_, rfl, h0⟩, ⟨[_], _, rfl, ⟨_, rfl, h1⟩, rfl⟩⟩
structure Orangeboxref9Wide where
  neg : Bool
  high : Int
  low : Int
  deriving DecidableEq
structure Orangeboxref0Ink where
  out : List Int
  deriving DecidableEq
def rOrangeboxref0Ink : Rp Orangeboxref0Ink := Rp.iso (Rp.sl (Rp.int .u8)) fun x => (x.out)
theorem rOrangeboxref0Ink_open {F : Nat → Prop} {w : World} {cs : List Value} {x : Orangeboxref0Ink} (h : rOrangeboxref0Ink.rd F w cs x) : ∃ v205, cs = [v205] ∧ SlF (Rp.int .u8) F w v205 x.out := by
  obtain ⟨v0, rfl, h0⟩ := h
  exact ⟨v0, rfl, h0⟩
theorem rOrangeboxref0Ink_mk {F : Nat → Prop} {w : World} {x : Orangeboxref0Ink} {v0 : Value} (h0 : SlF (Rp.int .u8) F w v0 x.out) : rOrangeboxref0Ink.rd F w [v0] x := ⟨_, rfl, h0⟩
structure FleetRow where
  Key : Str
  Hidden : Bool
  Flights : Int
  Events : List Int
  deriving DecidableEq
def rFleetRow : Rp FleetRow := Rp.iso (Rp.pair Rp.str (Rp.pair Rp.bool (Rp.pair (Rp.int .i64) (Rp.sl (Rp.int .i64))))) fun x => (x.Key, x.Hidden, x.Flights, x.Events)
theorem rFleetRow_open {F : Nat → Prop} {w : World} {cs : List Value} {x : FleetRow} (h : rFleetRow.rd F w cs x) : ∃ v206, cs = [.string (bs x.Key), .bool x.Hidden, .int .i64 x.Flights, v206] ∧ SlF (Rp.int .i64) F w v206 x.Events := by
  obtain ⟨_, _, rfl, rfl, ⟨_, _, rfl, rfl, ⟨_, _, rfl, rfl, ⟨v3, rfl, h3⟩⟩⟩⟩ := h
  exact ⟨v3, rfl, h3⟩
theorem rFleetRow_mk {F : Nat → Prop} {w : World} {x : FleetRow} {v0 : Value} (h0 : SlF (Rp.int .i64) F w v0 x.Events) : rFleetRow.rd F w [.string (bs x.Key), .bool x.Hidden, .int .i64 x.Flights, v0] x := ⟨[_], _, rfl, rfl, ⟨[_], _, rfl, rfl, ⟨[_], _, rfl, rfl, ⟨_, rfl, h0⟩⟩⟩⟩
end Go.Lf
