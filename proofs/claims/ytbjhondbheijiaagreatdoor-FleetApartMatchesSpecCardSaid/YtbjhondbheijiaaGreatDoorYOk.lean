/- What arguments are in range. -/
import Derived.Test.YtbjhondbheijiaaGreatDoorYP
import Derived.Test.YtbjhondbheijiaaGreatDoorOpx
namespace Go.Lf
open Go.OB
def okSample (x : Sample) : Prop := i64 x.At ∧ i64 x.N ∧ i64 x.Mark
def okSeries (x : Series) : Prop := i64 x.Den ∧ okL (fun x => okSample x) x.Samples
def okTrack (x : Track) : Prop := okS x.Name ∧ okSeries x.Series ∧ i64 x.Long
def okFlight (x : Flight) : Prop := okS x.Tail ∧ okS x.Route ∧ i64 x.Day ∧ i64 x.From ∧ i64 x.To ∧ okL (fun x => okTrack x) x.Tracks
def okGrain (x : Grain) : Prop := okS x.Track ∧ i64 x.N
end Go.Lf
