/- What arguments are in range. -/
import Derived.Test.YtnajnkghilemhaaGreatDoorVP
import Derived.Test.YtnajnkghilemhaaGreatDoorOpx
namespace Go.Lf
open Go.OB
def okSample (x : Sample) : Prop := i64 x.At ∧ i64 x.N ∧ i64 x.Mark
def okSeries (x : Series) : Prop := i64 x.Den ∧ okL (fun x => okSample x) x.Samples
def okTrack (x : Track) : Prop := okS x.Name ∧ okSeries x.Series ∧ i64 x.Long
end Go.Lf
