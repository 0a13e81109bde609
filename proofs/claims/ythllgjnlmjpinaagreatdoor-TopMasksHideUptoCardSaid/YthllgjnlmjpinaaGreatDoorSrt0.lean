/- Lists of integers in order. -/
import Derived.Test.YthllgjnlmjpinaaGreatDoorLfP
namespace Go.Lf
def srt (l:List Int):List Int:=l.mergeSort fun x y=>decide (x≤y)
theorem aUj (l:List Int):(srt l).length=l.length:=List.length_mergeSort _
end Go.Lf
