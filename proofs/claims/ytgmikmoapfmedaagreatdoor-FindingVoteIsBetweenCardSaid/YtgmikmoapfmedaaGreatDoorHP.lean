/- Plain functions: what the code computes. -/
import Derived.Test.YtgmikmoapfmedaaGreatDoorHTy

namespace Go.Lf
open Go.RowKit Go.OB
def zW:Arr 7 Str:=⟨[[],[60],[60,61],[61],[33,61],[62,61],[62]],rfl⟩
end Go.Lf
