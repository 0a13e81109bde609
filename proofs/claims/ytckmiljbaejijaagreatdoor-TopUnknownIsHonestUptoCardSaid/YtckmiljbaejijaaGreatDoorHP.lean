/- Plain functions: what the code computes. -/
import Derived.Test.YtckmiljbaejijaaGreatDoorHTy

namespace Go.Lf
open Go.RowKit Go.OB
def yJ:Arr 4 Int:=⟨[583,1464,2631,3512],rfl⟩
end Go.Lf
