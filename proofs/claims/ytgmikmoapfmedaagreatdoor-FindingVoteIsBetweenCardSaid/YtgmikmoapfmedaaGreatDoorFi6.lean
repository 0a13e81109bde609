/- The law of clashes. -/
import Derived.Test.YtgmikmoapfmedaaGreatDoorFi5
namespace Go.Lf
open Go.OB
theorem sO:Fal=some true:=by kernel_rfl
end Go.Lf
