/- Walks: what each function computes, for every argument; no condition but those that stand in the statements. -/
import Derived.Test.YtgmikmoapfmedaaGreatDoorRows
import Derived.Test.YtgmikmoapfmedaaGreatDoorHP
import Derived.Test.YtgmikmoapfmedaaGreatDoorXVa
import Derived.Test.YtgmikmoapfmedaaGreatDoorLfS
namespace Go.Proofs.YtgmikmoapfmedaaGreatDoor.E
open Go.RowKit Go.OB Go.Lf
theorem mixed:Tryz.prog.follows .mixedOrders=true:=by kernel_rfl
end Go.Proofs.YtgmikmoapfmedaaGreatDoor.E
