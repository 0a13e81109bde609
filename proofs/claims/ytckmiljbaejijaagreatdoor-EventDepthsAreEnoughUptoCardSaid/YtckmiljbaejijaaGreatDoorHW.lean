/- Walks: what each function computes, for every argument; no condition but those that stand in the statements. -/
import Derived.Test.YtckmiljbaejijaaGreatDoorRows
import Derived.Test.YtckmiljbaejijaaGreatDoorHP
import Derived.Test.YtckmiljbaejijaaGreatDoorXVa
import Derived.Test.YtckmiljbaejijaaGreatDoorLfS
namespace Go.Proofs.YtckmiljbaejijaaGreatDoor.E
open Go.RowKit Go.OB Go.Lf
theorem mixed:Tryz.prog.follows .mixedOrders=true:=by kernel_rfl
end Go.Proofs.YtckmiljbaejijaaGreatDoor.E
