/- bits.Len64, by the shelf's contract. -/
import Derived.Test.YtckmiljbaejijaaGreatDoorShV
import Derived.Test.YtckmiljbaejijaaGreatDoorXVp
namespace Go.Proofs.YtckmiljbaejijaaGreatDoor.E
open Go.RowKit Go.OB Go.Lf
end Go.Proofs.YtckmiljbaejijaaGreatDoor.E
