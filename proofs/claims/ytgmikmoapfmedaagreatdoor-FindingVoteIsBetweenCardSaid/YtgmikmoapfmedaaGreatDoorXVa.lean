/- bits.Len64, by the shelf's contract. -/
import Derived.Test.YtgmikmoapfmedaaGreatDoorShV
import Derived.Test.YtgmikmoapfmedaaGreatDoorXVp
namespace Go.Proofs.YtgmikmoapfmedaaGreatDoor.E
open Go.RowKit Go.OB Go.Lf
end Go.Proofs.YtgmikmoapfmedaaGreatDoor.E
