/- Contracts of strings.Builder, strings.Join and internal/strconv.FormatInt at this program. -/
import Derived.Test.YtckmiljbaejijaaGreatDoorXVb
import Derived.Shelf.Strconv.AtoiErr
namespace Go.Proofs.YtckmiljbaejijaaGreatDoor.E
open Go.RowKit Go.OB Go.Lf Go.Sort
end Go.Proofs.YtckmiljbaejijaaGreatDoor.E
