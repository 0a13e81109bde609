/- The shelf's contracts of Go's library, tied to this program. -/
import Derived.Test.YtckmiljbaejijaaGreatDoorRows
import Derived.Shelf.Strconv.Itoa3
import Derived.Shelf.Strings.OnBuilder
import Derived.Shelf.LaysC
namespace Go.Proofs.YtckmiljbaejijaaGreatDoor
open Go Go.Shelf
end Go.Proofs.YtckmiljbaejijaaGreatDoor
