/- The shelf's contract of slices.Sort of numbers, tied to this program. -/
import Derived.Test.YtgmikmoapfmedaaGreatDoorRows
import Derived.Shelf.Lays
import Derived.Shelf.Sort.Plain
namespace Go.Proofs.YtgmikmoapfmedaaGreatDoor
open Go Go.Shelf
end Go.Proofs.YtgmikmoapfmedaaGreatDoor
