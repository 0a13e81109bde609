/- slices.Sort of an own slice of integers, by the shelf's contract, over any program. -/
import Derived.Test.YtgmikmoapfmedaaGreatDoorLfP
import Derived.Sort.OwnSortedInts
import Derived.Shelf.Sort.Plain
import Derived.Shelf.Slices.In.SortNone
namespace Go.Lf
open Go.RowKit Go.OB Go.Sort Go.Shelf Go.Proofs
variable {P:Program} {ρ:Ren} {O S:List Nat} {w0 w:World} {l:List Th} {i e:Nat} {v:Value} {xl:List Int}
end Go.Lf
