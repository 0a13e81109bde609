/- Functions of Go's library, by contracts: the plain side (Sort, Div64 of what fits). -/
import Derived.Test.YtbjhondbheijiaaGreatLf8
import Derived.Test.YtbjhondbheijiaaGreatSrt
namespace Go.Lf
open Go.RowKit Go.OB
/-- slices.Sort. -/
def X_Sort (l : List Int) : Option (List Int) := if l.length < 4611686018427387904 then some (srt l) else none
/-- math/bits.Div64, where the high part is 0. -/
def X_Div64 (hi lo y : Int) : Option (Int × Int) := if hi = 0 ∧ 0 ≤ lo ∧ lo ≤ 18446744073709551615 ∧ 1 ≤ y ∧ y ≤ 18446744073709551615 then some (lo / y, lo % y) else none
end Go.Lf
