/- Functions of Go's library, by contracts: the plain side (Sort, Add64, Sub64). -/
import Derived.Test.YtbjhondbheijiaaGreatDoorX0
import Derived.Test.YtbjhondbheijiaaGreatDoorLf8
import Derived.Test.YtbjhondbheijiaaGreatDoorSrt
namespace Go.Lf
open Go.RowKit Go.OB
/-- slices.Sort. -/
def X_Sort (l : List Int) : Option (List Int) := if l.length < 4611686018427387904 then some (srt l) else none
/-- math/bits.Add64. -/
def X_Add64 (x y c : Int) : Option (Int × Int) := if 0 ≤ x ∧ 0 ≤ y ∧ 0 ≤ c ∧ c ≤ 1 then some ((x + y + c) % 18446744073709551616, (x + y + c) / 18446744073709551616) else none
/-- math/bits.Sub64. -/
def X_Sub64 (x y b : Int) : Option (Int × Int) := if 0 ≤ x ∧ 0 ≤ y ∧ 0 ≤ b ∧ b ≤ 1 ∧ y + b ≤ x + 18446744073709551616 then some ((x + 18446744073709551616 - y - b) % 18446744073709551616, if x < y + b then 1 else 0) else none
end Go.Lf
