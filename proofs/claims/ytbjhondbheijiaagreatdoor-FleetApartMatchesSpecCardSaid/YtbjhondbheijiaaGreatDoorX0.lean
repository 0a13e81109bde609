/- Functions of Go's library, by contracts: the plain side. -/
import Derived.Test.YtbjhondbheijiaaGreatDoorLf7
import Derived.Lib.ItoaLen
namespace Go.Lf
open Go.RowKit Go.OB
/-- internal/strconv.AppendUint at base 10. -/
def X_AppendUint (l : List Int) (n base : Int) : Option (List Int) :=
  if base = 10 ∧ 0 ≤ n ∧ n ≤ 18446744073709551615 ∧ l.length + 20 ≤ 140737488355328 then some (l ++ nums (Lib.decDigits n.toNat)) else none
/-- math/bits.Len64. -/
def X_Len64 (n : Int) : Option Int := if 0 ≤ n ∧ n ≤ 18446744073709551615 then some (Lib.bitLen n.toNat : Nat) else none
end Go.Lf
