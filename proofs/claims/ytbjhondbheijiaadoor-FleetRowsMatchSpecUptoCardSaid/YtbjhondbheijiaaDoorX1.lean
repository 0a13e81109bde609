/- Functions of Go's library, by contracts: the plain side (builders, Join, FormatInt). -/
import Derived.Test.YtbjhondbheijiaaDoorX0
import Derived.Test.YtbjhondbheijiaaDoorLf8
import Derived.Shelf.Strings.OnBuilder
namespace Go.Lf
open Go.RowKit Go.OB
/-- (*strings.Builder).copyCheck. -/
def X_bcheck (p0 : List Int) : Option (List Int) := some p0
/-- (*strings.Builder).String. -/
def X_bstring (p0 : List Int) : Option Str := if p0 = nums (str' p0) then some (str' p0) else none
/-- strings.Join. -/
def X_Join (l : List Str) (sep : Str) : Option Str :=
  if l.length ≤ 140737488355328 ∧ (Lib.join l sep).length ≤ 140737488355328 then some (Lib.join l sep) else none
/-- internal/strconv.FormatInt at base 10. -/
def X_FormatInt (n base : Int) : Option Str :=
  if base = 10 ∧ 0 ≤ n ∧ n ≤ 9223372036854775807 then some (Lib.decDigits n.toNat) else none
end Go.Lf
