/- Walks: what each function computes, for every argument; no condition but those that stand in the statements. -/
import Derived.Test.YtnajnkghilemhaaGreatDoorLf7
import Derived.Lib.ItoaLen
import Derived.Test.YtnajnkghilemhaaGreatDoorLf8
import Derived.Shelf.Strings.OnBuilder
import Derived.Test.YtnajnkghilemhaaGreatDoorLfR
import Derived.Shelf.Strconv.AtoiErr
import Derived.Shelf.Strconv.Atoi
namespace Go.Lf
open Go.RowKit Go.OB
def X_AppendUint (l : List Int) (n base : Int) : Option (List Int) :=
  if base = 10 ∧ 0 ≤ n ∧ n ≤ 18446744073709551615 ∧ l.length + 20 ≤ 140737488355328 then some (l ++ nums (Lib.decDigits n.toNat)) else none
def X_Len64 (n : Int) : Option Int := if 0 ≤ n ∧ n ≤ 18446744073709551615 then some (Lib.bitLen n.toNat : Nat) else none
end Go.Lf
namespace Go.Lf
open Go.RowKit Go.OB
def X_bcheck (p0 : List Int) : Option (List Int) := some p0
def X_bstring (p0 : List Int) : Option Str := if p0 = nums (str' p0) then some (str' p0) else none
def X_Join (l : List Str) (sep : Str) : Option Str :=
  if l.length ≤ 140737488355328 ∧ (Lib.join l sep).length ≤ 140737488355328 then some (Lib.join l sep) else none
end Go.Lf
namespace Go.Lf
open Go.RowKit Go.OB
def X_Itoa (n : Int) : Option Str := if 0 ≤ n ∧ n < 100 then some (Lib.decDigits n.toNat) else none
def X_Atoi (s : Str) : Option (Int × Bool) := if s.length ≤ 18 then some (match Lib.atoi s with | some v => (v, true) | none => (0, false)) else none
def X_IndexByte (_ : Str) (_ : Int) : Option Int := none
end Go.Lf
