/- Copying into what is owned. -/
import Derived.Test.YtnajnkghilemhaaGreatDoorOps4
namespace Go.OB
open Go.RowKit
section
variable {P : Program} {ρ : Env} {w : World} {d : Option Tmp} {x y z : Operand} {t u ty e : TypeId} {pos : String} {af : Array Edge} {g : Option (Nat × Bool)}
variable {v : Value} {b o i j m n c s : Nat} {cs xs ys : List Value} {T : TypeId}
end
end Go.OB
