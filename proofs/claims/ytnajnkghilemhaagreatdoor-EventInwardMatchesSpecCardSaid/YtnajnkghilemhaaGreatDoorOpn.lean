/- What an argument reads as, in the own words. -/
import Derived.Test.YtnajnkghilemhaaGreatDoorOps4
import Derived.OpenShut
import Derived.ProofKit
import Derived.Lib.LaidTab
namespace Go.OB
open Go.RowKit Go.ChangeShapes Go.WideShapes Go.ChangeAt
variable {H : Type} {enc : TypeId × Value → H} {P : Program} {w : World} {base : Nat} {sp : Nat → Bool} {held : Bool} {r : Reach} {b0 : Nat} {t e : TypeId} {v : Value} {d : DataW H} {ps : List MemPlace} {k : IntKind}
end Go.OB
