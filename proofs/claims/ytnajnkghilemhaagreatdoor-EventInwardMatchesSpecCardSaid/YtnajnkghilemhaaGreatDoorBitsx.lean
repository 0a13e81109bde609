/- Numbers' bits: masks, joins, exclusive or; the number of ones. -/
import Derived.Test.YtnajnkghilemhaaGreatDoorOps2
namespace Go.OB
open Go.RowKit

theorem yQ {P : Program} {o : Oper} {ρ : Env} {w w' : World} {v v' : Value} (h : Do P o ρ w v w') (e : v = v') : Do P o ρ w v' w' := e ▸ h
end Go.OB
