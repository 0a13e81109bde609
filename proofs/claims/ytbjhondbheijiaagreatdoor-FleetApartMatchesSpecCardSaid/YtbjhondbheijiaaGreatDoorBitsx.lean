/- Numbers' bits: masks, joins, exclusive or; the number of ones. -/
import Derived.Test.YtbjhondbheijiaaGreatDoorOps2
namespace Go.OB
open Go.RowKit

theorem wrapn_u64 (n : Int) (h : 0 ≤ n) (h' : n < 2 ^ 64) : IntKind.u64.wrap n = n := wrap_u64 (by omega) (by omega)

theorem or_comm {k : IntKind} {a b : Int} : bits .or k a b = bits .or k b a := by unfold bits; simp [BitVec.or_comm]

/-- What an operation yields, told otherwise. -/
theorem zT {P : Program} {o : Oper} {ρ : Env} {w w' : World} {v v' : Value} (h : Do P o ρ w v w') (e : v = v') : Do P o ρ w v' w' := e ▸ h
end Go.OB
