/- Pairs of numbers as cells. -/
import Derived.Test.YtafgmocdnjdmoaaDoorSwp
import Derived.Test.YtafgmocdnjdmoaaDoorFrm2
namespace Go.Fr1
open Go.OB
theorem pick2_get (a t : Int) {k : Nat} (h : k < 2) : [Value.int .i64 a, Value.int .i64 t][k]? = some (Value.int .i64 (pick2 a t k)) := by
  rcases k with _ | _ | k
  · rfl
  · rfl
  · omega
end Go.Fr1
