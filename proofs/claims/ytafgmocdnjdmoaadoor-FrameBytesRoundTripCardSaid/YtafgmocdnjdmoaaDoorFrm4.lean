/- Truth values as cells. -/
import Derived.Test.YtafgmocdnjdmoaaDoorVals
import Derived.Test.YtafgmocdnjdmoaaDoorFrm2
namespace Go.Fr1
open Go.OB
def bls (l : List Bool) : List Value := l.map Value.bool
theorem bls_length (l : List Bool) : (bls l).length = l.length := by simp [bls]
theorem bls_get {l : List Bool} {i : Nat} (h : i < l.length) : (bls l)[i]? = some (.bool (l.getD i false)) := by simp [bls, List.getD, List.getElem?_eq_getElem h]
theorem bls_snoc (l : List Bool) (b : Bool) : bls l ++ [.bool b] = bls (l ++ [b]) := by simp [bls]
theorem nats_snoc (l : List Nat) (n : Nat) {x : Int} (h : x = n) : nats l ++ [.int .i64 x] = nats (l ++ [n]) := by subst h; simp [nats]
end Go.Fr1
namespace Go.Fr1
theorem ext_ints {l1 l2 : List Int} (h : l1.length = l2.length) (hi : ∀ i, i < l1.length → l1.getD i 0 = l2.getD i 0) : l1 = l2 := by
  apply List.ext_getElem h
  intro i h1 h2
  have := hi i h1
  simpa [List.getD, List.getElem?_eq_getElem h1, List.getElem?_eq_getElem h2] using this
end Go.Fr1
