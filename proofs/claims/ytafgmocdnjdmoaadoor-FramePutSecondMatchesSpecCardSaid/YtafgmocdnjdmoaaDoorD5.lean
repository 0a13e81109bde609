/- The k-th frame of eight, as a value. -/
import Derived.Test.YtafgmocdnjdmoaaDoorD4
import Derived.Test.YtafgmocdnjdmoaaDoorOps3
namespace Go.Fr1
open Go.RowKit Go.OB
variable {P : Program} {w : World} {ρ : Env} {t e ty : TypeId} {x y : Operand} {d : Option Nat} {pos : String} {af : Array Edge} {g : Option (Nat × Bool)} {ik : IntKind}
theorem Do_index_fr {G : List Nat} {k : Nat} (hu : P.underlying t = some (.array 8 e)) (ho : Agg P e) (hs : Sz P e 64) (hx : ev ρ x = .agg (wds G).toArray) (hy : ev ρ y = .int ik k) (hk : k < 8) :
    Do P ⟨d, .index t x y, ty, pos, af, g⟩ ρ w (.agg (wds (fr G k)).toArray) w := by
  have q := Do_indexs (w := w) (ty := ty) (pos := pos) (af := af) (g := g) (d := d) hu ho hs hx hy (by omega) (by omega)
  rwa [fr_agg G (show ((k : Int).toNat) * 64 = k * 64 by rw [Int.toNat_natCast])] at q
end Go.Fr1
