/- AppendUint at base 10. -/
import Derived.Test.YtgmikmoapfmedaaGreatDoorHW
import Derived.Test.YtgmikmoapfmedaaGreatDoorPl
import Derived.Lib.AppendIntMem
import Derived.Lib.ItoaMem
import Derived.Lib.ItoaLen
namespace Go.Lf
open Go.RowKit Go.OB Go.Sort
def encB (b:UInt8):Value:= .int .u8 (b.toNat:Int)
theorem Wr.put {w : World} {b : Nat} {cs : List Value} {T : TypeId} (hb : Blk w b cs T) (dk : Array UInt8) (k : Nat) : Wr w ((putRow encB w b 0 dk).drewN k) b (putCells encB 0 dk cs.toArray).toList T := by
  have hlt := hb.lt
  unfold Blk at hb
  refine ⟨?_, ⟨rfl, rfl, rfl, ?_, fun i hi hn => ?_⟩, ?_⟩
  · unfold Blk
    rw [World.heap_drewN]
    simp [putRow, mapBlock, Array.getElem?_modify, hb, onCells]
  · rw [World.heap_drewN]; simp
  · rw [World.heap_drewN]
    have hne : b ≠ i := fun e => hn (by simp [e])
    simp [putRow, mapBlock, Array.getElem?_modify, hne]
  · rw [World.heap_drewN]; simp
end Go.Lf
namespace Go.Proofs.YtgmikmoapfmedaaGreatDoor.E
open Go.RowKit Go.OB Go.Lf Go.Sort
end Go.Proofs.YtgmikmoapfmedaaGreatDoor.E
