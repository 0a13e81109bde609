/- The shelf's contracts of small, numDigits and formatBase10, tied to this program. -/
import Derived.Test.YtbjhondbheijiaaDoorRows
import Derived.Shelf.Strconv.Itoa0
import Derived.Shelf.Strconv.Itoa1
import Derived.Shelf.Strconv.Itoa2
namespace Go.Proofs.YtbjhondbheijiaaDoor
open Go Go.Shelf
/-- The shelf's numbers in this program. -/
def ren : Go.Shelf.Ren := ⟨fun n => match n with | 129 => 101 | 283 => 90 | 284 => 91 | 285 => 92 | 317 => 100 | 318 => 102 | _ => 0, fun n => match n with | 0 => 0 | 3 => 3 | 4 => 4 | 5 => 5 | 9 => 9 | 37 => 32 | 46 => 134 | 51 => 132 | 53 => 119 | 212 => 131 | _ => 0, fun n => match n with | 17 => 0 | _ => 0⟩
set_option maxRecDepth 100000 in
theorem shf129 : Tryd.prog.funcs[ren.f 129]? = some (Body.n129 ren) := by
  have h : Tryd.f101 = Body.n129 ren := by kernel_rfl
  exact h ▸ Tryd.func101
set_option maxRecDepth 100000 in
theorem shf283 : Tryd.prog.funcs[ren.f 283]? = some (Body.n283 ren) := by
  have h : Tryd.f90 = Body.n283 ren := by kernel_rfl
  exact h ▸ Tryd.func90
set_option maxRecDepth 100000 in
theorem shf284 : Tryd.prog.funcs[ren.f 284]? = some (Body.n284 ren) := by
  have h : Tryd.f91 = Body.n284 ren := by kernel_rfl
  exact h ▸ Tryd.func91
set_option maxRecDepth 100000 in
theorem shf285 : Tryd.prog.funcs[ren.f 285]? = some (Body.n285 ren) := by
  have h : Tryd.f92 = Body.n285 ren := by kernel_rfl
  exact h ▸ Tryd.func92
set_option maxRecDepth 100000 in
theorem shf317 : Tryd.prog.funcs[ren.f 317]? = some (Body.n317 ren) := by
  have h : Tryd.f100 = Body.n317 ren := by kernel_rfl
  exact h ▸ Tryd.func100
set_option maxRecDepth 100000 in
theorem shf318 : Tryd.prog.funcs[ren.f 318]? = some (Body.n318 ren) := by
  have h : Tryd.f102 = Body.n318 ren := by kernel_rfl
  exact h ▸ Tryd.func102
theorem shLays129 : Lays.n129 Tryd.prog ren := { mixed := by kernel_rfl, f129 := shf129, t3 := Tryd.underlying3, a3 := Tryd.isAgg3, z3 := Tryd.sizeOf3, v3 := Tryd.zeroValue3, t4 := Tryd.underlying4, a4 := Tryd.isAgg4, z4 := Tryd.sizeOf4, v4 := Tryd.zeroValue4, t5 := Tryd.underlying5, a5 := Tryd.isAgg5, z5 := Tryd.sizeOf5, v5 := Tryd.zeroValue5, t9 := Tryd.underlying9, a9 := Tryd.isAgg9, z9 := Tryd.sizeOf9, v9 := Tryd.zeroValue9, t46 := Tryd.underlying134, a46 := Tryd.isAgg134, z46 := Tryd.sizeOf134, v46 := Tryd.zeroValue134, t53 := Tryd.underlying119, a53 := Tryd.isAgg119, z53 := Tryd.sizeOf119, v53 := Tryd.zeroValue119 }
theorem shLays283 : Lays.n283 Tryd.prog ren := { mixed := by kernel_rfl, f283 := shf283, t3 := Tryd.underlying3, a3 := Tryd.isAgg3, z3 := Tryd.sizeOf3, v3 := Tryd.zeroValue3, t4 := Tryd.underlying4, a4 := Tryd.isAgg4, z4 := Tryd.sizeOf4, v4 := Tryd.zeroValue4, t9 := Tryd.underlying9, a9 := Tryd.isAgg9, z9 := Tryd.sizeOf9, v9 := Tryd.zeroValue9 }
theorem shLaysM284 : LaysM.n284 Tryd.prog ren := { mixed := by kernel_rfl, f129 := shf129, f284 := shf284, f317 := shf317, f318 := shf318, t0 := Tryd.underlying0, a0 := Tryd.isAgg0, z0 := Tryd.sizeOf0, v0 := Tryd.zeroValue0, t3 := Tryd.underlying3, a3 := Tryd.isAgg3, z3 := Tryd.sizeOf3, v3 := Tryd.zeroValue3, t4 := Tryd.underlying4, a4 := Tryd.isAgg4, z4 := Tryd.sizeOf4, v4 := Tryd.zeroValue4, t5 := Tryd.underlying5, a5 := Tryd.isAgg5, z5 := Tryd.sizeOf5, v5 := Tryd.zeroValue5, t9 := Tryd.underlying9, a9 := Tryd.isAgg9, z9 := Tryd.sizeOf9, v9 := Tryd.zeroValue9, t46 := Tryd.underlying134, a46 := Tryd.isAgg134, z46 := Tryd.sizeOf134, v46 := Tryd.zeroValue134, t53 := Tryd.underlying119, a53 := Tryd.isAgg119, z53 := Tryd.sizeOf119, v53 := Tryd.zeroValue119, t212 := Tryd.underlying131, a212 := Tryd.isAgg131, z212 := Tryd.sizeOf131, v212 := Tryd.zeroValue131, g17 := by kernel_rfl, i0 := by kernel_rfl, i3 := by kernel_rfl, i4 := by kernel_rfl, i5 := by kernel_rfl, i9 := by kernel_rfl, i46 := by kernel_rfl, i53 := by kernel_rfl, i212 := by kernel_rfl, m17 := by kernel_rfl }
theorem shLays285 : Lays.n285 Tryd.prog ren := { mixed := by kernel_rfl, f285 := shf285, t0 := Tryd.underlying0, a0 := Tryd.isAgg0, z0 := Tryd.sizeOf0, v0 := Tryd.zeroValue0, t3 := Tryd.underlying3, a3 := Tryd.isAgg3, z3 := Tryd.sizeOf3, v3 := Tryd.zeroValue3, t4 := Tryd.underlying4, a4 := Tryd.isAgg4, z4 := Tryd.sizeOf4, v4 := Tryd.zeroValue4, t5 := Tryd.underlying5, a5 := Tryd.isAgg5, z5 := Tryd.sizeOf5, v5 := Tryd.zeroValue5, t9 := Tryd.underlying9, a9 := Tryd.isAgg9, z9 := Tryd.sizeOf9, v9 := Tryd.zeroValue9, t37 := Tryd.underlying32, a37 := Tryd.isAgg32, z37 := Tryd.sizeOf32, v37 := Tryd.zeroValue32, t51 := Tryd.underlying132, a51 := Tryd.isAgg132, z51 := Tryd.sizeOf132, v51 := Tryd.zeroValue132, t53 := Tryd.underlying119, a53 := Tryd.isAgg119, z53 := Tryd.sizeOf119, v53 := Tryd.zeroValue119 }
end Go.Proofs.YtbjhondbheijiaaDoor
