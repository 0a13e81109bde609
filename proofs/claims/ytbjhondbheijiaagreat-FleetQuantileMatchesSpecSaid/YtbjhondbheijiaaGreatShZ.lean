/- The shelf's contract of slices.Sort, tied to this program. -/
import Derived.Test.YtbjhondbheijiaaGreatRows
import Derived.Shelf.Sort.Plain
namespace Go.Proofs.YtbjhondbheijiaaGreat
open Go Go.Shelf
/-- The shelf's numbers in this program. -/
def ren : Go.Shelf.Ren := ⟨fun n => match n with | 125 => 52 | 128 => 79 | 129 => 80 | 189 => 31 | 215 => 93 | 216 => 76 | 257 => 51 | 294 => 70 | 295 => 71 | 296 => 72 | 297 => 73 | 298 => 74 | 299 => 75 | 300 => 77 | 301 => 78 | 328 => 88 | 329 => 89 | 330 => 90 | 331 => 91 | 332 => 92 | 343 => 98 | _ => 0, fun n => match n with | 0 => 0 | 3 => 3 | 4 => 4 | 5 => 5 | 9 => 9 | 28 => 42 | 46 => 101 | 51 => 122 | 53 => 52 | 131 => 68 | 182 => 114 | 183 => 115 | 218 => 131 | 222 => 135 | 228 => 139 | 229 => 140 | _ => 0, fun n => match n with | _ => 0⟩
set_option maxRecDepth 100000 in
theorem shf125 : Tryz.prog.funcs[ren.f 125]? = some (Body.n125 ren) := by
  have h : Tryz.f52 = Body.n125 ren := by kernel_rfl
  exact h ▸ Tryz.func52
set_option maxRecDepth 100000 in
theorem shf128 : Tryz.prog.funcs[ren.f 128]? = some (Body.n128 ren) := by
  have h : Tryz.f79 = Body.n128 ren := by kernel_rfl
  exact h ▸ Tryz.func79
set_option maxRecDepth 100000 in
theorem shf129 : Tryz.prog.funcs[ren.f 129]? = some (Body.n129 ren) := by
  have h : Tryz.f80 = Body.n129 ren := by kernel_rfl
  exact h ▸ Tryz.func80
set_option maxRecDepth 100000 in
theorem shf189 : Tryz.prog.funcs[ren.f 189]? = some (Body.n189 ren) := by
  have h : Tryz.f31 = Body.n189 ren := by kernel_rfl
  exact h ▸ Tryz.func31
set_option maxRecDepth 100000 in
theorem shf215 : Tryz.prog.funcs[ren.f 215]? = some (Body.n215 ren) := by
  have h : Tryz.f93 = Body.n215 ren := by kernel_rfl
  exact h ▸ Tryz.func93
set_option maxRecDepth 100000 in
theorem shf216 : Tryz.prog.funcs[ren.f 216]? = some (Body.n216 ren) := by
  have h : Tryz.f76 = Body.n216 ren := by kernel_rfl
  exact h ▸ Tryz.func76
set_option maxRecDepth 100000 in
theorem shf257 : Tryz.prog.funcs[ren.f 257]? = some (Body.n257 ren) := by
  have h : Tryz.f51 = Body.n257 ren := by kernel_rfl
  exact h ▸ Tryz.func51
set_option maxRecDepth 100000 in
theorem shf294 : Tryz.prog.funcs[ren.f 294]? = some (Body.n294 ren) := by
  have h : Tryz.f70 = Body.n294 ren := by kernel_rfl
  exact h ▸ Tryz.func70
set_option maxRecDepth 100000 in
theorem shf295 : Tryz.prog.funcs[ren.f 295]? = some (Body.n295 ren) := by
  have h : Tryz.f71 = Body.n295 ren := by kernel_rfl
  exact h ▸ Tryz.func71
set_option maxRecDepth 100000 in
theorem shf296 : Tryz.prog.funcs[ren.f 296]? = some (Body.n296 ren) := by
  have h : Tryz.f72 = Body.n296 ren := by kernel_rfl
  exact h ▸ Tryz.func72
set_option maxRecDepth 100000 in
theorem shf297 : Tryz.prog.funcs[ren.f 297]? = some (Body.n297 ren) := by
  have h : Tryz.f73 = Body.n297 ren := by kernel_rfl
  exact h ▸ Tryz.func73
set_option maxRecDepth 100000 in
theorem shf298 : Tryz.prog.funcs[ren.f 298]? = some (Body.n298 ren) := by
  have h : Tryz.f74 = Body.n298 ren := by kernel_rfl
  exact h ▸ Tryz.func74
set_option maxRecDepth 100000 in
theorem shf299 : Tryz.prog.funcs[ren.f 299]? = some (Body.n299 ren) := by
  have h : Tryz.f75 = Body.n299 ren := by kernel_rfl
  exact h ▸ Tryz.func75
set_option maxRecDepth 100000 in
theorem shf300 : Tryz.prog.funcs[ren.f 300]? = some (Body.n300 ren) := by
  have h : Tryz.f77 = Body.n300 ren := by kernel_rfl
  exact h ▸ Tryz.func77
set_option maxRecDepth 100000 in
theorem shf301 : Tryz.prog.funcs[ren.f 301]? = some (Body.n301 ren) := by
  have h : Tryz.f78 = Body.n301 ren := by kernel_rfl
  exact h ▸ Tryz.func78
set_option maxRecDepth 100000 in
theorem shf328 : Tryz.prog.funcs[ren.f 328]? = some (Body.n328 ren) := by
  have h : Tryz.f88 = Body.n328 ren := by kernel_rfl
  exact h ▸ Tryz.func88
set_option maxRecDepth 100000 in
theorem shf329 : Tryz.prog.funcs[ren.f 329]? = some (Body.n329 ren) := by
  have h : Tryz.f89 = Body.n329 ren := by kernel_rfl
  exact h ▸ Tryz.func89
set_option maxRecDepth 100000 in
theorem shf330 : Tryz.prog.funcs[ren.f 330]? = some (Body.n330 ren) := by
  have h : Tryz.f90 = Body.n330 ren := by kernel_rfl
  exact h ▸ Tryz.func90
set_option maxRecDepth 100000 in
theorem shf331 : Tryz.prog.funcs[ren.f 331]? = some (Body.n331 ren) := by
  have h : Tryz.f91 = Body.n331 ren := by kernel_rfl
  exact h ▸ Tryz.func91
set_option maxRecDepth 100000 in
theorem shf332 : Tryz.prog.funcs[ren.f 332]? = some (Body.n332 ren) := by
  have h : Tryz.f92 = Body.n332 ren := by kernel_rfl
  exact h ▸ Tryz.func92
set_option maxRecDepth 100000 in
theorem shf343 : Tryz.prog.funcs[ren.f 343]? = some (Body.n343 ren) := by
  have h : Tryz.f98 = Body.n343 ren := by kernel_rfl
  exact h ▸ Tryz.func98
theorem shLays189 : Lays.n189 Tryz.prog ren := { mixed := by kernel_rfl, f125 := shf125, f128 := shf128, f129 := shf129, f189 := shf189, f215 := shf215, f216 := shf216, f257 := shf257, f294 := shf294, f295 := shf295, f296 := shf296, f297 := shf297, f298 := shf298, f299 := shf299, f300 := shf300, f301 := shf301, f328 := shf328, f329 := shf329, f330 := shf330, f331 := shf331, f332 := shf332, f343 := shf343, t0 := Tryz.underlying0, a0 := Tryz.isAgg0, z0 := Tryz.sizeOf0, v0 := Tryz.zeroValue0, t3 := Tryz.underlying3, a3 := Tryz.isAgg3, z3 := Tryz.sizeOf3, v3 := Tryz.zeroValue3, t4 := Tryz.underlying4, a4 := Tryz.isAgg4, z4 := Tryz.sizeOf4, v4 := Tryz.zeroValue4, t5 := Tryz.underlying5, a5 := Tryz.isAgg5, z5 := Tryz.sizeOf5, v5 := Tryz.zeroValue5, t9 := Tryz.underlying9, a9 := Tryz.isAgg9, z9 := Tryz.sizeOf9, v9 := Tryz.zeroValue9, t28 := Tryz.underlying42, a28 := Tryz.isAgg42, z28 := Tryz.sizeOf42, v28 := Tryz.zeroValue42, t46 := Tryz.underlying101, a46 := Tryz.isAgg101, z46 := Tryz.sizeOf101, v46 := Tryz.zeroValue101, t51 := Tryz.underlying122, a51 := Tryz.isAgg122, z51 := Tryz.sizeOf122, v51 := Tryz.zeroValue122, t53 := Tryz.underlying52, a53 := Tryz.isAgg52, z53 := Tryz.sizeOf52, v53 := Tryz.zeroValue52, t131 := Tryz.underlying68, a131 := Tryz.isAgg68, z131 := Tryz.sizeOf68, v131 := Tryz.zeroValue68, t182 := Tryz.underlying114, a182 := Tryz.isAgg114, z182 := Tryz.sizeOf114, v182 := Tryz.zeroValue114, t183 := Tryz.underlying115, a183 := Tryz.isAgg115, z183 := Tryz.sizeOf115, v183 := Tryz.zeroValue115, t218 := Tryz.underlying131, a218 := Tryz.isAgg131, z218 := Tryz.sizeOf131, v218 := Tryz.zeroValue131, t222 := Tryz.underlying135, a222 := Tryz.isAgg135, z222 := Tryz.sizeOf135, v222 := Tryz.zeroValue135, t228 := Tryz.underlying139, a228 := Tryz.isAgg139, z228 := Tryz.sizeOf139, v228 := Tryz.zeroValue139, t229 := Tryz.underlying140, a229 := Tryz.isAgg140, z229 := Tryz.sizeOf140, v229 := Tryz.zeroValue140 }
end Go.Proofs.YtbjhondbheijiaaGreat
