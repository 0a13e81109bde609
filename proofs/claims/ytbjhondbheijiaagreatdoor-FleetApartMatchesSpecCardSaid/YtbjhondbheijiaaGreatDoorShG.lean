/- The shelf's contracts of small, numDigits, formatBase10 and slices.Sort, tied to this program. -/
import Derived.Test.YtbjhondbheijiaaGreatDoorRows
import Derived.Shelf.Strconv.Itoa3
import Derived.Shelf.Sort.Plain
namespace Go.Proofs.YtbjhondbheijiaaGreatDoor
open Go Go.Shelf
/-- The shelf's numbers in this program. -/
def ren : Go.Shelf.Ren := ⟨fun n => match n with | 125 => 68 | 128 => 95 | 129 => 96 | 189 => 48 | 215 => 108 | 216 => 92 | 257 => 67 | 283 => 117 | 284 => 118 | 285 => 119 | 294 => 86 | 295 => 87 | 296 => 88 | 297 => 89 | 298 => 90 | 299 => 91 | 300 => 93 | 301 => 94 | 317 => 121 | 318 => 122 | 319 => 123 | 320 => 124 | 328 => 103 | 329 => 104 | 330 => 105 | 331 => 106 | 332 => 107 | 337 => 125 | 338 => 126 | 343 => 114 | _ => 0, fun n => match n with | 0 => 0 | 2 => 2 | 3 => 3 | 4 => 4 | 5 => 5 | 9 => 9 | 28 => 33 | 37 => 92 | 46 => 111 | 51 => 140 | 53 => 51 | 131 => 72 | 171 => 159 | 173 => 161 | 182 => 132 | 183 => 133 | 212 => 165 | 213 => 166 | 218 => 146 | 222 => 150 | 228 => 155 | 229 => 156 | 232 => 167 | 233 => 168 | _ => 0, fun n => match n with | 17 => 2 | 18 => 3 | 19 => 4 | _ => 0⟩
set_option maxRecDepth 100000 in
theorem shf125 : Tryz.prog.funcs[ren.f 125]? = some (Body.n125 ren) := by
  have h : Tryz.f68 = Body.n125 ren := by kernel_rfl
  exact h ▸ Tryz.func68
set_option maxRecDepth 100000 in
theorem shf128 : Tryz.prog.funcs[ren.f 128]? = some (Body.n128 ren) := by
  have h : Tryz.f95 = Body.n128 ren := by kernel_rfl
  exact h ▸ Tryz.func95
set_option maxRecDepth 100000 in
theorem shf129 : Tryz.prog.funcs[ren.f 129]? = some (Body.n129 ren) := by
  have h : Tryz.f96 = Body.n129 ren := by kernel_rfl
  exact h ▸ Tryz.func96
set_option maxRecDepth 100000 in
theorem shf189 : Tryz.prog.funcs[ren.f 189]? = some (Body.n189 ren) := by
  have h : Tryz.f48 = Body.n189 ren := by kernel_rfl
  exact h ▸ Tryz.func48
set_option maxRecDepth 100000 in
theorem shf215 : Tryz.prog.funcs[ren.f 215]? = some (Body.n215 ren) := by
  have h : Tryz.f108 = Body.n215 ren := by kernel_rfl
  exact h ▸ Tryz.func108
set_option maxRecDepth 100000 in
theorem shf216 : Tryz.prog.funcs[ren.f 216]? = some (Body.n216 ren) := by
  have h : Tryz.f92 = Body.n216 ren := by kernel_rfl
  exact h ▸ Tryz.func92
set_option maxRecDepth 100000 in
theorem shf257 : Tryz.prog.funcs[ren.f 257]? = some (Body.n257 ren) := by
  have h : Tryz.f67 = Body.n257 ren := by kernel_rfl
  exact h ▸ Tryz.func67
set_option maxRecDepth 100000 in
theorem shf283 : Tryz.prog.funcs[ren.f 283]? = some (Body.n283 ren) := by
  have h : Tryz.f117 = Body.n283 ren := by kernel_rfl
  exact h ▸ Tryz.func117
set_option maxRecDepth 100000 in
theorem shf285 : Tryz.prog.funcs[ren.f 285]? = some (Body.n285 ren) := by
  have h : Tryz.f119 = Body.n285 ren := by kernel_rfl
  exact h ▸ Tryz.func119
set_option maxRecDepth 100000 in
theorem shf294 : Tryz.prog.funcs[ren.f 294]? = some (Body.n294 ren) := by
  have h : Tryz.f86 = Body.n294 ren := by kernel_rfl
  exact h ▸ Tryz.func86
set_option maxRecDepth 100000 in
theorem shf295 : Tryz.prog.funcs[ren.f 295]? = some (Body.n295 ren) := by
  have h : Tryz.f87 = Body.n295 ren := by kernel_rfl
  exact h ▸ Tryz.func87
set_option maxRecDepth 100000 in
theorem shf296 : Tryz.prog.funcs[ren.f 296]? = some (Body.n296 ren) := by
  have h : Tryz.f88 = Body.n296 ren := by kernel_rfl
  exact h ▸ Tryz.func88
set_option maxRecDepth 100000 in
theorem shf297 : Tryz.prog.funcs[ren.f 297]? = some (Body.n297 ren) := by
  have h : Tryz.f89 = Body.n297 ren := by kernel_rfl
  exact h ▸ Tryz.func89
set_option maxRecDepth 100000 in
theorem shf298 : Tryz.prog.funcs[ren.f 298]? = some (Body.n298 ren) := by
  have h : Tryz.f90 = Body.n298 ren := by kernel_rfl
  exact h ▸ Tryz.func90
set_option maxRecDepth 100000 in
theorem shf299 : Tryz.prog.funcs[ren.f 299]? = some (Body.n299 ren) := by
  have h : Tryz.f91 = Body.n299 ren := by kernel_rfl
  exact h ▸ Tryz.func91
set_option maxRecDepth 100000 in
theorem shf300 : Tryz.prog.funcs[ren.f 300]? = some (Body.n300 ren) := by
  have h : Tryz.f93 = Body.n300 ren := by kernel_rfl
  exact h ▸ Tryz.func93
set_option maxRecDepth 100000 in
theorem shf301 : Tryz.prog.funcs[ren.f 301]? = some (Body.n301 ren) := by
  have h : Tryz.f94 = Body.n301 ren := by kernel_rfl
  exact h ▸ Tryz.func94
set_option maxRecDepth 100000 in
theorem shf328 : Tryz.prog.funcs[ren.f 328]? = some (Body.n328 ren) := by
  have h : Tryz.f103 = Body.n328 ren := by kernel_rfl
  exact h ▸ Tryz.func103
set_option maxRecDepth 100000 in
theorem shf329 : Tryz.prog.funcs[ren.f 329]? = some (Body.n329 ren) := by
  have h : Tryz.f104 = Body.n329 ren := by kernel_rfl
  exact h ▸ Tryz.func104
set_option maxRecDepth 100000 in
theorem shf330 : Tryz.prog.funcs[ren.f 330]? = some (Body.n330 ren) := by
  have h : Tryz.f105 = Body.n330 ren := by kernel_rfl
  exact h ▸ Tryz.func105
set_option maxRecDepth 100000 in
theorem shf331 : Tryz.prog.funcs[ren.f 331]? = some (Body.n331 ren) := by
  have h : Tryz.f106 = Body.n331 ren := by kernel_rfl
  exact h ▸ Tryz.func106
set_option maxRecDepth 100000 in
theorem shf332 : Tryz.prog.funcs[ren.f 332]? = some (Body.n332 ren) := by
  have h : Tryz.f107 = Body.n332 ren := by kernel_rfl
  exact h ▸ Tryz.func107
set_option maxRecDepth 100000 in
theorem shf343 : Tryz.prog.funcs[ren.f 343]? = some (Body.n343 ren) := by
  have h : Tryz.f114 = Body.n343 ren := by kernel_rfl
  exact h ▸ Tryz.func114
theorem shLays129 : Lays.n129 Tryz.prog ren := { mixed := by kernel_rfl, f129 := shf129, t3 := Tryz.underlying3, a3 := Tryz.isAgg3, z3 := Tryz.sizeOf3, v3 := Tryz.zeroValue3, t4 := Tryz.underlying4, a4 := Tryz.isAgg4, z4 := Tryz.sizeOf4, v4 := Tryz.zeroValue4, t5 := Tryz.underlying5, a5 := Tryz.isAgg5, z5 := Tryz.sizeOf5, v5 := Tryz.zeroValue5, t9 := Tryz.underlying9, a9 := Tryz.isAgg9, z9 := Tryz.sizeOf9, v9 := Tryz.zeroValue9, t46 := Tryz.underlying111, a46 := Tryz.isAgg111, z46 := Tryz.sizeOf111, v46 := Tryz.zeroValue111, t53 := Tryz.underlying51, a53 := Tryz.isAgg51, z53 := Tryz.sizeOf51, v53 := Tryz.zeroValue51 }
theorem shLays283 : Lays.n283 Tryz.prog ren := { mixed := by kernel_rfl, f283 := shf283, t3 := Tryz.underlying3, a3 := Tryz.isAgg3, z3 := Tryz.sizeOf3, v3 := Tryz.zeroValue3, t4 := Tryz.underlying4, a4 := Tryz.isAgg4, z4 := Tryz.sizeOf4, v4 := Tryz.zeroValue4, t9 := Tryz.underlying9, a9 := Tryz.isAgg9, z9 := Tryz.sizeOf9, v9 := Tryz.zeroValue9 }
theorem shLays285 : Lays.n285 Tryz.prog ren := { mixed := by kernel_rfl, f285 := shf285, t0 := Tryz.underlying0, a0 := Tryz.isAgg0, z0 := Tryz.sizeOf0, v0 := Tryz.zeroValue0, t3 := Tryz.underlying3, a3 := Tryz.isAgg3, z3 := Tryz.sizeOf3, v3 := Tryz.zeroValue3, t4 := Tryz.underlying4, a4 := Tryz.isAgg4, z4 := Tryz.sizeOf4, v4 := Tryz.zeroValue4, t5 := Tryz.underlying5, a5 := Tryz.isAgg5, z5 := Tryz.sizeOf5, v5 := Tryz.zeroValue5, t9 := Tryz.underlying9, a9 := Tryz.isAgg9, z9 := Tryz.sizeOf9, v9 := Tryz.zeroValue9, t37 := Tryz.underlying92, a37 := Tryz.isAgg92, z37 := Tryz.sizeOf92, v37 := Tryz.zeroValue92, t51 := Tryz.underlying140, a51 := Tryz.isAgg140, z51 := Tryz.sizeOf140, v51 := Tryz.zeroValue140, t53 := Tryz.underlying51, a53 := Tryz.isAgg51, z53 := Tryz.sizeOf51, v53 := Tryz.zeroValue51 }
theorem shLays189 : Lays.n189 Tryz.prog ren := { mixed := by kernel_rfl, f125 := shf125, f128 := shf128, f129 := shf129, f189 := shf189, f215 := shf215, f216 := shf216, f257 := shf257, f294 := shf294, f295 := shf295, f296 := shf296, f297 := shf297, f298 := shf298, f299 := shf299, f300 := shf300, f301 := shf301, f328 := shf328, f329 := shf329, f330 := shf330, f331 := shf331, f332 := shf332, f343 := shf343, t0 := Tryz.underlying0, a0 := Tryz.isAgg0, z0 := Tryz.sizeOf0, v0 := Tryz.zeroValue0, t3 := Tryz.underlying3, a3 := Tryz.isAgg3, z3 := Tryz.sizeOf3, v3 := Tryz.zeroValue3, t4 := Tryz.underlying4, a4 := Tryz.isAgg4, z4 := Tryz.sizeOf4, v4 := Tryz.zeroValue4, t5 := Tryz.underlying5, a5 := Tryz.isAgg5, z5 := Tryz.sizeOf5, v5 := Tryz.zeroValue5, t9 := Tryz.underlying9, a9 := Tryz.isAgg9, z9 := Tryz.sizeOf9, v9 := Tryz.zeroValue9, t28 := Tryz.underlying33, a28 := Tryz.isAgg33, z28 := Tryz.sizeOf33, v28 := Tryz.zeroValue33, t46 := Tryz.underlying111, a46 := Tryz.isAgg111, z46 := Tryz.sizeOf111, v46 := Tryz.zeroValue111, t51 := Tryz.underlying140, a51 := Tryz.isAgg140, z51 := Tryz.sizeOf140, v51 := Tryz.zeroValue140, t53 := Tryz.underlying51, a53 := Tryz.isAgg51, z53 := Tryz.sizeOf51, v53 := Tryz.zeroValue51, t131 := Tryz.underlying72, a131 := Tryz.isAgg72, z131 := Tryz.sizeOf72, v131 := Tryz.zeroValue72, t182 := Tryz.underlying132, a182 := Tryz.isAgg132, z182 := Tryz.sizeOf132, v182 := Tryz.zeroValue132, t183 := Tryz.underlying133, a183 := Tryz.isAgg133, z183 := Tryz.sizeOf133, v183 := Tryz.zeroValue133, t218 := Tryz.underlying146, a218 := Tryz.isAgg146, z218 := Tryz.sizeOf146, v218 := Tryz.zeroValue146, t222 := Tryz.underlying150, a222 := Tryz.isAgg150, z222 := Tryz.sizeOf150, v222 := Tryz.zeroValue150, t228 := Tryz.underlying155, a228 := Tryz.isAgg155, z228 := Tryz.sizeOf155, v228 := Tryz.zeroValue155, t229 := Tryz.underlying156, a229 := Tryz.isAgg156, z229 := Tryz.sizeOf156, v229 := Tryz.zeroValue156 }
end Go.Proofs.YtbjhondbheijiaaGreatDoor
