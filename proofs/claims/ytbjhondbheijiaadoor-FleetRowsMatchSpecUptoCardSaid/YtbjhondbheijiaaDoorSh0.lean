/- The shelf's contracts of small, numDigits and formatBase10, tied to this program. -/
import Derived.Test.YtbjhondbheijiaaDoorRows
import Derived.Shelf.Strconv.Itoa3
import Derived.Shelf.Strings.OnBuilder
namespace Go.Proofs.YtbjhondbheijiaaDoor
open Go Go.Shelf
/-- The shelf's numbers in this program. -/
def ren : Go.Shelf.Ren := ⟨fun n => match n with | 129 => 101 | 156 => 40 | 165 => 59 | 166 => 39 | 169 => 42 | 171 => 38 | 240 => 58 | 241 => 79 | 243 => 57 | 246 => 77 | 276 => 78 | 277 => 94 | 283 => 90 | 284 => 91 | 285 => 92 | 286 => 93 | 317 => 100 | 318 => 102 | 319 => 103 | 320 => 104 | 337 => 106 | 338 => 107 | _ => 0, fun n => match n with | 0 => 0 | 2 => 2 | 3 => 3 | 4 => 4 | 5 => 5 | 9 => 9 | 20 => 20 | 31 => 35 | 37 => 32 | 46 => 134 | 51 => 132 | 53 => 119 | 70 => 67 | 72 => 69 | 75 => 73 | 76 => 74 | 80 => 42 | 127 => 90 | 164 => 109 | 171 => 121 | 173 => 124 | 212 => 131 | 213 => 133 | 232 => 137 | 233 => 138 | _ => 0, fun n => match n with | 17 => 0 | 18 => 2 | 19 => 3 | _ => 0⟩
set_option maxRecDepth 100000 in
theorem shf129 : Tryd.prog.funcs[ren.f 129]? = some (Body.n129 ren) := by
  have h : Tryd.f101 = Body.n129 ren := by kernel_rfl
  exact h ▸ Tryd.func101
set_option maxRecDepth 100000 in
theorem shf156 : Tryd.prog.funcs[ren.f 156]? = some (Body.n156 ren) := by
  have h : Tryd.f40 = Body.n156 ren := by kernel_rfl
  exact h ▸ Tryd.func40
set_option maxRecDepth 100000 in
theorem shf165 : Tryd.prog.funcs[ren.f 165]? = some (Body.n165 ren) := by
  have h : Tryd.f59 = Body.n165 ren := by kernel_rfl
  exact h ▸ Tryd.func59
set_option maxRecDepth 100000 in
theorem shf166 : Tryd.prog.funcs[ren.f 166]? = some (Body.n166 ren) := by
  have h : Tryd.f39 = Body.n166 ren := by kernel_rfl
  exact h ▸ Tryd.func39
set_option maxRecDepth 100000 in
theorem shf169 : Tryd.prog.funcs[ren.f 169]? = some (Body.n169 ren) := by
  have h : Tryd.f42 = Body.n169 ren := by kernel_rfl
  exact h ▸ Tryd.func42
set_option maxRecDepth 100000 in
theorem shf171 : Tryd.prog.funcs[ren.f 171]? = some (Body.n171 ren) := by
  have h : Tryd.f38 = Body.n171 ren := by kernel_rfl
  exact h ▸ Tryd.func38
set_option maxRecDepth 100000 in
theorem shf240 : Tryd.prog.funcs[ren.f 240]? = some (Body.n240 ren) := by
  have h : Tryd.f58 = Body.n240 ren := by kernel_rfl
  exact h ▸ Tryd.func58
set_option maxRecDepth 100000 in
theorem shf241 : Tryd.prog.funcs[ren.f 241]? = some (Body.n241 ren) := by
  have h : Tryd.f79 = Body.n241 ren := by kernel_rfl
  exact h ▸ Tryd.func79
set_option maxRecDepth 100000 in
theorem shf243 : Tryd.prog.funcs[ren.f 243]? = some (Body.n243 ren) := by
  have h : Tryd.f57 = Body.n243 ren := by kernel_rfl
  exact h ▸ Tryd.func57
set_option maxRecDepth 100000 in
theorem shf246 : Tryd.prog.funcs[ren.f 246]? = some (Body.n246 ren) := by
  have h : Tryd.f77 = Body.n246 ren := by kernel_rfl
  exact h ▸ Tryd.func77
set_option maxRecDepth 100000 in
theorem shf276 : Tryd.prog.funcs[ren.f 276]? = some (Body.n276 ren) := by
  have h : Tryd.f78 = Body.n276 ren := by kernel_rfl
  exact h ▸ Tryd.func78
set_option maxRecDepth 100000 in
theorem shf277 : Tryd.prog.funcs[ren.f 277]? = some (Body.n277 ren) := by
  have h : Tryd.f94 = Body.n277 ren := by kernel_rfl
  exact h ▸ Tryd.func94
set_option maxRecDepth 100000 in
theorem shf283 : Tryd.prog.funcs[ren.f 283]? = some (Body.n283 ren) := by
  have h : Tryd.f90 = Body.n283 ren := by kernel_rfl
  exact h ▸ Tryd.func90
set_option maxRecDepth 100000 in
theorem shf284 : Tryd.prog.funcs[ren.f 284]? = some (Body.n284 ren) := by
  have h : Tryd.f91 = Body.n284 ren := by kernel_rfl
  exact h ▸ Tryd.func91
set_option maxRecDepth 100000 in
theorem shf285 : Tryd.prog.funcs[ren.f 285]? = some (Body.n285 ren) := by
  have h : Tryd.f92 = Body.n285 ren := by kernel_rfl
  exact h ▸ Tryd.func92
set_option maxRecDepth 100000 in
theorem shf286 : Tryd.prog.funcs[ren.f 286]? = some (Body.n286 ren) := by
  have h : Tryd.f93 = Body.n286 ren := by kernel_rfl
  exact h ▸ Tryd.func93
set_option maxRecDepth 100000 in
theorem shf317 : Tryd.prog.funcs[ren.f 317]? = some (Body.n317 ren) := by
  have h : Tryd.f100 = Body.n317 ren := by kernel_rfl
  exact h ▸ Tryd.func100
set_option maxRecDepth 100000 in
theorem shf318 : Tryd.prog.funcs[ren.f 318]? = some (Body.n318 ren) := by
  have h : Tryd.f102 = Body.n318 ren := by kernel_rfl
  exact h ▸ Tryd.func102
set_option maxRecDepth 100000 in
theorem shf319 : Tryd.prog.funcs[ren.f 319]? = some (Body.n319 ren) := by
  have h : Tryd.f103 = Body.n319 ren := by kernel_rfl
  exact h ▸ Tryd.func103
set_option maxRecDepth 100000 in
theorem shf320 : Tryd.prog.funcs[ren.f 320]? = some (Body.n320 ren) := by
  have h : Tryd.f104 = Body.n320 ren := by kernel_rfl
  exact h ▸ Tryd.func104
set_option maxRecDepth 100000 in
theorem shf337 : Tryd.prog.funcs[ren.f 337]? = some (Body.n337 ren) := by
  have h : Tryd.f106 = Body.n337 ren := by kernel_rfl
  exact h ▸ Tryd.func106
set_option maxRecDepth 100000 in
theorem shf338 : Tryd.prog.funcs[ren.f 338]? = some (Body.n338 ren) := by
  have h : Tryd.f107 = Body.n338 ren := by kernel_rfl
  exact h ▸ Tryd.func107
theorem shLays129 : Lays.n129 Tryd.prog ren := { mixed := by kernel_rfl, f129 := shf129, t3 := Tryd.underlying3, a3 := Tryd.isAgg3, z3 := Tryd.sizeOf3, v3 := Tryd.zeroValue3, t4 := Tryd.underlying4, a4 := Tryd.isAgg4, z4 := Tryd.sizeOf4, v4 := Tryd.zeroValue4, t5 := Tryd.underlying5, a5 := Tryd.isAgg5, z5 := Tryd.sizeOf5, v5 := Tryd.zeroValue5, t9 := Tryd.underlying9, a9 := Tryd.isAgg9, z9 := Tryd.sizeOf9, v9 := Tryd.zeroValue9, t46 := Tryd.underlying134, a46 := Tryd.isAgg134, z46 := Tryd.sizeOf134, v46 := Tryd.zeroValue134, t53 := Tryd.underlying119, a53 := Tryd.isAgg119, z53 := Tryd.sizeOf119, v53 := Tryd.zeroValue119 }
theorem shLays283 : Lays.n283 Tryd.prog ren := { mixed := by kernel_rfl, f283 := shf283, t3 := Tryd.underlying3, a3 := Tryd.isAgg3, z3 := Tryd.sizeOf3, v3 := Tryd.zeroValue3, t4 := Tryd.underlying4, a4 := Tryd.isAgg4, z4 := Tryd.sizeOf4, v4 := Tryd.zeroValue4, t9 := Tryd.underlying9, a9 := Tryd.isAgg9, z9 := Tryd.sizeOf9, v9 := Tryd.zeroValue9 }
theorem shLaysM284 : LaysM.n284 Tryd.prog ren := { mixed := by kernel_rfl, f129 := shf129, f284 := shf284, f317 := shf317, f318 := shf318, t0 := Tryd.underlying0, a0 := Tryd.isAgg0, z0 := Tryd.sizeOf0, v0 := Tryd.zeroValue0, t3 := Tryd.underlying3, a3 := Tryd.isAgg3, z3 := Tryd.sizeOf3, v3 := Tryd.zeroValue3, t4 := Tryd.underlying4, a4 := Tryd.isAgg4, z4 := Tryd.sizeOf4, v4 := Tryd.zeroValue4, t5 := Tryd.underlying5, a5 := Tryd.isAgg5, z5 := Tryd.sizeOf5, v5 := Tryd.zeroValue5, t9 := Tryd.underlying9, a9 := Tryd.isAgg9, z9 := Tryd.sizeOf9, v9 := Tryd.zeroValue9, t46 := Tryd.underlying134, a46 := Tryd.isAgg134, z46 := Tryd.sizeOf134, v46 := Tryd.zeroValue134, t53 := Tryd.underlying119, a53 := Tryd.isAgg119, z53 := Tryd.sizeOf119, v53 := Tryd.zeroValue119, t212 := Tryd.underlying131, a212 := Tryd.isAgg131, z212 := Tryd.sizeOf131, v212 := Tryd.zeroValue131, g17 := by kernel_rfl, i0 := by kernel_rfl, i3 := by kernel_rfl, i4 := by kernel_rfl, i5 := by kernel_rfl, i9 := by kernel_rfl, i46 := by kernel_rfl, i53 := by kernel_rfl, i212 := by kernel_rfl, m17 := by kernel_rfl }
theorem shLays285 : Lays.n285 Tryd.prog ren := { mixed := by kernel_rfl, f285 := shf285, t0 := Tryd.underlying0, a0 := Tryd.isAgg0, z0 := Tryd.sizeOf0, v0 := Tryd.zeroValue0, t3 := Tryd.underlying3, a3 := Tryd.isAgg3, z3 := Tryd.sizeOf3, v3 := Tryd.zeroValue3, t4 := Tryd.underlying4, a4 := Tryd.isAgg4, z4 := Tryd.sizeOf4, v4 := Tryd.zeroValue4, t5 := Tryd.underlying5, a5 := Tryd.isAgg5, z5 := Tryd.sizeOf5, v5 := Tryd.zeroValue5, t9 := Tryd.underlying9, a9 := Tryd.isAgg9, z9 := Tryd.sizeOf9, v9 := Tryd.zeroValue9, t37 := Tryd.underlying32, a37 := Tryd.isAgg32, z37 := Tryd.sizeOf32, v37 := Tryd.zeroValue32, t51 := Tryd.underlying132, a51 := Tryd.isAgg132, z51 := Tryd.sizeOf132, v51 := Tryd.zeroValue132, t53 := Tryd.underlying119, a53 := Tryd.isAgg119, z53 := Tryd.sizeOf119, v53 := Tryd.zeroValue119 }
theorem shLaysM171 : LaysM.n171 Tryd.prog ren := { mixed := by kernel_rfl, f129 := shf129, f171 := shf171, f243 := shf243, f246 := shf246, f283 := shf283, f284 := shf284, f285 := shf285, f286 := shf286, f317 := shf317, f318 := shf318, f319 := shf319, f320 := shf320, f337 := shf337, f338 := shf338, t0 := Tryd.underlying0, a0 := Tryd.isAgg0, z0 := Tryd.sizeOf0, v0 := Tryd.zeroValue0, t2 := Tryd.underlying2, a2 := Tryd.isAgg2, z2 := Tryd.sizeOf2, v2 := Tryd.zeroValue2, t3 := Tryd.underlying3, a3 := Tryd.isAgg3, z3 := Tryd.sizeOf3, v3 := Tryd.zeroValue3, t4 := Tryd.underlying4, a4 := Tryd.isAgg4, z4 := Tryd.sizeOf4, v4 := Tryd.zeroValue4, t5 := Tryd.underlying5, a5 := Tryd.isAgg5, z5 := Tryd.sizeOf5, v5 := Tryd.zeroValue5, t9 := Tryd.underlying9, a9 := Tryd.isAgg9, z9 := Tryd.sizeOf9, v9 := Tryd.zeroValue9, t20 := Tryd.underlying20, a20 := Tryd.isAgg20, z20 := Tryd.sizeOf20, v20 := Tryd.zeroValue20, t37 := Tryd.underlying32, a37 := Tryd.isAgg32, z37 := Tryd.sizeOf32, v37 := Tryd.zeroValue32, t46 := Tryd.underlying134, a46 := Tryd.isAgg134, z46 := Tryd.sizeOf134, v46 := Tryd.zeroValue134, t51 := Tryd.underlying132, a51 := Tryd.isAgg132, z51 := Tryd.sizeOf132, v51 := Tryd.zeroValue132, t53 := Tryd.underlying119, a53 := Tryd.isAgg119, z53 := Tryd.sizeOf119, v53 := Tryd.zeroValue119, t171 := Tryd.underlying121, a171 := Tryd.isAgg121, z171 := Tryd.sizeOf121, v171 := Tryd.zeroValue121, t173 := Tryd.underlying124, a173 := Tryd.isAgg124, z173 := Tryd.sizeOf124, v173 := Tryd.zeroValue124, t212 := Tryd.underlying131, a212 := Tryd.isAgg131, z212 := Tryd.sizeOf131, v212 := Tryd.zeroValue131, t213 := Tryd.underlying133, a213 := Tryd.isAgg133, z213 := Tryd.sizeOf133, t232 := Tryd.underlying137, a232 := Tryd.isAgg137, z232 := Tryd.sizeOf137, v232 := Tryd.zeroValue137, t233 := Tryd.underlying138, a233 := Tryd.isAgg138, z233 := Tryd.sizeOf138, v233 := Tryd.zeroValue138, g17 := by kernel_rfl, g18 := by kernel_rfl, g19 := by kernel_rfl, i0 := by kernel_rfl, i2 := by kernel_rfl, i3 := by kernel_rfl, i4 := by kernel_rfl, i5 := by kernel_rfl, i9 := by kernel_rfl, i20 := by kernel_rfl, i37 := by kernel_rfl, i46 := by kernel_rfl, i51 := by kernel_rfl, i53 := by kernel_rfl, i171 := by kernel_rfl, i173 := by kernel_rfl, i212 := by kernel_rfl, i232 := by kernel_rfl, i233 := by kernel_rfl, m17 := by kernel_rfl, m18 := by kernel_rfl, m19 := by kernel_rfl }
theorem shLays156 : Lays.n156 Tryd.prog ren := { mixed := by kernel_rfl, f156 := shf156, f165 := shf165, f166 := shf166, f169 := shf169, f240 := shf240, f241 := shf241, f276 := shf276, f277 := shf277, t0 := Tryd.underlying0, a0 := Tryd.isAgg0, z0 := Tryd.sizeOf0, v0 := Tryd.zeroValue0, t3 := Tryd.underlying3, a3 := Tryd.isAgg3, z3 := Tryd.sizeOf3, v3 := Tryd.zeroValue3, t4 := Tryd.underlying4, a4 := Tryd.isAgg4, z4 := Tryd.sizeOf4, v4 := Tryd.zeroValue4, t9 := Tryd.underlying9, a9 := Tryd.isAgg9, z9 := Tryd.sizeOf9, v9 := Tryd.zeroValue9, t20 := Tryd.underlying20, a20 := Tryd.isAgg20, z20 := Tryd.sizeOf20, v20 := Tryd.zeroValue20, t31 := Tryd.underlying35, a31 := Tryd.isAgg35, z31 := Tryd.sizeOf35, v31 := Tryd.zeroValue35, t37 := Tryd.underlying32, a37 := Tryd.isAgg32, z37 := Tryd.sizeOf32, v37 := Tryd.zeroValue32, t70 := Tryd.underlying67, a70 := Tryd.isAgg67, z70 := Tryd.sizeOf67, v70 := Tryd.zeroValue67, t72 := Tryd.underlying69, a72 := Tryd.isAgg69, z72 := Tryd.sizeOf69, v72 := Tryd.zeroValue69, t75 := Tryd.underlying73, a75 := Tryd.isAgg73, z75 := Tryd.sizeOf73, v75 := Tryd.zeroValue73, t76 := Tryd.underlying74, a76 := Tryd.isAgg74, z76 := Tryd.sizeOf74, v76 := Tryd.zeroValue74, t127 := Tryd.underlying90, a127 := Tryd.isAgg90, z127 := Tryd.sizeOf90, v127 := Tryd.zeroValue90, t164 := Tryd.underlying109, a164 := Tryd.isAgg109, z164 := Tryd.sizeOf109, v164 := Tryd.zeroValue109 }
theorem shLays169 : Lays.n169 Tryd.prog ren := { mixed := by kernel_rfl, f169 := shf169, t0 := Tryd.underlying0, a0 := Tryd.isAgg0, z0 := Tryd.sizeOf0, v0 := Tryd.zeroValue0, t3 := Tryd.underlying3, a3 := Tryd.isAgg3, z3 := Tryd.sizeOf3, v3 := Tryd.zeroValue3, t9 := Tryd.underlying9, a9 := Tryd.isAgg9, z9 := Tryd.sizeOf9, v9 := Tryd.zeroValue9, t37 := Tryd.underlying32, a37 := Tryd.isAgg32, z37 := Tryd.sizeOf32, v37 := Tryd.zeroValue32, t70 := Tryd.underlying67, a70 := Tryd.isAgg67, z70 := Tryd.sizeOf67, v70 := Tryd.zeroValue67, t72 := Tryd.underlying69, a72 := Tryd.isAgg69, z72 := Tryd.sizeOf69, v72 := Tryd.zeroValue69, t127 := Tryd.underlying90, a127 := Tryd.isAgg90, z127 := Tryd.sizeOf90, v127 := Tryd.zeroValue90 }
theorem shLays240 : Lays.n240 Tryd.prog ren := { mixed := by kernel_rfl, f240 := shf240, f276 := shf276, t0 := Tryd.underlying0, a0 := Tryd.isAgg0, z0 := Tryd.sizeOf0, v0 := Tryd.zeroValue0, t4 := Tryd.underlying4, a4 := Tryd.isAgg4, z4 := Tryd.sizeOf4, v4 := Tryd.zeroValue4, t9 := Tryd.underlying9, a9 := Tryd.isAgg9, z9 := Tryd.sizeOf9, v9 := Tryd.zeroValue9, t20 := Tryd.underlying20, a20 := Tryd.isAgg20, z20 := Tryd.sizeOf20, v20 := Tryd.zeroValue20, t70 := Tryd.underlying67, a70 := Tryd.isAgg67, z70 := Tryd.sizeOf67, v70 := Tryd.zeroValue67, t72 := Tryd.underlying69, a72 := Tryd.isAgg69, z72 := Tryd.sizeOf69, v72 := Tryd.zeroValue69, t164 := Tryd.underlying109, a164 := Tryd.isAgg109, z164 := Tryd.sizeOf109, v164 := Tryd.zeroValue109 }
theorem shX : Go.Proofs.Builder.Extra Tryd.prog ren := { sizeBuilder := by kernel_rfl, liesBuilder := by kernel_rfl, t5 := Tryd.underlying5, a5 := Tryd.isAgg5, z5 := Tryd.sizeOf5, v5 := Tryd.zeroValue5, infoByte := by kernel_rfl, cellsByte := by kernel_rfl, sizeByte := by kernel_rfl, neB5 := by decide }
end Go.Proofs.YtbjhondbheijiaaDoor
