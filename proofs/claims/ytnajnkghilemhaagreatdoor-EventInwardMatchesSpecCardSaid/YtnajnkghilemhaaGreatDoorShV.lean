/- The shelf's contracts of Go's library, tied to this program. -/
import Derived.Test.YtnajnkghilemhaaGreatDoorRows
import Derived.Shelf.Strconv.Itoa3
import Derived.Shelf.Strings.OnBuilder
import Derived.Shelf.LaysC
namespace Go.Proofs.YtnajnkghilemhaaGreatDoor
open Go Go.Shelf
def ren : Go.Shelf.Ren := ⟨fun n => match n with | 129 => 220 | 156 => 156 | 165 => 188 | 166 => 50 | 169 => 53 | 171 => 102 | 172 => 175 | 205 => 242 | 240 => 101 | 241 => 208 | 243 => 155 | 244 => 203 | 245 => 204 | 246 => 187 | 247 => 227 | 276 => 154 | 277 => 232 | 279 => 228 | 280 => 229 | 281 => 230 | 282 => 231 | 283 => 198 | 284 => 199 | 285 => 200 | 286 => 201 | 287 => 240 | 316 => 241 | 317 => 222 | 318 => 223 | 319 => 224 | 320 => 225 | 321 => 244 | 322 => 245 | 337 => 238 | 338 => 239 | _ => 0, fun n => match n with | 0 => 0 | 2 => 2 | 3 => 3 | 4 => 4 | 5 => 5 | 9 => 9 | 20 => 20 | 21 => 21 | 31 => 22 | 37 => 77 | 46 => 136 | 51 => 283 | 53 => 251 | 70 => 109 | 72 => 111 | 75 => 113 | 76 => 114 | 80 => 83 | 85 => 288 | 127 => 157 | 143 => 311 | 145 => 313 | 164 => 207 | 167 => 287 | 168 => 290 | 171 => 266 | 173 => 269 | 175 => 299 | 210 => 303 | 212 => 285 | 213 => 286 | 232 => 308 | 233 => 309 | _ => 0, fun n => match n with | 15 => 4 | 16 => 5 | 17 => 3 | 18 => 6 | 19 => 7 | _ => 0⟩
set_option maxRecDepth 100000 in
theorem shf129 : Tryz.prog.funcs[ren.f 129]? = some (Body.n129 ren) := by
  have h : Tryz.f220 = Body.n129 ren := by kernel_rfl
  exact h ▸ Tryz.func220
set_option maxRecDepth 100000 in
theorem shf156 : Tryz.prog.funcs[ren.f 156]? = some (Body.n156 ren) := by
  have h : Tryz.f156 = Body.n156 ren := by kernel_rfl
  exact h ▸ Tryz.func156
set_option maxRecDepth 100000 in
theorem shf165 : Tryz.prog.funcs[ren.f 165]? = some (Body.n165 ren) := by
  have h : Tryz.f188 = Body.n165 ren := by kernel_rfl
  exact h ▸ Tryz.func188
set_option maxRecDepth 100000 in
theorem shf166 : Tryz.prog.funcs[ren.f 166]? = some (Body.n166 ren) := by
  have h : Tryz.f50 = Body.n166 ren := by kernel_rfl
  exact h ▸ Tryz.func50
set_option maxRecDepth 100000 in
theorem shf169 : Tryz.prog.funcs[ren.f 169]? = some (Body.n169 ren) := by
  have h : Tryz.f53 = Body.n169 ren := by kernel_rfl
  exact h ▸ Tryz.func53
set_option maxRecDepth 100000 in
theorem shf171 : Tryz.prog.funcs[ren.f 171]? = some (Body.n171 ren) := by
  have h : Tryz.f102 = Body.n171 ren := by kernel_rfl
  exact h ▸ Tryz.func102
set_option maxRecDepth 100000 in
theorem shf172 : Tryz.prog.funcs[ren.f 172]? = some (Body.n172 ren) := by
  have h : Tryz.f175 = Body.n172 ren := by kernel_rfl
  exact h ▸ Tryz.func175
set_option maxRecDepth 100000 in
theorem shf205 : Tryz.prog.funcs[ren.f 205]? = some (Body.n205 ren) := by
  have h : Tryz.f242 = Body.n205 ren := by kernel_rfl
  exact h ▸ Tryz.func242
set_option maxRecDepth 100000 in
theorem shf240 : Tryz.prog.funcs[ren.f 240]? = some (Body.n240 ren) := by
  have h : Tryz.f101 = Body.n240 ren := by kernel_rfl
  exact h ▸ Tryz.func101
set_option maxRecDepth 100000 in
theorem shf241 : Tryz.prog.funcs[ren.f 241]? = some (Body.n241 ren) := by
  have h : Tryz.f208 = Body.n241 ren := by kernel_rfl
  exact h ▸ Tryz.func208
set_option maxRecDepth 100000 in
theorem shf243 : Tryz.prog.funcs[ren.f 243]? = some (Body.n243 ren) := by
  have h : Tryz.f155 = Body.n243 ren := by kernel_rfl
  exact h ▸ Tryz.func155
set_option maxRecDepth 100000 in
theorem shf244 : Tryz.prog.funcs[ren.f 244]? = some (Body.n244 ren) := by
  have h : Tryz.f203 = Body.n244 ren := by kernel_rfl
  exact h ▸ Tryz.func203
set_option maxRecDepth 100000 in
theorem shf245 : Tryz.prog.funcs[ren.f 245]? = some (Body.n245 ren) := by
  have h : Tryz.f204 = Body.n245 ren := by kernel_rfl
  exact h ▸ Tryz.func204
set_option maxRecDepth 100000 in
theorem shf246 : Tryz.prog.funcs[ren.f 246]? = some (Body.n246 ren) := by
  have h : Tryz.f187 = Body.n246 ren := by kernel_rfl
  exact h ▸ Tryz.func187
set_option maxRecDepth 100000 in
theorem shf247 : Tryz.prog.funcs[ren.f 247]? = some (Body.n247 ren) := by
  have h : Tryz.f227 = Body.n247 ren := by kernel_rfl
  exact h ▸ Tryz.func227
set_option maxRecDepth 100000 in
theorem shf276 : Tryz.prog.funcs[ren.f 276]? = some (Body.n276 ren) := by
  have h : Tryz.f154 = Body.n276 ren := by kernel_rfl
  exact h ▸ Tryz.func154
set_option maxRecDepth 100000 in
theorem shf277 : Tryz.prog.funcs[ren.f 277]? = some (Body.n277 ren) := by
  have h : Tryz.f232 = Body.n277 ren := by kernel_rfl
  exact h ▸ Tryz.func232
set_option maxRecDepth 100000 in
theorem shf279 : Tryz.prog.funcs[ren.f 279]? = some (Body.n279 ren) := by
  have h : Tryz.f228 = Body.n279 ren := by kernel_rfl
  exact h ▸ Tryz.func228
set_option maxRecDepth 100000 in
theorem shf280 : Tryz.prog.funcs[ren.f 280]? = some (Body.n280 ren) := by
  have h : Tryz.f229 = Body.n280 ren := by kernel_rfl
  exact h ▸ Tryz.func229
set_option maxRecDepth 100000 in
theorem shf281 : Tryz.prog.funcs[ren.f 281]? = some (Body.n281 ren) := by
  have h : Tryz.f230 = Body.n281 ren := by kernel_rfl
  exact h ▸ Tryz.func230
set_option maxRecDepth 100000 in
theorem shf282 : Tryz.prog.funcs[ren.f 282]? = some (Body.n282 ren) := by
  have h : Tryz.f231 = Body.n282 ren := by kernel_rfl
  exact h ▸ Tryz.func231
set_option maxRecDepth 100000 in
theorem shf283 : Tryz.prog.funcs[ren.f 283]? = some (Body.n283 ren) := by
  have h : Tryz.f198 = Body.n283 ren := by kernel_rfl
  exact h ▸ Tryz.func198
set_option maxRecDepth 100000 in
theorem shf284 : Tryz.prog.funcs[ren.f 284]? = some (Body.n284 ren) := by
  have h : Tryz.f199 = Body.n284 ren := by kernel_rfl
  exact h ▸ Tryz.func199
set_option maxRecDepth 100000 in
theorem shf285 : Tryz.prog.funcs[ren.f 285]? = some (Body.n285 ren) := by
  have h : Tryz.f200 = Body.n285 ren := by kernel_rfl
  exact h ▸ Tryz.func200
set_option maxRecDepth 100000 in
theorem shf286 : Tryz.prog.funcs[ren.f 286]? = some (Body.n286 ren) := by
  have h : Tryz.f201 = Body.n286 ren := by kernel_rfl
  exact h ▸ Tryz.func201
set_option maxRecDepth 100000 in
theorem shf287 : Tryz.prog.funcs[ren.f 287]? = some (Body.n287 ren) := by
  have h : Tryz.f240 = Body.n287 ren := by kernel_rfl
  exact h ▸ Tryz.func240
set_option maxRecDepth 100000 in
theorem shf316 : Tryz.prog.funcs[ren.f 316]? = some (Body.n316 ren) := by
  have h : Tryz.f241 = Body.n316 ren := by kernel_rfl
  exact h ▸ Tryz.func241
set_option maxRecDepth 100000 in
theorem shf317 : Tryz.prog.funcs[ren.f 317]? = some (Body.n317 ren) := by
  have h : Tryz.f222 = Body.n317 ren := by kernel_rfl
  exact h ▸ Tryz.func222
set_option maxRecDepth 100000 in
theorem shf318 : Tryz.prog.funcs[ren.f 318]? = some (Body.n318 ren) := by
  have h : Tryz.f223 = Body.n318 ren := by kernel_rfl
  exact h ▸ Tryz.func223
set_option maxRecDepth 100000 in
theorem shf319 : Tryz.prog.funcs[ren.f 319]? = some (Body.n319 ren) := by
  have h : Tryz.f224 = Body.n319 ren := by kernel_rfl
  exact h ▸ Tryz.func224
set_option maxRecDepth 100000 in
theorem shf320 : Tryz.prog.funcs[ren.f 320]? = some (Body.n320 ren) := by
  have h : Tryz.f225 = Body.n320 ren := by kernel_rfl
  exact h ▸ Tryz.func225
set_option maxRecDepth 100000 in
theorem shf321 : Tryz.prog.funcs[ren.f 321]? = some (Body.n321 ren) := by
  have h : Tryz.f244 = Body.n321 ren := by kernel_rfl
  exact h ▸ Tryz.func244
set_option maxRecDepth 100000 in
theorem shf322 : Tryz.prog.funcs[ren.f 322]? = some (Body.n322 ren) := by
  have h : Tryz.f245 = Body.n322 ren := by kernel_rfl
  exact h ▸ Tryz.func245
set_option maxRecDepth 100000 in
theorem shf337 : Tryz.prog.funcs[ren.f 337]? = some (Body.n337 ren) := by
  have h : Tryz.f238 = Body.n337 ren := by kernel_rfl
  exact h ▸ Tryz.func238
set_option maxRecDepth 100000 in
theorem shf338 : Tryz.prog.funcs[ren.f 338]? = some (Body.n338 ren) := by
  have h : Tryz.f239 = Body.n338 ren := by kernel_rfl
  exact h ▸ Tryz.func239
theorem shLays129 : Lays.n129 Tryz.prog ren := { mixed := by kernel_rfl, f129 := shf129, t3 := Tryz.underlying3, a3 := Tryz.isAgg3, z3 := Tryz.sizeOf3, v3 := Tryz.zeroValue3, t4 := Tryz.underlying4, a4 := Tryz.isAgg4, z4 := Tryz.sizeOf4, v4 := Tryz.zeroValue4, t5 := Tryz.underlying5, a5 := Tryz.isAgg5, z5 := Tryz.sizeOf5, v5 := Tryz.zeroValue5, t9 := Tryz.underlying9, a9 := Tryz.isAgg9, z9 := Tryz.sizeOf9, v9 := Tryz.zeroValue9, t46 := Tryz.underlying136, a46 := Tryz.isAgg136, z46 := Tryz.sizeOf136, v46 := Tryz.zeroValue136, t53 := Tryz.underlying251, a53 := Tryz.isAgg251, z53 := Tryz.sizeOf251, v53 := Tryz.zeroValue251 }
theorem shLays283 : Lays.n283 Tryz.prog ren := { mixed := by kernel_rfl, f283 := shf283, t3 := Tryz.underlying3, a3 := Tryz.isAgg3, z3 := Tryz.sizeOf3, v3 := Tryz.zeroValue3, t4 := Tryz.underlying4, a4 := Tryz.isAgg4, z4 := Tryz.sizeOf4, v4 := Tryz.zeroValue4, t9 := Tryz.underlying9, a9 := Tryz.isAgg9, z9 := Tryz.sizeOf9, v9 := Tryz.zeroValue9 }
theorem shLays285 : Lays.n285 Tryz.prog ren := { mixed := by kernel_rfl, f285 := shf285, t0 := Tryz.underlying0, a0 := Tryz.isAgg0, z0 := Tryz.sizeOf0, v0 := Tryz.zeroValue0, t3 := Tryz.underlying3, a3 := Tryz.isAgg3, z3 := Tryz.sizeOf3, v3 := Tryz.zeroValue3, t4 := Tryz.underlying4, a4 := Tryz.isAgg4, z4 := Tryz.sizeOf4, v4 := Tryz.zeroValue4, t5 := Tryz.underlying5, a5 := Tryz.isAgg5, z5 := Tryz.sizeOf5, v5 := Tryz.zeroValue5, t9 := Tryz.underlying9, a9 := Tryz.isAgg9, z9 := Tryz.sizeOf9, v9 := Tryz.zeroValue9, t37 := Tryz.underlying77, a37 := Tryz.isAgg77, z37 := Tryz.sizeOf77, v37 := Tryz.zeroValue77, t51 := Tryz.underlying283, a51 := Tryz.isAgg283, z51 := Tryz.sizeOf283, v51 := Tryz.zeroValue283, t53 := Tryz.underlying251, a53 := Tryz.isAgg251, z53 := Tryz.sizeOf251, v53 := Tryz.zeroValue251 }
theorem shLaysM171 : LaysM.n171 Tryz.prog ren := { mixed := by kernel_rfl, f129 := shf129, f171 := shf171, f243 := shf243, f246 := shf246, f283 := shf283, f284 := shf284, f285 := shf285, f286 := shf286, f317 := shf317, f318 := shf318, f319 := shf319, f320 := shf320, f337 := shf337, f338 := shf338, t0 := Tryz.underlying0, a0 := Tryz.isAgg0, z0 := Tryz.sizeOf0, v0 := Tryz.zeroValue0, t2 := Tryz.underlying2, a2 := Tryz.isAgg2, z2 := Tryz.sizeOf2, v2 := Tryz.zeroValue2, t3 := Tryz.underlying3, a3 := Tryz.isAgg3, z3 := Tryz.sizeOf3, v3 := Tryz.zeroValue3, t4 := Tryz.underlying4, a4 := Tryz.isAgg4, z4 := Tryz.sizeOf4, v4 := Tryz.zeroValue4, t5 := Tryz.underlying5, a5 := Tryz.isAgg5, z5 := Tryz.sizeOf5, v5 := Tryz.zeroValue5, t9 := Tryz.underlying9, a9 := Tryz.isAgg9, z9 := Tryz.sizeOf9, v9 := Tryz.zeroValue9, t20 := Tryz.underlying20, a20 := Tryz.isAgg20, z20 := Tryz.sizeOf20, v20 := Tryz.zeroValue20, t37 := Tryz.underlying77, a37 := Tryz.isAgg77, z37 := Tryz.sizeOf77, v37 := Tryz.zeroValue77, t46 := Tryz.underlying136, a46 := Tryz.isAgg136, z46 := Tryz.sizeOf136, v46 := Tryz.zeroValue136, t51 := Tryz.underlying283, a51 := Tryz.isAgg283, z51 := Tryz.sizeOf283, v51 := Tryz.zeroValue283, t53 := Tryz.underlying251, a53 := Tryz.isAgg251, z53 := Tryz.sizeOf251, v53 := Tryz.zeroValue251, t171 := Tryz.underlying266, a171 := Tryz.isAgg266, z171 := Tryz.sizeOf266, v171 := Tryz.zeroValue266, t173 := Tryz.underlying269, a173 := Tryz.isAgg269, z173 := Tryz.sizeOf269, v173 := Tryz.zeroValue269, t212 := Tryz.underlying285, a212 := Tryz.isAgg285, z212 := Tryz.sizeOf285, v212 := Tryz.zeroValue285, t213 := Tryz.underlying286, a213 := Tryz.isAgg286, z213 := Tryz.sizeOf286, t232 := Tryz.underlying308, a232 := Tryz.isAgg308, z232 := Tryz.sizeOf308, v232 := Tryz.zeroValue308, t233 := Tryz.underlying309, a233 := Tryz.isAgg309, z233 := Tryz.sizeOf309, v233 := Tryz.zeroValue309, g17 := by kernel_rfl, g18 := by kernel_rfl, g19 := by kernel_rfl, i0 := by kernel_rfl, i2 := by kernel_rfl, i3 := by kernel_rfl, i4 := by kernel_rfl, i5 := by kernel_rfl, i9 := by kernel_rfl, i20 := by kernel_rfl, i37 := by kernel_rfl, i46 := by kernel_rfl, i51 := by kernel_rfl, i53 := by kernel_rfl, i171 := by kernel_rfl, i173 := by kernel_rfl, i212 := by kernel_rfl, i232 := by kernel_rfl, i233 := by kernel_rfl, m17 := by kernel_rfl, m18 := by kernel_rfl, m19 := by kernel_rfl }
theorem shLays156 : Lays.n156 Tryz.prog ren := { mixed := by kernel_rfl, f156 := shf156, f165 := shf165, f166 := shf166, f169 := shf169, f240 := shf240, f241 := shf241, f276 := shf276, f277 := shf277, t0 := Tryz.underlying0, a0 := Tryz.isAgg0, z0 := Tryz.sizeOf0, v0 := Tryz.zeroValue0, t3 := Tryz.underlying3, a3 := Tryz.isAgg3, z3 := Tryz.sizeOf3, v3 := Tryz.zeroValue3, t4 := Tryz.underlying4, a4 := Tryz.isAgg4, z4 := Tryz.sizeOf4, v4 := Tryz.zeroValue4, t9 := Tryz.underlying9, a9 := Tryz.isAgg9, z9 := Tryz.sizeOf9, v9 := Tryz.zeroValue9, t20 := Tryz.underlying20, a20 := Tryz.isAgg20, z20 := Tryz.sizeOf20, v20 := Tryz.zeroValue20, t31 := Tryz.underlying22, a31 := Tryz.isAgg22, z31 := Tryz.sizeOf22, v31 := Tryz.zeroValue22, t37 := Tryz.underlying77, a37 := Tryz.isAgg77, z37 := Tryz.sizeOf77, v37 := Tryz.zeroValue77, t70 := Tryz.underlying109, a70 := Tryz.isAgg109, z70 := Tryz.sizeOf109, v70 := Tryz.zeroValue109, t72 := Tryz.underlying111, a72 := Tryz.isAgg111, z72 := Tryz.sizeOf111, v72 := Tryz.zeroValue111, t75 := Tryz.underlying113, a75 := Tryz.isAgg113, z75 := Tryz.sizeOf113, v75 := Tryz.zeroValue113, t76 := Tryz.underlying114, a76 := Tryz.isAgg114, z76 := Tryz.sizeOf114, v76 := Tryz.zeroValue114, t127 := Tryz.underlying157, a127 := Tryz.isAgg157, z127 := Tryz.sizeOf157, v127 := Tryz.zeroValue157, t164 := Tryz.underlying207, a164 := Tryz.isAgg207, z164 := Tryz.sizeOf207, v164 := Tryz.zeroValue207 }
theorem shLays169 : Lays.n169 Tryz.prog ren := { mixed := by kernel_rfl, f169 := shf169, t0 := Tryz.underlying0, a0 := Tryz.isAgg0, z0 := Tryz.sizeOf0, v0 := Tryz.zeroValue0, t3 := Tryz.underlying3, a3 := Tryz.isAgg3, z3 := Tryz.sizeOf3, v3 := Tryz.zeroValue3, t9 := Tryz.underlying9, a9 := Tryz.isAgg9, z9 := Tryz.sizeOf9, v9 := Tryz.zeroValue9, t37 := Tryz.underlying77, a37 := Tryz.isAgg77, z37 := Tryz.sizeOf77, v37 := Tryz.zeroValue77, t70 := Tryz.underlying109, a70 := Tryz.isAgg109, z70 := Tryz.sizeOf109, v70 := Tryz.zeroValue109, t72 := Tryz.underlying111, a72 := Tryz.isAgg111, z72 := Tryz.sizeOf111, v72 := Tryz.zeroValue111, t127 := Tryz.underlying157, a127 := Tryz.isAgg157, z127 := Tryz.sizeOf157, v127 := Tryz.zeroValue157 }
theorem shLays240 : Lays.n240 Tryz.prog ren := { mixed := by kernel_rfl, f240 := shf240, f276 := shf276, t0 := Tryz.underlying0, a0 := Tryz.isAgg0, z0 := Tryz.sizeOf0, v0 := Tryz.zeroValue0, t4 := Tryz.underlying4, a4 := Tryz.isAgg4, z4 := Tryz.sizeOf4, v4 := Tryz.zeroValue4, t9 := Tryz.underlying9, a9 := Tryz.isAgg9, z9 := Tryz.sizeOf9, v9 := Tryz.zeroValue9, t20 := Tryz.underlying20, a20 := Tryz.isAgg20, z20 := Tryz.sizeOf20, v20 := Tryz.zeroValue20, t70 := Tryz.underlying109, a70 := Tryz.isAgg109, z70 := Tryz.sizeOf109, v70 := Tryz.zeroValue109, t72 := Tryz.underlying111, a72 := Tryz.isAgg111, z72 := Tryz.sizeOf111, v72 := Tryz.zeroValue111, t164 := Tryz.underlying207, a164 := Tryz.isAgg207, z164 := Tryz.sizeOf207, v164 := Tryz.zeroValue207 }
theorem shLaysC172 : LaysC.n172 Tryz.prog ren := { mixed := by kernel_rfl, f129 := shf129, f171 := shf171, f172 := shf172, f205 := shf205, f243 := shf243, f244 := shf244, f245 := shf245, f246 := shf246, f247 := shf247, f279 := shf279, f280 := shf280, f281 := shf281, f282 := shf282, f283 := shf283, f284 := shf284, f285 := shf285, f286 := shf286, f287 := shf287, f316 := shf316, f317 := shf317, f318 := shf318, f319 := shf319, f320 := shf320, f321 := shf321, f322 := shf322, f337 := shf337, f338 := shf338, t0 := Tryz.underlying0, a0 := Tryz.isAgg0, z0 := Tryz.sizeOf0, v0 := Tryz.zeroValue0, t2 := Tryz.underlying2, a2 := Tryz.isAgg2, z2 := Tryz.sizeOf2, v2 := Tryz.zeroValue2, t3 := Tryz.underlying3, a3 := Tryz.isAgg3, z3 := Tryz.sizeOf3, v3 := Tryz.zeroValue3, t4 := Tryz.underlying4, a4 := Tryz.isAgg4, z4 := Tryz.sizeOf4, v4 := Tryz.zeroValue4, t5 := Tryz.underlying5, a5 := Tryz.isAgg5, z5 := Tryz.sizeOf5, v5 := Tryz.zeroValue5, t9 := Tryz.underlying9, a9 := Tryz.isAgg9, z9 := Tryz.sizeOf9, v9 := Tryz.zeroValue9, t20 := Tryz.underlying20, a20 := Tryz.isAgg20, z20 := Tryz.sizeOf20, v20 := Tryz.zeroValue20, t21 := Tryz.underlying21, a21 := Tryz.isAgg21, z21 := Tryz.sizeOf21, v21 := Tryz.zeroValue21, t37 := Tryz.underlying77, a37 := Tryz.isAgg77, z37 := Tryz.sizeOf77, v37 := Tryz.zeroValue77, t46 := Tryz.underlying136, a46 := Tryz.isAgg136, z46 := Tryz.sizeOf136, v46 := Tryz.zeroValue136, t51 := Tryz.underlying283, a51 := Tryz.isAgg283, z51 := Tryz.sizeOf283, v51 := Tryz.zeroValue283, t53 := Tryz.underlying251, a53 := Tryz.isAgg251, z53 := Tryz.sizeOf251, v53 := Tryz.zeroValue251, t75 := Tryz.underlying113, a75 := Tryz.isAgg113, z75 := Tryz.sizeOf113, v75 := Tryz.zeroValue113, t76 := Tryz.underlying114, a76 := Tryz.isAgg114, z76 := Tryz.sizeOf114, v76 := Tryz.zeroValue114, t85 := Tryz.underlying288, a85 := Tryz.isAgg288, z85 := Tryz.sizeOf288, v85 := Tryz.zeroValue288, t127 := Tryz.underlying157, a127 := Tryz.isAgg157, z127 := Tryz.sizeOf157, v127 := Tryz.zeroValue157, t143 := Tryz.underlying311, a143 := Tryz.isAgg311, z143 := Tryz.sizeOf311, v143 := Tryz.zeroValue311, t145 := Tryz.underlying313, a145 := Tryz.isAgg313, z145 := Tryz.sizeOf313, v145 := Tryz.zeroValue313, t167 := Tryz.underlying287, a167 := Tryz.isAgg287, z167 := Tryz.sizeOf287, v167 := Tryz.zeroValue287, t168 := Tryz.underlying290, a168 := Tryz.isAgg290, z168 := Tryz.sizeOf290, v168 := Tryz.zeroValue290, t171 := Tryz.underlying266, a171 := Tryz.isAgg266, z171 := Tryz.sizeOf266, v171 := Tryz.zeroValue266, t173 := Tryz.underlying269, a173 := Tryz.isAgg269, z173 := Tryz.sizeOf269, v173 := Tryz.zeroValue269, t175 := Tryz.underlying299, a175 := Tryz.isAgg299, z175 := Tryz.sizeOf299, v175 := Tryz.zeroValue299, t210 := Tryz.underlying303, a210 := Tryz.isAgg303, z210 := Tryz.sizeOf303, v210 := Tryz.zeroValue303, t212 := Tryz.underlying285, a212 := Tryz.isAgg285, z212 := Tryz.sizeOf285, v212 := Tryz.zeroValue285, t213 := Tryz.underlying286, a213 := Tryz.isAgg286, z213 := Tryz.sizeOf286, t232 := Tryz.underlying308, a232 := Tryz.isAgg308, z232 := Tryz.sizeOf308, v232 := Tryz.zeroValue308, t233 := Tryz.underlying309, a233 := Tryz.isAgg309, z233 := Tryz.sizeOf309, v233 := Tryz.zeroValue309, g15 := by kernel_rfl, g16 := by kernel_rfl, g17 := by kernel_rfl, g18 := by kernel_rfl, g19 := by kernel_rfl, t80 := Tryz.underlying83, a80 := Tryz.isAgg83, z80 := Tryz.sizeOf83, v80 := Tryz.zeroValue83, i0 := by kernel_rfl, i2 := by kernel_rfl, i3 := by kernel_rfl, i4 := by kernel_rfl, i5 := by kernel_rfl, i9 := by kernel_rfl, i20 := by kernel_rfl, i21 := by kernel_rfl, i37 := by kernel_rfl, i46 := by kernel_rfl, i51 := by kernel_rfl, i53 := by kernel_rfl, i75 := by kernel_rfl, i76 := by kernel_rfl, i80 := by kernel_rfl, i85 := by kernel_rfl, i127 := by kernel_rfl, i143 := by kernel_rfl, i145 := by kernel_rfl, i167 := by kernel_rfl, i168 := by kernel_rfl, i171 := by kernel_rfl, i173 := by kernel_rfl, i175 := by kernel_rfl, i210 := by kernel_rfl, i212 := by kernel_rfl, i232 := by kernel_rfl, i233 := by kernel_rfl, m15 := by kernel_rfl, m16 := by kernel_rfl, m17 := by kernel_rfl, m18 := by kernel_rfl, m19 := by kernel_rfl, c0 := by kernel_rfl, c2 := by kernel_rfl, c3 := by kernel_rfl, c4 := by kernel_rfl, c5 := by kernel_rfl, c9 := by kernel_rfl, c20 := by kernel_rfl, c21 := by kernel_rfl, c37 := by kernel_rfl, c46 := by kernel_rfl, c51 := by kernel_rfl, c53 := by kernel_rfl, c75 := by kernel_rfl, c76 := by kernel_rfl, c80 := by kernel_rfl, c85 := by kernel_rfl, c127 := by kernel_rfl, c143 := by kernel_rfl, c145 := by kernel_rfl, c167 := by kernel_rfl, c168 := by kernel_rfl, c171 := by kernel_rfl, c173 := by kernel_rfl, c175 := by kernel_rfl, c210 := by kernel_rfl, c212 := by kernel_rfl, c213 := by kernel_rfl, c232 := by kernel_rfl, c233 := by kernel_rfl }
theorem shX : Go.Proofs.Builder.Extra Tryz.prog ren := { sizeBuilder := by kernel_rfl, liesBuilder := by kernel_rfl, t5 := Tryz.underlying5, a5 := Tryz.isAgg5, z5 := Tryz.sizeOf5, v5 := Tryz.zeroValue5, infoByte := by kernel_rfl, cellsByte := by kernel_rfl, sizeByte := by kernel_rfl, neB5 := by decide }
end Go.Proofs.YtnajnkghilemhaaGreatDoor
