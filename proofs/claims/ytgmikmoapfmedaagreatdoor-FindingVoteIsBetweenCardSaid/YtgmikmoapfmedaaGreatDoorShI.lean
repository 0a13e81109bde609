/- The shelf's contract of slices.Sort of numbers, tied to this program. -/
import Derived.Test.YtgmikmoapfmedaaGreatDoorRows
import Derived.Shelf.Lays
import Derived.Shelf.Sort.Plain
namespace Go.Proofs.YtgmikmoapfmedaaGreatDoor
open Go Go.Shelf
def eF:Go.Shelf.Ren:=⟨fun n=>match n with | 125=>92 | 128=>128 | 129=>129 | 189=>62 | 215=>156 | 216=>125 | 257=>91 | 294=>119 | 295=>120 | 296=>121 | 297=>122 | 298=>123 | 299=>124 | 300=>126 | 301=>127 | 328=>151 | 329=>152 | 330=>153 | 331=>154 | 332=>155 | 343=>172 | _=>0,fun n=>match n with | 0=>0 | 2=>2 | 3=>3 | 4=>4 | 5=>5 | 9=>9 | 28=>42 | 46=>142 | 51=>169 | 53=>96 | 131=>166 | 182=>160 | 183=>161 | 218=>190 | 222=>185 | 228=>207 | 229=>208 | _=>0,fun n=>match n with | _=>0⟩
set_option maxRecDepth 100000 in
theorem shI125:Tryz.prog.funcs[eF.f 125]? =some (Body.n125 eF):=by
  have h:Tryz.f92=Body.n125 eF:=by kernel_rfl
  exact h ▸ Tryz.func92
set_option maxRecDepth 100000 in
theorem shI128:Tryz.prog.funcs[eF.f 128]? =some (Body.n128 eF):=by
  have h:Tryz.f128=Body.n128 eF:=by kernel_rfl
  exact h ▸ Tryz.func128
set_option maxRecDepth 100000 in
theorem shI129:Tryz.prog.funcs[eF.f 129]? =some (Body.n129 eF):=by
  have h:Tryz.f129=Body.n129 eF:=by kernel_rfl
  exact h ▸ Tryz.func129
set_option maxRecDepth 100000 in
theorem shI189:Tryz.prog.funcs[eF.f 189]? =some (Body.n189 eF):=by
  have h:Tryz.f62=Body.n189 eF:=by kernel_rfl
  exact h ▸ Tryz.func62
set_option maxRecDepth 100000 in
theorem shI215:Tryz.prog.funcs[eF.f 215]? =some (Body.n215 eF):=by
  have h:Tryz.f156=Body.n215 eF:=by kernel_rfl
  exact h ▸ Tryz.func156
set_option maxRecDepth 100000 in
theorem shI216:Tryz.prog.funcs[eF.f 216]? =some (Body.n216 eF):=by
  have h:Tryz.f125=Body.n216 eF:=by kernel_rfl
  exact h ▸ Tryz.func125
set_option maxRecDepth 100000 in
theorem shI257:Tryz.prog.funcs[eF.f 257]? =some (Body.n257 eF):=by
  have h:Tryz.f91=Body.n257 eF:=by kernel_rfl
  exact h ▸ Tryz.func91
set_option maxRecDepth 100000 in
theorem shI294:Tryz.prog.funcs[eF.f 294]? =some (Body.n294 eF):=by
  have h:Tryz.f119=Body.n294 eF:=by kernel_rfl
  exact h ▸ Tryz.func119
set_option maxRecDepth 100000 in
theorem shI295:Tryz.prog.funcs[eF.f 295]? =some (Body.n295 eF):=by
  have h:Tryz.f120=Body.n295 eF:=by kernel_rfl
  exact h ▸ Tryz.func120
set_option maxRecDepth 100000 in
theorem shI296:Tryz.prog.funcs[eF.f 296]? =some (Body.n296 eF):=by
  have h:Tryz.f121=Body.n296 eF:=by kernel_rfl
  exact h ▸ Tryz.func121
set_option maxRecDepth 100000 in
theorem shI297:Tryz.prog.funcs[eF.f 297]? =some (Body.n297 eF):=by
  have h:Tryz.f122=Body.n297 eF:=by kernel_rfl
  exact h ▸ Tryz.func122
set_option maxRecDepth 100000 in
theorem shI298:Tryz.prog.funcs[eF.f 298]? =some (Body.n298 eF):=by
  have h:Tryz.f123=Body.n298 eF:=by kernel_rfl
  exact h ▸ Tryz.func123
set_option maxRecDepth 100000 in
theorem shI299:Tryz.prog.funcs[eF.f 299]? =some (Body.n299 eF):=by
  have h:Tryz.f124=Body.n299 eF:=by kernel_rfl
  exact h ▸ Tryz.func124
set_option maxRecDepth 100000 in
theorem shI300:Tryz.prog.funcs[eF.f 300]? =some (Body.n300 eF):=by
  have h:Tryz.f126=Body.n300 eF:=by kernel_rfl
  exact h ▸ Tryz.func126
set_option maxRecDepth 100000 in
theorem shI301:Tryz.prog.funcs[eF.f 301]? =some (Body.n301 eF):=by
  have h:Tryz.f127=Body.n301 eF:=by kernel_rfl
  exact h ▸ Tryz.func127
set_option maxRecDepth 100000 in
theorem shI328:Tryz.prog.funcs[eF.f 328]? =some (Body.n328 eF):=by
  have h:Tryz.f151=Body.n328 eF:=by kernel_rfl
  exact h ▸ Tryz.func151
set_option maxRecDepth 100000 in
theorem shI329:Tryz.prog.funcs[eF.f 329]? =some (Body.n329 eF):=by
  have h:Tryz.f152=Body.n329 eF:=by kernel_rfl
  exact h ▸ Tryz.func152
set_option maxRecDepth 100000 in
theorem shI330:Tryz.prog.funcs[eF.f 330]? =some (Body.n330 eF):=by
  have h:Tryz.f153=Body.n330 eF:=by kernel_rfl
  exact h ▸ Tryz.func153
set_option maxRecDepth 100000 in
theorem shI331:Tryz.prog.funcs[eF.f 331]? =some (Body.n331 eF):=by
  have h:Tryz.f154=Body.n331 eF:=by kernel_rfl
  exact h ▸ Tryz.func154
set_option maxRecDepth 100000 in
theorem shI332:Tryz.prog.funcs[eF.f 332]? =some (Body.n332 eF):=by
  have h:Tryz.f155=Body.n332 eF:=by kernel_rfl
  exact h ▸ Tryz.func155
set_option maxRecDepth 100000 in
theorem shI343:Tryz.prog.funcs[eF.f 343]? =some (Body.n343 eF):=by
  have h:Tryz.f172=Body.n343 eF:=by kernel_rfl
  exact h ▸ Tryz.func172
theorem shLays189:Lays.n189 Tryz.prog eF:={mixed:=by kernel_rfl,f125:=shI125,f128:=shI128,f129:=shI129,f189:=shI189,f215:=shI215,f216:=shI216,f257:=shI257,f294:=shI294,f295:=shI295,f296:=shI296,f297:=shI297,f298:=shI298,f299:=shI299,f300:=shI300,f301:=shI301,f328:=shI328,f329:=shI329,f330:=shI330,f331:=shI331,f332:=shI332,f343:=shI343,t0:=Tryz.underlying0,a0:=Tryz.isAgg0,z0:=Tryz.sizeOf0,v0:=Tryz.zeroValue0,t3:=Tryz.underlying3,a3:=Tryz.isAgg3,z3:=Tryz.sizeOf3,v3:=Tryz.zeroValue3,t4:=Tryz.underlying4,a4:=Tryz.isAgg4,z4:=Tryz.sizeOf4,v4:=Tryz.zeroValue4,t5:=Tryz.underlying5,a5:=Tryz.isAgg5,z5:=Tryz.sizeOf5,v5:=Tryz.zeroValue5,t9:=Tryz.underlying9,a9:=Tryz.isAgg9,z9:=Tryz.sizeOf9,v9:=Tryz.zeroValue9,t28:=Tryz.underlying42,a28:=Tryz.isAgg42,z28:=Tryz.sizeOf42,v28:=Tryz.zeroValue42,t46:=Tryz.underlying142,a46:=Tryz.isAgg142,z46:=Tryz.sizeOf142,v46:=Tryz.zeroValue142,t51:=Tryz.underlying169,a51:=Tryz.isAgg169,z51:=Tryz.sizeOf169,v51:=Tryz.zeroValue169,t53:=Tryz.underlying96,a53:=Tryz.isAgg96,z53:=Tryz.sizeOf96,v53:=Tryz.zeroValue96,t131:=Tryz.underlying166,a131:=Tryz.isAgg166,z131:=Tryz.sizeOf166,v131:=Tryz.zeroValue166,t182:=Tryz.underlying160,a182:=Tryz.isAgg160,z182:=Tryz.sizeOf160,v182:=Tryz.zeroValue160,t183:=Tryz.underlying161,a183:=Tryz.isAgg161,z183:=Tryz.sizeOf161,v183:=Tryz.zeroValue161,t218:=Tryz.underlying190,a218:=Tryz.isAgg190,z218:=Tryz.sizeOf190,v218:=Tryz.zeroValue190,t222:=Tryz.underlying185,a222:=Tryz.isAgg185,z222:=Tryz.sizeOf185,v222:=Tryz.zeroValue185,t228:=Tryz.underlying207,a228:=Tryz.isAgg207,z228:=Tryz.sizeOf207,v228:=Tryz.zeroValue207,t229:=Tryz.underlying208,a229:=Tryz.isAgg208,z229:=Tryz.sizeOf208,v229:=Tryz.zeroValue208}
end Go.Proofs.YtgmikmoapfmedaaGreatDoor
