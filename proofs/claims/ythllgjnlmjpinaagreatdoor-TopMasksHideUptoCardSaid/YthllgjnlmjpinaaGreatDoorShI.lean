/- The shelf's contract of slices.Sort of numbers, tied to this program. -/
import Derived.Test.YthllgjnlmjpinaaGreatDoorRows
import Derived.Shelf.Lays
import Derived.Shelf.Sort.Plain
namespace Go.Proofs.YthllgjnlmjpinaaGreatDoor
open Go Go.Shelf
def dR:Go.Shelf.Ren:=⟨fun n=>match n with | 125=>111 | 128=>137 | 129=>138 | 189=>79 | 215=>157 | 216=>134 | 257=>110 | 294=>128 | 295=>129 | 296=>130 | 297=>131 | 298=>132 | 299=>133 | 300=>135 | 301=>136 | 328=>152 | 329=>153 | 330=>154 | 331=>155 | 332=>156 | 343=>169 | _=>0,fun n=>match n with | 0=>0 | 2=>2 | 3=>3 | 4=>4 | 5=>5 | 9=>9 | 28=>36 | 46=>134 | 51=>195 | 53=>147 | 131=>74 | 182=>187 | 183=>188 | 218=>225 | 222=>175 | 228=>267 | 229=>268 | _=>0,fun n=>match n with | _=>0⟩
set_option maxRecDepth 100000 in
theorem shI125:Tryz.prog.funcs[dR.f 125]? =some (Body.n125 dR):=by
 have h:Tryz.f111=Body.n125 dR:=by kernel_rfl
 exact h ▸ Tryz.func111
set_option maxRecDepth 100000 in
theorem shI128:Tryz.prog.funcs[dR.f 128]? =some (Body.n128 dR):=by
 have h:Tryz.f137=Body.n128 dR:=by kernel_rfl
 exact h ▸ Tryz.func137
set_option maxRecDepth 100000 in
theorem shI129:Tryz.prog.funcs[dR.f 129]? =some (Body.n129 dR):=by
 have h:Tryz.f138=Body.n129 dR:=by kernel_rfl
 exact h ▸ Tryz.func138
set_option maxRecDepth 100000 in
theorem shI189:Tryz.prog.funcs[dR.f 189]? =some (Body.n189 dR):=by
 have h:Tryz.f79=Body.n189 dR:=by kernel_rfl
 exact h ▸ Tryz.func79
set_option maxRecDepth 100000 in
theorem shI215:Tryz.prog.funcs[dR.f 215]? =some (Body.n215 dR):=by
 have h:Tryz.f157=Body.n215 dR:=by kernel_rfl
 exact h ▸ Tryz.func157
set_option maxRecDepth 100000 in
theorem shI216:Tryz.prog.funcs[dR.f 216]? =some (Body.n216 dR):=by
 have h:Tryz.f134=Body.n216 dR:=by kernel_rfl
 exact h ▸ Tryz.func134
set_option maxRecDepth 100000 in
theorem shI257:Tryz.prog.funcs[dR.f 257]? =some (Body.n257 dR):=by
 have h:Tryz.f110=Body.n257 dR:=by kernel_rfl
 exact h ▸ Tryz.func110
set_option maxRecDepth 100000 in
theorem shI294:Tryz.prog.funcs[dR.f 294]? =some (Body.n294 dR):=by
 have h:Tryz.f128=Body.n294 dR:=by kernel_rfl
 exact h ▸ Tryz.func128
set_option maxRecDepth 100000 in
theorem shI295:Tryz.prog.funcs[dR.f 295]? =some (Body.n295 dR):=by
 have h:Tryz.f129=Body.n295 dR:=by kernel_rfl
 exact h ▸ Tryz.func129
set_option maxRecDepth 100000 in
theorem shI296:Tryz.prog.funcs[dR.f 296]? =some (Body.n296 dR):=by
 have h:Tryz.f130=Body.n296 dR:=by kernel_rfl
 exact h ▸ Tryz.func130
set_option maxRecDepth 100000 in
theorem shI297:Tryz.prog.funcs[dR.f 297]? =some (Body.n297 dR):=by
 have h:Tryz.f131=Body.n297 dR:=by kernel_rfl
 exact h ▸ Tryz.func131
set_option maxRecDepth 100000 in
theorem shI298:Tryz.prog.funcs[dR.f 298]? =some (Body.n298 dR):=by
 have h:Tryz.f132=Body.n298 dR:=by kernel_rfl
 exact h ▸ Tryz.func132
set_option maxRecDepth 100000 in
theorem shI299:Tryz.prog.funcs[dR.f 299]? =some (Body.n299 dR):=by
 have h:Tryz.f133=Body.n299 dR:=by kernel_rfl
 exact h ▸ Tryz.func133
set_option maxRecDepth 100000 in
theorem shI300:Tryz.prog.funcs[dR.f 300]? =some (Body.n300 dR):=by
 have h:Tryz.f135=Body.n300 dR:=by kernel_rfl
 exact h ▸ Tryz.func135
set_option maxRecDepth 100000 in
theorem shI301:Tryz.prog.funcs[dR.f 301]? =some (Body.n301 dR):=by
 have h:Tryz.f136=Body.n301 dR:=by kernel_rfl
 exact h ▸ Tryz.func136
set_option maxRecDepth 100000 in
theorem shI328:Tryz.prog.funcs[dR.f 328]? =some (Body.n328 dR):=by
 have h:Tryz.f152=Body.n328 dR:=by kernel_rfl
 exact h ▸ Tryz.func152
set_option maxRecDepth 100000 in
theorem shI329:Tryz.prog.funcs[dR.f 329]? =some (Body.n329 dR):=by
 have h:Tryz.f153=Body.n329 dR:=by kernel_rfl
 exact h ▸ Tryz.func153
set_option maxRecDepth 100000 in
theorem shI330:Tryz.prog.funcs[dR.f 330]? =some (Body.n330 dR):=by
 have h:Tryz.f154=Body.n330 dR:=by kernel_rfl
 exact h ▸ Tryz.func154
set_option maxRecDepth 100000 in
theorem shI331:Tryz.prog.funcs[dR.f 331]? =some (Body.n331 dR):=by
 have h:Tryz.f155=Body.n331 dR:=by kernel_rfl
 exact h ▸ Tryz.func155
set_option maxRecDepth 100000 in
theorem shI332:Tryz.prog.funcs[dR.f 332]? =some (Body.n332 dR):=by
 have h:Tryz.f156=Body.n332 dR:=by kernel_rfl
 exact h ▸ Tryz.func156
set_option maxRecDepth 100000 in
theorem shI343:Tryz.prog.funcs[dR.f 343]? =some (Body.n343 dR):=by
 have h:Tryz.f169=Body.n343 dR:=by kernel_rfl
 exact h ▸ Tryz.func169
theorem shLays189:Lays.n189 Tryz.prog dR:={mixed:=by kernel_rfl,f125:=shI125,f128:=shI128,f129:=shI129,f189:=shI189,f215:=shI215,f216:=shI216,f257:=shI257,f294:=shI294,f295:=shI295,f296:=shI296,f297:=shI297,f298:=shI298,f299:=shI299,f300:=shI300,f301:=shI301,f328:=shI328,f329:=shI329,f330:=shI330,f331:=shI331,f332:=shI332,f343:=shI343,t0:=Tryz.underlying0,a0:=Tryz.isAgg0,z0:=Tryz.sizeOf0,v0:=Tryz.zeroValue0,t3:=Tryz.underlying3,a3:=Tryz.isAgg3,z3:=Tryz.sizeOf3,v3:=Tryz.zeroValue3,t4:=Tryz.underlying4,a4:=Tryz.isAgg4,z4:=Tryz.sizeOf4,v4:=Tryz.zeroValue4,t5:=Tryz.underlying5,a5:=Tryz.isAgg5,z5:=Tryz.sizeOf5,v5:=Tryz.zeroValue5,t9:=Tryz.underlying9,a9:=Tryz.isAgg9,z9:=Tryz.sizeOf9,v9:=Tryz.zeroValue9,t28:=Tryz.underlying36,a28:=Tryz.isAgg36,z28:=Tryz.sizeOf36,v28:=Tryz.zeroValue36,t46:=Tryz.underlying134,a46:=Tryz.isAgg134,z46:=Tryz.sizeOf134,v46:=Tryz.zeroValue134,t51:=Tryz.underlying195,a51:=Tryz.isAgg195,z51:=Tryz.sizeOf195,v51:=Tryz.zeroValue195,t53:=Tryz.underlying147,a53:=Tryz.isAgg147,z53:=Tryz.sizeOf147,v53:=Tryz.zeroValue147,t131:=Tryz.underlying74,a131:=Tryz.isAgg74,z131:=Tryz.sizeOf74,v131:=Tryz.zeroValue74,t182:=Tryz.underlying187,a182:=Tryz.isAgg187,z182:=Tryz.sizeOf187,v182:=Tryz.zeroValue187,t183:=Tryz.underlying188,a183:=Tryz.isAgg188,z183:=Tryz.sizeOf188,v183:=Tryz.zeroValue188,t218:=Tryz.underlying225,a218:=Tryz.isAgg225,z218:=Tryz.sizeOf225,v218:=Tryz.zeroValue225,t222:=Tryz.underlying175,a222:=Tryz.isAgg175,z222:=Tryz.sizeOf175,v222:=Tryz.zeroValue175,t228:=Tryz.underlying267,a228:=Tryz.isAgg267,z228:=Tryz.sizeOf267,v228:=Tryz.zeroValue267,t229:=Tryz.underlying268,a229:=Tryz.isAgg268,z229:=Tryz.sizeOf268,v229:=Tryz.zeroValue268}
end Go.Proofs.YthllgjnlmjpinaaGreatDoor
