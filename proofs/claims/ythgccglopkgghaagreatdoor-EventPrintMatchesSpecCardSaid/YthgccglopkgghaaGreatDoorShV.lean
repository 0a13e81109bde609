/- Laws that the claim stands on; no condition beyond those stated. -/
import Derived.Test.YthgccglopkgghaaGreatDoorRows
import Derived.Shelf.Strconv.Itoa3
import Derived.Shelf.Strings.OnBuilder
import Derived.Shelf.LaysC
import Derived.Shelf.Strings.Search1
namespace Go.Proofs.YthgccglopkgghaaGreatDoor
open Go Go.Shelf
def ren:Go.Shelf.Ren:=⟨λn=>match n with |129=>128|156=>92|165=>112|166=>27|169=>30|171=>57|172=>95|205=>143|217=>117|240=>56|241=>126|243=>91|244=>118|245=>119|246=>111|247=>133|266=>132|276=>90|277=>138|279=>134|280=>135|281=>136|282=>137|283=>113|284=>114|285=>115|286=>116|287=>141|316=>142|317=>127|318=>129|319=>130|320=>131|321=>144|322=>145|337=>139|338=>140|_=>0,λn=>match n with |0=>0|2=>2|3=>3|4=>4|5=>5|9=>9|20=>20|21=>21|31=>23|37=>37|46=>150|51=>147|53=>120|70=>72|72=>74|75=>76|76=>77|80=>43|85=>153|127=>101|143=>169|145=>171|164=>117|167=>152|168=>155|171=>131|173=>134|175=>160|210=>164|212=>146|213=>148|232=>166|233=>167|_=>0,λn=>match n with |15=>3|16=>4|17=>1|18=>5|19=>6|_=>0⟩
set_option maxRecDepth 100000 in
theorem shf129:Tryz.prog.funcs[ren.f 129]? =some (Body.n129 ren):=by
 have h:Tryz.f128=Body.n129 ren:=by kernel_rfl
 exact h▸Tryz.func128
set_option maxRecDepth 100000 in
theorem shf156:Tryz.prog.funcs[ren.f 156]? =some (Body.n156 ren):=by
 have h:Tryz.f92=Body.n156 ren:=by kernel_rfl
 exact h▸Tryz.func92
set_option maxRecDepth 100000 in
theorem shf165:Tryz.prog.funcs[ren.f 165]? =some (Body.n165 ren):=by
 have h:Tryz.f112=Body.n165 ren:=by kernel_rfl
 exact h▸Tryz.func112
set_option maxRecDepth 100000 in
theorem shf166:Tryz.prog.funcs[ren.f 166]? =some (Body.n166 ren):=by
 have h:Tryz.f27=Body.n166 ren:=by kernel_rfl
 exact h▸Tryz.func27
set_option maxRecDepth 100000 in
theorem shf169:Tryz.prog.funcs[ren.f 169]? =some (Body.n169 ren):=by
 have h:Tryz.f30=Body.n169 ren:=by kernel_rfl
 exact h▸Tryz.func30
set_option maxRecDepth 100000 in
theorem shf171:Tryz.prog.funcs[ren.f 171]? =some (Body.n171 ren):=by
 have h:Tryz.f57=Body.n171 ren:=by kernel_rfl
 exact h▸Tryz.func57
set_option maxRecDepth 100000 in
theorem shf172:Tryz.prog.funcs[ren.f 172]? =some (Body.n172 ren):=by
 have h:Tryz.f95=Body.n172 ren:=by kernel_rfl
 exact h▸Tryz.func95
set_option maxRecDepth 100000 in
theorem shf205:Tryz.prog.funcs[ren.f 205]? =some (Body.n205 ren):=by
 have h:Tryz.f143=Body.n205 ren:=by kernel_rfl
 exact h▸Tryz.func143
set_option maxRecDepth 100000 in
theorem shf217:Tryz.prog.funcs[ren.f 217]? =some (Body.n217 ren):=by
 have h:Tryz.f117=Body.n217 ren:=by kernel_rfl
 exact h▸Tryz.func117
set_option maxRecDepth 100000 in
theorem shf240:Tryz.prog.funcs[ren.f 240]? =some (Body.n240 ren):=by
 have h:Tryz.f56=Body.n240 ren:=by kernel_rfl
 exact h▸Tryz.func56
set_option maxRecDepth 100000 in
theorem shf241:Tryz.prog.funcs[ren.f 241]? =some (Body.n241 ren):=by
 have h:Tryz.f126=Body.n241 ren:=by kernel_rfl
 exact h▸Tryz.func126
set_option maxRecDepth 100000 in
theorem shf243:Tryz.prog.funcs[ren.f 243]? =some (Body.n243 ren):=by
 have h:Tryz.f91=Body.n243 ren:=by kernel_rfl
 exact h▸Tryz.func91
set_option maxRecDepth 100000 in
theorem shf244:Tryz.prog.funcs[ren.f 244]? =some (Body.n244 ren):=by
 have h:Tryz.f118=Body.n244 ren:=by kernel_rfl
 exact h▸Tryz.func118
set_option maxRecDepth 100000 in
theorem shf245:Tryz.prog.funcs[ren.f 245]? =some (Body.n245 ren):=by
 have h:Tryz.f119=Body.n245 ren:=by kernel_rfl
 exact h▸Tryz.func119
set_option maxRecDepth 100000 in
theorem shf246:Tryz.prog.funcs[ren.f 246]? =some (Body.n246 ren):=by
 have h:Tryz.f111=Body.n246 ren:=by kernel_rfl
 exact h▸Tryz.func111
set_option maxRecDepth 100000 in
theorem shf247:Tryz.prog.funcs[ren.f 247]? =some (Body.n247 ren):=by
 have h:Tryz.f133=Body.n247 ren:=by kernel_rfl
 exact h▸Tryz.func133
set_option maxRecDepth 100000 in
theorem shf266:Tryz.prog.funcs[ren.f 266]? =some (Body.n266 ren):=by
 have h:Tryz.f132=Body.n266 ren:=by kernel_rfl
 exact h▸Tryz.func132
set_option maxRecDepth 100000 in
theorem shf276:Tryz.prog.funcs[ren.f 276]? =some (Body.n276 ren):=by
 have h:Tryz.f90=Body.n276 ren:=by kernel_rfl
 exact h▸Tryz.func90
set_option maxRecDepth 100000 in
theorem shf277:Tryz.prog.funcs[ren.f 277]? =some (Body.n277 ren):=by
 have h:Tryz.f138=Body.n277 ren:=by kernel_rfl
 exact h▸Tryz.func138
set_option maxRecDepth 100000 in
theorem shf279:Tryz.prog.funcs[ren.f 279]? =some (Body.n279 ren):=by
 have h:Tryz.f134=Body.n279 ren:=by kernel_rfl
 exact h▸Tryz.func134
set_option maxRecDepth 100000 in
theorem shf280:Tryz.prog.funcs[ren.f 280]? =some (Body.n280 ren):=by
 have h:Tryz.f135=Body.n280 ren:=by kernel_rfl
 exact h▸Tryz.func135
set_option maxRecDepth 100000 in
theorem shf281:Tryz.prog.funcs[ren.f 281]? =some (Body.n281 ren):=by
 have h:Tryz.f136=Body.n281 ren:=by kernel_rfl
 exact h▸Tryz.func136
set_option maxRecDepth 100000 in
theorem shf282:Tryz.prog.funcs[ren.f 282]? =some (Body.n282 ren):=by
 have h:Tryz.f137=Body.n282 ren:=by kernel_rfl
 exact h▸Tryz.func137
set_option maxRecDepth 100000 in
theorem shf283:Tryz.prog.funcs[ren.f 283]? =some (Body.n283 ren):=by
 have h:Tryz.f113=Body.n283 ren:=by kernel_rfl
 exact h▸Tryz.func113
set_option maxRecDepth 100000 in
theorem shf284:Tryz.prog.funcs[ren.f 284]? =some (Body.n284 ren):=by
 have h:Tryz.f114=Body.n284 ren:=by kernel_rfl
 exact h▸Tryz.func114
set_option maxRecDepth 100000 in
theorem shf285:Tryz.prog.funcs[ren.f 285]? =some (Body.n285 ren):=by
 have h:Tryz.f115=Body.n285 ren:=by kernel_rfl
 exact h▸Tryz.func115
set_option maxRecDepth 100000 in
theorem shf286:Tryz.prog.funcs[ren.f 286]? =some (Body.n286 ren):=by
 have h:Tryz.f116=Body.n286 ren:=by kernel_rfl
 exact h▸Tryz.func116
set_option maxRecDepth 100000 in
theorem shf287:Tryz.prog.funcs[ren.f 287]? =some (Body.n287 ren):=by
 have h:Tryz.f141=Body.n287 ren:=by kernel_rfl
 exact h▸Tryz.func141
set_option maxRecDepth 100000 in
theorem shf316:Tryz.prog.funcs[ren.f 316]? =some (Body.n316 ren):=by
 have h:Tryz.f142=Body.n316 ren:=by kernel_rfl
 exact h▸Tryz.func142
set_option maxRecDepth 100000 in
theorem shf317:Tryz.prog.funcs[ren.f 317]? =some (Body.n317 ren):=by
 have h:Tryz.f127=Body.n317 ren:=by kernel_rfl
 exact h▸Tryz.func127
set_option maxRecDepth 100000 in
theorem shf318:Tryz.prog.funcs[ren.f 318]? =some (Body.n318 ren):=by
 have h:Tryz.f129=Body.n318 ren:=by kernel_rfl
 exact h▸Tryz.func129
set_option maxRecDepth 100000 in
theorem shf319:Tryz.prog.funcs[ren.f 319]? =some (Body.n319 ren):=by
 have h:Tryz.f130=Body.n319 ren:=by kernel_rfl
 exact h▸Tryz.func130
set_option maxRecDepth 100000 in
theorem shf320:Tryz.prog.funcs[ren.f 320]? =some (Body.n320 ren):=by
 have h:Tryz.f131=Body.n320 ren:=by kernel_rfl
 exact h▸Tryz.func131
set_option maxRecDepth 100000 in
theorem shf321:Tryz.prog.funcs[ren.f 321]? =some (Body.n321 ren):=by
 have h:Tryz.f144=Body.n321 ren:=by kernel_rfl
 exact h▸Tryz.func144
set_option maxRecDepth 100000 in
theorem shf322:Tryz.prog.funcs[ren.f 322]? =some (Body.n322 ren):=by
 have h:Tryz.f145=Body.n322 ren:=by kernel_rfl
 exact h▸Tryz.func145
set_option maxRecDepth 100000 in
theorem shf337:Tryz.prog.funcs[ren.f 337]? =some (Body.n337 ren):=by
 have h:Tryz.f139=Body.n337 ren:=by kernel_rfl
 exact h▸Tryz.func139
set_option maxRecDepth 100000 in
theorem shf338:Tryz.prog.funcs[ren.f 338]? =some (Body.n338 ren):=by
 have h:Tryz.f140=Body.n338 ren:=by kernel_rfl
 exact h▸Tryz.func140
theorem shLays129:Lays.n129 Tryz.prog ren:={mixed:=by kernel_rfl,f129:=shf129,t3:=Tryz.underlying3,a3:=Tryz.isAgg3,z3:=Tryz.sizeOf3,v3:=Tryz.zeroValue3,t4:=Tryz.underlying4,a4:=Tryz.isAgg4,z4:=Tryz.sizeOf4,v4:=Tryz.zeroValue4,t5:=Tryz.underlying5,a5:=Tryz.isAgg5,z5:=Tryz.sizeOf5,v5:=Tryz.zeroValue5,t9:=Tryz.underlying9,a9:=Tryz.isAgg9,z9:=Tryz.sizeOf9,v9:=Tryz.zeroValue9,t46:=Tryz.underlying150,a46:=Tryz.isAgg150,z46:=Tryz.sizeOf150,v46:=Tryz.zeroValue150,t53:=Tryz.underlying120,a53:=Tryz.isAgg120,z53:=Tryz.sizeOf120,v53:=Tryz.zeroValue120}
theorem shLays283:Lays.n283 Tryz.prog ren:={mixed:=by kernel_rfl,f283:=shf283,t3:=Tryz.underlying3,a3:=Tryz.isAgg3,z3:=Tryz.sizeOf3,v3:=Tryz.zeroValue3,t4:=Tryz.underlying4,a4:=Tryz.isAgg4,z4:=Tryz.sizeOf4,v4:=Tryz.zeroValue4,t9:=Tryz.underlying9,a9:=Tryz.isAgg9,z9:=Tryz.sizeOf9,v9:=Tryz.zeroValue9}
theorem aDe:Lays.n285 Tryz.prog ren:={mixed:=by kernel_rfl,f285:=shf285,t0:=Tryz.underlying0,a0:=Tryz.isAgg0,z0:=Tryz.sizeOf0,v0:=Tryz.zeroValue0,t3:=Tryz.underlying3,a3:=Tryz.isAgg3,z3:=Tryz.sizeOf3,v3:=Tryz.zeroValue3,t4:=Tryz.underlying4,a4:=Tryz.isAgg4,z4:=Tryz.sizeOf4,v4:=Tryz.zeroValue4,t5:=Tryz.underlying5,a5:=Tryz.isAgg5,z5:=Tryz.sizeOf5,v5:=Tryz.zeroValue5,t9:=Tryz.underlying9,a9:=Tryz.isAgg9,z9:=Tryz.sizeOf9,v9:=Tryz.zeroValue9,t37:=Tryz.underlying37,a37:=Tryz.isAgg37,z37:=Tryz.sizeOf37,v37:=Tryz.zeroValue37,t51:=Tryz.underlying147,a51:=Tryz.isAgg147,z51:=Tryz.sizeOf147,v51:=Tryz.zeroValue147,t53:=Tryz.underlying120,a53:=Tryz.isAgg120,z53:=Tryz.sizeOf120,v53:=Tryz.zeroValue120}
theorem shLays217:Lays.n217 Tryz.prog ren:={mixed:=by kernel_rfl,f217:=shf217,f266:=shf266,t3:=Tryz.underlying3,a3:=Tryz.isAgg3,z3:=Tryz.sizeOf3,v3:=Tryz.zeroValue3,t5:=Tryz.underlying5,a5:=Tryz.isAgg5,z5:=Tryz.sizeOf5,v5:=Tryz.zeroValue5,t9:=Tryz.underlying9,a9:=Tryz.isAgg9,z9:=Tryz.sizeOf9,v9:=Tryz.zeroValue9}
theorem aCu:Lays.n156 Tryz.prog ren:={mixed:=by kernel_rfl,f156:=shf156,f165:=shf165,f166:=shf166,f169:=shf169,f240:=shf240,f241:=shf241,f276:=shf276,f277:=shf277,t0:=Tryz.underlying0,a0:=Tryz.isAgg0,z0:=Tryz.sizeOf0,v0:=Tryz.zeroValue0,t3:=Tryz.underlying3,a3:=Tryz.isAgg3,z3:=Tryz.sizeOf3,v3:=Tryz.zeroValue3,t4:=Tryz.underlying4,a4:=Tryz.isAgg4,z4:=Tryz.sizeOf4,v4:=Tryz.zeroValue4,t9:=Tryz.underlying9,a9:=Tryz.isAgg9,z9:=Tryz.sizeOf9,v9:=Tryz.zeroValue9,t20:=Tryz.underlying20,a20:=Tryz.isAgg20,z20:=Tryz.sizeOf20,v20:=Tryz.zeroValue20,t31:=Tryz.underlying23,a31:=Tryz.isAgg23,z31:=Tryz.sizeOf23,v31:=Tryz.zeroValue23,t37:=Tryz.underlying37,a37:=Tryz.isAgg37,z37:=Tryz.sizeOf37,v37:=Tryz.zeroValue37,t70:=Tryz.underlying72,a70:=Tryz.isAgg72,z70:=Tryz.sizeOf72,v70:=Tryz.zeroValue72,t72:=Tryz.underlying74,a72:=Tryz.isAgg74,z72:=Tryz.sizeOf74,v72:=Tryz.zeroValue74,t75:=Tryz.underlying76,a75:=Tryz.isAgg76,z75:=Tryz.sizeOf76,v75:=Tryz.zeroValue76,t76:=Tryz.underlying77,a76:=Tryz.isAgg77,z76:=Tryz.sizeOf77,v76:=Tryz.zeroValue77,t127:=Tryz.underlying101,a127:=Tryz.isAgg101,z127:=Tryz.sizeOf101,v127:=Tryz.zeroValue101,t164:=Tryz.underlying117,a164:=Tryz.isAgg117,z164:=Tryz.sizeOf117,v164:=Tryz.zeroValue117}
theorem xN:Lays.n169 Tryz.prog ren:={mixed:=by kernel_rfl,f169:=shf169,t0:=Tryz.underlying0,a0:=Tryz.isAgg0,z0:=Tryz.sizeOf0,v0:=Tryz.zeroValue0,t3:=Tryz.underlying3,a3:=Tryz.isAgg3,z3:=Tryz.sizeOf3,v3:=Tryz.zeroValue3,t9:=Tryz.underlying9,a9:=Tryz.isAgg9,z9:=Tryz.sizeOf9,v9:=Tryz.zeroValue9,t37:=Tryz.underlying37,a37:=Tryz.isAgg37,z37:=Tryz.sizeOf37,v37:=Tryz.zeroValue37,t70:=Tryz.underlying72,a70:=Tryz.isAgg72,z70:=Tryz.sizeOf72,v70:=Tryz.zeroValue72,t72:=Tryz.underlying74,a72:=Tryz.isAgg74,z72:=Tryz.sizeOf74,v72:=Tryz.zeroValue74,t127:=Tryz.underlying101,a127:=Tryz.isAgg101,z127:=Tryz.sizeOf101,v127:=Tryz.zeroValue101}
theorem aCt:Lays.n240 Tryz.prog ren:={mixed:=by kernel_rfl,f240:=shf240,f276:=shf276,t0:=Tryz.underlying0,a0:=Tryz.isAgg0,z0:=Tryz.sizeOf0,v0:=Tryz.zeroValue0,t4:=Tryz.underlying4,a4:=Tryz.isAgg4,z4:=Tryz.sizeOf4,v4:=Tryz.zeroValue4,t9:=Tryz.underlying9,a9:=Tryz.isAgg9,z9:=Tryz.sizeOf9,v9:=Tryz.zeroValue9,t20:=Tryz.underlying20,a20:=Tryz.isAgg20,z20:=Tryz.sizeOf20,v20:=Tryz.zeroValue20,t70:=Tryz.underlying72,a70:=Tryz.isAgg72,z70:=Tryz.sizeOf72,v70:=Tryz.zeroValue72,t72:=Tryz.underlying74,a72:=Tryz.isAgg74,z72:=Tryz.sizeOf74,v72:=Tryz.zeroValue74,t164:=Tryz.underlying117,a164:=Tryz.isAgg117,z164:=Tryz.sizeOf117,v164:=Tryz.zeroValue117}
theorem uU:LaysC.n172 Tryz.prog ren:={mixed:=by kernel_rfl,f129:=shf129,f171:=shf171,f172:=shf172,f205:=shf205,f243:=shf243,f244:=shf244,f245:=shf245,f246:=shf246,f247:=shf247,f279:=shf279,f280:=shf280,f281:=shf281,f282:=shf282,f283:=shf283,f284:=shf284,f285:=shf285,f286:=shf286,f287:=shf287,f316:=shf316,f317:=shf317,f318:=shf318,f319:=shf319,f320:=shf320,f321:=shf321,f322:=shf322,f337:=shf337,f338:=shf338,t0:=Tryz.underlying0,a0:=Tryz.isAgg0,z0:=Tryz.sizeOf0,v0:=Tryz.zeroValue0,t2:=Tryz.underlying2,a2:=Tryz.isAgg2,z2:=Tryz.sizeOf2,v2:=Tryz.zeroValue2,t3:=Tryz.underlying3,a3:=Tryz.isAgg3,z3:=Tryz.sizeOf3,v3:=Tryz.zeroValue3,t4:=Tryz.underlying4,a4:=Tryz.isAgg4,z4:=Tryz.sizeOf4,v4:=Tryz.zeroValue4,t5:=Tryz.underlying5,a5:=Tryz.isAgg5,z5:=Tryz.sizeOf5,v5:=Tryz.zeroValue5,t9:=Tryz.underlying9,a9:=Tryz.isAgg9,z9:=Tryz.sizeOf9,v9:=Tryz.zeroValue9,t20:=Tryz.underlying20,a20:=Tryz.isAgg20,z20:=Tryz.sizeOf20,v20:=Tryz.zeroValue20,t21:=Tryz.underlying21,a21:=Tryz.isAgg21,z21:=Tryz.sizeOf21,v21:=Tryz.zeroValue21,t37:=Tryz.underlying37,a37:=Tryz.isAgg37,z37:=Tryz.sizeOf37,v37:=Tryz.zeroValue37,t46:=Tryz.underlying150,a46:=Tryz.isAgg150,z46:=Tryz.sizeOf150,v46:=Tryz.zeroValue150,t51:=Tryz.underlying147,a51:=Tryz.isAgg147,z51:=Tryz.sizeOf147,v51:=Tryz.zeroValue147,t53:=Tryz.underlying120,a53:=Tryz.isAgg120,z53:=Tryz.sizeOf120,v53:=Tryz.zeroValue120,t75:=Tryz.underlying76,a75:=Tryz.isAgg76,z75:=Tryz.sizeOf76,v75:=Tryz.zeroValue76,t76:=Tryz.underlying77,a76:=Tryz.isAgg77,z76:=Tryz.sizeOf77,v76:=Tryz.zeroValue77,t85:=Tryz.underlying153,a85:=Tryz.isAgg153,z85:=Tryz.sizeOf153,v85:=Tryz.zeroValue153,t127:=Tryz.underlying101,a127:=Tryz.isAgg101,z127:=Tryz.sizeOf101,v127:=Tryz.zeroValue101,t143:=Tryz.underlying169,a143:=Tryz.isAgg169,z143:=Tryz.sizeOf169,v143:=Tryz.zeroValue169,t145:=Tryz.underlying171,a145:=Tryz.isAgg171,z145:=Tryz.sizeOf171,v145:=Tryz.zeroValue171,t167:=Tryz.underlying152,a167:=Tryz.isAgg152,z167:=Tryz.sizeOf152,v167:=Tryz.zeroValue152,t168:=Tryz.underlying155,a168:=Tryz.isAgg155,z168:=Tryz.sizeOf155,v168:=Tryz.zeroValue155,t171:=Tryz.underlying131,a171:=Tryz.isAgg131,z171:=Tryz.sizeOf131,v171:=Tryz.zeroValue131,t173:=Tryz.underlying134,a173:=Tryz.isAgg134,z173:=Tryz.sizeOf134,v173:=Tryz.zeroValue134,t175:=Tryz.underlying160,a175:=Tryz.isAgg160,z175:=Tryz.sizeOf160,v175:=Tryz.zeroValue160,t210:=Tryz.underlying164,a210:=Tryz.isAgg164,z210:=Tryz.sizeOf164,v210:=Tryz.zeroValue164,t212:=Tryz.underlying146,a212:=Tryz.isAgg146,z212:=Tryz.sizeOf146,v212:=Tryz.zeroValue146,t213:=Tryz.underlying148,a213:=Tryz.isAgg148,z213:=Tryz.sizeOf148,t232:=Tryz.underlying166,a232:=Tryz.isAgg166,z232:=Tryz.sizeOf166,v232:=Tryz.zeroValue166,t233:=Tryz.underlying167,a233:=Tryz.isAgg167,z233:=Tryz.sizeOf167,v233:=Tryz.zeroValue167,g15:=by kernel_rfl,g16:=by kernel_rfl,g17:=by kernel_rfl,g18:=by kernel_rfl,g19:=by kernel_rfl,t80:=Tryz.underlying43,a80:=Tryz.isAgg43,z80:=Tryz.sizeOf43,v80:=Tryz.zeroValue43,i0:=by kernel_rfl,i2:=by kernel_rfl,i3:=by kernel_rfl,i4:=by kernel_rfl,i5:=by kernel_rfl,i9:=by kernel_rfl,i20:=by kernel_rfl,i21:=by kernel_rfl,i37:=by kernel_rfl,i46:=by kernel_rfl,i51:=by kernel_rfl,i53:=by kernel_rfl,i75:=by kernel_rfl,i76:=by kernel_rfl,i80:=by kernel_rfl,i85:=by kernel_rfl,i127:=by kernel_rfl,i143:=by kernel_rfl,i145:=by kernel_rfl,i167:=by kernel_rfl,i168:=by kernel_rfl,i171:=by kernel_rfl,i173:=by kernel_rfl,i175:=by kernel_rfl,i210:=by kernel_rfl,i212:=by kernel_rfl,i232:=by kernel_rfl,i233:=by kernel_rfl,m15:=by kernel_rfl,m16:=by kernel_rfl,m17:=by kernel_rfl,m18:=by kernel_rfl,m19:=by kernel_rfl,c0:=by kernel_rfl,c2:=by kernel_rfl,c3:=by kernel_rfl,c4:=by kernel_rfl,c5:=by kernel_rfl,c9:=by kernel_rfl,c20:=by kernel_rfl,c21:=by kernel_rfl,c37:=by kernel_rfl,c46:=by kernel_rfl,c51:=by kernel_rfl,c53:=by kernel_rfl,c75:=by kernel_rfl,c76:=by kernel_rfl,c80:=by kernel_rfl,c85:=by kernel_rfl,c127:=by kernel_rfl,c143:=by kernel_rfl,c145:=by kernel_rfl,c167:=by kernel_rfl,c168:=by kernel_rfl,c171:=by kernel_rfl,c173:=by kernel_rfl,c175:=by kernel_rfl,c210:=by kernel_rfl,c212:=by kernel_rfl,c213:=by kernel_rfl,c232:=by kernel_rfl,c233:=by kernel_rfl}
theorem shX:Go.Proofs.Builder.Extra Tryz.prog ren:={sizeBuilder:=by kernel_rfl,liesBuilder:=by kernel_rfl,t5:=Tryz.underlying5,a5:=Tryz.isAgg5,z5:=Tryz.sizeOf5,v5:=Tryz.zeroValue5,infoByte:=by kernel_rfl,cellsByte:=by kernel_rfl,sizeByte:=by kernel_rfl,neB5:=by decide}
end Go.Proofs.YthgccglopkgghaaGreatDoor
