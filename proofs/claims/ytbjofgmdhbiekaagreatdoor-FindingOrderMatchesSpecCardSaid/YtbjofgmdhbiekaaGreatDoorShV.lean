/- Laws that the claim stands on; no condition beyond those stated. -/
import Derived.Test.YtbjofgmdhbiekaaGreatDoorRows
import Derived.Shelf.Strconv.Itoa3
import Derived.Shelf.Strings.OnBuilder
import Derived.Shelf.LaysC
namespace Go.Proofs.YtbjofgmdhbiekaaGreatDoor
open Go Go.Shelf
def ren:Go.Shelf.Ren:=⟨λn=>match n with |129=>178|171=>243|172=>242|205=>325|243=>280|244=>278|245=>279|246=>297|247=>292|279=>293|280=>294|281=>295|282=>296|283=>257|284=>258|285=>259|286=>260|287=>323|316=>324|317=>285|318=>286|319=>287|320=>288|321=>329|322=>330|337=>306|338=>307|_=>0,λn=>match n with |0=>0|2=>2|3=>3|4=>4|5=>5|9=>9|20=>20|21=>21|31=>29|37=>58|46=>191|51=>248|53=>250|75=>305|76=>306|80=>62|85=>347|127=>372|143=>373|145=>375|164=>389|167=>346|168=>349|171=>316|173=>318|175=>361|210=>365|212=>338|213=>339|232=>369|233=>370|_=>0,λn=>match n with |15=>4|16=>5|17=>3|18=>6|19=>7|_=>0⟩
set_option maxRecDepth 100000 in
theorem aTb:Tryz.prog.funcs[ren.f 129]? =some (Body.n129 ren):=by
 have h:Tryz.f178=Body.n129 ren:=by kernel_rfl
 exact h▸Tryz.func178
set_option maxRecDepth 100000 in
theorem shf171:Tryz.prog.funcs[ren.f 171]? =some (Body.n171 ren):=by
 have h:Tryz.f243=Body.n171 ren:=by kernel_rfl
 exact h▸Tryz.func243
set_option maxRecDepth 100000 in
theorem shf172:Tryz.prog.funcs[ren.f 172]? =some (Body.n172 ren):=by
 have h:Tryz.f242=Body.n172 ren:=by kernel_rfl
 exact h▸Tryz.func242
set_option maxRecDepth 100000 in
theorem shf205:Tryz.prog.funcs[ren.f 205]? =some (Body.n205 ren):=by
 have h:Tryz.f325=Body.n205 ren:=by kernel_rfl
 exact h▸Tryz.func325
set_option maxRecDepth 100000 in
theorem shf243:Tryz.prog.funcs[ren.f 243]? =some (Body.n243 ren):=by
 have h:Tryz.f280=Body.n243 ren:=by kernel_rfl
 exact h▸Tryz.func280
set_option maxRecDepth 100000 in
theorem shf244:Tryz.prog.funcs[ren.f 244]? =some (Body.n244 ren):=by
 have h:Tryz.f278=Body.n244 ren:=by kernel_rfl
 exact h▸Tryz.func278
set_option maxRecDepth 100000 in
theorem shf245:Tryz.prog.funcs[ren.f 245]? =some (Body.n245 ren):=by
 have h:Tryz.f279=Body.n245 ren:=by kernel_rfl
 exact h▸Tryz.func279
set_option maxRecDepth 100000 in
theorem shf246:Tryz.prog.funcs[ren.f 246]? =some (Body.n246 ren):=by
 have h:Tryz.f297=Body.n246 ren:=by kernel_rfl
 exact h▸Tryz.func297
set_option maxRecDepth 100000 in
theorem shf247:Tryz.prog.funcs[ren.f 247]? =some (Body.n247 ren):=by
 have h:Tryz.f292=Body.n247 ren:=by kernel_rfl
 exact h▸Tryz.func292
set_option maxRecDepth 100000 in
theorem shf279:Tryz.prog.funcs[ren.f 279]? =some (Body.n279 ren):=by
 have h:Tryz.f293=Body.n279 ren:=by kernel_rfl
 exact h▸Tryz.func293
set_option maxRecDepth 100000 in
theorem shf280:Tryz.prog.funcs[ren.f 280]? =some (Body.n280 ren):=by
 have h:Tryz.f294=Body.n280 ren:=by kernel_rfl
 exact h▸Tryz.func294
set_option maxRecDepth 100000 in
theorem shf281:Tryz.prog.funcs[ren.f 281]? =some (Body.n281 ren):=by
 have h:Tryz.f295=Body.n281 ren:=by kernel_rfl
 exact h▸Tryz.func295
set_option maxRecDepth 100000 in
theorem shf282:Tryz.prog.funcs[ren.f 282]? =some (Body.n282 ren):=by
 have h:Tryz.f296=Body.n282 ren:=by kernel_rfl
 exact h▸Tryz.func296
set_option maxRecDepth 100000 in
theorem aUj:Tryz.prog.funcs[ren.f 283]? =some (Body.n283 ren):=by
 have h:Tryz.f257=Body.n283 ren:=by kernel_rfl
 exact h▸Tryz.func257
set_option maxRecDepth 100000 in
theorem shf284:Tryz.prog.funcs[ren.f 284]? =some (Body.n284 ren):=by
 have h:Tryz.f258=Body.n284 ren:=by kernel_rfl
 exact h▸Tryz.func258
set_option maxRecDepth 100000 in
theorem aUh:Tryz.prog.funcs[ren.f 285]? =some (Body.n285 ren):=by
 have h:Tryz.f259=Body.n285 ren:=by kernel_rfl
 exact h▸Tryz.func259
set_option maxRecDepth 100000 in
theorem shf286:Tryz.prog.funcs[ren.f 286]? =some (Body.n286 ren):=by
 have h:Tryz.f260=Body.n286 ren:=by kernel_rfl
 exact h▸Tryz.func260
set_option maxRecDepth 100000 in
theorem shf287:Tryz.prog.funcs[ren.f 287]? =some (Body.n287 ren):=by
 have h:Tryz.f323=Body.n287 ren:=by kernel_rfl
 exact h▸Tryz.func323
set_option maxRecDepth 100000 in
theorem shf316:Tryz.prog.funcs[ren.f 316]? =some (Body.n316 ren):=by
 have h:Tryz.f324=Body.n316 ren:=by kernel_rfl
 exact h▸Tryz.func324
set_option maxRecDepth 100000 in
theorem shf317:Tryz.prog.funcs[ren.f 317]? =some (Body.n317 ren):=by
 have h:Tryz.f285=Body.n317 ren:=by kernel_rfl
 exact h▸Tryz.func285
set_option maxRecDepth 100000 in
theorem shf318:Tryz.prog.funcs[ren.f 318]? =some (Body.n318 ren):=by
 have h:Tryz.f286=Body.n318 ren:=by kernel_rfl
 exact h▸Tryz.func286
set_option maxRecDepth 100000 in
theorem shf319:Tryz.prog.funcs[ren.f 319]? =some (Body.n319 ren):=by
 have h:Tryz.f287=Body.n319 ren:=by kernel_rfl
 exact h▸Tryz.func287
set_option maxRecDepth 100000 in
theorem shf320:Tryz.prog.funcs[ren.f 320]? =some (Body.n320 ren):=by
 have h:Tryz.f288=Body.n320 ren:=by kernel_rfl
 exact h▸Tryz.func288
set_option maxRecDepth 100000 in
theorem shf321:Tryz.prog.funcs[ren.f 321]? =some (Body.n321 ren):=by
 have h:Tryz.f329=Body.n321 ren:=by kernel_rfl
 exact h▸Tryz.func329
set_option maxRecDepth 100000 in
theorem shf322:Tryz.prog.funcs[ren.f 322]? =some (Body.n322 ren):=by
 have h:Tryz.f330=Body.n322 ren:=by kernel_rfl
 exact h▸Tryz.func330
set_option maxRecDepth 100000 in
theorem shf337:Tryz.prog.funcs[ren.f 337]? =some (Body.n337 ren):=by
 have h:Tryz.f306=Body.n337 ren:=by kernel_rfl
 exact h▸Tryz.func306
set_option maxRecDepth 100000 in
theorem shf338:Tryz.prog.funcs[ren.f 338]? =some (Body.n338 ren):=by
 have h:Tryz.f307=Body.n338 ren:=by kernel_rfl
 exact h▸Tryz.func307
theorem shLays129:Lays.n129 Tryz.prog ren:={mixed:=by kernel_rfl,f129:=aTb,t3:=Tryz.underlying3,a3:=Tryz.isAgg3,z3:=Tryz.sizeOf3,v3:=Tryz.zeroValue3,t4:=Tryz.underlying4,a4:=Tryz.isAgg4,z4:=Tryz.sizeOf4,v4:=Tryz.zeroValue4,t5:=Tryz.underlying5,a5:=Tryz.isAgg5,z5:=Tryz.sizeOf5,v5:=Tryz.zeroValue5,t9:=Tryz.underlying9,a9:=Tryz.isAgg9,z9:=Tryz.sizeOf9,v9:=Tryz.zeroValue9,t46:=Tryz.underlying191,a46:=Tryz.isAgg191,z46:=Tryz.sizeOf191,v46:=Tryz.zeroValue191,t53:=Tryz.underlying250,a53:=Tryz.isAgg250,z53:=Tryz.sizeOf250,v53:=Tryz.zeroValue250}
theorem shLays283:Lays.n283 Tryz.prog ren:={mixed:=by kernel_rfl,f283:=aUj,t3:=Tryz.underlying3,a3:=Tryz.isAgg3,z3:=Tryz.sizeOf3,v3:=Tryz.zeroValue3,t4:=Tryz.underlying4,a4:=Tryz.isAgg4,z4:=Tryz.sizeOf4,v4:=Tryz.zeroValue4,t9:=Tryz.underlying9,a9:=Tryz.isAgg9,z9:=Tryz.sizeOf9,v9:=Tryz.zeroValue9}
theorem shLays285:Lays.n285 Tryz.prog ren:={mixed:=by kernel_rfl,f285:=aUh,t0:=Tryz.underlying0,a0:=Tryz.isAgg0,z0:=Tryz.sizeOf0,v0:=Tryz.zeroValue0,t3:=Tryz.underlying3,a3:=Tryz.isAgg3,z3:=Tryz.sizeOf3,v3:=Tryz.zeroValue3,t4:=Tryz.underlying4,a4:=Tryz.isAgg4,z4:=Tryz.sizeOf4,v4:=Tryz.zeroValue4,t5:=Tryz.underlying5,a5:=Tryz.isAgg5,z5:=Tryz.sizeOf5,v5:=Tryz.zeroValue5,t9:=Tryz.underlying9,a9:=Tryz.isAgg9,z9:=Tryz.sizeOf9,v9:=Tryz.zeroValue9,t37:=Tryz.underlying58,a37:=Tryz.isAgg58,z37:=Tryz.sizeOf58,v37:=Tryz.zeroValue58,t51:=Tryz.underlying248,a51:=Tryz.isAgg248,z51:=Tryz.sizeOf248,v51:=Tryz.zeroValue248,t53:=Tryz.underlying250,a53:=Tryz.isAgg250,z53:=Tryz.sizeOf250,v53:=Tryz.zeroValue250}
theorem aTz:LaysM.n171 Tryz.prog ren:={mixed:=by kernel_rfl,f129:=aTb,f171:=shf171,f243:=shf243,f246:=shf246,f283:=aUj,f284:=shf284,f285:=aUh,f286:=shf286,f317:=shf317,f318:=shf318,f319:=shf319,f320:=shf320,f337:=shf337,f338:=shf338,t0:=Tryz.underlying0,a0:=Tryz.isAgg0,z0:=Tryz.sizeOf0,v0:=Tryz.zeroValue0,t2:=Tryz.underlying2,a2:=Tryz.isAgg2,z2:=Tryz.sizeOf2,v2:=Tryz.zeroValue2,t3:=Tryz.underlying3,a3:=Tryz.isAgg3,z3:=Tryz.sizeOf3,v3:=Tryz.zeroValue3,t4:=Tryz.underlying4,a4:=Tryz.isAgg4,z4:=Tryz.sizeOf4,v4:=Tryz.zeroValue4,t5:=Tryz.underlying5,a5:=Tryz.isAgg5,z5:=Tryz.sizeOf5,v5:=Tryz.zeroValue5,t9:=Tryz.underlying9,a9:=Tryz.isAgg9,z9:=Tryz.sizeOf9,v9:=Tryz.zeroValue9,t20:=Tryz.underlying20,a20:=Tryz.isAgg20,z20:=Tryz.sizeOf20,v20:=Tryz.zeroValue20,t37:=Tryz.underlying58,a37:=Tryz.isAgg58,z37:=Tryz.sizeOf58,v37:=Tryz.zeroValue58,t46:=Tryz.underlying191,a46:=Tryz.isAgg191,z46:=Tryz.sizeOf191,v46:=Tryz.zeroValue191,t51:=Tryz.underlying248,a51:=Tryz.isAgg248,z51:=Tryz.sizeOf248,v51:=Tryz.zeroValue248,t53:=Tryz.underlying250,a53:=Tryz.isAgg250,z53:=Tryz.sizeOf250,v53:=Tryz.zeroValue250,t171:=Tryz.underlying316,a171:=Tryz.isAgg316,z171:=Tryz.sizeOf316,v171:=Tryz.zeroValue316,t173:=Tryz.underlying318,a173:=Tryz.isAgg318,z173:=Tryz.sizeOf318,v173:=Tryz.zeroValue318,t212:=Tryz.underlying338,a212:=Tryz.isAgg338,z212:=Tryz.sizeOf338,v212:=Tryz.zeroValue338,t213:=Tryz.underlying339,a213:=Tryz.isAgg339,z213:=Tryz.sizeOf339,t232:=Tryz.underlying369,a232:=Tryz.isAgg369,z232:=Tryz.sizeOf369,v232:=Tryz.zeroValue369,t233:=Tryz.underlying370,a233:=Tryz.isAgg370,z233:=Tryz.sizeOf370,v233:=Tryz.zeroValue370,g17:=by kernel_rfl,g18:=by kernel_rfl,g19:=by kernel_rfl,i0:=by kernel_rfl,i2:=by kernel_rfl,i3:=by kernel_rfl,i4:=by kernel_rfl,i5:=by kernel_rfl,i9:=by kernel_rfl,i20:=by kernel_rfl,i37:=by kernel_rfl,i46:=by kernel_rfl,i51:=by kernel_rfl,i53:=by kernel_rfl,i171:=by kernel_rfl,i173:=by kernel_rfl,i212:=by kernel_rfl,i232:=by kernel_rfl,i233:=by kernel_rfl,m17:=by kernel_rfl,m18:=by kernel_rfl,m19:=by kernel_rfl}
theorem aLa:LaysC.n172 Tryz.prog ren:={mixed:=by kernel_rfl,f129:=aTb,f171:=shf171,f172:=shf172,f205:=shf205,f243:=shf243,f244:=shf244,f245:=shf245,f246:=shf246,f247:=shf247,f279:=shf279,f280:=shf280,f281:=shf281,f282:=shf282,f283:=aUj,f284:=shf284,f285:=aUh,f286:=shf286,f287:=shf287,f316:=shf316,f317:=shf317,f318:=shf318,f319:=shf319,f320:=shf320,f321:=shf321,f322:=shf322,f337:=shf337,f338:=shf338,t0:=Tryz.underlying0,a0:=Tryz.isAgg0,z0:=Tryz.sizeOf0,v0:=Tryz.zeroValue0,t2:=Tryz.underlying2,a2:=Tryz.isAgg2,z2:=Tryz.sizeOf2,v2:=Tryz.zeroValue2,t3:=Tryz.underlying3,a3:=Tryz.isAgg3,z3:=Tryz.sizeOf3,v3:=Tryz.zeroValue3,t4:=Tryz.underlying4,a4:=Tryz.isAgg4,z4:=Tryz.sizeOf4,v4:=Tryz.zeroValue4,t5:=Tryz.underlying5,a5:=Tryz.isAgg5,z5:=Tryz.sizeOf5,v5:=Tryz.zeroValue5,t9:=Tryz.underlying9,a9:=Tryz.isAgg9,z9:=Tryz.sizeOf9,v9:=Tryz.zeroValue9,t20:=Tryz.underlying20,a20:=Tryz.isAgg20,z20:=Tryz.sizeOf20,v20:=Tryz.zeroValue20,t21:=Tryz.underlying21,a21:=Tryz.isAgg21,z21:=Tryz.sizeOf21,v21:=Tryz.zeroValue21,t37:=Tryz.underlying58,a37:=Tryz.isAgg58,z37:=Tryz.sizeOf58,v37:=Tryz.zeroValue58,t46:=Tryz.underlying191,a46:=Tryz.isAgg191,z46:=Tryz.sizeOf191,v46:=Tryz.zeroValue191,t51:=Tryz.underlying248,a51:=Tryz.isAgg248,z51:=Tryz.sizeOf248,v51:=Tryz.zeroValue248,t53:=Tryz.underlying250,a53:=Tryz.isAgg250,z53:=Tryz.sizeOf250,v53:=Tryz.zeroValue250,t75:=Tryz.underlying305,a75:=Tryz.isAgg305,z75:=Tryz.sizeOf305,v75:=Tryz.zeroValue305,t76:=Tryz.underlying306,a76:=Tryz.isAgg306,z76:=Tryz.sizeOf306,v76:=Tryz.zeroValue306,t85:=Tryz.underlying347,a85:=Tryz.isAgg347,z85:=Tryz.sizeOf347,v85:=Tryz.zeroValue347,t127:=Tryz.underlying372,a127:=Tryz.isAgg372,z127:=Tryz.sizeOf372,v127:=Tryz.zeroValue372,t143:=Tryz.underlying373,a143:=Tryz.isAgg373,z143:=Tryz.sizeOf373,v143:=Tryz.zeroValue373,t145:=Tryz.underlying375,a145:=Tryz.isAgg375,z145:=Tryz.sizeOf375,v145:=Tryz.zeroValue375,t167:=Tryz.underlying346,a167:=Tryz.isAgg346,z167:=Tryz.sizeOf346,v167:=Tryz.zeroValue346,t168:=Tryz.underlying349,a168:=Tryz.isAgg349,z168:=Tryz.sizeOf349,v168:=Tryz.zeroValue349,t171:=Tryz.underlying316,a171:=Tryz.isAgg316,z171:=Tryz.sizeOf316,v171:=Tryz.zeroValue316,t173:=Tryz.underlying318,a173:=Tryz.isAgg318,z173:=Tryz.sizeOf318,v173:=Tryz.zeroValue318,t175:=Tryz.underlying361,a175:=Tryz.isAgg361,z175:=Tryz.sizeOf361,v175:=Tryz.zeroValue361,t210:=Tryz.underlying365,a210:=Tryz.isAgg365,z210:=Tryz.sizeOf365,v210:=Tryz.zeroValue365,t212:=Tryz.underlying338,a212:=Tryz.isAgg338,z212:=Tryz.sizeOf338,v212:=Tryz.zeroValue338,t213:=Tryz.underlying339,a213:=Tryz.isAgg339,z213:=Tryz.sizeOf339,t232:=Tryz.underlying369,a232:=Tryz.isAgg369,z232:=Tryz.sizeOf369,v232:=Tryz.zeroValue369,t233:=Tryz.underlying370,a233:=Tryz.isAgg370,z233:=Tryz.sizeOf370,v233:=Tryz.zeroValue370,g15:=by kernel_rfl,g16:=by kernel_rfl,g17:=by kernel_rfl,g18:=by kernel_rfl,g19:=by kernel_rfl,t80:=Tryz.underlying62,a80:=Tryz.isAgg62,z80:=Tryz.sizeOf62,v80:=Tryz.zeroValue62,i0:=by kernel_rfl,i2:=by kernel_rfl,i3:=by kernel_rfl,i4:=by kernel_rfl,i5:=by kernel_rfl,i9:=by kernel_rfl,i20:=by kernel_rfl,i21:=by kernel_rfl,i37:=by kernel_rfl,i46:=by kernel_rfl,i51:=by kernel_rfl,i53:=by kernel_rfl,i75:=by kernel_rfl,i76:=by kernel_rfl,i80:=by kernel_rfl,i85:=by kernel_rfl,i127:=by kernel_rfl,i143:=by kernel_rfl,i145:=by kernel_rfl,i167:=by kernel_rfl,i168:=by kernel_rfl,i171:=by kernel_rfl,i173:=by kernel_rfl,i175:=by kernel_rfl,i210:=by kernel_rfl,i212:=by kernel_rfl,i232:=by kernel_rfl,i233:=by kernel_rfl,m15:=by kernel_rfl,m16:=by kernel_rfl,m17:=by kernel_rfl,m18:=by kernel_rfl,m19:=by kernel_rfl,c0:=by kernel_rfl,c2:=by kernel_rfl,c3:=by kernel_rfl,c4:=by kernel_rfl,c5:=by kernel_rfl,c9:=by kernel_rfl,c20:=by kernel_rfl,c21:=by kernel_rfl,c37:=by kernel_rfl,c46:=by kernel_rfl,c51:=by kernel_rfl,c53:=by kernel_rfl,c75:=by kernel_rfl,c76:=by kernel_rfl,c80:=by kernel_rfl,c85:=by kernel_rfl,c127:=by kernel_rfl,c143:=by kernel_rfl,c145:=by kernel_rfl,c167:=by kernel_rfl,c168:=by kernel_rfl,c171:=by kernel_rfl,c173:=by kernel_rfl,c175:=by kernel_rfl,c210:=by kernel_rfl,c212:=by kernel_rfl,c213:=by kernel_rfl,c232:=by kernel_rfl,c233:=by kernel_rfl}
end Go.Proofs.YtbjofgmdhbiekaaGreatDoor
