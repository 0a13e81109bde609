/- Laws that the claim stands on; no condition beyond those stated. -/
import Derived.Test.YteljpoagacbmoaaGreatDoorRows
import Derived.Shelf.Strconv.Itoa3
import Derived.Shelf.Strings.OnBuilder
import Derived.Shelf.LaysC
namespace Go.Proofs.YteljpoagacbmoaaGreatDoor
open Go Go.Shelf
def ren:Go.Shelf.Ren:=⟨λn=>match n with |129=>257|156=>214|165=>246|166=>118|169=>121|171=>111|172=>239|205=>293|240=>174|241=>274|243=>164|244=>271|245=>272|246=>203|247=>284|276=>213|277=>289|279=>285|280=>286|281=>287|282=>288|283=>228|284=>229|285=>230|286=>231|287=>291|316=>292|317=>263|318=>264|319=>265|320=>266|321=>294|322=>295|337=>281|338=>282|_=>0,λn=>match n with |0=>0|2=>2|3=>3|4=>4|5=>5|9=>9|20=>20|21=>21|31=>25|37=>68|46=>304|51=>333|53=>282|70=>190|72=>192|75=>194|76=>195|80=>76|85=>353|127=>261|143=>371|145=>373|164=>297|167=>352|168=>355|171=>311|173=>314|175=>364|210=>368|212=>340|213=>341|232=>362|233=>363|_=>0,λn=>match n with |15=>5|16=>6|17=>2|18=>3|19=>4|_=>0⟩
set_option maxRecDepth 100000 in
theorem aXu:Tryz.prog.funcs[ren.f 129]? =some (Body.n129 ren):=by
 have h:Tryz.f257=Body.n129 ren:=by kernel_rfl
 exact h▸Tryz.func257
set_option maxRecDepth 100000 in
theorem shf156:Tryz.prog.funcs[ren.f 156]? =some (Body.n156 ren):=by
 have h:Tryz.f214=Body.n156 ren:=by kernel_rfl
 exact h▸Tryz.func214
set_option maxRecDepth 100000 in
theorem shf165:Tryz.prog.funcs[ren.f 165]? =some (Body.n165 ren):=by
 have h:Tryz.f246=Body.n165 ren:=by kernel_rfl
 exact h▸Tryz.func246
set_option maxRecDepth 100000 in
theorem shf166:Tryz.prog.funcs[ren.f 166]? =some (Body.n166 ren):=by
 have h:Tryz.f118=Body.n166 ren:=by kernel_rfl
 exact h▸Tryz.func118
set_option maxRecDepth 100000 in
theorem shf169:Tryz.prog.funcs[ren.f 169]? =some (Body.n169 ren):=by
 have h:Tryz.f121=Body.n169 ren:=by kernel_rfl
 exact h▸Tryz.func121
set_option maxRecDepth 100000 in
theorem shf171:Tryz.prog.funcs[ren.f 171]? =some (Body.n171 ren):=by
 have h:Tryz.f111=Body.n171 ren:=by kernel_rfl
 exact h▸Tryz.func111
set_option maxRecDepth 100000 in
theorem shf172:Tryz.prog.funcs[ren.f 172]? =some (Body.n172 ren):=by
 have h:Tryz.f239=Body.n172 ren:=by kernel_rfl
 exact h▸Tryz.func239
set_option maxRecDepth 100000 in
theorem shf205:Tryz.prog.funcs[ren.f 205]? =some (Body.n205 ren):=by
 have h:Tryz.f293=Body.n205 ren:=by kernel_rfl
 exact h▸Tryz.func293
set_option maxRecDepth 100000 in
theorem shf240:Tryz.prog.funcs[ren.f 240]? =some (Body.n240 ren):=by
 have h:Tryz.f174=Body.n240 ren:=by kernel_rfl
 exact h▸Tryz.func174
set_option maxRecDepth 100000 in
theorem shf241:Tryz.prog.funcs[ren.f 241]? =some (Body.n241 ren):=by
 have h:Tryz.f274=Body.n241 ren:=by kernel_rfl
 exact h▸Tryz.func274
set_option maxRecDepth 100000 in
theorem shf243:Tryz.prog.funcs[ren.f 243]? =some (Body.n243 ren):=by
 have h:Tryz.f164=Body.n243 ren:=by kernel_rfl
 exact h▸Tryz.func164
set_option maxRecDepth 100000 in
theorem shf244:Tryz.prog.funcs[ren.f 244]? =some (Body.n244 ren):=by
 have h:Tryz.f271=Body.n244 ren:=by kernel_rfl
 exact h▸Tryz.func271
set_option maxRecDepth 100000 in
theorem shf245:Tryz.prog.funcs[ren.f 245]? =some (Body.n245 ren):=by
 have h:Tryz.f272=Body.n245 ren:=by kernel_rfl
 exact h▸Tryz.func272
set_option maxRecDepth 100000 in
theorem shf246:Tryz.prog.funcs[ren.f 246]? =some (Body.n246 ren):=by
 have h:Tryz.f203=Body.n246 ren:=by kernel_rfl
 exact h▸Tryz.func203
set_option maxRecDepth 100000 in
theorem shf247:Tryz.prog.funcs[ren.f 247]? =some (Body.n247 ren):=by
 have h:Tryz.f284=Body.n247 ren:=by kernel_rfl
 exact h▸Tryz.func284
set_option maxRecDepth 100000 in
theorem shf276:Tryz.prog.funcs[ren.f 276]? =some (Body.n276 ren):=by
 have h:Tryz.f213=Body.n276 ren:=by kernel_rfl
 exact h▸Tryz.func213
set_option maxRecDepth 100000 in
theorem shf277:Tryz.prog.funcs[ren.f 277]? =some (Body.n277 ren):=by
 have h:Tryz.f289=Body.n277 ren:=by kernel_rfl
 exact h▸Tryz.func289
set_option maxRecDepth 100000 in
theorem shf279:Tryz.prog.funcs[ren.f 279]? =some (Body.n279 ren):=by
 have h:Tryz.f285=Body.n279 ren:=by kernel_rfl
 exact h▸Tryz.func285
set_option maxRecDepth 100000 in
theorem shf280:Tryz.prog.funcs[ren.f 280]? =some (Body.n280 ren):=by
 have h:Tryz.f286=Body.n280 ren:=by kernel_rfl
 exact h▸Tryz.func286
set_option maxRecDepth 100000 in
theorem shf281:Tryz.prog.funcs[ren.f 281]? =some (Body.n281 ren):=by
 have h:Tryz.f287=Body.n281 ren:=by kernel_rfl
 exact h▸Tryz.func287
set_option maxRecDepth 100000 in
theorem shf282:Tryz.prog.funcs[ren.f 282]? =some (Body.n282 ren):=by
 have h:Tryz.f288=Body.n282 ren:=by kernel_rfl
 exact h▸Tryz.func288
set_option maxRecDepth 100000 in
theorem aXh:Tryz.prog.funcs[ren.f 283]? =some (Body.n283 ren):=by
 have h:Tryz.f228=Body.n283 ren:=by kernel_rfl
 exact h▸Tryz.func228
set_option maxRecDepth 100000 in
theorem shf284:Tryz.prog.funcs[ren.f 284]? =some (Body.n284 ren):=by
 have h:Tryz.f229=Body.n284 ren:=by kernel_rfl
 exact h▸Tryz.func229
set_option maxRecDepth 100000 in
theorem aYo:Tryz.prog.funcs[ren.f 285]? =some (Body.n285 ren):=by
 have h:Tryz.f230=Body.n285 ren:=by kernel_rfl
 exact h▸Tryz.func230
set_option maxRecDepth 100000 in
theorem shf286:Tryz.prog.funcs[ren.f 286]? =some (Body.n286 ren):=by
 have h:Tryz.f231=Body.n286 ren:=by kernel_rfl
 exact h▸Tryz.func231
set_option maxRecDepth 100000 in
theorem shf287:Tryz.prog.funcs[ren.f 287]? =some (Body.n287 ren):=by
 have h:Tryz.f291=Body.n287 ren:=by kernel_rfl
 exact h▸Tryz.func291
set_option maxRecDepth 100000 in
theorem shf316:Tryz.prog.funcs[ren.f 316]? =some (Body.n316 ren):=by
 have h:Tryz.f292=Body.n316 ren:=by kernel_rfl
 exact h▸Tryz.func292
set_option maxRecDepth 100000 in
theorem shf317:Tryz.prog.funcs[ren.f 317]? =some (Body.n317 ren):=by
 have h:Tryz.f263=Body.n317 ren:=by kernel_rfl
 exact h▸Tryz.func263
set_option maxRecDepth 100000 in
theorem shf318:Tryz.prog.funcs[ren.f 318]? =some (Body.n318 ren):=by
 have h:Tryz.f264=Body.n318 ren:=by kernel_rfl
 exact h▸Tryz.func264
set_option maxRecDepth 100000 in
theorem shf319:Tryz.prog.funcs[ren.f 319]? =some (Body.n319 ren):=by
 have h:Tryz.f265=Body.n319 ren:=by kernel_rfl
 exact h▸Tryz.func265
set_option maxRecDepth 100000 in
theorem shf320:Tryz.prog.funcs[ren.f 320]? =some (Body.n320 ren):=by
 have h:Tryz.f266=Body.n320 ren:=by kernel_rfl
 exact h▸Tryz.func266
set_option maxRecDepth 100000 in
theorem shf321:Tryz.prog.funcs[ren.f 321]? =some (Body.n321 ren):=by
 have h:Tryz.f294=Body.n321 ren:=by kernel_rfl
 exact h▸Tryz.func294
set_option maxRecDepth 100000 in
theorem shf322:Tryz.prog.funcs[ren.f 322]? =some (Body.n322 ren):=by
 have h:Tryz.f295=Body.n322 ren:=by kernel_rfl
 exact h▸Tryz.func295
set_option maxRecDepth 100000 in
theorem shf337:Tryz.prog.funcs[ren.f 337]? =some (Body.n337 ren):=by
 have h:Tryz.f281=Body.n337 ren:=by kernel_rfl
 exact h▸Tryz.func281
set_option maxRecDepth 100000 in
theorem shf338:Tryz.prog.funcs[ren.f 338]? =some (Body.n338 ren):=by
 have h:Tryz.f282=Body.n338 ren:=by kernel_rfl
 exact h▸Tryz.func282
theorem shLays129:Lays.n129 Tryz.prog ren:={mixed:=by kernel_rfl,f129:=aXu,t3:=Tryz.underlying3,a3:=Tryz.isAgg3,z3:=Tryz.sizeOf3,v3:=Tryz.zeroValue3,t4:=Tryz.underlying4,a4:=Tryz.isAgg4,z4:=Tryz.sizeOf4,v4:=Tryz.zeroValue4,t5:=Tryz.underlying5,a5:=Tryz.isAgg5,z5:=Tryz.sizeOf5,v5:=Tryz.zeroValue5,t9:=Tryz.underlying9,a9:=Tryz.isAgg9,z9:=Tryz.sizeOf9,v9:=Tryz.zeroValue9,t46:=Tryz.underlying304,a46:=Tryz.isAgg304,z46:=Tryz.sizeOf304,v46:=Tryz.zeroValue304,t53:=Tryz.underlying282,a53:=Tryz.isAgg282,z53:=Tryz.sizeOf282,v53:=Tryz.zeroValue282}
theorem shLays283:Lays.n283 Tryz.prog ren:={mixed:=by kernel_rfl,f283:=aXh,t3:=Tryz.underlying3,a3:=Tryz.isAgg3,z3:=Tryz.sizeOf3,v3:=Tryz.zeroValue3,t4:=Tryz.underlying4,a4:=Tryz.isAgg4,z4:=Tryz.sizeOf4,v4:=Tryz.zeroValue4,t9:=Tryz.underlying9,a9:=Tryz.isAgg9,z9:=Tryz.sizeOf9,v9:=Tryz.zeroValue9}
theorem shLays285:Lays.n285 Tryz.prog ren:={mixed:=by kernel_rfl,f285:=aYo,t0:=Tryz.underlying0,a0:=Tryz.isAgg0,z0:=Tryz.sizeOf0,v0:=Tryz.zeroValue0,t3:=Tryz.underlying3,a3:=Tryz.isAgg3,z3:=Tryz.sizeOf3,v3:=Tryz.zeroValue3,t4:=Tryz.underlying4,a4:=Tryz.isAgg4,z4:=Tryz.sizeOf4,v4:=Tryz.zeroValue4,t5:=Tryz.underlying5,a5:=Tryz.isAgg5,z5:=Tryz.sizeOf5,v5:=Tryz.zeroValue5,t9:=Tryz.underlying9,a9:=Tryz.isAgg9,z9:=Tryz.sizeOf9,v9:=Tryz.zeroValue9,t37:=Tryz.underlying68,a37:=Tryz.isAgg68,z37:=Tryz.sizeOf68,v37:=Tryz.zeroValue68,t51:=Tryz.underlying333,a51:=Tryz.isAgg333,z51:=Tryz.sizeOf333,v51:=Tryz.zeroValue333,t53:=Tryz.underlying282,a53:=Tryz.isAgg282,z53:=Tryz.sizeOf282,v53:=Tryz.zeroValue282}
theorem aWw:LaysM.n171 Tryz.prog ren:={mixed:=by kernel_rfl,f129:=aXu,f171:=shf171,f243:=shf243,f246:=shf246,f283:=aXh,f284:=shf284,f285:=aYo,f286:=shf286,f317:=shf317,f318:=shf318,f319:=shf319,f320:=shf320,f337:=shf337,f338:=shf338,t0:=Tryz.underlying0,a0:=Tryz.isAgg0,z0:=Tryz.sizeOf0,v0:=Tryz.zeroValue0,t2:=Tryz.underlying2,a2:=Tryz.isAgg2,z2:=Tryz.sizeOf2,v2:=Tryz.zeroValue2,t3:=Tryz.underlying3,a3:=Tryz.isAgg3,z3:=Tryz.sizeOf3,v3:=Tryz.zeroValue3,t4:=Tryz.underlying4,a4:=Tryz.isAgg4,z4:=Tryz.sizeOf4,v4:=Tryz.zeroValue4,t5:=Tryz.underlying5,a5:=Tryz.isAgg5,z5:=Tryz.sizeOf5,v5:=Tryz.zeroValue5,t9:=Tryz.underlying9,a9:=Tryz.isAgg9,z9:=Tryz.sizeOf9,v9:=Tryz.zeroValue9,t20:=Tryz.underlying20,a20:=Tryz.isAgg20,z20:=Tryz.sizeOf20,v20:=Tryz.zeroValue20,t37:=Tryz.underlying68,a37:=Tryz.isAgg68,z37:=Tryz.sizeOf68,v37:=Tryz.zeroValue68,t46:=Tryz.underlying304,a46:=Tryz.isAgg304,z46:=Tryz.sizeOf304,v46:=Tryz.zeroValue304,t51:=Tryz.underlying333,a51:=Tryz.isAgg333,z51:=Tryz.sizeOf333,v51:=Tryz.zeroValue333,t53:=Tryz.underlying282,a53:=Tryz.isAgg282,z53:=Tryz.sizeOf282,v53:=Tryz.zeroValue282,t171:=Tryz.underlying311,a171:=Tryz.isAgg311,z171:=Tryz.sizeOf311,v171:=Tryz.zeroValue311,t173:=Tryz.underlying314,a173:=Tryz.isAgg314,z173:=Tryz.sizeOf314,v173:=Tryz.zeroValue314,t212:=Tryz.underlying340,a212:=Tryz.isAgg340,z212:=Tryz.sizeOf340,v212:=Tryz.zeroValue340,t213:=Tryz.underlying341,a213:=Tryz.isAgg341,z213:=Tryz.sizeOf341,t232:=Tryz.underlying362,a232:=Tryz.isAgg362,z232:=Tryz.sizeOf362,v232:=Tryz.zeroValue362,t233:=Tryz.underlying363,a233:=Tryz.isAgg363,z233:=Tryz.sizeOf363,v233:=Tryz.zeroValue363,g17:=by kernel_rfl,g18:=by kernel_rfl,g19:=by kernel_rfl,i0:=by kernel_rfl,i2:=by kernel_rfl,i3:=by kernel_rfl,i4:=by kernel_rfl,i5:=by kernel_rfl,i9:=by kernel_rfl,i20:=by kernel_rfl,i37:=by kernel_rfl,i46:=by kernel_rfl,i51:=by kernel_rfl,i53:=by kernel_rfl,i171:=by kernel_rfl,i173:=by kernel_rfl,i212:=by kernel_rfl,i232:=by kernel_rfl,i233:=by kernel_rfl,m17:=by kernel_rfl,m18:=by kernel_rfl,m19:=by kernel_rfl}
theorem aNz:Lays.n156 Tryz.prog ren:={mixed:=by kernel_rfl,f156:=shf156,f165:=shf165,f166:=shf166,f169:=shf169,f240:=shf240,f241:=shf241,f276:=shf276,f277:=shf277,t0:=Tryz.underlying0,a0:=Tryz.isAgg0,z0:=Tryz.sizeOf0,v0:=Tryz.zeroValue0,t3:=Tryz.underlying3,a3:=Tryz.isAgg3,z3:=Tryz.sizeOf3,v3:=Tryz.zeroValue3,t4:=Tryz.underlying4,a4:=Tryz.isAgg4,z4:=Tryz.sizeOf4,v4:=Tryz.zeroValue4,t9:=Tryz.underlying9,a9:=Tryz.isAgg9,z9:=Tryz.sizeOf9,v9:=Tryz.zeroValue9,t20:=Tryz.underlying20,a20:=Tryz.isAgg20,z20:=Tryz.sizeOf20,v20:=Tryz.zeroValue20,t31:=Tryz.underlying25,a31:=Tryz.isAgg25,z31:=Tryz.sizeOf25,v31:=Tryz.zeroValue25,t37:=Tryz.underlying68,a37:=Tryz.isAgg68,z37:=Tryz.sizeOf68,v37:=Tryz.zeroValue68,t70:=Tryz.underlying190,a70:=Tryz.isAgg190,z70:=Tryz.sizeOf190,v70:=Tryz.zeroValue190,t72:=Tryz.underlying192,a72:=Tryz.isAgg192,z72:=Tryz.sizeOf192,v72:=Tryz.zeroValue192,t75:=Tryz.underlying194,a75:=Tryz.isAgg194,z75:=Tryz.sizeOf194,v75:=Tryz.zeroValue194,t76:=Tryz.underlying195,a76:=Tryz.isAgg195,z76:=Tryz.sizeOf195,v76:=Tryz.zeroValue195,t127:=Tryz.underlying261,a127:=Tryz.isAgg261,z127:=Tryz.sizeOf261,v127:=Tryz.zeroValue261,t164:=Tryz.underlying297,a164:=Tryz.isAgg297,z164:=Tryz.sizeOf297,v164:=Tryz.zeroValue297}
theorem aGr:Lays.n169 Tryz.prog ren:={mixed:=by kernel_rfl,f169:=shf169,t0:=Tryz.underlying0,a0:=Tryz.isAgg0,z0:=Tryz.sizeOf0,v0:=Tryz.zeroValue0,t3:=Tryz.underlying3,a3:=Tryz.isAgg3,z3:=Tryz.sizeOf3,v3:=Tryz.zeroValue3,t9:=Tryz.underlying9,a9:=Tryz.isAgg9,z9:=Tryz.sizeOf9,v9:=Tryz.zeroValue9,t37:=Tryz.underlying68,a37:=Tryz.isAgg68,z37:=Tryz.sizeOf68,v37:=Tryz.zeroValue68,t70:=Tryz.underlying190,a70:=Tryz.isAgg190,z70:=Tryz.sizeOf190,v70:=Tryz.zeroValue190,t72:=Tryz.underlying192,a72:=Tryz.isAgg192,z72:=Tryz.sizeOf192,v72:=Tryz.zeroValue192,t127:=Tryz.underlying261,a127:=Tryz.isAgg261,z127:=Tryz.sizeOf261,v127:=Tryz.zeroValue261}
theorem aOd:Lays.n240 Tryz.prog ren:={mixed:=by kernel_rfl,f240:=shf240,f276:=shf276,t0:=Tryz.underlying0,a0:=Tryz.isAgg0,z0:=Tryz.sizeOf0,v0:=Tryz.zeroValue0,t4:=Tryz.underlying4,a4:=Tryz.isAgg4,z4:=Tryz.sizeOf4,v4:=Tryz.zeroValue4,t9:=Tryz.underlying9,a9:=Tryz.isAgg9,z9:=Tryz.sizeOf9,v9:=Tryz.zeroValue9,t20:=Tryz.underlying20,a20:=Tryz.isAgg20,z20:=Tryz.sizeOf20,v20:=Tryz.zeroValue20,t70:=Tryz.underlying190,a70:=Tryz.isAgg190,z70:=Tryz.sizeOf190,v70:=Tryz.zeroValue190,t72:=Tryz.underlying192,a72:=Tryz.isAgg192,z72:=Tryz.sizeOf192,v72:=Tryz.zeroValue192,t164:=Tryz.underlying297,a164:=Tryz.isAgg297,z164:=Tryz.sizeOf297,v164:=Tryz.zeroValue297}
theorem aJx:LaysC.n172 Tryz.prog ren:={mixed:=by kernel_rfl,f129:=aXu,f171:=shf171,f172:=shf172,f205:=shf205,f243:=shf243,f244:=shf244,f245:=shf245,f246:=shf246,f247:=shf247,f279:=shf279,f280:=shf280,f281:=shf281,f282:=shf282,f283:=aXh,f284:=shf284,f285:=aYo,f286:=shf286,f287:=shf287,f316:=shf316,f317:=shf317,f318:=shf318,f319:=shf319,f320:=shf320,f321:=shf321,f322:=shf322,f337:=shf337,f338:=shf338,t0:=Tryz.underlying0,a0:=Tryz.isAgg0,z0:=Tryz.sizeOf0,v0:=Tryz.zeroValue0,t2:=Tryz.underlying2,a2:=Tryz.isAgg2,z2:=Tryz.sizeOf2,v2:=Tryz.zeroValue2,t3:=Tryz.underlying3,a3:=Tryz.isAgg3,z3:=Tryz.sizeOf3,v3:=Tryz.zeroValue3,t4:=Tryz.underlying4,a4:=Tryz.isAgg4,z4:=Tryz.sizeOf4,v4:=Tryz.zeroValue4,t5:=Tryz.underlying5,a5:=Tryz.isAgg5,z5:=Tryz.sizeOf5,v5:=Tryz.zeroValue5,t9:=Tryz.underlying9,a9:=Tryz.isAgg9,z9:=Tryz.sizeOf9,v9:=Tryz.zeroValue9,t20:=Tryz.underlying20,a20:=Tryz.isAgg20,z20:=Tryz.sizeOf20,v20:=Tryz.zeroValue20,t21:=Tryz.underlying21,a21:=Tryz.isAgg21,z21:=Tryz.sizeOf21,v21:=Tryz.zeroValue21,t37:=Tryz.underlying68,a37:=Tryz.isAgg68,z37:=Tryz.sizeOf68,v37:=Tryz.zeroValue68,t46:=Tryz.underlying304,a46:=Tryz.isAgg304,z46:=Tryz.sizeOf304,v46:=Tryz.zeroValue304,t51:=Tryz.underlying333,a51:=Tryz.isAgg333,z51:=Tryz.sizeOf333,v51:=Tryz.zeroValue333,t53:=Tryz.underlying282,a53:=Tryz.isAgg282,z53:=Tryz.sizeOf282,v53:=Tryz.zeroValue282,t75:=Tryz.underlying194,a75:=Tryz.isAgg194,z75:=Tryz.sizeOf194,v75:=Tryz.zeroValue194,t76:=Tryz.underlying195,a76:=Tryz.isAgg195,z76:=Tryz.sizeOf195,v76:=Tryz.zeroValue195,t85:=Tryz.underlying353,a85:=Tryz.isAgg353,z85:=Tryz.sizeOf353,v85:=Tryz.zeroValue353,t127:=Tryz.underlying261,a127:=Tryz.isAgg261,z127:=Tryz.sizeOf261,v127:=Tryz.zeroValue261,t143:=Tryz.underlying371,a143:=Tryz.isAgg371,z143:=Tryz.sizeOf371,v143:=Tryz.zeroValue371,t145:=Tryz.underlying373,a145:=Tryz.isAgg373,z145:=Tryz.sizeOf373,v145:=Tryz.zeroValue373,t167:=Tryz.underlying352,a167:=Tryz.isAgg352,z167:=Tryz.sizeOf352,v167:=Tryz.zeroValue352,t168:=Tryz.underlying355,a168:=Tryz.isAgg355,z168:=Tryz.sizeOf355,v168:=Tryz.zeroValue355,t171:=Tryz.underlying311,a171:=Tryz.isAgg311,z171:=Tryz.sizeOf311,v171:=Tryz.zeroValue311,t173:=Tryz.underlying314,a173:=Tryz.isAgg314,z173:=Tryz.sizeOf314,v173:=Tryz.zeroValue314,t175:=Tryz.underlying364,a175:=Tryz.isAgg364,z175:=Tryz.sizeOf364,v175:=Tryz.zeroValue364,t210:=Tryz.underlying368,a210:=Tryz.isAgg368,z210:=Tryz.sizeOf368,v210:=Tryz.zeroValue368,t212:=Tryz.underlying340,a212:=Tryz.isAgg340,z212:=Tryz.sizeOf340,v212:=Tryz.zeroValue340,t213:=Tryz.underlying341,a213:=Tryz.isAgg341,z213:=Tryz.sizeOf341,t232:=Tryz.underlying362,a232:=Tryz.isAgg362,z232:=Tryz.sizeOf362,v232:=Tryz.zeroValue362,t233:=Tryz.underlying363,a233:=Tryz.isAgg363,z233:=Tryz.sizeOf363,v233:=Tryz.zeroValue363,g15:=by kernel_rfl,g16:=by kernel_rfl,g17:=by kernel_rfl,g18:=by kernel_rfl,g19:=by kernel_rfl,t80:=Tryz.underlying76,a80:=Tryz.isAgg76,z80:=Tryz.sizeOf76,v80:=Tryz.zeroValue76,i0:=by kernel_rfl,i2:=by kernel_rfl,i3:=by kernel_rfl,i4:=by kernel_rfl,i5:=by kernel_rfl,i9:=by kernel_rfl,i20:=by kernel_rfl,i21:=by kernel_rfl,i37:=by kernel_rfl,i46:=by kernel_rfl,i51:=by kernel_rfl,i53:=by kernel_rfl,i75:=by kernel_rfl,i76:=by kernel_rfl,i80:=by kernel_rfl,i85:=by kernel_rfl,i127:=by kernel_rfl,i143:=by kernel_rfl,i145:=by kernel_rfl,i167:=by kernel_rfl,i168:=by kernel_rfl,i171:=by kernel_rfl,i173:=by kernel_rfl,i175:=by kernel_rfl,i210:=by kernel_rfl,i212:=by kernel_rfl,i232:=by kernel_rfl,i233:=by kernel_rfl,m15:=by kernel_rfl,m16:=by kernel_rfl,m17:=by kernel_rfl,m18:=by kernel_rfl,m19:=by kernel_rfl,c0:=by kernel_rfl,c2:=by kernel_rfl,c3:=by kernel_rfl,c4:=by kernel_rfl,c5:=by kernel_rfl,c9:=by kernel_rfl,c20:=by kernel_rfl,c21:=by kernel_rfl,c37:=by kernel_rfl,c46:=by kernel_rfl,c51:=by kernel_rfl,c53:=by kernel_rfl,c75:=by kernel_rfl,c76:=by kernel_rfl,c80:=by kernel_rfl,c85:=by kernel_rfl,c127:=by kernel_rfl,c143:=by kernel_rfl,c145:=by kernel_rfl,c167:=by kernel_rfl,c168:=by kernel_rfl,c171:=by kernel_rfl,c173:=by kernel_rfl,c175:=by kernel_rfl,c210:=by kernel_rfl,c212:=by kernel_rfl,c213:=by kernel_rfl,c232:=by kernel_rfl,c233:=by kernel_rfl}
theorem shX:Go.Proofs.Builder.Extra Tryz.prog ren:={sizeBuilder:=by kernel_rfl,liesBuilder:=by kernel_rfl,t5:=Tryz.underlying5,a5:=Tryz.isAgg5,z5:=Tryz.sizeOf5,v5:=Tryz.zeroValue5,infoByte:=by kernel_rfl,cellsByte:=by kernel_rfl,sizeByte:=by kernel_rfl,neB5:=by decide}
end Go.Proofs.YteljpoagacbmoaaGreatDoor
