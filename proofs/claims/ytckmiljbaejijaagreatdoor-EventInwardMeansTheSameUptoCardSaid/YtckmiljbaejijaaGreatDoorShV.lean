/- The shelf's contracts of Go's library, tied to this program. -/
import Derived.Test.YtckmiljbaejijaaGreatDoorRows
import Derived.Shelf.Strconv.Itoa3
import Derived.Shelf.Strings.OnBuilder
import Derived.Shelf.LaysC
namespace Go.Proofs.YtckmiljbaejijaaGreatDoor
open Go Go.Shelf
def ren:Go.Shelf.Ren:=⟨fun n=>match n with | 129=>238 | 156=>188 | 165=>225 | 166=>68 | 169=>71 | 171=>130 | 172=>213 | 205=>290 | 240=>129 | 241=>260 | 243=>187 | 244=>255 | 245=>256 | 246=>224 | 247=>278 | 276=>186 | 277=>283 | 279=>279 | 280=>280 | 281=>281 | 282=>282 | 283=>249 | 284=>250 | 285=>251 | 286=>252 | 287=>288 | 316=>289 | 317=>272 | 318=>273 | 319=>274 | 320=>275 | 321=>291 | 322=>292 | 337=>286 | 338=>287 | _=>0,fun n=>match n with | 0=>0 | 2=>2 | 3=>3 | 4=>4 | 5=>5 | 9=>9 | 20=>20 | 21=>21 | 31=>22 | 37=>61 | 46=>199 | 51=>317 | 53=>297 | 70=>127 | 72=>129 | 75=>131 | 76=>132 | 80=>66 | 85=>349 | 127=>210 | 143=>367 | 145=>369 | 164=>271 | 167=>348 | 168=>351 | 171=>326 | 173=>328 | 175=>358 | 210=>362 | 212=>346 | 213=>347 | 232=>364 | 233=>365 | _=>0,fun n=>match n with | 15=>4 | 16=>5 | 17=>3 | 18=>6 | 19=>7 | _=>0⟩
set_option maxRecDepth 100000 in
theorem aPh:Tryz.prog.funcs[ren.f 129]? =some (Body.n129 ren):=by
  have h:Tryz.f238=Body.n129 ren:=by kernel_rfl
  exact h ▸ Tryz.func238
set_option maxRecDepth 100000 in
theorem shf156:Tryz.prog.funcs[ren.f 156]? =some (Body.n156 ren):=by
  have h:Tryz.f188=Body.n156 ren:=by kernel_rfl
  exact h ▸ Tryz.func188
set_option maxRecDepth 100000 in
theorem shf165:Tryz.prog.funcs[ren.f 165]? =some (Body.n165 ren):=by
  have h:Tryz.f225=Body.n165 ren:=by kernel_rfl
  exact h ▸ Tryz.func225
set_option maxRecDepth 100000 in
theorem shf166:Tryz.prog.funcs[ren.f 166]? =some (Body.n166 ren):=by
  have h:Tryz.f68=Body.n166 ren:=by kernel_rfl
  exact h ▸ Tryz.func68
set_option maxRecDepth 100000 in
theorem shf169:Tryz.prog.funcs[ren.f 169]? =some (Body.n169 ren):=by
  have h:Tryz.f71=Body.n169 ren:=by kernel_rfl
  exact h ▸ Tryz.func71
set_option maxRecDepth 100000 in
theorem shf171:Tryz.prog.funcs[ren.f 171]? =some (Body.n171 ren):=by
  have h:Tryz.f130=Body.n171 ren:=by kernel_rfl
  exact h ▸ Tryz.func130
set_option maxRecDepth 100000 in
theorem shf172:Tryz.prog.funcs[ren.f 172]? =some (Body.n172 ren):=by
  have h:Tryz.f213=Body.n172 ren:=by kernel_rfl
  exact h ▸ Tryz.func213
set_option maxRecDepth 100000 in
theorem shf205:Tryz.prog.funcs[ren.f 205]? =some (Body.n205 ren):=by
  have h:Tryz.f290=Body.n205 ren:=by kernel_rfl
  exact h ▸ Tryz.func290
set_option maxRecDepth 100000 in
theorem shf240:Tryz.prog.funcs[ren.f 240]? =some (Body.n240 ren):=by
  have h:Tryz.f129=Body.n240 ren:=by kernel_rfl
  exact h ▸ Tryz.func129
set_option maxRecDepth 100000 in
theorem shf241:Tryz.prog.funcs[ren.f 241]? =some (Body.n241 ren):=by
  have h:Tryz.f260=Body.n241 ren:=by kernel_rfl
  exact h ▸ Tryz.func260
set_option maxRecDepth 100000 in
theorem shf243:Tryz.prog.funcs[ren.f 243]? =some (Body.n243 ren):=by
  have h:Tryz.f187=Body.n243 ren:=by kernel_rfl
  exact h ▸ Tryz.func187
set_option maxRecDepth 100000 in
theorem shf244:Tryz.prog.funcs[ren.f 244]? =some (Body.n244 ren):=by
  have h:Tryz.f255=Body.n244 ren:=by kernel_rfl
  exact h ▸ Tryz.func255
set_option maxRecDepth 100000 in
theorem shf245:Tryz.prog.funcs[ren.f 245]? =some (Body.n245 ren):=by
  have h:Tryz.f256=Body.n245 ren:=by kernel_rfl
  exact h ▸ Tryz.func256
set_option maxRecDepth 100000 in
theorem shf246:Tryz.prog.funcs[ren.f 246]? =some (Body.n246 ren):=by
  have h:Tryz.f224=Body.n246 ren:=by kernel_rfl
  exact h ▸ Tryz.func224
set_option maxRecDepth 100000 in
theorem shf247:Tryz.prog.funcs[ren.f 247]? =some (Body.n247 ren):=by
  have h:Tryz.f278=Body.n247 ren:=by kernel_rfl
  exact h ▸ Tryz.func278
set_option maxRecDepth 100000 in
theorem shf276:Tryz.prog.funcs[ren.f 276]? =some (Body.n276 ren):=by
  have h:Tryz.f186=Body.n276 ren:=by kernel_rfl
  exact h ▸ Tryz.func186
set_option maxRecDepth 100000 in
theorem shf277:Tryz.prog.funcs[ren.f 277]? =some (Body.n277 ren):=by
  have h:Tryz.f283=Body.n277 ren:=by kernel_rfl
  exact h ▸ Tryz.func283
set_option maxRecDepth 100000 in
theorem shf279:Tryz.prog.funcs[ren.f 279]? =some (Body.n279 ren):=by
  have h:Tryz.f279=Body.n279 ren:=by kernel_rfl
  exact h ▸ Tryz.func279
set_option maxRecDepth 100000 in
theorem shf280:Tryz.prog.funcs[ren.f 280]? =some (Body.n280 ren):=by
  have h:Tryz.f280=Body.n280 ren:=by kernel_rfl
  exact h ▸ Tryz.func280
set_option maxRecDepth 100000 in
theorem shf281:Tryz.prog.funcs[ren.f 281]? =some (Body.n281 ren):=by
  have h:Tryz.f281=Body.n281 ren:=by kernel_rfl
  exact h ▸ Tryz.func281
set_option maxRecDepth 100000 in
theorem shf282:Tryz.prog.funcs[ren.f 282]? =some (Body.n282 ren):=by
  have h:Tryz.f282=Body.n282 ren:=by kernel_rfl
  exact h ▸ Tryz.func282
set_option maxRecDepth 100000 in
theorem aPv:Tryz.prog.funcs[ren.f 283]? =some (Body.n283 ren):=by
  have h:Tryz.f249=Body.n283 ren:=by kernel_rfl
  exact h ▸ Tryz.func249
set_option maxRecDepth 100000 in
theorem shf284:Tryz.prog.funcs[ren.f 284]? =some (Body.n284 ren):=by
  have h:Tryz.f250=Body.n284 ren:=by kernel_rfl
  exact h ▸ Tryz.func250
set_option maxRecDepth 100000 in
theorem aOz:Tryz.prog.funcs[ren.f 285]? =some (Body.n285 ren):=by
  have h:Tryz.f251=Body.n285 ren:=by kernel_rfl
  exact h ▸ Tryz.func251
set_option maxRecDepth 100000 in
theorem shf286:Tryz.prog.funcs[ren.f 286]? =some (Body.n286 ren):=by
  have h:Tryz.f252=Body.n286 ren:=by kernel_rfl
  exact h ▸ Tryz.func252
set_option maxRecDepth 100000 in
theorem shf287:Tryz.prog.funcs[ren.f 287]? =some (Body.n287 ren):=by
  have h:Tryz.f288=Body.n287 ren:=by kernel_rfl
  exact h ▸ Tryz.func288
set_option maxRecDepth 100000 in
theorem shf316:Tryz.prog.funcs[ren.f 316]? =some (Body.n316 ren):=by
  have h:Tryz.f289=Body.n316 ren:=by kernel_rfl
  exact h ▸ Tryz.func289
set_option maxRecDepth 100000 in
theorem shf317:Tryz.prog.funcs[ren.f 317]? =some (Body.n317 ren):=by
  have h:Tryz.f272=Body.n317 ren:=by kernel_rfl
  exact h ▸ Tryz.func272
set_option maxRecDepth 100000 in
theorem shf318:Tryz.prog.funcs[ren.f 318]? =some (Body.n318 ren):=by
  have h:Tryz.f273=Body.n318 ren:=by kernel_rfl
  exact h ▸ Tryz.func273
set_option maxRecDepth 100000 in
theorem shf319:Tryz.prog.funcs[ren.f 319]? =some (Body.n319 ren):=by
  have h:Tryz.f274=Body.n319 ren:=by kernel_rfl
  exact h ▸ Tryz.func274
set_option maxRecDepth 100000 in
theorem shf320:Tryz.prog.funcs[ren.f 320]? =some (Body.n320 ren):=by
  have h:Tryz.f275=Body.n320 ren:=by kernel_rfl
  exact h ▸ Tryz.func275
set_option maxRecDepth 100000 in
theorem shf321:Tryz.prog.funcs[ren.f 321]? =some (Body.n321 ren):=by
  have h:Tryz.f291=Body.n321 ren:=by kernel_rfl
  exact h ▸ Tryz.func291
set_option maxRecDepth 100000 in
theorem shf322:Tryz.prog.funcs[ren.f 322]? =some (Body.n322 ren):=by
  have h:Tryz.f292=Body.n322 ren:=by kernel_rfl
  exact h ▸ Tryz.func292
set_option maxRecDepth 100000 in
theorem shf337:Tryz.prog.funcs[ren.f 337]? =some (Body.n337 ren):=by
  have h:Tryz.f286=Body.n337 ren:=by kernel_rfl
  exact h ▸ Tryz.func286
set_option maxRecDepth 100000 in
theorem shf338:Tryz.prog.funcs[ren.f 338]? =some (Body.n338 ren):=by
  have h:Tryz.f287=Body.n338 ren:=by kernel_rfl
  exact h ▸ Tryz.func287
theorem shLays129:Lays.n129 Tryz.prog ren:={mixed:=by kernel_rfl,f129:=aPh,t3:=Tryz.underlying3,a3:=Tryz.isAgg3,z3:=Tryz.sizeOf3,v3:=Tryz.zeroValue3,t4:=Tryz.underlying4,a4:=Tryz.isAgg4,z4:=Tryz.sizeOf4,v4:=Tryz.zeroValue4,t5:=Tryz.underlying5,a5:=Tryz.isAgg5,z5:=Tryz.sizeOf5,v5:=Tryz.zeroValue5,t9:=Tryz.underlying9,a9:=Tryz.isAgg9,z9:=Tryz.sizeOf9,v9:=Tryz.zeroValue9,t46:=Tryz.underlying199,a46:=Tryz.isAgg199,z46:=Tryz.sizeOf199,v46:=Tryz.zeroValue199,t53:=Tryz.underlying297,a53:=Tryz.isAgg297,z53:=Tryz.sizeOf297,v53:=Tryz.zeroValue297}
theorem shLays283:Lays.n283 Tryz.prog ren:={mixed:=by kernel_rfl,f283:=aPv,t3:=Tryz.underlying3,a3:=Tryz.isAgg3,z3:=Tryz.sizeOf3,v3:=Tryz.zeroValue3,t4:=Tryz.underlying4,a4:=Tryz.isAgg4,z4:=Tryz.sizeOf4,v4:=Tryz.zeroValue4,t9:=Tryz.underlying9,a9:=Tryz.isAgg9,z9:=Tryz.sizeOf9,v9:=Tryz.zeroValue9}
theorem shLays285:Lays.n285 Tryz.prog ren:={mixed:=by kernel_rfl,f285:=aOz,t0:=Tryz.underlying0,a0:=Tryz.isAgg0,z0:=Tryz.sizeOf0,v0:=Tryz.zeroValue0,t3:=Tryz.underlying3,a3:=Tryz.isAgg3,z3:=Tryz.sizeOf3,v3:=Tryz.zeroValue3,t4:=Tryz.underlying4,a4:=Tryz.isAgg4,z4:=Tryz.sizeOf4,v4:=Tryz.zeroValue4,t5:=Tryz.underlying5,a5:=Tryz.isAgg5,z5:=Tryz.sizeOf5,v5:=Tryz.zeroValue5,t9:=Tryz.underlying9,a9:=Tryz.isAgg9,z9:=Tryz.sizeOf9,v9:=Tryz.zeroValue9,t37:=Tryz.underlying61,a37:=Tryz.isAgg61,z37:=Tryz.sizeOf61,v37:=Tryz.zeroValue61,t51:=Tryz.underlying317,a51:=Tryz.isAgg317,z51:=Tryz.sizeOf317,v51:=Tryz.zeroValue317,t53:=Tryz.underlying297,a53:=Tryz.isAgg297,z53:=Tryz.sizeOf297,v53:=Tryz.zeroValue297}
theorem aPk:LaysM.n171 Tryz.prog ren:={mixed:=by kernel_rfl,f129:=aPh,f171:=shf171,f243:=shf243,f246:=shf246,f283:=aPv,f284:=shf284,f285:=aOz,f286:=shf286,f317:=shf317,f318:=shf318,f319:=shf319,f320:=shf320,f337:=shf337,f338:=shf338,t0:=Tryz.underlying0,a0:=Tryz.isAgg0,z0:=Tryz.sizeOf0,v0:=Tryz.zeroValue0,t2:=Tryz.underlying2,a2:=Tryz.isAgg2,z2:=Tryz.sizeOf2,v2:=Tryz.zeroValue2,t3:=Tryz.underlying3,a3:=Tryz.isAgg3,z3:=Tryz.sizeOf3,v3:=Tryz.zeroValue3,t4:=Tryz.underlying4,a4:=Tryz.isAgg4,z4:=Tryz.sizeOf4,v4:=Tryz.zeroValue4,t5:=Tryz.underlying5,a5:=Tryz.isAgg5,z5:=Tryz.sizeOf5,v5:=Tryz.zeroValue5,t9:=Tryz.underlying9,a9:=Tryz.isAgg9,z9:=Tryz.sizeOf9,v9:=Tryz.zeroValue9,t20:=Tryz.underlying20,a20:=Tryz.isAgg20,z20:=Tryz.sizeOf20,v20:=Tryz.zeroValue20,t37:=Tryz.underlying61,a37:=Tryz.isAgg61,z37:=Tryz.sizeOf61,v37:=Tryz.zeroValue61,t46:=Tryz.underlying199,a46:=Tryz.isAgg199,z46:=Tryz.sizeOf199,v46:=Tryz.zeroValue199,t51:=Tryz.underlying317,a51:=Tryz.isAgg317,z51:=Tryz.sizeOf317,v51:=Tryz.zeroValue317,t53:=Tryz.underlying297,a53:=Tryz.isAgg297,z53:=Tryz.sizeOf297,v53:=Tryz.zeroValue297,t171:=Tryz.underlying326,a171:=Tryz.isAgg326,z171:=Tryz.sizeOf326,v171:=Tryz.zeroValue326,t173:=Tryz.underlying328,a173:=Tryz.isAgg328,z173:=Tryz.sizeOf328,v173:=Tryz.zeroValue328,t212:=Tryz.underlying346,a212:=Tryz.isAgg346,z212:=Tryz.sizeOf346,v212:=Tryz.zeroValue346,t213:=Tryz.underlying347,a213:=Tryz.isAgg347,z213:=Tryz.sizeOf347,t232:=Tryz.underlying364,a232:=Tryz.isAgg364,z232:=Tryz.sizeOf364,v232:=Tryz.zeroValue364,t233:=Tryz.underlying365,a233:=Tryz.isAgg365,z233:=Tryz.sizeOf365,v233:=Tryz.zeroValue365,g17:=by kernel_rfl,g18:=by kernel_rfl,g19:=by kernel_rfl,i0:=by kernel_rfl,i2:=by kernel_rfl,i3:=by kernel_rfl,i4:=by kernel_rfl,i5:=by kernel_rfl,i9:=by kernel_rfl,i20:=by kernel_rfl,i37:=by kernel_rfl,i46:=by kernel_rfl,i51:=by kernel_rfl,i53:=by kernel_rfl,i171:=by kernel_rfl,i173:=by kernel_rfl,i212:=by kernel_rfl,i232:=by kernel_rfl,i233:=by kernel_rfl,m17:=by kernel_rfl,m18:=by kernel_rfl,m19:=by kernel_rfl}
theorem aHb:Lays.n156 Tryz.prog ren:={mixed:=by kernel_rfl,f156:=shf156,f165:=shf165,f166:=shf166,f169:=shf169,f240:=shf240,f241:=shf241,f276:=shf276,f277:=shf277,t0:=Tryz.underlying0,a0:=Tryz.isAgg0,z0:=Tryz.sizeOf0,v0:=Tryz.zeroValue0,t3:=Tryz.underlying3,a3:=Tryz.isAgg3,z3:=Tryz.sizeOf3,v3:=Tryz.zeroValue3,t4:=Tryz.underlying4,a4:=Tryz.isAgg4,z4:=Tryz.sizeOf4,v4:=Tryz.zeroValue4,t9:=Tryz.underlying9,a9:=Tryz.isAgg9,z9:=Tryz.sizeOf9,v9:=Tryz.zeroValue9,t20:=Tryz.underlying20,a20:=Tryz.isAgg20,z20:=Tryz.sizeOf20,v20:=Tryz.zeroValue20,t31:=Tryz.underlying22,a31:=Tryz.isAgg22,z31:=Tryz.sizeOf22,v31:=Tryz.zeroValue22,t37:=Tryz.underlying61,a37:=Tryz.isAgg61,z37:=Tryz.sizeOf61,v37:=Tryz.zeroValue61,t70:=Tryz.underlying127,a70:=Tryz.isAgg127,z70:=Tryz.sizeOf127,v70:=Tryz.zeroValue127,t72:=Tryz.underlying129,a72:=Tryz.isAgg129,z72:=Tryz.sizeOf129,v72:=Tryz.zeroValue129,t75:=Tryz.underlying131,a75:=Tryz.isAgg131,z75:=Tryz.sizeOf131,v75:=Tryz.zeroValue131,t76:=Tryz.underlying132,a76:=Tryz.isAgg132,z76:=Tryz.sizeOf132,v76:=Tryz.zeroValue132,t127:=Tryz.underlying210,a127:=Tryz.isAgg210,z127:=Tryz.sizeOf210,v127:=Tryz.zeroValue210,t164:=Tryz.underlying271,a164:=Tryz.isAgg271,z164:=Tryz.sizeOf271,v164:=Tryz.zeroValue271}
theorem aBl:Lays.n169 Tryz.prog ren:={mixed:=by kernel_rfl,f169:=shf169,t0:=Tryz.underlying0,a0:=Tryz.isAgg0,z0:=Tryz.sizeOf0,v0:=Tryz.zeroValue0,t3:=Tryz.underlying3,a3:=Tryz.isAgg3,z3:=Tryz.sizeOf3,v3:=Tryz.zeroValue3,t9:=Tryz.underlying9,a9:=Tryz.isAgg9,z9:=Tryz.sizeOf9,v9:=Tryz.zeroValue9,t37:=Tryz.underlying61,a37:=Tryz.isAgg61,z37:=Tryz.sizeOf61,v37:=Tryz.zeroValue61,t70:=Tryz.underlying127,a70:=Tryz.isAgg127,z70:=Tryz.sizeOf127,v70:=Tryz.zeroValue127,t72:=Tryz.underlying129,a72:=Tryz.isAgg129,z72:=Tryz.sizeOf129,v72:=Tryz.zeroValue129,t127:=Tryz.underlying210,a127:=Tryz.isAgg210,z127:=Tryz.sizeOf210,v127:=Tryz.zeroValue210}
theorem aHt:Lays.n240 Tryz.prog ren:={mixed:=by kernel_rfl,f240:=shf240,f276:=shf276,t0:=Tryz.underlying0,a0:=Tryz.isAgg0,z0:=Tryz.sizeOf0,v0:=Tryz.zeroValue0,t4:=Tryz.underlying4,a4:=Tryz.isAgg4,z4:=Tryz.sizeOf4,v4:=Tryz.zeroValue4,t9:=Tryz.underlying9,a9:=Tryz.isAgg9,z9:=Tryz.sizeOf9,v9:=Tryz.zeroValue9,t20:=Tryz.underlying20,a20:=Tryz.isAgg20,z20:=Tryz.sizeOf20,v20:=Tryz.zeroValue20,t70:=Tryz.underlying127,a70:=Tryz.isAgg127,z70:=Tryz.sizeOf127,v70:=Tryz.zeroValue127,t72:=Tryz.underlying129,a72:=Tryz.isAgg129,z72:=Tryz.sizeOf129,v72:=Tryz.zeroValue129,t164:=Tryz.underlying271,a164:=Tryz.isAgg271,z164:=Tryz.sizeOf271,v164:=Tryz.zeroValue271}
theorem aEw:LaysC.n172 Tryz.prog ren:={mixed:=by kernel_rfl,f129:=aPh,f171:=shf171,f172:=shf172,f205:=shf205,f243:=shf243,f244:=shf244,f245:=shf245,f246:=shf246,f247:=shf247,f279:=shf279,f280:=shf280,f281:=shf281,f282:=shf282,f283:=aPv,f284:=shf284,f285:=aOz,f286:=shf286,f287:=shf287,f316:=shf316,f317:=shf317,f318:=shf318,f319:=shf319,f320:=shf320,f321:=shf321,f322:=shf322,f337:=shf337,f338:=shf338,t0:=Tryz.underlying0,a0:=Tryz.isAgg0,z0:=Tryz.sizeOf0,v0:=Tryz.zeroValue0,t2:=Tryz.underlying2,a2:=Tryz.isAgg2,z2:=Tryz.sizeOf2,v2:=Tryz.zeroValue2,t3:=Tryz.underlying3,a3:=Tryz.isAgg3,z3:=Tryz.sizeOf3,v3:=Tryz.zeroValue3,t4:=Tryz.underlying4,a4:=Tryz.isAgg4,z4:=Tryz.sizeOf4,v4:=Tryz.zeroValue4,t5:=Tryz.underlying5,a5:=Tryz.isAgg5,z5:=Tryz.sizeOf5,v5:=Tryz.zeroValue5,t9:=Tryz.underlying9,a9:=Tryz.isAgg9,z9:=Tryz.sizeOf9,v9:=Tryz.zeroValue9,t20:=Tryz.underlying20,a20:=Tryz.isAgg20,z20:=Tryz.sizeOf20,v20:=Tryz.zeroValue20,t21:=Tryz.underlying21,a21:=Tryz.isAgg21,z21:=Tryz.sizeOf21,v21:=Tryz.zeroValue21,t37:=Tryz.underlying61,a37:=Tryz.isAgg61,z37:=Tryz.sizeOf61,v37:=Tryz.zeroValue61,t46:=Tryz.underlying199,a46:=Tryz.isAgg199,z46:=Tryz.sizeOf199,v46:=Tryz.zeroValue199,t51:=Tryz.underlying317,a51:=Tryz.isAgg317,z51:=Tryz.sizeOf317,v51:=Tryz.zeroValue317,t53:=Tryz.underlying297,a53:=Tryz.isAgg297,z53:=Tryz.sizeOf297,v53:=Tryz.zeroValue297,t75:=Tryz.underlying131,a75:=Tryz.isAgg131,z75:=Tryz.sizeOf131,v75:=Tryz.zeroValue131,t76:=Tryz.underlying132,a76:=Tryz.isAgg132,z76:=Tryz.sizeOf132,v76:=Tryz.zeroValue132,t85:=Tryz.underlying349,a85:=Tryz.isAgg349,z85:=Tryz.sizeOf349,v85:=Tryz.zeroValue349,t127:=Tryz.underlying210,a127:=Tryz.isAgg210,z127:=Tryz.sizeOf210,v127:=Tryz.zeroValue210,t143:=Tryz.underlying367,a143:=Tryz.isAgg367,z143:=Tryz.sizeOf367,v143:=Tryz.zeroValue367,t145:=Tryz.underlying369,a145:=Tryz.isAgg369,z145:=Tryz.sizeOf369,v145:=Tryz.zeroValue369,t167:=Tryz.underlying348,a167:=Tryz.isAgg348,z167:=Tryz.sizeOf348,v167:=Tryz.zeroValue348,t168:=Tryz.underlying351,a168:=Tryz.isAgg351,z168:=Tryz.sizeOf351,v168:=Tryz.zeroValue351,t171:=Tryz.underlying326,a171:=Tryz.isAgg326,z171:=Tryz.sizeOf326,v171:=Tryz.zeroValue326,t173:=Tryz.underlying328,a173:=Tryz.isAgg328,z173:=Tryz.sizeOf328,v173:=Tryz.zeroValue328,t175:=Tryz.underlying358,a175:=Tryz.isAgg358,z175:=Tryz.sizeOf358,v175:=Tryz.zeroValue358,t210:=Tryz.underlying362,a210:=Tryz.isAgg362,z210:=Tryz.sizeOf362,v210:=Tryz.zeroValue362,t212:=Tryz.underlying346,a212:=Tryz.isAgg346,z212:=Tryz.sizeOf346,v212:=Tryz.zeroValue346,t213:=Tryz.underlying347,a213:=Tryz.isAgg347,z213:=Tryz.sizeOf347,t232:=Tryz.underlying364,a232:=Tryz.isAgg364,z232:=Tryz.sizeOf364,v232:=Tryz.zeroValue364,t233:=Tryz.underlying365,a233:=Tryz.isAgg365,z233:=Tryz.sizeOf365,v233:=Tryz.zeroValue365,g15:=by kernel_rfl,g16:=by kernel_rfl,g17:=by kernel_rfl,g18:=by kernel_rfl,g19:=by kernel_rfl,t80:=Tryz.underlying66,a80:=Tryz.isAgg66,z80:=Tryz.sizeOf66,v80:=Tryz.zeroValue66,i0:=by kernel_rfl,i2:=by kernel_rfl,i3:=by kernel_rfl,i4:=by kernel_rfl,i5:=by kernel_rfl,i9:=by kernel_rfl,i20:=by kernel_rfl,i21:=by kernel_rfl,i37:=by kernel_rfl,i46:=by kernel_rfl,i51:=by kernel_rfl,i53:=by kernel_rfl,i75:=by kernel_rfl,i76:=by kernel_rfl,i80:=by kernel_rfl,i85:=by kernel_rfl,i127:=by kernel_rfl,i143:=by kernel_rfl,i145:=by kernel_rfl,i167:=by kernel_rfl,i168:=by kernel_rfl,i171:=by kernel_rfl,i173:=by kernel_rfl,i175:=by kernel_rfl,i210:=by kernel_rfl,i212:=by kernel_rfl,i232:=by kernel_rfl,i233:=by kernel_rfl,m15:=by kernel_rfl,m16:=by kernel_rfl,m17:=by kernel_rfl,m18:=by kernel_rfl,m19:=by kernel_rfl,c0:=by kernel_rfl,c2:=by kernel_rfl,c3:=by kernel_rfl,c4:=by kernel_rfl,c5:=by kernel_rfl,c9:=by kernel_rfl,c20:=by kernel_rfl,c21:=by kernel_rfl,c37:=by kernel_rfl,c46:=by kernel_rfl,c51:=by kernel_rfl,c53:=by kernel_rfl,c75:=by kernel_rfl,c76:=by kernel_rfl,c80:=by kernel_rfl,c85:=by kernel_rfl,c127:=by kernel_rfl,c143:=by kernel_rfl,c145:=by kernel_rfl,c167:=by kernel_rfl,c168:=by kernel_rfl,c171:=by kernel_rfl,c173:=by kernel_rfl,c175:=by kernel_rfl,c210:=by kernel_rfl,c212:=by kernel_rfl,c213:=by kernel_rfl,c232:=by kernel_rfl,c233:=by kernel_rfl}
theorem shX:Go.Proofs.Builder.Extra Tryz.prog ren:={sizeBuilder:=by kernel_rfl,liesBuilder:=by kernel_rfl,t5:=Tryz.underlying5,a5:=Tryz.isAgg5,z5:=Tryz.sizeOf5,v5:=Tryz.zeroValue5,infoByte:=by kernel_rfl,cellsByte:=by kernel_rfl,sizeByte:=by kernel_rfl,neB5:=by decide}
end Go.Proofs.YtckmiljbaejijaaGreatDoor
