/- Laws that the claim stands on; no condition beyond those stated. -/
import Derived.Test.YthfeackbhgmfbaaGreatDoorRows
import Derived.Shelf.Strconv.Itoa3
import Derived.Shelf.Strings.OnBuilder
import Derived.Shelf.LaysC
namespace Go.Proofs.YthfeackbhgmfbaaGreatDoor
open Go Go.Shelf
def ren:Go.Shelf.Ren:=⟨λn=>match n with |129=>153|156=>131|165=>170|166=>43|169=>46|171=>79|172=>159|205=>215|240=>78|241=>197|243=>130|244=>193|245=>194|246=>169|247=>206|276=>129|277=>211|279=>207|280=>208|281=>209|282=>210|283=>107|284=>108|285=>109|286=>110|287=>213|316=>214|317=>152|318=>154|319=>155|320=>156|321=>216|322=>217|337=>190|338=>191|_=>0,λn=>match n with |0=>0|2=>2|3=>3|4=>4|5=>5|9=>9|20=>20|21=>21|31=>22|37=>29|46=>231|51=>245|53=>151|70=>98|72=>100|75=>102|76=>103|80=>38|85=>286|127=>163|143=>302|145=>304|164=>224|167=>285|168=>288|171=>210|173=>213|175=>295|210=>299|212=>244|213=>246|232=>283|233=>284|_=>0,λn=>match n with |15=>5|16=>6|17=>1|18=>3|19=>4|_=>0⟩
set_option maxRecDepth 100000 in
theorem aYr:Tryz.prog.funcs[ren.f 129]? =some (Body.n129 ren):=by
 have h:Tryz.f153=Body.n129 ren:=by kernel_rfl
 exact h▸Tryz.func153
set_option maxRecDepth 100000 in
theorem shf156:Tryz.prog.funcs[ren.f 156]? =some (Body.n156 ren):=by
 have h:Tryz.f131=Body.n156 ren:=by kernel_rfl
 exact h▸Tryz.func131
set_option maxRecDepth 100000 in
theorem shf165:Tryz.prog.funcs[ren.f 165]? =some (Body.n165 ren):=by
 have h:Tryz.f170=Body.n165 ren:=by kernel_rfl
 exact h▸Tryz.func170
set_option maxRecDepth 100000 in
theorem shf166:Tryz.prog.funcs[ren.f 166]? =some (Body.n166 ren):=by
 have h:Tryz.f43=Body.n166 ren:=by kernel_rfl
 exact h▸Tryz.func43
set_option maxRecDepth 100000 in
theorem shf169:Tryz.prog.funcs[ren.f 169]? =some (Body.n169 ren):=by
 have h:Tryz.f46=Body.n169 ren:=by kernel_rfl
 exact h▸Tryz.func46
set_option maxRecDepth 100000 in
theorem shf171:Tryz.prog.funcs[ren.f 171]? =some (Body.n171 ren):=by
 have h:Tryz.f79=Body.n171 ren:=by kernel_rfl
 exact h▸Tryz.func79
set_option maxRecDepth 100000 in
theorem shf172:Tryz.prog.funcs[ren.f 172]? =some (Body.n172 ren):=by
 have h:Tryz.f159=Body.n172 ren:=by kernel_rfl
 exact h▸Tryz.func159
set_option maxRecDepth 100000 in
theorem shf205:Tryz.prog.funcs[ren.f 205]? =some (Body.n205 ren):=by
 have h:Tryz.f215=Body.n205 ren:=by kernel_rfl
 exact h▸Tryz.func215
set_option maxRecDepth 100000 in
theorem shf240:Tryz.prog.funcs[ren.f 240]? =some (Body.n240 ren):=by
 have h:Tryz.f78=Body.n240 ren:=by kernel_rfl
 exact h▸Tryz.func78
set_option maxRecDepth 100000 in
theorem shf241:Tryz.prog.funcs[ren.f 241]? =some (Body.n241 ren):=by
 have h:Tryz.f197=Body.n241 ren:=by kernel_rfl
 exact h▸Tryz.func197
set_option maxRecDepth 100000 in
theorem shf243:Tryz.prog.funcs[ren.f 243]? =some (Body.n243 ren):=by
 have h:Tryz.f130=Body.n243 ren:=by kernel_rfl
 exact h▸Tryz.func130
set_option maxRecDepth 100000 in
theorem shf244:Tryz.prog.funcs[ren.f 244]? =some (Body.n244 ren):=by
 have h:Tryz.f193=Body.n244 ren:=by kernel_rfl
 exact h▸Tryz.func193
set_option maxRecDepth 100000 in
theorem shf245:Tryz.prog.funcs[ren.f 245]? =some (Body.n245 ren):=by
 have h:Tryz.f194=Body.n245 ren:=by kernel_rfl
 exact h▸Tryz.func194
set_option maxRecDepth 100000 in
theorem shf246:Tryz.prog.funcs[ren.f 246]? =some (Body.n246 ren):=by
 have h:Tryz.f169=Body.n246 ren:=by kernel_rfl
 exact h▸Tryz.func169
set_option maxRecDepth 100000 in
theorem shf247:Tryz.prog.funcs[ren.f 247]? =some (Body.n247 ren):=by
 have h:Tryz.f206=Body.n247 ren:=by kernel_rfl
 exact h▸Tryz.func206
set_option maxRecDepth 100000 in
theorem shf276:Tryz.prog.funcs[ren.f 276]? =some (Body.n276 ren):=by
 have h:Tryz.f129=Body.n276 ren:=by kernel_rfl
 exact h▸Tryz.func129
set_option maxRecDepth 100000 in
theorem shf277:Tryz.prog.funcs[ren.f 277]? =some (Body.n277 ren):=by
 have h:Tryz.f211=Body.n277 ren:=by kernel_rfl
 exact h▸Tryz.func211
set_option maxRecDepth 100000 in
theorem shf279:Tryz.prog.funcs[ren.f 279]? =some (Body.n279 ren):=by
 have h:Tryz.f207=Body.n279 ren:=by kernel_rfl
 exact h▸Tryz.func207
set_option maxRecDepth 100000 in
theorem shf280:Tryz.prog.funcs[ren.f 280]? =some (Body.n280 ren):=by
 have h:Tryz.f208=Body.n280 ren:=by kernel_rfl
 exact h▸Tryz.func208
set_option maxRecDepth 100000 in
theorem shf281:Tryz.prog.funcs[ren.f 281]? =some (Body.n281 ren):=by
 have h:Tryz.f209=Body.n281 ren:=by kernel_rfl
 exact h▸Tryz.func209
set_option maxRecDepth 100000 in
theorem shf282:Tryz.prog.funcs[ren.f 282]? =some (Body.n282 ren):=by
 have h:Tryz.f210=Body.n282 ren:=by kernel_rfl
 exact h▸Tryz.func210
set_option maxRecDepth 100000 in
theorem aXg:Tryz.prog.funcs[ren.f 283]? =some (Body.n283 ren):=by
 have h:Tryz.f107=Body.n283 ren:=by kernel_rfl
 exact h▸Tryz.func107
set_option maxRecDepth 100000 in
theorem shf284:Tryz.prog.funcs[ren.f 284]? =some (Body.n284 ren):=by
 have h:Tryz.f108=Body.n284 ren:=by kernel_rfl
 exact h▸Tryz.func108
set_option maxRecDepth 100000 in
theorem aWp:Tryz.prog.funcs[ren.f 285]? =some (Body.n285 ren):=by
 have h:Tryz.f109=Body.n285 ren:=by kernel_rfl
 exact h▸Tryz.func109
set_option maxRecDepth 100000 in
theorem shf286:Tryz.prog.funcs[ren.f 286]? =some (Body.n286 ren):=by
 have h:Tryz.f110=Body.n286 ren:=by kernel_rfl
 exact h▸Tryz.func110
set_option maxRecDepth 100000 in
theorem shf287:Tryz.prog.funcs[ren.f 287]? =some (Body.n287 ren):=by
 have h:Tryz.f213=Body.n287 ren:=by kernel_rfl
 exact h▸Tryz.func213
set_option maxRecDepth 100000 in
theorem shf316:Tryz.prog.funcs[ren.f 316]? =some (Body.n316 ren):=by
 have h:Tryz.f214=Body.n316 ren:=by kernel_rfl
 exact h▸Tryz.func214
set_option maxRecDepth 100000 in
theorem shf317:Tryz.prog.funcs[ren.f 317]? =some (Body.n317 ren):=by
 have h:Tryz.f152=Body.n317 ren:=by kernel_rfl
 exact h▸Tryz.func152
set_option maxRecDepth 100000 in
theorem shf318:Tryz.prog.funcs[ren.f 318]? =some (Body.n318 ren):=by
 have h:Tryz.f154=Body.n318 ren:=by kernel_rfl
 exact h▸Tryz.func154
set_option maxRecDepth 100000 in
theorem shf319:Tryz.prog.funcs[ren.f 319]? =some (Body.n319 ren):=by
 have h:Tryz.f155=Body.n319 ren:=by kernel_rfl
 exact h▸Tryz.func155
set_option maxRecDepth 100000 in
theorem shf320:Tryz.prog.funcs[ren.f 320]? =some (Body.n320 ren):=by
 have h:Tryz.f156=Body.n320 ren:=by kernel_rfl
 exact h▸Tryz.func156
set_option maxRecDepth 100000 in
theorem shf321:Tryz.prog.funcs[ren.f 321]? =some (Body.n321 ren):=by
 have h:Tryz.f216=Body.n321 ren:=by kernel_rfl
 exact h▸Tryz.func216
set_option maxRecDepth 100000 in
theorem shf322:Tryz.prog.funcs[ren.f 322]? =some (Body.n322 ren):=by
 have h:Tryz.f217=Body.n322 ren:=by kernel_rfl
 exact h▸Tryz.func217
set_option maxRecDepth 100000 in
theorem shf337:Tryz.prog.funcs[ren.f 337]? =some (Body.n337 ren):=by
 have h:Tryz.f190=Body.n337 ren:=by kernel_rfl
 exact h▸Tryz.func190
set_option maxRecDepth 100000 in
theorem shf338:Tryz.prog.funcs[ren.f 338]? =some (Body.n338 ren):=by
 have h:Tryz.f191=Body.n338 ren:=by kernel_rfl
 exact h▸Tryz.func191
theorem shLays129:Lays.n129 Tryz.prog ren:={mixed:=by kernel_rfl,f129:=aYr,t3:=Tryz.underlying3,a3:=Tryz.isAgg3,z3:=Tryz.sizeOf3,v3:=Tryz.zeroValue3,t4:=Tryz.underlying4,a4:=Tryz.isAgg4,z4:=Tryz.sizeOf4,v4:=Tryz.zeroValue4,t5:=Tryz.underlying5,a5:=Tryz.isAgg5,z5:=Tryz.sizeOf5,v5:=Tryz.zeroValue5,t9:=Tryz.underlying9,a9:=Tryz.isAgg9,z9:=Tryz.sizeOf9,v9:=Tryz.zeroValue9,t46:=Tryz.underlying231,a46:=Tryz.isAgg231,z46:=Tryz.sizeOf231,v46:=Tryz.zeroValue231,t53:=Tryz.underlying151,a53:=Tryz.isAgg151,z53:=Tryz.sizeOf151,v53:=Tryz.zeroValue151}
theorem shLays283:Lays.n283 Tryz.prog ren:={mixed:=by kernel_rfl,f283:=aXg,t3:=Tryz.underlying3,a3:=Tryz.isAgg3,z3:=Tryz.sizeOf3,v3:=Tryz.zeroValue3,t4:=Tryz.underlying4,a4:=Tryz.isAgg4,z4:=Tryz.sizeOf4,v4:=Tryz.zeroValue4,t9:=Tryz.underlying9,a9:=Tryz.isAgg9,z9:=Tryz.sizeOf9,v9:=Tryz.zeroValue9}
theorem shLays285:Lays.n285 Tryz.prog ren:={mixed:=by kernel_rfl,f285:=aWp,t0:=Tryz.underlying0,a0:=Tryz.isAgg0,z0:=Tryz.sizeOf0,v0:=Tryz.zeroValue0,t3:=Tryz.underlying3,a3:=Tryz.isAgg3,z3:=Tryz.sizeOf3,v3:=Tryz.zeroValue3,t4:=Tryz.underlying4,a4:=Tryz.isAgg4,z4:=Tryz.sizeOf4,v4:=Tryz.zeroValue4,t5:=Tryz.underlying5,a5:=Tryz.isAgg5,z5:=Tryz.sizeOf5,v5:=Tryz.zeroValue5,t9:=Tryz.underlying9,a9:=Tryz.isAgg9,z9:=Tryz.sizeOf9,v9:=Tryz.zeroValue9,t37:=Tryz.underlying29,a37:=Tryz.isAgg29,z37:=Tryz.sizeOf29,v37:=Tryz.zeroValue29,t51:=Tryz.underlying245,a51:=Tryz.isAgg245,z51:=Tryz.sizeOf245,v51:=Tryz.zeroValue245,t53:=Tryz.underlying151,a53:=Tryz.isAgg151,z53:=Tryz.sizeOf151,v53:=Tryz.zeroValue151}
theorem aYx:LaysM.n171 Tryz.prog ren:={mixed:=by kernel_rfl,f129:=aYr,f171:=shf171,f243:=shf243,f246:=shf246,f283:=aXg,f284:=shf284,f285:=aWp,f286:=shf286,f317:=shf317,f318:=shf318,f319:=shf319,f320:=shf320,f337:=shf337,f338:=shf338,t0:=Tryz.underlying0,a0:=Tryz.isAgg0,z0:=Tryz.sizeOf0,v0:=Tryz.zeroValue0,t2:=Tryz.underlying2,a2:=Tryz.isAgg2,z2:=Tryz.sizeOf2,v2:=Tryz.zeroValue2,t3:=Tryz.underlying3,a3:=Tryz.isAgg3,z3:=Tryz.sizeOf3,v3:=Tryz.zeroValue3,t4:=Tryz.underlying4,a4:=Tryz.isAgg4,z4:=Tryz.sizeOf4,v4:=Tryz.zeroValue4,t5:=Tryz.underlying5,a5:=Tryz.isAgg5,z5:=Tryz.sizeOf5,v5:=Tryz.zeroValue5,t9:=Tryz.underlying9,a9:=Tryz.isAgg9,z9:=Tryz.sizeOf9,v9:=Tryz.zeroValue9,t20:=Tryz.underlying20,a20:=Tryz.isAgg20,z20:=Tryz.sizeOf20,v20:=Tryz.zeroValue20,t37:=Tryz.underlying29,a37:=Tryz.isAgg29,z37:=Tryz.sizeOf29,v37:=Tryz.zeroValue29,t46:=Tryz.underlying231,a46:=Tryz.isAgg231,z46:=Tryz.sizeOf231,v46:=Tryz.zeroValue231,t51:=Tryz.underlying245,a51:=Tryz.isAgg245,z51:=Tryz.sizeOf245,v51:=Tryz.zeroValue245,t53:=Tryz.underlying151,a53:=Tryz.isAgg151,z53:=Tryz.sizeOf151,v53:=Tryz.zeroValue151,t171:=Tryz.underlying210,a171:=Tryz.isAgg210,z171:=Tryz.sizeOf210,v171:=Tryz.zeroValue210,t173:=Tryz.underlying213,a173:=Tryz.isAgg213,z173:=Tryz.sizeOf213,v173:=Tryz.zeroValue213,t212:=Tryz.underlying244,a212:=Tryz.isAgg244,z212:=Tryz.sizeOf244,v212:=Tryz.zeroValue244,t213:=Tryz.underlying246,a213:=Tryz.isAgg246,z213:=Tryz.sizeOf246,t232:=Tryz.underlying283,a232:=Tryz.isAgg283,z232:=Tryz.sizeOf283,v232:=Tryz.zeroValue283,t233:=Tryz.underlying284,a233:=Tryz.isAgg284,z233:=Tryz.sizeOf284,v233:=Tryz.zeroValue284,g17:=by kernel_rfl,g18:=by kernel_rfl,g19:=by kernel_rfl,i0:=by kernel_rfl,i2:=by kernel_rfl,i3:=by kernel_rfl,i4:=by kernel_rfl,i5:=by kernel_rfl,i9:=by kernel_rfl,i20:=by kernel_rfl,i37:=by kernel_rfl,i46:=by kernel_rfl,i51:=by kernel_rfl,i53:=by kernel_rfl,i171:=by kernel_rfl,i173:=by kernel_rfl,i212:=by kernel_rfl,i232:=by kernel_rfl,i233:=by kernel_rfl,m17:=by kernel_rfl,m18:=by kernel_rfl,m19:=by kernel_rfl}
theorem aPl:Lays.n156 Tryz.prog ren:={mixed:=by kernel_rfl,f156:=shf156,f165:=shf165,f166:=shf166,f169:=shf169,f240:=shf240,f241:=shf241,f276:=shf276,f277:=shf277,t0:=Tryz.underlying0,a0:=Tryz.isAgg0,z0:=Tryz.sizeOf0,v0:=Tryz.zeroValue0,t3:=Tryz.underlying3,a3:=Tryz.isAgg3,z3:=Tryz.sizeOf3,v3:=Tryz.zeroValue3,t4:=Tryz.underlying4,a4:=Tryz.isAgg4,z4:=Tryz.sizeOf4,v4:=Tryz.zeroValue4,t9:=Tryz.underlying9,a9:=Tryz.isAgg9,z9:=Tryz.sizeOf9,v9:=Tryz.zeroValue9,t20:=Tryz.underlying20,a20:=Tryz.isAgg20,z20:=Tryz.sizeOf20,v20:=Tryz.zeroValue20,t31:=Tryz.underlying22,a31:=Tryz.isAgg22,z31:=Tryz.sizeOf22,v31:=Tryz.zeroValue22,t37:=Tryz.underlying29,a37:=Tryz.isAgg29,z37:=Tryz.sizeOf29,v37:=Tryz.zeroValue29,t70:=Tryz.underlying98,a70:=Tryz.isAgg98,z70:=Tryz.sizeOf98,v70:=Tryz.zeroValue98,t72:=Tryz.underlying100,a72:=Tryz.isAgg100,z72:=Tryz.sizeOf100,v72:=Tryz.zeroValue100,t75:=Tryz.underlying102,a75:=Tryz.isAgg102,z75:=Tryz.sizeOf102,v75:=Tryz.zeroValue102,t76:=Tryz.underlying103,a76:=Tryz.isAgg103,z76:=Tryz.sizeOf103,v76:=Tryz.zeroValue103,t127:=Tryz.underlying163,a127:=Tryz.isAgg163,z127:=Tryz.sizeOf163,v127:=Tryz.zeroValue163,t164:=Tryz.underlying224,a164:=Tryz.isAgg224,z164:=Tryz.sizeOf224,v164:=Tryz.zeroValue224}
theorem aHi:Lays.n169 Tryz.prog ren:={mixed:=by kernel_rfl,f169:=shf169,t0:=Tryz.underlying0,a0:=Tryz.isAgg0,z0:=Tryz.sizeOf0,v0:=Tryz.zeroValue0,t3:=Tryz.underlying3,a3:=Tryz.isAgg3,z3:=Tryz.sizeOf3,v3:=Tryz.zeroValue3,t9:=Tryz.underlying9,a9:=Tryz.isAgg9,z9:=Tryz.sizeOf9,v9:=Tryz.zeroValue9,t37:=Tryz.underlying29,a37:=Tryz.isAgg29,z37:=Tryz.sizeOf29,v37:=Tryz.zeroValue29,t70:=Tryz.underlying98,a70:=Tryz.isAgg98,z70:=Tryz.sizeOf98,v70:=Tryz.zeroValue98,t72:=Tryz.underlying100,a72:=Tryz.isAgg100,z72:=Tryz.sizeOf100,v72:=Tryz.zeroValue100,t127:=Tryz.underlying163,a127:=Tryz.isAgg163,z127:=Tryz.sizeOf163,v127:=Tryz.zeroValue163}
theorem aOi:Lays.n240 Tryz.prog ren:={mixed:=by kernel_rfl,f240:=shf240,f276:=shf276,t0:=Tryz.underlying0,a0:=Tryz.isAgg0,z0:=Tryz.sizeOf0,v0:=Tryz.zeroValue0,t4:=Tryz.underlying4,a4:=Tryz.isAgg4,z4:=Tryz.sizeOf4,v4:=Tryz.zeroValue4,t9:=Tryz.underlying9,a9:=Tryz.isAgg9,z9:=Tryz.sizeOf9,v9:=Tryz.zeroValue9,t20:=Tryz.underlying20,a20:=Tryz.isAgg20,z20:=Tryz.sizeOf20,v20:=Tryz.zeroValue20,t70:=Tryz.underlying98,a70:=Tryz.isAgg98,z70:=Tryz.sizeOf98,v70:=Tryz.zeroValue98,t72:=Tryz.underlying100,a72:=Tryz.isAgg100,z72:=Tryz.sizeOf100,v72:=Tryz.zeroValue100,t164:=Tryz.underlying224,a164:=Tryz.isAgg224,z164:=Tryz.sizeOf224,v164:=Tryz.zeroValue224}
theorem aJq:LaysC.n172 Tryz.prog ren:={mixed:=by kernel_rfl,f129:=aYr,f171:=shf171,f172:=shf172,f205:=shf205,f243:=shf243,f244:=shf244,f245:=shf245,f246:=shf246,f247:=shf247,f279:=shf279,f280:=shf280,f281:=shf281,f282:=shf282,f283:=aXg,f284:=shf284,f285:=aWp,f286:=shf286,f287:=shf287,f316:=shf316,f317:=shf317,f318:=shf318,f319:=shf319,f320:=shf320,f321:=shf321,f322:=shf322,f337:=shf337,f338:=shf338,t0:=Tryz.underlying0,a0:=Tryz.isAgg0,z0:=Tryz.sizeOf0,v0:=Tryz.zeroValue0,t2:=Tryz.underlying2,a2:=Tryz.isAgg2,z2:=Tryz.sizeOf2,v2:=Tryz.zeroValue2,t3:=Tryz.underlying3,a3:=Tryz.isAgg3,z3:=Tryz.sizeOf3,v3:=Tryz.zeroValue3,t4:=Tryz.underlying4,a4:=Tryz.isAgg4,z4:=Tryz.sizeOf4,v4:=Tryz.zeroValue4,t5:=Tryz.underlying5,a5:=Tryz.isAgg5,z5:=Tryz.sizeOf5,v5:=Tryz.zeroValue5,t9:=Tryz.underlying9,a9:=Tryz.isAgg9,z9:=Tryz.sizeOf9,v9:=Tryz.zeroValue9,t20:=Tryz.underlying20,a20:=Tryz.isAgg20,z20:=Tryz.sizeOf20,v20:=Tryz.zeroValue20,t21:=Tryz.underlying21,a21:=Tryz.isAgg21,z21:=Tryz.sizeOf21,v21:=Tryz.zeroValue21,t37:=Tryz.underlying29,a37:=Tryz.isAgg29,z37:=Tryz.sizeOf29,v37:=Tryz.zeroValue29,t46:=Tryz.underlying231,a46:=Tryz.isAgg231,z46:=Tryz.sizeOf231,v46:=Tryz.zeroValue231,t51:=Tryz.underlying245,a51:=Tryz.isAgg245,z51:=Tryz.sizeOf245,v51:=Tryz.zeroValue245,t53:=Tryz.underlying151,a53:=Tryz.isAgg151,z53:=Tryz.sizeOf151,v53:=Tryz.zeroValue151,t75:=Tryz.underlying102,a75:=Tryz.isAgg102,z75:=Tryz.sizeOf102,v75:=Tryz.zeroValue102,t76:=Tryz.underlying103,a76:=Tryz.isAgg103,z76:=Tryz.sizeOf103,v76:=Tryz.zeroValue103,t85:=Tryz.underlying286,a85:=Tryz.isAgg286,z85:=Tryz.sizeOf286,v85:=Tryz.zeroValue286,t127:=Tryz.underlying163,a127:=Tryz.isAgg163,z127:=Tryz.sizeOf163,v127:=Tryz.zeroValue163,t143:=Tryz.underlying302,a143:=Tryz.isAgg302,z143:=Tryz.sizeOf302,v143:=Tryz.zeroValue302,t145:=Tryz.underlying304,a145:=Tryz.isAgg304,z145:=Tryz.sizeOf304,v145:=Tryz.zeroValue304,t167:=Tryz.underlying285,a167:=Tryz.isAgg285,z167:=Tryz.sizeOf285,v167:=Tryz.zeroValue285,t168:=Tryz.underlying288,a168:=Tryz.isAgg288,z168:=Tryz.sizeOf288,v168:=Tryz.zeroValue288,t171:=Tryz.underlying210,a171:=Tryz.isAgg210,z171:=Tryz.sizeOf210,v171:=Tryz.zeroValue210,t173:=Tryz.underlying213,a173:=Tryz.isAgg213,z173:=Tryz.sizeOf213,v173:=Tryz.zeroValue213,t175:=Tryz.underlying295,a175:=Tryz.isAgg295,z175:=Tryz.sizeOf295,v175:=Tryz.zeroValue295,t210:=Tryz.underlying299,a210:=Tryz.isAgg299,z210:=Tryz.sizeOf299,v210:=Tryz.zeroValue299,t212:=Tryz.underlying244,a212:=Tryz.isAgg244,z212:=Tryz.sizeOf244,v212:=Tryz.zeroValue244,t213:=Tryz.underlying246,a213:=Tryz.isAgg246,z213:=Tryz.sizeOf246,t232:=Tryz.underlying283,a232:=Tryz.isAgg283,z232:=Tryz.sizeOf283,v232:=Tryz.zeroValue283,t233:=Tryz.underlying284,a233:=Tryz.isAgg284,z233:=Tryz.sizeOf284,v233:=Tryz.zeroValue284,g15:=by kernel_rfl,g16:=by kernel_rfl,g17:=by kernel_rfl,g18:=by kernel_rfl,g19:=by kernel_rfl,t80:=Tryz.underlying38,a80:=Tryz.isAgg38,z80:=Tryz.sizeOf38,v80:=Tryz.zeroValue38,i0:=by kernel_rfl,i2:=by kernel_rfl,i3:=by kernel_rfl,i4:=by kernel_rfl,i5:=by kernel_rfl,i9:=by kernel_rfl,i20:=by kernel_rfl,i21:=by kernel_rfl,i37:=by kernel_rfl,i46:=by kernel_rfl,i51:=by kernel_rfl,i53:=by kernel_rfl,i75:=by kernel_rfl,i76:=by kernel_rfl,i80:=by kernel_rfl,i85:=by kernel_rfl,i127:=by kernel_rfl,i143:=by kernel_rfl,i145:=by kernel_rfl,i167:=by kernel_rfl,i168:=by kernel_rfl,i171:=by kernel_rfl,i173:=by kernel_rfl,i175:=by kernel_rfl,i210:=by kernel_rfl,i212:=by kernel_rfl,i232:=by kernel_rfl,i233:=by kernel_rfl,m15:=by kernel_rfl,m16:=by kernel_rfl,m17:=by kernel_rfl,m18:=by kernel_rfl,m19:=by kernel_rfl,c0:=by kernel_rfl,c2:=by kernel_rfl,c3:=by kernel_rfl,c4:=by kernel_rfl,c5:=by kernel_rfl,c9:=by kernel_rfl,c20:=by kernel_rfl,c21:=by kernel_rfl,c37:=by kernel_rfl,c46:=by kernel_rfl,c51:=by kernel_rfl,c53:=by kernel_rfl,c75:=by kernel_rfl,c76:=by kernel_rfl,c80:=by kernel_rfl,c85:=by kernel_rfl,c127:=by kernel_rfl,c143:=by kernel_rfl,c145:=by kernel_rfl,c167:=by kernel_rfl,c168:=by kernel_rfl,c171:=by kernel_rfl,c173:=by kernel_rfl,c175:=by kernel_rfl,c210:=by kernel_rfl,c212:=by kernel_rfl,c213:=by kernel_rfl,c232:=by kernel_rfl,c233:=by kernel_rfl}
theorem shX:Go.Proofs.Builder.Extra Tryz.prog ren:={sizeBuilder:=by kernel_rfl,liesBuilder:=by kernel_rfl,t5:=Tryz.underlying5,a5:=Tryz.isAgg5,z5:=Tryz.sizeOf5,v5:=Tryz.zeroValue5,infoByte:=by kernel_rfl,cellsByte:=by kernel_rfl,sizeByte:=by kernel_rfl,neB5:=by decide}
end Go.Proofs.YthfeackbhgmfbaaGreatDoor
