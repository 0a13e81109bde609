/- Laws that the claim stands on; no condition beyond those stated. -/
import Derived.Test.YtibkjjklfhfipadGreatDoorRows
import Derived.Shelf.Strconv.Itoa3
import Derived.Shelf.Strings.OnBuilder
import Derived.Shelf.LaysC
namespace Go.Proofs.YtibkjjklfhfipadGreatDoor
open Go Go.Shelf
def ren:Go.Shelf.Ren:=⟨λn=>match n with |129=>148|171=>170|172=>169|205=>208|243=>194|244=>192|245=>193|246=>205|247=>200|279=>201|280=>202|281=>203|282=>204|283=>164|284=>165|285=>166|286=>167|287=>206|316=>207|317=>187|318=>188|319=>189|320=>190|321=>209|322=>210|337=>197|338=>198|_=>0,λn=>match n with |0=>0|2=>2|3=>3|4=>4|5=>5|9=>9|20=>20|21=>21|31=>22|37=>29|46=>158|51=>185|53=>166|75=>223|76=>224|80=>40|85=>278|127=>293|143=>294|145=>296|164=>311|167=>277|168=>280|171=>217|173=>219|175=>286|210=>290|212=>270|213=>271|232=>284|233=>285|_=>0,λn=>match n with |15=>5|16=>6|17=>1|18=>3|19=>4|_=>0⟩
set_option maxRecDepth 100000 in
theorem aZm:Tryz.prog.funcs[ren.f 129]? =some (Body.n129 ren):=by
 have h:Tryz.f148=Body.n129 ren:=by kernel_rfl
 exact h▸Tryz.func148
set_option maxRecDepth 100000 in
theorem shf171:Tryz.prog.funcs[ren.f 171]? =some (Body.n171 ren):=by
 have h:Tryz.f170=Body.n171 ren:=by kernel_rfl
 exact h▸Tryz.func170
set_option maxRecDepth 100000 in
theorem shf172:Tryz.prog.funcs[ren.f 172]? =some (Body.n172 ren):=by
 have h:Tryz.f169=Body.n172 ren:=by kernel_rfl
 exact h▸Tryz.func169
set_option maxRecDepth 100000 in
theorem shf205:Tryz.prog.funcs[ren.f 205]? =some (Body.n205 ren):=by
 have h:Tryz.f208=Body.n205 ren:=by kernel_rfl
 exact h▸Tryz.func208
set_option maxRecDepth 100000 in
theorem shf243:Tryz.prog.funcs[ren.f 243]? =some (Body.n243 ren):=by
 have h:Tryz.f194=Body.n243 ren:=by kernel_rfl
 exact h▸Tryz.func194
set_option maxRecDepth 100000 in
theorem shf244:Tryz.prog.funcs[ren.f 244]? =some (Body.n244 ren):=by
 have h:Tryz.f192=Body.n244 ren:=by kernel_rfl
 exact h▸Tryz.func192
set_option maxRecDepth 100000 in
theorem shf245:Tryz.prog.funcs[ren.f 245]? =some (Body.n245 ren):=by
 have h:Tryz.f193=Body.n245 ren:=by kernel_rfl
 exact h▸Tryz.func193
set_option maxRecDepth 100000 in
theorem shf246:Tryz.prog.funcs[ren.f 246]? =some (Body.n246 ren):=by
 have h:Tryz.f205=Body.n246 ren:=by kernel_rfl
 exact h▸Tryz.func205
set_option maxRecDepth 100000 in
theorem shf247:Tryz.prog.funcs[ren.f 247]? =some (Body.n247 ren):=by
 have h:Tryz.f200=Body.n247 ren:=by kernel_rfl
 exact h▸Tryz.func200
set_option maxRecDepth 100000 in
theorem shf279:Tryz.prog.funcs[ren.f 279]? =some (Body.n279 ren):=by
 have h:Tryz.f201=Body.n279 ren:=by kernel_rfl
 exact h▸Tryz.func201
set_option maxRecDepth 100000 in
theorem shf280:Tryz.prog.funcs[ren.f 280]? =some (Body.n280 ren):=by
 have h:Tryz.f202=Body.n280 ren:=by kernel_rfl
 exact h▸Tryz.func202
set_option maxRecDepth 100000 in
theorem shf281:Tryz.prog.funcs[ren.f 281]? =some (Body.n281 ren):=by
 have h:Tryz.f203=Body.n281 ren:=by kernel_rfl
 exact h▸Tryz.func203
set_option maxRecDepth 100000 in
theorem shf282:Tryz.prog.funcs[ren.f 282]? =some (Body.n282 ren):=by
 have h:Tryz.f204=Body.n282 ren:=by kernel_rfl
 exact h▸Tryz.func204
set_option maxRecDepth 100000 in
theorem aYh:Tryz.prog.funcs[ren.f 283]? =some (Body.n283 ren):=by
 have h:Tryz.f164=Body.n283 ren:=by kernel_rfl
 exact h▸Tryz.func164
set_option maxRecDepth 100000 in
theorem shf284:Tryz.prog.funcs[ren.f 284]? =some (Body.n284 ren):=by
 have h:Tryz.f165=Body.n284 ren:=by kernel_rfl
 exact h▸Tryz.func165
set_option maxRecDepth 100000 in
theorem aYf:Tryz.prog.funcs[ren.f 285]? =some (Body.n285 ren):=by
 have h:Tryz.f166=Body.n285 ren:=by kernel_rfl
 exact h▸Tryz.func166
set_option maxRecDepth 100000 in
theorem shf286:Tryz.prog.funcs[ren.f 286]? =some (Body.n286 ren):=by
 have h:Tryz.f167=Body.n286 ren:=by kernel_rfl
 exact h▸Tryz.func167
set_option maxRecDepth 100000 in
theorem shf287:Tryz.prog.funcs[ren.f 287]? =some (Body.n287 ren):=by
 have h:Tryz.f206=Body.n287 ren:=by kernel_rfl
 exact h▸Tryz.func206
set_option maxRecDepth 100000 in
theorem shf316:Tryz.prog.funcs[ren.f 316]? =some (Body.n316 ren):=by
 have h:Tryz.f207=Body.n316 ren:=by kernel_rfl
 exact h▸Tryz.func207
set_option maxRecDepth 100000 in
theorem shf317:Tryz.prog.funcs[ren.f 317]? =some (Body.n317 ren):=by
 have h:Tryz.f187=Body.n317 ren:=by kernel_rfl
 exact h▸Tryz.func187
set_option maxRecDepth 100000 in
theorem shf318:Tryz.prog.funcs[ren.f 318]? =some (Body.n318 ren):=by
 have h:Tryz.f188=Body.n318 ren:=by kernel_rfl
 exact h▸Tryz.func188
set_option maxRecDepth 100000 in
theorem shf319:Tryz.prog.funcs[ren.f 319]? =some (Body.n319 ren):=by
 have h:Tryz.f189=Body.n319 ren:=by kernel_rfl
 exact h▸Tryz.func189
set_option maxRecDepth 100000 in
theorem shf320:Tryz.prog.funcs[ren.f 320]? =some (Body.n320 ren):=by
 have h:Tryz.f190=Body.n320 ren:=by kernel_rfl
 exact h▸Tryz.func190
set_option maxRecDepth 100000 in
theorem shf321:Tryz.prog.funcs[ren.f 321]? =some (Body.n321 ren):=by
 have h:Tryz.f209=Body.n321 ren:=by kernel_rfl
 exact h▸Tryz.func209
set_option maxRecDepth 100000 in
theorem shf322:Tryz.prog.funcs[ren.f 322]? =some (Body.n322 ren):=by
 have h:Tryz.f210=Body.n322 ren:=by kernel_rfl
 exact h▸Tryz.func210
set_option maxRecDepth 100000 in
theorem shf337:Tryz.prog.funcs[ren.f 337]? =some (Body.n337 ren):=by
 have h:Tryz.f197=Body.n337 ren:=by kernel_rfl
 exact h▸Tryz.func197
set_option maxRecDepth 100000 in
theorem shf338:Tryz.prog.funcs[ren.f 338]? =some (Body.n338 ren):=by
 have h:Tryz.f198=Body.n338 ren:=by kernel_rfl
 exact h▸Tryz.func198
theorem shLays129:Lays.n129 Tryz.prog ren:={mixed:=by kernel_rfl,f129:=aZm,t3:=Tryz.underlying3,a3:=Tryz.isAgg3,z3:=Tryz.sizeOf3,v3:=Tryz.zeroValue3,t4:=Tryz.underlying4,a4:=Tryz.isAgg4,z4:=Tryz.sizeOf4,v4:=Tryz.zeroValue4,t5:=Tryz.underlying5,a5:=Tryz.isAgg5,z5:=Tryz.sizeOf5,v5:=Tryz.zeroValue5,t9:=Tryz.underlying9,a9:=Tryz.isAgg9,z9:=Tryz.sizeOf9,v9:=Tryz.zeroValue9,t46:=Tryz.underlying158,a46:=Tryz.isAgg158,z46:=Tryz.sizeOf158,v46:=Tryz.zeroValue158,t53:=Tryz.underlying166,a53:=Tryz.isAgg166,z53:=Tryz.sizeOf166,v53:=Tryz.zeroValue166}
theorem shLays283:Lays.n283 Tryz.prog ren:={mixed:=by kernel_rfl,f283:=aYh,t3:=Tryz.underlying3,a3:=Tryz.isAgg3,z3:=Tryz.sizeOf3,v3:=Tryz.zeroValue3,t4:=Tryz.underlying4,a4:=Tryz.isAgg4,z4:=Tryz.sizeOf4,v4:=Tryz.zeroValue4,t9:=Tryz.underlying9,a9:=Tryz.isAgg9,z9:=Tryz.sizeOf9,v9:=Tryz.zeroValue9}
theorem shLays285:Lays.n285 Tryz.prog ren:={mixed:=by kernel_rfl,f285:=aYf,t0:=Tryz.underlying0,a0:=Tryz.isAgg0,z0:=Tryz.sizeOf0,v0:=Tryz.zeroValue0,t3:=Tryz.underlying3,a3:=Tryz.isAgg3,z3:=Tryz.sizeOf3,v3:=Tryz.zeroValue3,t4:=Tryz.underlying4,a4:=Tryz.isAgg4,z4:=Tryz.sizeOf4,v4:=Tryz.zeroValue4,t5:=Tryz.underlying5,a5:=Tryz.isAgg5,z5:=Tryz.sizeOf5,v5:=Tryz.zeroValue5,t9:=Tryz.underlying9,a9:=Tryz.isAgg9,z9:=Tryz.sizeOf9,v9:=Tryz.zeroValue9,t37:=Tryz.underlying29,a37:=Tryz.isAgg29,z37:=Tryz.sizeOf29,v37:=Tryz.zeroValue29,t51:=Tryz.underlying185,a51:=Tryz.isAgg185,z51:=Tryz.sizeOf185,v51:=Tryz.zeroValue185,t53:=Tryz.underlying166,a53:=Tryz.isAgg166,z53:=Tryz.sizeOf166,v53:=Tryz.zeroValue166}
theorem bAo:LaysM.n171 Tryz.prog ren:={mixed:=by kernel_rfl,f129:=aZm,f171:=shf171,f243:=shf243,f246:=shf246,f283:=aYh,f284:=shf284,f285:=aYf,f286:=shf286,f317:=shf317,f318:=shf318,f319:=shf319,f320:=shf320,f337:=shf337,f338:=shf338,t0:=Tryz.underlying0,a0:=Tryz.isAgg0,z0:=Tryz.sizeOf0,v0:=Tryz.zeroValue0,t2:=Tryz.underlying2,a2:=Tryz.isAgg2,z2:=Tryz.sizeOf2,v2:=Tryz.zeroValue2,t3:=Tryz.underlying3,a3:=Tryz.isAgg3,z3:=Tryz.sizeOf3,v3:=Tryz.zeroValue3,t4:=Tryz.underlying4,a4:=Tryz.isAgg4,z4:=Tryz.sizeOf4,v4:=Tryz.zeroValue4,t5:=Tryz.underlying5,a5:=Tryz.isAgg5,z5:=Tryz.sizeOf5,v5:=Tryz.zeroValue5,t9:=Tryz.underlying9,a9:=Tryz.isAgg9,z9:=Tryz.sizeOf9,v9:=Tryz.zeroValue9,t20:=Tryz.underlying20,a20:=Tryz.isAgg20,z20:=Tryz.sizeOf20,v20:=Tryz.zeroValue20,t37:=Tryz.underlying29,a37:=Tryz.isAgg29,z37:=Tryz.sizeOf29,v37:=Tryz.zeroValue29,t46:=Tryz.underlying158,a46:=Tryz.isAgg158,z46:=Tryz.sizeOf158,v46:=Tryz.zeroValue158,t51:=Tryz.underlying185,a51:=Tryz.isAgg185,z51:=Tryz.sizeOf185,v51:=Tryz.zeroValue185,t53:=Tryz.underlying166,a53:=Tryz.isAgg166,z53:=Tryz.sizeOf166,v53:=Tryz.zeroValue166,t171:=Tryz.underlying217,a171:=Tryz.isAgg217,z171:=Tryz.sizeOf217,v171:=Tryz.zeroValue217,t173:=Tryz.underlying219,a173:=Tryz.isAgg219,z173:=Tryz.sizeOf219,v173:=Tryz.zeroValue219,t212:=Tryz.underlying270,a212:=Tryz.isAgg270,z212:=Tryz.sizeOf270,v212:=Tryz.zeroValue270,t213:=Tryz.underlying271,a213:=Tryz.isAgg271,z213:=Tryz.sizeOf271,t232:=Tryz.underlying284,a232:=Tryz.isAgg284,z232:=Tryz.sizeOf284,v232:=Tryz.zeroValue284,t233:=Tryz.underlying285,a233:=Tryz.isAgg285,z233:=Tryz.sizeOf285,v233:=Tryz.zeroValue285,g17:=by kernel_rfl,g18:=by kernel_rfl,g19:=by kernel_rfl,i0:=by kernel_rfl,i2:=by kernel_rfl,i3:=by kernel_rfl,i4:=by kernel_rfl,i5:=by kernel_rfl,i9:=by kernel_rfl,i20:=by kernel_rfl,i37:=by kernel_rfl,i46:=by kernel_rfl,i51:=by kernel_rfl,i53:=by kernel_rfl,i171:=by kernel_rfl,i173:=by kernel_rfl,i212:=by kernel_rfl,i232:=by kernel_rfl,i233:=by kernel_rfl,m17:=by kernel_rfl,m18:=by kernel_rfl,m19:=by kernel_rfl}
theorem aLy:LaysC.n172 Tryz.prog ren:={mixed:=by kernel_rfl,f129:=aZm,f171:=shf171,f172:=shf172,f205:=shf205,f243:=shf243,f244:=shf244,f245:=shf245,f246:=shf246,f247:=shf247,f279:=shf279,f280:=shf280,f281:=shf281,f282:=shf282,f283:=aYh,f284:=shf284,f285:=aYf,f286:=shf286,f287:=shf287,f316:=shf316,f317:=shf317,f318:=shf318,f319:=shf319,f320:=shf320,f321:=shf321,f322:=shf322,f337:=shf337,f338:=shf338,t0:=Tryz.underlying0,a0:=Tryz.isAgg0,z0:=Tryz.sizeOf0,v0:=Tryz.zeroValue0,t2:=Tryz.underlying2,a2:=Tryz.isAgg2,z2:=Tryz.sizeOf2,v2:=Tryz.zeroValue2,t3:=Tryz.underlying3,a3:=Tryz.isAgg3,z3:=Tryz.sizeOf3,v3:=Tryz.zeroValue3,t4:=Tryz.underlying4,a4:=Tryz.isAgg4,z4:=Tryz.sizeOf4,v4:=Tryz.zeroValue4,t5:=Tryz.underlying5,a5:=Tryz.isAgg5,z5:=Tryz.sizeOf5,v5:=Tryz.zeroValue5,t9:=Tryz.underlying9,a9:=Tryz.isAgg9,z9:=Tryz.sizeOf9,v9:=Tryz.zeroValue9,t20:=Tryz.underlying20,a20:=Tryz.isAgg20,z20:=Tryz.sizeOf20,v20:=Tryz.zeroValue20,t21:=Tryz.underlying21,a21:=Tryz.isAgg21,z21:=Tryz.sizeOf21,v21:=Tryz.zeroValue21,t37:=Tryz.underlying29,a37:=Tryz.isAgg29,z37:=Tryz.sizeOf29,v37:=Tryz.zeroValue29,t46:=Tryz.underlying158,a46:=Tryz.isAgg158,z46:=Tryz.sizeOf158,v46:=Tryz.zeroValue158,t51:=Tryz.underlying185,a51:=Tryz.isAgg185,z51:=Tryz.sizeOf185,v51:=Tryz.zeroValue185,t53:=Tryz.underlying166,a53:=Tryz.isAgg166,z53:=Tryz.sizeOf166,v53:=Tryz.zeroValue166,t75:=Tryz.underlying223,a75:=Tryz.isAgg223,z75:=Tryz.sizeOf223,v75:=Tryz.zeroValue223,t76:=Tryz.underlying224,a76:=Tryz.isAgg224,z76:=Tryz.sizeOf224,v76:=Tryz.zeroValue224,t85:=Tryz.underlying278,a85:=Tryz.isAgg278,z85:=Tryz.sizeOf278,v85:=Tryz.zeroValue278,t127:=Tryz.underlying293,a127:=Tryz.isAgg293,z127:=Tryz.sizeOf293,v127:=Tryz.zeroValue293,t143:=Tryz.underlying294,a143:=Tryz.isAgg294,z143:=Tryz.sizeOf294,v143:=Tryz.zeroValue294,t145:=Tryz.underlying296,a145:=Tryz.isAgg296,z145:=Tryz.sizeOf296,v145:=Tryz.zeroValue296,t167:=Tryz.underlying277,a167:=Tryz.isAgg277,z167:=Tryz.sizeOf277,v167:=Tryz.zeroValue277,t168:=Tryz.underlying280,a168:=Tryz.isAgg280,z168:=Tryz.sizeOf280,v168:=Tryz.zeroValue280,t171:=Tryz.underlying217,a171:=Tryz.isAgg217,z171:=Tryz.sizeOf217,v171:=Tryz.zeroValue217,t173:=Tryz.underlying219,a173:=Tryz.isAgg219,z173:=Tryz.sizeOf219,v173:=Tryz.zeroValue219,t175:=Tryz.underlying286,a175:=Tryz.isAgg286,z175:=Tryz.sizeOf286,v175:=Tryz.zeroValue286,t210:=Tryz.underlying290,a210:=Tryz.isAgg290,z210:=Tryz.sizeOf290,v210:=Tryz.zeroValue290,t212:=Tryz.underlying270,a212:=Tryz.isAgg270,z212:=Tryz.sizeOf270,v212:=Tryz.zeroValue270,t213:=Tryz.underlying271,a213:=Tryz.isAgg271,z213:=Tryz.sizeOf271,t232:=Tryz.underlying284,a232:=Tryz.isAgg284,z232:=Tryz.sizeOf284,v232:=Tryz.zeroValue284,t233:=Tryz.underlying285,a233:=Tryz.isAgg285,z233:=Tryz.sizeOf285,v233:=Tryz.zeroValue285,g15:=by kernel_rfl,g16:=by kernel_rfl,g17:=by kernel_rfl,g18:=by kernel_rfl,g19:=by kernel_rfl,t80:=Tryz.underlying40,a80:=Tryz.isAgg40,z80:=Tryz.sizeOf40,v80:=Tryz.zeroValue40,i0:=by kernel_rfl,i2:=by kernel_rfl,i3:=by kernel_rfl,i4:=by kernel_rfl,i5:=by kernel_rfl,i9:=by kernel_rfl,i20:=by kernel_rfl,i21:=by kernel_rfl,i37:=by kernel_rfl,i46:=by kernel_rfl,i51:=by kernel_rfl,i53:=by kernel_rfl,i75:=by kernel_rfl,i76:=by kernel_rfl,i80:=by kernel_rfl,i85:=by kernel_rfl,i127:=by kernel_rfl,i143:=by kernel_rfl,i145:=by kernel_rfl,i167:=by kernel_rfl,i168:=by kernel_rfl,i171:=by kernel_rfl,i173:=by kernel_rfl,i175:=by kernel_rfl,i210:=by kernel_rfl,i212:=by kernel_rfl,i232:=by kernel_rfl,i233:=by kernel_rfl,m15:=by kernel_rfl,m16:=by kernel_rfl,m17:=by kernel_rfl,m18:=by kernel_rfl,m19:=by kernel_rfl,c0:=by kernel_rfl,c2:=by kernel_rfl,c3:=by kernel_rfl,c4:=by kernel_rfl,c5:=by kernel_rfl,c9:=by kernel_rfl,c20:=by kernel_rfl,c21:=by kernel_rfl,c37:=by kernel_rfl,c46:=by kernel_rfl,c51:=by kernel_rfl,c53:=by kernel_rfl,c75:=by kernel_rfl,c76:=by kernel_rfl,c80:=by kernel_rfl,c85:=by kernel_rfl,c127:=by kernel_rfl,c143:=by kernel_rfl,c145:=by kernel_rfl,c167:=by kernel_rfl,c168:=by kernel_rfl,c171:=by kernel_rfl,c173:=by kernel_rfl,c175:=by kernel_rfl,c210:=by kernel_rfl,c212:=by kernel_rfl,c213:=by kernel_rfl,c232:=by kernel_rfl,c233:=by kernel_rfl}
end Go.Proofs.YtibkjjklfhfipadGreatDoor
