/- Laws that the claim stands on; no condition beyond those stated. -/
import Derived.Test.YtnccbhdmemheeaaGreatDoorRows
import Derived.Shelf.Strconv.Itoa3
import Derived.Shelf.Strings.OnBuilder
import Derived.Shelf.LaysC
namespace Go.Proofs.YtnccbhdmemheeaaGreatDoor
open Go Go.Shelf
def ren:Go.Shelf.Ren:=⟨λn=>match n with |129=>150|156=>128|165=>165|166=>50|169=>53|171=>89|172=>157|205=>200|240=>88|241=>185|243=>127|244=>178|245=>179|246=>164|247=>188|276=>126|277=>197|279=>189|280=>190|281=>191|282=>192|283=>181|284=>182|285=>183|286=>184|287=>198|316=>199|317=>193|318=>194|319=>195|320=>196|321=>203|322=>204|337=>201|338=>202|_=>0,λn=>match n with |0=>0|2=>2|3=>3|4=>4|5=>5|9=>9|20=>20|21=>21|31=>22|37=>87|46=>208|51=>239|53=>241|70=>127|72=>129|75=>131|76=>132|80=>92|85=>274|127=>194|143=>289|145=>291|164=>216|167=>273|168=>276|171=>266|173=>268|175=>282|210=>286|212=>279|213=>280|232=>292|233=>293|_=>0,λn=>match n with |15=>3|16=>4|17=>2|18=>5|19=>6|_=>0⟩
set_option maxRecDepth 100000 in
theorem aWz:Tryz.prog.funcs[ren.f 129]? =some (Body.n129 ren):=by
 have h:Tryz.f150=Body.n129 ren:=by kernel_rfl
 exact h▸Tryz.func150
set_option maxRecDepth 100000 in
theorem shf156:Tryz.prog.funcs[ren.f 156]? =some (Body.n156 ren):=by
 have h:Tryz.f128=Body.n156 ren:=by kernel_rfl
 exact h▸Tryz.func128
set_option maxRecDepth 100000 in
theorem shf165:Tryz.prog.funcs[ren.f 165]? =some (Body.n165 ren):=by
 have h:Tryz.f165=Body.n165 ren:=by kernel_rfl
 exact h▸Tryz.func165
set_option maxRecDepth 100000 in
theorem shf166:Tryz.prog.funcs[ren.f 166]? =some (Body.n166 ren):=by
 have h:Tryz.f50=Body.n166 ren:=by kernel_rfl
 exact h▸Tryz.func50
set_option maxRecDepth 100000 in
theorem shf169:Tryz.prog.funcs[ren.f 169]? =some (Body.n169 ren):=by
 have h:Tryz.f53=Body.n169 ren:=by kernel_rfl
 exact h▸Tryz.func53
set_option maxRecDepth 100000 in
theorem shf171:Tryz.prog.funcs[ren.f 171]? =some (Body.n171 ren):=by
 have h:Tryz.f89=Body.n171 ren:=by kernel_rfl
 exact h▸Tryz.func89
set_option maxRecDepth 100000 in
theorem shf172:Tryz.prog.funcs[ren.f 172]? =some (Body.n172 ren):=by
 have h:Tryz.f157=Body.n172 ren:=by kernel_rfl
 exact h▸Tryz.func157
set_option maxRecDepth 100000 in
theorem shf205:Tryz.prog.funcs[ren.f 205]? =some (Body.n205 ren):=by
 have h:Tryz.f200=Body.n205 ren:=by kernel_rfl
 exact h▸Tryz.func200
set_option maxRecDepth 100000 in
theorem shf240:Tryz.prog.funcs[ren.f 240]? =some (Body.n240 ren):=by
 have h:Tryz.f88=Body.n240 ren:=by kernel_rfl
 exact h▸Tryz.func88
set_option maxRecDepth 100000 in
theorem shf241:Tryz.prog.funcs[ren.f 241]? =some (Body.n241 ren):=by
 have h:Tryz.f185=Body.n241 ren:=by kernel_rfl
 exact h▸Tryz.func185
set_option maxRecDepth 100000 in
theorem shf243:Tryz.prog.funcs[ren.f 243]? =some (Body.n243 ren):=by
 have h:Tryz.f127=Body.n243 ren:=by kernel_rfl
 exact h▸Tryz.func127
set_option maxRecDepth 100000 in
theorem shf244:Tryz.prog.funcs[ren.f 244]? =some (Body.n244 ren):=by
 have h:Tryz.f178=Body.n244 ren:=by kernel_rfl
 exact h▸Tryz.func178
set_option maxRecDepth 100000 in
theorem shf245:Tryz.prog.funcs[ren.f 245]? =some (Body.n245 ren):=by
 have h:Tryz.f179=Body.n245 ren:=by kernel_rfl
 exact h▸Tryz.func179
set_option maxRecDepth 100000 in
theorem shf246:Tryz.prog.funcs[ren.f 246]? =some (Body.n246 ren):=by
 have h:Tryz.f164=Body.n246 ren:=by kernel_rfl
 exact h▸Tryz.func164
set_option maxRecDepth 100000 in
theorem shf247:Tryz.prog.funcs[ren.f 247]? =some (Body.n247 ren):=by
 have h:Tryz.f188=Body.n247 ren:=by kernel_rfl
 exact h▸Tryz.func188
set_option maxRecDepth 100000 in
theorem shf276:Tryz.prog.funcs[ren.f 276]? =some (Body.n276 ren):=by
 have h:Tryz.f126=Body.n276 ren:=by kernel_rfl
 exact h▸Tryz.func126
set_option maxRecDepth 100000 in
theorem shf277:Tryz.prog.funcs[ren.f 277]? =some (Body.n277 ren):=by
 have h:Tryz.f197=Body.n277 ren:=by kernel_rfl
 exact h▸Tryz.func197
set_option maxRecDepth 100000 in
theorem shf279:Tryz.prog.funcs[ren.f 279]? =some (Body.n279 ren):=by
 have h:Tryz.f189=Body.n279 ren:=by kernel_rfl
 exact h▸Tryz.func189
set_option maxRecDepth 100000 in
theorem shf280:Tryz.prog.funcs[ren.f 280]? =some (Body.n280 ren):=by
 have h:Tryz.f190=Body.n280 ren:=by kernel_rfl
 exact h▸Tryz.func190
set_option maxRecDepth 100000 in
theorem shf281:Tryz.prog.funcs[ren.f 281]? =some (Body.n281 ren):=by
 have h:Tryz.f191=Body.n281 ren:=by kernel_rfl
 exact h▸Tryz.func191
set_option maxRecDepth 100000 in
theorem shf282:Tryz.prog.funcs[ren.f 282]? =some (Body.n282 ren):=by
 have h:Tryz.f192=Body.n282 ren:=by kernel_rfl
 exact h▸Tryz.func192
set_option maxRecDepth 100000 in
theorem aXj:Tryz.prog.funcs[ren.f 283]? =some (Body.n283 ren):=by
 have h:Tryz.f181=Body.n283 ren:=by kernel_rfl
 exact h▸Tryz.func181
set_option maxRecDepth 100000 in
theorem shf284:Tryz.prog.funcs[ren.f 284]? =some (Body.n284 ren):=by
 have h:Tryz.f182=Body.n284 ren:=by kernel_rfl
 exact h▸Tryz.func182
set_option maxRecDepth 100000 in
theorem aXv:Tryz.prog.funcs[ren.f 285]? =some (Body.n285 ren):=by
 have h:Tryz.f183=Body.n285 ren:=by kernel_rfl
 exact h▸Tryz.func183
set_option maxRecDepth 100000 in
theorem shf286:Tryz.prog.funcs[ren.f 286]? =some (Body.n286 ren):=by
 have h:Tryz.f184=Body.n286 ren:=by kernel_rfl
 exact h▸Tryz.func184
set_option maxRecDepth 100000 in
theorem shf287:Tryz.prog.funcs[ren.f 287]? =some (Body.n287 ren):=by
 have h:Tryz.f198=Body.n287 ren:=by kernel_rfl
 exact h▸Tryz.func198
set_option maxRecDepth 100000 in
theorem shf316:Tryz.prog.funcs[ren.f 316]? =some (Body.n316 ren):=by
 have h:Tryz.f199=Body.n316 ren:=by kernel_rfl
 exact h▸Tryz.func199
set_option maxRecDepth 100000 in
theorem shf317:Tryz.prog.funcs[ren.f 317]? =some (Body.n317 ren):=by
 have h:Tryz.f193=Body.n317 ren:=by kernel_rfl
 exact h▸Tryz.func193
set_option maxRecDepth 100000 in
theorem shf318:Tryz.prog.funcs[ren.f 318]? =some (Body.n318 ren):=by
 have h:Tryz.f194=Body.n318 ren:=by kernel_rfl
 exact h▸Tryz.func194
set_option maxRecDepth 100000 in
theorem shf319:Tryz.prog.funcs[ren.f 319]? =some (Body.n319 ren):=by
 have h:Tryz.f195=Body.n319 ren:=by kernel_rfl
 exact h▸Tryz.func195
set_option maxRecDepth 100000 in
theorem shf320:Tryz.prog.funcs[ren.f 320]? =some (Body.n320 ren):=by
 have h:Tryz.f196=Body.n320 ren:=by kernel_rfl
 exact h▸Tryz.func196
set_option maxRecDepth 100000 in
theorem shf321:Tryz.prog.funcs[ren.f 321]? =some (Body.n321 ren):=by
 have h:Tryz.f203=Body.n321 ren:=by kernel_rfl
 exact h▸Tryz.func203
set_option maxRecDepth 100000 in
theorem shf322:Tryz.prog.funcs[ren.f 322]? =some (Body.n322 ren):=by
 have h:Tryz.f204=Body.n322 ren:=by kernel_rfl
 exact h▸Tryz.func204
set_option maxRecDepth 100000 in
theorem shf337:Tryz.prog.funcs[ren.f 337]? =some (Body.n337 ren):=by
 have h:Tryz.f201=Body.n337 ren:=by kernel_rfl
 exact h▸Tryz.func201
set_option maxRecDepth 100000 in
theorem shf338:Tryz.prog.funcs[ren.f 338]? =some (Body.n338 ren):=by
 have h:Tryz.f202=Body.n338 ren:=by kernel_rfl
 exact h▸Tryz.func202
theorem shLays129:Lays.n129 Tryz.prog ren:={mixed:=by kernel_rfl,f129:=aWz,t3:=Tryz.underlying3,a3:=Tryz.isAgg3,z3:=Tryz.sizeOf3,v3:=Tryz.zeroValue3,t4:=Tryz.underlying4,a4:=Tryz.isAgg4,z4:=Tryz.sizeOf4,v4:=Tryz.zeroValue4,t5:=Tryz.underlying5,a5:=Tryz.isAgg5,z5:=Tryz.sizeOf5,v5:=Tryz.zeroValue5,t9:=Tryz.underlying9,a9:=Tryz.isAgg9,z9:=Tryz.sizeOf9,v9:=Tryz.zeroValue9,t46:=Tryz.underlying208,a46:=Tryz.isAgg208,z46:=Tryz.sizeOf208,v46:=Tryz.zeroValue208,t53:=Tryz.underlying241,a53:=Tryz.isAgg241,z53:=Tryz.sizeOf241,v53:=Tryz.zeroValue241}
theorem shLays283:Lays.n283 Tryz.prog ren:={mixed:=by kernel_rfl,f283:=aXj,t3:=Tryz.underlying3,a3:=Tryz.isAgg3,z3:=Tryz.sizeOf3,v3:=Tryz.zeroValue3,t4:=Tryz.underlying4,a4:=Tryz.isAgg4,z4:=Tryz.sizeOf4,v4:=Tryz.zeroValue4,t9:=Tryz.underlying9,a9:=Tryz.isAgg9,z9:=Tryz.sizeOf9,v9:=Tryz.zeroValue9}
theorem shLays285:Lays.n285 Tryz.prog ren:={mixed:=by kernel_rfl,f285:=aXv,t0:=Tryz.underlying0,a0:=Tryz.isAgg0,z0:=Tryz.sizeOf0,v0:=Tryz.zeroValue0,t3:=Tryz.underlying3,a3:=Tryz.isAgg3,z3:=Tryz.sizeOf3,v3:=Tryz.zeroValue3,t4:=Tryz.underlying4,a4:=Tryz.isAgg4,z4:=Tryz.sizeOf4,v4:=Tryz.zeroValue4,t5:=Tryz.underlying5,a5:=Tryz.isAgg5,z5:=Tryz.sizeOf5,v5:=Tryz.zeroValue5,t9:=Tryz.underlying9,a9:=Tryz.isAgg9,z9:=Tryz.sizeOf9,v9:=Tryz.zeroValue9,t37:=Tryz.underlying87,a37:=Tryz.isAgg87,z37:=Tryz.sizeOf87,v37:=Tryz.zeroValue87,t51:=Tryz.underlying239,a51:=Tryz.isAgg239,z51:=Tryz.sizeOf239,v51:=Tryz.zeroValue239,t53:=Tryz.underlying241,a53:=Tryz.isAgg241,z53:=Tryz.sizeOf241,v53:=Tryz.zeroValue241}
theorem aXd:LaysM.n171 Tryz.prog ren:={mixed:=by kernel_rfl,f129:=aWz,f171:=shf171,f243:=shf243,f246:=shf246,f283:=aXj,f284:=shf284,f285:=aXv,f286:=shf286,f317:=shf317,f318:=shf318,f319:=shf319,f320:=shf320,f337:=shf337,f338:=shf338,t0:=Tryz.underlying0,a0:=Tryz.isAgg0,z0:=Tryz.sizeOf0,v0:=Tryz.zeroValue0,t2:=Tryz.underlying2,a2:=Tryz.isAgg2,z2:=Tryz.sizeOf2,v2:=Tryz.zeroValue2,t3:=Tryz.underlying3,a3:=Tryz.isAgg3,z3:=Tryz.sizeOf3,v3:=Tryz.zeroValue3,t4:=Tryz.underlying4,a4:=Tryz.isAgg4,z4:=Tryz.sizeOf4,v4:=Tryz.zeroValue4,t5:=Tryz.underlying5,a5:=Tryz.isAgg5,z5:=Tryz.sizeOf5,v5:=Tryz.zeroValue5,t9:=Tryz.underlying9,a9:=Tryz.isAgg9,z9:=Tryz.sizeOf9,v9:=Tryz.zeroValue9,t20:=Tryz.underlying20,a20:=Tryz.isAgg20,z20:=Tryz.sizeOf20,v20:=Tryz.zeroValue20,t37:=Tryz.underlying87,a37:=Tryz.isAgg87,z37:=Tryz.sizeOf87,v37:=Tryz.zeroValue87,t46:=Tryz.underlying208,a46:=Tryz.isAgg208,z46:=Tryz.sizeOf208,v46:=Tryz.zeroValue208,t51:=Tryz.underlying239,a51:=Tryz.isAgg239,z51:=Tryz.sizeOf239,v51:=Tryz.zeroValue239,t53:=Tryz.underlying241,a53:=Tryz.isAgg241,z53:=Tryz.sizeOf241,v53:=Tryz.zeroValue241,t171:=Tryz.underlying266,a171:=Tryz.isAgg266,z171:=Tryz.sizeOf266,v171:=Tryz.zeroValue266,t173:=Tryz.underlying268,a173:=Tryz.isAgg268,z173:=Tryz.sizeOf268,v173:=Tryz.zeroValue268,t212:=Tryz.underlying279,a212:=Tryz.isAgg279,z212:=Tryz.sizeOf279,v212:=Tryz.zeroValue279,t213:=Tryz.underlying280,a213:=Tryz.isAgg280,z213:=Tryz.sizeOf280,t232:=Tryz.underlying292,a232:=Tryz.isAgg292,z232:=Tryz.sizeOf292,v232:=Tryz.zeroValue292,t233:=Tryz.underlying293,a233:=Tryz.isAgg293,z233:=Tryz.sizeOf293,v233:=Tryz.zeroValue293,g17:=by kernel_rfl,g18:=by kernel_rfl,g19:=by kernel_rfl,i0:=by kernel_rfl,i2:=by kernel_rfl,i3:=by kernel_rfl,i4:=by kernel_rfl,i5:=by kernel_rfl,i9:=by kernel_rfl,i20:=by kernel_rfl,i37:=by kernel_rfl,i46:=by kernel_rfl,i51:=by kernel_rfl,i53:=by kernel_rfl,i171:=by kernel_rfl,i173:=by kernel_rfl,i212:=by kernel_rfl,i232:=by kernel_rfl,i233:=by kernel_rfl,m17:=by kernel_rfl,m18:=by kernel_rfl,m19:=by kernel_rfl}
theorem aOo:Lays.n156 Tryz.prog ren:={mixed:=by kernel_rfl,f156:=shf156,f165:=shf165,f166:=shf166,f169:=shf169,f240:=shf240,f241:=shf241,f276:=shf276,f277:=shf277,t0:=Tryz.underlying0,a0:=Tryz.isAgg0,z0:=Tryz.sizeOf0,v0:=Tryz.zeroValue0,t3:=Tryz.underlying3,a3:=Tryz.isAgg3,z3:=Tryz.sizeOf3,v3:=Tryz.zeroValue3,t4:=Tryz.underlying4,a4:=Tryz.isAgg4,z4:=Tryz.sizeOf4,v4:=Tryz.zeroValue4,t9:=Tryz.underlying9,a9:=Tryz.isAgg9,z9:=Tryz.sizeOf9,v9:=Tryz.zeroValue9,t20:=Tryz.underlying20,a20:=Tryz.isAgg20,z20:=Tryz.sizeOf20,v20:=Tryz.zeroValue20,t31:=Tryz.underlying22,a31:=Tryz.isAgg22,z31:=Tryz.sizeOf22,v31:=Tryz.zeroValue22,t37:=Tryz.underlying87,a37:=Tryz.isAgg87,z37:=Tryz.sizeOf87,v37:=Tryz.zeroValue87,t70:=Tryz.underlying127,a70:=Tryz.isAgg127,z70:=Tryz.sizeOf127,v70:=Tryz.zeroValue127,t72:=Tryz.underlying129,a72:=Tryz.isAgg129,z72:=Tryz.sizeOf129,v72:=Tryz.zeroValue129,t75:=Tryz.underlying131,a75:=Tryz.isAgg131,z75:=Tryz.sizeOf131,v75:=Tryz.zeroValue131,t76:=Tryz.underlying132,a76:=Tryz.isAgg132,z76:=Tryz.sizeOf132,v76:=Tryz.zeroValue132,t127:=Tryz.underlying194,a127:=Tryz.isAgg194,z127:=Tryz.sizeOf194,v127:=Tryz.zeroValue194,t164:=Tryz.underlying216,a164:=Tryz.isAgg216,z164:=Tryz.sizeOf216,v164:=Tryz.zeroValue216}
theorem aHr:Lays.n169 Tryz.prog ren:={mixed:=by kernel_rfl,f169:=shf169,t0:=Tryz.underlying0,a0:=Tryz.isAgg0,z0:=Tryz.sizeOf0,v0:=Tryz.zeroValue0,t3:=Tryz.underlying3,a3:=Tryz.isAgg3,z3:=Tryz.sizeOf3,v3:=Tryz.zeroValue3,t9:=Tryz.underlying9,a9:=Tryz.isAgg9,z9:=Tryz.sizeOf9,v9:=Tryz.zeroValue9,t37:=Tryz.underlying87,a37:=Tryz.isAgg87,z37:=Tryz.sizeOf87,v37:=Tryz.zeroValue87,t70:=Tryz.underlying127,a70:=Tryz.isAgg127,z70:=Tryz.sizeOf127,v70:=Tryz.zeroValue127,t72:=Tryz.underlying129,a72:=Tryz.isAgg129,z72:=Tryz.sizeOf129,v72:=Tryz.zeroValue129,t127:=Tryz.underlying194,a127:=Tryz.isAgg194,z127:=Tryz.sizeOf194,v127:=Tryz.zeroValue194}
theorem aPj:Lays.n240 Tryz.prog ren:={mixed:=by kernel_rfl,f240:=shf240,f276:=shf276,t0:=Tryz.underlying0,a0:=Tryz.isAgg0,z0:=Tryz.sizeOf0,v0:=Tryz.zeroValue0,t4:=Tryz.underlying4,a4:=Tryz.isAgg4,z4:=Tryz.sizeOf4,v4:=Tryz.zeroValue4,t9:=Tryz.underlying9,a9:=Tryz.isAgg9,z9:=Tryz.sizeOf9,v9:=Tryz.zeroValue9,t20:=Tryz.underlying20,a20:=Tryz.isAgg20,z20:=Tryz.sizeOf20,v20:=Tryz.zeroValue20,t70:=Tryz.underlying127,a70:=Tryz.isAgg127,z70:=Tryz.sizeOf127,v70:=Tryz.zeroValue127,t72:=Tryz.underlying129,a72:=Tryz.isAgg129,z72:=Tryz.sizeOf129,v72:=Tryz.zeroValue129,t164:=Tryz.underlying216,a164:=Tryz.isAgg216,z164:=Tryz.sizeOf216,v164:=Tryz.zeroValue216}
theorem aNo:LaysC.n172 Tryz.prog ren:={mixed:=by kernel_rfl,f129:=aWz,f171:=shf171,f172:=shf172,f205:=shf205,f243:=shf243,f244:=shf244,f245:=shf245,f246:=shf246,f247:=shf247,f279:=shf279,f280:=shf280,f281:=shf281,f282:=shf282,f283:=aXj,f284:=shf284,f285:=aXv,f286:=shf286,f287:=shf287,f316:=shf316,f317:=shf317,f318:=shf318,f319:=shf319,f320:=shf320,f321:=shf321,f322:=shf322,f337:=shf337,f338:=shf338,t0:=Tryz.underlying0,a0:=Tryz.isAgg0,z0:=Tryz.sizeOf0,v0:=Tryz.zeroValue0,t2:=Tryz.underlying2,a2:=Tryz.isAgg2,z2:=Tryz.sizeOf2,v2:=Tryz.zeroValue2,t3:=Tryz.underlying3,a3:=Tryz.isAgg3,z3:=Tryz.sizeOf3,v3:=Tryz.zeroValue3,t4:=Tryz.underlying4,a4:=Tryz.isAgg4,z4:=Tryz.sizeOf4,v4:=Tryz.zeroValue4,t5:=Tryz.underlying5,a5:=Tryz.isAgg5,z5:=Tryz.sizeOf5,v5:=Tryz.zeroValue5,t9:=Tryz.underlying9,a9:=Tryz.isAgg9,z9:=Tryz.sizeOf9,v9:=Tryz.zeroValue9,t20:=Tryz.underlying20,a20:=Tryz.isAgg20,z20:=Tryz.sizeOf20,v20:=Tryz.zeroValue20,t21:=Tryz.underlying21,a21:=Tryz.isAgg21,z21:=Tryz.sizeOf21,v21:=Tryz.zeroValue21,t37:=Tryz.underlying87,a37:=Tryz.isAgg87,z37:=Tryz.sizeOf87,v37:=Tryz.zeroValue87,t46:=Tryz.underlying208,a46:=Tryz.isAgg208,z46:=Tryz.sizeOf208,v46:=Tryz.zeroValue208,t51:=Tryz.underlying239,a51:=Tryz.isAgg239,z51:=Tryz.sizeOf239,v51:=Tryz.zeroValue239,t53:=Tryz.underlying241,a53:=Tryz.isAgg241,z53:=Tryz.sizeOf241,v53:=Tryz.zeroValue241,t75:=Tryz.underlying131,a75:=Tryz.isAgg131,z75:=Tryz.sizeOf131,v75:=Tryz.zeroValue131,t76:=Tryz.underlying132,a76:=Tryz.isAgg132,z76:=Tryz.sizeOf132,v76:=Tryz.zeroValue132,t85:=Tryz.underlying274,a85:=Tryz.isAgg274,z85:=Tryz.sizeOf274,v85:=Tryz.zeroValue274,t127:=Tryz.underlying194,a127:=Tryz.isAgg194,z127:=Tryz.sizeOf194,v127:=Tryz.zeroValue194,t143:=Tryz.underlying289,a143:=Tryz.isAgg289,z143:=Tryz.sizeOf289,v143:=Tryz.zeroValue289,t145:=Tryz.underlying291,a145:=Tryz.isAgg291,z145:=Tryz.sizeOf291,v145:=Tryz.zeroValue291,t167:=Tryz.underlying273,a167:=Tryz.isAgg273,z167:=Tryz.sizeOf273,v167:=Tryz.zeroValue273,t168:=Tryz.underlying276,a168:=Tryz.isAgg276,z168:=Tryz.sizeOf276,v168:=Tryz.zeroValue276,t171:=Tryz.underlying266,a171:=Tryz.isAgg266,z171:=Tryz.sizeOf266,v171:=Tryz.zeroValue266,t173:=Tryz.underlying268,a173:=Tryz.isAgg268,z173:=Tryz.sizeOf268,v173:=Tryz.zeroValue268,t175:=Tryz.underlying282,a175:=Tryz.isAgg282,z175:=Tryz.sizeOf282,v175:=Tryz.zeroValue282,t210:=Tryz.underlying286,a210:=Tryz.isAgg286,z210:=Tryz.sizeOf286,v210:=Tryz.zeroValue286,t212:=Tryz.underlying279,a212:=Tryz.isAgg279,z212:=Tryz.sizeOf279,v212:=Tryz.zeroValue279,t213:=Tryz.underlying280,a213:=Tryz.isAgg280,z213:=Tryz.sizeOf280,t232:=Tryz.underlying292,a232:=Tryz.isAgg292,z232:=Tryz.sizeOf292,v232:=Tryz.zeroValue292,t233:=Tryz.underlying293,a233:=Tryz.isAgg293,z233:=Tryz.sizeOf293,v233:=Tryz.zeroValue293,g15:=by kernel_rfl,g16:=by kernel_rfl,g17:=by kernel_rfl,g18:=by kernel_rfl,g19:=by kernel_rfl,t80:=Tryz.underlying92,a80:=Tryz.isAgg92,z80:=Tryz.sizeOf92,v80:=Tryz.zeroValue92,i0:=by kernel_rfl,i2:=by kernel_rfl,i3:=by kernel_rfl,i4:=by kernel_rfl,i5:=by kernel_rfl,i9:=by kernel_rfl,i20:=by kernel_rfl,i21:=by kernel_rfl,i37:=by kernel_rfl,i46:=by kernel_rfl,i51:=by kernel_rfl,i53:=by kernel_rfl,i75:=by kernel_rfl,i76:=by kernel_rfl,i80:=by kernel_rfl,i85:=by kernel_rfl,i127:=by kernel_rfl,i143:=by kernel_rfl,i145:=by kernel_rfl,i167:=by kernel_rfl,i168:=by kernel_rfl,i171:=by kernel_rfl,i173:=by kernel_rfl,i175:=by kernel_rfl,i210:=by kernel_rfl,i212:=by kernel_rfl,i232:=by kernel_rfl,i233:=by kernel_rfl,m15:=by kernel_rfl,m16:=by kernel_rfl,m17:=by kernel_rfl,m18:=by kernel_rfl,m19:=by kernel_rfl,c0:=by kernel_rfl,c2:=by kernel_rfl,c3:=by kernel_rfl,c4:=by kernel_rfl,c5:=by kernel_rfl,c9:=by kernel_rfl,c20:=by kernel_rfl,c21:=by kernel_rfl,c37:=by kernel_rfl,c46:=by kernel_rfl,c51:=by kernel_rfl,c53:=by kernel_rfl,c75:=by kernel_rfl,c76:=by kernel_rfl,c80:=by kernel_rfl,c85:=by kernel_rfl,c127:=by kernel_rfl,c143:=by kernel_rfl,c145:=by kernel_rfl,c167:=by kernel_rfl,c168:=by kernel_rfl,c171:=by kernel_rfl,c173:=by kernel_rfl,c175:=by kernel_rfl,c210:=by kernel_rfl,c212:=by kernel_rfl,c213:=by kernel_rfl,c232:=by kernel_rfl,c233:=by kernel_rfl}
theorem shX:Go.Proofs.Builder.Extra Tryz.prog ren:={sizeBuilder:=by kernel_rfl,liesBuilder:=by kernel_rfl,t5:=Tryz.underlying5,a5:=Tryz.isAgg5,z5:=Tryz.sizeOf5,v5:=Tryz.zeroValue5,infoByte:=by kernel_rfl,cellsByte:=by kernel_rfl,sizeByte:=by kernel_rfl,neB5:=by decide}
end Go.Proofs.YtnccbhdmemheeaaGreatDoor
