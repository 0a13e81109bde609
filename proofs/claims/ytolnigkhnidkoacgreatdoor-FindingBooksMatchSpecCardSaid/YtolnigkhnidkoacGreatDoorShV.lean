/- Laws that the claim stands on; no condition beyond those stated. -/
import Derived.Test.YtolnigkhnidkoacGreatDoorRows
import Derived.Shelf.Strconv.Itoa3
import Derived.Shelf.Strings.OnBuilder
import Derived.Shelf.LaysC
namespace Go.Proofs.YtolnigkhnidkoacGreatDoor
open Go Go.Shelf
def ren:Go.Shelf.Ren:=⟨λn=>match n with |129=>224|171=>210|172=>209|205=>278|243=>234|244=>232|245=>233|246=>265|247=>260|279=>261|280=>262|281=>263|282=>264|283=>185|284=>186|285=>187|286=>188|287=>276|316=>277|317=>223|318=>225|319=>226|320=>227|321=>284|322=>285|337=>241|338=>242|_=>0,λn=>match n with |0=>0|2=>2|3=>3|4=>4|5=>5|9=>9|20=>20|21=>21|31=>90|37=>31|46=>204|51=>275|53=>205|75=>261|76=>262|80=>45|85=>298|127=>325|143=>326|145=>328|164=>343|167=>297|168=>300|171=>243|173=>246|175=>313|210=>317|212=>274|213=>276|232=>311|233=>312|_=>0,λn=>match n with |15=>6|16=>7|17=>1|18=>4|19=>5|_=>0⟩
set_option maxRecDepth 100000 in
theorem aVx:Tryz.prog.funcs[ren.f 129]? =some (Body.n129 ren):=by
 have h:Tryz.f224=Body.n129 ren:=by kernel_rfl
 exact h▸Tryz.func224
set_option maxRecDepth 100000 in
theorem shf171:Tryz.prog.funcs[ren.f 171]? =some (Body.n171 ren):=by
 have h:Tryz.f210=Body.n171 ren:=by kernel_rfl
 exact h▸Tryz.func210
set_option maxRecDepth 100000 in
theorem shf172:Tryz.prog.funcs[ren.f 172]? =some (Body.n172 ren):=by
 have h:Tryz.f209=Body.n172 ren:=by kernel_rfl
 exact h▸Tryz.func209
set_option maxRecDepth 100000 in
theorem shf205:Tryz.prog.funcs[ren.f 205]? =some (Body.n205 ren):=by
 have h:Tryz.f278=Body.n205 ren:=by kernel_rfl
 exact h▸Tryz.func278
set_option maxRecDepth 100000 in
theorem shf243:Tryz.prog.funcs[ren.f 243]? =some (Body.n243 ren):=by
 have h:Tryz.f234=Body.n243 ren:=by kernel_rfl
 exact h▸Tryz.func234
set_option maxRecDepth 100000 in
theorem shf244:Tryz.prog.funcs[ren.f 244]? =some (Body.n244 ren):=by
 have h:Tryz.f232=Body.n244 ren:=by kernel_rfl
 exact h▸Tryz.func232
set_option maxRecDepth 100000 in
theorem shf245:Tryz.prog.funcs[ren.f 245]? =some (Body.n245 ren):=by
 have h:Tryz.f233=Body.n245 ren:=by kernel_rfl
 exact h▸Tryz.func233
set_option maxRecDepth 100000 in
theorem shf246:Tryz.prog.funcs[ren.f 246]? =some (Body.n246 ren):=by
 have h:Tryz.f265=Body.n246 ren:=by kernel_rfl
 exact h▸Tryz.func265
set_option maxRecDepth 100000 in
theorem shf247:Tryz.prog.funcs[ren.f 247]? =some (Body.n247 ren):=by
 have h:Tryz.f260=Body.n247 ren:=by kernel_rfl
 exact h▸Tryz.func260
set_option maxRecDepth 100000 in
theorem shf279:Tryz.prog.funcs[ren.f 279]? =some (Body.n279 ren):=by
 have h:Tryz.f261=Body.n279 ren:=by kernel_rfl
 exact h▸Tryz.func261
set_option maxRecDepth 100000 in
theorem shf280:Tryz.prog.funcs[ren.f 280]? =some (Body.n280 ren):=by
 have h:Tryz.f262=Body.n280 ren:=by kernel_rfl
 exact h▸Tryz.func262
set_option maxRecDepth 100000 in
theorem shf281:Tryz.prog.funcs[ren.f 281]? =some (Body.n281 ren):=by
 have h:Tryz.f263=Body.n281 ren:=by kernel_rfl
 exact h▸Tryz.func263
set_option maxRecDepth 100000 in
theorem shf282:Tryz.prog.funcs[ren.f 282]? =some (Body.n282 ren):=by
 have h:Tryz.f264=Body.n282 ren:=by kernel_rfl
 exact h▸Tryz.func264
set_option maxRecDepth 100000 in
theorem aUo:Tryz.prog.funcs[ren.f 283]? =some (Body.n283 ren):=by
 have h:Tryz.f185=Body.n283 ren:=by kernel_rfl
 exact h▸Tryz.func185
set_option maxRecDepth 100000 in
theorem shf284:Tryz.prog.funcs[ren.f 284]? =some (Body.n284 ren):=by
 have h:Tryz.f186=Body.n284 ren:=by kernel_rfl
 exact h▸Tryz.func186
set_option maxRecDepth 100000 in
theorem aTl:Tryz.prog.funcs[ren.f 285]? =some (Body.n285 ren):=by
 have h:Tryz.f187=Body.n285 ren:=by kernel_rfl
 exact h▸Tryz.func187
set_option maxRecDepth 100000 in
theorem shf286:Tryz.prog.funcs[ren.f 286]? =some (Body.n286 ren):=by
 have h:Tryz.f188=Body.n286 ren:=by kernel_rfl
 exact h▸Tryz.func188
set_option maxRecDepth 100000 in
theorem shf287:Tryz.prog.funcs[ren.f 287]? =some (Body.n287 ren):=by
 have h:Tryz.f276=Body.n287 ren:=by kernel_rfl
 exact h▸Tryz.func276
set_option maxRecDepth 100000 in
theorem shf316:Tryz.prog.funcs[ren.f 316]? =some (Body.n316 ren):=by
 have h:Tryz.f277=Body.n316 ren:=by kernel_rfl
 exact h▸Tryz.func277
set_option maxRecDepth 100000 in
theorem shf317:Tryz.prog.funcs[ren.f 317]? =some (Body.n317 ren):=by
 have h:Tryz.f223=Body.n317 ren:=by kernel_rfl
 exact h▸Tryz.func223
set_option maxRecDepth 100000 in
theorem shf318:Tryz.prog.funcs[ren.f 318]? =some (Body.n318 ren):=by
 have h:Tryz.f225=Body.n318 ren:=by kernel_rfl
 exact h▸Tryz.func225
set_option maxRecDepth 100000 in
theorem shf319:Tryz.prog.funcs[ren.f 319]? =some (Body.n319 ren):=by
 have h:Tryz.f226=Body.n319 ren:=by kernel_rfl
 exact h▸Tryz.func226
set_option maxRecDepth 100000 in
theorem shf320:Tryz.prog.funcs[ren.f 320]? =some (Body.n320 ren):=by
 have h:Tryz.f227=Body.n320 ren:=by kernel_rfl
 exact h▸Tryz.func227
set_option maxRecDepth 100000 in
theorem shf321:Tryz.prog.funcs[ren.f 321]? =some (Body.n321 ren):=by
 have h:Tryz.f284=Body.n321 ren:=by kernel_rfl
 exact h▸Tryz.func284
set_option maxRecDepth 100000 in
theorem shf322:Tryz.prog.funcs[ren.f 322]? =some (Body.n322 ren):=by
 have h:Tryz.f285=Body.n322 ren:=by kernel_rfl
 exact h▸Tryz.func285
set_option maxRecDepth 100000 in
theorem shf337:Tryz.prog.funcs[ren.f 337]? =some (Body.n337 ren):=by
 have h:Tryz.f241=Body.n337 ren:=by kernel_rfl
 exact h▸Tryz.func241
set_option maxRecDepth 100000 in
theorem shf338:Tryz.prog.funcs[ren.f 338]? =some (Body.n338 ren):=by
 have h:Tryz.f242=Body.n338 ren:=by kernel_rfl
 exact h▸Tryz.func242
theorem shLays129:Lays.n129 Tryz.prog ren:={mixed:=by kernel_rfl,f129:=aVx,t3:=Tryz.underlying3,a3:=Tryz.isAgg3,z3:=Tryz.sizeOf3,v3:=Tryz.zeroValue3,t4:=Tryz.underlying4,a4:=Tryz.isAgg4,z4:=Tryz.sizeOf4,v4:=Tryz.zeroValue4,t5:=Tryz.underlying5,a5:=Tryz.isAgg5,z5:=Tryz.sizeOf5,v5:=Tryz.zeroValue5,t9:=Tryz.underlying9,a9:=Tryz.isAgg9,z9:=Tryz.sizeOf9,v9:=Tryz.zeroValue9,t46:=Tryz.underlying204,a46:=Tryz.isAgg204,z46:=Tryz.sizeOf204,v46:=Tryz.zeroValue204,t53:=Tryz.underlying205,a53:=Tryz.isAgg205,z53:=Tryz.sizeOf205,v53:=Tryz.zeroValue205}
theorem shLays283:Lays.n283 Tryz.prog ren:={mixed:=by kernel_rfl,f283:=aUo,t3:=Tryz.underlying3,a3:=Tryz.isAgg3,z3:=Tryz.sizeOf3,v3:=Tryz.zeroValue3,t4:=Tryz.underlying4,a4:=Tryz.isAgg4,z4:=Tryz.sizeOf4,v4:=Tryz.zeroValue4,t9:=Tryz.underlying9,a9:=Tryz.isAgg9,z9:=Tryz.sizeOf9,v9:=Tryz.zeroValue9}
theorem shLays285:Lays.n285 Tryz.prog ren:={mixed:=by kernel_rfl,f285:=aTl,t0:=Tryz.underlying0,a0:=Tryz.isAgg0,z0:=Tryz.sizeOf0,v0:=Tryz.zeroValue0,t3:=Tryz.underlying3,a3:=Tryz.isAgg3,z3:=Tryz.sizeOf3,v3:=Tryz.zeroValue3,t4:=Tryz.underlying4,a4:=Tryz.isAgg4,z4:=Tryz.sizeOf4,v4:=Tryz.zeroValue4,t5:=Tryz.underlying5,a5:=Tryz.isAgg5,z5:=Tryz.sizeOf5,v5:=Tryz.zeroValue5,t9:=Tryz.underlying9,a9:=Tryz.isAgg9,z9:=Tryz.sizeOf9,v9:=Tryz.zeroValue9,t37:=Tryz.underlying31,a37:=Tryz.isAgg31,z37:=Tryz.sizeOf31,v37:=Tryz.zeroValue31,t51:=Tryz.underlying275,a51:=Tryz.isAgg275,z51:=Tryz.sizeOf275,v51:=Tryz.zeroValue275,t53:=Tryz.underlying205,a53:=Tryz.isAgg205,z53:=Tryz.sizeOf205,v53:=Tryz.zeroValue205}
theorem aVi:LaysM.n171 Tryz.prog ren:={mixed:=by kernel_rfl,f129:=aVx,f171:=shf171,f243:=shf243,f246:=shf246,f283:=aUo,f284:=shf284,f285:=aTl,f286:=shf286,f317:=shf317,f318:=shf318,f319:=shf319,f320:=shf320,f337:=shf337,f338:=shf338,t0:=Tryz.underlying0,a0:=Tryz.isAgg0,z0:=Tryz.sizeOf0,v0:=Tryz.zeroValue0,t2:=Tryz.underlying2,a2:=Tryz.isAgg2,z2:=Tryz.sizeOf2,v2:=Tryz.zeroValue2,t3:=Tryz.underlying3,a3:=Tryz.isAgg3,z3:=Tryz.sizeOf3,v3:=Tryz.zeroValue3,t4:=Tryz.underlying4,a4:=Tryz.isAgg4,z4:=Tryz.sizeOf4,v4:=Tryz.zeroValue4,t5:=Tryz.underlying5,a5:=Tryz.isAgg5,z5:=Tryz.sizeOf5,v5:=Tryz.zeroValue5,t9:=Tryz.underlying9,a9:=Tryz.isAgg9,z9:=Tryz.sizeOf9,v9:=Tryz.zeroValue9,t20:=Tryz.underlying20,a20:=Tryz.isAgg20,z20:=Tryz.sizeOf20,v20:=Tryz.zeroValue20,t37:=Tryz.underlying31,a37:=Tryz.isAgg31,z37:=Tryz.sizeOf31,v37:=Tryz.zeroValue31,t46:=Tryz.underlying204,a46:=Tryz.isAgg204,z46:=Tryz.sizeOf204,v46:=Tryz.zeroValue204,t51:=Tryz.underlying275,a51:=Tryz.isAgg275,z51:=Tryz.sizeOf275,v51:=Tryz.zeroValue275,t53:=Tryz.underlying205,a53:=Tryz.isAgg205,z53:=Tryz.sizeOf205,v53:=Tryz.zeroValue205,t171:=Tryz.underlying243,a171:=Tryz.isAgg243,z171:=Tryz.sizeOf243,v171:=Tryz.zeroValue243,t173:=Tryz.underlying246,a173:=Tryz.isAgg246,z173:=Tryz.sizeOf246,v173:=Tryz.zeroValue246,t212:=Tryz.underlying274,a212:=Tryz.isAgg274,z212:=Tryz.sizeOf274,v212:=Tryz.zeroValue274,t213:=Tryz.underlying276,a213:=Tryz.isAgg276,z213:=Tryz.sizeOf276,t232:=Tryz.underlying311,a232:=Tryz.isAgg311,z232:=Tryz.sizeOf311,v232:=Tryz.zeroValue311,t233:=Tryz.underlying312,a233:=Tryz.isAgg312,z233:=Tryz.sizeOf312,v233:=Tryz.zeroValue312,g17:=by kernel_rfl,g18:=by kernel_rfl,g19:=by kernel_rfl,i0:=by kernel_rfl,i2:=by kernel_rfl,i3:=by kernel_rfl,i4:=by kernel_rfl,i5:=by kernel_rfl,i9:=by kernel_rfl,i20:=by kernel_rfl,i37:=by kernel_rfl,i46:=by kernel_rfl,i51:=by kernel_rfl,i53:=by kernel_rfl,i171:=by kernel_rfl,i173:=by kernel_rfl,i212:=by kernel_rfl,i232:=by kernel_rfl,i233:=by kernel_rfl,m17:=by kernel_rfl,m18:=by kernel_rfl,m19:=by kernel_rfl}
theorem aLb:LaysC.n172 Tryz.prog ren:={mixed:=by kernel_rfl,f129:=aVx,f171:=shf171,f172:=shf172,f205:=shf205,f243:=shf243,f244:=shf244,f245:=shf245,f246:=shf246,f247:=shf247,f279:=shf279,f280:=shf280,f281:=shf281,f282:=shf282,f283:=aUo,f284:=shf284,f285:=aTl,f286:=shf286,f287:=shf287,f316:=shf316,f317:=shf317,f318:=shf318,f319:=shf319,f320:=shf320,f321:=shf321,f322:=shf322,f337:=shf337,f338:=shf338,t0:=Tryz.underlying0,a0:=Tryz.isAgg0,z0:=Tryz.sizeOf0,v0:=Tryz.zeroValue0,t2:=Tryz.underlying2,a2:=Tryz.isAgg2,z2:=Tryz.sizeOf2,v2:=Tryz.zeroValue2,t3:=Tryz.underlying3,a3:=Tryz.isAgg3,z3:=Tryz.sizeOf3,v3:=Tryz.zeroValue3,t4:=Tryz.underlying4,a4:=Tryz.isAgg4,z4:=Tryz.sizeOf4,v4:=Tryz.zeroValue4,t5:=Tryz.underlying5,a5:=Tryz.isAgg5,z5:=Tryz.sizeOf5,v5:=Tryz.zeroValue5,t9:=Tryz.underlying9,a9:=Tryz.isAgg9,z9:=Tryz.sizeOf9,v9:=Tryz.zeroValue9,t20:=Tryz.underlying20,a20:=Tryz.isAgg20,z20:=Tryz.sizeOf20,v20:=Tryz.zeroValue20,t21:=Tryz.underlying21,a21:=Tryz.isAgg21,z21:=Tryz.sizeOf21,v21:=Tryz.zeroValue21,t37:=Tryz.underlying31,a37:=Tryz.isAgg31,z37:=Tryz.sizeOf31,v37:=Tryz.zeroValue31,t46:=Tryz.underlying204,a46:=Tryz.isAgg204,z46:=Tryz.sizeOf204,v46:=Tryz.zeroValue204,t51:=Tryz.underlying275,a51:=Tryz.isAgg275,z51:=Tryz.sizeOf275,v51:=Tryz.zeroValue275,t53:=Tryz.underlying205,a53:=Tryz.isAgg205,z53:=Tryz.sizeOf205,v53:=Tryz.zeroValue205,t75:=Tryz.underlying261,a75:=Tryz.isAgg261,z75:=Tryz.sizeOf261,v75:=Tryz.zeroValue261,t76:=Tryz.underlying262,a76:=Tryz.isAgg262,z76:=Tryz.sizeOf262,v76:=Tryz.zeroValue262,t85:=Tryz.underlying298,a85:=Tryz.isAgg298,z85:=Tryz.sizeOf298,v85:=Tryz.zeroValue298,t127:=Tryz.underlying325,a127:=Tryz.isAgg325,z127:=Tryz.sizeOf325,v127:=Tryz.zeroValue325,t143:=Tryz.underlying326,a143:=Tryz.isAgg326,z143:=Tryz.sizeOf326,v143:=Tryz.zeroValue326,t145:=Tryz.underlying328,a145:=Tryz.isAgg328,z145:=Tryz.sizeOf328,v145:=Tryz.zeroValue328,t167:=Tryz.underlying297,a167:=Tryz.isAgg297,z167:=Tryz.sizeOf297,v167:=Tryz.zeroValue297,t168:=Tryz.underlying300,a168:=Tryz.isAgg300,z168:=Tryz.sizeOf300,v168:=Tryz.zeroValue300,t171:=Tryz.underlying243,a171:=Tryz.isAgg243,z171:=Tryz.sizeOf243,v171:=Tryz.zeroValue243,t173:=Tryz.underlying246,a173:=Tryz.isAgg246,z173:=Tryz.sizeOf246,v173:=Tryz.zeroValue246,t175:=Tryz.underlying313,a175:=Tryz.isAgg313,z175:=Tryz.sizeOf313,v175:=Tryz.zeroValue313,t210:=Tryz.underlying317,a210:=Tryz.isAgg317,z210:=Tryz.sizeOf317,v210:=Tryz.zeroValue317,t212:=Tryz.underlying274,a212:=Tryz.isAgg274,z212:=Tryz.sizeOf274,v212:=Tryz.zeroValue274,t213:=Tryz.underlying276,a213:=Tryz.isAgg276,z213:=Tryz.sizeOf276,t232:=Tryz.underlying311,a232:=Tryz.isAgg311,z232:=Tryz.sizeOf311,v232:=Tryz.zeroValue311,t233:=Tryz.underlying312,a233:=Tryz.isAgg312,z233:=Tryz.sizeOf312,v233:=Tryz.zeroValue312,g15:=by kernel_rfl,g16:=by kernel_rfl,g17:=by kernel_rfl,g18:=by kernel_rfl,g19:=by kernel_rfl,t80:=Tryz.underlying45,a80:=Tryz.isAgg45,z80:=Tryz.sizeOf45,v80:=Tryz.zeroValue45,i0:=by kernel_rfl,i2:=by kernel_rfl,i3:=by kernel_rfl,i4:=by kernel_rfl,i5:=by kernel_rfl,i9:=by kernel_rfl,i20:=by kernel_rfl,i21:=by kernel_rfl,i37:=by kernel_rfl,i46:=by kernel_rfl,i51:=by kernel_rfl,i53:=by kernel_rfl,i75:=by kernel_rfl,i76:=by kernel_rfl,i80:=by kernel_rfl,i85:=by kernel_rfl,i127:=by kernel_rfl,i143:=by kernel_rfl,i145:=by kernel_rfl,i167:=by kernel_rfl,i168:=by kernel_rfl,i171:=by kernel_rfl,i173:=by kernel_rfl,i175:=by kernel_rfl,i210:=by kernel_rfl,i212:=by kernel_rfl,i232:=by kernel_rfl,i233:=by kernel_rfl,m15:=by kernel_rfl,m16:=by kernel_rfl,m17:=by kernel_rfl,m18:=by kernel_rfl,m19:=by kernel_rfl,c0:=by kernel_rfl,c2:=by kernel_rfl,c3:=by kernel_rfl,c4:=by kernel_rfl,c5:=by kernel_rfl,c9:=by kernel_rfl,c20:=by kernel_rfl,c21:=by kernel_rfl,c37:=by kernel_rfl,c46:=by kernel_rfl,c51:=by kernel_rfl,c53:=by kernel_rfl,c75:=by kernel_rfl,c76:=by kernel_rfl,c80:=by kernel_rfl,c85:=by kernel_rfl,c127:=by kernel_rfl,c143:=by kernel_rfl,c145:=by kernel_rfl,c167:=by kernel_rfl,c168:=by kernel_rfl,c171:=by kernel_rfl,c173:=by kernel_rfl,c175:=by kernel_rfl,c210:=by kernel_rfl,c212:=by kernel_rfl,c213:=by kernel_rfl,c232:=by kernel_rfl,c233:=by kernel_rfl}
end Go.Proofs.YtolnigkhnidkoacGreatDoor
