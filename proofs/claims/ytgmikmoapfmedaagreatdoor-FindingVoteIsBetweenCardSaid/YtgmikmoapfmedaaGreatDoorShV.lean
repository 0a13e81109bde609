/- The shelf's contracts of Go's library, tied to this program. -/
import Derived.Test.YtgmikmoapfmedaaGreatDoorRows
import Derived.Shelf.Strconv.Itoa3
import Derived.Shelf.Strings.OnBuilder
import Derived.Shelf.LaysC
namespace Go.Proofs.YtgmikmoapfmedaaGreatDoor
open Go Go.Shelf
def ren:Go.Shelf.Ren:=⟨fun n=>match n with | 129=>129 | 171=>138 | 172=>137 | 205=>195 | 243=>166 | 244=>164 | 245=>165 | 246=>183 | 247=>178 | 279=>179 | 280=>180 | 281=>181 | 282=>182 | 283=>132 | 284=>133 | 285=>134 | 286=>135 | 287=>193 | 316=>194 | 317=>159 | 318=>160 | 319=>161 | 320=>162 | 321=>199 | 322=>200 | 337=>175 | 338=>176 | _=>0,fun n=>match n with | 0=>0 | 2=>2 | 3=>3 | 4=>4 | 5=>5 | 9=>9 | 20=>20 | 21=>21 | 31=>36 | 37=>25 | 46=>142 | 51=>169 | 53=>96 | 75=>178 | 76=>179 | 80=>33 | 85=>213 | 127=>235 | 143=>236 | 145=>238 | 164=>253 | 167=>212 | 168=>215 | 171=>172 | 173=>174 | 175=>226 | 210=>230 | 212=>198 | 213=>199 | 232=>224 | 233=>225 | _=>0,fun n=>match n with | 15=>5 | 16=>6 | 17=>0 | 18=>3 | 19=>4 | _=>0⟩
set_option maxRecDepth 100000 in
theorem shf129:Tryz.prog.funcs[ren.f 129]? =some (Body.n129 ren):=by
  have h:Tryz.f129=Body.n129 ren:=by kernel_rfl
  exact h ▸ Tryz.func129
set_option maxRecDepth 100000 in
theorem shf171:Tryz.prog.funcs[ren.f 171]? =some (Body.n171 ren):=by
  have h:Tryz.f138=Body.n171 ren:=by kernel_rfl
  exact h ▸ Tryz.func138
set_option maxRecDepth 100000 in
theorem shf172:Tryz.prog.funcs[ren.f 172]? =some (Body.n172 ren):=by
  have h:Tryz.f137=Body.n172 ren:=by kernel_rfl
  exact h ▸ Tryz.func137
set_option maxRecDepth 100000 in
theorem shf205:Tryz.prog.funcs[ren.f 205]? =some (Body.n205 ren):=by
  have h:Tryz.f195=Body.n205 ren:=by kernel_rfl
  exact h ▸ Tryz.func195
set_option maxRecDepth 100000 in
theorem shf243:Tryz.prog.funcs[ren.f 243]? =some (Body.n243 ren):=by
  have h:Tryz.f166=Body.n243 ren:=by kernel_rfl
  exact h ▸ Tryz.func166
set_option maxRecDepth 100000 in
theorem shf244:Tryz.prog.funcs[ren.f 244]? =some (Body.n244 ren):=by
  have h:Tryz.f164=Body.n244 ren:=by kernel_rfl
  exact h ▸ Tryz.func164
set_option maxRecDepth 100000 in
theorem shf245:Tryz.prog.funcs[ren.f 245]? =some (Body.n245 ren):=by
  have h:Tryz.f165=Body.n245 ren:=by kernel_rfl
  exact h ▸ Tryz.func165
set_option maxRecDepth 100000 in
theorem shf246:Tryz.prog.funcs[ren.f 246]? =some (Body.n246 ren):=by
  have h:Tryz.f183=Body.n246 ren:=by kernel_rfl
  exact h ▸ Tryz.func183
set_option maxRecDepth 100000 in
theorem shf247:Tryz.prog.funcs[ren.f 247]? =some (Body.n247 ren):=by
  have h:Tryz.f178=Body.n247 ren:=by kernel_rfl
  exact h ▸ Tryz.func178
set_option maxRecDepth 100000 in
theorem shf279:Tryz.prog.funcs[ren.f 279]? =some (Body.n279 ren):=by
  have h:Tryz.f179=Body.n279 ren:=by kernel_rfl
  exact h ▸ Tryz.func179
set_option maxRecDepth 100000 in
theorem shf280:Tryz.prog.funcs[ren.f 280]? =some (Body.n280 ren):=by
  have h:Tryz.f180=Body.n280 ren:=by kernel_rfl
  exact h ▸ Tryz.func180
set_option maxRecDepth 100000 in
theorem shf281:Tryz.prog.funcs[ren.f 281]? =some (Body.n281 ren):=by
  have h:Tryz.f181=Body.n281 ren:=by kernel_rfl
  exact h ▸ Tryz.func181
set_option maxRecDepth 100000 in
theorem shf282:Tryz.prog.funcs[ren.f 282]? =some (Body.n282 ren):=by
  have h:Tryz.f182=Body.n282 ren:=by kernel_rfl
  exact h ▸ Tryz.func182
set_option maxRecDepth 100000 in
theorem shf283:Tryz.prog.funcs[ren.f 283]? =some (Body.n283 ren):=by
  have h:Tryz.f132=Body.n283 ren:=by kernel_rfl
  exact h ▸ Tryz.func132
set_option maxRecDepth 100000 in
theorem shf284:Tryz.prog.funcs[ren.f 284]? =some (Body.n284 ren):=by
  have h:Tryz.f133=Body.n284 ren:=by kernel_rfl
  exact h ▸ Tryz.func133
set_option maxRecDepth 100000 in
theorem shf285:Tryz.prog.funcs[ren.f 285]? =some (Body.n285 ren):=by
  have h:Tryz.f134=Body.n285 ren:=by kernel_rfl
  exact h ▸ Tryz.func134
set_option maxRecDepth 100000 in
theorem shf286:Tryz.prog.funcs[ren.f 286]? =some (Body.n286 ren):=by
  have h:Tryz.f135=Body.n286 ren:=by kernel_rfl
  exact h ▸ Tryz.func135
set_option maxRecDepth 100000 in
theorem shf287:Tryz.prog.funcs[ren.f 287]? =some (Body.n287 ren):=by
  have h:Tryz.f193=Body.n287 ren:=by kernel_rfl
  exact h ▸ Tryz.func193
set_option maxRecDepth 100000 in
theorem shf316:Tryz.prog.funcs[ren.f 316]? =some (Body.n316 ren):=by
  have h:Tryz.f194=Body.n316 ren:=by kernel_rfl
  exact h ▸ Tryz.func194
set_option maxRecDepth 100000 in
theorem shf317:Tryz.prog.funcs[ren.f 317]? =some (Body.n317 ren):=by
  have h:Tryz.f159=Body.n317 ren:=by kernel_rfl
  exact h ▸ Tryz.func159
set_option maxRecDepth 100000 in
theorem shf318:Tryz.prog.funcs[ren.f 318]? =some (Body.n318 ren):=by
  have h:Tryz.f160=Body.n318 ren:=by kernel_rfl
  exact h ▸ Tryz.func160
set_option maxRecDepth 100000 in
theorem shf319:Tryz.prog.funcs[ren.f 319]? =some (Body.n319 ren):=by
  have h:Tryz.f161=Body.n319 ren:=by kernel_rfl
  exact h ▸ Tryz.func161
set_option maxRecDepth 100000 in
theorem shf320:Tryz.prog.funcs[ren.f 320]? =some (Body.n320 ren):=by
  have h:Tryz.f162=Body.n320 ren:=by kernel_rfl
  exact h ▸ Tryz.func162
set_option maxRecDepth 100000 in
theorem shf321:Tryz.prog.funcs[ren.f 321]? =some (Body.n321 ren):=by
  have h:Tryz.f199=Body.n321 ren:=by kernel_rfl
  exact h ▸ Tryz.func199
set_option maxRecDepth 100000 in
theorem shf322:Tryz.prog.funcs[ren.f 322]? =some (Body.n322 ren):=by
  have h:Tryz.f200=Body.n322 ren:=by kernel_rfl
  exact h ▸ Tryz.func200
set_option maxRecDepth 100000 in
theorem shf337:Tryz.prog.funcs[ren.f 337]? =some (Body.n337 ren):=by
  have h:Tryz.f175=Body.n337 ren:=by kernel_rfl
  exact h ▸ Tryz.func175
set_option maxRecDepth 100000 in
theorem shf338:Tryz.prog.funcs[ren.f 338]? =some (Body.n338 ren):=by
  have h:Tryz.f176=Body.n338 ren:=by kernel_rfl
  exact h ▸ Tryz.func176
theorem aDj:LaysM.n171 Tryz.prog ren:={mixed:=by kernel_rfl,f129:=shf129,f171:=shf171,f243:=shf243,f246:=shf246,f283:=shf283,f284:=shf284,f285:=shf285,f286:=shf286,f317:=shf317,f318:=shf318,f319:=shf319,f320:=shf320,f337:=shf337,f338:=shf338,t0:=Tryz.underlying0,a0:=Tryz.isAgg0,z0:=Tryz.sizeOf0,v0:=Tryz.zeroValue0,t2:=Tryz.underlying2,a2:=Tryz.isAgg2,z2:=Tryz.sizeOf2,v2:=Tryz.zeroValue2,t3:=Tryz.underlying3,a3:=Tryz.isAgg3,z3:=Tryz.sizeOf3,v3:=Tryz.zeroValue3,t4:=Tryz.underlying4,a4:=Tryz.isAgg4,z4:=Tryz.sizeOf4,v4:=Tryz.zeroValue4,t5:=Tryz.underlying5,a5:=Tryz.isAgg5,z5:=Tryz.sizeOf5,v5:=Tryz.zeroValue5,t9:=Tryz.underlying9,a9:=Tryz.isAgg9,z9:=Tryz.sizeOf9,v9:=Tryz.zeroValue9,t20:=Tryz.underlying20,a20:=Tryz.isAgg20,z20:=Tryz.sizeOf20,v20:=Tryz.zeroValue20,t37:=Tryz.underlying25,a37:=Tryz.isAgg25,z37:=Tryz.sizeOf25,v37:=Tryz.zeroValue25,t46:=Tryz.underlying142,a46:=Tryz.isAgg142,z46:=Tryz.sizeOf142,v46:=Tryz.zeroValue142,t51:=Tryz.underlying169,a51:=Tryz.isAgg169,z51:=Tryz.sizeOf169,v51:=Tryz.zeroValue169,t53:=Tryz.underlying96,a53:=Tryz.isAgg96,z53:=Tryz.sizeOf96,v53:=Tryz.zeroValue96,t171:=Tryz.underlying172,a171:=Tryz.isAgg172,z171:=Tryz.sizeOf172,v171:=Tryz.zeroValue172,t173:=Tryz.underlying174,a173:=Tryz.isAgg174,z173:=Tryz.sizeOf174,v173:=Tryz.zeroValue174,t212:=Tryz.underlying198,a212:=Tryz.isAgg198,z212:=Tryz.sizeOf198,v212:=Tryz.zeroValue198,t213:=Tryz.underlying199,a213:=Tryz.isAgg199,z213:=Tryz.sizeOf199,t232:=Tryz.underlying224,a232:=Tryz.isAgg224,z232:=Tryz.sizeOf224,v232:=Tryz.zeroValue224,t233:=Tryz.underlying225,a233:=Tryz.isAgg225,z233:=Tryz.sizeOf225,v233:=Tryz.zeroValue225,g17:=by kernel_rfl,g18:=by kernel_rfl,g19:=by kernel_rfl,i0:=by kernel_rfl,i2:=by kernel_rfl,i3:=by kernel_rfl,i4:=by kernel_rfl,i5:=by kernel_rfl,i9:=by kernel_rfl,i20:=by kernel_rfl,i37:=by kernel_rfl,i46:=by kernel_rfl,i51:=by kernel_rfl,i53:=by kernel_rfl,i171:=by kernel_rfl,i173:=by kernel_rfl,i212:=by kernel_rfl,i232:=by kernel_rfl,i233:=by kernel_rfl,m17:=by kernel_rfl,m18:=by kernel_rfl,m19:=by kernel_rfl}
theorem uA:LaysC.n172 Tryz.prog ren:={mixed:=by kernel_rfl,f129:=shf129,f171:=shf171,f172:=shf172,f205:=shf205,f243:=shf243,f244:=shf244,f245:=shf245,f246:=shf246,f247:=shf247,f279:=shf279,f280:=shf280,f281:=shf281,f282:=shf282,f283:=shf283,f284:=shf284,f285:=shf285,f286:=shf286,f287:=shf287,f316:=shf316,f317:=shf317,f318:=shf318,f319:=shf319,f320:=shf320,f321:=shf321,f322:=shf322,f337:=shf337,f338:=shf338,t0:=Tryz.underlying0,a0:=Tryz.isAgg0,z0:=Tryz.sizeOf0,v0:=Tryz.zeroValue0,t2:=Tryz.underlying2,a2:=Tryz.isAgg2,z2:=Tryz.sizeOf2,v2:=Tryz.zeroValue2,t3:=Tryz.underlying3,a3:=Tryz.isAgg3,z3:=Tryz.sizeOf3,v3:=Tryz.zeroValue3,t4:=Tryz.underlying4,a4:=Tryz.isAgg4,z4:=Tryz.sizeOf4,v4:=Tryz.zeroValue4,t5:=Tryz.underlying5,a5:=Tryz.isAgg5,z5:=Tryz.sizeOf5,v5:=Tryz.zeroValue5,t9:=Tryz.underlying9,a9:=Tryz.isAgg9,z9:=Tryz.sizeOf9,v9:=Tryz.zeroValue9,t20:=Tryz.underlying20,a20:=Tryz.isAgg20,z20:=Tryz.sizeOf20,v20:=Tryz.zeroValue20,t21:=Tryz.underlying21,a21:=Tryz.isAgg21,z21:=Tryz.sizeOf21,v21:=Tryz.zeroValue21,t37:=Tryz.underlying25,a37:=Tryz.isAgg25,z37:=Tryz.sizeOf25,v37:=Tryz.zeroValue25,t46:=Tryz.underlying142,a46:=Tryz.isAgg142,z46:=Tryz.sizeOf142,v46:=Tryz.zeroValue142,t51:=Tryz.underlying169,a51:=Tryz.isAgg169,z51:=Tryz.sizeOf169,v51:=Tryz.zeroValue169,t53:=Tryz.underlying96,a53:=Tryz.isAgg96,z53:=Tryz.sizeOf96,v53:=Tryz.zeroValue96,t75:=Tryz.underlying178,a75:=Tryz.isAgg178,z75:=Tryz.sizeOf178,v75:=Tryz.zeroValue178,t76:=Tryz.underlying179,a76:=Tryz.isAgg179,z76:=Tryz.sizeOf179,v76:=Tryz.zeroValue179,t85:=Tryz.underlying213,a85:=Tryz.isAgg213,z85:=Tryz.sizeOf213,v85:=Tryz.zeroValue213,t127:=Tryz.underlying235,a127:=Tryz.isAgg235,z127:=Tryz.sizeOf235,v127:=Tryz.zeroValue235,t143:=Tryz.underlying236,a143:=Tryz.isAgg236,z143:=Tryz.sizeOf236,v143:=Tryz.zeroValue236,t145:=Tryz.underlying238,a145:=Tryz.isAgg238,z145:=Tryz.sizeOf238,v145:=Tryz.zeroValue238,t167:=Tryz.underlying212,a167:=Tryz.isAgg212,z167:=Tryz.sizeOf212,v167:=Tryz.zeroValue212,t168:=Tryz.underlying215,a168:=Tryz.isAgg215,z168:=Tryz.sizeOf215,v168:=Tryz.zeroValue215,t171:=Tryz.underlying172,a171:=Tryz.isAgg172,z171:=Tryz.sizeOf172,v171:=Tryz.zeroValue172,t173:=Tryz.underlying174,a173:=Tryz.isAgg174,z173:=Tryz.sizeOf174,v173:=Tryz.zeroValue174,t175:=Tryz.underlying226,a175:=Tryz.isAgg226,z175:=Tryz.sizeOf226,v175:=Tryz.zeroValue226,t210:=Tryz.underlying230,a210:=Tryz.isAgg230,z210:=Tryz.sizeOf230,v210:=Tryz.zeroValue230,t212:=Tryz.underlying198,a212:=Tryz.isAgg198,z212:=Tryz.sizeOf198,v212:=Tryz.zeroValue198,t213:=Tryz.underlying199,a213:=Tryz.isAgg199,z213:=Tryz.sizeOf199,t232:=Tryz.underlying224,a232:=Tryz.isAgg224,z232:=Tryz.sizeOf224,v232:=Tryz.zeroValue224,t233:=Tryz.underlying225,a233:=Tryz.isAgg225,z233:=Tryz.sizeOf225,v233:=Tryz.zeroValue225,g15:=by kernel_rfl,g16:=by kernel_rfl,g17:=by kernel_rfl,g18:=by kernel_rfl,g19:=by kernel_rfl,t80:=Tryz.underlying33,a80:=Tryz.isAgg33,z80:=Tryz.sizeOf33,v80:=Tryz.zeroValue33,i0:=by kernel_rfl,i2:=by kernel_rfl,i3:=by kernel_rfl,i4:=by kernel_rfl,i5:=by kernel_rfl,i9:=by kernel_rfl,i20:=by kernel_rfl,i21:=by kernel_rfl,i37:=by kernel_rfl,i46:=by kernel_rfl,i51:=by kernel_rfl,i53:=by kernel_rfl,i75:=by kernel_rfl,i76:=by kernel_rfl,i80:=by kernel_rfl,i85:=by kernel_rfl,i127:=by kernel_rfl,i143:=by kernel_rfl,i145:=by kernel_rfl,i167:=by kernel_rfl,i168:=by kernel_rfl,i171:=by kernel_rfl,i173:=by kernel_rfl,i175:=by kernel_rfl,i210:=by kernel_rfl,i212:=by kernel_rfl,i232:=by kernel_rfl,i233:=by kernel_rfl,m15:=by kernel_rfl,m16:=by kernel_rfl,m17:=by kernel_rfl,m18:=by kernel_rfl,m19:=by kernel_rfl,c0:=by kernel_rfl,c2:=by kernel_rfl,c3:=by kernel_rfl,c4:=by kernel_rfl,c5:=by kernel_rfl,c9:=by kernel_rfl,c20:=by kernel_rfl,c21:=by kernel_rfl,c37:=by kernel_rfl,c46:=by kernel_rfl,c51:=by kernel_rfl,c53:=by kernel_rfl,c75:=by kernel_rfl,c76:=by kernel_rfl,c80:=by kernel_rfl,c85:=by kernel_rfl,c127:=by kernel_rfl,c143:=by kernel_rfl,c145:=by kernel_rfl,c167:=by kernel_rfl,c168:=by kernel_rfl,c171:=by kernel_rfl,c173:=by kernel_rfl,c175:=by kernel_rfl,c210:=by kernel_rfl,c212:=by kernel_rfl,c213:=by kernel_rfl,c232:=by kernel_rfl,c233:=by kernel_rfl}
end Go.Proofs.YtgmikmoapfmedaaGreatDoor
