/- The shelf's contracts of Go's library, tied to this program. -/
import Derived.Test.YtckmiljbaejijaaGreatDoorRows
import Derived.Shelf.Strconv.Itoa3
import Derived.Shelf.Strings.OnBuilder
import Derived.Shelf.LaysC
namespace Go.Proofs.YtckmiljbaejijaaGreatDoor
open Go Go.Shelf
def ren:Go.Shelf.Ren:=⟨fun n=>match n with | 129=>238 | 156=>188 | 165=>225 | 166=>68 | 169=>71 | 171=>130 | 172=>213 | 205=>290 | 240=>129 | 241=>260 | 243=>187 | 244=>255 | 245=>256 | 246=>224 | 247=>278 | 276=>186 | 277=>283 | 279=>279 | 280=>280 | 281=>281 | 282=>282 | 283=>249 | 284=>250 | 285=>251 | 286=>252 | 287=>288 | 316=>289 | 317=>272 | 318=>273 | 319=>274 | 320=>275 | 321=>291 | 322=>292 | 337=>286 | 338=>287 | _=>0,fun n=>match n with | 0=>0 | 2=>2 | 3=>3 | 4=>4 | 5=>5 | 9=>9 | 20=>20 | 21=>21 | 31=>22 | 37=>61 | 46=>199 | 51=>317 | 53=>297 | 70=>127 | 72=>129 | 75=>131 | 76=>132 | 80=>66 | 85=>349 | 127=>210 | 143=>367 | 145=>369 | 164=>271 | 167=>348 | 168=>351 | 171=>326 | 173=>328 | 175=>358 | 210=>362 | 212=>346 | 213=>347 | 232=>364 | 233=>365 | _=>0,fun n=>match n with | 15=>4 | 16=>5 | 17=>3 | 18=>6 | 19=>7 | _=>0⟩
set_option maxRecDepth 100000 in
theorem shf129:Tryz.prog.funcs[ren.f 129]? =some (Body.n129 ren):=by
  have h:Tryz.f238=Body.n129 ren:=by kernel_rfl
  exact h ▸ Tryz.func238
set_option maxRecDepth 100000 in
theorem shf283:Tryz.prog.funcs[ren.f 283]? =some (Body.n283 ren):=by
  have h:Tryz.f249=Body.n283 ren:=by kernel_rfl
  exact h ▸ Tryz.func249
set_option maxRecDepth 100000 in
theorem shf285:Tryz.prog.funcs[ren.f 285]? =some (Body.n285 ren):=by
  have h:Tryz.f251=Body.n285 ren:=by kernel_rfl
  exact h ▸ Tryz.func251
theorem shLays129:Lays.n129 Tryz.prog ren:={mixed:=by kernel_rfl,f129:=shf129,t3:=Tryz.underlying3,a3:=Tryz.isAgg3,z3:=Tryz.sizeOf3,v3:=Tryz.zeroValue3,t4:=Tryz.underlying4,a4:=Tryz.isAgg4,z4:=Tryz.sizeOf4,v4:=Tryz.zeroValue4,t5:=Tryz.underlying5,a5:=Tryz.isAgg5,z5:=Tryz.sizeOf5,v5:=Tryz.zeroValue5,t9:=Tryz.underlying9,a9:=Tryz.isAgg9,z9:=Tryz.sizeOf9,v9:=Tryz.zeroValue9,t46:=Tryz.underlying199,a46:=Tryz.isAgg199,z46:=Tryz.sizeOf199,v46:=Tryz.zeroValue199,t53:=Tryz.underlying297,a53:=Tryz.isAgg297,z53:=Tryz.sizeOf297,v53:=Tryz.zeroValue297}
theorem shLays283:Lays.n283 Tryz.prog ren:={mixed:=by kernel_rfl,f283:=shf283,t3:=Tryz.underlying3,a3:=Tryz.isAgg3,z3:=Tryz.sizeOf3,v3:=Tryz.zeroValue3,t4:=Tryz.underlying4,a4:=Tryz.isAgg4,z4:=Tryz.sizeOf4,v4:=Tryz.zeroValue4,t9:=Tryz.underlying9,a9:=Tryz.isAgg9,z9:=Tryz.sizeOf9,v9:=Tryz.zeroValue9}
theorem shLays285:Lays.n285 Tryz.prog ren:={mixed:=by kernel_rfl,f285:=shf285,t0:=Tryz.underlying0,a0:=Tryz.isAgg0,z0:=Tryz.sizeOf0,v0:=Tryz.zeroValue0,t3:=Tryz.underlying3,a3:=Tryz.isAgg3,z3:=Tryz.sizeOf3,v3:=Tryz.zeroValue3,t4:=Tryz.underlying4,a4:=Tryz.isAgg4,z4:=Tryz.sizeOf4,v4:=Tryz.zeroValue4,t5:=Tryz.underlying5,a5:=Tryz.isAgg5,z5:=Tryz.sizeOf5,v5:=Tryz.zeroValue5,t9:=Tryz.underlying9,a9:=Tryz.isAgg9,z9:=Tryz.sizeOf9,v9:=Tryz.zeroValue9,t37:=Tryz.underlying61,a37:=Tryz.isAgg61,z37:=Tryz.sizeOf61,v37:=Tryz.zeroValue61,t51:=Tryz.underlying317,a51:=Tryz.isAgg317,z51:=Tryz.sizeOf317,v51:=Tryz.zeroValue317,t53:=Tryz.underlying297,a53:=Tryz.isAgg297,z53:=Tryz.sizeOf297,v53:=Tryz.zeroValue297}
end Go.Proofs.YtckmiljbaejijaaGreatDoor
