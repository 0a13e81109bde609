/- The shelf's contracts of Go's library, tied to this program. -/
import Derived.Test.YthllgjnlmjpinaaGreatDoorRows
import Derived.Shelf.Strconv.Itoa3
import Derived.Shelf.Strings.OnBuilder
import Derived.Shelf.LaysC
namespace Go.Proofs.YthllgjnlmjpinaaGreatDoor
open Go Go.Shelf
def ren:Go.Shelf.Ren:=⟨fun n=>match n with | 129=>138 | 171=>57 | 243=>94 | 246=>117 | 283=>142 | 284=>143 | 285=>144 | 286=>145 | 317=>159 | 318=>160 | 319=>161 | 320=>162 | 337=>170 | 338=>171 | _=>0,fun n=>match n with | 0=>0 | 2=>2 | 3=>3 | 4=>4 | 5=>5 | 9=>9 | 20=>20 | 21=>21 | 31=>23 | 37=>50 | 46=>134 | 51=>195 | 53=>147 | 80=>66 | 127=>294 | 164=>301 | 171=>202 | 173=>204 | 212=>232 | 213=>233 | 232=>273 | 233=>274 | _=>0,fun n=>match n with | 17=>1 | 18=>2 | 19=>3 | _=>0⟩
set_option maxRecDepth 100000 in
theorem shf129:Tryz.prog.funcs[ren.f 129]? =some (Body.n129 ren):=by
 have h:Tryz.f138=Body.n129 ren:=by kernel_rfl
 exact h ▸ Tryz.func138
set_option maxRecDepth 100000 in
theorem shf283:Tryz.prog.funcs[ren.f 283]? =some (Body.n283 ren):=by
 have h:Tryz.f142=Body.n283 ren:=by kernel_rfl
 exact h ▸ Tryz.func142
set_option maxRecDepth 100000 in
theorem shf285:Tryz.prog.funcs[ren.f 285]? =some (Body.n285 ren):=by
 have h:Tryz.f144=Body.n285 ren:=by kernel_rfl
 exact h ▸ Tryz.func144
theorem shLays129:Lays.n129 Tryz.prog ren:={mixed:=by kernel_rfl,f129:=shf129,t3:=Tryz.underlying3,a3:=Tryz.isAgg3,z3:=Tryz.sizeOf3,v3:=Tryz.zeroValue3,t4:=Tryz.underlying4,a4:=Tryz.isAgg4,z4:=Tryz.sizeOf4,v4:=Tryz.zeroValue4,t5:=Tryz.underlying5,a5:=Tryz.isAgg5,z5:=Tryz.sizeOf5,v5:=Tryz.zeroValue5,t9:=Tryz.underlying9,a9:=Tryz.isAgg9,z9:=Tryz.sizeOf9,v9:=Tryz.zeroValue9,t46:=Tryz.underlying134,a46:=Tryz.isAgg134,z46:=Tryz.sizeOf134,v46:=Tryz.zeroValue134,t53:=Tryz.underlying147,a53:=Tryz.isAgg147,z53:=Tryz.sizeOf147,v53:=Tryz.zeroValue147}
theorem shLays283:Lays.n283 Tryz.prog ren:={mixed:=by kernel_rfl,f283:=shf283,t3:=Tryz.underlying3,a3:=Tryz.isAgg3,z3:=Tryz.sizeOf3,v3:=Tryz.zeroValue3,t4:=Tryz.underlying4,a4:=Tryz.isAgg4,z4:=Tryz.sizeOf4,v4:=Tryz.zeroValue4,t9:=Tryz.underlying9,a9:=Tryz.isAgg9,z9:=Tryz.sizeOf9,v9:=Tryz.zeroValue9}
theorem aJu:Lays.n285 Tryz.prog ren:={mixed:=by kernel_rfl,f285:=shf285,t0:=Tryz.underlying0,a0:=Tryz.isAgg0,z0:=Tryz.sizeOf0,v0:=Tryz.zeroValue0,t3:=Tryz.underlying3,a3:=Tryz.isAgg3,z3:=Tryz.sizeOf3,v3:=Tryz.zeroValue3,t4:=Tryz.underlying4,a4:=Tryz.isAgg4,z4:=Tryz.sizeOf4,v4:=Tryz.zeroValue4,t5:=Tryz.underlying5,a5:=Tryz.isAgg5,z5:=Tryz.sizeOf5,v5:=Tryz.zeroValue5,t9:=Tryz.underlying9,a9:=Tryz.isAgg9,z9:=Tryz.sizeOf9,v9:=Tryz.zeroValue9,t37:=Tryz.underlying50,a37:=Tryz.isAgg50,z37:=Tryz.sizeOf50,v37:=Tryz.zeroValue50,t51:=Tryz.underlying195,a51:=Tryz.isAgg195,z51:=Tryz.sizeOf195,v51:=Tryz.zeroValue195,t53:=Tryz.underlying147,a53:=Tryz.isAgg147,z53:=Tryz.sizeOf147,v53:=Tryz.zeroValue147}
end Go.Proofs.YthllgjnlmjpinaaGreatDoor
