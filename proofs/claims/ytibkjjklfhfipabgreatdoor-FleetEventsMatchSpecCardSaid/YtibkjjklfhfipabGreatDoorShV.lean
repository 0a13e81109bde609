/- Laws that the claim stands on; no condition beyond those stated. -/
import Derived.Test.YtibkjjklfhfipabGreatDoorRows
import Derived.Shelf.Strconv.Itoa3
import Derived.Shelf.Strings.OnBuilder
import Derived.Shelf.LaysC
namespace Go.Proofs.YtibkjjklfhfipabGreatDoor
open Go Go.Shelf
def ren:Go.Shelf.Ren:=⟨λn=>match n with |129=>151|283=>137|284=>138|285=>139|286=>140|317=>150|318=>152|319=>153|320=>154|337=>167|338=>168|_=>0,λn=>match n with |0=>0|2=>2|3=>3|4=>4|5=>5|9=>9|20=>20|21=>21|31=>25|37=>44|46=>229|51=>238|53=>172|80=>49|127=>270|164=>277|171=>222|173=>225|212=>237|213=>239|232=>256|233=>257|_=>0,λn=>match n with |17=>0|18=>2|19=>3|_=>0⟩
set_option maxRecDepth 100000 in
theorem shf129:Tryz.prog.funcs[ren.f 129]? =some (Body.n129 ren):=by
 have h:Tryz.f151=Body.n129 ren:=by kernel_rfl
 exact h▸Tryz.func151
set_option maxRecDepth 100000 in
theorem shf283:Tryz.prog.funcs[ren.f 283]? =some (Body.n283 ren):=by
 have h:Tryz.f137=Body.n283 ren:=by kernel_rfl
 exact h▸Tryz.func137
set_option maxRecDepth 100000 in
theorem shf285:Tryz.prog.funcs[ren.f 285]? =some (Body.n285 ren):=by
 have h:Tryz.f139=Body.n285 ren:=by kernel_rfl
 exact h▸Tryz.func139
theorem shLays129:Lays.n129 Tryz.prog ren:={mixed:=by kernel_rfl,f129:=shf129,t3:=Tryz.underlying3,a3:=Tryz.isAgg3,z3:=Tryz.sizeOf3,v3:=Tryz.zeroValue3,t4:=Tryz.underlying4,a4:=Tryz.isAgg4,z4:=Tryz.sizeOf4,v4:=Tryz.zeroValue4,t5:=Tryz.underlying5,a5:=Tryz.isAgg5,z5:=Tryz.sizeOf5,v5:=Tryz.zeroValue5,t9:=Tryz.underlying9,a9:=Tryz.isAgg9,z9:=Tryz.sizeOf9,v9:=Tryz.zeroValue9,t46:=Tryz.underlying229,a46:=Tryz.isAgg229,z46:=Tryz.sizeOf229,v46:=Tryz.zeroValue229,t53:=Tryz.underlying172,a53:=Tryz.isAgg172,z53:=Tryz.sizeOf172,v53:=Tryz.zeroValue172}
theorem shLays283:Lays.n283 Tryz.prog ren:={mixed:=by kernel_rfl,f283:=shf283,t3:=Tryz.underlying3,a3:=Tryz.isAgg3,z3:=Tryz.sizeOf3,v3:=Tryz.zeroValue3,t4:=Tryz.underlying4,a4:=Tryz.isAgg4,z4:=Tryz.sizeOf4,v4:=Tryz.zeroValue4,t9:=Tryz.underlying9,a9:=Tryz.isAgg9,z9:=Tryz.sizeOf9,v9:=Tryz.zeroValue9}
theorem shLays285:Lays.n285 Tryz.prog ren:={mixed:=by kernel_rfl,f285:=shf285,t0:=Tryz.underlying0,a0:=Tryz.isAgg0,z0:=Tryz.sizeOf0,v0:=Tryz.zeroValue0,t3:=Tryz.underlying3,a3:=Tryz.isAgg3,z3:=Tryz.sizeOf3,v3:=Tryz.zeroValue3,t4:=Tryz.underlying4,a4:=Tryz.isAgg4,z4:=Tryz.sizeOf4,v4:=Tryz.zeroValue4,t5:=Tryz.underlying5,a5:=Tryz.isAgg5,z5:=Tryz.sizeOf5,v5:=Tryz.zeroValue5,t9:=Tryz.underlying9,a9:=Tryz.isAgg9,z9:=Tryz.sizeOf9,v9:=Tryz.zeroValue9,t37:=Tryz.underlying44,a37:=Tryz.isAgg44,z37:=Tryz.sizeOf44,v37:=Tryz.zeroValue44,t51:=Tryz.underlying238,a51:=Tryz.isAgg238,z51:=Tryz.sizeOf238,v51:=Tryz.zeroValue238,t53:=Tryz.underlying172,a53:=Tryz.isAgg172,z53:=Tryz.sizeOf172,v53:=Tryz.zeroValue172}
end Go.Proofs.YtibkjjklfhfipabGreatDoor
