/- Laws that the claim stands on; no condition beyond those stated. -/
import Derived.Test.YtibkjjklfhfipacGreatDoorRows
import Derived.Shelf.Strconv.Itoa3
import Derived.Shelf.Strings.OnBuilder
import Derived.Shelf.LaysC
namespace Go.Proofs.YtibkjjklfhfipacGreatDoor
open Go Go.Shelf
def ren:Go.Shelf.Ren:=⟨λn=>match n with |129=>143|171=>38|243=>66|246=>98|283=>121|284=>122|285=>123|286=>124|317=>142|318=>144|319=>145|320=>146|337=>162|338=>163|_=>0,λn=>match n with |0=>0|2=>2|3=>3|4=>4|5=>5|9=>9|20=>20|21=>21|31=>23|37=>39|46=>206|51=>204|53=>169|80=>44|127=>287|164=>293|171=>178|173=>181|212=>203|213=>205|232=>259|233=>260|_=>0,λn=>match n with |17=>0|18=>1|19=>2|_=>0⟩
set_option maxRecDepth 100000 in
theorem shf129:Tryz.prog.funcs[ren.f 129]? =some (Body.n129 ren):=by
 have h:Tryz.f143=Body.n129 ren:=by kernel_rfl
 exact h▸Tryz.func143
set_option maxRecDepth 100000 in
theorem shf283:Tryz.prog.funcs[ren.f 283]? =some (Body.n283 ren):=by
 have h:Tryz.f121=Body.n283 ren:=by kernel_rfl
 exact h▸Tryz.func121
set_option maxRecDepth 100000 in
theorem shf285:Tryz.prog.funcs[ren.f 285]? =some (Body.n285 ren):=by
 have h:Tryz.f123=Body.n285 ren:=by kernel_rfl
 exact h▸Tryz.func123
theorem shLays129:Lays.n129 Tryz.prog ren:={mixed:=by kernel_rfl,f129:=shf129,t3:=Tryz.underlying3,a3:=Tryz.isAgg3,z3:=Tryz.sizeOf3,v3:=Tryz.zeroValue3,t4:=Tryz.underlying4,a4:=Tryz.isAgg4,z4:=Tryz.sizeOf4,v4:=Tryz.zeroValue4,t5:=Tryz.underlying5,a5:=Tryz.isAgg5,z5:=Tryz.sizeOf5,v5:=Tryz.zeroValue5,t9:=Tryz.underlying9,a9:=Tryz.isAgg9,z9:=Tryz.sizeOf9,v9:=Tryz.zeroValue9,t46:=Tryz.underlying206,a46:=Tryz.isAgg206,z46:=Tryz.sizeOf206,v46:=Tryz.zeroValue206,t53:=Tryz.underlying169,a53:=Tryz.isAgg169,z53:=Tryz.sizeOf169,v53:=Tryz.zeroValue169}
theorem shLays283:Lays.n283 Tryz.prog ren:={mixed:=by kernel_rfl,f283:=shf283,t3:=Tryz.underlying3,a3:=Tryz.isAgg3,z3:=Tryz.sizeOf3,v3:=Tryz.zeroValue3,t4:=Tryz.underlying4,a4:=Tryz.isAgg4,z4:=Tryz.sizeOf4,v4:=Tryz.zeroValue4,t9:=Tryz.underlying9,a9:=Tryz.isAgg9,z9:=Tryz.sizeOf9,v9:=Tryz.zeroValue9}
theorem aTa:Lays.n285 Tryz.prog ren:={mixed:=by kernel_rfl,f285:=shf285,t0:=Tryz.underlying0,a0:=Tryz.isAgg0,z0:=Tryz.sizeOf0,v0:=Tryz.zeroValue0,t3:=Tryz.underlying3,a3:=Tryz.isAgg3,z3:=Tryz.sizeOf3,v3:=Tryz.zeroValue3,t4:=Tryz.underlying4,a4:=Tryz.isAgg4,z4:=Tryz.sizeOf4,v4:=Tryz.zeroValue4,t5:=Tryz.underlying5,a5:=Tryz.isAgg5,z5:=Tryz.sizeOf5,v5:=Tryz.zeroValue5,t9:=Tryz.underlying9,a9:=Tryz.isAgg9,z9:=Tryz.sizeOf9,v9:=Tryz.zeroValue9,t37:=Tryz.underlying39,a37:=Tryz.isAgg39,z37:=Tryz.sizeOf39,v37:=Tryz.zeroValue39,t51:=Tryz.underlying204,a51:=Tryz.isAgg204,z51:=Tryz.sizeOf204,v51:=Tryz.zeroValue204,t53:=Tryz.underlying169,a53:=Tryz.isAgg169,z53:=Tryz.sizeOf169,v53:=Tryz.zeroValue169}
end Go.Proofs.YtibkjjklfhfipacGreatDoor
