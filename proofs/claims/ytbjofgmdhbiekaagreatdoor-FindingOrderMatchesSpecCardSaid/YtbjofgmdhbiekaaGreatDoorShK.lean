/- Laws that the claim stands on; no condition beyond those stated. -/
import Derived.Test.YtbjofgmdhbiekaaGreatDoorRows
import Derived.Shelf.Strings.FuncGrows
namespace Go.Proofs.YtbjofgmdhbiekaaGreatDoor
open Go Go.Shelf Go.Proofs
def aMe:Go.Shelf.Ren:=⟨λn=>match n with |15=>268|17=>227|20=>290|_=>0,λn=>match n with |0=>0|3=>3|4=>4|9=>9|21=>21|23=>290|_=>0,λn=>match n with |_=>0⟩
set_option maxRecDepth 100000 in
theorem shK15:Tryz.prog.funcs[aMe.f 15]? =some (BodyGw.n15 aMe):=by
 have h:Tryz.f268=BodyGw.n15 aMe:=by kernel_rfl
 exact h▸Tryz.func268
set_option maxRecDepth 100000 in
theorem shK17:Tryz.prog.funcs[aMe.f 17]? =some (BodyGw.n17 aMe):=by
 have h:Tryz.f227=BodyGw.n17 aMe:=by kernel_rfl
 exact h▸Tryz.func227
set_option maxRecDepth 100000 in
theorem shK20:Tryz.prog.funcs[aMe.f 20]? =some (BodyGw.n20 aMe):=by
 have h:Tryz.f290=BodyGw.n20 aMe:=by kernel_rfl
 exact h▸Tryz.func290
theorem aTf:LaysGw.n17 Tryz.prog aMe:={mixed:=by kernel_rfl,f15:=shK15,f17:=shK17,f20:=shK20,t0:=Tryz.underlying0,a0:=Tryz.isAgg0,z0:=Tryz.sizeOf0,v0:=Tryz.zeroValue0,i0:=by kernel_rfl,t3:=Tryz.underlying3,a3:=Tryz.isAgg3,z3:=Tryz.sizeOf3,v3:=Tryz.zeroValue3,i3:=by kernel_rfl,t4:=Tryz.underlying4,a4:=Tryz.isAgg4,z4:=Tryz.sizeOf4,v4:=Tryz.zeroValue4,i4:=by kernel_rfl,t9:=Tryz.underlying9,a9:=Tryz.isAgg9,z9:=Tryz.sizeOf9,v9:=Tryz.zeroValue9,i9:=by kernel_rfl,t21:=Tryz.underlying21,a21:=Tryz.isAgg21,z21:=Tryz.sizeOf21,v21:=Tryz.zeroValue21,i21:=by kernel_rfl,t23:=Tryz.underlying290,a23:=Tryz.isAgg290,z23:=Tryz.sizeOf290,v23:=Tryz.zeroValue290,i23:=by kernel_rfl}
end Go.Proofs.YtbjofgmdhbiekaaGreatDoor
