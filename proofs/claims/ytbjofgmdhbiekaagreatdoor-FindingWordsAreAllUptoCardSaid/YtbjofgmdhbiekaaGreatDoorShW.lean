/- Laws that the claim stands on; no condition beyond those stated. -/
import Derived.Test.YtbjofgmdhbiekaaGreatDoorRows
import Derived.Shelf.SlLaysF0
import Derived.Shelf.Lays
namespace Go.Proofs.YtbjofgmdhbiekaaGreatDoor
open Go Go.Shelf Go.Proofs
def dZ:Go.Shelf.Ren:=⟨λn=>match n with |6=>61|14=>109|15=>110|20=>169|21=>170|22=>171|23=>172|24=>173|25=>174|26=>175|27=>176|28=>177|29=>178|46=>231|47=>232|48=>233|49=>234|50=>235|57=>270|_=>0,λn=>match n with |0=>0|3=>3|4=>4|5=>5|9=>9|22=>31|24=>98|25=>141|39=>191|45=>241|46=>242|50=>226|53=>248|55=>250|66=>293|70=>297|76=>325|77=>122|_=>0,λn=>match n with |_=>0⟩
set_option maxRecDepth 100000 in
theorem shW6:Bears Tryz.prog (dZ.f 6) (SlBodyF.n6 dZ):=by
 have h:Tryz.f61={SlBodyF.n6 dZ with name:= "slices.SortFunc[[]orangebox/api.Where,orangebox/api.Where]" }:=by kernel_rfl
 exact⟨ "slices.SortFunc[[]orangebox/api.Where,orangebox/api.Where]",by kernel_rfl,h▸Tryz.func61⟩
set_option maxRecDepth 100000 in
theorem shW14:Bears Tryz.prog (dZ.f 14) (SlBodyF.n14 dZ):=by
 have h:Tryz.f109={SlBodyF.n14 dZ with name:= "slices.pdqsortCmpFunc[orangebox/api.Where]" }:=by kernel_rfl
 exact⟨ "slices.pdqsortCmpFunc[orangebox/api.Where]",by kernel_rfl,h▸Tryz.func109⟩
set_option maxRecDepth 100000 in
theorem shW15:Tryz.prog.funcs[dZ.f 15]? =some (SlBodyF.n15 dZ):=by
 have h:Tryz.f110=SlBodyF.n15 dZ:=by kernel_rfl
 exact h▸Tryz.func110
set_option maxRecDepth 100000 in
theorem shW20:Bears Tryz.prog (dZ.f 20) (SlBodyF.n20 dZ):=by
 have h:Tryz.f169={SlBodyF.n20 dZ with name:= "slices.insertionSortCmpFunc[orangebox/api.Where]" }:=by kernel_rfl
 exact⟨ "slices.insertionSortCmpFunc[orangebox/api.Where]",by kernel_rfl,h▸Tryz.func169⟩
set_option maxRecDepth 100000 in
theorem shW21:Bears Tryz.prog (dZ.f 21) (SlBodyF.n21 dZ):=by
 have h:Tryz.f170={SlBodyF.n21 dZ with name:= "slices.heapSortCmpFunc[orangebox/api.Where]" }:=by kernel_rfl
 exact⟨ "slices.heapSortCmpFunc[orangebox/api.Where]",by kernel_rfl,h▸Tryz.func170⟩
set_option maxRecDepth 100000 in
theorem shW22:Bears Tryz.prog (dZ.f 22) (SlBodyF.n22 dZ):=by
 have h:Tryz.f171={SlBodyF.n22 dZ with name:= "slices.breakPatternsCmpFunc[orangebox/api.Where]" }:=by kernel_rfl
 exact⟨ "slices.breakPatternsCmpFunc[orangebox/api.Where]",by kernel_rfl,h▸Tryz.func171⟩
set_option maxRecDepth 100000 in
theorem shW23:Bears Tryz.prog (dZ.f 23) (SlBodyF.n23 dZ):=by
 have h:Tryz.f172={SlBodyF.n23 dZ with name:= "slices.choosePivotCmpFunc[orangebox/api.Where]" }:=by kernel_rfl
 exact⟨ "slices.choosePivotCmpFunc[orangebox/api.Where]",by kernel_rfl,h▸Tryz.func172⟩
set_option maxRecDepth 100000 in
theorem shW24:Bears Tryz.prog (dZ.f 24) (SlBodyF.n24 dZ):=by
 have h:Tryz.f173={SlBodyF.n24 dZ with name:= "slices.reverseRangeCmpFunc[orangebox/api.Where]" }:=by kernel_rfl
 exact⟨ "slices.reverseRangeCmpFunc[orangebox/api.Where]",by kernel_rfl,h▸Tryz.func173⟩
set_option maxRecDepth 100000 in
theorem shW25:Bears Tryz.prog (dZ.f 25) (SlBodyF.n25 dZ):=by
 have h:Tryz.f174={SlBodyF.n25 dZ with name:= "slices.partialInsertionSortCmpFunc[orangebox/api.Where]" }:=by kernel_rfl
 exact⟨ "slices.partialInsertionSortCmpFunc[orangebox/api.Where]",by kernel_rfl,h▸Tryz.func174⟩
set_option maxRecDepth 100000 in
theorem shW26:Bears Tryz.prog (dZ.f 26) (SlBodyF.n26 dZ):=by
 have h:Tryz.f175={SlBodyF.n26 dZ with name:= "slices.partitionEqualCmpFunc[orangebox/api.Where]" }:=by kernel_rfl
 exact⟨ "slices.partitionEqualCmpFunc[orangebox/api.Where]",by kernel_rfl,h▸Tryz.func175⟩
set_option maxRecDepth 100000 in
theorem shW27:Bears Tryz.prog (dZ.f 27) (SlBodyF.n27 dZ):=by
 have h:Tryz.f176={SlBodyF.n27 dZ with name:= "slices.partitionCmpFunc[orangebox/api.Where]" }:=by kernel_rfl
 exact⟨ "slices.partitionCmpFunc[orangebox/api.Where]",by kernel_rfl,h▸Tryz.func176⟩
set_option maxRecDepth 100000 in
theorem shW28:Tryz.prog.funcs[dZ.f 28]? =some (SlBodyF.n28 dZ):=by
 have h:Tryz.f177=SlBodyF.n28 dZ:=by kernel_rfl
 exact h▸Tryz.func177
set_option maxRecDepth 100000 in
theorem shW29:Tryz.prog.funcs[dZ.f 29]? =some (SlBodyF.n29 dZ):=by
 have h:Tryz.f178=SlBodyF.n29 dZ:=by kernel_rfl
 exact h▸Tryz.func178
set_option maxRecDepth 100000 in
theorem shW46:Bears Tryz.prog (dZ.f 46) (SlBodyF.n46 dZ):=by
 have h:Tryz.f231={SlBodyF.n46 dZ with name:= "slices.siftDownCmpFunc[orangebox/api.Where]" }:=by kernel_rfl
 exact⟨ "slices.siftDownCmpFunc[orangebox/api.Where]",by kernel_rfl,h▸Tryz.func231⟩
set_option maxRecDepth 100000 in
theorem shW47:Tryz.prog.funcs[dZ.f 47]? =some (SlBodyF.n47 dZ):=by
 have h:Tryz.f232=SlBodyF.n47 dZ:=by kernel_rfl
 exact h▸Tryz.func232
set_option maxRecDepth 100000 in
theorem shW48:Tryz.prog.funcs[dZ.f 48]? =some (SlBodyF.n48 dZ):=by
 have h:Tryz.f233=SlBodyF.n48 dZ:=by kernel_rfl
 exact h▸Tryz.func233
set_option maxRecDepth 100000 in
theorem shW49:Bears Tryz.prog (dZ.f 49) (SlBodyF.n49 dZ):=by
 have h:Tryz.f234={SlBodyF.n49 dZ with name:= "slices.medianAdjacentCmpFunc[orangebox/api.Where]" }:=by kernel_rfl
 exact⟨ "slices.medianAdjacentCmpFunc[orangebox/api.Where]",by kernel_rfl,h▸Tryz.func234⟩
set_option maxRecDepth 100000 in
theorem shW50:Bears Tryz.prog (dZ.f 50) (SlBodyF.n50 dZ):=by
 have h:Tryz.f235={SlBodyF.n50 dZ with name:= "slices.medianCmpFunc[orangebox/api.Where]" }:=by kernel_rfl
 exact⟨ "slices.medianCmpFunc[orangebox/api.Where]",by kernel_rfl,h▸Tryz.func235⟩
set_option maxRecDepth 100000 in
theorem shW57:Bears Tryz.prog (dZ.f 57) (SlBodyF.n57 dZ):=by
 have h:Tryz.f270={SlBodyF.n57 dZ with name:= "slices.order2CmpFunc[orangebox/api.Where]" }:=by kernel_rfl
 exact⟨ "slices.order2CmpFunc[orangebox/api.Where]",by kernel_rfl,h▸Tryz.func270⟩
theorem aSg:SlLaysF0.n6 Tryz.prog dZ:={mixed:=by kernel_rfl,f6:=shW6,f14:=shW14,f15:=shW15,f20:=shW20,f21:=shW21,f22:=shW22,f23:=shW23,f24:=shW24,f25:=shW25,f26:=shW26,f27:=shW27,f28:=shW28,f29:=shW29,f46:=shW46,f47:=shW47,f48:=shW48,f49:=shW49,f50:=shW50,f57:=shW57,t0:=Tryz.underlying0,a0:=Tryz.isAgg0,z0:=Tryz.sizeOf0,v0:=Tryz.zeroValue0,t3:=Tryz.underlying3,a3:=Tryz.isAgg3,z3:=Tryz.sizeOf3,v3:=Tryz.zeroValue3,t4:=Tryz.underlying4,a4:=Tryz.isAgg4,z4:=Tryz.sizeOf4,v4:=Tryz.zeroValue4,t5:=Tryz.underlying5,a5:=Tryz.isAgg5,z5:=Tryz.sizeOf5,v5:=Tryz.zeroValue5,t9:=Tryz.underlying9,a9:=Tryz.isAgg9,z9:=Tryz.sizeOf9,v9:=Tryz.zeroValue9,t22:=Tryz.underlying31,a22:=Tryz.isAgg31,z22:=Tryz.sizeOf31,v22:=Tryz.zeroValue31,t25:=Tryz.underlying141,a25:=Tryz.isAgg141,z25:=Tryz.sizeOf141,v25:=Tryz.zeroValue141,t39:=Tryz.underlying191,a39:=Tryz.isAgg191,z39:=Tryz.sizeOf191,v39:=Tryz.zeroValue191,t45:=Tryz.underlying241,a45:=Tryz.isAgg241,z45:=Tryz.sizeOf241,v45:=Tryz.zeroValue241,t46:=Tryz.underlying242,a46:=Tryz.isAgg242,z46:=Tryz.sizeOf242,v46:=Tryz.zeroValue242,t50:=Tryz.underlying226,a50:=Tryz.isAgg226,z50:=Tryz.sizeOf226,v50:=Tryz.zeroValue226,t53:=Tryz.underlying248,a53:=Tryz.isAgg248,z53:=Tryz.sizeOf248,v53:=Tryz.zeroValue248,t55:=Tryz.underlying250,a55:=Tryz.isAgg250,z55:=Tryz.sizeOf250,v55:=Tryz.zeroValue250,t66:=Tryz.underlying293,a66:=Tryz.isAgg293,z66:=Tryz.sizeOf293,v66:=Tryz.zeroValue293,t70:=Tryz.underlying297,a70:=Tryz.isAgg297,z70:=Tryz.sizeOf297,v70:=Tryz.zeroValue297,t76:=Tryz.underlying325,a76:=Tryz.isAgg325,z76:=Tryz.sizeOf325,v76:=Tryz.zeroValue325,t77:=Tryz.underlying122,a77:=Tryz.isAgg122,z77:=Tryz.sizeOf122,v77:=Tryz.zeroValue122}
def aVb:Go.Shelf.Ren:=⟨λn=>match n with |122=>44|215=>84|_=>0,λn=>match n with |3=>3|4=>4|_=>0,λn=>match n with |_=>0⟩
set_option maxRecDepth 100000 in
theorem shC122:Tryz.prog.funcs[aVb.f 122]? =some (Body.n122 aVb):=by
 have h:Tryz.f44=Body.n122 aVb:=by kernel_rfl
 exact h▸Tryz.func44
set_option maxRecDepth 100000 in
theorem shC215:Tryz.prog.funcs[aVb.f 215]? =some (Body.n215 aVb):=by
 have h:Tryz.f84=Body.n215 aVb:=by kernel_rfl
 exact h▸Tryz.func84
theorem aMv:Lays.n122 Tryz.prog aVb:={mixed:=by kernel_rfl,f122:=shC122,f215:=shC215,t3:=Tryz.underlying3,a3:=Tryz.isAgg3,z3:=Tryz.sizeOf3,v3:=Tryz.zeroValue3,t4:=Tryz.underlying4,a4:=Tryz.isAgg4,z4:=Tryz.sizeOf4,v4:=Tryz.zeroValue4}
end Go.Proofs.YtbjofgmdhbiekaaGreatDoor
