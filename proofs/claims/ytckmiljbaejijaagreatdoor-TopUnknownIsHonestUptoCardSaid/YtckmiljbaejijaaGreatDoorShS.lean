/- The shelf's contracts of slices.SortFunc (texts), strings.Compare, slices.Compact, tied to this program. -/
import Derived.Test.YtckmiljbaejijaaGreatDoorRows
import Derived.Shelf.SlLaysF
import Derived.Shelf.Lays
namespace Go.Proofs.YtckmiljbaejijaaGreatDoor
open Go Go.Shelf Go.Proofs
def dH:Go.Shelf.Ren:=⟨fun n=>match n with | 6=>153 | 14=>197 | 15=>198 | 20=>229 | 21=>230 | 22=>231 | 23=>232 | 24=>233 | 25=>234 | 26=>235 | 27=>236 | 28=>237 | 29=>238 | 46=>263 | 47=>264 | 48=>265 | 49=>266 | 50=>267 | 57=>284 | _=>0,fun n=>match n with | 0=>0 | 3=>3 | 4=>4 | 5=>5 | 9=>9 | 22=>22 | 24=>9 | 25=>234 | 39=>199 | 45=>310 | 46=>311 | 50=>304 | 53=>317 | 55=>297 | 66=>335 | 70=>151 | 76=>355 | 77=>356 | _=>0,fun n=>match n with | _=>0⟩
set_option maxRecDepth 100000 in
theorem shG6:Bears Tryz.prog (dH.f 6) (SlBodyF.n6 dH):=by
  have h:Tryz.f153={SlBodyF.n6 dH with name:= "slices.SortFunc[[]string,string]" }:=by kernel_rfl
  exact ⟨ "slices.SortFunc[[]string,string]",by kernel_rfl,h ▸ Tryz.func153⟩
set_option maxRecDepth 100000 in
theorem shG14:Bears Tryz.prog (dH.f 14) (SlBodyF.n14 dH):=by
  have h:Tryz.f197={SlBodyF.n14 dH with name:= "slices.pdqsortCmpFunc[string]" }:=by kernel_rfl
  exact ⟨ "slices.pdqsortCmpFunc[string]",by kernel_rfl,h ▸ Tryz.func197⟩
set_option maxRecDepth 100000 in
theorem shG15:Tryz.prog.funcs[dH.f 15]? =some (SlBodyF.n15 dH):=by
  have h:Tryz.f198=SlBodyF.n15 dH:=by kernel_rfl
  exact h ▸ Tryz.func198
set_option maxRecDepth 100000 in
theorem shG20:Bears Tryz.prog (dH.f 20) (SlBodyF.n20 dH):=by
  have h:Tryz.f229={SlBodyF.n20 dH with name:= "slices.insertionSortCmpFunc[string]" }:=by kernel_rfl
  exact ⟨ "slices.insertionSortCmpFunc[string]",by kernel_rfl,h ▸ Tryz.func229⟩
set_option maxRecDepth 100000 in
theorem shG21:Bears Tryz.prog (dH.f 21) (SlBodyF.n21 dH):=by
  have h:Tryz.f230={SlBodyF.n21 dH with name:= "slices.heapSortCmpFunc[string]" }:=by kernel_rfl
  exact ⟨ "slices.heapSortCmpFunc[string]",by kernel_rfl,h ▸ Tryz.func230⟩
set_option maxRecDepth 100000 in
theorem shG22:Bears Tryz.prog (dH.f 22) (SlBodyF.n22 dH):=by
  have h:Tryz.f231={SlBodyF.n22 dH with name:= "slices.breakPatternsCmpFunc[string]" }:=by kernel_rfl
  exact ⟨ "slices.breakPatternsCmpFunc[string]",by kernel_rfl,h ▸ Tryz.func231⟩
set_option maxRecDepth 100000 in
theorem shG23:Bears Tryz.prog (dH.f 23) (SlBodyF.n23 dH):=by
  have h:Tryz.f232={SlBodyF.n23 dH with name:= "slices.choosePivotCmpFunc[string]" }:=by kernel_rfl
  exact ⟨ "slices.choosePivotCmpFunc[string]",by kernel_rfl,h ▸ Tryz.func232⟩
set_option maxRecDepth 100000 in
theorem shG24:Bears Tryz.prog (dH.f 24) (SlBodyF.n24 dH):=by
  have h:Tryz.f233={SlBodyF.n24 dH with name:= "slices.reverseRangeCmpFunc[string]" }:=by kernel_rfl
  exact ⟨ "slices.reverseRangeCmpFunc[string]",by kernel_rfl,h ▸ Tryz.func233⟩
set_option maxRecDepth 100000 in
theorem shG25:Bears Tryz.prog (dH.f 25) (SlBodyF.n25 dH):=by
  have h:Tryz.f234={SlBodyF.n25 dH with name:= "slices.partialInsertionSortCmpFunc[string]" }:=by kernel_rfl
  exact ⟨ "slices.partialInsertionSortCmpFunc[string]",by kernel_rfl,h ▸ Tryz.func234⟩
set_option maxRecDepth 100000 in
theorem shG26:Bears Tryz.prog (dH.f 26) (SlBodyF.n26 dH):=by
  have h:Tryz.f235={SlBodyF.n26 dH with name:= "slices.partitionEqualCmpFunc[string]" }:=by kernel_rfl
  exact ⟨ "slices.partitionEqualCmpFunc[string]",by kernel_rfl,h ▸ Tryz.func235⟩
set_option maxRecDepth 100000 in
theorem shG27:Bears Tryz.prog (dH.f 27) (SlBodyF.n27 dH):=by
  have h:Tryz.f236={SlBodyF.n27 dH with name:= "slices.partitionCmpFunc[string]" }:=by kernel_rfl
  exact ⟨ "slices.partitionCmpFunc[string]",by kernel_rfl,h ▸ Tryz.func236⟩
set_option maxRecDepth 100000 in
theorem shG28:Tryz.prog.funcs[dH.f 28]? =some (SlBodyF.n28 dH):=by
  have h:Tryz.f237=SlBodyF.n28 dH:=by kernel_rfl
  exact h ▸ Tryz.func237
set_option maxRecDepth 100000 in
theorem shG29:Tryz.prog.funcs[dH.f 29]? =some (SlBodyF.n29 dH):=by
  have h:Tryz.f238=SlBodyF.n29 dH:=by kernel_rfl
  exact h ▸ Tryz.func238
set_option maxRecDepth 100000 in
theorem shG46:Bears Tryz.prog (dH.f 46) (SlBodyF.n46 dH):=by
  have h:Tryz.f263={SlBodyF.n46 dH with name:= "slices.siftDownCmpFunc[string]" }:=by kernel_rfl
  exact ⟨ "slices.siftDownCmpFunc[string]",by kernel_rfl,h ▸ Tryz.func263⟩
set_option maxRecDepth 100000 in
theorem shG47:Tryz.prog.funcs[dH.f 47]? =some (SlBodyF.n47 dH):=by
  have h:Tryz.f264=SlBodyF.n47 dH:=by kernel_rfl
  exact h ▸ Tryz.func264
set_option maxRecDepth 100000 in
theorem shG48:Tryz.prog.funcs[dH.f 48]? =some (SlBodyF.n48 dH):=by
  have h:Tryz.f265=SlBodyF.n48 dH:=by kernel_rfl
  exact h ▸ Tryz.func265
set_option maxRecDepth 100000 in
theorem shG49:Bears Tryz.prog (dH.f 49) (SlBodyF.n49 dH):=by
  have h:Tryz.f266={SlBodyF.n49 dH with name:= "slices.medianAdjacentCmpFunc[string]" }:=by kernel_rfl
  exact ⟨ "slices.medianAdjacentCmpFunc[string]",by kernel_rfl,h ▸ Tryz.func266⟩
set_option maxRecDepth 100000 in
theorem shG50:Bears Tryz.prog (dH.f 50) (SlBodyF.n50 dH):=by
  have h:Tryz.f267={SlBodyF.n50 dH with name:= "slices.medianCmpFunc[string]" }:=by kernel_rfl
  exact ⟨ "slices.medianCmpFunc[string]",by kernel_rfl,h ▸ Tryz.func267⟩
set_option maxRecDepth 100000 in
theorem shG57:Bears Tryz.prog (dH.f 57) (SlBodyF.n57 dH):=by
  have h:Tryz.f284={SlBodyF.n57 dH with name:= "slices.order2CmpFunc[string]" }:=by kernel_rfl
  exact ⟨ "slices.order2CmpFunc[string]",by kernel_rfl,h ▸ Tryz.func284⟩
theorem shSlLaysF6:SlLaysF.n6 Tryz.prog dH:={mixed:=by kernel_rfl,f6:=shG6,f14:=shG14,f15:=shG15,f20:=shG20,f21:=shG21,f22:=shG22,f23:=shG23,f24:=shG24,f25:=shG25,f26:=shG26,f27:=shG27,f28:=shG28,f29:=shG29,f46:=shG46,f47:=shG47,f48:=shG48,f49:=shG49,f50:=shG50,f57:=shG57,t0:=Tryz.underlying0,a0:=Tryz.isAgg0,z0:=Tryz.sizeOf0,v0:=Tryz.zeroValue0,t3:=Tryz.underlying3,a3:=Tryz.isAgg3,z3:=Tryz.sizeOf3,v3:=Tryz.zeroValue3,t4:=Tryz.underlying4,a4:=Tryz.isAgg4,z4:=Tryz.sizeOf4,v4:=Tryz.zeroValue4,t5:=Tryz.underlying5,a5:=Tryz.isAgg5,z5:=Tryz.sizeOf5,v5:=Tryz.zeroValue5,t9:=Tryz.underlying9,a9:=Tryz.isAgg9,z9:=Tryz.sizeOf9,v9:=Tryz.zeroValue9,t22:=Tryz.underlying22,a22:=Tryz.isAgg22,z22:=Tryz.sizeOf22,v22:=Tryz.zeroValue22,a24:=Tryz.isAgg9,z24:=Tryz.sizeOf9,t25:=Tryz.underlying234,a25:=Tryz.isAgg234,z25:=Tryz.sizeOf234,v25:=Tryz.zeroValue234,t39:=Tryz.underlying199,a39:=Tryz.isAgg199,z39:=Tryz.sizeOf199,v39:=Tryz.zeroValue199,t45:=Tryz.underlying310,a45:=Tryz.isAgg310,z45:=Tryz.sizeOf310,v45:=Tryz.zeroValue310,t46:=Tryz.underlying311,a46:=Tryz.isAgg311,z46:=Tryz.sizeOf311,v46:=Tryz.zeroValue311,t50:=Tryz.underlying304,a50:=Tryz.isAgg304,z50:=Tryz.sizeOf304,v50:=Tryz.zeroValue304,t53:=Tryz.underlying317,a53:=Tryz.isAgg317,z53:=Tryz.sizeOf317,v53:=Tryz.zeroValue317,t55:=Tryz.underlying297,a55:=Tryz.isAgg297,z55:=Tryz.sizeOf297,v55:=Tryz.zeroValue297,t66:=Tryz.underlying335,a66:=Tryz.isAgg335,z66:=Tryz.sizeOf335,v66:=Tryz.zeroValue335,t70:=Tryz.underlying151,a70:=Tryz.isAgg151,z70:=Tryz.sizeOf151,v70:=Tryz.zeroValue151,t76:=Tryz.underlying355,a76:=Tryz.isAgg355,z76:=Tryz.sizeOf355,v76:=Tryz.zeroValue355,t77:=Tryz.underlying356,a77:=Tryz.isAgg356,z77:=Tryz.sizeOf356,v77:=Tryz.zeroValue356}
def renS:Go.Shelf.Ren:=⟨fun n=>match n with | 106=>154 | 194=>155 | 213=>199 | 265=>239 | _=>0,fun n=>match n with | 0=>0 | 3=>3 | 4=>4 | 9=>9 | 31=>22 | _=>0,fun n=>match n with | _=>0⟩
set_option maxRecDepth 100000 in
theorem shS106:Tryz.prog.funcs[renS.f 106]? =some (Body.n106 renS):=by
  have h:Tryz.f154=Body.n106 renS:=by kernel_rfl
  exact h ▸ Tryz.func154
set_option maxRecDepth 100000 in
theorem shS194:Tryz.prog.funcs[renS.f 194]? =some (Body.n194 renS):=by
  have h:Tryz.f155=Body.n194 renS:=by kernel_rfl
  exact h ▸ Tryz.func155
set_option maxRecDepth 100000 in
theorem shS213:Tryz.prog.funcs[renS.f 213]? =some (Body.n213 renS):=by
  have h:Tryz.f199=Body.n213 renS:=by kernel_rfl
  exact h ▸ Tryz.func199
set_option maxRecDepth 100000 in
theorem shS265:Tryz.prog.funcs[renS.f 265]? =some (Body.n265 renS):=by
  have h:Tryz.f239=Body.n265 renS:=by kernel_rfl
  exact h ▸ Tryz.func239
theorem shLays106:Lays.n106 Tryz.prog renS:={mixed:=by kernel_rfl,f106:=shS106,f213:=shS213,f265:=shS265,t3:=Tryz.underlying3,a3:=Tryz.isAgg3,z3:=Tryz.sizeOf3,v3:=Tryz.zeroValue3,t9:=Tryz.underlying9,a9:=Tryz.isAgg9,z9:=Tryz.sizeOf9,v9:=Tryz.zeroValue9}
theorem shLays194:Lays.n194 Tryz.prog renS:={mixed:=by kernel_rfl,f194:=shS194,t0:=Tryz.underlying0,a0:=Tryz.isAgg0,z0:=Tryz.sizeOf0,v0:=Tryz.zeroValue0,t3:=Tryz.underlying3,a3:=Tryz.isAgg3,z3:=Tryz.sizeOf3,v3:=Tryz.zeroValue3,t4:=Tryz.underlying4,a4:=Tryz.isAgg4,z4:=Tryz.sizeOf4,v4:=Tryz.zeroValue4,t9:=Tryz.underlying9,a9:=Tryz.isAgg9,z9:=Tryz.sizeOf9,v9:=Tryz.zeroValue9,t31:=Tryz.underlying22,a31:=Tryz.isAgg22,z31:=Tryz.sizeOf22,v31:=Tryz.zeroValue22}
end Go.Proofs.YtckmiljbaejijaaGreatDoor
