/- The shelf's contracts of slices.SortFunc (texts), strings.Compare, slices.Compact, tied to this program. -/
import Derived.Test.YthllgjnlmjpinaaGreatDoorRows
import Derived.Shelf.SlLaysF
import Derived.Shelf.Lays
namespace Go.Proofs.YthllgjnlmjpinaaGreatDoor
open Go Go.Shelf Go.Proofs
def bC:Go.Shelf.Ren:=⟨fun n=>match n with | 6=>164 | 14=>173 | 15=>111 | 20=>177 | 21=>178 | 22=>179 | 23=>180 | 24=>181 | 25=>182 | 26=>183 | 27=>184 | 28=>137 | 29=>138 | 46=>188 | 47=>153 | 48=>154 | 49=>189 | 50=>190 | 57=>191 | _=>0,fun n=>match n with | 0=>0 | 3=>3 | 4=>4 | 5=>5 | 9=>9 | 22=>23 | 24=>9 | 25=>236 | 39=>134 | 45=>187 | 46=>188 | 50=>74 | 53=>195 | 55=>147 | 66=>225 | 70=>175 | 76=>267 | 77=>268 | _=>0,fun n=>match n with | _=>0⟩
set_option maxRecDepth 100000 in
theorem shG6:Bears Tryz.prog (bC.f 6) (SlBodyF.n6 bC):=by
  have h:Tryz.f164={SlBodyF.n6 bC with name:= "slices.SortFunc[[]string,string]" }:=by kernel_rfl
  exact ⟨ "slices.SortFunc[[]string,string]",by kernel_rfl,h ▸ Tryz.func164⟩
set_option maxRecDepth 100000 in
theorem shG14:Bears Tryz.prog (bC.f 14) (SlBodyF.n14 bC):=by
  have h:Tryz.f173={SlBodyF.n14 bC with name:= "slices.pdqsortCmpFunc[string]" }:=by kernel_rfl
  exact ⟨ "slices.pdqsortCmpFunc[string]",by kernel_rfl,h ▸ Tryz.func173⟩
set_option maxRecDepth 100000 in
theorem shG15:Tryz.prog.funcs[bC.f 15]? =some (SlBodyF.n15 bC):=by
 have h:Tryz.f111=SlBodyF.n15 bC:=by kernel_rfl
 exact h ▸ Tryz.func111
set_option maxRecDepth 100000 in
theorem shG20:Bears Tryz.prog (bC.f 20) (SlBodyF.n20 bC):=by
  have h:Tryz.f177={SlBodyF.n20 bC with name:= "slices.insertionSortCmpFunc[string]" }:=by kernel_rfl
  exact ⟨ "slices.insertionSortCmpFunc[string]",by kernel_rfl,h ▸ Tryz.func177⟩
set_option maxRecDepth 100000 in
theorem shG21:Bears Tryz.prog (bC.f 21) (SlBodyF.n21 bC):=by
  have h:Tryz.f178={SlBodyF.n21 bC with name:= "slices.heapSortCmpFunc[string]" }:=by kernel_rfl
  exact ⟨ "slices.heapSortCmpFunc[string]",by kernel_rfl,h ▸ Tryz.func178⟩
set_option maxRecDepth 100000 in
theorem shG22:Bears Tryz.prog (bC.f 22) (SlBodyF.n22 bC):=by
  have h:Tryz.f179={SlBodyF.n22 bC with name:= "slices.breakPatternsCmpFunc[string]" }:=by kernel_rfl
  exact ⟨ "slices.breakPatternsCmpFunc[string]",by kernel_rfl,h ▸ Tryz.func179⟩
set_option maxRecDepth 100000 in
theorem shG23:Bears Tryz.prog (bC.f 23) (SlBodyF.n23 bC):=by
  have h:Tryz.f180={SlBodyF.n23 bC with name:= "slices.choosePivotCmpFunc[string]" }:=by kernel_rfl
  exact ⟨ "slices.choosePivotCmpFunc[string]",by kernel_rfl,h ▸ Tryz.func180⟩
set_option maxRecDepth 100000 in
theorem shG24:Bears Tryz.prog (bC.f 24) (SlBodyF.n24 bC):=by
  have h:Tryz.f181={SlBodyF.n24 bC with name:= "slices.reverseRangeCmpFunc[string]" }:=by kernel_rfl
  exact ⟨ "slices.reverseRangeCmpFunc[string]",by kernel_rfl,h ▸ Tryz.func181⟩
set_option maxRecDepth 100000 in
theorem shG25:Bears Tryz.prog (bC.f 25) (SlBodyF.n25 bC):=by
  have h:Tryz.f182={SlBodyF.n25 bC with name:= "slices.partialInsertionSortCmpFunc[string]" }:=by kernel_rfl
  exact ⟨ "slices.partialInsertionSortCmpFunc[string]",by kernel_rfl,h ▸ Tryz.func182⟩
set_option maxRecDepth 100000 in
theorem shG26:Bears Tryz.prog (bC.f 26) (SlBodyF.n26 bC):=by
  have h:Tryz.f183={SlBodyF.n26 bC with name:= "slices.partitionEqualCmpFunc[string]" }:=by kernel_rfl
  exact ⟨ "slices.partitionEqualCmpFunc[string]",by kernel_rfl,h ▸ Tryz.func183⟩
set_option maxRecDepth 100000 in
theorem shG27:Bears Tryz.prog (bC.f 27) (SlBodyF.n27 bC):=by
  have h:Tryz.f184={SlBodyF.n27 bC with name:= "slices.partitionCmpFunc[string]" }:=by kernel_rfl
  exact ⟨ "slices.partitionCmpFunc[string]",by kernel_rfl,h ▸ Tryz.func184⟩
set_option maxRecDepth 100000 in
theorem shG28:Tryz.prog.funcs[bC.f 28]? =some (SlBodyF.n28 bC):=by
 have h:Tryz.f137=SlBodyF.n28 bC:=by kernel_rfl
 exact h ▸ Tryz.func137
set_option maxRecDepth 100000 in
theorem shG29:Tryz.prog.funcs[bC.f 29]? =some (SlBodyF.n29 bC):=by
 have h:Tryz.f138=SlBodyF.n29 bC:=by kernel_rfl
 exact h ▸ Tryz.func138
set_option maxRecDepth 100000 in
theorem shG46:Bears Tryz.prog (bC.f 46) (SlBodyF.n46 bC):=by
  have h:Tryz.f188={SlBodyF.n46 bC with name:= "slices.siftDownCmpFunc[string]" }:=by kernel_rfl
  exact ⟨ "slices.siftDownCmpFunc[string]",by kernel_rfl,h ▸ Tryz.func188⟩
set_option maxRecDepth 100000 in
theorem shG47:Tryz.prog.funcs[bC.f 47]? =some (SlBodyF.n47 bC):=by
 have h:Tryz.f153=SlBodyF.n47 bC:=by kernel_rfl
 exact h ▸ Tryz.func153
set_option maxRecDepth 100000 in
theorem shG48:Tryz.prog.funcs[bC.f 48]? =some (SlBodyF.n48 bC):=by
 have h:Tryz.f154=SlBodyF.n48 bC:=by kernel_rfl
 exact h ▸ Tryz.func154
set_option maxRecDepth 100000 in
theorem shG49:Bears Tryz.prog (bC.f 49) (SlBodyF.n49 bC):=by
  have h:Tryz.f189={SlBodyF.n49 bC with name:= "slices.medianAdjacentCmpFunc[string]" }:=by kernel_rfl
  exact ⟨ "slices.medianAdjacentCmpFunc[string]",by kernel_rfl,h ▸ Tryz.func189⟩
set_option maxRecDepth 100000 in
theorem shG50:Bears Tryz.prog (bC.f 50) (SlBodyF.n50 bC):=by
  have h:Tryz.f190={SlBodyF.n50 bC with name:= "slices.medianCmpFunc[string]" }:=by kernel_rfl
  exact ⟨ "slices.medianCmpFunc[string]",by kernel_rfl,h ▸ Tryz.func190⟩
set_option maxRecDepth 100000 in
theorem shG57:Bears Tryz.prog (bC.f 57) (SlBodyF.n57 bC):=by
  have h:Tryz.f191={SlBodyF.n57 bC with name:= "slices.order2CmpFunc[string]" }:=by kernel_rfl
  exact ⟨ "slices.order2CmpFunc[string]",by kernel_rfl,h ▸ Tryz.func191⟩
theorem aQk:SlLaysF.n6 Tryz.prog bC:={mixed:=by kernel_rfl,f6:=shG6,f14:=shG14,f15:=shG15,f20:=shG20,f21:=shG21,f22:=shG22,f23:=shG23,f24:=shG24,f25:=shG25,f26:=shG26,f27:=shG27,f28:=shG28,f29:=shG29,f46:=shG46,f47:=shG47,f48:=shG48,f49:=shG49,f50:=shG50,f57:=shG57,t0:=Tryz.underlying0,a0:=Tryz.isAgg0,z0:=Tryz.sizeOf0,v0:=Tryz.zeroValue0,t3:=Tryz.underlying3,a3:=Tryz.isAgg3,z3:=Tryz.sizeOf3,v3:=Tryz.zeroValue3,t4:=Tryz.underlying4,a4:=Tryz.isAgg4,z4:=Tryz.sizeOf4,v4:=Tryz.zeroValue4,t5:=Tryz.underlying5,a5:=Tryz.isAgg5,z5:=Tryz.sizeOf5,v5:=Tryz.zeroValue5,t9:=Tryz.underlying9,a9:=Tryz.isAgg9,z9:=Tryz.sizeOf9,v9:=Tryz.zeroValue9,t22:=Tryz.underlying23,a22:=Tryz.isAgg23,z22:=Tryz.sizeOf23,v22:=Tryz.zeroValue23,a24:=Tryz.isAgg9,z24:=Tryz.sizeOf9,t25:=Tryz.underlying236,a25:=Tryz.isAgg236,z25:=Tryz.sizeOf236,v25:=Tryz.zeroValue236,t39:=Tryz.underlying134,a39:=Tryz.isAgg134,z39:=Tryz.sizeOf134,v39:=Tryz.zeroValue134,t45:=Tryz.underlying187,a45:=Tryz.isAgg187,z45:=Tryz.sizeOf187,v45:=Tryz.zeroValue187,t46:=Tryz.underlying188,a46:=Tryz.isAgg188,z46:=Tryz.sizeOf188,v46:=Tryz.zeroValue188,t50:=Tryz.underlying74,a50:=Tryz.isAgg74,z50:=Tryz.sizeOf74,v50:=Tryz.zeroValue74,t53:=Tryz.underlying195,a53:=Tryz.isAgg195,z53:=Tryz.sizeOf195,v53:=Tryz.zeroValue195,t55:=Tryz.underlying147,a55:=Tryz.isAgg147,z55:=Tryz.sizeOf147,v55:=Tryz.zeroValue147,t66:=Tryz.underlying225,a66:=Tryz.isAgg225,z66:=Tryz.sizeOf225,v66:=Tryz.zeroValue225,t70:=Tryz.underlying175,a70:=Tryz.isAgg175,z70:=Tryz.sizeOf175,v70:=Tryz.zeroValue175,t76:=Tryz.underlying267,a76:=Tryz.isAgg267,z76:=Tryz.sizeOf267,v76:=Tryz.zeroValue267,t77:=Tryz.underlying268,a77:=Tryz.isAgg268,z77:=Tryz.sizeOf268,v77:=Tryz.zeroValue268}
def aCp:Go.Shelf.Ren:=⟨fun n=>match n with | 106=>165 | 194=>166 | 213=>174 | 265=>185 | _=>0,fun n=>match n with | 0=>0 | 3=>3 | 4=>4 | 9=>9 | 31=>23 | _=>0,fun n=>match n with | _=>0⟩
set_option maxRecDepth 100000 in
theorem shS106:Tryz.prog.funcs[aCp.f 106]? =some (Body.n106 aCp):=by
 have h:Tryz.f165=Body.n106 aCp:=by kernel_rfl
 exact h ▸ Tryz.func165
set_option maxRecDepth 100000 in
theorem shS194:Tryz.prog.funcs[aCp.f 194]? =some (Body.n194 aCp):=by
 have h:Tryz.f166=Body.n194 aCp:=by kernel_rfl
 exact h ▸ Tryz.func166
set_option maxRecDepth 100000 in
theorem shS213:Tryz.prog.funcs[aCp.f 213]? =some (Body.n213 aCp):=by
 have h:Tryz.f174=Body.n213 aCp:=by kernel_rfl
 exact h ▸ Tryz.func174
set_option maxRecDepth 100000 in
theorem shS265:Tryz.prog.funcs[aCp.f 265]? =some (Body.n265 aCp):=by
 have h:Tryz.f185=Body.n265 aCp:=by kernel_rfl
 exact h ▸ Tryz.func185
theorem shLays106:Lays.n106 Tryz.prog aCp:={mixed:=by kernel_rfl,f106:=shS106,f213:=shS213,f265:=shS265,t3:=Tryz.underlying3,a3:=Tryz.isAgg3,z3:=Tryz.sizeOf3,v3:=Tryz.zeroValue3,t9:=Tryz.underlying9,a9:=Tryz.isAgg9,z9:=Tryz.sizeOf9,v9:=Tryz.zeroValue9}
theorem shLays194:Lays.n194 Tryz.prog aCp:={mixed:=by kernel_rfl,f194:=shS194,t0:=Tryz.underlying0,a0:=Tryz.isAgg0,z0:=Tryz.sizeOf0,v0:=Tryz.zeroValue0,t3:=Tryz.underlying3,a3:=Tryz.isAgg3,z3:=Tryz.sizeOf3,v3:=Tryz.zeroValue3,t4:=Tryz.underlying4,a4:=Tryz.isAgg4,z4:=Tryz.sizeOf4,v4:=Tryz.zeroValue4,t9:=Tryz.underlying9,a9:=Tryz.isAgg9,z9:=Tryz.sizeOf9,v9:=Tryz.zeroValue9,t31:=Tryz.underlying23,a31:=Tryz.isAgg23,z31:=Tryz.sizeOf23,v31:=Tryz.zeroValue23}
end Go.Proofs.YthllgjnlmjpinaaGreatDoor
