/- The shelf's contracts of slices.SortFunc (texts), strings.Compare, slices.Compact, tied to this program. -/
import Derived.Test.YtgmikmoapfmedaaGreatDoorRows
import Derived.Shelf.SlLaysF
import Derived.Shelf.Lays
namespace Go.Proofs.YtgmikmoapfmedaaGreatDoor
open Go Go.Shelf Go.Proofs
def dA:Go.Shelf.Ren:=⟨fun n=>match n with | 6=>148 | 14=>170 | 15=>92 | 20=>184 | 21=>185 | 22=>186 | 23=>187 | 24=>188 | 25=>189 | 26=>190 | 27=>191 | 28=>128 | 29=>129 | 46=>196 | 47=>152 | 48=>153 | 49=>197 | 50=>198 | 57=>201 | _=>0,fun n=>match n with | 0=>0 | 3=>3 | 4=>4 | 5=>5 | 9=>9 | 22=>36 | 24=>9 | 25=>188 | 39=>142 | 45=>160 | 46=>161 | 50=>166 | 53=>169 | 55=>96 | 66=>190 | 70=>185 | 76=>207 | 77=>208 | _=>0,fun n=>match n with | _=>0⟩
set_option maxRecDepth 100000 in
theorem shG6:Bears Tryz.prog (dA.f 6) (SlBodyF.n6 dA):=by
  have h:Tryz.f148={SlBodyF.n6 dA with name:= "slices.SortFunc[[]string,string]" }:=by kernel_rfl
  exact ⟨ "slices.SortFunc[[]string,string]",by kernel_rfl,h ▸ Tryz.func148⟩
set_option maxRecDepth 100000 in
theorem shG14:Bears Tryz.prog (dA.f 14) (SlBodyF.n14 dA):=by
  have h:Tryz.f170={SlBodyF.n14 dA with name:= "slices.pdqsortCmpFunc[string]" }:=by kernel_rfl
  exact ⟨ "slices.pdqsortCmpFunc[string]",by kernel_rfl,h ▸ Tryz.func170⟩
set_option maxRecDepth 100000 in
theorem shG15:Tryz.prog.funcs[dA.f 15]? =some (SlBodyF.n15 dA):=by
  have h:Tryz.f92=SlBodyF.n15 dA:=by kernel_rfl
  exact h ▸ Tryz.func92
set_option maxRecDepth 100000 in
theorem shG20:Bears Tryz.prog (dA.f 20) (SlBodyF.n20 dA):=by
  have h:Tryz.f184={SlBodyF.n20 dA with name:= "slices.insertionSortCmpFunc[string]" }:=by kernel_rfl
  exact ⟨ "slices.insertionSortCmpFunc[string]",by kernel_rfl,h ▸ Tryz.func184⟩
set_option maxRecDepth 100000 in
theorem shG21:Bears Tryz.prog (dA.f 21) (SlBodyF.n21 dA):=by
  have h:Tryz.f185={SlBodyF.n21 dA with name:= "slices.heapSortCmpFunc[string]" }:=by kernel_rfl
  exact ⟨ "slices.heapSortCmpFunc[string]",by kernel_rfl,h ▸ Tryz.func185⟩
set_option maxRecDepth 100000 in
theorem shG22:Bears Tryz.prog (dA.f 22) (SlBodyF.n22 dA):=by
  have h:Tryz.f186={SlBodyF.n22 dA with name:= "slices.breakPatternsCmpFunc[string]" }:=by kernel_rfl
  exact ⟨ "slices.breakPatternsCmpFunc[string]",by kernel_rfl,h ▸ Tryz.func186⟩
set_option maxRecDepth 100000 in
theorem shG23:Bears Tryz.prog (dA.f 23) (SlBodyF.n23 dA):=by
  have h:Tryz.f187={SlBodyF.n23 dA with name:= "slices.choosePivotCmpFunc[string]" }:=by kernel_rfl
  exact ⟨ "slices.choosePivotCmpFunc[string]",by kernel_rfl,h ▸ Tryz.func187⟩
set_option maxRecDepth 100000 in
theorem shG24:Bears Tryz.prog (dA.f 24) (SlBodyF.n24 dA):=by
  have h:Tryz.f188={SlBodyF.n24 dA with name:= "slices.reverseRangeCmpFunc[string]" }:=by kernel_rfl
  exact ⟨ "slices.reverseRangeCmpFunc[string]",by kernel_rfl,h ▸ Tryz.func188⟩
set_option maxRecDepth 100000 in
theorem shG25:Bears Tryz.prog (dA.f 25) (SlBodyF.n25 dA):=by
  have h:Tryz.f189={SlBodyF.n25 dA with name:= "slices.partialInsertionSortCmpFunc[string]" }:=by kernel_rfl
  exact ⟨ "slices.partialInsertionSortCmpFunc[string]",by kernel_rfl,h ▸ Tryz.func189⟩
set_option maxRecDepth 100000 in
theorem shG26:Bears Tryz.prog (dA.f 26) (SlBodyF.n26 dA):=by
  have h:Tryz.f190={SlBodyF.n26 dA with name:= "slices.partitionEqualCmpFunc[string]" }:=by kernel_rfl
  exact ⟨ "slices.partitionEqualCmpFunc[string]",by kernel_rfl,h ▸ Tryz.func190⟩
set_option maxRecDepth 100000 in
theorem shG27:Bears Tryz.prog (dA.f 27) (SlBodyF.n27 dA):=by
  have h:Tryz.f191={SlBodyF.n27 dA with name:= "slices.partitionCmpFunc[string]" }:=by kernel_rfl
  exact ⟨ "slices.partitionCmpFunc[string]",by kernel_rfl,h ▸ Tryz.func191⟩
set_option maxRecDepth 100000 in
theorem shG28:Tryz.prog.funcs[dA.f 28]? =some (SlBodyF.n28 dA):=by
  have h:Tryz.f128=SlBodyF.n28 dA:=by kernel_rfl
  exact h ▸ Tryz.func128
set_option maxRecDepth 100000 in
theorem shG29:Tryz.prog.funcs[dA.f 29]? =some (SlBodyF.n29 dA):=by
  have h:Tryz.f129=SlBodyF.n29 dA:=by kernel_rfl
  exact h ▸ Tryz.func129
set_option maxRecDepth 100000 in
theorem shG46:Bears Tryz.prog (dA.f 46) (SlBodyF.n46 dA):=by
  have h:Tryz.f196={SlBodyF.n46 dA with name:= "slices.siftDownCmpFunc[string]" }:=by kernel_rfl
  exact ⟨ "slices.siftDownCmpFunc[string]",by kernel_rfl,h ▸ Tryz.func196⟩
set_option maxRecDepth 100000 in
theorem shG47:Tryz.prog.funcs[dA.f 47]? =some (SlBodyF.n47 dA):=by
  have h:Tryz.f152=SlBodyF.n47 dA:=by kernel_rfl
  exact h ▸ Tryz.func152
set_option maxRecDepth 100000 in
theorem shG48:Tryz.prog.funcs[dA.f 48]? =some (SlBodyF.n48 dA):=by
  have h:Tryz.f153=SlBodyF.n48 dA:=by kernel_rfl
  exact h ▸ Tryz.func153
set_option maxRecDepth 100000 in
theorem shG49:Bears Tryz.prog (dA.f 49) (SlBodyF.n49 dA):=by
  have h:Tryz.f197={SlBodyF.n49 dA with name:= "slices.medianAdjacentCmpFunc[string]" }:=by kernel_rfl
  exact ⟨ "slices.medianAdjacentCmpFunc[string]",by kernel_rfl,h ▸ Tryz.func197⟩
set_option maxRecDepth 100000 in
theorem shG50:Bears Tryz.prog (dA.f 50) (SlBodyF.n50 dA):=by
  have h:Tryz.f198={SlBodyF.n50 dA with name:= "slices.medianCmpFunc[string]" }:=by kernel_rfl
  exact ⟨ "slices.medianCmpFunc[string]",by kernel_rfl,h ▸ Tryz.func198⟩
set_option maxRecDepth 100000 in
theorem shG57:Bears Tryz.prog (dA.f 57) (SlBodyF.n57 dA):=by
  have h:Tryz.f201={SlBodyF.n57 dA with name:= "slices.order2CmpFunc[string]" }:=by kernel_rfl
  exact ⟨ "slices.order2CmpFunc[string]",by kernel_rfl,h ▸ Tryz.func201⟩
theorem aCx:SlLaysF.n6 Tryz.prog dA:={mixed:=by kernel_rfl,f6:=shG6,f14:=shG14,f15:=shG15,f20:=shG20,f21:=shG21,f22:=shG22,f23:=shG23,f24:=shG24,f25:=shG25,f26:=shG26,f27:=shG27,f28:=shG28,f29:=shG29,f46:=shG46,f47:=shG47,f48:=shG48,f49:=shG49,f50:=shG50,f57:=shG57,t0:=Tryz.underlying0,a0:=Tryz.isAgg0,z0:=Tryz.sizeOf0,v0:=Tryz.zeroValue0,t3:=Tryz.underlying3,a3:=Tryz.isAgg3,z3:=Tryz.sizeOf3,v3:=Tryz.zeroValue3,t4:=Tryz.underlying4,a4:=Tryz.isAgg4,z4:=Tryz.sizeOf4,v4:=Tryz.zeroValue4,t5:=Tryz.underlying5,a5:=Tryz.isAgg5,z5:=Tryz.sizeOf5,v5:=Tryz.zeroValue5,t9:=Tryz.underlying9,a9:=Tryz.isAgg9,z9:=Tryz.sizeOf9,v9:=Tryz.zeroValue9,t22:=Tryz.underlying36,a22:=Tryz.isAgg36,z22:=Tryz.sizeOf36,v22:=Tryz.zeroValue36,a24:=Tryz.isAgg9,z24:=Tryz.sizeOf9,t25:=Tryz.underlying188,a25:=Tryz.isAgg188,z25:=Tryz.sizeOf188,v25:=Tryz.zeroValue188,t39:=Tryz.underlying142,a39:=Tryz.isAgg142,z39:=Tryz.sizeOf142,v39:=Tryz.zeroValue142,t45:=Tryz.underlying160,a45:=Tryz.isAgg160,z45:=Tryz.sizeOf160,v45:=Tryz.zeroValue160,t46:=Tryz.underlying161,a46:=Tryz.isAgg161,z46:=Tryz.sizeOf161,v46:=Tryz.zeroValue161,t50:=Tryz.underlying166,a50:=Tryz.isAgg166,z50:=Tryz.sizeOf166,v50:=Tryz.zeroValue166,t53:=Tryz.underlying169,a53:=Tryz.isAgg169,z53:=Tryz.sizeOf169,v53:=Tryz.zeroValue169,t55:=Tryz.underlying96,a55:=Tryz.isAgg96,z55:=Tryz.sizeOf96,v55:=Tryz.zeroValue96,t66:=Tryz.underlying190,a66:=Tryz.isAgg190,z66:=Tryz.sizeOf190,v66:=Tryz.zeroValue190,t70:=Tryz.underlying185,a70:=Tryz.isAgg185,z70:=Tryz.sizeOf185,v70:=Tryz.zeroValue185,t76:=Tryz.underlying207,a76:=Tryz.isAgg207,z76:=Tryz.sizeOf207,v76:=Tryz.zeroValue207,t77:=Tryz.underlying208,a77:=Tryz.isAgg208,z77:=Tryz.sizeOf208,v77:=Tryz.zeroValue208}
def qL:Go.Shelf.Ren:=⟨fun n=>match n with | 106=>149 | 194=>150 | 213=>171 | 265=>192 | _=>0,fun n=>match n with | 0=>0 | 3=>3 | 4=>4 | 9=>9 | 31=>36 | _=>0,fun n=>match n with | _=>0⟩
set_option maxRecDepth 100000 in
theorem shS106:Tryz.prog.funcs[qL.f 106]? =some (Body.n106 qL):=by
  have h:Tryz.f149=Body.n106 qL:=by kernel_rfl
  exact h ▸ Tryz.func149
set_option maxRecDepth 100000 in
theorem shS194:Tryz.prog.funcs[qL.f 194]? =some (Body.n194 qL):=by
  have h:Tryz.f150=Body.n194 qL:=by kernel_rfl
  exact h ▸ Tryz.func150
set_option maxRecDepth 100000 in
theorem shS213:Tryz.prog.funcs[qL.f 213]? =some (Body.n213 qL):=by
  have h:Tryz.f171=Body.n213 qL:=by kernel_rfl
  exact h ▸ Tryz.func171
set_option maxRecDepth 100000 in
theorem shS265:Tryz.prog.funcs[qL.f 265]? =some (Body.n265 qL):=by
  have h:Tryz.f192=Body.n265 qL:=by kernel_rfl
  exact h ▸ Tryz.func192
theorem shLays106:Lays.n106 Tryz.prog qL:={mixed:=by kernel_rfl,f106:=shS106,f213:=shS213,f265:=shS265,t3:=Tryz.underlying3,a3:=Tryz.isAgg3,z3:=Tryz.sizeOf3,v3:=Tryz.zeroValue3,t9:=Tryz.underlying9,a9:=Tryz.isAgg9,z9:=Tryz.sizeOf9,v9:=Tryz.zeroValue9}
theorem shLays194:Lays.n194 Tryz.prog qL:={mixed:=by kernel_rfl,f194:=shS194,t0:=Tryz.underlying0,a0:=Tryz.isAgg0,z0:=Tryz.sizeOf0,v0:=Tryz.zeroValue0,t3:=Tryz.underlying3,a3:=Tryz.isAgg3,z3:=Tryz.sizeOf3,v3:=Tryz.zeroValue3,t4:=Tryz.underlying4,a4:=Tryz.isAgg4,z4:=Tryz.sizeOf4,v4:=Tryz.zeroValue4,t9:=Tryz.underlying9,a9:=Tryz.isAgg9,z9:=Tryz.sizeOf9,v9:=Tryz.zeroValue9,t31:=Tryz.underlying36,a31:=Tryz.isAgg36,z31:=Tryz.sizeOf36,v31:=Tryz.zeroValue36}
end Go.Proofs.YtgmikmoapfmedaaGreatDoor
