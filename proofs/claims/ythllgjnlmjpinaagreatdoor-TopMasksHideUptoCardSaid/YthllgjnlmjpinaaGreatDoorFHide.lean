/- What the walks and the laws stand on; no condition but those that stand in the statements. -/
import Derived.Test.YthllgjnlmjpinaaGreatDoorCards
import Derived.WalkKit
import Derived.ProofKit
import Derived.LaidSub
import Derived.Deep.DeepHandedRow
import Derived.SizedLaws
namespace Go.Proofs.YthllgjnlmjpinaaGreatDoor.topMasksHide
open Go.ChangeShapes Go.WideShapes Go.ChangeAt Go.RowKit
theorem jK {a b:Bool}(ha:a=true)(hb:b=true):(a && b)=true:=by rw [ha,hb]; rfl
theorem gY {a b:Bool}(h:(a && b)=true):a=true:=by cases a<;>simp_all
theorem mY {a b:Bool}(h:(a && b)=true):b=true:=by cases a<;>simp_all
theorem g_0:((Rows.topMasksHideUptoRow.inPlace==Tryz.prog.inPlace 5) && (Rows.topMasksHideUptoRow.unfollowed==Tryz.prog.unfollowed 5) && (Rows.topMasksHideUptoRow.recurses==Tryz.prog.recurses 5) && (Rows.topMasksHideUptoRow.named==Tryz.prog.varsNamed 5) && (laidOutB Tryz.prog) && (mapsRowed Tryz.prog) && (Tryz.prog.stopsHeard) && (Rows.topMasksHideUptoRow.plainKeys==Tryz.prog.plainKeys))=true:=by kernel_rfl
theorem c_inPlace:(Rows.topMasksHideUptoRow.inPlace==Tryz.prog.inPlace 5)=true:=(gY (gY (gY (gY (gY (gY (gY g_0)))))))
theorem aKl:(Rows.topMasksHideUptoRow.unfollowed==Tryz.prog.unfollowed 5)=true:=mY (gY (gY (gY (gY (gY (gY g_0))))))
theorem aRk:(Rows.topMasksHideUptoRow.recurses==Tryz.prog.recurses 5)=true:=mY (gY (gY (gY (gY (gY g_0)))))
theorem c_named:(Rows.topMasksHideUptoRow.named==Tryz.prog.varsNamed 5)=true:=mY (gY (gY (gY (gY g_0))))
theorem aJh:(laidOutB Tryz.prog)=true:=mY (gY (gY (gY g_0)))
theorem aNa:(mapsRowed Tryz.prog)=true:=mY (gY (gY g_0))
theorem c_heard:(Tryz.prog.stopsHeard)=true:=mY (gY g_0)
theorem aMy:(Rows.topMasksHideUptoRow.plainKeys==Tryz.prog.plainKeys)=true:=mY g_0
theorem g_1:((Tryz.prog.mayEnter) && (Rows.topMasksHideUptoRow.lifted==Tryz.prog.liftsFinal))=true:=by kernel_rfl
theorem c_enter:(Tryz.prog.mayEnter)=true:=(gY g_1)
theorem c_lifted:(Rows.topMasksHideUptoRow.lifted==Tryz.prog.liftsFinal)=true:=mY g_1
theorem g_2:((Rows.topMasksHideUptoRow.wf (OpenSpec.ofChange (OpenSpec.ofChange Rows.topMasksHideSpec).bare)) && (Tryz.f5.params.all (Tryz.prog.readableRec ·)) && (namedTie Tryz.prog Rows.topMasksHideUptoRow.named (OpenSpec.ofChange Rows.topMasksHideSpec).bare.vars) && (Rows.topMasksHideUptoRow.stops== []) && (Tryz.prog.stops== []) && (Rows.topMasksHideUptoRow.knobs== []) && (Tryz.prog.stopKnobs== []) && (Rows.topMasksHideUptoRow.maps==(Tryz.f5.params.toList++(OpenSpec.ofChange Rows.topMasksHideSpec).bare.plain.varTypes Tryz.prog).any (Tryz.prog.mapsRec ·)) && (Rows.topMasksHideUptoRow.ifaces==(Tryz.f5.params.toList++(OpenSpec.ofChange Rows.topMasksHideSpec).bare.plain.varTypes Tryz.prog).any (Tryz.prog.ifacesRec ·)) && (Rows.topMasksHideUptoRow.mapsOut==Tryz.prog.mapsAmong Tryz.f5.resultTypes.toList) && (Rows.topMasksHideUptoRow.loops==(Tryz.f5.params.toList++(OpenSpec.ofChange Rows.topMasksHideSpec).bare.plain.varTypes Tryz.prog).any (Tryz.prog.loopsFrom ·)) && (Rows.topMasksHideUptoRow.wideKeys==(Tryz.f5.params.toList++(OpenSpec.ofChange Rows.topMasksHideSpec).bare.plain.varTypes Tryz.prog++Tryz.f5.resultTypes.toList).any (Tryz.prog.wideKeysFrom ·)) && ((OpenSpec.ofChange Rows.topMasksHideSpec).bare.vars.all (Tryz.prog.varReadable ·)) && (Tryz.f5.resultTypes.all (fun t=>Tryz.prog.readableRec t && decide (t<Tryz.prog.types.size))) && (Rows.topMasksHideUptoRow.ifacesOut==Tryz.f5.resultTypes.toList.any (Tryz.prog.ifacesRec ·)) && (Rows.topMasksHideUptoRow.loopsOut==Tryz.f5.resultTypes.toList.any (Tryz.prog.loopsFrom ·)) && (Rows.topMasksHideUptoRow.shortTexts.isNone) && (Tryz.prog.make==some Rows.topMasksHideUptoRow.make) && (Rows.topMasksHideUptoRow.kinds==(if Rows.topMasksHideUptoRow.domain.isEmpty then [] else Tryz.f5.params.toList.map fun t=>match Tryz.prog.underlying t with | some (.int k)=>some k | _=>none)) && (Rows.topMasksHideUptoRow.pinned==Rows.topMasksHideUptoRow.pinnedBy) && (Rows.topMasksHideUptoRow.veiled==(Tryz.f5.params.toList++(OpenSpec.ofChange Rows.topMasksHideSpec).bare.plain.varTypes Tryz.prog++Tryz.f5.resultTypes.toList).any (Tryz.prog.veiledRec ·)) && (Rows.topMasksHideUptoRow.veiledFits Tryz.prog Tryz.f5.params.toList (Tryz.f5.params.toList++(OpenSpec.ofChange Rows.topMasksHideSpec).bare.plain.varTypes Tryz.prog++Tryz.f5.resultTypes.toList)))=true:=by kernel_rfl
theorem c_wf:(Rows.topMasksHideUptoRow.wf (OpenSpec.ofChange (OpenSpec.ofChange Rows.topMasksHideSpec).bare))=true:=(gY (gY (gY (gY (gY (gY (gY (gY (gY (gY (gY (gY (gY (gY (gY (gY (gY (gY (gY (gY (gY g_2)))))))))))))))))))))
theorem c_params:(Tryz.f5.params.all (Tryz.prog.readableRec ·))=true:=mY (gY (gY (gY (gY (gY (gY (gY (gY (gY (gY (gY (gY (gY (gY (gY (gY (gY (gY (gY (gY g_2))))))))))))))))))))
theorem c_tie:(namedTie Tryz.prog Rows.topMasksHideUptoRow.named (OpenSpec.ofChange Rows.topMasksHideSpec).bare.vars)=true:=mY (gY (gY (gY (gY (gY (gY (gY (gY (gY (gY (gY (gY (gY (gY (gY (gY (gY (gY (gY g_2)))))))))))))))))))
theorem c_stops0:(Rows.topMasksHideUptoRow.stops== [])=true:=mY (gY (gY (gY (gY (gY (gY (gY (gY (gY (gY (gY (gY (gY (gY (gY (gY (gY (gY g_2))))))))))))))))))
theorem c_stops:(Tryz.prog.stops== [])=true:=mY (gY (gY (gY (gY (gY (gY (gY (gY (gY (gY (gY (gY (gY (gY (gY (gY (gY g_2)))))))))))))))))
theorem c_knobs0:(Rows.topMasksHideUptoRow.knobs== [])=true:=mY (gY (gY (gY (gY (gY (gY (gY (gY (gY (gY (gY (gY (gY (gY (gY (gY g_2))))))))))))))))
theorem c_knobs:(Tryz.prog.stopKnobs== [])=true:=mY (gY (gY (gY (gY (gY (gY (gY (gY (gY (gY (gY (gY (gY (gY (gY g_2)))))))))))))))
theorem c_maps:(Rows.topMasksHideUptoRow.maps==(Tryz.f5.params.toList++(OpenSpec.ofChange Rows.topMasksHideSpec).bare.plain.varTypes Tryz.prog).any (Tryz.prog.mapsRec ·))=true:=mY (gY (gY (gY (gY (gY (gY (gY (gY (gY (gY (gY (gY (gY (gY g_2))))))))))))))
theorem c_ifaces:(Rows.topMasksHideUptoRow.ifaces==(Tryz.f5.params.toList++(OpenSpec.ofChange Rows.topMasksHideSpec).bare.plain.varTypes Tryz.prog).any (Tryz.prog.ifacesRec ·))=true:=mY (gY (gY (gY (gY (gY (gY (gY (gY (gY (gY (gY (gY (gY g_2)))))))))))))
theorem c_mapsOut:(Rows.topMasksHideUptoRow.mapsOut==Tryz.prog.mapsAmong Tryz.f5.resultTypes.toList)=true:=mY (gY (gY (gY (gY (gY (gY (gY (gY (gY (gY (gY (gY g_2))))))))))))
theorem c_loops:(Rows.topMasksHideUptoRow.loops==(Tryz.f5.params.toList++(OpenSpec.ofChange Rows.topMasksHideSpec).bare.plain.varTypes Tryz.prog).any (Tryz.prog.loopsFrom ·))=true:=mY (gY (gY (gY (gY (gY (gY (gY (gY (gY (gY (gY g_2)))))))))))
theorem aQm:(Rows.topMasksHideUptoRow.wideKeys==(Tryz.f5.params.toList++(OpenSpec.ofChange Rows.topMasksHideSpec).bare.plain.varTypes Tryz.prog++Tryz.f5.resultTypes.toList).any (Tryz.prog.wideKeysFrom ·))=true:=mY (gY (gY (gY (gY (gY (gY (gY (gY (gY (gY g_2))))))))))
theorem c_vars:((OpenSpec.ofChange Rows.topMasksHideSpec).bare.vars.all (Tryz.prog.varReadable ·))=true:=mY (gY (gY (gY (gY (gY (gY (gY (gY (gY g_2)))))))))
theorem c_results:(Tryz.f5.resultTypes.all (fun t=>Tryz.prog.readableRec t && decide (t<Tryz.prog.types.size)))=true:=mY (gY (gY (gY (gY (gY (gY (gY (gY g_2))))))))
theorem aPs:(Rows.topMasksHideUptoRow.ifacesOut==Tryz.f5.resultTypes.toList.any (Tryz.prog.ifacesRec ·))=true:=mY (gY (gY (gY (gY (gY (gY (gY g_2)))))))
theorem aRy:(Rows.topMasksHideUptoRow.loopsOut==Tryz.f5.resultTypes.toList.any (Tryz.prog.loopsFrom ·))=true:=mY (gY (gY (gY (gY (gY (gY g_2))))))
theorem c_short:(Rows.topMasksHideUptoRow.shortTexts.isNone)=true:=mY (gY (gY (gY (gY (gY g_2)))))
theorem c_make:(Tryz.prog.make==some Rows.topMasksHideUptoRow.make)=true:=mY (gY (gY (gY (gY g_2))))
theorem c_kinds:(Rows.topMasksHideUptoRow.kinds==(if Rows.topMasksHideUptoRow.domain.isEmpty then [] else Tryz.f5.params.toList.map fun t=>match Tryz.prog.underlying t with | some (.int k)=>some k | _=>none))=true:=mY (gY (gY (gY g_2)))
theorem c_pinned:(Rows.topMasksHideUptoRow.pinned==Rows.topMasksHideUptoRow.pinnedBy)=true:=mY (gY (gY g_2))
theorem c_veiled:(Rows.topMasksHideUptoRow.veiled==(Tryz.f5.params.toList++(OpenSpec.ofChange Rows.topMasksHideSpec).bare.plain.varTypes Tryz.prog++Tryz.f5.resultTypes.toList).any (Tryz.prog.veiledRec ·))=true:=mY (gY g_2)
theorem aKs:(Rows.topMasksHideUptoRow.veiledFits Tryz.prog Tryz.f5.params.toList (Tryz.f5.params.toList++(OpenSpec.ofChange Rows.topMasksHideSpec).bare.plain.varTypes Tryz.prog++Tryz.f5.resultTypes.toList))=true:=mY g_2
set_option maxRecDepth 100000 in
theorem closedF:joinedFacts Tryz.pinned.checked.prog 5 Tryz.f5 (OpenSpec.ofChange Rows.topMasksHideSpec).bare Rows.topMasksHideUptoRow=true:=(jK (jK (jK (jK (jK (jK (jK (jK (jK (jK (jK (jK (jK (jK (jK (jK (jK (jK (jK (jK (jK (jK (jK (jK (jK (jK (jK (jK (jK (jK (jK c_wf aJh) aNa) c_params) c_tie) c_stops0) c_stops) c_knobs0) c_knobs) c_inPlace) aKl) aRk) c_named) c_maps) c_ifaces) c_mapsOut) c_loops) aQm) c_vars) c_results) aPs) aRy) aMy) c_short) c_heard) c_enter) c_lifted) c_make) c_kinds) c_pinned) c_veiled) aKs)
theorem goesF:false=Rows.topMasksHideUptoRow.goesBy Tryz.pinned.checked.prog:=by kernel_rfl
theorem looksF:false=Tryz.pinned.checked.prog.looks []:=by kernel_rfl
end Go.Proofs.YthllgjnlmjpinaaGreatDoor.topMasksHide
