/- What the walks and the laws stand on; no condition but those that stand in the statements. -/
import Derived.Test.YtckmiljbaejijaaGreatDoorCards
import Derived.WalkKit
import Derived.ProofKit
import Derived.LaidSub
import Derived.Deep.DeepHandedRow
import Derived.SizedLaws
namespace Go.Proofs.YtckmiljbaejijaaGreatDoor.eventDepthsAreEnough
open Go.ChangeShapes Go.WideShapes Go.ChangeAt Go.RowKit
theorem kH {a b:Bool}(ha:a=true)(hb:b=true):(a && b)=true:=by rw [ha,hb]; rfl
theorem fC {a b:Bool}(h:(a && b)=true):a=true:=by cases a<;>simp_all
theorem jF {a b:Bool}(h:(a && b)=true):b=true:=by cases a<;>simp_all
theorem g_0:((Rows.eventDepthsAreEnoughUptoRow.inPlace==Tryz.prog.inPlace 10) && (Rows.eventDepthsAreEnoughUptoRow.unfollowed==Tryz.prog.unfollowed 10) && (Rows.eventDepthsAreEnoughUptoRow.recurses==Tryz.prog.recurses 10) && (Rows.eventDepthsAreEnoughUptoRow.named==Tryz.prog.varsNamed 10) && (laidOutB Tryz.prog) && (mapsRowed Tryz.prog) && (Tryz.prog.stopsHeard) && (Rows.eventDepthsAreEnoughUptoRow.plainKeys==Tryz.prog.plainKeys))=true:=by kernel_rfl
theorem c_inPlace:(Rows.eventDepthsAreEnoughUptoRow.inPlace==Tryz.prog.inPlace 10)=true:=(fC (fC (fC (fC (fC (fC (fC g_0)))))))
theorem aJj:(Rows.eventDepthsAreEnoughUptoRow.unfollowed==Tryz.prog.unfollowed 10)=true:=jF (fC (fC (fC (fC (fC (fC g_0))))))
theorem aPl:(Rows.eventDepthsAreEnoughUptoRow.recurses==Tryz.prog.recurses 10)=true:=jF (fC (fC (fC (fC (fC g_0)))))
theorem c_named:(Rows.eventDepthsAreEnoughUptoRow.named==Tryz.prog.varsNamed 10)=true:=jF (fC (fC (fC (fC g_0))))
theorem aIa:(laidOutB Tryz.prog)=true:=jF (fC (fC (fC g_0)))
theorem aLo:(mapsRowed Tryz.prog)=true:=jF (fC (fC g_0))
theorem c_heard:(Tryz.prog.stopsHeard)=true:=jF (fC g_0)
theorem aMd:(Rows.eventDepthsAreEnoughUptoRow.plainKeys==Tryz.prog.plainKeys)=true:=jF g_0
theorem g_1:((Tryz.prog.mayEnter) && (Rows.eventDepthsAreEnoughUptoRow.lifted==Tryz.prog.liftsFinal))=true:=by kernel_rfl
theorem c_enter:(Tryz.prog.mayEnter)=true:=(fC g_1)
theorem c_lifted:(Rows.eventDepthsAreEnoughUptoRow.lifted==Tryz.prog.liftsFinal)=true:=jF g_1
theorem g_2:((Rows.eventDepthsAreEnoughUptoRow.wf (OpenSpec.ofChange (OpenSpec.ofChange Rows.eventDepthsAreEnoughSpec).bare)) && (Tryz.f10.params.all (Tryz.prog.readableRec ·)) && (namedTie Tryz.prog Rows.eventDepthsAreEnoughUptoRow.named (OpenSpec.ofChange Rows.eventDepthsAreEnoughSpec).bare.vars) && (Rows.eventDepthsAreEnoughUptoRow.stops== []) && (Tryz.prog.stops== []) && (Rows.eventDepthsAreEnoughUptoRow.knobs== []) && (Tryz.prog.stopKnobs== []) && (Rows.eventDepthsAreEnoughUptoRow.maps==(Tryz.f10.params.toList++(OpenSpec.ofChange Rows.eventDepthsAreEnoughSpec).bare.plain.varTypes Tryz.prog).any (Tryz.prog.mapsRec ·)) && (Rows.eventDepthsAreEnoughUptoRow.ifaces==(Tryz.f10.params.toList++(OpenSpec.ofChange Rows.eventDepthsAreEnoughSpec).bare.plain.varTypes Tryz.prog).any (Tryz.prog.ifacesRec ·)) && (Rows.eventDepthsAreEnoughUptoRow.mapsOut==Tryz.prog.mapsAmong Tryz.f10.resultTypes.toList) && (Rows.eventDepthsAreEnoughUptoRow.loops==(Tryz.f10.params.toList++(OpenSpec.ofChange Rows.eventDepthsAreEnoughSpec).bare.plain.varTypes Tryz.prog).any (Tryz.prog.loopsFrom ·)) && (Rows.eventDepthsAreEnoughUptoRow.wideKeys==(Tryz.f10.params.toList++(OpenSpec.ofChange Rows.eventDepthsAreEnoughSpec).bare.plain.varTypes Tryz.prog++Tryz.f10.resultTypes.toList).any (Tryz.prog.wideKeysFrom ·)) && ((OpenSpec.ofChange Rows.eventDepthsAreEnoughSpec).bare.vars.all (Tryz.prog.varReadable ·)) && (Tryz.f10.resultTypes.all (fun t=>Tryz.prog.readableRec t && decide (t<Tryz.prog.types.size))) && (Rows.eventDepthsAreEnoughUptoRow.ifacesOut==Tryz.f10.resultTypes.toList.any (Tryz.prog.ifacesRec ·)) && (Rows.eventDepthsAreEnoughUptoRow.loopsOut==Tryz.f10.resultTypes.toList.any (Tryz.prog.loopsFrom ·)) && (Rows.eventDepthsAreEnoughUptoRow.shortTexts.isNone) && (Tryz.prog.make==some Rows.eventDepthsAreEnoughUptoRow.make) && (Rows.eventDepthsAreEnoughUptoRow.kinds==(if Rows.eventDepthsAreEnoughUptoRow.domain.isEmpty then [] else Tryz.f10.params.toList.map fun t=>match Tryz.prog.underlying t with | some (.int k)=>some k | _=>none)) && (Rows.eventDepthsAreEnoughUptoRow.pinned==Rows.eventDepthsAreEnoughUptoRow.pinnedBy) && (Rows.eventDepthsAreEnoughUptoRow.veiled==(Tryz.f10.params.toList++(OpenSpec.ofChange Rows.eventDepthsAreEnoughSpec).bare.plain.varTypes Tryz.prog++Tryz.f10.resultTypes.toList).any (Tryz.prog.veiledRec ·)) && (Rows.eventDepthsAreEnoughUptoRow.veiledFits Tryz.prog Tryz.f10.params.toList (Tryz.f10.params.toList++(OpenSpec.ofChange Rows.eventDepthsAreEnoughSpec).bare.plain.varTypes Tryz.prog++Tryz.f10.resultTypes.toList)))=true:=by kernel_rfl
theorem c_wf:(Rows.eventDepthsAreEnoughUptoRow.wf (OpenSpec.ofChange (OpenSpec.ofChange Rows.eventDepthsAreEnoughSpec).bare))=true:=(fC (fC (fC (fC (fC (fC (fC (fC (fC (fC (fC (fC (fC (fC (fC (fC (fC (fC (fC (fC (fC g_2)))))))))))))))))))))
theorem c_params:(Tryz.f10.params.all (Tryz.prog.readableRec ·))=true:=jF (fC (fC (fC (fC (fC (fC (fC (fC (fC (fC (fC (fC (fC (fC (fC (fC (fC (fC (fC (fC g_2))))))))))))))))))))
theorem c_tie:(namedTie Tryz.prog Rows.eventDepthsAreEnoughUptoRow.named (OpenSpec.ofChange Rows.eventDepthsAreEnoughSpec).bare.vars)=true:=jF (fC (fC (fC (fC (fC (fC (fC (fC (fC (fC (fC (fC (fC (fC (fC (fC (fC (fC (fC g_2)))))))))))))))))))
theorem c_stops0:(Rows.eventDepthsAreEnoughUptoRow.stops== [])=true:=jF (fC (fC (fC (fC (fC (fC (fC (fC (fC (fC (fC (fC (fC (fC (fC (fC (fC (fC g_2))))))))))))))))))
theorem c_stops:(Tryz.prog.stops== [])=true:=jF (fC (fC (fC (fC (fC (fC (fC (fC (fC (fC (fC (fC (fC (fC (fC (fC (fC g_2)))))))))))))))))
theorem c_knobs0:(Rows.eventDepthsAreEnoughUptoRow.knobs== [])=true:=jF (fC (fC (fC (fC (fC (fC (fC (fC (fC (fC (fC (fC (fC (fC (fC (fC g_2))))))))))))))))
theorem c_knobs:(Tryz.prog.stopKnobs== [])=true:=jF (fC (fC (fC (fC (fC (fC (fC (fC (fC (fC (fC (fC (fC (fC (fC g_2)))))))))))))))
theorem c_maps:(Rows.eventDepthsAreEnoughUptoRow.maps==(Tryz.f10.params.toList++(OpenSpec.ofChange Rows.eventDepthsAreEnoughSpec).bare.plain.varTypes Tryz.prog).any (Tryz.prog.mapsRec ·))=true:=jF (fC (fC (fC (fC (fC (fC (fC (fC (fC (fC (fC (fC (fC (fC g_2))))))))))))))
theorem c_ifaces:(Rows.eventDepthsAreEnoughUptoRow.ifaces==(Tryz.f10.params.toList++(OpenSpec.ofChange Rows.eventDepthsAreEnoughSpec).bare.plain.varTypes Tryz.prog).any (Tryz.prog.ifacesRec ·))=true:=jF (fC (fC (fC (fC (fC (fC (fC (fC (fC (fC (fC (fC (fC g_2)))))))))))))
theorem c_mapsOut:(Rows.eventDepthsAreEnoughUptoRow.mapsOut==Tryz.prog.mapsAmong Tryz.f10.resultTypes.toList)=true:=jF (fC (fC (fC (fC (fC (fC (fC (fC (fC (fC (fC (fC g_2))))))))))))
theorem c_loops:(Rows.eventDepthsAreEnoughUptoRow.loops==(Tryz.f10.params.toList++(OpenSpec.ofChange Rows.eventDepthsAreEnoughSpec).bare.plain.varTypes Tryz.prog).any (Tryz.prog.loopsFrom ·))=true:=jF (fC (fC (fC (fC (fC (fC (fC (fC (fC (fC (fC g_2)))))))))))
theorem aOc:(Rows.eventDepthsAreEnoughUptoRow.wideKeys==(Tryz.f10.params.toList++(OpenSpec.ofChange Rows.eventDepthsAreEnoughSpec).bare.plain.varTypes Tryz.prog++Tryz.f10.resultTypes.toList).any (Tryz.prog.wideKeysFrom ·))=true:=jF (fC (fC (fC (fC (fC (fC (fC (fC (fC (fC g_2))))))))))
theorem c_vars:((OpenSpec.ofChange Rows.eventDepthsAreEnoughSpec).bare.vars.all (Tryz.prog.varReadable ·))=true:=jF (fC (fC (fC (fC (fC (fC (fC (fC (fC g_2)))))))))
theorem c_results:(Tryz.f10.resultTypes.all (fun t=>Tryz.prog.readableRec t && decide (t<Tryz.prog.types.size)))=true:=jF (fC (fC (fC (fC (fC (fC (fC (fC g_2))))))))
theorem aMb:(Rows.eventDepthsAreEnoughUptoRow.ifacesOut==Tryz.f10.resultTypes.toList.any (Tryz.prog.ifacesRec ·))=true:=jF (fC (fC (fC (fC (fC (fC (fC g_2)))))))
theorem aNt:(Rows.eventDepthsAreEnoughUptoRow.loopsOut==Tryz.f10.resultTypes.toList.any (Tryz.prog.loopsFrom ·))=true:=jF (fC (fC (fC (fC (fC (fC g_2))))))
theorem c_short:(Rows.eventDepthsAreEnoughUptoRow.shortTexts.isNone)=true:=jF (fC (fC (fC (fC (fC g_2)))))
theorem c_make:(Tryz.prog.make==some Rows.eventDepthsAreEnoughUptoRow.make)=true:=jF (fC (fC (fC (fC g_2))))
theorem c_kinds:(Rows.eventDepthsAreEnoughUptoRow.kinds==(if Rows.eventDepthsAreEnoughUptoRow.domain.isEmpty then [] else Tryz.f10.params.toList.map fun t=>match Tryz.prog.underlying t with | some (.int k)=>some k | _=>none))=true:=jF (fC (fC (fC g_2)))
theorem c_pinned:(Rows.eventDepthsAreEnoughUptoRow.pinned==Rows.eventDepthsAreEnoughUptoRow.pinnedBy)=true:=jF (fC (fC g_2))
theorem c_veiled:(Rows.eventDepthsAreEnoughUptoRow.veiled==(Tryz.f10.params.toList++(OpenSpec.ofChange Rows.eventDepthsAreEnoughSpec).bare.plain.varTypes Tryz.prog++Tryz.f10.resultTypes.toList).any (Tryz.prog.veiledRec ·))=true:=jF (fC g_2)
theorem aJl:(Rows.eventDepthsAreEnoughUptoRow.veiledFits Tryz.prog Tryz.f10.params.toList (Tryz.f10.params.toList++(OpenSpec.ofChange Rows.eventDepthsAreEnoughSpec).bare.plain.varTypes Tryz.prog++Tryz.f10.resultTypes.toList))=true:=jF g_2
set_option maxRecDepth 100000 in
theorem closedF:joinedFacts Tryz.pinned.checked.prog 10 Tryz.f10 (OpenSpec.ofChange Rows.eventDepthsAreEnoughSpec).bare Rows.eventDepthsAreEnoughUptoRow=true:=(kH (kH (kH (kH (kH (kH (kH (kH (kH (kH (kH (kH (kH (kH (kH (kH (kH (kH (kH (kH (kH (kH (kH (kH (kH (kH (kH (kH (kH (kH (kH c_wf aIa) aLo) c_params) c_tie) c_stops0) c_stops) c_knobs0) c_knobs) c_inPlace) aJj) aPl) c_named) c_maps) c_ifaces) c_mapsOut) c_loops) aOc) c_vars) c_results) aMb) aNt) aMd) c_short) c_heard) c_enter) c_lifted) c_make) c_kinds) c_pinned) c_veiled) aJl)
theorem goesF:false=Rows.eventDepthsAreEnoughUptoRow.goesBy Tryz.pinned.checked.prog:=by kernel_rfl
theorem looksF:true=Tryz.pinned.checked.prog.looks []:=by kernel_rfl
end Go.Proofs.YtckmiljbaejijaaGreatDoor.eventDepthsAreEnough
