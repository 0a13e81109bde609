/- Laws that the claim stands on; no condition beyond those stated. -/
import Derived.Test.YtibkjjklfhfipadGreatDoorCards
import Derived.WalkKit
import Derived.ProofKit
import Derived.LaidSub
import Derived.Deep.DeepHandedRow
import Derived.SizedLaws
namespace Go.Proofs.YtibkjjklfhfipadGreatDoor.findingReasonsMatchSpec
open Go.ChangeShapes Go.WideShapes Go.ChangeAt Go.RowKit
theorem qG {a b:Bool}(ha:a=true)(hb:b=true):(a&&b)=true:=by rw [ha,hb];rfl
theorem gZ {a b:Bool}(h:(a&&b)=true):a=true:=by cases a<;>simp_all
theorem qZ {a b:Bool}(h:(a&&b)=true):b=true:=by cases a<;>simp_all
theorem g_0:((Rows.findingReasonsMatchSpecRow.inPlace==Tryz.prog.inPlace 3)&&(Rows.findingReasonsMatchSpecRow.unfollowed==Tryz.prog.unfollowed 3)&&(Rows.findingReasonsMatchSpecRow.recurses==Tryz.prog.recurses 3)&&(Rows.findingReasonsMatchSpecRow.named==Tryz.prog.varsNamed 3)&&(laidOutB Tryz.prog)&&(mapsRowed Tryz.prog)&&(Tryz.prog.stopsHeard)&&(Rows.findingReasonsMatchSpecRow.plainKeys==Tryz.prog.plainKeys))=true:=by kernel_rfl
theorem c_inPlace:(Rows.findingReasonsMatchSpecRow.inPlace==Tryz.prog.inPlace 3)=true:=(gZ (gZ (gZ (gZ (gZ (gZ (gZ g_0)))))))
theorem aSx:(Rows.findingReasonsMatchSpecRow.unfollowed==Tryz.prog.unfollowed 3)=true:=qZ (gZ (gZ (gZ (gZ (gZ (gZ g_0))))))
theorem aZb:(Rows.findingReasonsMatchSpecRow.recurses==Tryz.prog.recurses 3)=true:=qZ (gZ (gZ (gZ (gZ (gZ g_0)))))
theorem c_named:(Rows.findingReasonsMatchSpecRow.named==Tryz.prog.varsNamed 3)=true:=qZ (gZ (gZ (gZ (gZ g_0))))
theorem aPw:(laidOutB Tryz.prog)=true:=qZ (gZ (gZ (gZ g_0)))
theorem aWy:(mapsRowed Tryz.prog)=true:=qZ (gZ (gZ g_0))
theorem c_heard:(Tryz.prog.stopsHeard)=true:=qZ (gZ g_0)
theorem aVg:(Rows.findingReasonsMatchSpecRow.plainKeys==Tryz.prog.plainKeys)=true:=qZ g_0
theorem g_1:((Tryz.prog.mayEnter)&&(Rows.findingReasonsMatchSpecRow.lifted==Tryz.prog.liftsFinal))=true:=by kernel_rfl
theorem c_enter:(Tryz.prog.mayEnter)=true:=(gZ g_1)
theorem c_lifted:(Rows.findingReasonsMatchSpecRow.lifted==Tryz.prog.liftsFinal)=true:=qZ g_1
theorem g_2:((Rows.findingReasonsMatchSpecRow.wf (OpenSpec.ofChange (OpenSpec.ofChange Rows.findingReasonsMatchSpecSpec).bare))&&(Tryz.f3.params.all (Tryz.prog.readableRec ·))&&(namedTie Tryz.prog Rows.findingReasonsMatchSpecRow.named (OpenSpec.ofChange Rows.findingReasonsMatchSpecSpec).bare.vars)&&(Rows.findingReasonsMatchSpecRow.stops==[])&&(Tryz.prog.stops==[])&&(Rows.findingReasonsMatchSpecRow.knobs==[])&&(Tryz.prog.stopKnobs==[])&&(Rows.findingReasonsMatchSpecRow.maps==(Tryz.f3.params.toList++(OpenSpec.ofChange Rows.findingReasonsMatchSpecSpec).bare.plain.varTypes Tryz.prog).any (Tryz.prog.mapsRec ·))&&(Rows.findingReasonsMatchSpecRow.ifaces==(Tryz.f3.params.toList++(OpenSpec.ofChange Rows.findingReasonsMatchSpecSpec).bare.plain.varTypes Tryz.prog).any (Tryz.prog.ifacesRec ·))&&(Rows.findingReasonsMatchSpecRow.mapsOut==Tryz.prog.mapsAmong Tryz.f3.resultTypes.toList)&&(Rows.findingReasonsMatchSpecRow.loops==(Tryz.f3.params.toList++(OpenSpec.ofChange Rows.findingReasonsMatchSpecSpec).bare.plain.varTypes Tryz.prog).any (Tryz.prog.loopsFrom ·))&&(Rows.findingReasonsMatchSpecRow.wideKeys==(Tryz.f3.params.toList++(OpenSpec.ofChange Rows.findingReasonsMatchSpecSpec).bare.plain.varTypes Tryz.prog++Tryz.f3.resultTypes.toList).any (Tryz.prog.wideKeysFrom ·))&&((OpenSpec.ofChange Rows.findingReasonsMatchSpecSpec).bare.vars.all (Tryz.prog.varReadable ·))&&(Tryz.f3.resultTypes.all (λt=>Tryz.prog.readableRec t&&decide (t<Tryz.prog.types.size)))&&(Rows.findingReasonsMatchSpecRow.ifacesOut==Tryz.f3.resultTypes.toList.any (Tryz.prog.ifacesRec ·))&&(Rows.findingReasonsMatchSpecRow.loopsOut==Tryz.f3.resultTypes.toList.any (Tryz.prog.loopsFrom ·))&&(Rows.findingReasonsMatchSpecRow.shortTexts.isNone)&&(Tryz.prog.make==some Rows.findingReasonsMatchSpecRow.make)&&(Rows.findingReasonsMatchSpecRow.kinds==(if Rows.findingReasonsMatchSpecRow.domain.isEmpty then []else Tryz.f3.params.toList.map λt=>match Tryz.prog.underlying t with |some (.int k)=>some k|_=>none))&&(Rows.findingReasonsMatchSpecRow.pinned==Rows.findingReasonsMatchSpecRow.pinnedBy)&&(Rows.findingReasonsMatchSpecRow.veiled==(Tryz.f3.params.toList++(OpenSpec.ofChange Rows.findingReasonsMatchSpecSpec).bare.plain.varTypes Tryz.prog++Tryz.f3.resultTypes.toList).any (Tryz.prog.veiledRec ·))&&(Rows.findingReasonsMatchSpecRow.veiledFits Tryz.prog Tryz.f3.params.toList (Tryz.f3.params.toList++(OpenSpec.ofChange Rows.findingReasonsMatchSpecSpec).bare.plain.varTypes Tryz.prog++Tryz.f3.resultTypes.toList)))=true:=by kernel_rfl
theorem c_wf:(Rows.findingReasonsMatchSpecRow.wf (OpenSpec.ofChange (OpenSpec.ofChange Rows.findingReasonsMatchSpecSpec).bare))=true:=(gZ (gZ (gZ (gZ (gZ (gZ (gZ (gZ (gZ (gZ (gZ (gZ (gZ (gZ (gZ (gZ (gZ (gZ (gZ (gZ (gZ g_2)))))))))))))))))))))
theorem c_params:(Tryz.f3.params.all (Tryz.prog.readableRec ·))=true:=qZ (gZ (gZ (gZ (gZ (gZ (gZ (gZ (gZ (gZ (gZ (gZ (gZ (gZ (gZ (gZ (gZ (gZ (gZ (gZ (gZ g_2))))))))))))))))))))
theorem c_tie:(namedTie Tryz.prog Rows.findingReasonsMatchSpecRow.named (OpenSpec.ofChange Rows.findingReasonsMatchSpecSpec).bare.vars)=true:=qZ (gZ (gZ (gZ (gZ (gZ (gZ (gZ (gZ (gZ (gZ (gZ (gZ (gZ (gZ (gZ (gZ (gZ (gZ (gZ g_2)))))))))))))))))))
theorem c_stops0:(Rows.findingReasonsMatchSpecRow.stops==[])=true:=qZ (gZ (gZ (gZ (gZ (gZ (gZ (gZ (gZ (gZ (gZ (gZ (gZ (gZ (gZ (gZ (gZ (gZ (gZ g_2))))))))))))))))))
theorem c_stops:(Tryz.prog.stops==[])=true:=qZ (gZ (gZ (gZ (gZ (gZ (gZ (gZ (gZ (gZ (gZ (gZ (gZ (gZ (gZ (gZ (gZ (gZ g_2)))))))))))))))))
theorem c_knobs0:(Rows.findingReasonsMatchSpecRow.knobs==[])=true:=qZ (gZ (gZ (gZ (gZ (gZ (gZ (gZ (gZ (gZ (gZ (gZ (gZ (gZ (gZ (gZ (gZ g_2))))))))))))))))
theorem c_knobs:(Tryz.prog.stopKnobs==[])=true:=qZ (gZ (gZ (gZ (gZ (gZ (gZ (gZ (gZ (gZ (gZ (gZ (gZ (gZ (gZ (gZ g_2)))))))))))))))
theorem c_maps:(Rows.findingReasonsMatchSpecRow.maps==(Tryz.f3.params.toList++(OpenSpec.ofChange Rows.findingReasonsMatchSpecSpec).bare.plain.varTypes Tryz.prog).any (Tryz.prog.mapsRec ·))=true:=qZ (gZ (gZ (gZ (gZ (gZ (gZ (gZ (gZ (gZ (gZ (gZ (gZ (gZ (gZ g_2))))))))))))))
theorem c_ifaces:(Rows.findingReasonsMatchSpecRow.ifaces==(Tryz.f3.params.toList++(OpenSpec.ofChange Rows.findingReasonsMatchSpecSpec).bare.plain.varTypes Tryz.prog).any (Tryz.prog.ifacesRec ·))=true:=qZ (gZ (gZ (gZ (gZ (gZ (gZ (gZ (gZ (gZ (gZ (gZ (gZ (gZ g_2)))))))))))))
theorem c_mapsOut:(Rows.findingReasonsMatchSpecRow.mapsOut==Tryz.prog.mapsAmong Tryz.f3.resultTypes.toList)=true:=qZ (gZ (gZ (gZ (gZ (gZ (gZ (gZ (gZ (gZ (gZ (gZ (gZ g_2))))))))))))
theorem c_loops:(Rows.findingReasonsMatchSpecRow.loops==(Tryz.f3.params.toList++(OpenSpec.ofChange Rows.findingReasonsMatchSpecSpec).bare.plain.varTypes Tryz.prog).any (Tryz.prog.loopsFrom ·))=true:=qZ (gZ (gZ (gZ (gZ (gZ (gZ (gZ (gZ (gZ (gZ (gZ g_2)))))))))))
theorem aXv:(Rows.findingReasonsMatchSpecRow.wideKeys==(Tryz.f3.params.toList++(OpenSpec.ofChange Rows.findingReasonsMatchSpecSpec).bare.plain.varTypes Tryz.prog++Tryz.f3.resultTypes.toList).any (Tryz.prog.wideKeysFrom ·))=true:=qZ (gZ (gZ (gZ (gZ (gZ (gZ (gZ (gZ (gZ (gZ g_2))))))))))
theorem c_vars:((OpenSpec.ofChange Rows.findingReasonsMatchSpecSpec).bare.vars.all (Tryz.prog.varReadable ·))=true:=qZ (gZ (gZ (gZ (gZ (gZ (gZ (gZ (gZ (gZ g_2)))))))))
theorem c_results:(Tryz.f3.resultTypes.all (λt=>Tryz.prog.readableRec t&&decide (t<Tryz.prog.types.size)))=true:=qZ (gZ (gZ (gZ (gZ (gZ (gZ (gZ (gZ g_2))))))))
theorem aVy:(Rows.findingReasonsMatchSpecRow.ifacesOut==Tryz.f3.resultTypes.toList.any (Tryz.prog.ifacesRec ·))=true:=qZ (gZ (gZ (gZ (gZ (gZ (gZ (gZ g_2)))))))
theorem aZw:(Rows.findingReasonsMatchSpecRow.loopsOut==Tryz.f3.resultTypes.toList.any (Tryz.prog.loopsFrom ·))=true:=qZ (gZ (gZ (gZ (gZ (gZ (gZ g_2))))))
theorem c_short:(Rows.findingReasonsMatchSpecRow.shortTexts.isNone)=true:=qZ (gZ (gZ (gZ (gZ (gZ g_2)))))
theorem c_make:(Tryz.prog.make==some Rows.findingReasonsMatchSpecRow.make)=true:=qZ (gZ (gZ (gZ (gZ g_2))))
theorem c_kinds:(Rows.findingReasonsMatchSpecRow.kinds==(if Rows.findingReasonsMatchSpecRow.domain.isEmpty then []else Tryz.f3.params.toList.map λt=>match Tryz.prog.underlying t with |some (.int k)=>some k|_=>none))=true:=qZ (gZ (gZ (gZ g_2)))
theorem c_pinned:(Rows.findingReasonsMatchSpecRow.pinned==Rows.findingReasonsMatchSpecRow.pinnedBy)=true:=qZ (gZ (gZ g_2))
theorem c_veiled:(Rows.findingReasonsMatchSpecRow.veiled==(Tryz.f3.params.toList++(OpenSpec.ofChange Rows.findingReasonsMatchSpecSpec).bare.plain.varTypes Tryz.prog++Tryz.f3.resultTypes.toList).any (Tryz.prog.veiledRec ·))=true:=qZ (gZ g_2)
theorem aRe:(Rows.findingReasonsMatchSpecRow.veiledFits Tryz.prog Tryz.f3.params.toList (Tryz.f3.params.toList++(OpenSpec.ofChange Rows.findingReasonsMatchSpecSpec).bare.plain.varTypes Tryz.prog++Tryz.f3.resultTypes.toList))=true:=qZ g_2
set_option maxRecDepth 100000 in
theorem closedF:joinedFacts Tryz.pinned.checked.prog 3 Tryz.f3 (OpenSpec.ofChange Rows.findingReasonsMatchSpecSpec).bare Rows.findingReasonsMatchSpecRow=true:=(qG (qG (qG (qG (qG (qG (qG (qG (qG (qG (qG (qG (qG (qG (qG (qG (qG (qG (qG (qG (qG (qG (qG (qG (qG (qG (qG (qG (qG (qG (qG c_wf aPw) aWy) c_params) c_tie) c_stops0) c_stops) c_knobs0) c_knobs) c_inPlace) aSx) aZb) c_named) c_maps) c_ifaces) c_mapsOut) c_loops) aXv) c_vars) c_results) aVy) aZw) aVg) c_short) c_heard) c_enter) c_lifted) c_make) c_kinds) c_pinned) c_veiled) aRe)
theorem goesF:false=Rows.findingReasonsMatchSpecRow.goesBy Tryz.pinned.checked.prog:=by kernel_rfl
theorem looksF:true=Tryz.pinned.checked.prog.looks []:=by kernel_rfl
end Go.Proofs.YtibkjjklfhfipadGreatDoor.findingReasonsMatchSpec
