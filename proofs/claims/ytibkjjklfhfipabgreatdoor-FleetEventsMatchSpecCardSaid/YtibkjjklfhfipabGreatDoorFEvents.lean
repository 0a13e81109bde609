/- Laws that the claim stands on; no condition beyond those stated. -/
import Derived.Test.YtibkjjklfhfipabGreatDoorCards
import Derived.WalkKit
import Derived.ProofKit
import Derived.LaidSub
import Derived.Deep.DeepHandedRow
import Derived.SizedLaws
namespace Go.Proofs.YtibkjjklfhfipabGreatDoor.fleetEventsMatchSpec
open Go.ChangeShapes Go.WideShapes Go.ChangeAt Go.RowKit
theorem pY {a b:Bool}(ha:a=true)(hb:b=true):(a&&b)=true:=by rw [ha,hb];rfl
theorem gY {a b:Bool}(h:(a&&b)=true):a=true:=by cases a<;>simp_all
theorem qP {a b:Bool}(h:(a&&b)=true):b=true:=by cases a<;>simp_all
theorem g_0:((Rows.fleetEventsMatchSpecRow.inPlace==Tryz.prog.inPlace 3)&&(Rows.fleetEventsMatchSpecRow.unfollowed==Tryz.prog.unfollowed 3)&&(Rows.fleetEventsMatchSpecRow.recurses==Tryz.prog.recurses 3)&&(Rows.fleetEventsMatchSpecRow.named==Tryz.prog.varsNamed 3)&&(laidOutB Tryz.prog)&&(mapsRowed Tryz.prog)&&(Tryz.prog.stopsHeard)&&(Rows.fleetEventsMatchSpecRow.plainKeys==Tryz.prog.plainKeys))=true:=by kernel_rfl
theorem c_inPlace:(Rows.fleetEventsMatchSpecRow.inPlace==Tryz.prog.inPlace 3)=true:=(gY (gY (gY (gY (gY (gY (gY g_0)))))))
theorem aPk:(Rows.fleetEventsMatchSpecRow.unfollowed==Tryz.prog.unfollowed 3)=true:=qP (gY (gY (gY (gY (gY (gY g_0))))))
theorem aXi:(Rows.fleetEventsMatchSpecRow.recurses==Tryz.prog.recurses 3)=true:=qP (gY (gY (gY (gY (gY g_0)))))
theorem c_named:(Rows.fleetEventsMatchSpecRow.named==Tryz.prog.varsNamed 3)=true:=qP (gY (gY (gY (gY g_0))))
theorem aOi:(laidOutB Tryz.prog)=true:=qP (gY (gY (gY g_0)))
theorem aVs:(mapsRowed Tryz.prog)=true:=qP (gY (gY g_0))
theorem c_heard:(Tryz.prog.stopsHeard)=true:=qP (gY g_0)
theorem aSh:(Rows.fleetEventsMatchSpecRow.plainKeys==Tryz.prog.plainKeys)=true:=qP g_0
theorem g_1:((Tryz.prog.mayEnter)&&(Rows.fleetEventsMatchSpecRow.lifted==Tryz.prog.liftsFinal))=true:=by kernel_rfl
theorem c_enter:(Tryz.prog.mayEnter)=true:=(gY g_1)
theorem c_lifted:(Rows.fleetEventsMatchSpecRow.lifted==Tryz.prog.liftsFinal)=true:=qP g_1
theorem g_2:((Rows.fleetEventsMatchSpecRow.wf (OpenSpec.ofChange (OpenSpec.ofChange Rows.fleetEventsMatchSpecSpec).bare))&&(Tryz.f3.params.all (Tryz.prog.readableRec ·))&&(namedTie Tryz.prog Rows.fleetEventsMatchSpecRow.named (OpenSpec.ofChange Rows.fleetEventsMatchSpecSpec).bare.vars)&&(Rows.fleetEventsMatchSpecRow.stops==[])&&(Tryz.prog.stops==[])&&(Rows.fleetEventsMatchSpecRow.knobs==[])&&(Tryz.prog.stopKnobs==[])&&(Rows.fleetEventsMatchSpecRow.maps==(Tryz.f3.params.toList++(OpenSpec.ofChange Rows.fleetEventsMatchSpecSpec).bare.plain.varTypes Tryz.prog).any (Tryz.prog.mapsRec ·))&&(Rows.fleetEventsMatchSpecRow.ifaces==(Tryz.f3.params.toList++(OpenSpec.ofChange Rows.fleetEventsMatchSpecSpec).bare.plain.varTypes Tryz.prog).any (Tryz.prog.ifacesRec ·))&&(Rows.fleetEventsMatchSpecRow.mapsOut==Tryz.prog.mapsAmong Tryz.f3.resultTypes.toList)&&(Rows.fleetEventsMatchSpecRow.loops==(Tryz.f3.params.toList++(OpenSpec.ofChange Rows.fleetEventsMatchSpecSpec).bare.plain.varTypes Tryz.prog).any (Tryz.prog.loopsFrom ·))&&(Rows.fleetEventsMatchSpecRow.wideKeys==(Tryz.f3.params.toList++(OpenSpec.ofChange Rows.fleetEventsMatchSpecSpec).bare.plain.varTypes Tryz.prog++Tryz.f3.resultTypes.toList).any (Tryz.prog.wideKeysFrom ·))&&((OpenSpec.ofChange Rows.fleetEventsMatchSpecSpec).bare.vars.all (Tryz.prog.varReadable ·))&&(Tryz.f3.resultTypes.all (λt=>Tryz.prog.readableRec t&&decide (t<Tryz.prog.types.size)))&&(Rows.fleetEventsMatchSpecRow.ifacesOut==Tryz.f3.resultTypes.toList.any (Tryz.prog.ifacesRec ·))&&(Rows.fleetEventsMatchSpecRow.loopsOut==Tryz.f3.resultTypes.toList.any (Tryz.prog.loopsFrom ·))&&(Rows.fleetEventsMatchSpecRow.shortTexts.isNone)&&(Tryz.prog.make==some Rows.fleetEventsMatchSpecRow.make)&&(Rows.fleetEventsMatchSpecRow.kinds==(if Rows.fleetEventsMatchSpecRow.domain.isEmpty then []else Tryz.f3.params.toList.map λt=>match Tryz.prog.underlying t with |some (.int k)=>some k|_=>none))&&(Rows.fleetEventsMatchSpecRow.pinned==Rows.fleetEventsMatchSpecRow.pinnedBy)&&(Rows.fleetEventsMatchSpecRow.veiled==(Tryz.f3.params.toList++(OpenSpec.ofChange Rows.fleetEventsMatchSpecSpec).bare.plain.varTypes Tryz.prog++Tryz.f3.resultTypes.toList).any (Tryz.prog.veiledRec ·))&&(Rows.fleetEventsMatchSpecRow.veiledFits Tryz.prog Tryz.f3.params.toList (Tryz.f3.params.toList++(OpenSpec.ofChange Rows.fleetEventsMatchSpecSpec).bare.plain.varTypes Tryz.prog++Tryz.f3.resultTypes.toList)))=true:=by kernel_rfl
theorem c_wf:(Rows.fleetEventsMatchSpecRow.wf (OpenSpec.ofChange (OpenSpec.ofChange Rows.fleetEventsMatchSpecSpec).bare))=true:=(gY (gY (gY (gY (gY (gY (gY (gY (gY (gY (gY (gY (gY (gY (gY (gY (gY (gY (gY (gY (gY g_2)))))))))))))))))))))
theorem c_params:(Tryz.f3.params.all (Tryz.prog.readableRec ·))=true:=qP (gY (gY (gY (gY (gY (gY (gY (gY (gY (gY (gY (gY (gY (gY (gY (gY (gY (gY (gY (gY g_2))))))))))))))))))))
theorem c_tie:(namedTie Tryz.prog Rows.fleetEventsMatchSpecRow.named (OpenSpec.ofChange Rows.fleetEventsMatchSpecSpec).bare.vars)=true:=qP (gY (gY (gY (gY (gY (gY (gY (gY (gY (gY (gY (gY (gY (gY (gY (gY (gY (gY (gY g_2)))))))))))))))))))
theorem c_stops0:(Rows.fleetEventsMatchSpecRow.stops==[])=true:=qP (gY (gY (gY (gY (gY (gY (gY (gY (gY (gY (gY (gY (gY (gY (gY (gY (gY (gY g_2))))))))))))))))))
theorem c_stops:(Tryz.prog.stops==[])=true:=qP (gY (gY (gY (gY (gY (gY (gY (gY (gY (gY (gY (gY (gY (gY (gY (gY (gY g_2)))))))))))))))))
theorem c_knobs0:(Rows.fleetEventsMatchSpecRow.knobs==[])=true:=qP (gY (gY (gY (gY (gY (gY (gY (gY (gY (gY (gY (gY (gY (gY (gY (gY g_2))))))))))))))))
theorem c_knobs:(Tryz.prog.stopKnobs==[])=true:=qP (gY (gY (gY (gY (gY (gY (gY (gY (gY (gY (gY (gY (gY (gY (gY g_2)))))))))))))))
theorem c_maps:(Rows.fleetEventsMatchSpecRow.maps==(Tryz.f3.params.toList++(OpenSpec.ofChange Rows.fleetEventsMatchSpecSpec).bare.plain.varTypes Tryz.prog).any (Tryz.prog.mapsRec ·))=true:=qP (gY (gY (gY (gY (gY (gY (gY (gY (gY (gY (gY (gY (gY (gY g_2))))))))))))))
theorem c_ifaces:(Rows.fleetEventsMatchSpecRow.ifaces==(Tryz.f3.params.toList++(OpenSpec.ofChange Rows.fleetEventsMatchSpecSpec).bare.plain.varTypes Tryz.prog).any (Tryz.prog.ifacesRec ·))=true:=qP (gY (gY (gY (gY (gY (gY (gY (gY (gY (gY (gY (gY (gY g_2)))))))))))))
theorem c_mapsOut:(Rows.fleetEventsMatchSpecRow.mapsOut==Tryz.prog.mapsAmong Tryz.f3.resultTypes.toList)=true:=qP (gY (gY (gY (gY (gY (gY (gY (gY (gY (gY (gY (gY g_2))))))))))))
theorem c_loops:(Rows.fleetEventsMatchSpecRow.loops==(Tryz.f3.params.toList++(OpenSpec.ofChange Rows.fleetEventsMatchSpecSpec).bare.plain.varTypes Tryz.prog).any (Tryz.prog.loopsFrom ·))=true:=qP (gY (gY (gY (gY (gY (gY (gY (gY (gY (gY (gY g_2)))))))))))
theorem aXm:(Rows.fleetEventsMatchSpecRow.wideKeys==(Tryz.f3.params.toList++(OpenSpec.ofChange Rows.fleetEventsMatchSpecSpec).bare.plain.varTypes Tryz.prog++Tryz.f3.resultTypes.toList).any (Tryz.prog.wideKeysFrom ·))=true:=qP (gY (gY (gY (gY (gY (gY (gY (gY (gY (gY g_2))))))))))
theorem c_vars:((OpenSpec.ofChange Rows.fleetEventsMatchSpecSpec).bare.vars.all (Tryz.prog.varReadable ·))=true:=qP (gY (gY (gY (gY (gY (gY (gY (gY (gY g_2)))))))))
theorem c_results:(Tryz.f3.resultTypes.all (λt=>Tryz.prog.readableRec t&&decide (t<Tryz.prog.types.size)))=true:=qP (gY (gY (gY (gY (gY (gY (gY (gY g_2))))))))
theorem aSy:(Rows.fleetEventsMatchSpecRow.ifacesOut==Tryz.f3.resultTypes.toList.any (Tryz.prog.ifacesRec ·))=true:=qP (gY (gY (gY (gY (gY (gY (gY g_2)))))))
theorem aZa:(Rows.fleetEventsMatchSpecRow.loopsOut==Tryz.f3.resultTypes.toList.any (Tryz.prog.loopsFrom ·))=true:=qP (gY (gY (gY (gY (gY (gY g_2))))))
theorem c_short:(Rows.fleetEventsMatchSpecRow.shortTexts.isNone)=true:=qP (gY (gY (gY (gY (gY g_2)))))
theorem c_make:(Tryz.prog.make==some Rows.fleetEventsMatchSpecRow.make)=true:=qP (gY (gY (gY (gY g_2))))
theorem c_kinds:(Rows.fleetEventsMatchSpecRow.kinds==(if Rows.fleetEventsMatchSpecRow.domain.isEmpty then []else Tryz.f3.params.toList.map λt=>match Tryz.prog.underlying t with |some (.int k)=>some k|_=>none))=true:=qP (gY (gY (gY g_2)))
theorem c_pinned:(Rows.fleetEventsMatchSpecRow.pinned==Rows.fleetEventsMatchSpecRow.pinnedBy)=true:=qP (gY (gY g_2))
theorem c_veiled:(Rows.fleetEventsMatchSpecRow.veiled==(Tryz.f3.params.toList++(OpenSpec.ofChange Rows.fleetEventsMatchSpecSpec).bare.plain.varTypes Tryz.prog++Tryz.f3.resultTypes.toList).any (Tryz.prog.veiledRec ·))=true:=qP (gY g_2)
theorem aRb:(Rows.fleetEventsMatchSpecRow.veiledFits Tryz.prog Tryz.f3.params.toList (Tryz.f3.params.toList++(OpenSpec.ofChange Rows.fleetEventsMatchSpecSpec).bare.plain.varTypes Tryz.prog++Tryz.f3.resultTypes.toList))=true:=qP g_2
set_option maxRecDepth 100000 in
theorem closedF:joinedFacts Tryz.pinned.checked.prog 3 Tryz.f3 (OpenSpec.ofChange Rows.fleetEventsMatchSpecSpec).bare Rows.fleetEventsMatchSpecRow=true:=(pY (pY (pY (pY (pY (pY (pY (pY (pY (pY (pY (pY (pY (pY (pY (pY (pY (pY (pY (pY (pY (pY (pY (pY (pY (pY (pY (pY (pY (pY (pY c_wf aOi) aVs) c_params) c_tie) c_stops0) c_stops) c_knobs0) c_knobs) c_inPlace) aPk) aXi) c_named) c_maps) c_ifaces) c_mapsOut) c_loops) aXm) c_vars) c_results) aSy) aZa) aSh) c_short) c_heard) c_enter) c_lifted) c_make) c_kinds) c_pinned) c_veiled) aRb)
theorem goesF:false=Rows.fleetEventsMatchSpecRow.goesBy Tryz.pinned.checked.prog:=by kernel_rfl
theorem looksF:false=Tryz.pinned.checked.prog.looks []:=by kernel_rfl
end Go.Proofs.YtibkjjklfhfipabGreatDoor.fleetEventsMatchSpec
