/- Laws that the claim stands on; no condition beyond those stated. -/
import Derived.Test.YthfeackbhgmfbaaGreatDoorCards
import Derived.WalkKit
import Derived.ProofKit
import Derived.LaidSub
import Derived.Deep.DeepHandedRow
import Derived.SizedLaws
namespace Go.Proofs.YthfeackbhgmfbaaGreatDoor.eventPhasesMatchSpec
open Go.ChangeShapes Go.WideShapes Go.ChangeAt Go.RowKit
theorem qH {a b:Bool}(ha:a=true)(hb:b=true):(a&&b)=true:=by rw [ha,hb];rfl
theorem fA {a b:Bool}(h:(a&&b)=true):a=true:=by cases a<;>simp_all
theorem qY {a b:Bool}(h:(a&&b)=true):b=true:=by cases a<;>simp_all
theorem g_0:((Rows.eventPhasesMatchSpecUptoRow.inPlace==Tryz.prog.inPlace 3)&&(Rows.eventPhasesMatchSpecUptoRow.unfollowed==Tryz.prog.unfollowed 3)&&(Rows.eventPhasesMatchSpecUptoRow.recurses==Tryz.prog.recurses 3)&&(Rows.eventPhasesMatchSpecUptoRow.named==Tryz.prog.varsNamed 3)&&(laidOutB Tryz.prog)&&(mapsRowed Tryz.prog)&&(Tryz.prog.stopsHeard)&&(Rows.eventPhasesMatchSpecUptoRow.plainKeys==Tryz.prog.plainKeys))=true:=by kernel_rfl
theorem c_inPlace:(Rows.eventPhasesMatchSpecUptoRow.inPlace==Tryz.prog.inPlace 3)=true:=(fA (fA (fA (fA (fA (fA (fA g_0)))))))
theorem aQb:(Rows.eventPhasesMatchSpecUptoRow.unfollowed==Tryz.prog.unfollowed 3)=true:=qY (fA (fA (fA (fA (fA (fA g_0))))))
theorem aWo:(Rows.eventPhasesMatchSpecUptoRow.recurses==Tryz.prog.recurses 3)=true:=qY (fA (fA (fA (fA (fA g_0)))))
theorem c_named:(Rows.eventPhasesMatchSpecUptoRow.named==Tryz.prog.varsNamed 3)=true:=qY (fA (fA (fA (fA g_0))))
theorem aOz:(laidOutB Tryz.prog)=true:=qY (fA (fA (fA g_0)))
theorem aVr:(mapsRowed Tryz.prog)=true:=qY (fA (fA g_0))
theorem c_heard:(Tryz.prog.stopsHeard)=true:=qY (fA g_0)
theorem aTp:(Rows.eventPhasesMatchSpecUptoRow.plainKeys==Tryz.prog.plainKeys)=true:=qY g_0
theorem g_1:((Tryz.prog.mayEnter)&&(Rows.eventPhasesMatchSpecUptoRow.lifted==Tryz.prog.liftsFinal))=true:=by kernel_rfl
theorem c_enter:(Tryz.prog.mayEnter)=true:=(fA g_1)
theorem c_lifted:(Rows.eventPhasesMatchSpecUptoRow.lifted==Tryz.prog.liftsFinal)=true:=qY g_1
theorem g_2:((Rows.eventPhasesMatchSpecUptoRow.wf (OpenSpec.ofChange (OpenSpec.ofChange Rows.eventPhasesMatchSpecSpec).bare))&&(Tryz.f3.params.all (Tryz.prog.readableRec ·))&&(namedTie Tryz.prog Rows.eventPhasesMatchSpecUptoRow.named (OpenSpec.ofChange Rows.eventPhasesMatchSpecSpec).bare.vars)&&(Rows.eventPhasesMatchSpecUptoRow.stops==[])&&(Tryz.prog.stops==[])&&(Rows.eventPhasesMatchSpecUptoRow.knobs==[])&&(Tryz.prog.stopKnobs==[])&&(Rows.eventPhasesMatchSpecUptoRow.maps==(Tryz.f3.params.toList++(OpenSpec.ofChange Rows.eventPhasesMatchSpecSpec).bare.plain.varTypes Tryz.prog).any (Tryz.prog.mapsRec ·))&&(Rows.eventPhasesMatchSpecUptoRow.ifaces==(Tryz.f3.params.toList++(OpenSpec.ofChange Rows.eventPhasesMatchSpecSpec).bare.plain.varTypes Tryz.prog).any (Tryz.prog.ifacesRec ·))&&(Rows.eventPhasesMatchSpecUptoRow.mapsOut==Tryz.prog.mapsAmong Tryz.f3.resultTypes.toList)&&(Rows.eventPhasesMatchSpecUptoRow.loops==(Tryz.f3.params.toList++(OpenSpec.ofChange Rows.eventPhasesMatchSpecSpec).bare.plain.varTypes Tryz.prog).any (Tryz.prog.loopsFrom ·))&&(Rows.eventPhasesMatchSpecUptoRow.wideKeys==(Tryz.f3.params.toList++(OpenSpec.ofChange Rows.eventPhasesMatchSpecSpec).bare.plain.varTypes Tryz.prog++Tryz.f3.resultTypes.toList).any (Tryz.prog.wideKeysFrom ·))&&((OpenSpec.ofChange Rows.eventPhasesMatchSpecSpec).bare.vars.all (Tryz.prog.varReadable ·))&&(Tryz.f3.resultTypes.all (λt=>Tryz.prog.readableRec t&&decide (t<Tryz.prog.types.size)))&&(Rows.eventPhasesMatchSpecUptoRow.ifacesOut==Tryz.f3.resultTypes.toList.any (Tryz.prog.ifacesRec ·))&&(Rows.eventPhasesMatchSpecUptoRow.loopsOut==Tryz.f3.resultTypes.toList.any (Tryz.prog.loopsFrom ·))&&(Rows.eventPhasesMatchSpecUptoRow.shortTexts.isNone)&&(Tryz.prog.make==some Rows.eventPhasesMatchSpecUptoRow.make)&&(Rows.eventPhasesMatchSpecUptoRow.kinds==(if Rows.eventPhasesMatchSpecUptoRow.domain.isEmpty then []else Tryz.f3.params.toList.map λt=>match Tryz.prog.underlying t with |some (.int k)=>some k|_=>none))&&(Rows.eventPhasesMatchSpecUptoRow.pinned==Rows.eventPhasesMatchSpecUptoRow.pinnedBy)&&(Rows.eventPhasesMatchSpecUptoRow.veiled==(Tryz.f3.params.toList++(OpenSpec.ofChange Rows.eventPhasesMatchSpecSpec).bare.plain.varTypes Tryz.prog++Tryz.f3.resultTypes.toList).any (Tryz.prog.veiledRec ·))&&(Rows.eventPhasesMatchSpecUptoRow.veiledFits Tryz.prog Tryz.f3.params.toList (Tryz.f3.params.toList++(OpenSpec.ofChange Rows.eventPhasesMatchSpecSpec).bare.plain.varTypes Tryz.prog++Tryz.f3.resultTypes.toList)))=true:=by kernel_rfl
theorem c_wf:(Rows.eventPhasesMatchSpecUptoRow.wf (OpenSpec.ofChange (OpenSpec.ofChange Rows.eventPhasesMatchSpecSpec).bare))=true:=(fA (fA (fA (fA (fA (fA (fA (fA (fA (fA (fA (fA (fA (fA (fA (fA (fA (fA (fA (fA (fA g_2)))))))))))))))))))))
theorem c_params:(Tryz.f3.params.all (Tryz.prog.readableRec ·))=true:=qY (fA (fA (fA (fA (fA (fA (fA (fA (fA (fA (fA (fA (fA (fA (fA (fA (fA (fA (fA (fA g_2))))))))))))))))))))
theorem c_tie:(namedTie Tryz.prog Rows.eventPhasesMatchSpecUptoRow.named (OpenSpec.ofChange Rows.eventPhasesMatchSpecSpec).bare.vars)=true:=qY (fA (fA (fA (fA (fA (fA (fA (fA (fA (fA (fA (fA (fA (fA (fA (fA (fA (fA (fA g_2)))))))))))))))))))
theorem c_stops0:(Rows.eventPhasesMatchSpecUptoRow.stops==[])=true:=qY (fA (fA (fA (fA (fA (fA (fA (fA (fA (fA (fA (fA (fA (fA (fA (fA (fA (fA g_2))))))))))))))))))
theorem c_stops:(Tryz.prog.stops==[])=true:=qY (fA (fA (fA (fA (fA (fA (fA (fA (fA (fA (fA (fA (fA (fA (fA (fA (fA g_2)))))))))))))))))
theorem c_knobs0:(Rows.eventPhasesMatchSpecUptoRow.knobs==[])=true:=qY (fA (fA (fA (fA (fA (fA (fA (fA (fA (fA (fA (fA (fA (fA (fA (fA g_2))))))))))))))))
theorem c_knobs:(Tryz.prog.stopKnobs==[])=true:=qY (fA (fA (fA (fA (fA (fA (fA (fA (fA (fA (fA (fA (fA (fA (fA g_2)))))))))))))))
theorem c_maps:(Rows.eventPhasesMatchSpecUptoRow.maps==(Tryz.f3.params.toList++(OpenSpec.ofChange Rows.eventPhasesMatchSpecSpec).bare.plain.varTypes Tryz.prog).any (Tryz.prog.mapsRec ·))=true:=qY (fA (fA (fA (fA (fA (fA (fA (fA (fA (fA (fA (fA (fA (fA g_2))))))))))))))
theorem c_ifaces:(Rows.eventPhasesMatchSpecUptoRow.ifaces==(Tryz.f3.params.toList++(OpenSpec.ofChange Rows.eventPhasesMatchSpecSpec).bare.plain.varTypes Tryz.prog).any (Tryz.prog.ifacesRec ·))=true:=qY (fA (fA (fA (fA (fA (fA (fA (fA (fA (fA (fA (fA (fA g_2)))))))))))))
theorem c_mapsOut:(Rows.eventPhasesMatchSpecUptoRow.mapsOut==Tryz.prog.mapsAmong Tryz.f3.resultTypes.toList)=true:=qY (fA (fA (fA (fA (fA (fA (fA (fA (fA (fA (fA (fA g_2))))))))))))
theorem c_loops:(Rows.eventPhasesMatchSpecUptoRow.loops==(Tryz.f3.params.toList++(OpenSpec.ofChange Rows.eventPhasesMatchSpecSpec).bare.plain.varTypes Tryz.prog).any (Tryz.prog.loopsFrom ·))=true:=qY (fA (fA (fA (fA (fA (fA (fA (fA (fA (fA (fA g_2)))))))))))
theorem aXr:(Rows.eventPhasesMatchSpecUptoRow.wideKeys==(Tryz.f3.params.toList++(OpenSpec.ofChange Rows.eventPhasesMatchSpecSpec).bare.plain.varTypes Tryz.prog++Tryz.f3.resultTypes.toList).any (Tryz.prog.wideKeysFrom ·))=true:=qY (fA (fA (fA (fA (fA (fA (fA (fA (fA (fA g_2))))))))))
theorem c_vars:((OpenSpec.ofChange Rows.eventPhasesMatchSpecSpec).bare.vars.all (Tryz.prog.varReadable ·))=true:=qY (fA (fA (fA (fA (fA (fA (fA (fA (fA g_2)))))))))
theorem c_results:(Tryz.f3.resultTypes.all (λt=>Tryz.prog.readableRec t&&decide (t<Tryz.prog.types.size)))=true:=qY (fA (fA (fA (fA (fA (fA (fA (fA g_2))))))))
theorem aTi:(Rows.eventPhasesMatchSpecUptoRow.ifacesOut==Tryz.f3.resultTypes.toList.any (Tryz.prog.ifacesRec ·))=true:=qY (fA (fA (fA (fA (fA (fA (fA g_2)))))))
theorem aYb:(Rows.eventPhasesMatchSpecUptoRow.loopsOut==Tryz.f3.resultTypes.toList.any (Tryz.prog.loopsFrom ·))=true:=qY (fA (fA (fA (fA (fA (fA g_2))))))
theorem c_short:(Rows.eventPhasesMatchSpecUptoRow.shortTexts.isNone)=true:=qY (fA (fA (fA (fA (fA g_2)))))
theorem c_make:(Tryz.prog.make==some Rows.eventPhasesMatchSpecUptoRow.make)=true:=qY (fA (fA (fA (fA g_2))))
theorem c_kinds:(Rows.eventPhasesMatchSpecUptoRow.kinds==(if Rows.eventPhasesMatchSpecUptoRow.domain.isEmpty then []else Tryz.f3.params.toList.map λt=>match Tryz.prog.underlying t with |some (.int k)=>some k|_=>none))=true:=qY (fA (fA (fA g_2)))
theorem c_pinned:(Rows.eventPhasesMatchSpecUptoRow.pinned==Rows.eventPhasesMatchSpecUptoRow.pinnedBy)=true:=qY (fA (fA g_2))
theorem c_veiled:(Rows.eventPhasesMatchSpecUptoRow.veiled==(Tryz.f3.params.toList++(OpenSpec.ofChange Rows.eventPhasesMatchSpecSpec).bare.plain.varTypes Tryz.prog++Tryz.f3.resultTypes.toList).any (Tryz.prog.veiledRec ·))=true:=qY (fA g_2)
theorem aSh:(Rows.eventPhasesMatchSpecUptoRow.veiledFits Tryz.prog Tryz.f3.params.toList (Tryz.f3.params.toList++(OpenSpec.ofChange Rows.eventPhasesMatchSpecSpec).bare.plain.varTypes Tryz.prog++Tryz.f3.resultTypes.toList))=true:=qY g_2
set_option maxRecDepth 100000 in
theorem closedF:joinedFacts Tryz.pinned.checked.prog 3 Tryz.f3 (OpenSpec.ofChange Rows.eventPhasesMatchSpecSpec).bare Rows.eventPhasesMatchSpecUptoRow=true:=(qH (qH (qH (qH (qH (qH (qH (qH (qH (qH (qH (qH (qH (qH (qH (qH (qH (qH (qH (qH (qH (qH (qH (qH (qH (qH (qH (qH (qH (qH (qH c_wf aOz) aVr) c_params) c_tie) c_stops0) c_stops) c_knobs0) c_knobs) c_inPlace) aQb) aWo) c_named) c_maps) c_ifaces) c_mapsOut) c_loops) aXr) c_vars) c_results) aTi) aYb) aTp) c_short) c_heard) c_enter) c_lifted) c_make) c_kinds) c_pinned) c_veiled) aSh)
theorem goesF:false=Rows.eventPhasesMatchSpecUptoRow.goesBy Tryz.pinned.checked.prog:=by kernel_rfl
theorem looksF:true=Tryz.pinned.checked.prog.looks []:=by kernel_rfl
end Go.Proofs.YthfeackbhgmfbaaGreatDoor.eventPhasesMatchSpec
