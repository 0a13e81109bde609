/- Laws that the claim stands on; no condition beyond those stated. -/
import Derived.Test.YteljpoagacbmoaaGreatDoorCards
import Derived.WalkKit
import Derived.ProofKit
import Derived.LaidSub
import Derived.Deep.DeepHandedRow
import Derived.SizedLaws
namespace Go.Proofs.YteljpoagacbmoaaGreatDoor.eventTruthsMatchSpec
open Go.ChangeShapes Go.WideShapes Go.ChangeAt Go.RowKit
theorem qA {a b:Bool}(ha:a=true)(hb:b=true):(a&&b)=true:=by rw [ha,hb];rfl
theorem fB {a b:Bool}(h:(a&&b)=true):a=true:=by cases a<;>simp_all
theorem rO {a b:Bool}(h:(a&&b)=true):b=true:=by cases a<;>simp_all
theorem g_0:((Rows.eventTruthsMatchSpecUptoRow.inPlace==Tryz.prog.inPlace 5)&&(Rows.eventTruthsMatchSpecUptoRow.unfollowed==Tryz.prog.unfollowed 5)&&(Rows.eventTruthsMatchSpecUptoRow.recurses==Tryz.prog.recurses 5)&&(Rows.eventTruthsMatchSpecUptoRow.named==Tryz.prog.varsNamed 5)&&(laidOutB Tryz.prog)&&(mapsRowed Tryz.prog)&&(Tryz.prog.stopsHeard)&&(Rows.eventTruthsMatchSpecUptoRow.plainKeys==Tryz.prog.plainKeys))=true:=by kernel_rfl
theorem c_inPlace:(Rows.eventTruthsMatchSpecUptoRow.inPlace==Tryz.prog.inPlace 5)=true:=(fB (fB (fB (fB (fB (fB (fB g_0)))))))
theorem aRk:(Rows.eventTruthsMatchSpecUptoRow.unfollowed==Tryz.prog.unfollowed 5)=true:=rO (fB (fB (fB (fB (fB (fB g_0))))))
theorem aXx:(Rows.eventTruthsMatchSpecUptoRow.recurses==Tryz.prog.recurses 5)=true:=rO (fB (fB (fB (fB (fB g_0)))))
theorem c_named:(Rows.eventTruthsMatchSpecUptoRow.named==Tryz.prog.varsNamed 5)=true:=rO (fB (fB (fB (fB g_0))))
theorem aOb:(laidOutB Tryz.prog)=true:=rO (fB (fB (fB g_0)))
theorem aTs:(mapsRowed Tryz.prog)=true:=rO (fB (fB g_0))
theorem c_heard:(Tryz.prog.stopsHeard)=true:=rO (fB g_0)
theorem aVn:(Rows.eventTruthsMatchSpecUptoRow.plainKeys==Tryz.prog.plainKeys)=true:=rO g_0
theorem g_1:((Tryz.prog.mayEnter)&&(Rows.eventTruthsMatchSpecUptoRow.lifted==Tryz.prog.liftsFinal))=true:=by kernel_rfl
theorem c_enter:(Tryz.prog.mayEnter)=true:=(fB g_1)
theorem c_lifted:(Rows.eventTruthsMatchSpecUptoRow.lifted==Tryz.prog.liftsFinal)=true:=rO g_1
theorem g_2:((Rows.eventTruthsMatchSpecUptoRow.wf (OpenSpec.ofChange (OpenSpec.ofChange Rows.eventTruthsMatchSpecSpec).bare))&&(Tryz.f5.params.all (Tryz.prog.readableRec ·))&&(namedTie Tryz.prog Rows.eventTruthsMatchSpecUptoRow.named (OpenSpec.ofChange Rows.eventTruthsMatchSpecSpec).bare.vars)&&(Rows.eventTruthsMatchSpecUptoRow.stops==[])&&(Tryz.prog.stops==[])&&(Rows.eventTruthsMatchSpecUptoRow.knobs==[])&&(Tryz.prog.stopKnobs==[])&&(Rows.eventTruthsMatchSpecUptoRow.maps==(Tryz.f5.params.toList++(OpenSpec.ofChange Rows.eventTruthsMatchSpecSpec).bare.plain.varTypes Tryz.prog).any (Tryz.prog.mapsRec ·))&&(Rows.eventTruthsMatchSpecUptoRow.ifaces==(Tryz.f5.params.toList++(OpenSpec.ofChange Rows.eventTruthsMatchSpecSpec).bare.plain.varTypes Tryz.prog).any (Tryz.prog.ifacesRec ·))&&(Rows.eventTruthsMatchSpecUptoRow.mapsOut==Tryz.prog.mapsAmong Tryz.f5.resultTypes.toList)&&(Rows.eventTruthsMatchSpecUptoRow.loops==(Tryz.f5.params.toList++(OpenSpec.ofChange Rows.eventTruthsMatchSpecSpec).bare.plain.varTypes Tryz.prog).any (Tryz.prog.loopsFrom ·))&&(Rows.eventTruthsMatchSpecUptoRow.wideKeys==(Tryz.f5.params.toList++(OpenSpec.ofChange Rows.eventTruthsMatchSpecSpec).bare.plain.varTypes Tryz.prog++Tryz.f5.resultTypes.toList).any (Tryz.prog.wideKeysFrom ·))&&((OpenSpec.ofChange Rows.eventTruthsMatchSpecSpec).bare.vars.all (Tryz.prog.varReadable ·))&&(Tryz.f5.resultTypes.all (λt=>Tryz.prog.readableRec t&&decide (t<Tryz.prog.types.size)))&&(Rows.eventTruthsMatchSpecUptoRow.ifacesOut==Tryz.f5.resultTypes.toList.any (Tryz.prog.ifacesRec ·))&&(Rows.eventTruthsMatchSpecUptoRow.loopsOut==Tryz.f5.resultTypes.toList.any (Tryz.prog.loopsFrom ·))&&(Rows.eventTruthsMatchSpecUptoRow.shortTexts.isNone)&&(Tryz.prog.make==some Rows.eventTruthsMatchSpecUptoRow.make)&&(Rows.eventTruthsMatchSpecUptoRow.kinds==(if Rows.eventTruthsMatchSpecUptoRow.domain.isEmpty then []else Tryz.f5.params.toList.map λt=>match Tryz.prog.underlying t with |some (.int k)=>some k|_=>none))&&(Rows.eventTruthsMatchSpecUptoRow.pinned==Rows.eventTruthsMatchSpecUptoRow.pinnedBy)&&(Rows.eventTruthsMatchSpecUptoRow.veiled==(Tryz.f5.params.toList++(OpenSpec.ofChange Rows.eventTruthsMatchSpecSpec).bare.plain.varTypes Tryz.prog++Tryz.f5.resultTypes.toList).any (Tryz.prog.veiledRec ·))&&(Rows.eventTruthsMatchSpecUptoRow.veiledFits Tryz.prog Tryz.f5.params.toList (Tryz.f5.params.toList++(OpenSpec.ofChange Rows.eventTruthsMatchSpecSpec).bare.plain.varTypes Tryz.prog++Tryz.f5.resultTypes.toList)))=true:=by kernel_rfl
theorem c_wf:(Rows.eventTruthsMatchSpecUptoRow.wf (OpenSpec.ofChange (OpenSpec.ofChange Rows.eventTruthsMatchSpecSpec).bare))=true:=(fB (fB (fB (fB (fB (fB (fB (fB (fB (fB (fB (fB (fB (fB (fB (fB (fB (fB (fB (fB (fB g_2)))))))))))))))))))))
theorem c_params:(Tryz.f5.params.all (Tryz.prog.readableRec ·))=true:=rO (fB (fB (fB (fB (fB (fB (fB (fB (fB (fB (fB (fB (fB (fB (fB (fB (fB (fB (fB (fB g_2))))))))))))))))))))
theorem c_tie:(namedTie Tryz.prog Rows.eventTruthsMatchSpecUptoRow.named (OpenSpec.ofChange Rows.eventTruthsMatchSpecSpec).bare.vars)=true:=rO (fB (fB (fB (fB (fB (fB (fB (fB (fB (fB (fB (fB (fB (fB (fB (fB (fB (fB (fB g_2)))))))))))))))))))
theorem c_stops0:(Rows.eventTruthsMatchSpecUptoRow.stops==[])=true:=rO (fB (fB (fB (fB (fB (fB (fB (fB (fB (fB (fB (fB (fB (fB (fB (fB (fB (fB g_2))))))))))))))))))
theorem c_stops:(Tryz.prog.stops==[])=true:=rO (fB (fB (fB (fB (fB (fB (fB (fB (fB (fB (fB (fB (fB (fB (fB (fB (fB g_2)))))))))))))))))
theorem c_knobs0:(Rows.eventTruthsMatchSpecUptoRow.knobs==[])=true:=rO (fB (fB (fB (fB (fB (fB (fB (fB (fB (fB (fB (fB (fB (fB (fB (fB g_2))))))))))))))))
theorem c_knobs:(Tryz.prog.stopKnobs==[])=true:=rO (fB (fB (fB (fB (fB (fB (fB (fB (fB (fB (fB (fB (fB (fB (fB g_2)))))))))))))))
theorem c_maps:(Rows.eventTruthsMatchSpecUptoRow.maps==(Tryz.f5.params.toList++(OpenSpec.ofChange Rows.eventTruthsMatchSpecSpec).bare.plain.varTypes Tryz.prog).any (Tryz.prog.mapsRec ·))=true:=rO (fB (fB (fB (fB (fB (fB (fB (fB (fB (fB (fB (fB (fB (fB g_2))))))))))))))
theorem c_ifaces:(Rows.eventTruthsMatchSpecUptoRow.ifaces==(Tryz.f5.params.toList++(OpenSpec.ofChange Rows.eventTruthsMatchSpecSpec).bare.plain.varTypes Tryz.prog).any (Tryz.prog.ifacesRec ·))=true:=rO (fB (fB (fB (fB (fB (fB (fB (fB (fB (fB (fB (fB (fB g_2)))))))))))))
theorem c_mapsOut:(Rows.eventTruthsMatchSpecUptoRow.mapsOut==Tryz.prog.mapsAmong Tryz.f5.resultTypes.toList)=true:=rO (fB (fB (fB (fB (fB (fB (fB (fB (fB (fB (fB (fB g_2))))))))))))
theorem c_loops:(Rows.eventTruthsMatchSpecUptoRow.loops==(Tryz.f5.params.toList++(OpenSpec.ofChange Rows.eventTruthsMatchSpecSpec).bare.plain.varTypes Tryz.prog).any (Tryz.prog.loopsFrom ·))=true:=rO (fB (fB (fB (fB (fB (fB (fB (fB (fB (fB (fB g_2)))))))))))
theorem aWm:(Rows.eventTruthsMatchSpecUptoRow.wideKeys==(Tryz.f5.params.toList++(OpenSpec.ofChange Rows.eventTruthsMatchSpecSpec).bare.plain.varTypes Tryz.prog++Tryz.f5.resultTypes.toList).any (Tryz.prog.wideKeysFrom ·))=true:=rO (fB (fB (fB (fB (fB (fB (fB (fB (fB (fB g_2))))))))))
theorem c_vars:((OpenSpec.ofChange Rows.eventTruthsMatchSpecSpec).bare.vars.all (Tryz.prog.varReadable ·))=true:=rO (fB (fB (fB (fB (fB (fB (fB (fB (fB g_2)))))))))
theorem c_results:(Tryz.f5.resultTypes.all (λt=>Tryz.prog.readableRec t&&decide (t<Tryz.prog.types.size)))=true:=rO (fB (fB (fB (fB (fB (fB (fB (fB g_2))))))))
theorem aSj:(Rows.eventTruthsMatchSpecUptoRow.ifacesOut==Tryz.f5.resultTypes.toList.any (Tryz.prog.ifacesRec ·))=true:=rO (fB (fB (fB (fB (fB (fB (fB g_2)))))))
theorem aYf:(Rows.eventTruthsMatchSpecUptoRow.loopsOut==Tryz.f5.resultTypes.toList.any (Tryz.prog.loopsFrom ·))=true:=rO (fB (fB (fB (fB (fB (fB g_2))))))
theorem c_short:(Rows.eventTruthsMatchSpecUptoRow.shortTexts.isNone)=true:=rO (fB (fB (fB (fB (fB g_2)))))
theorem c_make:(Tryz.prog.make==some Rows.eventTruthsMatchSpecUptoRow.make)=true:=rO (fB (fB (fB (fB g_2))))
theorem c_kinds:(Rows.eventTruthsMatchSpecUptoRow.kinds==(if Rows.eventTruthsMatchSpecUptoRow.domain.isEmpty then []else Tryz.f5.params.toList.map λt=>match Tryz.prog.underlying t with |some (.int k)=>some k|_=>none))=true:=rO (fB (fB (fB g_2)))
theorem c_pinned:(Rows.eventTruthsMatchSpecUptoRow.pinned==Rows.eventTruthsMatchSpecUptoRow.pinnedBy)=true:=rO (fB (fB g_2))
theorem c_veiled:(Rows.eventTruthsMatchSpecUptoRow.veiled==(Tryz.f5.params.toList++(OpenSpec.ofChange Rows.eventTruthsMatchSpecSpec).bare.plain.varTypes Tryz.prog++Tryz.f5.resultTypes.toList).any (Tryz.prog.veiledRec ·))=true:=rO (fB g_2)
theorem aQo:(Rows.eventTruthsMatchSpecUptoRow.veiledFits Tryz.prog Tryz.f5.params.toList (Tryz.f5.params.toList++(OpenSpec.ofChange Rows.eventTruthsMatchSpecSpec).bare.plain.varTypes Tryz.prog++Tryz.f5.resultTypes.toList))=true:=rO g_2
set_option maxRecDepth 100000 in
theorem closedF:joinedFacts Tryz.pinned.checked.prog 5 Tryz.f5 (OpenSpec.ofChange Rows.eventTruthsMatchSpecSpec).bare Rows.eventTruthsMatchSpecUptoRow=true:=(qA (qA (qA (qA (qA (qA (qA (qA (qA (qA (qA (qA (qA (qA (qA (qA (qA (qA (qA (qA (qA (qA (qA (qA (qA (qA (qA (qA (qA (qA (qA c_wf aOb) aTs) c_params) c_tie) c_stops0) c_stops) c_knobs0) c_knobs) c_inPlace) aRk) aXx) c_named) c_maps) c_ifaces) c_mapsOut) c_loops) aWm) c_vars) c_results) aSj) aYf) aVn) c_short) c_heard) c_enter) c_lifted) c_make) c_kinds) c_pinned) c_veiled) aQo)
theorem goesF:false=Rows.eventTruthsMatchSpecUptoRow.goesBy Tryz.pinned.checked.prog:=by kernel_rfl
theorem looksF:true=Tryz.pinned.checked.prog.looks []:=by kernel_rfl
end Go.Proofs.YteljpoagacbmoaaGreatDoor.eventTruthsMatchSpec
