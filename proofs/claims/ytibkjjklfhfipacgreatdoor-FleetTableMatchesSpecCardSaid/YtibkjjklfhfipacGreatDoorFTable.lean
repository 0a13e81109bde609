/- Laws that the claim stands on; no condition beyond those stated. -/
import Derived.Test.YtibkjjklfhfipacGreatDoorCards
import Derived.WalkKit
import Derived.ProofKit
import Derived.LaidSub
import Derived.Deep.DeepHandedRow
import Derived.SizedLaws
namespace Go.Proofs.YtibkjjklfhfipacGreatDoor.fleetTableMatchesSpec
open Go.ChangeShapes Go.WideShapes Go.ChangeAt Go.RowKit
theorem qO {a b:Bool}(ha:a=true)(hb:b=true):(a&&b)=true:=by rw [ha,hb];rfl
theorem gZ {a b:Bool}(h:(a&&b)=true):a=true:=by cases a<;>simp_all
theorem rH {a b:Bool}(h:(a&&b)=true):b=true:=by cases a<;>simp_all
theorem g_0:((Rows.fleetTableMatchesSpecRow.inPlace==Tryz.prog.inPlace 3)&&(Rows.fleetTableMatchesSpecRow.unfollowed==Tryz.prog.unfollowed 3)&&(Rows.fleetTableMatchesSpecRow.recurses==Tryz.prog.recurses 3)&&(Rows.fleetTableMatchesSpecRow.named==Tryz.prog.varsNamed 3)&&(laidOutB Tryz.prog)&&(mapsRowed Tryz.prog)&&(Tryz.prog.stopsHeard)&&(Rows.fleetTableMatchesSpecRow.plainKeys==Tryz.prog.plainKeys))=true:=by kernel_rfl
theorem c_inPlace:(Rows.fleetTableMatchesSpecRow.inPlace==Tryz.prog.inPlace 3)=true:=(gZ (gZ (gZ (gZ (gZ (gZ (gZ g_0)))))))
theorem aWh:(Rows.fleetTableMatchesSpecRow.unfollowed==Tryz.prog.unfollowed 3)=true:=rH (gZ (gZ (gZ (gZ (gZ (gZ g_0))))))
theorem bDx:(Rows.fleetTableMatchesSpecRow.recurses==Tryz.prog.recurses 3)=true:=rH (gZ (gZ (gZ (gZ (gZ g_0)))))
theorem c_named:(Rows.fleetTableMatchesSpecRow.named==Tryz.prog.varsNamed 3)=true:=rH (gZ (gZ (gZ (gZ g_0))))
theorem aSv:(laidOutB Tryz.prog)=true:=rH (gZ (gZ (gZ g_0)))
theorem bAu:(mapsRowed Tryz.prog)=true:=rH (gZ (gZ g_0))
theorem c_heard:(Tryz.prog.stopsHeard)=true:=rH (gZ g_0)
theorem bAw:(Rows.fleetTableMatchesSpecRow.plainKeys==Tryz.prog.plainKeys)=true:=rH g_0
theorem g_1:((Tryz.prog.mayEnter)&&(Rows.fleetTableMatchesSpecRow.lifted==Tryz.prog.liftsFinal))=true:=by kernel_rfl
theorem c_enter:(Tryz.prog.mayEnter)=true:=(gZ g_1)
theorem c_lifted:(Rows.fleetTableMatchesSpecRow.lifted==Tryz.prog.liftsFinal)=true:=rH g_1
theorem g_2:((Rows.fleetTableMatchesSpecRow.wf (OpenSpec.ofChange (OpenSpec.ofChange Rows.fleetTableMatchesSpecSpec).bare))&&(Tryz.f3.params.all (Tryz.prog.readableRec ·))&&(namedTie Tryz.prog Rows.fleetTableMatchesSpecRow.named (OpenSpec.ofChange Rows.fleetTableMatchesSpecSpec).bare.vars)&&(Rows.fleetTableMatchesSpecRow.stops==[])&&(Tryz.prog.stops==[])&&(Rows.fleetTableMatchesSpecRow.knobs==[])&&(Tryz.prog.stopKnobs==[])&&(Rows.fleetTableMatchesSpecRow.maps==(Tryz.f3.params.toList++(OpenSpec.ofChange Rows.fleetTableMatchesSpecSpec).bare.plain.varTypes Tryz.prog).any (Tryz.prog.mapsRec ·))&&(Rows.fleetTableMatchesSpecRow.ifaces==(Tryz.f3.params.toList++(OpenSpec.ofChange Rows.fleetTableMatchesSpecSpec).bare.plain.varTypes Tryz.prog).any (Tryz.prog.ifacesRec ·))&&(Rows.fleetTableMatchesSpecRow.mapsOut==Tryz.prog.mapsAmong Tryz.f3.resultTypes.toList)&&(Rows.fleetTableMatchesSpecRow.loops==(Tryz.f3.params.toList++(OpenSpec.ofChange Rows.fleetTableMatchesSpecSpec).bare.plain.varTypes Tryz.prog).any (Tryz.prog.loopsFrom ·))&&(Rows.fleetTableMatchesSpecRow.wideKeys==(Tryz.f3.params.toList++(OpenSpec.ofChange Rows.fleetTableMatchesSpecSpec).bare.plain.varTypes Tryz.prog++Tryz.f3.resultTypes.toList).any (Tryz.prog.wideKeysFrom ·))&&((OpenSpec.ofChange Rows.fleetTableMatchesSpecSpec).bare.vars.all (Tryz.prog.varReadable ·))&&(Tryz.f3.resultTypes.all (λt=>Tryz.prog.readableRec t&&decide (t<Tryz.prog.types.size)))&&(Rows.fleetTableMatchesSpecRow.ifacesOut==Tryz.f3.resultTypes.toList.any (Tryz.prog.ifacesRec ·))&&(Rows.fleetTableMatchesSpecRow.loopsOut==Tryz.f3.resultTypes.toList.any (Tryz.prog.loopsFrom ·))&&(Rows.fleetTableMatchesSpecRow.shortTexts.isNone)&&(Tryz.prog.make==some Rows.fleetTableMatchesSpecRow.make)&&(Rows.fleetTableMatchesSpecRow.kinds==(if Rows.fleetTableMatchesSpecRow.domain.isEmpty then []else Tryz.f3.params.toList.map λt=>match Tryz.prog.underlying t with |some (.int k)=>some k|_=>none))&&(Rows.fleetTableMatchesSpecRow.pinned==Rows.fleetTableMatchesSpecRow.pinnedBy)&&(Rows.fleetTableMatchesSpecRow.veiled==(Tryz.f3.params.toList++(OpenSpec.ofChange Rows.fleetTableMatchesSpecSpec).bare.plain.varTypes Tryz.prog++Tryz.f3.resultTypes.toList).any (Tryz.prog.veiledRec ·))&&(Rows.fleetTableMatchesSpecRow.veiledFits Tryz.prog Tryz.f3.params.toList (Tryz.f3.params.toList++(OpenSpec.ofChange Rows.fleetTableMatchesSpecSpec).bare.plain.varTypes Tryz.prog++Tryz.f3.resultTypes.toList)))=true:=by kernel_rfl
theorem c_wf:(Rows.fleetTableMatchesSpecRow.wf (OpenSpec.ofChange (OpenSpec.ofChange Rows.fleetTableMatchesSpecSpec).bare))=true:=(gZ (gZ (gZ (gZ (gZ (gZ (gZ (gZ (gZ (gZ (gZ (gZ (gZ (gZ (gZ (gZ (gZ (gZ (gZ (gZ (gZ g_2)))))))))))))))))))))
theorem c_params:(Tryz.f3.params.all (Tryz.prog.readableRec ·))=true:=rH (gZ (gZ (gZ (gZ (gZ (gZ (gZ (gZ (gZ (gZ (gZ (gZ (gZ (gZ (gZ (gZ (gZ (gZ (gZ (gZ g_2))))))))))))))))))))
theorem c_tie:(namedTie Tryz.prog Rows.fleetTableMatchesSpecRow.named (OpenSpec.ofChange Rows.fleetTableMatchesSpecSpec).bare.vars)=true:=rH (gZ (gZ (gZ (gZ (gZ (gZ (gZ (gZ (gZ (gZ (gZ (gZ (gZ (gZ (gZ (gZ (gZ (gZ (gZ g_2)))))))))))))))))))
theorem c_stops0:(Rows.fleetTableMatchesSpecRow.stops==[])=true:=rH (gZ (gZ (gZ (gZ (gZ (gZ (gZ (gZ (gZ (gZ (gZ (gZ (gZ (gZ (gZ (gZ (gZ (gZ g_2))))))))))))))))))
theorem c_stops:(Tryz.prog.stops==[])=true:=rH (gZ (gZ (gZ (gZ (gZ (gZ (gZ (gZ (gZ (gZ (gZ (gZ (gZ (gZ (gZ (gZ (gZ g_2)))))))))))))))))
theorem c_knobs0:(Rows.fleetTableMatchesSpecRow.knobs==[])=true:=rH (gZ (gZ (gZ (gZ (gZ (gZ (gZ (gZ (gZ (gZ (gZ (gZ (gZ (gZ (gZ (gZ g_2))))))))))))))))
theorem c_knobs:(Tryz.prog.stopKnobs==[])=true:=rH (gZ (gZ (gZ (gZ (gZ (gZ (gZ (gZ (gZ (gZ (gZ (gZ (gZ (gZ (gZ g_2)))))))))))))))
theorem c_maps:(Rows.fleetTableMatchesSpecRow.maps==(Tryz.f3.params.toList++(OpenSpec.ofChange Rows.fleetTableMatchesSpecSpec).bare.plain.varTypes Tryz.prog).any (Tryz.prog.mapsRec ·))=true:=rH (gZ (gZ (gZ (gZ (gZ (gZ (gZ (gZ (gZ (gZ (gZ (gZ (gZ (gZ g_2))))))))))))))
theorem c_ifaces:(Rows.fleetTableMatchesSpecRow.ifaces==(Tryz.f3.params.toList++(OpenSpec.ofChange Rows.fleetTableMatchesSpecSpec).bare.plain.varTypes Tryz.prog).any (Tryz.prog.ifacesRec ·))=true:=rH (gZ (gZ (gZ (gZ (gZ (gZ (gZ (gZ (gZ (gZ (gZ (gZ (gZ g_2)))))))))))))
theorem c_mapsOut:(Rows.fleetTableMatchesSpecRow.mapsOut==Tryz.prog.mapsAmong Tryz.f3.resultTypes.toList)=true:=rH (gZ (gZ (gZ (gZ (gZ (gZ (gZ (gZ (gZ (gZ (gZ (gZ g_2))))))))))))
theorem c_loops:(Rows.fleetTableMatchesSpecRow.loops==(Tryz.f3.params.toList++(OpenSpec.ofChange Rows.fleetTableMatchesSpecSpec).bare.plain.varTypes Tryz.prog).any (Tryz.prog.loopsFrom ·))=true:=rH (gZ (gZ (gZ (gZ (gZ (gZ (gZ (gZ (gZ (gZ (gZ g_2)))))))))))
theorem bDt:(Rows.fleetTableMatchesSpecRow.wideKeys==(Tryz.f3.params.toList++(OpenSpec.ofChange Rows.fleetTableMatchesSpecSpec).bare.plain.varTypes Tryz.prog++Tryz.f3.resultTypes.toList).any (Tryz.prog.wideKeysFrom ·))=true:=rH (gZ (gZ (gZ (gZ (gZ (gZ (gZ (gZ (gZ (gZ g_2))))))))))
theorem c_vars:((OpenSpec.ofChange Rows.fleetTableMatchesSpecSpec).bare.vars.all (Tryz.prog.varReadable ·))=true:=rH (gZ (gZ (gZ (gZ (gZ (gZ (gZ (gZ (gZ g_2)))))))))
theorem c_results:(Tryz.f3.resultTypes.all (λt=>Tryz.prog.readableRec t&&decide (t<Tryz.prog.types.size)))=true:=rH (gZ (gZ (gZ (gZ (gZ (gZ (gZ (gZ g_2))))))))
theorem bBp:(Rows.fleetTableMatchesSpecRow.ifacesOut==Tryz.f3.resultTypes.toList.any (Tryz.prog.ifacesRec ·))=true:=rH (gZ (gZ (gZ (gZ (gZ (gZ (gZ g_2)))))))
theorem bEg:(Rows.fleetTableMatchesSpecRow.loopsOut==Tryz.f3.resultTypes.toList.any (Tryz.prog.loopsFrom ·))=true:=rH (gZ (gZ (gZ (gZ (gZ (gZ g_2))))))
theorem c_short:(Rows.fleetTableMatchesSpecRow.shortTexts.isNone)=true:=rH (gZ (gZ (gZ (gZ (gZ g_2)))))
theorem c_make:(Tryz.prog.make==some Rows.fleetTableMatchesSpecRow.make)=true:=rH (gZ (gZ (gZ (gZ g_2))))
theorem c_kinds:(Rows.fleetTableMatchesSpecRow.kinds==(if Rows.fleetTableMatchesSpecRow.domain.isEmpty then []else Tryz.f3.params.toList.map λt=>match Tryz.prog.underlying t with |some (.int k)=>some k|_=>none))=true:=rH (gZ (gZ (gZ g_2)))
theorem c_pinned:(Rows.fleetTableMatchesSpecRow.pinned==Rows.fleetTableMatchesSpecRow.pinnedBy)=true:=rH (gZ (gZ g_2))
theorem c_veiled:(Rows.fleetTableMatchesSpecRow.veiled==(Tryz.f3.params.toList++(OpenSpec.ofChange Rows.fleetTableMatchesSpecSpec).bare.plain.varTypes Tryz.prog++Tryz.f3.resultTypes.toList).any (Tryz.prog.veiledRec ·))=true:=rH (gZ g_2)
theorem aWj:(Rows.fleetTableMatchesSpecRow.veiledFits Tryz.prog Tryz.f3.params.toList (Tryz.f3.params.toList++(OpenSpec.ofChange Rows.fleetTableMatchesSpecSpec).bare.plain.varTypes Tryz.prog++Tryz.f3.resultTypes.toList))=true:=rH g_2
set_option maxRecDepth 100000 in
theorem closedF:joinedFacts Tryz.pinned.checked.prog 3 Tryz.f3 (OpenSpec.ofChange Rows.fleetTableMatchesSpecSpec).bare Rows.fleetTableMatchesSpecRow=true:=(qO (qO (qO (qO (qO (qO (qO (qO (qO (qO (qO (qO (qO (qO (qO (qO (qO (qO (qO (qO (qO (qO (qO (qO (qO (qO (qO (qO (qO (qO (qO c_wf aSv) bAu) c_params) c_tie) c_stops0) c_stops) c_knobs0) c_knobs) c_inPlace) aWh) bDx) c_named) c_maps) c_ifaces) c_mapsOut) c_loops) bDt) c_vars) c_results) bBp) bEg) bAw) c_short) c_heard) c_enter) c_lifted) c_make) c_kinds) c_pinned) c_veiled) aWj)
theorem goesF:false=Rows.fleetTableMatchesSpecRow.goesBy Tryz.pinned.checked.prog:=by kernel_rfl
theorem looksF:false=Tryz.pinned.checked.prog.looks []:=by kernel_rfl
end Go.Proofs.YtibkjjklfhfipacGreatDoor.fleetTableMatchesSpec
