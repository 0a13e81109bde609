/- Laws that the claim stands on; no condition beyond those stated. -/
import Derived.Test.YtnccbhdmemheeaaGreatDoorCards
import Derived.WalkKit
import Derived.ProofKit
import Derived.LaidSub
import Derived.Deep.DeepHandedRow
import Derived.SizedLaws
namespace Go.Proofs.YtnccbhdmemheeaaGreatDoor.eventWatchMatchesSpec
open Go.ChangeShapes Go.WideShapes Go.ChangeAt Go.RowKit
theorem qJ {a b:Bool}(ha:a=true)(hb:b=true):(a&&b)=true:=by rw [ha,hb];rfl
theorem fB {a b:Bool}(h:(a&&b)=true):a=true:=by cases a<;>simp_all
theorem rM {a b:Bool}(h:(a&&b)=true):b=true:=by cases a<;>simp_all
theorem g_0:((Rows.eventWatchMatchesSpecRow.inPlace==Tryz.prog.inPlace 3)&&(Rows.eventWatchMatchesSpecRow.unfollowed==Tryz.prog.unfollowed 3)&&(Rows.eventWatchMatchesSpecRow.recurses==Tryz.prog.recurses 3)&&(Rows.eventWatchMatchesSpecRow.named==Tryz.prog.varsNamed 3)&&(laidOutB Tryz.prog)&&(mapsRowed Tryz.prog)&&(Tryz.prog.stopsHeard)&&(Rows.eventWatchMatchesSpecRow.plainKeys==Tryz.prog.plainKeys))=true:=by kernel_rfl
theorem c_inPlace:(Rows.eventWatchMatchesSpecRow.inPlace==Tryz.prog.inPlace 3)=true:=(fB (fB (fB (fB (fB (fB (fB g_0)))))))
theorem aSe:(Rows.eventWatchMatchesSpecRow.unfollowed==Tryz.prog.unfollowed 3)=true:=rM (fB (fB (fB (fB (fB (fB g_0))))))
theorem aXl:(Rows.eventWatchMatchesSpecRow.recurses==Tryz.prog.recurses 3)=true:=rM (fB (fB (fB (fB (fB g_0)))))
theorem c_named:(Rows.eventWatchMatchesSpecRow.named==Tryz.prog.varsNamed 3)=true:=rM (fB (fB (fB (fB g_0))))
theorem aOv:(laidOutB Tryz.prog)=true:=rM (fB (fB (fB g_0)))
theorem aUp:(mapsRowed Tryz.prog)=true:=rM (fB (fB g_0))
theorem c_heard:(Tryz.prog.stopsHeard)=true:=rM (fB g_0)
theorem aTj:(Rows.eventWatchMatchesSpecRow.plainKeys==Tryz.prog.plainKeys)=true:=rM g_0
theorem g_1:((Tryz.prog.mayEnter)&&(Rows.eventWatchMatchesSpecRow.lifted==Tryz.prog.liftsFinal))=true:=by kernel_rfl
theorem c_enter:(Tryz.prog.mayEnter)=true:=(fB g_1)
theorem c_lifted:(Rows.eventWatchMatchesSpecRow.lifted==Tryz.prog.liftsFinal)=true:=rM g_1
theorem g_2:((Rows.eventWatchMatchesSpecRow.wf (OpenSpec.ofChange (OpenSpec.ofChange Rows.eventWatchMatchesSpecSpec).bare))&&(Tryz.f3.params.all (Tryz.prog.readableRec ·))&&(namedTie Tryz.prog Rows.eventWatchMatchesSpecRow.named (OpenSpec.ofChange Rows.eventWatchMatchesSpecSpec).bare.vars)&&(Rows.eventWatchMatchesSpecRow.stops==[])&&(Tryz.prog.stops==[])&&(Rows.eventWatchMatchesSpecRow.knobs==[])&&(Tryz.prog.stopKnobs==[])&&(Rows.eventWatchMatchesSpecRow.maps==(Tryz.f3.params.toList++(OpenSpec.ofChange Rows.eventWatchMatchesSpecSpec).bare.plain.varTypes Tryz.prog).any (Tryz.prog.mapsRec ·))&&(Rows.eventWatchMatchesSpecRow.ifaces==(Tryz.f3.params.toList++(OpenSpec.ofChange Rows.eventWatchMatchesSpecSpec).bare.plain.varTypes Tryz.prog).any (Tryz.prog.ifacesRec ·))&&(Rows.eventWatchMatchesSpecRow.mapsOut==Tryz.prog.mapsAmong Tryz.f3.resultTypes.toList)&&(Rows.eventWatchMatchesSpecRow.loops==(Tryz.f3.params.toList++(OpenSpec.ofChange Rows.eventWatchMatchesSpecSpec).bare.plain.varTypes Tryz.prog).any (Tryz.prog.loopsFrom ·))&&(Rows.eventWatchMatchesSpecRow.wideKeys==(Tryz.f3.params.toList++(OpenSpec.ofChange Rows.eventWatchMatchesSpecSpec).bare.plain.varTypes Tryz.prog++Tryz.f3.resultTypes.toList).any (Tryz.prog.wideKeysFrom ·))&&((OpenSpec.ofChange Rows.eventWatchMatchesSpecSpec).bare.vars.all (Tryz.prog.varReadable ·))&&(Tryz.f3.resultTypes.all (λt=>Tryz.prog.readableRec t&&decide (t<Tryz.prog.types.size)))&&(Rows.eventWatchMatchesSpecRow.ifacesOut==Tryz.f3.resultTypes.toList.any (Tryz.prog.ifacesRec ·))&&(Rows.eventWatchMatchesSpecRow.loopsOut==Tryz.f3.resultTypes.toList.any (Tryz.prog.loopsFrom ·))&&(Rows.eventWatchMatchesSpecRow.shortTexts.isNone)&&(Tryz.prog.make==some Rows.eventWatchMatchesSpecRow.make)&&(Rows.eventWatchMatchesSpecRow.kinds==(if Rows.eventWatchMatchesSpecRow.domain.isEmpty then []else Tryz.f3.params.toList.map λt=>match Tryz.prog.underlying t with |some (.int k)=>some k|_=>none))&&(Rows.eventWatchMatchesSpecRow.pinned==Rows.eventWatchMatchesSpecRow.pinnedBy)&&(Rows.eventWatchMatchesSpecRow.veiled==(Tryz.f3.params.toList++(OpenSpec.ofChange Rows.eventWatchMatchesSpecSpec).bare.plain.varTypes Tryz.prog++Tryz.f3.resultTypes.toList).any (Tryz.prog.veiledRec ·))&&(Rows.eventWatchMatchesSpecRow.veiledFits Tryz.prog Tryz.f3.params.toList (Tryz.f3.params.toList++(OpenSpec.ofChange Rows.eventWatchMatchesSpecSpec).bare.plain.varTypes Tryz.prog++Tryz.f3.resultTypes.toList)))=true:=by kernel_rfl
theorem c_wf:(Rows.eventWatchMatchesSpecRow.wf (OpenSpec.ofChange (OpenSpec.ofChange Rows.eventWatchMatchesSpecSpec).bare))=true:=(fB (fB (fB (fB (fB (fB (fB (fB (fB (fB (fB (fB (fB (fB (fB (fB (fB (fB (fB (fB (fB g_2)))))))))))))))))))))
theorem c_params:(Tryz.f3.params.all (Tryz.prog.readableRec ·))=true:=rM (fB (fB (fB (fB (fB (fB (fB (fB (fB (fB (fB (fB (fB (fB (fB (fB (fB (fB (fB (fB g_2))))))))))))))))))))
theorem c_tie:(namedTie Tryz.prog Rows.eventWatchMatchesSpecRow.named (OpenSpec.ofChange Rows.eventWatchMatchesSpecSpec).bare.vars)=true:=rM (fB (fB (fB (fB (fB (fB (fB (fB (fB (fB (fB (fB (fB (fB (fB (fB (fB (fB (fB g_2)))))))))))))))))))
theorem c_stops0:(Rows.eventWatchMatchesSpecRow.stops==[])=true:=rM (fB (fB (fB (fB (fB (fB (fB (fB (fB (fB (fB (fB (fB (fB (fB (fB (fB (fB g_2))))))))))))))))))
theorem c_stops:(Tryz.prog.stops==[])=true:=rM (fB (fB (fB (fB (fB (fB (fB (fB (fB (fB (fB (fB (fB (fB (fB (fB (fB g_2)))))))))))))))))
theorem c_knobs0:(Rows.eventWatchMatchesSpecRow.knobs==[])=true:=rM (fB (fB (fB (fB (fB (fB (fB (fB (fB (fB (fB (fB (fB (fB (fB (fB g_2))))))))))))))))
theorem c_knobs:(Tryz.prog.stopKnobs==[])=true:=rM (fB (fB (fB (fB (fB (fB (fB (fB (fB (fB (fB (fB (fB (fB (fB g_2)))))))))))))))
theorem c_maps:(Rows.eventWatchMatchesSpecRow.maps==(Tryz.f3.params.toList++(OpenSpec.ofChange Rows.eventWatchMatchesSpecSpec).bare.plain.varTypes Tryz.prog).any (Tryz.prog.mapsRec ·))=true:=rM (fB (fB (fB (fB (fB (fB (fB (fB (fB (fB (fB (fB (fB (fB g_2))))))))))))))
theorem c_ifaces:(Rows.eventWatchMatchesSpecRow.ifaces==(Tryz.f3.params.toList++(OpenSpec.ofChange Rows.eventWatchMatchesSpecSpec).bare.plain.varTypes Tryz.prog).any (Tryz.prog.ifacesRec ·))=true:=rM (fB (fB (fB (fB (fB (fB (fB (fB (fB (fB (fB (fB (fB g_2)))))))))))))
theorem c_mapsOut:(Rows.eventWatchMatchesSpecRow.mapsOut==Tryz.prog.mapsAmong Tryz.f3.resultTypes.toList)=true:=rM (fB (fB (fB (fB (fB (fB (fB (fB (fB (fB (fB (fB g_2))))))))))))
theorem c_loops:(Rows.eventWatchMatchesSpecRow.loops==(Tryz.f3.params.toList++(OpenSpec.ofChange Rows.eventWatchMatchesSpecSpec).bare.plain.varTypes Tryz.prog).any (Tryz.prog.loopsFrom ·))=true:=rM (fB (fB (fB (fB (fB (fB (fB (fB (fB (fB (fB g_2)))))))))))
theorem aXy:(Rows.eventWatchMatchesSpecRow.wideKeys==(Tryz.f3.params.toList++(OpenSpec.ofChange Rows.eventWatchMatchesSpecSpec).bare.plain.varTypes Tryz.prog++Tryz.f3.resultTypes.toList).any (Tryz.prog.wideKeysFrom ·))=true:=rM (fB (fB (fB (fB (fB (fB (fB (fB (fB (fB g_2))))))))))
theorem c_vars:((OpenSpec.ofChange Rows.eventWatchMatchesSpecSpec).bare.vars.all (Tryz.prog.varReadable ·))=true:=rM (fB (fB (fB (fB (fB (fB (fB (fB (fB g_2)))))))))
theorem c_results:(Tryz.f3.resultTypes.all (λt=>Tryz.prog.readableRec t&&decide (t<Tryz.prog.types.size)))=true:=rM (fB (fB (fB (fB (fB (fB (fB (fB g_2))))))))
theorem aTr:(Rows.eventWatchMatchesSpecRow.ifacesOut==Tryz.f3.resultTypes.toList.any (Tryz.prog.ifacesRec ·))=true:=rM (fB (fB (fB (fB (fB (fB (fB g_2)))))))
theorem aWp:(Rows.eventWatchMatchesSpecRow.loopsOut==Tryz.f3.resultTypes.toList.any (Tryz.prog.loopsFrom ·))=true:=rM (fB (fB (fB (fB (fB (fB g_2))))))
theorem c_short:(Rows.eventWatchMatchesSpecRow.shortTexts.isNone)=true:=rM (fB (fB (fB (fB (fB g_2)))))
theorem c_make:(Tryz.prog.make==some Rows.eventWatchMatchesSpecRow.make)=true:=rM (fB (fB (fB (fB g_2))))
theorem c_kinds:(Rows.eventWatchMatchesSpecRow.kinds==(if Rows.eventWatchMatchesSpecRow.domain.isEmpty then []else Tryz.f3.params.toList.map λt=>match Tryz.prog.underlying t with |some (.int k)=>some k|_=>none))=true:=rM (fB (fB (fB g_2)))
theorem c_pinned:(Rows.eventWatchMatchesSpecRow.pinned==Rows.eventWatchMatchesSpecRow.pinnedBy)=true:=rM (fB (fB g_2))
theorem c_veiled:(Rows.eventWatchMatchesSpecRow.veiled==(Tryz.f3.params.toList++(OpenSpec.ofChange Rows.eventWatchMatchesSpecSpec).bare.plain.varTypes Tryz.prog++Tryz.f3.resultTypes.toList).any (Tryz.prog.veiledRec ·))=true:=rM (fB g_2)
theorem aQx:(Rows.eventWatchMatchesSpecRow.veiledFits Tryz.prog Tryz.f3.params.toList (Tryz.f3.params.toList++(OpenSpec.ofChange Rows.eventWatchMatchesSpecSpec).bare.plain.varTypes Tryz.prog++Tryz.f3.resultTypes.toList))=true:=rM g_2
set_option maxRecDepth 100000 in
theorem closedF:joinedFacts Tryz.pinned.checked.prog 3 Tryz.f3 (OpenSpec.ofChange Rows.eventWatchMatchesSpecSpec).bare Rows.eventWatchMatchesSpecRow=true:=(qJ (qJ (qJ (qJ (qJ (qJ (qJ (qJ (qJ (qJ (qJ (qJ (qJ (qJ (qJ (qJ (qJ (qJ (qJ (qJ (qJ (qJ (qJ (qJ (qJ (qJ (qJ (qJ (qJ (qJ (qJ c_wf aOv) aUp) c_params) c_tie) c_stops0) c_stops) c_knobs0) c_knobs) c_inPlace) aSe) aXl) c_named) c_maps) c_ifaces) c_mapsOut) c_loops) aXy) c_vars) c_results) aTr) aWp) aTj) c_short) c_heard) c_enter) c_lifted) c_make) c_kinds) c_pinned) c_veiled) aQx)
theorem goesF:false=Rows.eventWatchMatchesSpecRow.goesBy Tryz.pinned.checked.prog:=by kernel_rfl
theorem looksF:true=Tryz.pinned.checked.prog.looks []:=by kernel_rfl
end Go.Proofs.YtnccbhdmemheeaaGreatDoor.eventWatchMatchesSpec
