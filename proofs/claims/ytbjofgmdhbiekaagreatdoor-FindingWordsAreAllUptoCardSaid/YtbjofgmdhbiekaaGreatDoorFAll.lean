/- Laws that the claim stands on; no condition beyond those stated. -/
import Derived.Test.YtbjofgmdhbiekaaGreatDoorCards
import Derived.WalkKit
import Derived.ProofKit
import Derived.LaidSub
import Derived.Deep.DeepHandedRow
import Derived.SizedLaws
namespace Go.Proofs.YtbjofgmdhbiekaaGreatDoor.findingWordsAreAll
open Go.ChangeShapes Go.WideShapes Go.ChangeAt Go.RowKit
theorem nV {a b:Bool}(ha:a=true)(hb:b=true):(a&&b)=true:=by rw [ha,hb];rfl
theorem gX {a b:Bool}(h:(a&&b)=true):a=true:=by cases a<;>simp_all
theorem qJ {a b:Bool}(h:(a&&b)=true):b=true:=by cases a<;>simp_all
theorem g_0:((Rows.findingWordsAreAllUptoRow.inPlace==Tryz.prog.inPlace 6)&&(Rows.findingWordsAreAllUptoRow.unfollowed==Tryz.prog.unfollowed 6)&&(Rows.findingWordsAreAllUptoRow.recurses==Tryz.prog.recurses 6)&&(Rows.findingWordsAreAllUptoRow.named==Tryz.prog.varsNamed 6)&&(laidOutB Tryz.prog)&&(mapsRowed Tryz.prog)&&(Tryz.prog.stopsHeard)&&(Rows.findingWordsAreAllUptoRow.plainKeys==Tryz.prog.plainKeys))=true:=by kernel_rfl
theorem c_inPlace:(Rows.findingWordsAreAllUptoRow.inPlace==Tryz.prog.inPlace 6)=true:=(gX (gX (gX (gX (gX (gX (gX g_0)))))))
theorem aPx:(Rows.findingWordsAreAllUptoRow.unfollowed==Tryz.prog.unfollowed 6)=true:=qJ (gX (gX (gX (gX (gX (gX g_0))))))
theorem aVa:(Rows.findingWordsAreAllUptoRow.recurses==Tryz.prog.recurses 6)=true:=qJ (gX (gX (gX (gX (gX g_0)))))
theorem c_named:(Rows.findingWordsAreAllUptoRow.named==Tryz.prog.varsNamed 6)=true:=qJ (gX (gX (gX (gX g_0))))
theorem aNs:(laidOutB Tryz.prog)=true:=qJ (gX (gX (gX g_0)))
theorem aSw:(mapsRowed Tryz.prog)=true:=qJ (gX (gX g_0))
theorem c_heard:(Tryz.prog.stopsHeard)=true:=qJ (gX g_0)
theorem aSn:(Rows.findingWordsAreAllUptoRow.plainKeys==Tryz.prog.plainKeys)=true:=qJ g_0
theorem g_1:((Tryz.prog.mayEnter)&&(Rows.findingWordsAreAllUptoRow.lifted==Tryz.prog.liftsFinal))=true:=by kernel_rfl
theorem c_enter:(Tryz.prog.mayEnter)=true:=(gX g_1)
theorem c_lifted:(Rows.findingWordsAreAllUptoRow.lifted==Tryz.prog.liftsFinal)=true:=qJ g_1
theorem g_2:((Rows.findingWordsAreAllUptoRow.wf (OpenSpec.ofChange (OpenSpec.ofChange Rows.findingWordsAreAllSpec).bare))&&(Tryz.f6.params.all (Tryz.prog.readableRec ·))&&(namedTie Tryz.prog Rows.findingWordsAreAllUptoRow.named (OpenSpec.ofChange Rows.findingWordsAreAllSpec).bare.vars)&&(Rows.findingWordsAreAllUptoRow.stops==[])&&(Tryz.prog.stops==[])&&(Rows.findingWordsAreAllUptoRow.knobs==[])&&(Tryz.prog.stopKnobs==[])&&(Rows.findingWordsAreAllUptoRow.maps==(Tryz.f6.params.toList++(OpenSpec.ofChange Rows.findingWordsAreAllSpec).bare.plain.varTypes Tryz.prog).any (Tryz.prog.mapsRec ·))&&(Rows.findingWordsAreAllUptoRow.ifaces==(Tryz.f6.params.toList++(OpenSpec.ofChange Rows.findingWordsAreAllSpec).bare.plain.varTypes Tryz.prog).any (Tryz.prog.ifacesRec ·))&&(Rows.findingWordsAreAllUptoRow.mapsOut==Tryz.prog.mapsAmong Tryz.f6.resultTypes.toList)&&(Rows.findingWordsAreAllUptoRow.loops==(Tryz.f6.params.toList++(OpenSpec.ofChange Rows.findingWordsAreAllSpec).bare.plain.varTypes Tryz.prog).any (Tryz.prog.loopsFrom ·))&&(Rows.findingWordsAreAllUptoRow.wideKeys==(Tryz.f6.params.toList++(OpenSpec.ofChange Rows.findingWordsAreAllSpec).bare.plain.varTypes Tryz.prog++Tryz.f6.resultTypes.toList).any (Tryz.prog.wideKeysFrom ·))&&((OpenSpec.ofChange Rows.findingWordsAreAllSpec).bare.vars.all (Tryz.prog.varReadable ·))&&(Tryz.f6.resultTypes.all (λt=>Tryz.prog.readableRec t&&decide (t<Tryz.prog.types.size)))&&(Rows.findingWordsAreAllUptoRow.ifacesOut==Tryz.f6.resultTypes.toList.any (Tryz.prog.ifacesRec ·))&&(Rows.findingWordsAreAllUptoRow.loopsOut==Tryz.f6.resultTypes.toList.any (Tryz.prog.loopsFrom ·))&&(Rows.findingWordsAreAllUptoRow.shortTexts.isNone)&&(Tryz.prog.make==some Rows.findingWordsAreAllUptoRow.make)&&(Rows.findingWordsAreAllUptoRow.kinds==(if Rows.findingWordsAreAllUptoRow.domain.isEmpty then []else Tryz.f6.params.toList.map λt=>match Tryz.prog.underlying t with |some (.int k)=>some k|_=>none))&&(Rows.findingWordsAreAllUptoRow.pinned==Rows.findingWordsAreAllUptoRow.pinnedBy)&&(Rows.findingWordsAreAllUptoRow.veiled==(Tryz.f6.params.toList++(OpenSpec.ofChange Rows.findingWordsAreAllSpec).bare.plain.varTypes Tryz.prog++Tryz.f6.resultTypes.toList).any (Tryz.prog.veiledRec ·))&&(Rows.findingWordsAreAllUptoRow.veiledFits Tryz.prog Tryz.f6.params.toList (Tryz.f6.params.toList++(OpenSpec.ofChange Rows.findingWordsAreAllSpec).bare.plain.varTypes Tryz.prog++Tryz.f6.resultTypes.toList)))=true:=by kernel_rfl
theorem c_wf:(Rows.findingWordsAreAllUptoRow.wf (OpenSpec.ofChange (OpenSpec.ofChange Rows.findingWordsAreAllSpec).bare))=true:=(gX (gX (gX (gX (gX (gX (gX (gX (gX (gX (gX (gX (gX (gX (gX (gX (gX (gX (gX (gX (gX g_2)))))))))))))))))))))
theorem c_params:(Tryz.f6.params.all (Tryz.prog.readableRec ·))=true:=qJ (gX (gX (gX (gX (gX (gX (gX (gX (gX (gX (gX (gX (gX (gX (gX (gX (gX (gX (gX (gX g_2))))))))))))))))))))
theorem c_tie:(namedTie Tryz.prog Rows.findingWordsAreAllUptoRow.named (OpenSpec.ofChange Rows.findingWordsAreAllSpec).bare.vars)=true:=qJ (gX (gX (gX (gX (gX (gX (gX (gX (gX (gX (gX (gX (gX (gX (gX (gX (gX (gX (gX g_2)))))))))))))))))))
theorem c_stops0:(Rows.findingWordsAreAllUptoRow.stops==[])=true:=qJ (gX (gX (gX (gX (gX (gX (gX (gX (gX (gX (gX (gX (gX (gX (gX (gX (gX (gX g_2))))))))))))))))))
theorem c_stops:(Tryz.prog.stops==[])=true:=qJ (gX (gX (gX (gX (gX (gX (gX (gX (gX (gX (gX (gX (gX (gX (gX (gX (gX g_2)))))))))))))))))
theorem c_knobs0:(Rows.findingWordsAreAllUptoRow.knobs==[])=true:=qJ (gX (gX (gX (gX (gX (gX (gX (gX (gX (gX (gX (gX (gX (gX (gX (gX g_2))))))))))))))))
theorem c_knobs:(Tryz.prog.stopKnobs==[])=true:=qJ (gX (gX (gX (gX (gX (gX (gX (gX (gX (gX (gX (gX (gX (gX (gX g_2)))))))))))))))
theorem c_maps:(Rows.findingWordsAreAllUptoRow.maps==(Tryz.f6.params.toList++(OpenSpec.ofChange Rows.findingWordsAreAllSpec).bare.plain.varTypes Tryz.prog).any (Tryz.prog.mapsRec ·))=true:=qJ (gX (gX (gX (gX (gX (gX (gX (gX (gX (gX (gX (gX (gX (gX g_2))))))))))))))
theorem c_ifaces:(Rows.findingWordsAreAllUptoRow.ifaces==(Tryz.f6.params.toList++(OpenSpec.ofChange Rows.findingWordsAreAllSpec).bare.plain.varTypes Tryz.prog).any (Tryz.prog.ifacesRec ·))=true:=qJ (gX (gX (gX (gX (gX (gX (gX (gX (gX (gX (gX (gX (gX g_2)))))))))))))
theorem c_mapsOut:(Rows.findingWordsAreAllUptoRow.mapsOut==Tryz.prog.mapsAmong Tryz.f6.resultTypes.toList)=true:=qJ (gX (gX (gX (gX (gX (gX (gX (gX (gX (gX (gX (gX g_2))))))))))))
theorem c_loops:(Rows.findingWordsAreAllUptoRow.loops==(Tryz.f6.params.toList++(OpenSpec.ofChange Rows.findingWordsAreAllSpec).bare.plain.varTypes Tryz.prog).any (Tryz.prog.loopsFrom ·))=true:=qJ (gX (gX (gX (gX (gX (gX (gX (gX (gX (gX (gX g_2)))))))))))
theorem aXn:(Rows.findingWordsAreAllUptoRow.wideKeys==(Tryz.f6.params.toList++(OpenSpec.ofChange Rows.findingWordsAreAllSpec).bare.plain.varTypes Tryz.prog++Tryz.f6.resultTypes.toList).any (Tryz.prog.wideKeysFrom ·))=true:=qJ (gX (gX (gX (gX (gX (gX (gX (gX (gX (gX g_2))))))))))
theorem c_vars:((OpenSpec.ofChange Rows.findingWordsAreAllSpec).bare.vars.all (Tryz.prog.varReadable ·))=true:=qJ (gX (gX (gX (gX (gX (gX (gX (gX (gX g_2)))))))))
theorem c_results:(Tryz.f6.resultTypes.all (λt=>Tryz.prog.readableRec t&&decide (t<Tryz.prog.types.size)))=true:=qJ (gX (gX (gX (gX (gX (gX (gX (gX g_2))))))))
theorem aSo:(Rows.findingWordsAreAllUptoRow.ifacesOut==Tryz.f6.resultTypes.toList.any (Tryz.prog.ifacesRec ·))=true:=qJ (gX (gX (gX (gX (gX (gX (gX g_2)))))))
theorem aWr:(Rows.findingWordsAreAllUptoRow.loopsOut==Tryz.f6.resultTypes.toList.any (Tryz.prog.loopsFrom ·))=true:=qJ (gX (gX (gX (gX (gX (gX g_2))))))
theorem c_short:(Rows.findingWordsAreAllUptoRow.shortTexts.isNone)=true:=qJ (gX (gX (gX (gX (gX g_2)))))
theorem c_make:(Tryz.prog.make==some Rows.findingWordsAreAllUptoRow.make)=true:=qJ (gX (gX (gX (gX g_2))))
theorem c_kinds:(Rows.findingWordsAreAllUptoRow.kinds==(if Rows.findingWordsAreAllUptoRow.domain.isEmpty then []else Tryz.f6.params.toList.map λt=>match Tryz.prog.underlying t with |some (.int k)=>some k|_=>none))=true:=qJ (gX (gX (gX g_2)))
theorem c_pinned:(Rows.findingWordsAreAllUptoRow.pinned==Rows.findingWordsAreAllUptoRow.pinnedBy)=true:=qJ (gX (gX g_2))
theorem c_veiled:(Rows.findingWordsAreAllUptoRow.veiled==(Tryz.f6.params.toList++(OpenSpec.ofChange Rows.findingWordsAreAllSpec).bare.plain.varTypes Tryz.prog++Tryz.f6.resultTypes.toList).any (Tryz.prog.veiledRec ·))=true:=qJ (gX g_2)
theorem aOr:(Rows.findingWordsAreAllUptoRow.veiledFits Tryz.prog Tryz.f6.params.toList (Tryz.f6.params.toList++(OpenSpec.ofChange Rows.findingWordsAreAllSpec).bare.plain.varTypes Tryz.prog++Tryz.f6.resultTypes.toList))=true:=qJ g_2
set_option maxRecDepth 100000 in
theorem closedF:joinedFacts Tryz.pinned.checked.prog 6 Tryz.f6 (OpenSpec.ofChange Rows.findingWordsAreAllSpec).bare Rows.findingWordsAreAllUptoRow=true:=(nV (nV (nV (nV (nV (nV (nV (nV (nV (nV (nV (nV (nV (nV (nV (nV (nV (nV (nV (nV (nV (nV (nV (nV (nV (nV (nV (nV (nV (nV (nV c_wf aNs) aSw) c_params) c_tie) c_stops0) c_stops) c_knobs0) c_knobs) c_inPlace) aPx) aVa) c_named) c_maps) c_ifaces) c_mapsOut) c_loops) aXn) c_vars) c_results) aSo) aWr) aSn) c_short) c_heard) c_enter) c_lifted) c_make) c_kinds) c_pinned) c_veiled) aOr)
theorem goesF:false=Rows.findingWordsAreAllUptoRow.goesBy Tryz.pinned.checked.prog:=by kernel_rfl
theorem looksF:true=Tryz.pinned.checked.prog.looks []:=by kernel_rfl
end Go.Proofs.YtbjofgmdhbiekaaGreatDoor.findingWordsAreAll
