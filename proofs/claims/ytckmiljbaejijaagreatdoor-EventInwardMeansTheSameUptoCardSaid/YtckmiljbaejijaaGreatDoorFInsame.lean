/- What the walks and the laws stand on; no condition but those that stand in the statements. -/
import Derived.Test.YtckmiljbaejijaaGreatDoorCards
import Derived.WalkKit
import Derived.ProofKit
import Derived.LaidSub
import Derived.Deep.DeepHandedRow
import Derived.SizedLaws
namespace Go.Proofs.YtckmiljbaejijaaGreatDoor.eventInwardMeansTheSame
open Go.ChangeShapes Go.WideShapes Go.ChangeAt Go.RowKit
theorem kX {a b:Bool}(ha:a=true)(hb:b=true):(a && b)=true:=by rw [ha,hb]; rfl
theorem fD {a b:Bool}(h:(a && b)=true):a=true:=by cases a<;>simp_all
theorem jP {a b:Bool}(h:(a && b)=true):b=true:=by cases a<;>simp_all
theorem g_0:((Rows.eventInwardMeansTheSameUptoRow.inPlace==Tryz.prog.inPlace 13) && (Rows.eventInwardMeansTheSameUptoRow.unfollowed==Tryz.prog.unfollowed 13) && (Rows.eventInwardMeansTheSameUptoRow.recurses==Tryz.prog.recurses 13) && (Rows.eventInwardMeansTheSameUptoRow.named==Tryz.prog.varsNamed 13) && (laidOutB Tryz.prog) && (mapsRowed Tryz.prog) && (Tryz.prog.stopsHeard) && (Rows.eventInwardMeansTheSameUptoRow.plainKeys==Tryz.prog.plainKeys))=true:=by kernel_rfl
theorem c_inPlace:(Rows.eventInwardMeansTheSameUptoRow.inPlace==Tryz.prog.inPlace 13)=true:=(fD (fD (fD (fD (fD (fD (fD g_0)))))))
theorem aKn:(Rows.eventInwardMeansTheSameUptoRow.unfollowed==Tryz.prog.unfollowed 13)=true:=jP (fD (fD (fD (fD (fD (fD g_0))))))
theorem aQc:(Rows.eventInwardMeansTheSameUptoRow.recurses==Tryz.prog.recurses 13)=true:=jP (fD (fD (fD (fD (fD g_0)))))
theorem c_named:(Rows.eventInwardMeansTheSameUptoRow.named==Tryz.prog.varsNamed 13)=true:=jP (fD (fD (fD (fD g_0))))
theorem aHr:(laidOutB Tryz.prog)=true:=jP (fD (fD (fD g_0)))
theorem aNs:(mapsRowed Tryz.prog)=true:=jP (fD (fD g_0))
theorem c_heard:(Tryz.prog.stopsHeard)=true:=jP (fD g_0)
theorem aMs:(Rows.eventInwardMeansTheSameUptoRow.plainKeys==Tryz.prog.plainKeys)=true:=jP g_0
theorem g_1:((Tryz.prog.mayEnter) && (Rows.eventInwardMeansTheSameUptoRow.lifted==Tryz.prog.liftsFinal))=true:=by kernel_rfl
theorem c_enter:(Tryz.prog.mayEnter)=true:=(fD g_1)
theorem c_lifted:(Rows.eventInwardMeansTheSameUptoRow.lifted==Tryz.prog.liftsFinal)=true:=jP g_1
theorem g_2:((Rows.eventInwardMeansTheSameUptoRow.wf (OpenSpec.ofChange (OpenSpec.ofChange Rows.eventInwardMeansTheSameSpec).bare)) && (Tryz.f13.params.all (Tryz.prog.readableRec ·)) && (namedTie Tryz.prog Rows.eventInwardMeansTheSameUptoRow.named (OpenSpec.ofChange Rows.eventInwardMeansTheSameSpec).bare.vars) && (Rows.eventInwardMeansTheSameUptoRow.stops== []) && (Tryz.prog.stops== []) && (Rows.eventInwardMeansTheSameUptoRow.knobs== []) && (Tryz.prog.stopKnobs== []) && (Rows.eventInwardMeansTheSameUptoRow.maps==(Tryz.f13.params.toList++(OpenSpec.ofChange Rows.eventInwardMeansTheSameSpec).bare.plain.varTypes Tryz.prog).any (Tryz.prog.mapsRec ·)) && (Rows.eventInwardMeansTheSameUptoRow.ifaces==(Tryz.f13.params.toList++(OpenSpec.ofChange Rows.eventInwardMeansTheSameSpec).bare.plain.varTypes Tryz.prog).any (Tryz.prog.ifacesRec ·)) && (Rows.eventInwardMeansTheSameUptoRow.mapsOut==Tryz.prog.mapsAmong Tryz.f13.resultTypes.toList) && (Rows.eventInwardMeansTheSameUptoRow.loops==(Tryz.f13.params.toList++(OpenSpec.ofChange Rows.eventInwardMeansTheSameSpec).bare.plain.varTypes Tryz.prog).any (Tryz.prog.loopsFrom ·)) && (Rows.eventInwardMeansTheSameUptoRow.wideKeys==(Tryz.f13.params.toList++(OpenSpec.ofChange Rows.eventInwardMeansTheSameSpec).bare.plain.varTypes Tryz.prog++Tryz.f13.resultTypes.toList).any (Tryz.prog.wideKeysFrom ·)) && ((OpenSpec.ofChange Rows.eventInwardMeansTheSameSpec).bare.vars.all (Tryz.prog.varReadable ·)) && (Tryz.f13.resultTypes.all (fun t=>Tryz.prog.readableRec t && decide (t<Tryz.prog.types.size))) && (Rows.eventInwardMeansTheSameUptoRow.ifacesOut==Tryz.f13.resultTypes.toList.any (Tryz.prog.ifacesRec ·)) && (Rows.eventInwardMeansTheSameUptoRow.loopsOut==Tryz.f13.resultTypes.toList.any (Tryz.prog.loopsFrom ·)) && (Rows.eventInwardMeansTheSameUptoRow.shortTexts.isNone) && (Tryz.prog.make==some Rows.eventInwardMeansTheSameUptoRow.make) && (Rows.eventInwardMeansTheSameUptoRow.kinds==(if Rows.eventInwardMeansTheSameUptoRow.domain.isEmpty then [] else Tryz.f13.params.toList.map fun t=>match Tryz.prog.underlying t with | some (.int k)=>some k | _=>none)) && (Rows.eventInwardMeansTheSameUptoRow.pinned==Rows.eventInwardMeansTheSameUptoRow.pinnedBy) && (Rows.eventInwardMeansTheSameUptoRow.veiled==(Tryz.f13.params.toList++(OpenSpec.ofChange Rows.eventInwardMeansTheSameSpec).bare.plain.varTypes Tryz.prog++Tryz.f13.resultTypes.toList).any (Tryz.prog.veiledRec ·)) && (Rows.eventInwardMeansTheSameUptoRow.veiledFits Tryz.prog Tryz.f13.params.toList (Tryz.f13.params.toList++(OpenSpec.ofChange Rows.eventInwardMeansTheSameSpec).bare.plain.varTypes Tryz.prog++Tryz.f13.resultTypes.toList)))=true:=by kernel_rfl
theorem c_wf:(Rows.eventInwardMeansTheSameUptoRow.wf (OpenSpec.ofChange (OpenSpec.ofChange Rows.eventInwardMeansTheSameSpec).bare))=true:=(fD (fD (fD (fD (fD (fD (fD (fD (fD (fD (fD (fD (fD (fD (fD (fD (fD (fD (fD (fD (fD g_2)))))))))))))))))))))
theorem c_params:(Tryz.f13.params.all (Tryz.prog.readableRec ·))=true:=jP (fD (fD (fD (fD (fD (fD (fD (fD (fD (fD (fD (fD (fD (fD (fD (fD (fD (fD (fD (fD g_2))))))))))))))))))))
theorem c_tie:(namedTie Tryz.prog Rows.eventInwardMeansTheSameUptoRow.named (OpenSpec.ofChange Rows.eventInwardMeansTheSameSpec).bare.vars)=true:=jP (fD (fD (fD (fD (fD (fD (fD (fD (fD (fD (fD (fD (fD (fD (fD (fD (fD (fD (fD g_2)))))))))))))))))))
theorem c_stops0:(Rows.eventInwardMeansTheSameUptoRow.stops== [])=true:=jP (fD (fD (fD (fD (fD (fD (fD (fD (fD (fD (fD (fD (fD (fD (fD (fD (fD (fD g_2))))))))))))))))))
theorem c_stops:(Tryz.prog.stops== [])=true:=jP (fD (fD (fD (fD (fD (fD (fD (fD (fD (fD (fD (fD (fD (fD (fD (fD (fD g_2)))))))))))))))))
theorem c_knobs0:(Rows.eventInwardMeansTheSameUptoRow.knobs== [])=true:=jP (fD (fD (fD (fD (fD (fD (fD (fD (fD (fD (fD (fD (fD (fD (fD (fD g_2))))))))))))))))
theorem c_knobs:(Tryz.prog.stopKnobs== [])=true:=jP (fD (fD (fD (fD (fD (fD (fD (fD (fD (fD (fD (fD (fD (fD (fD g_2)))))))))))))))
theorem c_maps:(Rows.eventInwardMeansTheSameUptoRow.maps==(Tryz.f13.params.toList++(OpenSpec.ofChange Rows.eventInwardMeansTheSameSpec).bare.plain.varTypes Tryz.prog).any (Tryz.prog.mapsRec ·))=true:=jP (fD (fD (fD (fD (fD (fD (fD (fD (fD (fD (fD (fD (fD (fD g_2))))))))))))))
theorem c_ifaces:(Rows.eventInwardMeansTheSameUptoRow.ifaces==(Tryz.f13.params.toList++(OpenSpec.ofChange Rows.eventInwardMeansTheSameSpec).bare.plain.varTypes Tryz.prog).any (Tryz.prog.ifacesRec ·))=true:=jP (fD (fD (fD (fD (fD (fD (fD (fD (fD (fD (fD (fD (fD g_2)))))))))))))
theorem c_mapsOut:(Rows.eventInwardMeansTheSameUptoRow.mapsOut==Tryz.prog.mapsAmong Tryz.f13.resultTypes.toList)=true:=jP (fD (fD (fD (fD (fD (fD (fD (fD (fD (fD (fD (fD g_2))))))))))))
theorem c_loops:(Rows.eventInwardMeansTheSameUptoRow.loops==(Tryz.f13.params.toList++(OpenSpec.ofChange Rows.eventInwardMeansTheSameSpec).bare.plain.varTypes Tryz.prog).any (Tryz.prog.loopsFrom ·))=true:=jP (fD (fD (fD (fD (fD (fD (fD (fD (fD (fD (fD g_2)))))))))))
theorem aOj:(Rows.eventInwardMeansTheSameUptoRow.wideKeys==(Tryz.f13.params.toList++(OpenSpec.ofChange Rows.eventInwardMeansTheSameSpec).bare.plain.varTypes Tryz.prog++Tryz.f13.resultTypes.toList).any (Tryz.prog.wideKeysFrom ·))=true:=jP (fD (fD (fD (fD (fD (fD (fD (fD (fD (fD g_2))))))))))
theorem c_vars:((OpenSpec.ofChange Rows.eventInwardMeansTheSameSpec).bare.vars.all (Tryz.prog.varReadable ·))=true:=jP (fD (fD (fD (fD (fD (fD (fD (fD (fD g_2)))))))))
theorem c_results:(Tryz.f13.resultTypes.all (fun t=>Tryz.prog.readableRec t && decide (t<Tryz.prog.types.size)))=true:=jP (fD (fD (fD (fD (fD (fD (fD (fD g_2))))))))
theorem aNj:(Rows.eventInwardMeansTheSameUptoRow.ifacesOut==Tryz.f13.resultTypes.toList.any (Tryz.prog.ifacesRec ·))=true:=jP (fD (fD (fD (fD (fD (fD (fD g_2)))))))
theorem aNy:(Rows.eventInwardMeansTheSameUptoRow.loopsOut==Tryz.f13.resultTypes.toList.any (Tryz.prog.loopsFrom ·))=true:=jP (fD (fD (fD (fD (fD (fD g_2))))))
theorem c_short:(Rows.eventInwardMeansTheSameUptoRow.shortTexts.isNone)=true:=jP (fD (fD (fD (fD (fD g_2)))))
theorem c_make:(Tryz.prog.make==some Rows.eventInwardMeansTheSameUptoRow.make)=true:=jP (fD (fD (fD (fD g_2))))
theorem c_kinds:(Rows.eventInwardMeansTheSameUptoRow.kinds==(if Rows.eventInwardMeansTheSameUptoRow.domain.isEmpty then [] else Tryz.f13.params.toList.map fun t=>match Tryz.prog.underlying t with | some (.int k)=>some k | _=>none))=true:=jP (fD (fD (fD g_2)))
theorem c_pinned:(Rows.eventInwardMeansTheSameUptoRow.pinned==Rows.eventInwardMeansTheSameUptoRow.pinnedBy)=true:=jP (fD (fD g_2))
theorem c_veiled:(Rows.eventInwardMeansTheSameUptoRow.veiled==(Tryz.f13.params.toList++(OpenSpec.ofChange Rows.eventInwardMeansTheSameSpec).bare.plain.varTypes Tryz.prog++Tryz.f13.resultTypes.toList).any (Tryz.prog.veiledRec ·))=true:=jP (fD g_2)
theorem aIz:(Rows.eventInwardMeansTheSameUptoRow.veiledFits Tryz.prog Tryz.f13.params.toList (Tryz.f13.params.toList++(OpenSpec.ofChange Rows.eventInwardMeansTheSameSpec).bare.plain.varTypes Tryz.prog++Tryz.f13.resultTypes.toList))=true:=jP g_2
set_option maxRecDepth 100000 in
theorem closedF:joinedFacts Tryz.pinned.checked.prog 13 Tryz.f13 (OpenSpec.ofChange Rows.eventInwardMeansTheSameSpec).bare Rows.eventInwardMeansTheSameUptoRow=true:=(kX (kX (kX (kX (kX (kX (kX (kX (kX (kX (kX (kX (kX (kX (kX (kX (kX (kX (kX (kX (kX (kX (kX (kX (kX (kX (kX (kX (kX (kX (kX c_wf aHr) aNs) c_params) c_tie) c_stops0) c_stops) c_knobs0) c_knobs) c_inPlace) aKn) aQc) c_named) c_maps) c_ifaces) c_mapsOut) c_loops) aOj) c_vars) c_results) aNj) aNy) aMs) c_short) c_heard) c_enter) c_lifted) c_make) c_kinds) c_pinned) c_veiled) aIz)
theorem goesF:false=Rows.eventInwardMeansTheSameUptoRow.goesBy Tryz.pinned.checked.prog:=by kernel_rfl
theorem looksF:true=Tryz.pinned.checked.prog.looks []:=by kernel_rfl
end Go.Proofs.YtckmiljbaejijaaGreatDoor.eventInwardMeansTheSame
