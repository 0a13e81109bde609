/- What the walks and the laws stand on; no condition but those that stand in the statements. -/
import Derived.Test.YtckmiljbaejijaaGreatDoorCards
import Derived.WalkKit
import Derived.ProofKit
import Derived.LaidSub
import Derived.Deep.DeepHandedRow
import Derived.SizedLaws
namespace Go.Proofs.YtckmiljbaejijaaGreatDoor.eventCopiesGoApart
open Go.ChangeShapes Go.WideShapes Go.ChangeAt Go.RowKit
theorem kR {a b:Bool}(ha:a=true)(hb:b=true):(a && b)=true:=by rw [ha,hb]; rfl
theorem fH {a b:Bool}(h:(a && b)=true):a=true:=by cases a<;>simp_all
theorem andR {a b:Bool}(h:(a && b)=true):b=true:=by cases a<;>simp_all
theorem g_0:((Rows.eventCopiesGoApartRow.inPlace==Tryz.prog.inPlace 8) && (Rows.eventCopiesGoApartRow.unfollowed==Tryz.prog.unfollowed 8) && (Rows.eventCopiesGoApartRow.recurses==Tryz.prog.recurses 8) && (Rows.eventCopiesGoApartRow.named==Tryz.prog.varsNamed 8) && (laidOutB Tryz.prog) && (mapsRowed Tryz.prog) && (Tryz.prog.stopsHeard) && (Rows.eventCopiesGoApartRow.plainKeys==Tryz.prog.plainKeys))=true:=by kernel_rfl
theorem c_inPlace:(Rows.eventCopiesGoApartRow.inPlace==Tryz.prog.inPlace 8)=true:=(fH (fH (fH (fH (fH (fH (fH g_0)))))))
theorem c_unfollowed:(Rows.eventCopiesGoApartRow.unfollowed==Tryz.prog.unfollowed 8)=true:=andR (fH (fH (fH (fH (fH (fH g_0))))))
theorem c_recurses:(Rows.eventCopiesGoApartRow.recurses==Tryz.prog.recurses 8)=true:=andR (fH (fH (fH (fH (fH g_0)))))
theorem c_named:(Rows.eventCopiesGoApartRow.named==Tryz.prog.varsNamed 8)=true:=andR (fH (fH (fH (fH g_0))))
theorem c_laidOut:(laidOutB Tryz.prog)=true:=andR (fH (fH (fH g_0)))
theorem c_mapsRowed:(mapsRowed Tryz.prog)=true:=andR (fH (fH g_0))
theorem c_heard:(Tryz.prog.stopsHeard)=true:=andR (fH g_0)
theorem c_plainKeys:(Rows.eventCopiesGoApartRow.plainKeys==Tryz.prog.plainKeys)=true:=andR g_0
theorem g_1:((Tryz.prog.mayEnter) && (Rows.eventCopiesGoApartRow.lifted==Tryz.prog.liftsFinal))=true:=by kernel_rfl
theorem c_enter:(Tryz.prog.mayEnter)=true:=(fH g_1)
theorem c_lifted:(Rows.eventCopiesGoApartRow.lifted==Tryz.prog.liftsFinal)=true:=andR g_1
theorem g_2:((Rows.eventCopiesGoApartRow.wf (OpenSpec.ofChange (OpenSpec.ofChange Rows.eventCopiesGoApartSpec).bare)) && (Tryz.f8.params.all (Tryz.prog.readableRec ·)) && (namedTie Tryz.prog Rows.eventCopiesGoApartRow.named (OpenSpec.ofChange Rows.eventCopiesGoApartSpec).bare.vars) && (Rows.eventCopiesGoApartRow.stops== []) && (Tryz.prog.stops== []) && (Rows.eventCopiesGoApartRow.knobs== []) && (Tryz.prog.stopKnobs== []) && (Rows.eventCopiesGoApartRow.maps==(Tryz.f8.params.toList++(OpenSpec.ofChange Rows.eventCopiesGoApartSpec).bare.plain.varTypes Tryz.prog).any (Tryz.prog.mapsRec ·)) && (Rows.eventCopiesGoApartRow.ifaces==(Tryz.f8.params.toList++(OpenSpec.ofChange Rows.eventCopiesGoApartSpec).bare.plain.varTypes Tryz.prog).any (Tryz.prog.ifacesRec ·)) && (Rows.eventCopiesGoApartRow.mapsOut==Tryz.prog.mapsAmong Tryz.f8.resultTypes.toList) && (Rows.eventCopiesGoApartRow.loops==(Tryz.f8.params.toList++(OpenSpec.ofChange Rows.eventCopiesGoApartSpec).bare.plain.varTypes Tryz.prog).any (Tryz.prog.loopsFrom ·)) && (Rows.eventCopiesGoApartRow.wideKeys==(Tryz.f8.params.toList++(OpenSpec.ofChange Rows.eventCopiesGoApartSpec).bare.plain.varTypes Tryz.prog++Tryz.f8.resultTypes.toList).any (Tryz.prog.wideKeysFrom ·)) && ((OpenSpec.ofChange Rows.eventCopiesGoApartSpec).bare.vars.all (Tryz.prog.varReadable ·)) && (Tryz.f8.resultTypes.all (fun t=>Tryz.prog.readableRec t && decide (t<Tryz.prog.types.size))) && (Rows.eventCopiesGoApartRow.ifacesOut==Tryz.f8.resultTypes.toList.any (Tryz.prog.ifacesRec ·)) && (Rows.eventCopiesGoApartRow.loopsOut==Tryz.f8.resultTypes.toList.any (Tryz.prog.loopsFrom ·)) && (Rows.eventCopiesGoApartRow.shortTexts.isNone) && (Tryz.prog.make==some Rows.eventCopiesGoApartRow.make) && (Rows.eventCopiesGoApartRow.kinds==(if Rows.eventCopiesGoApartRow.domain.isEmpty then [] else Tryz.f8.params.toList.map fun t=>match Tryz.prog.underlying t with | some (.int k)=>some k | _=>none)) && (Rows.eventCopiesGoApartRow.pinned==Rows.eventCopiesGoApartRow.pinnedBy) && (Rows.eventCopiesGoApartRow.veiled==(Tryz.f8.params.toList++(OpenSpec.ofChange Rows.eventCopiesGoApartSpec).bare.plain.varTypes Tryz.prog++Tryz.f8.resultTypes.toList).any (Tryz.prog.veiledRec ·)) && (Rows.eventCopiesGoApartRow.veiledFits Tryz.prog Tryz.f8.params.toList (Tryz.f8.params.toList++(OpenSpec.ofChange Rows.eventCopiesGoApartSpec).bare.plain.varTypes Tryz.prog++Tryz.f8.resultTypes.toList)))=true:=by kernel_rfl
theorem c_wf:(Rows.eventCopiesGoApartRow.wf (OpenSpec.ofChange (OpenSpec.ofChange Rows.eventCopiesGoApartSpec).bare))=true:=(fH (fH (fH (fH (fH (fH (fH (fH (fH (fH (fH (fH (fH (fH (fH (fH (fH (fH (fH (fH (fH g_2)))))))))))))))))))))
theorem c_params:(Tryz.f8.params.all (Tryz.prog.readableRec ·))=true:=andR (fH (fH (fH (fH (fH (fH (fH (fH (fH (fH (fH (fH (fH (fH (fH (fH (fH (fH (fH (fH g_2))))))))))))))))))))
theorem c_tie:(namedTie Tryz.prog Rows.eventCopiesGoApartRow.named (OpenSpec.ofChange Rows.eventCopiesGoApartSpec).bare.vars)=true:=andR (fH (fH (fH (fH (fH (fH (fH (fH (fH (fH (fH (fH (fH (fH (fH (fH (fH (fH (fH g_2)))))))))))))))))))
theorem c_stops0:(Rows.eventCopiesGoApartRow.stops== [])=true:=andR (fH (fH (fH (fH (fH (fH (fH (fH (fH (fH (fH (fH (fH (fH (fH (fH (fH (fH g_2))))))))))))))))))
theorem c_stops:(Tryz.prog.stops== [])=true:=andR (fH (fH (fH (fH (fH (fH (fH (fH (fH (fH (fH (fH (fH (fH (fH (fH (fH g_2)))))))))))))))))
theorem c_knobs0:(Rows.eventCopiesGoApartRow.knobs== [])=true:=andR (fH (fH (fH (fH (fH (fH (fH (fH (fH (fH (fH (fH (fH (fH (fH (fH g_2))))))))))))))))
theorem c_knobs:(Tryz.prog.stopKnobs== [])=true:=andR (fH (fH (fH (fH (fH (fH (fH (fH (fH (fH (fH (fH (fH (fH (fH g_2)))))))))))))))
theorem c_maps:(Rows.eventCopiesGoApartRow.maps==(Tryz.f8.params.toList++(OpenSpec.ofChange Rows.eventCopiesGoApartSpec).bare.plain.varTypes Tryz.prog).any (Tryz.prog.mapsRec ·))=true:=andR (fH (fH (fH (fH (fH (fH (fH (fH (fH (fH (fH (fH (fH (fH g_2))))))))))))))
theorem c_ifaces:(Rows.eventCopiesGoApartRow.ifaces==(Tryz.f8.params.toList++(OpenSpec.ofChange Rows.eventCopiesGoApartSpec).bare.plain.varTypes Tryz.prog).any (Tryz.prog.ifacesRec ·))=true:=andR (fH (fH (fH (fH (fH (fH (fH (fH (fH (fH (fH (fH (fH g_2)))))))))))))
theorem c_mapsOut:(Rows.eventCopiesGoApartRow.mapsOut==Tryz.prog.mapsAmong Tryz.f8.resultTypes.toList)=true:=andR (fH (fH (fH (fH (fH (fH (fH (fH (fH (fH (fH (fH g_2))))))))))))
theorem c_loops:(Rows.eventCopiesGoApartRow.loops==(Tryz.f8.params.toList++(OpenSpec.ofChange Rows.eventCopiesGoApartSpec).bare.plain.varTypes Tryz.prog).any (Tryz.prog.loopsFrom ·))=true:=andR (fH (fH (fH (fH (fH (fH (fH (fH (fH (fH (fH g_2)))))))))))
theorem c_wideKeys:(Rows.eventCopiesGoApartRow.wideKeys==(Tryz.f8.params.toList++(OpenSpec.ofChange Rows.eventCopiesGoApartSpec).bare.plain.varTypes Tryz.prog++Tryz.f8.resultTypes.toList).any (Tryz.prog.wideKeysFrom ·))=true:=andR (fH (fH (fH (fH (fH (fH (fH (fH (fH (fH g_2))))))))))
theorem c_vars:((OpenSpec.ofChange Rows.eventCopiesGoApartSpec).bare.vars.all (Tryz.prog.varReadable ·))=true:=andR (fH (fH (fH (fH (fH (fH (fH (fH (fH g_2)))))))))
theorem c_results:(Tryz.f8.resultTypes.all (fun t=>Tryz.prog.readableRec t && decide (t<Tryz.prog.types.size)))=true:=andR (fH (fH (fH (fH (fH (fH (fH (fH g_2))))))))
theorem c_ifacesOut:(Rows.eventCopiesGoApartRow.ifacesOut==Tryz.f8.resultTypes.toList.any (Tryz.prog.ifacesRec ·))=true:=andR (fH (fH (fH (fH (fH (fH (fH g_2)))))))
theorem c_loopsOut:(Rows.eventCopiesGoApartRow.loopsOut==Tryz.f8.resultTypes.toList.any (Tryz.prog.loopsFrom ·))=true:=andR (fH (fH (fH (fH (fH (fH g_2))))))
theorem c_short:(Rows.eventCopiesGoApartRow.shortTexts.isNone)=true:=andR (fH (fH (fH (fH (fH g_2)))))
theorem c_make:(Tryz.prog.make==some Rows.eventCopiesGoApartRow.make)=true:=andR (fH (fH (fH (fH g_2))))
theorem c_kinds:(Rows.eventCopiesGoApartRow.kinds==(if Rows.eventCopiesGoApartRow.domain.isEmpty then [] else Tryz.f8.params.toList.map fun t=>match Tryz.prog.underlying t with | some (.int k)=>some k | _=>none))=true:=andR (fH (fH (fH g_2)))
theorem c_pinned:(Rows.eventCopiesGoApartRow.pinned==Rows.eventCopiesGoApartRow.pinnedBy)=true:=andR (fH (fH g_2))
theorem c_veiled:(Rows.eventCopiesGoApartRow.veiled==(Tryz.f8.params.toList++(OpenSpec.ofChange Rows.eventCopiesGoApartSpec).bare.plain.varTypes Tryz.prog++Tryz.f8.resultTypes.toList).any (Tryz.prog.veiledRec ·))=true:=andR (fH g_2)
theorem c_veiledFits:(Rows.eventCopiesGoApartRow.veiledFits Tryz.prog Tryz.f8.params.toList (Tryz.f8.params.toList++(OpenSpec.ofChange Rows.eventCopiesGoApartSpec).bare.plain.varTypes Tryz.prog++Tryz.f8.resultTypes.toList))=true:=andR g_2
set_option maxRecDepth 100000 in
theorem closedF:joinedFacts Tryz.pinned.checked.prog 8 Tryz.f8 (OpenSpec.ofChange Rows.eventCopiesGoApartSpec).bare Rows.eventCopiesGoApartRow=true:=(kR (kR (kR (kR (kR (kR (kR (kR (kR (kR (kR (kR (kR (kR (kR (kR (kR (kR (kR (kR (kR (kR (kR (kR (kR (kR (kR (kR (kR (kR (kR c_wf c_laidOut) c_mapsRowed) c_params) c_tie) c_stops0) c_stops) c_knobs0) c_knobs) c_inPlace) c_unfollowed) c_recurses) c_named) c_maps) c_ifaces) c_mapsOut) c_loops) c_wideKeys) c_vars) c_results) c_ifacesOut) c_loopsOut) c_plainKeys) c_short) c_heard) c_enter) c_lifted) c_make) c_kinds) c_pinned) c_veiled) c_veiledFits)
theorem goesF:false=Rows.eventCopiesGoApartRow.goesBy Tryz.pinned.checked.prog:=by kernel_rfl
theorem looksF:true=Tryz.pinned.checked.prog.looks []:=by kernel_rfl
end Go.Proofs.YtckmiljbaejijaaGreatDoor.eventCopiesGoApart
