/- What the walks and the laws stand on; no condition but those that stand in the statements. -/
import Derived.Test.YtckmiljbaejijaaGreatDoorCards
import Derived.WalkKit
import Derived.ProofKit
import Derived.LaidSub
import Derived.Deep.DeepHandedRow
import Derived.SizedLaws
namespace Go.Proofs.YtckmiljbaejijaaGreatDoor.topOnlineIsAtOnce
open Go.ChangeShapes Go.WideShapes Go.ChangeAt Go.RowKit
theorem andT {a b:Bool}(ha:a=true)(hb:b=true):(a && b)=true:=by rw [ha,hb]; rfl
theorem andL {a b:Bool}(h:(a && b)=true):a=true:=by cases a<;>simp_all
theorem andR {a b:Bool}(h:(a && b)=true):b=true:=by cases a<;>simp_all
theorem g_0:((Rows.topOnlineIsAtOnceUptoRow.inPlace==Tryz.prog.inPlace 6) && (Rows.topOnlineIsAtOnceUptoRow.unfollowed==Tryz.prog.unfollowed 6) && (Rows.topOnlineIsAtOnceUptoRow.recurses==Tryz.prog.recurses 6) && (Rows.topOnlineIsAtOnceUptoRow.named==Tryz.prog.varsNamed 6) && (laidOutB Tryz.prog) && (mapsRowed Tryz.prog) && (Tryz.prog.stopsHeard) && (Rows.topOnlineIsAtOnceUptoRow.plainKeys==Tryz.prog.plainKeys))=true:=by kernel_rfl
theorem c_inPlace:(Rows.topOnlineIsAtOnceUptoRow.inPlace==Tryz.prog.inPlace 6)=true:=(andL (andL (andL (andL (andL (andL (andL g_0)))))))
theorem c_unfollowed:(Rows.topOnlineIsAtOnceUptoRow.unfollowed==Tryz.prog.unfollowed 6)=true:=andR (andL (andL (andL (andL (andL (andL g_0))))))
theorem c_recurses:(Rows.topOnlineIsAtOnceUptoRow.recurses==Tryz.prog.recurses 6)=true:=andR (andL (andL (andL (andL (andL g_0)))))
theorem c_named:(Rows.topOnlineIsAtOnceUptoRow.named==Tryz.prog.varsNamed 6)=true:=andR (andL (andL (andL (andL g_0))))
theorem c_laidOut:(laidOutB Tryz.prog)=true:=andR (andL (andL (andL g_0)))
theorem c_mapsRowed:(mapsRowed Tryz.prog)=true:=andR (andL (andL g_0))
theorem c_heard:(Tryz.prog.stopsHeard)=true:=andR (andL g_0)
theorem c_plainKeys:(Rows.topOnlineIsAtOnceUptoRow.plainKeys==Tryz.prog.plainKeys)=true:=andR g_0
theorem g_1:((Tryz.prog.mayEnter) && (Rows.topOnlineIsAtOnceUptoRow.lifted==Tryz.prog.liftsFinal))=true:=by kernel_rfl
theorem c_enter:(Tryz.prog.mayEnter)=true:=(andL g_1)
theorem c_lifted:(Rows.topOnlineIsAtOnceUptoRow.lifted==Tryz.prog.liftsFinal)=true:=andR g_1
theorem g_2:((Rows.topOnlineIsAtOnceUptoRow.wf (OpenSpec.ofChange (OpenSpec.ofChange Rows.topOnlineIsAtOnceSpec).bare)) && (Tryz.f6.params.all (Tryz.prog.readableRec ·)) && (namedTie Tryz.prog Rows.topOnlineIsAtOnceUptoRow.named (OpenSpec.ofChange Rows.topOnlineIsAtOnceSpec).bare.vars) && (Rows.topOnlineIsAtOnceUptoRow.stops== []) && (Tryz.prog.stops== []) && (Rows.topOnlineIsAtOnceUptoRow.knobs== []) && (Tryz.prog.stopKnobs== []) && (Rows.topOnlineIsAtOnceUptoRow.maps==(Tryz.f6.params.toList++(OpenSpec.ofChange Rows.topOnlineIsAtOnceSpec).bare.plain.varTypes Tryz.prog).any (Tryz.prog.mapsRec ·)) && (Rows.topOnlineIsAtOnceUptoRow.ifaces==(Tryz.f6.params.toList++(OpenSpec.ofChange Rows.topOnlineIsAtOnceSpec).bare.plain.varTypes Tryz.prog).any (Tryz.prog.ifacesRec ·)) && (Rows.topOnlineIsAtOnceUptoRow.mapsOut==Tryz.prog.mapsAmong Tryz.f6.resultTypes.toList) && (Rows.topOnlineIsAtOnceUptoRow.loops==(Tryz.f6.params.toList++(OpenSpec.ofChange Rows.topOnlineIsAtOnceSpec).bare.plain.varTypes Tryz.prog).any (Tryz.prog.loopsFrom ·)) && (Rows.topOnlineIsAtOnceUptoRow.wideKeys==(Tryz.f6.params.toList++(OpenSpec.ofChange Rows.topOnlineIsAtOnceSpec).bare.plain.varTypes Tryz.prog++Tryz.f6.resultTypes.toList).any (Tryz.prog.wideKeysFrom ·)) && ((OpenSpec.ofChange Rows.topOnlineIsAtOnceSpec).bare.vars.all (Tryz.prog.varReadable ·)) && (Tryz.f6.resultTypes.all (fun t=>Tryz.prog.readableRec t && decide (t<Tryz.prog.types.size))) && (Rows.topOnlineIsAtOnceUptoRow.ifacesOut==Tryz.f6.resultTypes.toList.any (Tryz.prog.ifacesRec ·)) && (Rows.topOnlineIsAtOnceUptoRow.loopsOut==Tryz.f6.resultTypes.toList.any (Tryz.prog.loopsFrom ·)) && (Rows.topOnlineIsAtOnceUptoRow.shortTexts.isNone) && (Tryz.prog.make==some Rows.topOnlineIsAtOnceUptoRow.make) && (Rows.topOnlineIsAtOnceUptoRow.kinds==(if Rows.topOnlineIsAtOnceUptoRow.domain.isEmpty then [] else Tryz.f6.params.toList.map fun t=>match Tryz.prog.underlying t with | some (.int k)=>some k | _=>none)) && (Rows.topOnlineIsAtOnceUptoRow.pinned==Rows.topOnlineIsAtOnceUptoRow.pinnedBy) && (Rows.topOnlineIsAtOnceUptoRow.veiled==(Tryz.f6.params.toList++(OpenSpec.ofChange Rows.topOnlineIsAtOnceSpec).bare.plain.varTypes Tryz.prog++Tryz.f6.resultTypes.toList).any (Tryz.prog.veiledRec ·)) && (Rows.topOnlineIsAtOnceUptoRow.veiledFits Tryz.prog Tryz.f6.params.toList (Tryz.f6.params.toList++(OpenSpec.ofChange Rows.topOnlineIsAtOnceSpec).bare.plain.varTypes Tryz.prog++Tryz.f6.resultTypes.toList)))=true:=by kernel_rfl
theorem c_wf:(Rows.topOnlineIsAtOnceUptoRow.wf (OpenSpec.ofChange (OpenSpec.ofChange Rows.topOnlineIsAtOnceSpec).bare))=true:=(andL (andL (andL (andL (andL (andL (andL (andL (andL (andL (andL (andL (andL (andL (andL (andL (andL (andL (andL (andL (andL g_2)))))))))))))))))))))
theorem c_params:(Tryz.f6.params.all (Tryz.prog.readableRec ·))=true:=andR (andL (andL (andL (andL (andL (andL (andL (andL (andL (andL (andL (andL (andL (andL (andL (andL (andL (andL (andL (andL g_2))))))))))))))))))))
theorem c_tie:(namedTie Tryz.prog Rows.topOnlineIsAtOnceUptoRow.named (OpenSpec.ofChange Rows.topOnlineIsAtOnceSpec).bare.vars)=true:=andR (andL (andL (andL (andL (andL (andL (andL (andL (andL (andL (andL (andL (andL (andL (andL (andL (andL (andL (andL g_2)))))))))))))))))))
theorem c_stops0:(Rows.topOnlineIsAtOnceUptoRow.stops== [])=true:=andR (andL (andL (andL (andL (andL (andL (andL (andL (andL (andL (andL (andL (andL (andL (andL (andL (andL (andL g_2))))))))))))))))))
theorem c_stops:(Tryz.prog.stops== [])=true:=andR (andL (andL (andL (andL (andL (andL (andL (andL (andL (andL (andL (andL (andL (andL (andL (andL (andL g_2)))))))))))))))))
theorem c_knobs0:(Rows.topOnlineIsAtOnceUptoRow.knobs== [])=true:=andR (andL (andL (andL (andL (andL (andL (andL (andL (andL (andL (andL (andL (andL (andL (andL (andL g_2))))))))))))))))
theorem c_knobs:(Tryz.prog.stopKnobs== [])=true:=andR (andL (andL (andL (andL (andL (andL (andL (andL (andL (andL (andL (andL (andL (andL (andL g_2)))))))))))))))
theorem c_maps:(Rows.topOnlineIsAtOnceUptoRow.maps==(Tryz.f6.params.toList++(OpenSpec.ofChange Rows.topOnlineIsAtOnceSpec).bare.plain.varTypes Tryz.prog).any (Tryz.prog.mapsRec ·))=true:=andR (andL (andL (andL (andL (andL (andL (andL (andL (andL (andL (andL (andL (andL (andL g_2))))))))))))))
theorem c_ifaces:(Rows.topOnlineIsAtOnceUptoRow.ifaces==(Tryz.f6.params.toList++(OpenSpec.ofChange Rows.topOnlineIsAtOnceSpec).bare.plain.varTypes Tryz.prog).any (Tryz.prog.ifacesRec ·))=true:=andR (andL (andL (andL (andL (andL (andL (andL (andL (andL (andL (andL (andL (andL g_2)))))))))))))
theorem c_mapsOut:(Rows.topOnlineIsAtOnceUptoRow.mapsOut==Tryz.prog.mapsAmong Tryz.f6.resultTypes.toList)=true:=andR (andL (andL (andL (andL (andL (andL (andL (andL (andL (andL (andL (andL g_2))))))))))))
theorem c_loops:(Rows.topOnlineIsAtOnceUptoRow.loops==(Tryz.f6.params.toList++(OpenSpec.ofChange Rows.topOnlineIsAtOnceSpec).bare.plain.varTypes Tryz.prog).any (Tryz.prog.loopsFrom ·))=true:=andR (andL (andL (andL (andL (andL (andL (andL (andL (andL (andL (andL g_2)))))))))))
theorem c_wideKeys:(Rows.topOnlineIsAtOnceUptoRow.wideKeys==(Tryz.f6.params.toList++(OpenSpec.ofChange Rows.topOnlineIsAtOnceSpec).bare.plain.varTypes Tryz.prog++Tryz.f6.resultTypes.toList).any (Tryz.prog.wideKeysFrom ·))=true:=andR (andL (andL (andL (andL (andL (andL (andL (andL (andL (andL g_2))))))))))
theorem c_vars:((OpenSpec.ofChange Rows.topOnlineIsAtOnceSpec).bare.vars.all (Tryz.prog.varReadable ·))=true:=andR (andL (andL (andL (andL (andL (andL (andL (andL (andL g_2)))))))))
theorem c_results:(Tryz.f6.resultTypes.all (fun t=>Tryz.prog.readableRec t && decide (t<Tryz.prog.types.size)))=true:=andR (andL (andL (andL (andL (andL (andL (andL (andL g_2))))))))
theorem c_ifacesOut:(Rows.topOnlineIsAtOnceUptoRow.ifacesOut==Tryz.f6.resultTypes.toList.any (Tryz.prog.ifacesRec ·))=true:=andR (andL (andL (andL (andL (andL (andL (andL g_2)))))))
theorem c_loopsOut:(Rows.topOnlineIsAtOnceUptoRow.loopsOut==Tryz.f6.resultTypes.toList.any (Tryz.prog.loopsFrom ·))=true:=andR (andL (andL (andL (andL (andL (andL g_2))))))
theorem c_short:(Rows.topOnlineIsAtOnceUptoRow.shortTexts.isNone)=true:=andR (andL (andL (andL (andL (andL g_2)))))
theorem c_make:(Tryz.prog.make==some Rows.topOnlineIsAtOnceUptoRow.make)=true:=andR (andL (andL (andL (andL g_2))))
theorem c_kinds:(Rows.topOnlineIsAtOnceUptoRow.kinds==(if Rows.topOnlineIsAtOnceUptoRow.domain.isEmpty then [] else Tryz.f6.params.toList.map fun t=>match Tryz.prog.underlying t with | some (.int k)=>some k | _=>none))=true:=andR (andL (andL (andL g_2)))
theorem c_pinned:(Rows.topOnlineIsAtOnceUptoRow.pinned==Rows.topOnlineIsAtOnceUptoRow.pinnedBy)=true:=andR (andL (andL g_2))
theorem c_veiled:(Rows.topOnlineIsAtOnceUptoRow.veiled==(Tryz.f6.params.toList++(OpenSpec.ofChange Rows.topOnlineIsAtOnceSpec).bare.plain.varTypes Tryz.prog++Tryz.f6.resultTypes.toList).any (Tryz.prog.veiledRec ·))=true:=andR (andL g_2)
theorem c_veiledFits:(Rows.topOnlineIsAtOnceUptoRow.veiledFits Tryz.prog Tryz.f6.params.toList (Tryz.f6.params.toList++(OpenSpec.ofChange Rows.topOnlineIsAtOnceSpec).bare.plain.varTypes Tryz.prog++Tryz.f6.resultTypes.toList))=true:=andR g_2
set_option maxRecDepth 100000 in
theorem closedF:joinedFacts Tryz.pinned.checked.prog 6 Tryz.f6 (OpenSpec.ofChange Rows.topOnlineIsAtOnceSpec).bare Rows.topOnlineIsAtOnceUptoRow=true:=(andT (andT (andT (andT (andT (andT (andT (andT (andT (andT (andT (andT (andT (andT (andT (andT (andT (andT (andT (andT (andT (andT (andT (andT (andT (andT (andT (andT (andT (andT (andT c_wf c_laidOut) c_mapsRowed) c_params) c_tie) c_stops0) c_stops) c_knobs0) c_knobs) c_inPlace) c_unfollowed) c_recurses) c_named) c_maps) c_ifaces) c_mapsOut) c_loops) c_wideKeys) c_vars) c_results) c_ifacesOut) c_loopsOut) c_plainKeys) c_short) c_heard) c_enter) c_lifted) c_make) c_kinds) c_pinned) c_veiled) c_veiledFits)
theorem goesF:false=Rows.topOnlineIsAtOnceUptoRow.goesBy Tryz.pinned.checked.prog:=by kernel_rfl
theorem looksF:true=Tryz.pinned.checked.prog.looks []:=by kernel_rfl
end Go.Proofs.YtckmiljbaejijaaGreatDoor.topOnlineIsAtOnce
