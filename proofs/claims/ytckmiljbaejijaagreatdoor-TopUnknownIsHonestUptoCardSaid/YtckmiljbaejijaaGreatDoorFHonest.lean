/- What the walks and the laws stand on; no condition but those that stand in the statements. -/
import Derived.Test.YtckmiljbaejijaaGreatDoorCards
import Derived.WalkKit
import Derived.ProofKit
import Derived.LaidSub
import Derived.Deep.DeepHandedRow
import Derived.SizedLaws
namespace Go.Proofs.YtckmiljbaejijaaGreatDoor.topUnknownIsHonest
open Go.ChangeShapes Go.WideShapes Go.ChangeAt Go.RowKit
theorem kC {a b:Bool}(ha:a=true)(hb:b=true):(a && b)=true:=by rw [ha,hb]; rfl
theorem gV {a b:Bool}(h:(a && b)=true):a=true:=by cases a<;>simp_all
theorem andR {a b:Bool}(h:(a && b)=true):b=true:=by cases a<;>simp_all
theorem g_0:((Rows.topUnknownIsHonestUptoRow.inPlace==Tryz.prog.inPlace 3) && (Rows.topUnknownIsHonestUptoRow.unfollowed==Tryz.prog.unfollowed 3) && (Rows.topUnknownIsHonestUptoRow.recurses==Tryz.prog.recurses 3) && (Rows.topUnknownIsHonestUptoRow.named==Tryz.prog.varsNamed 3) && (laidOutB Tryz.prog) && (mapsRowed Tryz.prog) && (Tryz.prog.stopsHeard) && (Rows.topUnknownIsHonestUptoRow.plainKeys==Tryz.prog.plainKeys))=true:=by kernel_rfl
theorem c_inPlace:(Rows.topUnknownIsHonestUptoRow.inPlace==Tryz.prog.inPlace 3)=true:=(gV (gV (gV (gV (gV (gV (gV g_0)))))))
theorem c_unfollowed:(Rows.topUnknownIsHonestUptoRow.unfollowed==Tryz.prog.unfollowed 3)=true:=andR (gV (gV (gV (gV (gV (gV g_0))))))
theorem c_recurses:(Rows.topUnknownIsHonestUptoRow.recurses==Tryz.prog.recurses 3)=true:=andR (gV (gV (gV (gV (gV g_0)))))
theorem c_named:(Rows.topUnknownIsHonestUptoRow.named==Tryz.prog.varsNamed 3)=true:=andR (gV (gV (gV (gV g_0))))
theorem c_laidOut:(laidOutB Tryz.prog)=true:=andR (gV (gV (gV g_0)))
theorem c_mapsRowed:(mapsRowed Tryz.prog)=true:=andR (gV (gV g_0))
theorem c_heard:(Tryz.prog.stopsHeard)=true:=andR (gV g_0)
theorem c_plainKeys:(Rows.topUnknownIsHonestUptoRow.plainKeys==Tryz.prog.plainKeys)=true:=andR g_0
theorem g_1:((Tryz.prog.mayEnter) && (Rows.topUnknownIsHonestUptoRow.lifted==Tryz.prog.liftsFinal))=true:=by kernel_rfl
theorem c_enter:(Tryz.prog.mayEnter)=true:=(gV g_1)
theorem c_lifted:(Rows.topUnknownIsHonestUptoRow.lifted==Tryz.prog.liftsFinal)=true:=andR g_1
theorem g_2:((Rows.topUnknownIsHonestUptoRow.wf (OpenSpec.ofChange (OpenSpec.ofChange Rows.topUnknownIsHonestSpec).bare)) && (Tryz.f3.params.all (Tryz.prog.readableRec ·)) && (namedTie Tryz.prog Rows.topUnknownIsHonestUptoRow.named (OpenSpec.ofChange Rows.topUnknownIsHonestSpec).bare.vars) && (Rows.topUnknownIsHonestUptoRow.stops== []) && (Tryz.prog.stops== []) && (Rows.topUnknownIsHonestUptoRow.knobs== []) && (Tryz.prog.stopKnobs== []) && (Rows.topUnknownIsHonestUptoRow.maps==(Tryz.f3.params.toList++(OpenSpec.ofChange Rows.topUnknownIsHonestSpec).bare.plain.varTypes Tryz.prog).any (Tryz.prog.mapsRec ·)) && (Rows.topUnknownIsHonestUptoRow.ifaces==(Tryz.f3.params.toList++(OpenSpec.ofChange Rows.topUnknownIsHonestSpec).bare.plain.varTypes Tryz.prog).any (Tryz.prog.ifacesRec ·)) && (Rows.topUnknownIsHonestUptoRow.mapsOut==Tryz.prog.mapsAmong Tryz.f3.resultTypes.toList) && (Rows.topUnknownIsHonestUptoRow.loops==(Tryz.f3.params.toList++(OpenSpec.ofChange Rows.topUnknownIsHonestSpec).bare.plain.varTypes Tryz.prog).any (Tryz.prog.loopsFrom ·)) && (Rows.topUnknownIsHonestUptoRow.wideKeys==(Tryz.f3.params.toList++(OpenSpec.ofChange Rows.topUnknownIsHonestSpec).bare.plain.varTypes Tryz.prog++Tryz.f3.resultTypes.toList).any (Tryz.prog.wideKeysFrom ·)) && ((OpenSpec.ofChange Rows.topUnknownIsHonestSpec).bare.vars.all (Tryz.prog.varReadable ·)) && (Tryz.f3.resultTypes.all (fun t=>Tryz.prog.readableRec t && decide (t<Tryz.prog.types.size))) && (Rows.topUnknownIsHonestUptoRow.ifacesOut==Tryz.f3.resultTypes.toList.any (Tryz.prog.ifacesRec ·)) && (Rows.topUnknownIsHonestUptoRow.loopsOut==Tryz.f3.resultTypes.toList.any (Tryz.prog.loopsFrom ·)) && (Rows.topUnknownIsHonestUptoRow.shortTexts.isNone) && (Tryz.prog.make==some Rows.topUnknownIsHonestUptoRow.make) && (Rows.topUnknownIsHonestUptoRow.kinds==(if Rows.topUnknownIsHonestUptoRow.domain.isEmpty then [] else Tryz.f3.params.toList.map fun t=>match Tryz.prog.underlying t with | some (.int k)=>some k | _=>none)) && (Rows.topUnknownIsHonestUptoRow.pinned==Rows.topUnknownIsHonestUptoRow.pinnedBy) && (Rows.topUnknownIsHonestUptoRow.veiled==(Tryz.f3.params.toList++(OpenSpec.ofChange Rows.topUnknownIsHonestSpec).bare.plain.varTypes Tryz.prog++Tryz.f3.resultTypes.toList).any (Tryz.prog.veiledRec ·)) && (Rows.topUnknownIsHonestUptoRow.veiledFits Tryz.prog Tryz.f3.params.toList (Tryz.f3.params.toList++(OpenSpec.ofChange Rows.topUnknownIsHonestSpec).bare.plain.varTypes Tryz.prog++Tryz.f3.resultTypes.toList)))=true:=by kernel_rfl
theorem c_wf:(Rows.topUnknownIsHonestUptoRow.wf (OpenSpec.ofChange (OpenSpec.ofChange Rows.topUnknownIsHonestSpec).bare))=true:=(gV (gV (gV (gV (gV (gV (gV (gV (gV (gV (gV (gV (gV (gV (gV (gV (gV (gV (gV (gV (gV g_2)))))))))))))))))))))
theorem c_params:(Tryz.f3.params.all (Tryz.prog.readableRec ·))=true:=andR (gV (gV (gV (gV (gV (gV (gV (gV (gV (gV (gV (gV (gV (gV (gV (gV (gV (gV (gV (gV g_2))))))))))))))))))))
theorem c_tie:(namedTie Tryz.prog Rows.topUnknownIsHonestUptoRow.named (OpenSpec.ofChange Rows.topUnknownIsHonestSpec).bare.vars)=true:=andR (gV (gV (gV (gV (gV (gV (gV (gV (gV (gV (gV (gV (gV (gV (gV (gV (gV (gV (gV g_2)))))))))))))))))))
theorem c_stops0:(Rows.topUnknownIsHonestUptoRow.stops== [])=true:=andR (gV (gV (gV (gV (gV (gV (gV (gV (gV (gV (gV (gV (gV (gV (gV (gV (gV (gV g_2))))))))))))))))))
theorem c_stops:(Tryz.prog.stops== [])=true:=andR (gV (gV (gV (gV (gV (gV (gV (gV (gV (gV (gV (gV (gV (gV (gV (gV (gV g_2)))))))))))))))))
theorem c_knobs0:(Rows.topUnknownIsHonestUptoRow.knobs== [])=true:=andR (gV (gV (gV (gV (gV (gV (gV (gV (gV (gV (gV (gV (gV (gV (gV (gV g_2))))))))))))))))
theorem c_knobs:(Tryz.prog.stopKnobs== [])=true:=andR (gV (gV (gV (gV (gV (gV (gV (gV (gV (gV (gV (gV (gV (gV (gV g_2)))))))))))))))
theorem c_maps:(Rows.topUnknownIsHonestUptoRow.maps==(Tryz.f3.params.toList++(OpenSpec.ofChange Rows.topUnknownIsHonestSpec).bare.plain.varTypes Tryz.prog).any (Tryz.prog.mapsRec ·))=true:=andR (gV (gV (gV (gV (gV (gV (gV (gV (gV (gV (gV (gV (gV (gV g_2))))))))))))))
theorem c_ifaces:(Rows.topUnknownIsHonestUptoRow.ifaces==(Tryz.f3.params.toList++(OpenSpec.ofChange Rows.topUnknownIsHonestSpec).bare.plain.varTypes Tryz.prog).any (Tryz.prog.ifacesRec ·))=true:=andR (gV (gV (gV (gV (gV (gV (gV (gV (gV (gV (gV (gV (gV g_2)))))))))))))
theorem c_mapsOut:(Rows.topUnknownIsHonestUptoRow.mapsOut==Tryz.prog.mapsAmong Tryz.f3.resultTypes.toList)=true:=andR (gV (gV (gV (gV (gV (gV (gV (gV (gV (gV (gV (gV g_2))))))))))))
theorem c_loops:(Rows.topUnknownIsHonestUptoRow.loops==(Tryz.f3.params.toList++(OpenSpec.ofChange Rows.topUnknownIsHonestSpec).bare.plain.varTypes Tryz.prog).any (Tryz.prog.loopsFrom ·))=true:=andR (gV (gV (gV (gV (gV (gV (gV (gV (gV (gV (gV g_2)))))))))))
theorem c_wideKeys:(Rows.topUnknownIsHonestUptoRow.wideKeys==(Tryz.f3.params.toList++(OpenSpec.ofChange Rows.topUnknownIsHonestSpec).bare.plain.varTypes Tryz.prog++Tryz.f3.resultTypes.toList).any (Tryz.prog.wideKeysFrom ·))=true:=andR (gV (gV (gV (gV (gV (gV (gV (gV (gV (gV g_2))))))))))
theorem c_vars:((OpenSpec.ofChange Rows.topUnknownIsHonestSpec).bare.vars.all (Tryz.prog.varReadable ·))=true:=andR (gV (gV (gV (gV (gV (gV (gV (gV (gV g_2)))))))))
theorem c_results:(Tryz.f3.resultTypes.all (fun t=>Tryz.prog.readableRec t && decide (t<Tryz.prog.types.size)))=true:=andR (gV (gV (gV (gV (gV (gV (gV (gV g_2))))))))
theorem c_ifacesOut:(Rows.topUnknownIsHonestUptoRow.ifacesOut==Tryz.f3.resultTypes.toList.any (Tryz.prog.ifacesRec ·))=true:=andR (gV (gV (gV (gV (gV (gV (gV g_2)))))))
theorem c_loopsOut:(Rows.topUnknownIsHonestUptoRow.loopsOut==Tryz.f3.resultTypes.toList.any (Tryz.prog.loopsFrom ·))=true:=andR (gV (gV (gV (gV (gV (gV g_2))))))
theorem c_short:(Rows.topUnknownIsHonestUptoRow.shortTexts.isNone)=true:=andR (gV (gV (gV (gV (gV g_2)))))
theorem c_make:(Tryz.prog.make==some Rows.topUnknownIsHonestUptoRow.make)=true:=andR (gV (gV (gV (gV g_2))))
theorem c_kinds:(Rows.topUnknownIsHonestUptoRow.kinds==(if Rows.topUnknownIsHonestUptoRow.domain.isEmpty then [] else Tryz.f3.params.toList.map fun t=>match Tryz.prog.underlying t with | some (.int k)=>some k | _=>none))=true:=andR (gV (gV (gV g_2)))
theorem c_pinned:(Rows.topUnknownIsHonestUptoRow.pinned==Rows.topUnknownIsHonestUptoRow.pinnedBy)=true:=andR (gV (gV g_2))
theorem c_veiled:(Rows.topUnknownIsHonestUptoRow.veiled==(Tryz.f3.params.toList++(OpenSpec.ofChange Rows.topUnknownIsHonestSpec).bare.plain.varTypes Tryz.prog++Tryz.f3.resultTypes.toList).any (Tryz.prog.veiledRec ·))=true:=andR (gV g_2)
theorem c_veiledFits:(Rows.topUnknownIsHonestUptoRow.veiledFits Tryz.prog Tryz.f3.params.toList (Tryz.f3.params.toList++(OpenSpec.ofChange Rows.topUnknownIsHonestSpec).bare.plain.varTypes Tryz.prog++Tryz.f3.resultTypes.toList))=true:=andR g_2
set_option maxRecDepth 100000 in
theorem closedF:joinedFacts Tryz.pinned.checked.prog 3 Tryz.f3 (OpenSpec.ofChange Rows.topUnknownIsHonestSpec).bare Rows.topUnknownIsHonestUptoRow=true:=(kC (kC (kC (kC (kC (kC (kC (kC (kC (kC (kC (kC (kC (kC (kC (kC (kC (kC (kC (kC (kC (kC (kC (kC (kC (kC (kC (kC (kC (kC (kC c_wf c_laidOut) c_mapsRowed) c_params) c_tie) c_stops0) c_stops) c_knobs0) c_knobs) c_inPlace) c_unfollowed) c_recurses) c_named) c_maps) c_ifaces) c_mapsOut) c_loops) c_wideKeys) c_vars) c_results) c_ifacesOut) c_loopsOut) c_plainKeys) c_short) c_heard) c_enter) c_lifted) c_make) c_kinds) c_pinned) c_veiled) c_veiledFits)
theorem goesF:false=Rows.topUnknownIsHonestUptoRow.goesBy Tryz.pinned.checked.prog:=by kernel_rfl
theorem looksF:true=Tryz.pinned.checked.prog.looks []:=by kernel_rfl
end Go.Proofs.YtckmiljbaejijaaGreatDoor.topUnknownIsHonest
