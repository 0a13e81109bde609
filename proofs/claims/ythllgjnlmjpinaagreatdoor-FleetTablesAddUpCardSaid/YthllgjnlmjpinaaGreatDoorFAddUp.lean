/- What the walks and the laws stand on; no condition but those that stand in the statements. -/
import Derived.Test.YthllgjnlmjpinaaGreatDoorCards
import Derived.WalkKit
import Derived.ProofKit
import Derived.LaidSub
import Derived.Deep.DeepHandedRow
import Derived.SizedLaws
namespace Go.Proofs.YthllgjnlmjpinaaGreatDoor.fleetTablesAddUp
open Go.ChangeShapes Go.WideShapes Go.ChangeAt Go.RowKit
theorem kQ {a b:Bool}(ha:a=true)(hb:b=true):(a && b)=true:=by rw [ha,hb]; rfl
theorem gW {a b:Bool}(h:(a && b)=true):a=true:=by cases a<;>simp_all
theorem jI {a b:Bool}(h:(a && b)=true):b=true:=by cases a<;>simp_all
theorem g_0:((Rows.fleetTablesAddUpRow.inPlace==Tryz.prog.inPlace 4) && (Rows.fleetTablesAddUpRow.unfollowed==Tryz.prog.unfollowed 4) && (Rows.fleetTablesAddUpRow.recurses==Tryz.prog.recurses 4) && (Rows.fleetTablesAddUpRow.named==Tryz.prog.varsNamed 4) && (laidOutB Tryz.prog) && (mapsRowed Tryz.prog) && (Tryz.prog.stopsHeard) && (Rows.fleetTablesAddUpRow.plainKeys==Tryz.prog.plainKeys))=true:=by kernel_rfl
theorem c_inPlace:(Rows.fleetTablesAddUpRow.inPlace==Tryz.prog.inPlace 4)=true:=(gW (gW (gW (gW (gW (gW (gW g_0)))))))
theorem aIl:(Rows.fleetTablesAddUpRow.unfollowed==Tryz.prog.unfollowed 4)=true:=jI (gW (gW (gW (gW (gW (gW g_0))))))
theorem aNy:(Rows.fleetTablesAddUpRow.recurses==Tryz.prog.recurses 4)=true:=jI (gW (gW (gW (gW (gW g_0)))))
theorem c_named:(Rows.fleetTablesAddUpRow.named==Tryz.prog.varsNamed 4)=true:=jI (gW (gW (gW (gW g_0))))
theorem aGs:(laidOutB Tryz.prog)=true:=jI (gW (gW (gW g_0)))
theorem aMt:(mapsRowed Tryz.prog)=true:=jI (gW (gW g_0))
theorem c_heard:(Tryz.prog.stopsHeard)=true:=jI (gW g_0)
theorem aKg:(Rows.fleetTablesAddUpRow.plainKeys==Tryz.prog.plainKeys)=true:=jI g_0
theorem g_1:((Tryz.prog.mayEnter) && (Rows.fleetTablesAddUpRow.lifted==Tryz.prog.liftsFinal))=true:=by kernel_rfl
theorem c_enter:(Tryz.prog.mayEnter)=true:=(gW g_1)
theorem c_lifted:(Rows.fleetTablesAddUpRow.lifted==Tryz.prog.liftsFinal)=true:=jI g_1
theorem g_2:((Rows.fleetTablesAddUpRow.wf (OpenSpec.ofChange (OpenSpec.ofChange Rows.fleetTablesAddUpSpec).bare)) && (Tryz.f4.params.all (Tryz.prog.readableRec ·)) && (namedTie Tryz.prog Rows.fleetTablesAddUpRow.named (OpenSpec.ofChange Rows.fleetTablesAddUpSpec).bare.vars) && (Rows.fleetTablesAddUpRow.stops== []) && (Tryz.prog.stops== []) && (Rows.fleetTablesAddUpRow.knobs== []) && (Tryz.prog.stopKnobs== []) && (Rows.fleetTablesAddUpRow.maps==(Tryz.f4.params.toList++(OpenSpec.ofChange Rows.fleetTablesAddUpSpec).bare.plain.varTypes Tryz.prog).any (Tryz.prog.mapsRec ·)) && (Rows.fleetTablesAddUpRow.ifaces==(Tryz.f4.params.toList++(OpenSpec.ofChange Rows.fleetTablesAddUpSpec).bare.plain.varTypes Tryz.prog).any (Tryz.prog.ifacesRec ·)) && (Rows.fleetTablesAddUpRow.mapsOut==Tryz.prog.mapsAmong Tryz.f4.resultTypes.toList) && (Rows.fleetTablesAddUpRow.loops==(Tryz.f4.params.toList++(OpenSpec.ofChange Rows.fleetTablesAddUpSpec).bare.plain.varTypes Tryz.prog).any (Tryz.prog.loopsFrom ·)) && (Rows.fleetTablesAddUpRow.wideKeys==(Tryz.f4.params.toList++(OpenSpec.ofChange Rows.fleetTablesAddUpSpec).bare.plain.varTypes Tryz.prog++Tryz.f4.resultTypes.toList).any (Tryz.prog.wideKeysFrom ·)) && ((OpenSpec.ofChange Rows.fleetTablesAddUpSpec).bare.vars.all (Tryz.prog.varReadable ·)) && (Tryz.f4.resultTypes.all (fun t=>Tryz.prog.readableRec t && decide (t<Tryz.prog.types.size))) && (Rows.fleetTablesAddUpRow.ifacesOut==Tryz.f4.resultTypes.toList.any (Tryz.prog.ifacesRec ·)) && (Rows.fleetTablesAddUpRow.loopsOut==Tryz.f4.resultTypes.toList.any (Tryz.prog.loopsFrom ·)) && (Rows.fleetTablesAddUpRow.shortTexts.isNone) && (Tryz.prog.make==some Rows.fleetTablesAddUpRow.make) && (Rows.fleetTablesAddUpRow.kinds==(if Rows.fleetTablesAddUpRow.domain.isEmpty then [] else Tryz.f4.params.toList.map fun t=>match Tryz.prog.underlying t with | some (.int k)=>some k | _=>none)) && (Rows.fleetTablesAddUpRow.pinned==Rows.fleetTablesAddUpRow.pinnedBy) && (Rows.fleetTablesAddUpRow.veiled==(Tryz.f4.params.toList++(OpenSpec.ofChange Rows.fleetTablesAddUpSpec).bare.plain.varTypes Tryz.prog++Tryz.f4.resultTypes.toList).any (Tryz.prog.veiledRec ·)) && (Rows.fleetTablesAddUpRow.veiledFits Tryz.prog Tryz.f4.params.toList (Tryz.f4.params.toList++(OpenSpec.ofChange Rows.fleetTablesAddUpSpec).bare.plain.varTypes Tryz.prog++Tryz.f4.resultTypes.toList)))=true:=by kernel_rfl
theorem c_wf:(Rows.fleetTablesAddUpRow.wf (OpenSpec.ofChange (OpenSpec.ofChange Rows.fleetTablesAddUpSpec).bare))=true:=(gW (gW (gW (gW (gW (gW (gW (gW (gW (gW (gW (gW (gW (gW (gW (gW (gW (gW (gW (gW (gW g_2)))))))))))))))))))))
theorem c_params:(Tryz.f4.params.all (Tryz.prog.readableRec ·))=true:=jI (gW (gW (gW (gW (gW (gW (gW (gW (gW (gW (gW (gW (gW (gW (gW (gW (gW (gW (gW (gW g_2))))))))))))))))))))
theorem c_tie:(namedTie Tryz.prog Rows.fleetTablesAddUpRow.named (OpenSpec.ofChange Rows.fleetTablesAddUpSpec).bare.vars)=true:=jI (gW (gW (gW (gW (gW (gW (gW (gW (gW (gW (gW (gW (gW (gW (gW (gW (gW (gW (gW g_2)))))))))))))))))))
theorem c_stops0:(Rows.fleetTablesAddUpRow.stops== [])=true:=jI (gW (gW (gW (gW (gW (gW (gW (gW (gW (gW (gW (gW (gW (gW (gW (gW (gW (gW g_2))))))))))))))))))
theorem c_stops:(Tryz.prog.stops== [])=true:=jI (gW (gW (gW (gW (gW (gW (gW (gW (gW (gW (gW (gW (gW (gW (gW (gW (gW g_2)))))))))))))))))
theorem c_knobs0:(Rows.fleetTablesAddUpRow.knobs== [])=true:=jI (gW (gW (gW (gW (gW (gW (gW (gW (gW (gW (gW (gW (gW (gW (gW (gW g_2))))))))))))))))
theorem c_knobs:(Tryz.prog.stopKnobs== [])=true:=jI (gW (gW (gW (gW (gW (gW (gW (gW (gW (gW (gW (gW (gW (gW (gW g_2)))))))))))))))
theorem c_maps:(Rows.fleetTablesAddUpRow.maps==(Tryz.f4.params.toList++(OpenSpec.ofChange Rows.fleetTablesAddUpSpec).bare.plain.varTypes Tryz.prog).any (Tryz.prog.mapsRec ·))=true:=jI (gW (gW (gW (gW (gW (gW (gW (gW (gW (gW (gW (gW (gW (gW g_2))))))))))))))
theorem c_ifaces:(Rows.fleetTablesAddUpRow.ifaces==(Tryz.f4.params.toList++(OpenSpec.ofChange Rows.fleetTablesAddUpSpec).bare.plain.varTypes Tryz.prog).any (Tryz.prog.ifacesRec ·))=true:=jI (gW (gW (gW (gW (gW (gW (gW (gW (gW (gW (gW (gW (gW g_2)))))))))))))
theorem c_mapsOut:(Rows.fleetTablesAddUpRow.mapsOut==Tryz.prog.mapsAmong Tryz.f4.resultTypes.toList)=true:=jI (gW (gW (gW (gW (gW (gW (gW (gW (gW (gW (gW (gW g_2))))))))))))
theorem c_loops:(Rows.fleetTablesAddUpRow.loops==(Tryz.f4.params.toList++(OpenSpec.ofChange Rows.fleetTablesAddUpSpec).bare.plain.varTypes Tryz.prog).any (Tryz.prog.loopsFrom ·))=true:=jI (gW (gW (gW (gW (gW (gW (gW (gW (gW (gW (gW g_2)))))))))))
theorem aOc:(Rows.fleetTablesAddUpRow.wideKeys==(Tryz.f4.params.toList++(OpenSpec.ofChange Rows.fleetTablesAddUpSpec).bare.plain.varTypes Tryz.prog++Tryz.f4.resultTypes.toList).any (Tryz.prog.wideKeysFrom ·))=true:=jI (gW (gW (gW (gW (gW (gW (gW (gW (gW (gW g_2))))))))))
theorem c_vars:((OpenSpec.ofChange Rows.fleetTablesAddUpSpec).bare.vars.all (Tryz.prog.varReadable ·))=true:=jI (gW (gW (gW (gW (gW (gW (gW (gW (gW g_2)))))))))
theorem c_results:(Tryz.f4.resultTypes.all (fun t=>Tryz.prog.readableRec t && decide (t<Tryz.prog.types.size)))=true:=jI (gW (gW (gW (gW (gW (gW (gW (gW g_2))))))))
theorem aKv:(Rows.fleetTablesAddUpRow.ifacesOut==Tryz.f4.resultTypes.toList.any (Tryz.prog.ifacesRec ·))=true:=jI (gW (gW (gW (gW (gW (gW (gW g_2)))))))
theorem aOt:(Rows.fleetTablesAddUpRow.loopsOut==Tryz.f4.resultTypes.toList.any (Tryz.prog.loopsFrom ·))=true:=jI (gW (gW (gW (gW (gW (gW g_2))))))
theorem c_short:(Rows.fleetTablesAddUpRow.shortTexts.isNone)=true:=jI (gW (gW (gW (gW (gW g_2)))))
theorem c_make:(Tryz.prog.make==some Rows.fleetTablesAddUpRow.make)=true:=jI (gW (gW (gW (gW g_2))))
theorem c_kinds:(Rows.fleetTablesAddUpRow.kinds==(if Rows.fleetTablesAddUpRow.domain.isEmpty then [] else Tryz.f4.params.toList.map fun t=>match Tryz.prog.underlying t with | some (.int k)=>some k | _=>none))=true:=jI (gW (gW (gW g_2)))
theorem c_pinned:(Rows.fleetTablesAddUpRow.pinned==Rows.fleetTablesAddUpRow.pinnedBy)=true:=jI (gW (gW g_2))
theorem c_veiled:(Rows.fleetTablesAddUpRow.veiled==(Tryz.f4.params.toList++(OpenSpec.ofChange Rows.fleetTablesAddUpSpec).bare.plain.varTypes Tryz.prog++Tryz.f4.resultTypes.toList).any (Tryz.prog.veiledRec ·))=true:=jI (gW g_2)
theorem aJh:(Rows.fleetTablesAddUpRow.veiledFits Tryz.prog Tryz.f4.params.toList (Tryz.f4.params.toList++(OpenSpec.ofChange Rows.fleetTablesAddUpSpec).bare.plain.varTypes Tryz.prog++Tryz.f4.resultTypes.toList))=true:=jI g_2
set_option maxRecDepth 100000 in
theorem closedF:joinedFacts Tryz.pinned.checked.prog 4 Tryz.f4 (OpenSpec.ofChange Rows.fleetTablesAddUpSpec).bare Rows.fleetTablesAddUpRow=true:=(kQ (kQ (kQ (kQ (kQ (kQ (kQ (kQ (kQ (kQ (kQ (kQ (kQ (kQ (kQ (kQ (kQ (kQ (kQ (kQ (kQ (kQ (kQ (kQ (kQ (kQ (kQ (kQ (kQ (kQ (kQ c_wf aGs) aMt) c_params) c_tie) c_stops0) c_stops) c_knobs0) c_knobs) c_inPlace) aIl) aNy) c_named) c_maps) c_ifaces) c_mapsOut) c_loops) aOc) c_vars) c_results) aKv) aOt) aKg) c_short) c_heard) c_enter) c_lifted) c_make) c_kinds) c_pinned) c_veiled) aJh)
theorem goesF:false=Rows.fleetTablesAddUpRow.goesBy Tryz.pinned.checked.prog:=by kernel_rfl
theorem looksF:false=Tryz.pinned.checked.prog.looks []:=by kernel_rfl
end Go.Proofs.YthllgjnlmjpinaaGreatDoor.fleetTablesAddUp
