/- What the walks and the laws stand on; no condition but those that stand in the statements. -/
import Derived.Test.YthllgjnlmjpinaaGreatDoorCards
import Derived.WalkKit
import Derived.ProofKit
import Derived.LaidSub
import Derived.Deep.DeepHandedRow
import Derived.SizedLaws
namespace Go.Proofs.YthllgjnlmjpinaaGreatDoor.fleetFewAreHidden
open Go.ChangeShapes Go.WideShapes Go.ChangeAt Go.RowKit
theorem kG {a b:Bool}(ha:a=true)(hb:b=true):(a && b)=true:=by rw [ha,hb]; rfl
theorem gV {a b:Bool}(h:(a && b)=true):a=true:=by cases a<;>simp_all
theorem kY {a b:Bool}(h:(a && b)=true):b=true:=by cases a<;>simp_all
theorem g_0:((Rows.fleetFewAreHiddenRow.inPlace==Tryz.prog.inPlace 3) && (Rows.fleetFewAreHiddenRow.unfollowed==Tryz.prog.unfollowed 3) && (Rows.fleetFewAreHiddenRow.recurses==Tryz.prog.recurses 3) && (Rows.fleetFewAreHiddenRow.named==Tryz.prog.varsNamed 3) && (laidOutB Tryz.prog) && (mapsRowed Tryz.prog) && (Tryz.prog.stopsHeard) && (Rows.fleetFewAreHiddenRow.plainKeys==Tryz.prog.plainKeys))=true:=by kernel_rfl
theorem c_inPlace:(Rows.fleetFewAreHiddenRow.inPlace==Tryz.prog.inPlace 3)=true:=(gV (gV (gV (gV (gV (gV (gV g_0)))))))
theorem aGy:(Rows.fleetFewAreHiddenRow.unfollowed==Tryz.prog.unfollowed 3)=true:=kY (gV (gV (gV (gV (gV (gV g_0))))))
theorem aMc:(Rows.fleetFewAreHiddenRow.recurses==Tryz.prog.recurses 3)=true:=kY (gV (gV (gV (gV (gV g_0)))))
theorem c_named:(Rows.fleetFewAreHiddenRow.named==Tryz.prog.varsNamed 3)=true:=kY (gV (gV (gV (gV g_0))))
theorem aFs:(laidOutB Tryz.prog)=true:=kY (gV (gV (gV g_0)))
theorem aJm:(mapsRowed Tryz.prog)=true:=kY (gV (gV g_0))
theorem c_heard:(Tryz.prog.stopsHeard)=true:=kY (gV g_0)
theorem aLg:(Rows.fleetFewAreHiddenRow.plainKeys==Tryz.prog.plainKeys)=true:=kY g_0
theorem g_1:((Tryz.prog.mayEnter) && (Rows.fleetFewAreHiddenRow.lifted==Tryz.prog.liftsFinal))=true:=by kernel_rfl
theorem c_enter:(Tryz.prog.mayEnter)=true:=(gV g_1)
theorem c_lifted:(Rows.fleetFewAreHiddenRow.lifted==Tryz.prog.liftsFinal)=true:=kY g_1
theorem g_2:((Rows.fleetFewAreHiddenRow.wf (OpenSpec.ofChange (OpenSpec.ofChange Rows.fleetFewAreHiddenSpec).bare)) && (Tryz.f3.params.all (Tryz.prog.readableRec ·)) && (namedTie Tryz.prog Rows.fleetFewAreHiddenRow.named (OpenSpec.ofChange Rows.fleetFewAreHiddenSpec).bare.vars) && (Rows.fleetFewAreHiddenRow.stops== []) && (Tryz.prog.stops== []) && (Rows.fleetFewAreHiddenRow.knobs== []) && (Tryz.prog.stopKnobs== []) && (Rows.fleetFewAreHiddenRow.maps==(Tryz.f3.params.toList++(OpenSpec.ofChange Rows.fleetFewAreHiddenSpec).bare.plain.varTypes Tryz.prog).any (Tryz.prog.mapsRec ·)) && (Rows.fleetFewAreHiddenRow.ifaces==(Tryz.f3.params.toList++(OpenSpec.ofChange Rows.fleetFewAreHiddenSpec).bare.plain.varTypes Tryz.prog).any (Tryz.prog.ifacesRec ·)) && (Rows.fleetFewAreHiddenRow.mapsOut==Tryz.prog.mapsAmong Tryz.f3.resultTypes.toList) && (Rows.fleetFewAreHiddenRow.loops==(Tryz.f3.params.toList++(OpenSpec.ofChange Rows.fleetFewAreHiddenSpec).bare.plain.varTypes Tryz.prog).any (Tryz.prog.loopsFrom ·)) && (Rows.fleetFewAreHiddenRow.wideKeys==(Tryz.f3.params.toList++(OpenSpec.ofChange Rows.fleetFewAreHiddenSpec).bare.plain.varTypes Tryz.prog++Tryz.f3.resultTypes.toList).any (Tryz.prog.wideKeysFrom ·)) && ((OpenSpec.ofChange Rows.fleetFewAreHiddenSpec).bare.vars.all (Tryz.prog.varReadable ·)) && (Tryz.f3.resultTypes.all (fun t=>Tryz.prog.readableRec t && decide (t<Tryz.prog.types.size))) && (Rows.fleetFewAreHiddenRow.ifacesOut==Tryz.f3.resultTypes.toList.any (Tryz.prog.ifacesRec ·)) && (Rows.fleetFewAreHiddenRow.loopsOut==Tryz.f3.resultTypes.toList.any (Tryz.prog.loopsFrom ·)) && (Rows.fleetFewAreHiddenRow.shortTexts.isNone) && (Tryz.prog.make==some Rows.fleetFewAreHiddenRow.make) && (Rows.fleetFewAreHiddenRow.kinds==(if Rows.fleetFewAreHiddenRow.domain.isEmpty then [] else Tryz.f3.params.toList.map fun t=>match Tryz.prog.underlying t with | some (.int k)=>some k | _=>none)) && (Rows.fleetFewAreHiddenRow.pinned==Rows.fleetFewAreHiddenRow.pinnedBy) && (Rows.fleetFewAreHiddenRow.veiled==(Tryz.f3.params.toList++(OpenSpec.ofChange Rows.fleetFewAreHiddenSpec).bare.plain.varTypes Tryz.prog++Tryz.f3.resultTypes.toList).any (Tryz.prog.veiledRec ·)) && (Rows.fleetFewAreHiddenRow.veiledFits Tryz.prog Tryz.f3.params.toList (Tryz.f3.params.toList++(OpenSpec.ofChange Rows.fleetFewAreHiddenSpec).bare.plain.varTypes Tryz.prog++Tryz.f3.resultTypes.toList)))=true:=by kernel_rfl
theorem c_wf:(Rows.fleetFewAreHiddenRow.wf (OpenSpec.ofChange (OpenSpec.ofChange Rows.fleetFewAreHiddenSpec).bare))=true:=(gV (gV (gV (gV (gV (gV (gV (gV (gV (gV (gV (gV (gV (gV (gV (gV (gV (gV (gV (gV (gV g_2)))))))))))))))))))))
theorem c_params:(Tryz.f3.params.all (Tryz.prog.readableRec ·))=true:=kY (gV (gV (gV (gV (gV (gV (gV (gV (gV (gV (gV (gV (gV (gV (gV (gV (gV (gV (gV (gV g_2))))))))))))))))))))
theorem c_tie:(namedTie Tryz.prog Rows.fleetFewAreHiddenRow.named (OpenSpec.ofChange Rows.fleetFewAreHiddenSpec).bare.vars)=true:=kY (gV (gV (gV (gV (gV (gV (gV (gV (gV (gV (gV (gV (gV (gV (gV (gV (gV (gV (gV g_2)))))))))))))))))))
theorem c_stops0:(Rows.fleetFewAreHiddenRow.stops== [])=true:=kY (gV (gV (gV (gV (gV (gV (gV (gV (gV (gV (gV (gV (gV (gV (gV (gV (gV (gV g_2))))))))))))))))))
theorem c_stops:(Tryz.prog.stops== [])=true:=kY (gV (gV (gV (gV (gV (gV (gV (gV (gV (gV (gV (gV (gV (gV (gV (gV (gV g_2)))))))))))))))))
theorem c_knobs0:(Rows.fleetFewAreHiddenRow.knobs== [])=true:=kY (gV (gV (gV (gV (gV (gV (gV (gV (gV (gV (gV (gV (gV (gV (gV (gV g_2))))))))))))))))
theorem c_knobs:(Tryz.prog.stopKnobs== [])=true:=kY (gV (gV (gV (gV (gV (gV (gV (gV (gV (gV (gV (gV (gV (gV (gV g_2)))))))))))))))
theorem c_maps:(Rows.fleetFewAreHiddenRow.maps==(Tryz.f3.params.toList++(OpenSpec.ofChange Rows.fleetFewAreHiddenSpec).bare.plain.varTypes Tryz.prog).any (Tryz.prog.mapsRec ·))=true:=kY (gV (gV (gV (gV (gV (gV (gV (gV (gV (gV (gV (gV (gV (gV g_2))))))))))))))
theorem c_ifaces:(Rows.fleetFewAreHiddenRow.ifaces==(Tryz.f3.params.toList++(OpenSpec.ofChange Rows.fleetFewAreHiddenSpec).bare.plain.varTypes Tryz.prog).any (Tryz.prog.ifacesRec ·))=true:=kY (gV (gV (gV (gV (gV (gV (gV (gV (gV (gV (gV (gV (gV g_2)))))))))))))
theorem c_mapsOut:(Rows.fleetFewAreHiddenRow.mapsOut==Tryz.prog.mapsAmong Tryz.f3.resultTypes.toList)=true:=kY (gV (gV (gV (gV (gV (gV (gV (gV (gV (gV (gV (gV g_2))))))))))))
theorem c_loops:(Rows.fleetFewAreHiddenRow.loops==(Tryz.f3.params.toList++(OpenSpec.ofChange Rows.fleetFewAreHiddenSpec).bare.plain.varTypes Tryz.prog).any (Tryz.prog.loopsFrom ·))=true:=kY (gV (gV (gV (gV (gV (gV (gV (gV (gV (gV (gV g_2)))))))))))
theorem aNq:(Rows.fleetFewAreHiddenRow.wideKeys==(Tryz.f3.params.toList++(OpenSpec.ofChange Rows.fleetFewAreHiddenSpec).bare.plain.varTypes Tryz.prog++Tryz.f3.resultTypes.toList).any (Tryz.prog.wideKeysFrom ·))=true:=kY (gV (gV (gV (gV (gV (gV (gV (gV (gV (gV g_2))))))))))
theorem c_vars:((OpenSpec.ofChange Rows.fleetFewAreHiddenSpec).bare.vars.all (Tryz.prog.varReadable ·))=true:=kY (gV (gV (gV (gV (gV (gV (gV (gV (gV g_2)))))))))
theorem c_results:(Tryz.f3.resultTypes.all (fun t=>Tryz.prog.readableRec t && decide (t<Tryz.prog.types.size)))=true:=kY (gV (gV (gV (gV (gV (gV (gV (gV g_2))))))))
theorem aLk:(Rows.fleetFewAreHiddenRow.ifacesOut==Tryz.f3.resultTypes.toList.any (Tryz.prog.ifacesRec ·))=true:=kY (gV (gV (gV (gV (gV (gV (gV g_2)))))))
theorem aMd:(Rows.fleetFewAreHiddenRow.loopsOut==Tryz.f3.resultTypes.toList.any (Tryz.prog.loopsFrom ·))=true:=kY (gV (gV (gV (gV (gV (gV g_2))))))
theorem c_short:(Rows.fleetFewAreHiddenRow.shortTexts.isNone)=true:=kY (gV (gV (gV (gV (gV g_2)))))
theorem c_make:(Tryz.prog.make==some Rows.fleetFewAreHiddenRow.make)=true:=kY (gV (gV (gV (gV g_2))))
theorem c_kinds:(Rows.fleetFewAreHiddenRow.kinds==(if Rows.fleetFewAreHiddenRow.domain.isEmpty then [] else Tryz.f3.params.toList.map fun t=>match Tryz.prog.underlying t with | some (.int k)=>some k | _=>none))=true:=kY (gV (gV (gV g_2)))
theorem c_pinned:(Rows.fleetFewAreHiddenRow.pinned==Rows.fleetFewAreHiddenRow.pinnedBy)=true:=kY (gV (gV g_2))
theorem c_veiled:(Rows.fleetFewAreHiddenRow.veiled==(Tryz.f3.params.toList++(OpenSpec.ofChange Rows.fleetFewAreHiddenSpec).bare.plain.varTypes Tryz.prog++Tryz.f3.resultTypes.toList).any (Tryz.prog.veiledRec ·))=true:=kY (gV g_2)
theorem aIc:(Rows.fleetFewAreHiddenRow.veiledFits Tryz.prog Tryz.f3.params.toList (Tryz.f3.params.toList++(OpenSpec.ofChange Rows.fleetFewAreHiddenSpec).bare.plain.varTypes Tryz.prog++Tryz.f3.resultTypes.toList))=true:=kY g_2
set_option maxRecDepth 100000 in
theorem closedF:joinedFacts Tryz.pinned.checked.prog 3 Tryz.f3 (OpenSpec.ofChange Rows.fleetFewAreHiddenSpec).bare Rows.fleetFewAreHiddenRow=true:=(kG (kG (kG (kG (kG (kG (kG (kG (kG (kG (kG (kG (kG (kG (kG (kG (kG (kG (kG (kG (kG (kG (kG (kG (kG (kG (kG (kG (kG (kG (kG c_wf aFs) aJm) c_params) c_tie) c_stops0) c_stops) c_knobs0) c_knobs) c_inPlace) aGy) aMc) c_named) c_maps) c_ifaces) c_mapsOut) c_loops) aNq) c_vars) c_results) aLk) aMd) aLg) c_short) c_heard) c_enter) c_lifted) c_make) c_kinds) c_pinned) c_veiled) aIc)
theorem goesF:false=Rows.fleetFewAreHiddenRow.goesBy Tryz.pinned.checked.prog:=by kernel_rfl
theorem looksF:false=Tryz.pinned.checked.prog.looks []:=by kernel_rfl
end Go.Proofs.YthllgjnlmjpinaaGreatDoor.fleetFewAreHidden
