/- What the walks and the laws stand on; no condition but those that stand in the statements. -/
import Derived.Test.YtgmikmoapfmedaaGreatDoorCards
import Derived.WalkKit
import Derived.ProofKit
import Derived.LaidSub
import Derived.Deep.DeepHandedRow
import Derived.SizedLaws
namespace Go.Proofs.YtgmikmoapfmedaaGreatDoor.findingClashesMatchSpec
open Go.ChangeShapes Go.WideShapes Go.ChangeAt Go.RowKit
theorem aF {a b:Bool}(ha:a=true)(hb:b=true):(a && b)=true:=by rw [ha,hb]; rfl
theorem gV {a b:Bool}(h:(a && b)=true):a=true:=by cases a<;>simp_all
theorem aT {a b:Bool}(h:(a && b)=true):b=true:=by cases a<;>simp_all
theorem g_0:((Rows.findingClashesMatchSpecRow.inPlace==Tryz.prog.inPlace 3) && (Rows.findingClashesMatchSpecRow.unfollowed==Tryz.prog.unfollowed 3) && (Rows.findingClashesMatchSpecRow.recurses==Tryz.prog.recurses 3) && (Rows.findingClashesMatchSpecRow.named==Tryz.prog.varsNamed 3) && (laidOutB Tryz.prog) && (mapsRowed Tryz.prog) && (Tryz.prog.stopsHeard) && (Rows.findingClashesMatchSpecRow.plainKeys==Tryz.prog.plainKeys))=true:=by kernel_rfl
theorem c_inPlace:(Rows.findingClashesMatchSpecRow.inPlace==Tryz.prog.inPlace 3)=true:=(gV (gV (gV (gV (gV (gV (gV g_0)))))))
theorem aAg:(Rows.findingClashesMatchSpecRow.unfollowed==Tryz.prog.unfollowed 3)=true:=aT (gV (gV (gV (gV (gV (gV g_0))))))
theorem aCy:(Rows.findingClashesMatchSpecRow.recurses==Tryz.prog.recurses 3)=true:=aT (gV (gV (gV (gV (gV g_0)))))
theorem c_named:(Rows.findingClashesMatchSpecRow.named==Tryz.prog.varsNamed 3)=true:=aT (gV (gV (gV (gV g_0))))
theorem wE:(laidOutB Tryz.prog)=true:=aT (gV (gV (gV g_0)))
theorem aBc:(mapsRowed Tryz.prog)=true:=aT (gV (gV g_0))
theorem c_heard:(Tryz.prog.stopsHeard)=true:=aT (gV g_0)
theorem aBq:(Rows.findingClashesMatchSpecRow.plainKeys==Tryz.prog.plainKeys)=true:=aT g_0
theorem g_1:((Tryz.prog.mayEnter) && (Rows.findingClashesMatchSpecRow.lifted==Tryz.prog.liftsFinal))=true:=by kernel_rfl
theorem c_enter:(Tryz.prog.mayEnter)=true:=(gV g_1)
theorem c_lifted:(Rows.findingClashesMatchSpecRow.lifted==Tryz.prog.liftsFinal)=true:=aT g_1
theorem g_2:((Rows.findingClashesMatchSpecRow.wf (OpenSpec.ofChange (OpenSpec.ofChange Rows.findingClashesMatchSpecSpec).bare)) && (Tryz.f3.params.all (Tryz.prog.readableRec ·)) && (namedTie Tryz.prog Rows.findingClashesMatchSpecRow.named (OpenSpec.ofChange Rows.findingClashesMatchSpecSpec).bare.vars) && (Rows.findingClashesMatchSpecRow.stops== []) && (Tryz.prog.stops== []) && (Rows.findingClashesMatchSpecRow.knobs== []) && (Tryz.prog.stopKnobs== []) && (Rows.findingClashesMatchSpecRow.maps==(Tryz.f3.params.toList++(OpenSpec.ofChange Rows.findingClashesMatchSpecSpec).bare.plain.varTypes Tryz.prog).any (Tryz.prog.mapsRec ·)) && (Rows.findingClashesMatchSpecRow.ifaces==(Tryz.f3.params.toList++(OpenSpec.ofChange Rows.findingClashesMatchSpecSpec).bare.plain.varTypes Tryz.prog).any (Tryz.prog.ifacesRec ·)) && (Rows.findingClashesMatchSpecRow.mapsOut==Tryz.prog.mapsAmong Tryz.f3.resultTypes.toList) && (Rows.findingClashesMatchSpecRow.loops==(Tryz.f3.params.toList++(OpenSpec.ofChange Rows.findingClashesMatchSpecSpec).bare.plain.varTypes Tryz.prog).any (Tryz.prog.loopsFrom ·)) && (Rows.findingClashesMatchSpecRow.wideKeys==(Tryz.f3.params.toList++(OpenSpec.ofChange Rows.findingClashesMatchSpecSpec).bare.plain.varTypes Tryz.prog++Tryz.f3.resultTypes.toList).any (Tryz.prog.wideKeysFrom ·)) && ((OpenSpec.ofChange Rows.findingClashesMatchSpecSpec).bare.vars.all (Tryz.prog.varReadable ·)) && (Tryz.f3.resultTypes.all (fun t=>Tryz.prog.readableRec t && decide (t<Tryz.prog.types.size))) && (Rows.findingClashesMatchSpecRow.ifacesOut==Tryz.f3.resultTypes.toList.any (Tryz.prog.ifacesRec ·)) && (Rows.findingClashesMatchSpecRow.loopsOut==Tryz.f3.resultTypes.toList.any (Tryz.prog.loopsFrom ·)) && (Rows.findingClashesMatchSpecRow.shortTexts.isNone) && (Tryz.prog.make==some Rows.findingClashesMatchSpecRow.make) && (Rows.findingClashesMatchSpecRow.kinds==(if Rows.findingClashesMatchSpecRow.domain.isEmpty then [] else Tryz.f3.params.toList.map fun t=>match Tryz.prog.underlying t with | some (.int k)=>some k | _=>none)) && (Rows.findingClashesMatchSpecRow.pinned==Rows.findingClashesMatchSpecRow.pinnedBy) && (Rows.findingClashesMatchSpecRow.veiled==(Tryz.f3.params.toList++(OpenSpec.ofChange Rows.findingClashesMatchSpecSpec).bare.plain.varTypes Tryz.prog++Tryz.f3.resultTypes.toList).any (Tryz.prog.veiledRec ·)) && (Rows.findingClashesMatchSpecRow.veiledFits Tryz.prog Tryz.f3.params.toList (Tryz.f3.params.toList++(OpenSpec.ofChange Rows.findingClashesMatchSpecSpec).bare.plain.varTypes Tryz.prog++Tryz.f3.resultTypes.toList)))=true:=by kernel_rfl
theorem c_wf:(Rows.findingClashesMatchSpecRow.wf (OpenSpec.ofChange (OpenSpec.ofChange Rows.findingClashesMatchSpecSpec).bare))=true:=(gV (gV (gV (gV (gV (gV (gV (gV (gV (gV (gV (gV (gV (gV (gV (gV (gV (gV (gV (gV (gV g_2)))))))))))))))))))))
theorem c_params:(Tryz.f3.params.all (Tryz.prog.readableRec ·))=true:=aT (gV (gV (gV (gV (gV (gV (gV (gV (gV (gV (gV (gV (gV (gV (gV (gV (gV (gV (gV (gV g_2))))))))))))))))))))
theorem c_tie:(namedTie Tryz.prog Rows.findingClashesMatchSpecRow.named (OpenSpec.ofChange Rows.findingClashesMatchSpecSpec).bare.vars)=true:=aT (gV (gV (gV (gV (gV (gV (gV (gV (gV (gV (gV (gV (gV (gV (gV (gV (gV (gV (gV g_2)))))))))))))))))))
theorem c_stops0:(Rows.findingClashesMatchSpecRow.stops== [])=true:=aT (gV (gV (gV (gV (gV (gV (gV (gV (gV (gV (gV (gV (gV (gV (gV (gV (gV (gV g_2))))))))))))))))))
theorem c_stops:(Tryz.prog.stops== [])=true:=aT (gV (gV (gV (gV (gV (gV (gV (gV (gV (gV (gV (gV (gV (gV (gV (gV (gV g_2)))))))))))))))))
theorem c_knobs0:(Rows.findingClashesMatchSpecRow.knobs== [])=true:=aT (gV (gV (gV (gV (gV (gV (gV (gV (gV (gV (gV (gV (gV (gV (gV (gV g_2))))))))))))))))
theorem c_knobs:(Tryz.prog.stopKnobs== [])=true:=aT (gV (gV (gV (gV (gV (gV (gV (gV (gV (gV (gV (gV (gV (gV (gV g_2)))))))))))))))
theorem c_maps:(Rows.findingClashesMatchSpecRow.maps==(Tryz.f3.params.toList++(OpenSpec.ofChange Rows.findingClashesMatchSpecSpec).bare.plain.varTypes Tryz.prog).any (Tryz.prog.mapsRec ·))=true:=aT (gV (gV (gV (gV (gV (gV (gV (gV (gV (gV (gV (gV (gV (gV g_2))))))))))))))
theorem c_ifaces:(Rows.findingClashesMatchSpecRow.ifaces==(Tryz.f3.params.toList++(OpenSpec.ofChange Rows.findingClashesMatchSpecSpec).bare.plain.varTypes Tryz.prog).any (Tryz.prog.ifacesRec ·))=true:=aT (gV (gV (gV (gV (gV (gV (gV (gV (gV (gV (gV (gV (gV g_2)))))))))))))
theorem c_mapsOut:(Rows.findingClashesMatchSpecRow.mapsOut==Tryz.prog.mapsAmong Tryz.f3.resultTypes.toList)=true:=aT (gV (gV (gV (gV (gV (gV (gV (gV (gV (gV (gV (gV g_2))))))))))))
theorem c_loops:(Rows.findingClashesMatchSpecRow.loops==(Tryz.f3.params.toList++(OpenSpec.ofChange Rows.findingClashesMatchSpecSpec).bare.plain.varTypes Tryz.prog).any (Tryz.prog.loopsFrom ·))=true:=aT (gV (gV (gV (gV (gV (gV (gV (gV (gV (gV (gV g_2)))))))))))
theorem aCz:(Rows.findingClashesMatchSpecRow.wideKeys==(Tryz.f3.params.toList++(OpenSpec.ofChange Rows.findingClashesMatchSpecSpec).bare.plain.varTypes Tryz.prog++Tryz.f3.resultTypes.toList).any (Tryz.prog.wideKeysFrom ·))=true:=aT (gV (gV (gV (gV (gV (gV (gV (gV (gV (gV g_2))))))))))
theorem c_vars:((OpenSpec.ofChange Rows.findingClashesMatchSpecSpec).bare.vars.all (Tryz.prog.varReadable ·))=true:=aT (gV (gV (gV (gV (gV (gV (gV (gV (gV g_2)))))))))
theorem c_results:(Tryz.f3.resultTypes.all (fun t=>Tryz.prog.readableRec t && decide (t<Tryz.prog.types.size)))=true:=aT (gV (gV (gV (gV (gV (gV (gV (gV g_2))))))))
theorem aBd:(Rows.findingClashesMatchSpecRow.ifacesOut==Tryz.f3.resultTypes.toList.any (Tryz.prog.ifacesRec ·))=true:=aT (gV (gV (gV (gV (gV (gV (gV g_2)))))))
theorem aCr:(Rows.findingClashesMatchSpecRow.loopsOut==Tryz.f3.resultTypes.toList.any (Tryz.prog.loopsFrom ·))=true:=aT (gV (gV (gV (gV (gV (gV g_2))))))
theorem c_short:(Rows.findingClashesMatchSpecRow.shortTexts.isNone)=true:=aT (gV (gV (gV (gV (gV g_2)))))
theorem c_make:(Tryz.prog.make==some Rows.findingClashesMatchSpecRow.make)=true:=aT (gV (gV (gV (gV g_2))))
theorem c_kinds:(Rows.findingClashesMatchSpecRow.kinds==(if Rows.findingClashesMatchSpecRow.domain.isEmpty then [] else Tryz.f3.params.toList.map fun t=>match Tryz.prog.underlying t with | some (.int k)=>some k | _=>none))=true:=aT (gV (gV (gV g_2)))
theorem c_pinned:(Rows.findingClashesMatchSpecRow.pinned==Rows.findingClashesMatchSpecRow.pinnedBy)=true:=aT (gV (gV g_2))
theorem c_veiled:(Rows.findingClashesMatchSpecRow.veiled==(Tryz.f3.params.toList++(OpenSpec.ofChange Rows.findingClashesMatchSpecSpec).bare.plain.varTypes Tryz.prog++Tryz.f3.resultTypes.toList).any (Tryz.prog.veiledRec ·))=true:=aT (gV g_2)
theorem aAq:(Rows.findingClashesMatchSpecRow.veiledFits Tryz.prog Tryz.f3.params.toList (Tryz.f3.params.toList++(OpenSpec.ofChange Rows.findingClashesMatchSpecSpec).bare.plain.varTypes Tryz.prog++Tryz.f3.resultTypes.toList))=true:=aT g_2
set_option maxRecDepth 100000 in
theorem closedF:joinedFacts Tryz.pinned.checked.prog 3 Tryz.f3 (OpenSpec.ofChange Rows.findingClashesMatchSpecSpec).bare Rows.findingClashesMatchSpecRow=true:=(aF (aF (aF (aF (aF (aF (aF (aF (aF (aF (aF (aF (aF (aF (aF (aF (aF (aF (aF (aF (aF (aF (aF (aF (aF (aF (aF (aF (aF (aF (aF c_wf wE) aBc) c_params) c_tie) c_stops0) c_stops) c_knobs0) c_knobs) c_inPlace) aAg) aCy) c_named) c_maps) c_ifaces) c_mapsOut) c_loops) aCz) c_vars) c_results) aBd) aCr) aBq) c_short) c_heard) c_enter) c_lifted) c_make) c_kinds) c_pinned) c_veiled) aAq)
theorem goesF:false=Rows.findingClashesMatchSpecRow.goesBy Tryz.pinned.checked.prog:=by kernel_rfl
theorem looksF:true=Tryz.pinned.checked.prog.looks []:=by kernel_rfl
end Go.Proofs.YtgmikmoapfmedaaGreatDoor.findingClashesMatchSpec
