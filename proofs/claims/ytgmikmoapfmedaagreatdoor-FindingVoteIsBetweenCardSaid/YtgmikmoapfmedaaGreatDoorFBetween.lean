/- What the walks and the laws stand on; no condition but those that stand in the statements. -/
import Derived.Test.YtgmikmoapfmedaaGreatDoorCards
import Derived.WalkKit
import Derived.ProofKit
import Derived.LaidSub
import Derived.Deep.DeepHandedRow
import Derived.SizedLaws
namespace Go.Proofs.YtgmikmoapfmedaaGreatDoor.findingVoteIsBetween
open Go.ChangeShapes Go.WideShapes Go.ChangeAt Go.RowKit
theorem aJ {a b:Bool}(ha:a=true)(hb:b=true):(a && b)=true:=by rw [ha,hb]; rfl
theorem gU {a b:Bool}(h:(a && b)=true):a=true:=by cases a<;>simp_all
theorem aY {a b:Bool}(h:(a && b)=true):b=true:=by cases a<;>simp_all
theorem g_0:((Rows.findingVoteIsBetweenRow.inPlace==Tryz.prog.inPlace 4) && (Rows.findingVoteIsBetweenRow.unfollowed==Tryz.prog.unfollowed 4) && (Rows.findingVoteIsBetweenRow.recurses==Tryz.prog.recurses 4) && (Rows.findingVoteIsBetweenRow.named==Tryz.prog.varsNamed 4) && (laidOutB Tryz.prog) && (mapsRowed Tryz.prog) && (Tryz.prog.stopsHeard) && (Rows.findingVoteIsBetweenRow.plainKeys==Tryz.prog.plainKeys))=true:=by kernel_rfl
theorem c_inPlace:(Rows.findingVoteIsBetweenRow.inPlace==Tryz.prog.inPlace 4)=true:=(gU (gU (gU (gU (gU (gU (gU g_0)))))))
theorem aAu:(Rows.findingVoteIsBetweenRow.unfollowed==Tryz.prog.unfollowed 4)=true:=aY (gU (gU (gU (gU (gU (gU g_0))))))
theorem aCr:(Rows.findingVoteIsBetweenRow.recurses==Tryz.prog.recurses 4)=true:=aY (gU (gU (gU (gU (gU g_0)))))
theorem c_named:(Rows.findingVoteIsBetweenRow.named==Tryz.prog.varsNamed 4)=true:=aY (gU (gU (gU (gU g_0))))
theorem wE:(laidOutB Tryz.prog)=true:=aY (gU (gU (gU g_0)))
theorem aBl:(mapsRowed Tryz.prog)=true:=aY (gU (gU g_0))
theorem c_heard:(Tryz.prog.stopsHeard)=true:=aY (gU g_0)
theorem aBh:(Rows.findingVoteIsBetweenRow.plainKeys==Tryz.prog.plainKeys)=true:=aY g_0
theorem g_1:((Tryz.prog.mayEnter) && (Rows.findingVoteIsBetweenRow.lifted==Tryz.prog.liftsFinal))=true:=by kernel_rfl
theorem c_enter:(Tryz.prog.mayEnter)=true:=(gU g_1)
theorem c_lifted:(Rows.findingVoteIsBetweenRow.lifted==Tryz.prog.liftsFinal)=true:=aY g_1
theorem g_2:((Rows.findingVoteIsBetweenRow.wf (OpenSpec.ofChange (OpenSpec.ofChange Rows.findingVoteIsBetweenSpec).bare)) && (Tryz.f4.params.all (Tryz.prog.readableRec ·)) && (namedTie Tryz.prog Rows.findingVoteIsBetweenRow.named (OpenSpec.ofChange Rows.findingVoteIsBetweenSpec).bare.vars) && (Rows.findingVoteIsBetweenRow.stops== []) && (Tryz.prog.stops== []) && (Rows.findingVoteIsBetweenRow.knobs== []) && (Tryz.prog.stopKnobs== []) && (Rows.findingVoteIsBetweenRow.maps==(Tryz.f4.params.toList++(OpenSpec.ofChange Rows.findingVoteIsBetweenSpec).bare.plain.varTypes Tryz.prog).any (Tryz.prog.mapsRec ·)) && (Rows.findingVoteIsBetweenRow.ifaces==(Tryz.f4.params.toList++(OpenSpec.ofChange Rows.findingVoteIsBetweenSpec).bare.plain.varTypes Tryz.prog).any (Tryz.prog.ifacesRec ·)) && (Rows.findingVoteIsBetweenRow.mapsOut==Tryz.prog.mapsAmong Tryz.f4.resultTypes.toList) && (Rows.findingVoteIsBetweenRow.loops==(Tryz.f4.params.toList++(OpenSpec.ofChange Rows.findingVoteIsBetweenSpec).bare.plain.varTypes Tryz.prog).any (Tryz.prog.loopsFrom ·)) && (Rows.findingVoteIsBetweenRow.wideKeys==(Tryz.f4.params.toList++(OpenSpec.ofChange Rows.findingVoteIsBetweenSpec).bare.plain.varTypes Tryz.prog++Tryz.f4.resultTypes.toList).any (Tryz.prog.wideKeysFrom ·)) && ((OpenSpec.ofChange Rows.findingVoteIsBetweenSpec).bare.vars.all (Tryz.prog.varReadable ·)) && (Tryz.f4.resultTypes.all (fun t=>Tryz.prog.readableRec t && decide (t<Tryz.prog.types.size))) && (Rows.findingVoteIsBetweenRow.ifacesOut==Tryz.f4.resultTypes.toList.any (Tryz.prog.ifacesRec ·)) && (Rows.findingVoteIsBetweenRow.loopsOut==Tryz.f4.resultTypes.toList.any (Tryz.prog.loopsFrom ·)) && (Rows.findingVoteIsBetweenRow.shortTexts.isNone) && (Tryz.prog.make==some Rows.findingVoteIsBetweenRow.make) && (Rows.findingVoteIsBetweenRow.kinds==(if Rows.findingVoteIsBetweenRow.domain.isEmpty then [] else Tryz.f4.params.toList.map fun t=>match Tryz.prog.underlying t with | some (.int k)=>some k | _=>none)) && (Rows.findingVoteIsBetweenRow.pinned==Rows.findingVoteIsBetweenRow.pinnedBy) && (Rows.findingVoteIsBetweenRow.veiled==(Tryz.f4.params.toList++(OpenSpec.ofChange Rows.findingVoteIsBetweenSpec).bare.plain.varTypes Tryz.prog++Tryz.f4.resultTypes.toList).any (Tryz.prog.veiledRec ·)) && (Rows.findingVoteIsBetweenRow.veiledFits Tryz.prog Tryz.f4.params.toList (Tryz.f4.params.toList++(OpenSpec.ofChange Rows.findingVoteIsBetweenSpec).bare.plain.varTypes Tryz.prog++Tryz.f4.resultTypes.toList)))=true:=by kernel_rfl
theorem c_wf:(Rows.findingVoteIsBetweenRow.wf (OpenSpec.ofChange (OpenSpec.ofChange Rows.findingVoteIsBetweenSpec).bare))=true:=(gU (gU (gU (gU (gU (gU (gU (gU (gU (gU (gU (gU (gU (gU (gU (gU (gU (gU (gU (gU (gU g_2)))))))))))))))))))))
theorem c_params:(Tryz.f4.params.all (Tryz.prog.readableRec ·))=true:=aY (gU (gU (gU (gU (gU (gU (gU (gU (gU (gU (gU (gU (gU (gU (gU (gU (gU (gU (gU (gU g_2))))))))))))))))))))
theorem c_tie:(namedTie Tryz.prog Rows.findingVoteIsBetweenRow.named (OpenSpec.ofChange Rows.findingVoteIsBetweenSpec).bare.vars)=true:=aY (gU (gU (gU (gU (gU (gU (gU (gU (gU (gU (gU (gU (gU (gU (gU (gU (gU (gU (gU g_2)))))))))))))))))))
theorem c_stops0:(Rows.findingVoteIsBetweenRow.stops== [])=true:=aY (gU (gU (gU (gU (gU (gU (gU (gU (gU (gU (gU (gU (gU (gU (gU (gU (gU (gU g_2))))))))))))))))))
theorem c_stops:(Tryz.prog.stops== [])=true:=aY (gU (gU (gU (gU (gU (gU (gU (gU (gU (gU (gU (gU (gU (gU (gU (gU (gU g_2)))))))))))))))))
theorem c_knobs0:(Rows.findingVoteIsBetweenRow.knobs== [])=true:=aY (gU (gU (gU (gU (gU (gU (gU (gU (gU (gU (gU (gU (gU (gU (gU (gU g_2))))))))))))))))
theorem c_knobs:(Tryz.prog.stopKnobs== [])=true:=aY (gU (gU (gU (gU (gU (gU (gU (gU (gU (gU (gU (gU (gU (gU (gU g_2)))))))))))))))
theorem c_maps:(Rows.findingVoteIsBetweenRow.maps==(Tryz.f4.params.toList++(OpenSpec.ofChange Rows.findingVoteIsBetweenSpec).bare.plain.varTypes Tryz.prog).any (Tryz.prog.mapsRec ·))=true:=aY (gU (gU (gU (gU (gU (gU (gU (gU (gU (gU (gU (gU (gU (gU g_2))))))))))))))
theorem c_ifaces:(Rows.findingVoteIsBetweenRow.ifaces==(Tryz.f4.params.toList++(OpenSpec.ofChange Rows.findingVoteIsBetweenSpec).bare.plain.varTypes Tryz.prog).any (Tryz.prog.ifacesRec ·))=true:=aY (gU (gU (gU (gU (gU (gU (gU (gU (gU (gU (gU (gU (gU g_2)))))))))))))
theorem c_mapsOut:(Rows.findingVoteIsBetweenRow.mapsOut==Tryz.prog.mapsAmong Tryz.f4.resultTypes.toList)=true:=aY (gU (gU (gU (gU (gU (gU (gU (gU (gU (gU (gU (gU g_2))))))))))))
theorem c_loops:(Rows.findingVoteIsBetweenRow.loops==(Tryz.f4.params.toList++(OpenSpec.ofChange Rows.findingVoteIsBetweenSpec).bare.plain.varTypes Tryz.prog).any (Tryz.prog.loopsFrom ·))=true:=aY (gU (gU (gU (gU (gU (gU (gU (gU (gU (gU (gU g_2)))))))))))
theorem aDe:(Rows.findingVoteIsBetweenRow.wideKeys==(Tryz.f4.params.toList++(OpenSpec.ofChange Rows.findingVoteIsBetweenSpec).bare.plain.varTypes Tryz.prog++Tryz.f4.resultTypes.toList).any (Tryz.prog.wideKeysFrom ·))=true:=aY (gU (gU (gU (gU (gU (gU (gU (gU (gU (gU g_2))))))))))
theorem c_vars:((OpenSpec.ofChange Rows.findingVoteIsBetweenSpec).bare.vars.all (Tryz.prog.varReadable ·))=true:=aY (gU (gU (gU (gU (gU (gU (gU (gU (gU g_2)))))))))
theorem c_results:(Tryz.f4.resultTypes.all (fun t=>Tryz.prog.readableRec t && decide (t<Tryz.prog.types.size)))=true:=aY (gU (gU (gU (gU (gU (gU (gU (gU g_2))))))))
theorem aBn:(Rows.findingVoteIsBetweenRow.ifacesOut==Tryz.f4.resultTypes.toList.any (Tryz.prog.ifacesRec ·))=true:=aY (gU (gU (gU (gU (gU (gU (gU g_2)))))))
theorem aCi:(Rows.findingVoteIsBetweenRow.loopsOut==Tryz.f4.resultTypes.toList.any (Tryz.prog.loopsFrom ·))=true:=aY (gU (gU (gU (gU (gU (gU g_2))))))
theorem c_short:(Rows.findingVoteIsBetweenRow.shortTexts.isNone)=true:=aY (gU (gU (gU (gU (gU g_2)))))
theorem c_make:(Tryz.prog.make==some Rows.findingVoteIsBetweenRow.make)=true:=aY (gU (gU (gU (gU g_2))))
theorem c_kinds:(Rows.findingVoteIsBetweenRow.kinds==(if Rows.findingVoteIsBetweenRow.domain.isEmpty then [] else Tryz.f4.params.toList.map fun t=>match Tryz.prog.underlying t with | some (.int k)=>some k | _=>none))=true:=aY (gU (gU (gU g_2)))
theorem c_pinned:(Rows.findingVoteIsBetweenRow.pinned==Rows.findingVoteIsBetweenRow.pinnedBy)=true:=aY (gU (gU g_2))
theorem c_veiled:(Rows.findingVoteIsBetweenRow.veiled==(Tryz.f4.params.toList++(OpenSpec.ofChange Rows.findingVoteIsBetweenSpec).bare.plain.varTypes Tryz.prog++Tryz.f4.resultTypes.toList).any (Tryz.prog.veiledRec ·))=true:=aY (gU g_2)
theorem wQ:(Rows.findingVoteIsBetweenRow.veiledFits Tryz.prog Tryz.f4.params.toList (Tryz.f4.params.toList++(OpenSpec.ofChange Rows.findingVoteIsBetweenSpec).bare.plain.varTypes Tryz.prog++Tryz.f4.resultTypes.toList))=true:=aY g_2
set_option maxRecDepth 100000 in
theorem closedF:joinedFacts Tryz.pinned.checked.prog 4 Tryz.f4 (OpenSpec.ofChange Rows.findingVoteIsBetweenSpec).bare Rows.findingVoteIsBetweenRow=true:=(aJ (aJ (aJ (aJ (aJ (aJ (aJ (aJ (aJ (aJ (aJ (aJ (aJ (aJ (aJ (aJ (aJ (aJ (aJ (aJ (aJ (aJ (aJ (aJ (aJ (aJ (aJ (aJ (aJ (aJ (aJ c_wf wE) aBl) c_params) c_tie) c_stops0) c_stops) c_knobs0) c_knobs) c_inPlace) aAu) aCr) c_named) c_maps) c_ifaces) c_mapsOut) c_loops) aDe) c_vars) c_results) aBn) aCi) aBh) c_short) c_heard) c_enter) c_lifted) c_make) c_kinds) c_pinned) c_veiled) wQ)
theorem goesF:false=Rows.findingVoteIsBetweenRow.goesBy Tryz.pinned.checked.prog:=by kernel_rfl
theorem looksF:true=Tryz.pinned.checked.prog.looks []:=by kernel_rfl
end Go.Proofs.YtgmikmoapfmedaaGreatDoor.findingVoteIsBetween
