/- What the walks and the laws stand on; no condition but those that stand in the statements. -/
import Derived.Test.YtgmikmoapfmedaaGreatDoorCards
import Derived.WalkKit
import Derived.ProofKit
import Derived.LaidSub
import Derived.Deep.DeepHandedRow
import Derived.SizedLaws
namespace Go.Proofs.YtgmikmoapfmedaaGreatDoor.findingVoteMatchesSpec
open Go.ChangeShapes Go.WideShapes Go.ChangeAt Go.RowKit
theorem aH {a b:Bool}(ha:a=true)(hb:b=true):(a && b)=true:=by rw [ha,hb]; rfl
theorem gW {a b:Bool}(h:(a && b)=true):a=true:=by cases a<;>simp_all
theorem aX {a b:Bool}(h:(a && b)=true):b=true:=by cases a<;>simp_all
theorem g_0:((Rows.findingVoteMatchesSpecRow.inPlace==Tryz.prog.inPlace 5) && (Rows.findingVoteMatchesSpecRow.unfollowed==Tryz.prog.unfollowed 5) && (Rows.findingVoteMatchesSpecRow.recurses==Tryz.prog.recurses 5) && (Rows.findingVoteMatchesSpecRow.named==Tryz.prog.varsNamed 5) && (laidOutB Tryz.prog) && (mapsRowed Tryz.prog) && (Tryz.prog.stopsHeard) && (Rows.findingVoteMatchesSpecRow.plainKeys==Tryz.prog.plainKeys))=true:=by kernel_rfl
theorem c_inPlace:(Rows.findingVoteMatchesSpecRow.inPlace==Tryz.prog.inPlace 5)=true:=(gW (gW (gW (gW (gW (gW (gW g_0)))))))
theorem aAy:(Rows.findingVoteMatchesSpecRow.unfollowed==Tryz.prog.unfollowed 5)=true:=aX (gW (gW (gW (gW (gW (gW g_0))))))
theorem aDp:(Rows.findingVoteMatchesSpecRow.recurses==Tryz.prog.recurses 5)=true:=aX (gW (gW (gW (gW (gW g_0)))))
theorem c_named:(Rows.findingVoteMatchesSpecRow.named==Tryz.prog.varsNamed 5)=true:=aX (gW (gW (gW (gW g_0))))
theorem wQ:(laidOutB Tryz.prog)=true:=aX (gW (gW (gW g_0)))
theorem aBo:(mapsRowed Tryz.prog)=true:=aX (gW (gW g_0))
theorem c_heard:(Tryz.prog.stopsHeard)=true:=aX (gW g_0)
theorem aBe:(Rows.findingVoteMatchesSpecRow.plainKeys==Tryz.prog.plainKeys)=true:=aX g_0
theorem g_1:((Tryz.prog.mayEnter) && (Rows.findingVoteMatchesSpecRow.lifted==Tryz.prog.liftsFinal))=true:=by kernel_rfl
theorem c_enter:(Tryz.prog.mayEnter)=true:=(gW g_1)
theorem c_lifted:(Rows.findingVoteMatchesSpecRow.lifted==Tryz.prog.liftsFinal)=true:=aX g_1
theorem g_2:((Rows.findingVoteMatchesSpecRow.wf (OpenSpec.ofChange (OpenSpec.ofChange Rows.findingVoteMatchesSpecSpec).bare)) && (Tryz.f5.params.all (Tryz.prog.readableRec ·)) && (namedTie Tryz.prog Rows.findingVoteMatchesSpecRow.named (OpenSpec.ofChange Rows.findingVoteMatchesSpecSpec).bare.vars) && (Rows.findingVoteMatchesSpecRow.stops== []) && (Tryz.prog.stops== []) && (Rows.findingVoteMatchesSpecRow.knobs== []) && (Tryz.prog.stopKnobs== []) && (Rows.findingVoteMatchesSpecRow.maps==(Tryz.f5.params.toList++(OpenSpec.ofChange Rows.findingVoteMatchesSpecSpec).bare.plain.varTypes Tryz.prog).any (Tryz.prog.mapsRec ·)) && (Rows.findingVoteMatchesSpecRow.ifaces==(Tryz.f5.params.toList++(OpenSpec.ofChange Rows.findingVoteMatchesSpecSpec).bare.plain.varTypes Tryz.prog).any (Tryz.prog.ifacesRec ·)) && (Rows.findingVoteMatchesSpecRow.mapsOut==Tryz.prog.mapsAmong Tryz.f5.resultTypes.toList) && (Rows.findingVoteMatchesSpecRow.loops==(Tryz.f5.params.toList++(OpenSpec.ofChange Rows.findingVoteMatchesSpecSpec).bare.plain.varTypes Tryz.prog).any (Tryz.prog.loopsFrom ·)) && (Rows.findingVoteMatchesSpecRow.wideKeys==(Tryz.f5.params.toList++(OpenSpec.ofChange Rows.findingVoteMatchesSpecSpec).bare.plain.varTypes Tryz.prog++Tryz.f5.resultTypes.toList).any (Tryz.prog.wideKeysFrom ·)) && ((OpenSpec.ofChange Rows.findingVoteMatchesSpecSpec).bare.vars.all (Tryz.prog.varReadable ·)) && (Tryz.f5.resultTypes.all (fun t=>Tryz.prog.readableRec t && decide (t<Tryz.prog.types.size))) && (Rows.findingVoteMatchesSpecRow.ifacesOut==Tryz.f5.resultTypes.toList.any (Tryz.prog.ifacesRec ·)) && (Rows.findingVoteMatchesSpecRow.loopsOut==Tryz.f5.resultTypes.toList.any (Tryz.prog.loopsFrom ·)) && (Rows.findingVoteMatchesSpecRow.shortTexts.isNone) && (Tryz.prog.make==some Rows.findingVoteMatchesSpecRow.make) && (Rows.findingVoteMatchesSpecRow.kinds==(if Rows.findingVoteMatchesSpecRow.domain.isEmpty then [] else Tryz.f5.params.toList.map fun t=>match Tryz.prog.underlying t with | some (.int k)=>some k | _=>none)) && (Rows.findingVoteMatchesSpecRow.pinned==Rows.findingVoteMatchesSpecRow.pinnedBy) && (Rows.findingVoteMatchesSpecRow.veiled==(Tryz.f5.params.toList++(OpenSpec.ofChange Rows.findingVoteMatchesSpecSpec).bare.plain.varTypes Tryz.prog++Tryz.f5.resultTypes.toList).any (Tryz.prog.veiledRec ·)) && (Rows.findingVoteMatchesSpecRow.veiledFits Tryz.prog Tryz.f5.params.toList (Tryz.f5.params.toList++(OpenSpec.ofChange Rows.findingVoteMatchesSpecSpec).bare.plain.varTypes Tryz.prog++Tryz.f5.resultTypes.toList)))=true:=by kernel_rfl
theorem c_wf:(Rows.findingVoteMatchesSpecRow.wf (OpenSpec.ofChange (OpenSpec.ofChange Rows.findingVoteMatchesSpecSpec).bare))=true:=(gW (gW (gW (gW (gW (gW (gW (gW (gW (gW (gW (gW (gW (gW (gW (gW (gW (gW (gW (gW (gW g_2)))))))))))))))))))))
theorem c_params:(Tryz.f5.params.all (Tryz.prog.readableRec ·))=true:=aX (gW (gW (gW (gW (gW (gW (gW (gW (gW (gW (gW (gW (gW (gW (gW (gW (gW (gW (gW (gW g_2))))))))))))))))))))
theorem c_tie:(namedTie Tryz.prog Rows.findingVoteMatchesSpecRow.named (OpenSpec.ofChange Rows.findingVoteMatchesSpecSpec).bare.vars)=true:=aX (gW (gW (gW (gW (gW (gW (gW (gW (gW (gW (gW (gW (gW (gW (gW (gW (gW (gW (gW g_2)))))))))))))))))))
theorem c_stops0:(Rows.findingVoteMatchesSpecRow.stops== [])=true:=aX (gW (gW (gW (gW (gW (gW (gW (gW (gW (gW (gW (gW (gW (gW (gW (gW (gW (gW g_2))))))))))))))))))
theorem c_stops:(Tryz.prog.stops== [])=true:=aX (gW (gW (gW (gW (gW (gW (gW (gW (gW (gW (gW (gW (gW (gW (gW (gW (gW g_2)))))))))))))))))
theorem c_knobs0:(Rows.findingVoteMatchesSpecRow.knobs== [])=true:=aX (gW (gW (gW (gW (gW (gW (gW (gW (gW (gW (gW (gW (gW (gW (gW (gW g_2))))))))))))))))
theorem c_knobs:(Tryz.prog.stopKnobs== [])=true:=aX (gW (gW (gW (gW (gW (gW (gW (gW (gW (gW (gW (gW (gW (gW (gW g_2)))))))))))))))
theorem c_maps:(Rows.findingVoteMatchesSpecRow.maps==(Tryz.f5.params.toList++(OpenSpec.ofChange Rows.findingVoteMatchesSpecSpec).bare.plain.varTypes Tryz.prog).any (Tryz.prog.mapsRec ·))=true:=aX (gW (gW (gW (gW (gW (gW (gW (gW (gW (gW (gW (gW (gW (gW g_2))))))))))))))
theorem c_ifaces:(Rows.findingVoteMatchesSpecRow.ifaces==(Tryz.f5.params.toList++(OpenSpec.ofChange Rows.findingVoteMatchesSpecSpec).bare.plain.varTypes Tryz.prog).any (Tryz.prog.ifacesRec ·))=true:=aX (gW (gW (gW (gW (gW (gW (gW (gW (gW (gW (gW (gW (gW g_2)))))))))))))
theorem c_mapsOut:(Rows.findingVoteMatchesSpecRow.mapsOut==Tryz.prog.mapsAmong Tryz.f5.resultTypes.toList)=true:=aX (gW (gW (gW (gW (gW (gW (gW (gW (gW (gW (gW (gW g_2))))))))))))
theorem c_loops:(Rows.findingVoteMatchesSpecRow.loops==(Tryz.f5.params.toList++(OpenSpec.ofChange Rows.findingVoteMatchesSpecSpec).bare.plain.varTypes Tryz.prog).any (Tryz.prog.loopsFrom ·))=true:=aX (gW (gW (gW (gW (gW (gW (gW (gW (gW (gW (gW g_2)))))))))))
theorem aDe:(Rows.findingVoteMatchesSpecRow.wideKeys==(Tryz.f5.params.toList++(OpenSpec.ofChange Rows.findingVoteMatchesSpecSpec).bare.plain.varTypes Tryz.prog++Tryz.f5.resultTypes.toList).any (Tryz.prog.wideKeysFrom ·))=true:=aX (gW (gW (gW (gW (gW (gW (gW (gW (gW (gW g_2))))))))))
theorem c_vars:((OpenSpec.ofChange Rows.findingVoteMatchesSpecSpec).bare.vars.all (Tryz.prog.varReadable ·))=true:=aX (gW (gW (gW (gW (gW (gW (gW (gW (gW g_2)))))))))
theorem c_results:(Tryz.f5.resultTypes.all (fun t=>Tryz.prog.readableRec t && decide (t<Tryz.prog.types.size)))=true:=aX (gW (gW (gW (gW (gW (gW (gW (gW g_2))))))))
theorem aCm:(Rows.findingVoteMatchesSpecRow.ifacesOut==Tryz.f5.resultTypes.toList.any (Tryz.prog.ifacesRec ·))=true:=aX (gW (gW (gW (gW (gW (gW (gW g_2)))))))
theorem aDd:(Rows.findingVoteMatchesSpecRow.loopsOut==Tryz.f5.resultTypes.toList.any (Tryz.prog.loopsFrom ·))=true:=aX (gW (gW (gW (gW (gW (gW g_2))))))
theorem c_short:(Rows.findingVoteMatchesSpecRow.shortTexts.isNone)=true:=aX (gW (gW (gW (gW (gW g_2)))))
theorem c_make:(Tryz.prog.make==some Rows.findingVoteMatchesSpecRow.make)=true:=aX (gW (gW (gW (gW g_2))))
theorem c_kinds:(Rows.findingVoteMatchesSpecRow.kinds==(if Rows.findingVoteMatchesSpecRow.domain.isEmpty then [] else Tryz.f5.params.toList.map fun t=>match Tryz.prog.underlying t with | some (.int k)=>some k | _=>none))=true:=aX (gW (gW (gW g_2)))
theorem c_pinned:(Rows.findingVoteMatchesSpecRow.pinned==Rows.findingVoteMatchesSpecRow.pinnedBy)=true:=aX (gW (gW g_2))
theorem c_veiled:(Rows.findingVoteMatchesSpecRow.veiled==(Tryz.f5.params.toList++(OpenSpec.ofChange Rows.findingVoteMatchesSpecSpec).bare.plain.varTypes Tryz.prog++Tryz.f5.resultTypes.toList).any (Tryz.prog.veiledRec ·))=true:=aX (gW g_2)
theorem aAr:(Rows.findingVoteMatchesSpecRow.veiledFits Tryz.prog Tryz.f5.params.toList (Tryz.f5.params.toList++(OpenSpec.ofChange Rows.findingVoteMatchesSpecSpec).bare.plain.varTypes Tryz.prog++Tryz.f5.resultTypes.toList))=true:=aX g_2
set_option maxRecDepth 100000 in
theorem closedF:joinedFacts Tryz.pinned.checked.prog 5 Tryz.f5 (OpenSpec.ofChange Rows.findingVoteMatchesSpecSpec).bare Rows.findingVoteMatchesSpecRow=true:=(aH (aH (aH (aH (aH (aH (aH (aH (aH (aH (aH (aH (aH (aH (aH (aH (aH (aH (aH (aH (aH (aH (aH (aH (aH (aH (aH (aH (aH (aH (aH c_wf wQ) aBo) c_params) c_tie) c_stops0) c_stops) c_knobs0) c_knobs) c_inPlace) aAy) aDp) c_named) c_maps) c_ifaces) c_mapsOut) c_loops) aDe) c_vars) c_results) aCm) aDd) aBe) c_short) c_heard) c_enter) c_lifted) c_make) c_kinds) c_pinned) c_veiled) aAr)
theorem goesF:false=Rows.findingVoteMatchesSpecRow.goesBy Tryz.pinned.checked.prog:=by kernel_rfl
theorem looksF:true=Tryz.pinned.checked.prog.looks []:=by kernel_rfl
end Go.Proofs.YtgmikmoapfmedaaGreatDoor.findingVoteMatchesSpec
