/- Laws that the claim stands on; no condition beyond those stated. -/
import Derived.Test.YtbjofgmdhbiekaaGreatDoorCards
import Derived.WalkKit
import Derived.ProofKit
import Derived.LaidSub
import Derived.Deep.DeepHandedRow
import Derived.SizedLaws
namespace Go.Proofs.YtbjofgmdhbiekaaGreatDoor.findingOnlyKnowsLess
open Go.ChangeShapes Go.WideShapes Go.ChangeAt Go.RowKit
theorem mP {a b:Bool}(ha:a=true)(hb:b=true):(a&&b)=true:=by rw [ha,hb];rfl
theorem gV {a b:Bool}(h:(a&&b)=true):a=true:=by cases a<;>simp_all
theorem pG {a b:Bool}(h:(a&&b)=true):b=true:=by cases a<;>simp_all
theorem g_0:((Rows.findingOnlyKnowsLessRow.inPlace==Tryz.prog.inPlace 4)&&(Rows.findingOnlyKnowsLessRow.unfollowed==Tryz.prog.unfollowed 4)&&(Rows.findingOnlyKnowsLessRow.recurses==Tryz.prog.recurses 4)&&(Rows.findingOnlyKnowsLessRow.named==Tryz.prog.varsNamed 4)&&(laidOutB Tryz.prog)&&(mapsRowed Tryz.prog)&&(Tryz.prog.stopsHeard)&&(Rows.findingOnlyKnowsLessRow.plainKeys==Tryz.prog.plainKeys))=true:=by kernel_rfl
theorem c_inPlace:(Rows.findingOnlyKnowsLessRow.inPlace==Tryz.prog.inPlace 4)=true:=(gV (gV (gV (gV (gV (gV (gV g_0)))))))
theorem aMx:(Rows.findingOnlyKnowsLessRow.unfollowed==Tryz.prog.unfollowed 4)=true:=pG (gV (gV (gV (gV (gV (gV g_0))))))
theorem aSh:(Rows.findingOnlyKnowsLessRow.recurses==Tryz.prog.recurses 4)=true:=pG (gV (gV (gV (gV (gV g_0)))))
theorem c_named:(Rows.findingOnlyKnowsLessRow.named==Tryz.prog.varsNamed 4)=true:=pG (gV (gV (gV (gV g_0))))
theorem aJr:(laidOutB Tryz.prog)=true:=pG (gV (gV (gV g_0)))
theorem aNx:(mapsRowed Tryz.prog)=true:=pG (gV (gV g_0))
theorem c_heard:(Tryz.prog.stopsHeard)=true:=pG (gV g_0)
theorem aNv:(Rows.findingOnlyKnowsLessRow.plainKeys==Tryz.prog.plainKeys)=true:=pG g_0
theorem g_1:((Tryz.prog.mayEnter)&&(Rows.findingOnlyKnowsLessRow.lifted==Tryz.prog.liftsFinal))=true:=by kernel_rfl
theorem c_enter:(Tryz.prog.mayEnter)=true:=(gV g_1)
theorem c_lifted:(Rows.findingOnlyKnowsLessRow.lifted==Tryz.prog.liftsFinal)=true:=pG g_1
theorem g_2:((Rows.findingOnlyKnowsLessRow.wf (OpenSpec.ofChange (OpenSpec.ofChange Rows.findingOnlyKnowsLessSpec).bare))&&(Tryz.f4.params.all (Tryz.prog.readableRec ·))&&(namedTie Tryz.prog Rows.findingOnlyKnowsLessRow.named (OpenSpec.ofChange Rows.findingOnlyKnowsLessSpec).bare.vars)&&(Rows.findingOnlyKnowsLessRow.stops==[])&&(Tryz.prog.stops==[])&&(Rows.findingOnlyKnowsLessRow.knobs==[])&&(Tryz.prog.stopKnobs==[])&&(Rows.findingOnlyKnowsLessRow.maps==(Tryz.f4.params.toList++(OpenSpec.ofChange Rows.findingOnlyKnowsLessSpec).bare.plain.varTypes Tryz.prog).any (Tryz.prog.mapsRec ·))&&(Rows.findingOnlyKnowsLessRow.ifaces==(Tryz.f4.params.toList++(OpenSpec.ofChange Rows.findingOnlyKnowsLessSpec).bare.plain.varTypes Tryz.prog).any (Tryz.prog.ifacesRec ·))&&(Rows.findingOnlyKnowsLessRow.mapsOut==Tryz.prog.mapsAmong Tryz.f4.resultTypes.toList)&&(Rows.findingOnlyKnowsLessRow.loops==(Tryz.f4.params.toList++(OpenSpec.ofChange Rows.findingOnlyKnowsLessSpec).bare.plain.varTypes Tryz.prog).any (Tryz.prog.loopsFrom ·))&&(Rows.findingOnlyKnowsLessRow.wideKeys==(Tryz.f4.params.toList++(OpenSpec.ofChange Rows.findingOnlyKnowsLessSpec).bare.plain.varTypes Tryz.prog++Tryz.f4.resultTypes.toList).any (Tryz.prog.wideKeysFrom ·))&&((OpenSpec.ofChange Rows.findingOnlyKnowsLessSpec).bare.vars.all (Tryz.prog.varReadable ·))&&(Tryz.f4.resultTypes.all (λt=>Tryz.prog.readableRec t&&decide (t<Tryz.prog.types.size)))&&(Rows.findingOnlyKnowsLessRow.ifacesOut==Tryz.f4.resultTypes.toList.any (Tryz.prog.ifacesRec ·))&&(Rows.findingOnlyKnowsLessRow.loopsOut==Tryz.f4.resultTypes.toList.any (Tryz.prog.loopsFrom ·))&&(Rows.findingOnlyKnowsLessRow.shortTexts.isNone)&&(Tryz.prog.make==some Rows.findingOnlyKnowsLessRow.make)&&(Rows.findingOnlyKnowsLessRow.kinds==(if Rows.findingOnlyKnowsLessRow.domain.isEmpty then []else Tryz.f4.params.toList.map λt=>match Tryz.prog.underlying t with |some (.int k)=>some k|_=>none))&&(Rows.findingOnlyKnowsLessRow.pinned==Rows.findingOnlyKnowsLessRow.pinnedBy)&&(Rows.findingOnlyKnowsLessRow.veiled==(Tryz.f4.params.toList++(OpenSpec.ofChange Rows.findingOnlyKnowsLessSpec).bare.plain.varTypes Tryz.prog++Tryz.f4.resultTypes.toList).any (Tryz.prog.veiledRec ·))&&(Rows.findingOnlyKnowsLessRow.veiledFits Tryz.prog Tryz.f4.params.toList (Tryz.f4.params.toList++(OpenSpec.ofChange Rows.findingOnlyKnowsLessSpec).bare.plain.varTypes Tryz.prog++Tryz.f4.resultTypes.toList)))=true:=by kernel_rfl
theorem c_wf:(Rows.findingOnlyKnowsLessRow.wf (OpenSpec.ofChange (OpenSpec.ofChange Rows.findingOnlyKnowsLessSpec).bare))=true:=(gV (gV (gV (gV (gV (gV (gV (gV (gV (gV (gV (gV (gV (gV (gV (gV (gV (gV (gV (gV (gV g_2)))))))))))))))))))))
theorem c_params:(Tryz.f4.params.all (Tryz.prog.readableRec ·))=true:=pG (gV (gV (gV (gV (gV (gV (gV (gV (gV (gV (gV (gV (gV (gV (gV (gV (gV (gV (gV (gV g_2))))))))))))))))))))
theorem c_tie:(namedTie Tryz.prog Rows.findingOnlyKnowsLessRow.named (OpenSpec.ofChange Rows.findingOnlyKnowsLessSpec).bare.vars)=true:=pG (gV (gV (gV (gV (gV (gV (gV (gV (gV (gV (gV (gV (gV (gV (gV (gV (gV (gV (gV g_2)))))))))))))))))))
theorem c_stops0:(Rows.findingOnlyKnowsLessRow.stops==[])=true:=pG (gV (gV (gV (gV (gV (gV (gV (gV (gV (gV (gV (gV (gV (gV (gV (gV (gV (gV g_2))))))))))))))))))
theorem c_stops:(Tryz.prog.stops==[])=true:=pG (gV (gV (gV (gV (gV (gV (gV (gV (gV (gV (gV (gV (gV (gV (gV (gV (gV g_2)))))))))))))))))
theorem c_knobs0:(Rows.findingOnlyKnowsLessRow.knobs==[])=true:=pG (gV (gV (gV (gV (gV (gV (gV (gV (gV (gV (gV (gV (gV (gV (gV (gV g_2))))))))))))))))
theorem c_knobs:(Tryz.prog.stopKnobs==[])=true:=pG (gV (gV (gV (gV (gV (gV (gV (gV (gV (gV (gV (gV (gV (gV (gV g_2)))))))))))))))
theorem c_maps:(Rows.findingOnlyKnowsLessRow.maps==(Tryz.f4.params.toList++(OpenSpec.ofChange Rows.findingOnlyKnowsLessSpec).bare.plain.varTypes Tryz.prog).any (Tryz.prog.mapsRec ·))=true:=pG (gV (gV (gV (gV (gV (gV (gV (gV (gV (gV (gV (gV (gV (gV g_2))))))))))))))
theorem c_ifaces:(Rows.findingOnlyKnowsLessRow.ifaces==(Tryz.f4.params.toList++(OpenSpec.ofChange Rows.findingOnlyKnowsLessSpec).bare.plain.varTypes Tryz.prog).any (Tryz.prog.ifacesRec ·))=true:=pG (gV (gV (gV (gV (gV (gV (gV (gV (gV (gV (gV (gV (gV g_2)))))))))))))
theorem c_mapsOut:(Rows.findingOnlyKnowsLessRow.mapsOut==Tryz.prog.mapsAmong Tryz.f4.resultTypes.toList)=true:=pG (gV (gV (gV (gV (gV (gV (gV (gV (gV (gV (gV (gV g_2))))))))))))
theorem c_loops:(Rows.findingOnlyKnowsLessRow.loops==(Tryz.f4.params.toList++(OpenSpec.ofChange Rows.findingOnlyKnowsLessSpec).bare.plain.varTypes Tryz.prog).any (Tryz.prog.loopsFrom ·))=true:=pG (gV (gV (gV (gV (gV (gV (gV (gV (gV (gV (gV g_2)))))))))))
theorem aSe:(Rows.findingOnlyKnowsLessRow.wideKeys==(Tryz.f4.params.toList++(OpenSpec.ofChange Rows.findingOnlyKnowsLessSpec).bare.plain.varTypes Tryz.prog++Tryz.f4.resultTypes.toList).any (Tryz.prog.wideKeysFrom ·))=true:=pG (gV (gV (gV (gV (gV (gV (gV (gV (gV (gV g_2))))))))))
theorem c_vars:((OpenSpec.ofChange Rows.findingOnlyKnowsLessSpec).bare.vars.all (Tryz.prog.varReadable ·))=true:=pG (gV (gV (gV (gV (gV (gV (gV (gV (gV g_2)))))))))
theorem c_results:(Tryz.f4.resultTypes.all (λt=>Tryz.prog.readableRec t&&decide (t<Tryz.prog.types.size)))=true:=pG (gV (gV (gV (gV (gV (gV (gV (gV g_2))))))))
theorem aOm:(Rows.findingOnlyKnowsLessRow.ifacesOut==Tryz.f4.resultTypes.toList.any (Tryz.prog.ifacesRec ·))=true:=pG (gV (gV (gV (gV (gV (gV (gV g_2)))))))
theorem aRi:(Rows.findingOnlyKnowsLessRow.loopsOut==Tryz.f4.resultTypes.toList.any (Tryz.prog.loopsFrom ·))=true:=pG (gV (gV (gV (gV (gV (gV g_2))))))
theorem c_short:(Rows.findingOnlyKnowsLessRow.shortTexts.isNone)=true:=pG (gV (gV (gV (gV (gV g_2)))))
theorem c_make:(Tryz.prog.make==some Rows.findingOnlyKnowsLessRow.make)=true:=pG (gV (gV (gV (gV g_2))))
theorem c_kinds:(Rows.findingOnlyKnowsLessRow.kinds==(if Rows.findingOnlyKnowsLessRow.domain.isEmpty then []else Tryz.f4.params.toList.map λt=>match Tryz.prog.underlying t with |some (.int k)=>some k|_=>none))=true:=pG (gV (gV (gV g_2)))
theorem c_pinned:(Rows.findingOnlyKnowsLessRow.pinned==Rows.findingOnlyKnowsLessRow.pinnedBy)=true:=pG (gV (gV g_2))
theorem c_veiled:(Rows.findingOnlyKnowsLessRow.veiled==(Tryz.f4.params.toList++(OpenSpec.ofChange Rows.findingOnlyKnowsLessSpec).bare.plain.varTypes Tryz.prog++Tryz.f4.resultTypes.toList).any (Tryz.prog.veiledRec ·))=true:=pG (gV g_2)
theorem aLv:(Rows.findingOnlyKnowsLessRow.veiledFits Tryz.prog Tryz.f4.params.toList (Tryz.f4.params.toList++(OpenSpec.ofChange Rows.findingOnlyKnowsLessSpec).bare.plain.varTypes Tryz.prog++Tryz.f4.resultTypes.toList))=true:=pG g_2
set_option maxRecDepth 100000 in
theorem closedF:joinedFacts Tryz.pinned.checked.prog 4 Tryz.f4 (OpenSpec.ofChange Rows.findingOnlyKnowsLessSpec).bare Rows.findingOnlyKnowsLessRow=true:=(mP (mP (mP (mP (mP (mP (mP (mP (mP (mP (mP (mP (mP (mP (mP (mP (mP (mP (mP (mP (mP (mP (mP (mP (mP (mP (mP (mP (mP (mP (mP c_wf aJr) aNx) c_params) c_tie) c_stops0) c_stops) c_knobs0) c_knobs) c_inPlace) aMx) aSh) c_named) c_maps) c_ifaces) c_mapsOut) c_loops) aSe) c_vars) c_results) aOm) aRi) aNv) c_short) c_heard) c_enter) c_lifted) c_make) c_kinds) c_pinned) c_veiled) aLv)
theorem goesF:false=Rows.findingOnlyKnowsLessRow.goesBy Tryz.pinned.checked.prog:=by kernel_rfl
theorem looksF:true=Tryz.pinned.checked.prog.looks []:=by kernel_rfl
end Go.Proofs.YtbjofgmdhbiekaaGreatDoor.findingOnlyKnowsLess
