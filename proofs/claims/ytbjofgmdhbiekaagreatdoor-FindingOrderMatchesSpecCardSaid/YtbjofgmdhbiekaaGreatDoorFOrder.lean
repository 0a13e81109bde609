/- Laws that the claim stands on; no condition beyond those stated. -/
import Derived.Test.YtbjofgmdhbiekaaGreatDoorCards
import Derived.WalkKit
import Derived.ProofKit
import Derived.LaidSub
import Derived.Deep.DeepHandedRow
import Derived.SizedLaws
namespace Go.Proofs.YtbjofgmdhbiekaaGreatDoor.findingOrderMatchesSpec
open Go.ChangeShapes Go.WideShapes Go.ChangeAt Go.RowKit
theorem nP {a b:Bool}(ha:a=true)(hb:b=true):(a&&b)=true:=by rw [ha,hb];rfl
theorem gX {a b:Bool}(h:(a&&b)=true):a=true:=by cases a<;>simp_all
theorem pY {a b:Bool}(h:(a&&b)=true):b=true:=by cases a<;>simp_all
theorem g_0:((Rows.findingOrderMatchesSpecRow.inPlace==Tryz.prog.inPlace 5)&&(Rows.findingOrderMatchesSpecRow.unfollowed==Tryz.prog.unfollowed 5)&&(Rows.findingOrderMatchesSpecRow.recurses==Tryz.prog.recurses 5)&&(Rows.findingOrderMatchesSpecRow.named==Tryz.prog.varsNamed 5)&&(laidOutB Tryz.prog)&&(mapsRowed Tryz.prog)&&(Tryz.prog.stopsHeard)&&(Rows.findingOrderMatchesSpecRow.plainKeys==Tryz.prog.plainKeys))=true:=by kernel_rfl
theorem c_inPlace:(Rows.findingOrderMatchesSpecRow.inPlace==Tryz.prog.inPlace 5)=true:=(gX (gX (gX (gX (gX (gX (gX g_0)))))))
theorem aPo:(Rows.findingOrderMatchesSpecRow.unfollowed==Tryz.prog.unfollowed 5)=true:=pY (gX (gX (gX (gX (gX (gX g_0))))))
theorem aUx:(Rows.findingOrderMatchesSpecRow.recurses==Tryz.prog.recurses 5)=true:=pY (gX (gX (gX (gX (gX g_0)))))
theorem c_named:(Rows.findingOrderMatchesSpecRow.named==Tryz.prog.varsNamed 5)=true:=pY (gX (gX (gX (gX g_0))))
theorem aNl:(laidOutB Tryz.prog)=true:=pY (gX (gX (gX g_0)))
theorem aQg:(mapsRowed Tryz.prog)=true:=pY (gX (gX g_0))
theorem c_heard:(Tryz.prog.stopsHeard)=true:=pY (gX g_0)
theorem aSi:(Rows.findingOrderMatchesSpecRow.plainKeys==Tryz.prog.plainKeys)=true:=pY g_0
theorem g_1:((Tryz.prog.mayEnter)&&(Rows.findingOrderMatchesSpecRow.lifted==Tryz.prog.liftsFinal))=true:=by kernel_rfl
theorem c_enter:(Tryz.prog.mayEnter)=true:=(gX g_1)
theorem c_lifted:(Rows.findingOrderMatchesSpecRow.lifted==Tryz.prog.liftsFinal)=true:=pY g_1
theorem g_2:((Rows.findingOrderMatchesSpecRow.wf (OpenSpec.ofChange (OpenSpec.ofChange Rows.findingOrderMatchesSpecSpec).bare))&&(Tryz.f5.params.all (Tryz.prog.readableRec ·))&&(namedTie Tryz.prog Rows.findingOrderMatchesSpecRow.named (OpenSpec.ofChange Rows.findingOrderMatchesSpecSpec).bare.vars)&&(Rows.findingOrderMatchesSpecRow.stops==[])&&(Tryz.prog.stops==[])&&(Rows.findingOrderMatchesSpecRow.knobs==[])&&(Tryz.prog.stopKnobs==[])&&(Rows.findingOrderMatchesSpecRow.maps==(Tryz.f5.params.toList++(OpenSpec.ofChange Rows.findingOrderMatchesSpecSpec).bare.plain.varTypes Tryz.prog).any (Tryz.prog.mapsRec ·))&&(Rows.findingOrderMatchesSpecRow.ifaces==(Tryz.f5.params.toList++(OpenSpec.ofChange Rows.findingOrderMatchesSpecSpec).bare.plain.varTypes Tryz.prog).any (Tryz.prog.ifacesRec ·))&&(Rows.findingOrderMatchesSpecRow.mapsOut==Tryz.prog.mapsAmong Tryz.f5.resultTypes.toList)&&(Rows.findingOrderMatchesSpecRow.loops==(Tryz.f5.params.toList++(OpenSpec.ofChange Rows.findingOrderMatchesSpecSpec).bare.plain.varTypes Tryz.prog).any (Tryz.prog.loopsFrom ·))&&(Rows.findingOrderMatchesSpecRow.wideKeys==(Tryz.f5.params.toList++(OpenSpec.ofChange Rows.findingOrderMatchesSpecSpec).bare.plain.varTypes Tryz.prog++Tryz.f5.resultTypes.toList).any (Tryz.prog.wideKeysFrom ·))&&((OpenSpec.ofChange Rows.findingOrderMatchesSpecSpec).bare.vars.all (Tryz.prog.varReadable ·))&&(Tryz.f5.resultTypes.all (λt=>Tryz.prog.readableRec t&&decide (t<Tryz.prog.types.size)))&&(Rows.findingOrderMatchesSpecRow.ifacesOut==Tryz.f5.resultTypes.toList.any (Tryz.prog.ifacesRec ·))&&(Rows.findingOrderMatchesSpecRow.loopsOut==Tryz.f5.resultTypes.toList.any (Tryz.prog.loopsFrom ·))&&(Rows.findingOrderMatchesSpecRow.shortTexts.isNone)&&(Tryz.prog.make==some Rows.findingOrderMatchesSpecRow.make)&&(Rows.findingOrderMatchesSpecRow.kinds==(if Rows.findingOrderMatchesSpecRow.domain.isEmpty then []else Tryz.f5.params.toList.map λt=>match Tryz.prog.underlying t with |some (.int k)=>some k|_=>none))&&(Rows.findingOrderMatchesSpecRow.pinned==Rows.findingOrderMatchesSpecRow.pinnedBy)&&(Rows.findingOrderMatchesSpecRow.veiled==(Tryz.f5.params.toList++(OpenSpec.ofChange Rows.findingOrderMatchesSpecSpec).bare.plain.varTypes Tryz.prog++Tryz.f5.resultTypes.toList).any (Tryz.prog.veiledRec ·))&&(Rows.findingOrderMatchesSpecRow.veiledFits Tryz.prog Tryz.f5.params.toList (Tryz.f5.params.toList++(OpenSpec.ofChange Rows.findingOrderMatchesSpecSpec).bare.plain.varTypes Tryz.prog++Tryz.f5.resultTypes.toList)))=true:=by kernel_rfl
theorem c_wf:(Rows.findingOrderMatchesSpecRow.wf (OpenSpec.ofChange (OpenSpec.ofChange Rows.findingOrderMatchesSpecSpec).bare))=true:=(gX (gX (gX (gX (gX (gX (gX (gX (gX (gX (gX (gX (gX (gX (gX (gX (gX (gX (gX (gX (gX g_2)))))))))))))))))))))
theorem c_params:(Tryz.f5.params.all (Tryz.prog.readableRec ·))=true:=pY (gX (gX (gX (gX (gX (gX (gX (gX (gX (gX (gX (gX (gX (gX (gX (gX (gX (gX (gX (gX g_2))))))))))))))))))))
theorem c_tie:(namedTie Tryz.prog Rows.findingOrderMatchesSpecRow.named (OpenSpec.ofChange Rows.findingOrderMatchesSpecSpec).bare.vars)=true:=pY (gX (gX (gX (gX (gX (gX (gX (gX (gX (gX (gX (gX (gX (gX (gX (gX (gX (gX (gX g_2)))))))))))))))))))
theorem c_stops0:(Rows.findingOrderMatchesSpecRow.stops==[])=true:=pY (gX (gX (gX (gX (gX (gX (gX (gX (gX (gX (gX (gX (gX (gX (gX (gX (gX (gX g_2))))))))))))))))))
theorem c_stops:(Tryz.prog.stops==[])=true:=pY (gX (gX (gX (gX (gX (gX (gX (gX (gX (gX (gX (gX (gX (gX (gX (gX (gX g_2)))))))))))))))))
theorem c_knobs0:(Rows.findingOrderMatchesSpecRow.knobs==[])=true:=pY (gX (gX (gX (gX (gX (gX (gX (gX (gX (gX (gX (gX (gX (gX (gX (gX g_2))))))))))))))))
theorem c_knobs:(Tryz.prog.stopKnobs==[])=true:=pY (gX (gX (gX (gX (gX (gX (gX (gX (gX (gX (gX (gX (gX (gX (gX g_2)))))))))))))))
theorem c_maps:(Rows.findingOrderMatchesSpecRow.maps==(Tryz.f5.params.toList++(OpenSpec.ofChange Rows.findingOrderMatchesSpecSpec).bare.plain.varTypes Tryz.prog).any (Tryz.prog.mapsRec ·))=true:=pY (gX (gX (gX (gX (gX (gX (gX (gX (gX (gX (gX (gX (gX (gX g_2))))))))))))))
theorem c_ifaces:(Rows.findingOrderMatchesSpecRow.ifaces==(Tryz.f5.params.toList++(OpenSpec.ofChange Rows.findingOrderMatchesSpecSpec).bare.plain.varTypes Tryz.prog).any (Tryz.prog.ifacesRec ·))=true:=pY (gX (gX (gX (gX (gX (gX (gX (gX (gX (gX (gX (gX (gX g_2)))))))))))))
theorem c_mapsOut:(Rows.findingOrderMatchesSpecRow.mapsOut==Tryz.prog.mapsAmong Tryz.f5.resultTypes.toList)=true:=pY (gX (gX (gX (gX (gX (gX (gX (gX (gX (gX (gX (gX g_2))))))))))))
theorem c_loops:(Rows.findingOrderMatchesSpecRow.loops==(Tryz.f5.params.toList++(OpenSpec.ofChange Rows.findingOrderMatchesSpecSpec).bare.plain.varTypes Tryz.prog).any (Tryz.prog.loopsFrom ·))=true:=pY (gX (gX (gX (gX (gX (gX (gX (gX (gX (gX (gX g_2)))))))))))
theorem aTq:(Rows.findingOrderMatchesSpecRow.wideKeys==(Tryz.f5.params.toList++(OpenSpec.ofChange Rows.findingOrderMatchesSpecSpec).bare.plain.varTypes Tryz.prog++Tryz.f5.resultTypes.toList).any (Tryz.prog.wideKeysFrom ·))=true:=pY (gX (gX (gX (gX (gX (gX (gX (gX (gX (gX g_2))))))))))
theorem c_vars:((OpenSpec.ofChange Rows.findingOrderMatchesSpecSpec).bare.vars.all (Tryz.prog.varReadable ·))=true:=pY (gX (gX (gX (gX (gX (gX (gX (gX (gX g_2)))))))))
theorem c_results:(Tryz.f5.resultTypes.all (λt=>Tryz.prog.readableRec t&&decide (t<Tryz.prog.types.size)))=true:=pY (gX (gX (gX (gX (gX (gX (gX (gX g_2))))))))
theorem aQe:(Rows.findingOrderMatchesSpecRow.ifacesOut==Tryz.f5.resultTypes.toList.any (Tryz.prog.ifacesRec ·))=true:=pY (gX (gX (gX (gX (gX (gX (gX g_2)))))))
theorem aTh:(Rows.findingOrderMatchesSpecRow.loopsOut==Tryz.f5.resultTypes.toList.any (Tryz.prog.loopsFrom ·))=true:=pY (gX (gX (gX (gX (gX (gX g_2))))))
theorem c_short:(Rows.findingOrderMatchesSpecRow.shortTexts.isNone)=true:=pY (gX (gX (gX (gX (gX g_2)))))
theorem c_make:(Tryz.prog.make==some Rows.findingOrderMatchesSpecRow.make)=true:=pY (gX (gX (gX (gX g_2))))
theorem c_kinds:(Rows.findingOrderMatchesSpecRow.kinds==(if Rows.findingOrderMatchesSpecRow.domain.isEmpty then []else Tryz.f5.params.toList.map λt=>match Tryz.prog.underlying t with |some (.int k)=>some k|_=>none))=true:=pY (gX (gX (gX g_2)))
theorem c_pinned:(Rows.findingOrderMatchesSpecRow.pinned==Rows.findingOrderMatchesSpecRow.pinnedBy)=true:=pY (gX (gX g_2))
theorem c_veiled:(Rows.findingOrderMatchesSpecRow.veiled==(Tryz.f5.params.toList++(OpenSpec.ofChange Rows.findingOrderMatchesSpecSpec).bare.plain.varTypes Tryz.prog++Tryz.f5.resultTypes.toList).any (Tryz.prog.veiledRec ·))=true:=pY (gX g_2)
theorem aOa:(Rows.findingOrderMatchesSpecRow.veiledFits Tryz.prog Tryz.f5.params.toList (Tryz.f5.params.toList++(OpenSpec.ofChange Rows.findingOrderMatchesSpecSpec).bare.plain.varTypes Tryz.prog++Tryz.f5.resultTypes.toList))=true:=pY g_2
set_option maxRecDepth 100000 in
theorem closedF:joinedFacts Tryz.pinned.checked.prog 5 Tryz.f5 (OpenSpec.ofChange Rows.findingOrderMatchesSpecSpec).bare Rows.findingOrderMatchesSpecRow=true:=(nP (nP (nP (nP (nP (nP (nP (nP (nP (nP (nP (nP (nP (nP (nP (nP (nP (nP (nP (nP (nP (nP (nP (nP (nP (nP (nP (nP (nP (nP (nP c_wf aNl) aQg) c_params) c_tie) c_stops0) c_stops) c_knobs0) c_knobs) c_inPlace) aPo) aUx) c_named) c_maps) c_ifaces) c_mapsOut) c_loops) aTq) c_vars) c_results) aQe) aTh) aSi) c_short) c_heard) c_enter) c_lifted) c_make) c_kinds) c_pinned) c_veiled) aOa)
theorem goesF:false=Rows.findingOrderMatchesSpecRow.goesBy Tryz.pinned.checked.prog:=by kernel_rfl
theorem looksF:true=Tryz.pinned.checked.prog.looks []:=by kernel_rfl
end Go.Proofs.YtbjofgmdhbiekaaGreatDoor.findingOrderMatchesSpec
