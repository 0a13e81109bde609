/- Laws that the claim stands on; no condition beyond those stated. -/
import Derived.Test.YtolnigkhnidkoacGreatDoorCards
import Derived.WalkKit
import Derived.ProofKit
import Derived.LaidSub
import Derived.Deep.DeepHandedRow
import Derived.SizedLaws
namespace Go.Proofs.YtolnigkhnidkoacGreatDoor.findingBooksMatchSpec
open Go.ChangeShapes Go.WideShapes Go.ChangeAt Go.RowKit
theorem pU {a b:Bool}(ha:a=true)(hb:b=true):(a&&b)=true:=by rw [ha,hb];rfl
theorem gY {a b:Bool}(h:(a&&b)=true):a=true:=by cases a<;>simp_all
theorem qP {a b:Bool}(h:(a&&b)=true):b=true:=by cases a<;>simp_all
theorem g_0:((Rows.findingBooksMatchSpecRow.inPlace==Tryz.prog.inPlace 3)&&(Rows.findingBooksMatchSpecRow.unfollowed==Tryz.prog.unfollowed 3)&&(Rows.findingBooksMatchSpecRow.recurses==Tryz.prog.recurses 3)&&(Rows.findingBooksMatchSpecRow.named==Tryz.prog.varsNamed 3)&&(laidOutB Tryz.prog)&&(mapsRowed Tryz.prog)&&(Tryz.prog.stopsHeard)&&(Rows.findingBooksMatchSpecRow.plainKeys==Tryz.prog.plainKeys))=true:=by kernel_rfl
theorem c_inPlace:(Rows.findingBooksMatchSpecRow.inPlace==Tryz.prog.inPlace 3)=true:=(gY (gY (gY (gY (gY (gY (gY g_0)))))))
theorem aPk:(Rows.findingBooksMatchSpecRow.unfollowed==Tryz.prog.unfollowed 3)=true:=qP (gY (gY (gY (gY (gY (gY g_0))))))
theorem aUn:(Rows.findingBooksMatchSpecRow.recurses==Tryz.prog.recurses 3)=true:=qP (gY (gY (gY (gY (gY g_0)))))
theorem c_named:(Rows.findingBooksMatchSpecRow.named==Tryz.prog.varsNamed 3)=true:=qP (gY (gY (gY (gY g_0))))
theorem aNn:(laidOutB Tryz.prog)=true:=qP (gY (gY (gY g_0)))
theorem aSk:(mapsRowed Tryz.prog)=true:=qP (gY (gY g_0))
theorem c_heard:(Tryz.prog.stopsHeard)=true:=qP (gY g_0)
theorem aRv:(Rows.findingBooksMatchSpecRow.plainKeys==Tryz.prog.plainKeys)=true:=qP g_0
theorem g_1:((Tryz.prog.mayEnter)&&(Rows.findingBooksMatchSpecRow.lifted==Tryz.prog.liftsFinal))=true:=by kernel_rfl
theorem c_enter:(Tryz.prog.mayEnter)=true:=(gY g_1)
theorem c_lifted:(Rows.findingBooksMatchSpecRow.lifted==Tryz.prog.liftsFinal)=true:=qP g_1
theorem g_2:((Rows.findingBooksMatchSpecRow.wf (OpenSpec.ofChange (OpenSpec.ofChange Rows.findingBooksMatchSpecSpec).bare))&&(Tryz.f3.params.all (Tryz.prog.readableRec ·))&&(namedTie Tryz.prog Rows.findingBooksMatchSpecRow.named (OpenSpec.ofChange Rows.findingBooksMatchSpecSpec).bare.vars)&&(Rows.findingBooksMatchSpecRow.stops==[])&&(Tryz.prog.stops==[])&&(Rows.findingBooksMatchSpecRow.knobs==[])&&(Tryz.prog.stopKnobs==[])&&(Rows.findingBooksMatchSpecRow.maps==(Tryz.f3.params.toList++(OpenSpec.ofChange Rows.findingBooksMatchSpecSpec).bare.plain.varTypes Tryz.prog).any (Tryz.prog.mapsRec ·))&&(Rows.findingBooksMatchSpecRow.ifaces==(Tryz.f3.params.toList++(OpenSpec.ofChange Rows.findingBooksMatchSpecSpec).bare.plain.varTypes Tryz.prog).any (Tryz.prog.ifacesRec ·))&&(Rows.findingBooksMatchSpecRow.mapsOut==Tryz.prog.mapsAmong Tryz.f3.resultTypes.toList)&&(Rows.findingBooksMatchSpecRow.loops==(Tryz.f3.params.toList++(OpenSpec.ofChange Rows.findingBooksMatchSpecSpec).bare.plain.varTypes Tryz.prog).any (Tryz.prog.loopsFrom ·))&&(Rows.findingBooksMatchSpecRow.wideKeys==(Tryz.f3.params.toList++(OpenSpec.ofChange Rows.findingBooksMatchSpecSpec).bare.plain.varTypes Tryz.prog++Tryz.f3.resultTypes.toList).any (Tryz.prog.wideKeysFrom ·))&&((OpenSpec.ofChange Rows.findingBooksMatchSpecSpec).bare.vars.all (Tryz.prog.varReadable ·))&&(Tryz.f3.resultTypes.all (λt=>Tryz.prog.readableRec t&&decide (t<Tryz.prog.types.size)))&&(Rows.findingBooksMatchSpecRow.ifacesOut==Tryz.f3.resultTypes.toList.any (Tryz.prog.ifacesRec ·))&&(Rows.findingBooksMatchSpecRow.loopsOut==Tryz.f3.resultTypes.toList.any (Tryz.prog.loopsFrom ·))&&(Rows.findingBooksMatchSpecRow.shortTexts.isNone)&&(Tryz.prog.make==some Rows.findingBooksMatchSpecRow.make)&&(Rows.findingBooksMatchSpecRow.kinds==(if Rows.findingBooksMatchSpecRow.domain.isEmpty then []else Tryz.f3.params.toList.map λt=>match Tryz.prog.underlying t with |some (.int k)=>some k|_=>none))&&(Rows.findingBooksMatchSpecRow.pinned==Rows.findingBooksMatchSpecRow.pinnedBy)&&(Rows.findingBooksMatchSpecRow.veiled==(Tryz.f3.params.toList++(OpenSpec.ofChange Rows.findingBooksMatchSpecSpec).bare.plain.varTypes Tryz.prog++Tryz.f3.resultTypes.toList).any (Tryz.prog.veiledRec ·))&&(Rows.findingBooksMatchSpecRow.veiledFits Tryz.prog Tryz.f3.params.toList (Tryz.f3.params.toList++(OpenSpec.ofChange Rows.findingBooksMatchSpecSpec).bare.plain.varTypes Tryz.prog++Tryz.f3.resultTypes.toList)))=true:=by kernel_rfl
theorem c_wf:(Rows.findingBooksMatchSpecRow.wf (OpenSpec.ofChange (OpenSpec.ofChange Rows.findingBooksMatchSpecSpec).bare))=true:=(gY (gY (gY (gY (gY (gY (gY (gY (gY (gY (gY (gY (gY (gY (gY (gY (gY (gY (gY (gY (gY g_2)))))))))))))))))))))
theorem c_params:(Tryz.f3.params.all (Tryz.prog.readableRec ·))=true:=qP (gY (gY (gY (gY (gY (gY (gY (gY (gY (gY (gY (gY (gY (gY (gY (gY (gY (gY (gY (gY g_2))))))))))))))))))))
theorem c_tie:(namedTie Tryz.prog Rows.findingBooksMatchSpecRow.named (OpenSpec.ofChange Rows.findingBooksMatchSpecSpec).bare.vars)=true:=qP (gY (gY (gY (gY (gY (gY (gY (gY (gY (gY (gY (gY (gY (gY (gY (gY (gY (gY (gY g_2)))))))))))))))))))
theorem c_stops0:(Rows.findingBooksMatchSpecRow.stops==[])=true:=qP (gY (gY (gY (gY (gY (gY (gY (gY (gY (gY (gY (gY (gY (gY (gY (gY (gY (gY g_2))))))))))))))))))
theorem c_stops:(Tryz.prog.stops==[])=true:=qP (gY (gY (gY (gY (gY (gY (gY (gY (gY (gY (gY (gY (gY (gY (gY (gY (gY g_2)))))))))))))))))
theorem c_knobs0:(Rows.findingBooksMatchSpecRow.knobs==[])=true:=qP (gY (gY (gY (gY (gY (gY (gY (gY (gY (gY (gY (gY (gY (gY (gY (gY g_2))))))))))))))))
theorem c_knobs:(Tryz.prog.stopKnobs==[])=true:=qP (gY (gY (gY (gY (gY (gY (gY (gY (gY (gY (gY (gY (gY (gY (gY g_2)))))))))))))))
theorem c_maps:(Rows.findingBooksMatchSpecRow.maps==(Tryz.f3.params.toList++(OpenSpec.ofChange Rows.findingBooksMatchSpecSpec).bare.plain.varTypes Tryz.prog).any (Tryz.prog.mapsRec ·))=true:=qP (gY (gY (gY (gY (gY (gY (gY (gY (gY (gY (gY (gY (gY (gY g_2))))))))))))))
theorem c_ifaces:(Rows.findingBooksMatchSpecRow.ifaces==(Tryz.f3.params.toList++(OpenSpec.ofChange Rows.findingBooksMatchSpecSpec).bare.plain.varTypes Tryz.prog).any (Tryz.prog.ifacesRec ·))=true:=qP (gY (gY (gY (gY (gY (gY (gY (gY (gY (gY (gY (gY (gY g_2)))))))))))))
theorem c_mapsOut:(Rows.findingBooksMatchSpecRow.mapsOut==Tryz.prog.mapsAmong Tryz.f3.resultTypes.toList)=true:=qP (gY (gY (gY (gY (gY (gY (gY (gY (gY (gY (gY (gY g_2))))))))))))
theorem c_loops:(Rows.findingBooksMatchSpecRow.loops==(Tryz.f3.params.toList++(OpenSpec.ofChange Rows.findingBooksMatchSpecSpec).bare.plain.varTypes Tryz.prog).any (Tryz.prog.loopsFrom ·))=true:=qP (gY (gY (gY (gY (gY (gY (gY (gY (gY (gY (gY g_2)))))))))))
theorem aUi:(Rows.findingBooksMatchSpecRow.wideKeys==(Tryz.f3.params.toList++(OpenSpec.ofChange Rows.findingBooksMatchSpecSpec).bare.plain.varTypes Tryz.prog++Tryz.f3.resultTypes.toList).any (Tryz.prog.wideKeysFrom ·))=true:=qP (gY (gY (gY (gY (gY (gY (gY (gY (gY (gY g_2))))))))))
theorem c_vars:((OpenSpec.ofChange Rows.findingBooksMatchSpecSpec).bare.vars.all (Tryz.prog.varReadable ·))=true:=qP (gY (gY (gY (gY (gY (gY (gY (gY (gY g_2)))))))))
theorem c_results:(Tryz.f3.resultTypes.all (λt=>Tryz.prog.readableRec t&&decide (t<Tryz.prog.types.size)))=true:=qP (gY (gY (gY (gY (gY (gY (gY (gY g_2))))))))
theorem aTi:(Rows.findingBooksMatchSpecRow.ifacesOut==Tryz.f3.resultTypes.toList.any (Tryz.prog.ifacesRec ·))=true:=qP (gY (gY (gY (gY (gY (gY (gY g_2)))))))
theorem aUs:(Rows.findingBooksMatchSpecRow.loopsOut==Tryz.f3.resultTypes.toList.any (Tryz.prog.loopsFrom ·))=true:=qP (gY (gY (gY (gY (gY (gY g_2))))))
theorem c_short:(Rows.findingBooksMatchSpecRow.shortTexts.isNone)=true:=qP (gY (gY (gY (gY (gY g_2)))))
theorem c_make:(Tryz.prog.make==some Rows.findingBooksMatchSpecRow.make)=true:=qP (gY (gY (gY (gY g_2))))
theorem c_kinds:(Rows.findingBooksMatchSpecRow.kinds==(if Rows.findingBooksMatchSpecRow.domain.isEmpty then []else Tryz.f3.params.toList.map λt=>match Tryz.prog.underlying t with |some (.int k)=>some k|_=>none))=true:=qP (gY (gY (gY g_2)))
theorem c_pinned:(Rows.findingBooksMatchSpecRow.pinned==Rows.findingBooksMatchSpecRow.pinnedBy)=true:=qP (gY (gY g_2))
theorem c_veiled:(Rows.findingBooksMatchSpecRow.veiled==(Tryz.f3.params.toList++(OpenSpec.ofChange Rows.findingBooksMatchSpecSpec).bare.plain.varTypes Tryz.prog++Tryz.f3.resultTypes.toList).any (Tryz.prog.veiledRec ·))=true:=qP (gY g_2)
theorem aPo:(Rows.findingBooksMatchSpecRow.veiledFits Tryz.prog Tryz.f3.params.toList (Tryz.f3.params.toList++(OpenSpec.ofChange Rows.findingBooksMatchSpecSpec).bare.plain.varTypes Tryz.prog++Tryz.f3.resultTypes.toList))=true:=qP g_2
set_option maxRecDepth 100000 in
theorem closedF:joinedFacts Tryz.pinned.checked.prog 3 Tryz.f3 (OpenSpec.ofChange Rows.findingBooksMatchSpecSpec).bare Rows.findingBooksMatchSpecRow=true:=(pU (pU (pU (pU (pU (pU (pU (pU (pU (pU (pU (pU (pU (pU (pU (pU (pU (pU (pU (pU (pU (pU (pU (pU (pU (pU (pU (pU (pU (pU (pU c_wf aNn) aSk) c_params) c_tie) c_stops0) c_stops) c_knobs0) c_knobs) c_inPlace) aPk) aUn) c_named) c_maps) c_ifaces) c_mapsOut) c_loops) aUi) c_vars) c_results) aTi) aUs) aRv) c_short) c_heard) c_enter) c_lifted) c_make) c_kinds) c_pinned) c_veiled) aPo)
theorem goesF:false=Rows.findingBooksMatchSpecRow.goesBy Tryz.pinned.checked.prog:=by kernel_rfl
theorem looksF:true=Tryz.pinned.checked.prog.looks []:=by kernel_rfl
end Go.Proofs.YtolnigkhnidkoacGreatDoor.findingBooksMatchSpec
