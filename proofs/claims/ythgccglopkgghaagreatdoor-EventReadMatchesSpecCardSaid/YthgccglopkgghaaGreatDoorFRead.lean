/- Laws that the claim stands on; no condition beyond those stated. -/
import Derived.Test.YthgccglopkgghaaGreatDoorCards
import Derived.WalkKit
import Derived.ProofKit
import Derived.LaidSub
import Derived.Deep.DeepHandedRow
import Derived.SizedLaws
namespace Go.Proofs.YthgccglopkgghaaGreatDoor.eventReadMatchesSpec
open Go.ChangeShapes Go.WideShapes Go.ChangeAt Go.RowKit
theorem kL {a b:Bool}(ha:a=true)(hb:b=true):(a&&b)=true:=by rw [ha,hb];rfl
theorem gY {a b:Bool}(h:(a&&b)=true):a=true:=by cases a<;>simp_all
theorem jC {a b:Bool}(h:(a&&b)=true):b=true:=by cases a<;>simp_all
theorem g_0:((Rows.eventReadMatchesSpecRow.inPlace==Tryz.prog.inPlace 3)&&(Rows.eventReadMatchesSpecRow.unfollowed==Tryz.prog.unfollowed 3)&&(Rows.eventReadMatchesSpecRow.recurses==Tryz.prog.recurses 3)&&(Rows.eventReadMatchesSpecRow.named==Tryz.prog.varsNamed 3)&&(laidOutB Tryz.prog)&&(mapsRowed Tryz.prog)&&(Tryz.prog.stopsHeard)&&(Rows.eventReadMatchesSpecRow.plainKeys==Tryz.prog.plainKeys))=true:=by kernel_rfl
theorem c_inPlace:(Rows.eventReadMatchesSpecRow.inPlace==Tryz.prog.inPlace 3)=true:=(gY (gY (gY (gY (gY (gY (gY g_0)))))))
theorem aEi:(Rows.eventReadMatchesSpecRow.unfollowed==Tryz.prog.unfollowed 3)=true:=jC (gY (gY (gY (gY (gY (gY g_0))))))
theorem aHt:(Rows.eventReadMatchesSpecRow.recurses==Tryz.prog.recurses 3)=true:=jC (gY (gY (gY (gY (gY g_0)))))
theorem c_named:(Rows.eventReadMatchesSpecRow.named==Tryz.prog.varsNamed 3)=true:=jC (gY (gY (gY (gY g_0))))
theorem aCy:(laidOutB Tryz.prog)=true:=jC (gY (gY (gY g_0)))
theorem aHd:(mapsRowed Tryz.prog)=true:=jC (gY (gY g_0))
theorem c_heard:(Tryz.prog.stopsHeard)=true:=jC (gY g_0)
theorem aHa:(Rows.eventReadMatchesSpecRow.plainKeys==Tryz.prog.plainKeys)=true:=jC g_0
theorem g_1:((Tryz.prog.mayEnter)&&(Rows.eventReadMatchesSpecRow.lifted==Tryz.prog.liftsFinal))=true:=by kernel_rfl
theorem c_enter:(Tryz.prog.mayEnter)=true:=(gY g_1)
theorem c_lifted:(Rows.eventReadMatchesSpecRow.lifted==Tryz.prog.liftsFinal)=true:=jC g_1
theorem g_2:((Rows.eventReadMatchesSpecRow.wf (OpenSpec.ofChange (OpenSpec.ofChange Rows.eventReadMatchesSpecSpec).bare))&&(Tryz.f3.params.all (Tryz.prog.readableRec ·))&&(namedTie Tryz.prog Rows.eventReadMatchesSpecRow.named (OpenSpec.ofChange Rows.eventReadMatchesSpecSpec).bare.vars)&&(Rows.eventReadMatchesSpecRow.stops==[])&&(Tryz.prog.stops==[])&&(Rows.eventReadMatchesSpecRow.knobs==[])&&(Tryz.prog.stopKnobs==[])&&(Rows.eventReadMatchesSpecRow.maps==(Tryz.f3.params.toList++(OpenSpec.ofChange Rows.eventReadMatchesSpecSpec).bare.plain.varTypes Tryz.prog).any (Tryz.prog.mapsRec ·))&&(Rows.eventReadMatchesSpecRow.ifaces==(Tryz.f3.params.toList++(OpenSpec.ofChange Rows.eventReadMatchesSpecSpec).bare.plain.varTypes Tryz.prog).any (Tryz.prog.ifacesRec ·))&&(Rows.eventReadMatchesSpecRow.mapsOut==Tryz.prog.mapsAmong Tryz.f3.resultTypes.toList)&&(Rows.eventReadMatchesSpecRow.loops==(Tryz.f3.params.toList++(OpenSpec.ofChange Rows.eventReadMatchesSpecSpec).bare.plain.varTypes Tryz.prog).any (Tryz.prog.loopsFrom ·))&&(Rows.eventReadMatchesSpecRow.wideKeys==(Tryz.f3.params.toList++(OpenSpec.ofChange Rows.eventReadMatchesSpecSpec).bare.plain.varTypes Tryz.prog++Tryz.f3.resultTypes.toList).any (Tryz.prog.wideKeysFrom ·))&&((OpenSpec.ofChange Rows.eventReadMatchesSpecSpec).bare.vars.all (Tryz.prog.varReadable ·))&&(Tryz.f3.resultTypes.all (λt=>Tryz.prog.readableRec t&&decide (t<Tryz.prog.types.size)))&&(Rows.eventReadMatchesSpecRow.ifacesOut==Tryz.f3.resultTypes.toList.any (Tryz.prog.ifacesRec ·))&&(Rows.eventReadMatchesSpecRow.loopsOut==Tryz.f3.resultTypes.toList.any (Tryz.prog.loopsFrom ·))&&(Rows.eventReadMatchesSpecRow.shortTexts.isNone)&&(Tryz.prog.make==some Rows.eventReadMatchesSpecRow.make)&&(Rows.eventReadMatchesSpecRow.kinds==(if Rows.eventReadMatchesSpecRow.domain.isEmpty then []else Tryz.f3.params.toList.map λt=>match Tryz.prog.underlying t with |some (.int k)=>some k|_=>none))&&(Rows.eventReadMatchesSpecRow.pinned==Rows.eventReadMatchesSpecRow.pinnedBy)&&(Rows.eventReadMatchesSpecRow.veiled==(Tryz.f3.params.toList++(OpenSpec.ofChange Rows.eventReadMatchesSpecSpec).bare.plain.varTypes Tryz.prog++Tryz.f3.resultTypes.toList).any (Tryz.prog.veiledRec ·))&&(Rows.eventReadMatchesSpecRow.veiledFits Tryz.prog Tryz.f3.params.toList (Tryz.f3.params.toList++(OpenSpec.ofChange Rows.eventReadMatchesSpecSpec).bare.plain.varTypes Tryz.prog++Tryz.f3.resultTypes.toList)))=true:=by kernel_rfl
theorem c_wf:(Rows.eventReadMatchesSpecRow.wf (OpenSpec.ofChange (OpenSpec.ofChange Rows.eventReadMatchesSpecSpec).bare))=true:=(gY (gY (gY (gY (gY (gY (gY (gY (gY (gY (gY (gY (gY (gY (gY (gY (gY (gY (gY (gY (gY g_2)))))))))))))))))))))
theorem c_params:(Tryz.f3.params.all (Tryz.prog.readableRec ·))=true:=jC (gY (gY (gY (gY (gY (gY (gY (gY (gY (gY (gY (gY (gY (gY (gY (gY (gY (gY (gY (gY g_2))))))))))))))))))))
theorem c_tie:(namedTie Tryz.prog Rows.eventReadMatchesSpecRow.named (OpenSpec.ofChange Rows.eventReadMatchesSpecSpec).bare.vars)=true:=jC (gY (gY (gY (gY (gY (gY (gY (gY (gY (gY (gY (gY (gY (gY (gY (gY (gY (gY (gY g_2)))))))))))))))))))
theorem c_stops0:(Rows.eventReadMatchesSpecRow.stops==[])=true:=jC (gY (gY (gY (gY (gY (gY (gY (gY (gY (gY (gY (gY (gY (gY (gY (gY (gY (gY g_2))))))))))))))))))
theorem c_stops:(Tryz.prog.stops==[])=true:=jC (gY (gY (gY (gY (gY (gY (gY (gY (gY (gY (gY (gY (gY (gY (gY (gY (gY g_2)))))))))))))))))
theorem c_knobs0:(Rows.eventReadMatchesSpecRow.knobs==[])=true:=jC (gY (gY (gY (gY (gY (gY (gY (gY (gY (gY (gY (gY (gY (gY (gY (gY g_2))))))))))))))))
theorem c_knobs:(Tryz.prog.stopKnobs==[])=true:=jC (gY (gY (gY (gY (gY (gY (gY (gY (gY (gY (gY (gY (gY (gY (gY g_2)))))))))))))))
theorem c_maps:(Rows.eventReadMatchesSpecRow.maps==(Tryz.f3.params.toList++(OpenSpec.ofChange Rows.eventReadMatchesSpecSpec).bare.plain.varTypes Tryz.prog).any (Tryz.prog.mapsRec ·))=true:=jC (gY (gY (gY (gY (gY (gY (gY (gY (gY (gY (gY (gY (gY (gY g_2))))))))))))))
theorem c_ifaces:(Rows.eventReadMatchesSpecRow.ifaces==(Tryz.f3.params.toList++(OpenSpec.ofChange Rows.eventReadMatchesSpecSpec).bare.plain.varTypes Tryz.prog).any (Tryz.prog.ifacesRec ·))=true:=jC (gY (gY (gY (gY (gY (gY (gY (gY (gY (gY (gY (gY (gY g_2)))))))))))))
theorem c_mapsOut:(Rows.eventReadMatchesSpecRow.mapsOut==Tryz.prog.mapsAmong Tryz.f3.resultTypes.toList)=true:=jC (gY (gY (gY (gY (gY (gY (gY (gY (gY (gY (gY (gY g_2))))))))))))
theorem c_loops:(Rows.eventReadMatchesSpecRow.loops==(Tryz.f3.params.toList++(OpenSpec.ofChange Rows.eventReadMatchesSpecSpec).bare.plain.varTypes Tryz.prog).any (Tryz.prog.loopsFrom ·))=true:=jC (gY (gY (gY (gY (gY (gY (gY (gY (gY (gY (gY g_2)))))))))))
theorem aIv:(Rows.eventReadMatchesSpecRow.wideKeys==(Tryz.f3.params.toList++(OpenSpec.ofChange Rows.eventReadMatchesSpecSpec).bare.plain.varTypes Tryz.prog++Tryz.f3.resultTypes.toList).any (Tryz.prog.wideKeysFrom ·))=true:=jC (gY (gY (gY (gY (gY (gY (gY (gY (gY (gY g_2))))))))))
theorem c_vars:((OpenSpec.ofChange Rows.eventReadMatchesSpecSpec).bare.vars.all (Tryz.prog.varReadable ·))=true:=jC (gY (gY (gY (gY (gY (gY (gY (gY (gY g_2)))))))))
theorem c_results:(Tryz.f3.resultTypes.all (λt=>Tryz.prog.readableRec t&&decide (t<Tryz.prog.types.size)))=true:=jC (gY (gY (gY (gY (gY (gY (gY (gY g_2))))))))
theorem aFq:(Rows.eventReadMatchesSpecRow.ifacesOut==Tryz.f3.resultTypes.toList.any (Tryz.prog.ifacesRec ·))=true:=jC (gY (gY (gY (gY (gY (gY (gY g_2)))))))
theorem aHv:(Rows.eventReadMatchesSpecRow.loopsOut==Tryz.f3.resultTypes.toList.any (Tryz.prog.loopsFrom ·))=true:=jC (gY (gY (gY (gY (gY (gY g_2))))))
theorem c_short:(Rows.eventReadMatchesSpecRow.shortTexts.isNone)=true:=jC (gY (gY (gY (gY (gY g_2)))))
theorem c_make:(Tryz.prog.make==some Rows.eventReadMatchesSpecRow.make)=true:=jC (gY (gY (gY (gY g_2))))
theorem c_kinds:(Rows.eventReadMatchesSpecRow.kinds==(if Rows.eventReadMatchesSpecRow.domain.isEmpty then []else Tryz.f3.params.toList.map λt=>match Tryz.prog.underlying t with |some (.int k)=>some k|_=>none))=true:=jC (gY (gY (gY g_2)))
theorem c_pinned:(Rows.eventReadMatchesSpecRow.pinned==Rows.eventReadMatchesSpecRow.pinnedBy)=true:=jC (gY (gY g_2))
theorem c_veiled:(Rows.eventReadMatchesSpecRow.veiled==(Tryz.f3.params.toList++(OpenSpec.ofChange Rows.eventReadMatchesSpecSpec).bare.plain.varTypes Tryz.prog++Tryz.f3.resultTypes.toList).any (Tryz.prog.veiledRec ·))=true:=jC (gY g_2)
theorem aEv:(Rows.eventReadMatchesSpecRow.veiledFits Tryz.prog Tryz.f3.params.toList (Tryz.f3.params.toList++(OpenSpec.ofChange Rows.eventReadMatchesSpecSpec).bare.plain.varTypes Tryz.prog++Tryz.f3.resultTypes.toList))=true:=jC g_2
set_option maxRecDepth 100000 in
theorem closedF:joinedFacts Tryz.pinned.checked.prog 3 Tryz.f3 (OpenSpec.ofChange Rows.eventReadMatchesSpecSpec).bare Rows.eventReadMatchesSpecRow=true:=(kL (kL (kL (kL (kL (kL (kL (kL (kL (kL (kL (kL (kL (kL (kL (kL (kL (kL (kL (kL (kL (kL (kL (kL (kL (kL (kL (kL (kL (kL (kL c_wf aCy) aHd) c_params) c_tie) c_stops0) c_stops) c_knobs0) c_knobs) c_inPlace) aEi) aHt) c_named) c_maps) c_ifaces) c_mapsOut) c_loops) aIv) c_vars) c_results) aFq) aHv) aHa) c_short) c_heard) c_enter) c_lifted) c_make) c_kinds) c_pinned) c_veiled) aEv)
theorem goesF:false=Rows.eventReadMatchesSpecRow.goesBy Tryz.pinned.checked.prog:=by kernel_rfl
theorem looksF:true=Tryz.pinned.checked.prog.looks []:=by kernel_rfl
end Go.Proofs.YthgccglopkgghaaGreatDoor.eventReadMatchesSpec
