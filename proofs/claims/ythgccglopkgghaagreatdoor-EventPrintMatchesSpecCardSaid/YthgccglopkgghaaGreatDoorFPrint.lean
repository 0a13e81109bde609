/- Laws that the claim stands on; no condition beyond those stated. -/
import Derived.Test.YthgccglopkgghaaGreatDoorCards
import Derived.WalkKit
import Derived.ProofKit
import Derived.LaidSub
import Derived.Deep.DeepHandedRow
import Derived.SizedLaws
namespace Go.Proofs.YthgccglopkgghaaGreatDoor.eventPrintMatchesSpec
open Go.ChangeShapes Go.WideShapes Go.ChangeAt Go.RowKit
theorem kL {a b:Bool}(ha:a=true)(hb:b=true):(a&&b)=true:=by rw [ha,hb];rfl
theorem gY {a b:Bool}(h:(a&&b)=true):a=true:=by cases a<;>simp_all
theorem jC {a b:Bool}(h:(a&&b)=true):b=true:=by cases a<;>simp_all
theorem g_0:((Rows.eventPrintMatchesSpecRow.inPlace==Tryz.prog.inPlace 4)&&(Rows.eventPrintMatchesSpecRow.unfollowed==Tryz.prog.unfollowed 4)&&(Rows.eventPrintMatchesSpecRow.recurses==Tryz.prog.recurses 4)&&(Rows.eventPrintMatchesSpecRow.named==Tryz.prog.varsNamed 4)&&(laidOutB Tryz.prog)&&(mapsRowed Tryz.prog)&&(Tryz.prog.stopsHeard)&&(Rows.eventPrintMatchesSpecRow.plainKeys==Tryz.prog.plainKeys))=true:=by kernel_rfl
theorem c_inPlace:(Rows.eventPrintMatchesSpecRow.inPlace==Tryz.prog.inPlace 4)=true:=(gY (gY (gY (gY (gY (gY (gY g_0)))))))
theorem aEi:(Rows.eventPrintMatchesSpecRow.unfollowed==Tryz.prog.unfollowed 4)=true:=jC (gY (gY (gY (gY (gY (gY g_0))))))
theorem aHt:(Rows.eventPrintMatchesSpecRow.recurses==Tryz.prog.recurses 4)=true:=jC (gY (gY (gY (gY (gY g_0)))))
theorem c_named:(Rows.eventPrintMatchesSpecRow.named==Tryz.prog.varsNamed 4)=true:=jC (gY (gY (gY (gY g_0))))
theorem aCy:(laidOutB Tryz.prog)=true:=jC (gY (gY (gY g_0)))
theorem aHd:(mapsRowed Tryz.prog)=true:=jC (gY (gY g_0))
theorem c_heard:(Tryz.prog.stopsHeard)=true:=jC (gY g_0)
theorem aHa:(Rows.eventPrintMatchesSpecRow.plainKeys==Tryz.prog.plainKeys)=true:=jC g_0
theorem g_1:((Tryz.prog.mayEnter)&&(Rows.eventPrintMatchesSpecRow.lifted==Tryz.prog.liftsFinal))=true:=by kernel_rfl
theorem c_enter:(Tryz.prog.mayEnter)=true:=(gY g_1)
theorem c_lifted:(Rows.eventPrintMatchesSpecRow.lifted==Tryz.prog.liftsFinal)=true:=jC g_1
theorem g_2:((Rows.eventPrintMatchesSpecRow.wf (OpenSpec.ofChange (OpenSpec.ofChange Rows.eventPrintMatchesSpecSpec).bare))&&(Tryz.f4.params.all (Tryz.prog.readableRec ·))&&(namedTie Tryz.prog Rows.eventPrintMatchesSpecRow.named (OpenSpec.ofChange Rows.eventPrintMatchesSpecSpec).bare.vars)&&(Rows.eventPrintMatchesSpecRow.stops==[])&&(Tryz.prog.stops==[])&&(Rows.eventPrintMatchesSpecRow.knobs==[])&&(Tryz.prog.stopKnobs==[])&&(Rows.eventPrintMatchesSpecRow.maps==(Tryz.f4.params.toList++(OpenSpec.ofChange Rows.eventPrintMatchesSpecSpec).bare.plain.varTypes Tryz.prog).any (Tryz.prog.mapsRec ·))&&(Rows.eventPrintMatchesSpecRow.ifaces==(Tryz.f4.params.toList++(OpenSpec.ofChange Rows.eventPrintMatchesSpecSpec).bare.plain.varTypes Tryz.prog).any (Tryz.prog.ifacesRec ·))&&(Rows.eventPrintMatchesSpecRow.mapsOut==Tryz.prog.mapsAmong Tryz.f4.resultTypes.toList)&&(Rows.eventPrintMatchesSpecRow.loops==(Tryz.f4.params.toList++(OpenSpec.ofChange Rows.eventPrintMatchesSpecSpec).bare.plain.varTypes Tryz.prog).any (Tryz.prog.loopsFrom ·))&&(Rows.eventPrintMatchesSpecRow.wideKeys==(Tryz.f4.params.toList++(OpenSpec.ofChange Rows.eventPrintMatchesSpecSpec).bare.plain.varTypes Tryz.prog++Tryz.f4.resultTypes.toList).any (Tryz.prog.wideKeysFrom ·))&&((OpenSpec.ofChange Rows.eventPrintMatchesSpecSpec).bare.vars.all (Tryz.prog.varReadable ·))&&(Tryz.f4.resultTypes.all (λt=>Tryz.prog.readableRec t&&decide (t<Tryz.prog.types.size)))&&(Rows.eventPrintMatchesSpecRow.ifacesOut==Tryz.f4.resultTypes.toList.any (Tryz.prog.ifacesRec ·))&&(Rows.eventPrintMatchesSpecRow.loopsOut==Tryz.f4.resultTypes.toList.any (Tryz.prog.loopsFrom ·))&&(Rows.eventPrintMatchesSpecRow.shortTexts.isNone)&&(Tryz.prog.make==some Rows.eventPrintMatchesSpecRow.make)&&(Rows.eventPrintMatchesSpecRow.kinds==(if Rows.eventPrintMatchesSpecRow.domain.isEmpty then []else Tryz.f4.params.toList.map λt=>match Tryz.prog.underlying t with |some (.int k)=>some k|_=>none))&&(Rows.eventPrintMatchesSpecRow.pinned==Rows.eventPrintMatchesSpecRow.pinnedBy)&&(Rows.eventPrintMatchesSpecRow.veiled==(Tryz.f4.params.toList++(OpenSpec.ofChange Rows.eventPrintMatchesSpecSpec).bare.plain.varTypes Tryz.prog++Tryz.f4.resultTypes.toList).any (Tryz.prog.veiledRec ·))&&(Rows.eventPrintMatchesSpecRow.veiledFits Tryz.prog Tryz.f4.params.toList (Tryz.f4.params.toList++(OpenSpec.ofChange Rows.eventPrintMatchesSpecSpec).bare.plain.varTypes Tryz.prog++Tryz.f4.resultTypes.toList)))=true:=by kernel_rfl
theorem c_wf:(Rows.eventPrintMatchesSpecRow.wf (OpenSpec.ofChange (OpenSpec.ofChange Rows.eventPrintMatchesSpecSpec).bare))=true:=(gY (gY (gY (gY (gY (gY (gY (gY (gY (gY (gY (gY (gY (gY (gY (gY (gY (gY (gY (gY (gY g_2)))))))))))))))))))))
theorem c_params:(Tryz.f4.params.all (Tryz.prog.readableRec ·))=true:=jC (gY (gY (gY (gY (gY (gY (gY (gY (gY (gY (gY (gY (gY (gY (gY (gY (gY (gY (gY (gY g_2))))))))))))))))))))
theorem c_tie:(namedTie Tryz.prog Rows.eventPrintMatchesSpecRow.named (OpenSpec.ofChange Rows.eventPrintMatchesSpecSpec).bare.vars)=true:=jC (gY (gY (gY (gY (gY (gY (gY (gY (gY (gY (gY (gY (gY (gY (gY (gY (gY (gY (gY g_2)))))))))))))))))))
theorem c_stops0:(Rows.eventPrintMatchesSpecRow.stops==[])=true:=jC (gY (gY (gY (gY (gY (gY (gY (gY (gY (gY (gY (gY (gY (gY (gY (gY (gY (gY g_2))))))))))))))))))
theorem c_stops:(Tryz.prog.stops==[])=true:=jC (gY (gY (gY (gY (gY (gY (gY (gY (gY (gY (gY (gY (gY (gY (gY (gY (gY g_2)))))))))))))))))
theorem c_knobs0:(Rows.eventPrintMatchesSpecRow.knobs==[])=true:=jC (gY (gY (gY (gY (gY (gY (gY (gY (gY (gY (gY (gY (gY (gY (gY (gY g_2))))))))))))))))
theorem c_knobs:(Tryz.prog.stopKnobs==[])=true:=jC (gY (gY (gY (gY (gY (gY (gY (gY (gY (gY (gY (gY (gY (gY (gY g_2)))))))))))))))
theorem c_maps:(Rows.eventPrintMatchesSpecRow.maps==(Tryz.f4.params.toList++(OpenSpec.ofChange Rows.eventPrintMatchesSpecSpec).bare.plain.varTypes Tryz.prog).any (Tryz.prog.mapsRec ·))=true:=jC (gY (gY (gY (gY (gY (gY (gY (gY (gY (gY (gY (gY (gY (gY g_2))))))))))))))
theorem c_ifaces:(Rows.eventPrintMatchesSpecRow.ifaces==(Tryz.f4.params.toList++(OpenSpec.ofChange Rows.eventPrintMatchesSpecSpec).bare.plain.varTypes Tryz.prog).any (Tryz.prog.ifacesRec ·))=true:=jC (gY (gY (gY (gY (gY (gY (gY (gY (gY (gY (gY (gY (gY g_2)))))))))))))
theorem c_mapsOut:(Rows.eventPrintMatchesSpecRow.mapsOut==Tryz.prog.mapsAmong Tryz.f4.resultTypes.toList)=true:=jC (gY (gY (gY (gY (gY (gY (gY (gY (gY (gY (gY (gY g_2))))))))))))
theorem c_loops:(Rows.eventPrintMatchesSpecRow.loops==(Tryz.f4.params.toList++(OpenSpec.ofChange Rows.eventPrintMatchesSpecSpec).bare.plain.varTypes Tryz.prog).any (Tryz.prog.loopsFrom ·))=true:=jC (gY (gY (gY (gY (gY (gY (gY (gY (gY (gY (gY g_2)))))))))))
theorem aIv:(Rows.eventPrintMatchesSpecRow.wideKeys==(Tryz.f4.params.toList++(OpenSpec.ofChange Rows.eventPrintMatchesSpecSpec).bare.plain.varTypes Tryz.prog++Tryz.f4.resultTypes.toList).any (Tryz.prog.wideKeysFrom ·))=true:=jC (gY (gY (gY (gY (gY (gY (gY (gY (gY (gY g_2))))))))))
theorem c_vars:((OpenSpec.ofChange Rows.eventPrintMatchesSpecSpec).bare.vars.all (Tryz.prog.varReadable ·))=true:=jC (gY (gY (gY (gY (gY (gY (gY (gY (gY g_2)))))))))
theorem c_results:(Tryz.f4.resultTypes.all (λt=>Tryz.prog.readableRec t&&decide (t<Tryz.prog.types.size)))=true:=jC (gY (gY (gY (gY (gY (gY (gY (gY g_2))))))))
theorem aFq:(Rows.eventPrintMatchesSpecRow.ifacesOut==Tryz.f4.resultTypes.toList.any (Tryz.prog.ifacesRec ·))=true:=jC (gY (gY (gY (gY (gY (gY (gY g_2)))))))
theorem aHv:(Rows.eventPrintMatchesSpecRow.loopsOut==Tryz.f4.resultTypes.toList.any (Tryz.prog.loopsFrom ·))=true:=jC (gY (gY (gY (gY (gY (gY g_2))))))
theorem c_short:(Rows.eventPrintMatchesSpecRow.shortTexts.isNone)=true:=jC (gY (gY (gY (gY (gY g_2)))))
theorem c_make:(Tryz.prog.make==some Rows.eventPrintMatchesSpecRow.make)=true:=jC (gY (gY (gY (gY g_2))))
theorem c_kinds:(Rows.eventPrintMatchesSpecRow.kinds==(if Rows.eventPrintMatchesSpecRow.domain.isEmpty then []else Tryz.f4.params.toList.map λt=>match Tryz.prog.underlying t with |some (.int k)=>some k|_=>none))=true:=jC (gY (gY (gY g_2)))
theorem c_pinned:(Rows.eventPrintMatchesSpecRow.pinned==Rows.eventPrintMatchesSpecRow.pinnedBy)=true:=jC (gY (gY g_2))
theorem c_veiled:(Rows.eventPrintMatchesSpecRow.veiled==(Tryz.f4.params.toList++(OpenSpec.ofChange Rows.eventPrintMatchesSpecSpec).bare.plain.varTypes Tryz.prog++Tryz.f4.resultTypes.toList).any (Tryz.prog.veiledRec ·))=true:=jC (gY g_2)
theorem aEv:(Rows.eventPrintMatchesSpecRow.veiledFits Tryz.prog Tryz.f4.params.toList (Tryz.f4.params.toList++(OpenSpec.ofChange Rows.eventPrintMatchesSpecSpec).bare.plain.varTypes Tryz.prog++Tryz.f4.resultTypes.toList))=true:=jC g_2
set_option maxRecDepth 100000 in
theorem closedF:joinedFacts Tryz.pinned.checked.prog 4 Tryz.f4 (OpenSpec.ofChange Rows.eventPrintMatchesSpecSpec).bare Rows.eventPrintMatchesSpecRow=true:=(kL (kL (kL (kL (kL (kL (kL (kL (kL (kL (kL (kL (kL (kL (kL (kL (kL (kL (kL (kL (kL (kL (kL (kL (kL (kL (kL (kL (kL (kL (kL c_wf aCy) aHd) c_params) c_tie) c_stops0) c_stops) c_knobs0) c_knobs) c_inPlace) aEi) aHt) c_named) c_maps) c_ifaces) c_mapsOut) c_loops) aIv) c_vars) c_results) aFq) aHv) aHa) c_short) c_heard) c_enter) c_lifted) c_make) c_kinds) c_pinned) c_veiled) aEv)
theorem goesF:false=Rows.eventPrintMatchesSpecRow.goesBy Tryz.pinned.checked.prog:=by kernel_rfl
theorem looksF:true=Tryz.pinned.checked.prog.looks []:=by kernel_rfl
end Go.Proofs.YthgccglopkgghaaGreatDoor.eventPrintMatchesSpec
