/- Laws that the claim stands on; no condition beyond those stated. -/
import Derived.Test.YtbjofgmdhbiekaaGreatDoorCards
import Derived.WalkKit
import Derived.ProofKit
import Derived.LaidSub
import Derived.Deep.DeepHandedRow
import Derived.SizedLaws
namespace Go.Proofs.YtbjofgmdhbiekaaGreatDoor.findingWordsMatchSpec
open Go.ChangeShapes Go.WideShapes Go.ChangeAt Go.RowKit
theorem qA {a b:Bool}(ha:a=true)(hb:b=true):(a&&b)=true:=by rw [ha,hb];rfl
theorem gZ {a b:Bool}(h:(a&&b)=true):a=true:=by cases a<;>simp_all
theorem qQ {a b:Bool}(h:(a&&b)=true):b=true:=by cases a<;>simp_all
theorem g_0:((Rows.findingWordsMatchSpecRow.inPlace==Tryz.prog.inPlace 3)&&(Rows.findingWordsMatchSpecRow.unfollowed==Tryz.prog.unfollowed 3)&&(Rows.findingWordsMatchSpecRow.recurses==Tryz.prog.recurses 3)&&(Rows.findingWordsMatchSpecRow.named==Tryz.prog.varsNamed 3)&&(laidOutB Tryz.prog)&&(mapsRowed Tryz.prog)&&(Tryz.prog.stopsHeard)&&(Rows.findingWordsMatchSpecRow.plainKeys==Tryz.prog.plainKeys))=true:=by kernel_rfl
theorem c_inPlace:(Rows.findingWordsMatchSpecRow.inPlace==Tryz.prog.inPlace 3)=true:=(gZ (gZ (gZ (gZ (gZ (gZ (gZ g_0)))))))
theorem aPc:(Rows.findingWordsMatchSpecRow.unfollowed==Tryz.prog.unfollowed 3)=true:=qQ (gZ (gZ (gZ (gZ (gZ (gZ g_0))))))
theorem aWa:(Rows.findingWordsMatchSpecRow.recurses==Tryz.prog.recurses 3)=true:=qQ (gZ (gZ (gZ (gZ (gZ g_0)))))
theorem c_named:(Rows.findingWordsMatchSpecRow.named==Tryz.prog.varsNamed 3)=true:=qQ (gZ (gZ (gZ (gZ g_0))))
theorem aNw:(laidOutB Tryz.prog)=true:=qQ (gZ (gZ (gZ g_0)))
theorem aSu:(mapsRowed Tryz.prog)=true:=qQ (gZ (gZ g_0))
theorem c_heard:(Tryz.prog.stopsHeard)=true:=qQ (gZ g_0)
theorem aSs:(Rows.findingWordsMatchSpecRow.plainKeys==Tryz.prog.plainKeys)=true:=qQ g_0
theorem g_1:((Tryz.prog.mayEnter)&&(Rows.findingWordsMatchSpecRow.lifted==Tryz.prog.liftsFinal))=true:=by kernel_rfl
theorem c_enter:(Tryz.prog.mayEnter)=true:=(gZ g_1)
theorem c_lifted:(Rows.findingWordsMatchSpecRow.lifted==Tryz.prog.liftsFinal)=true:=qQ g_1
theorem g_2:((Rows.findingWordsMatchSpecRow.wf (OpenSpec.ofChange (OpenSpec.ofChange Rows.findingWordsMatchSpecSpec).bare))&&(Tryz.f3.params.all (Tryz.prog.readableRec ·))&&(namedTie Tryz.prog Rows.findingWordsMatchSpecRow.named (OpenSpec.ofChange Rows.findingWordsMatchSpecSpec).bare.vars)&&(Rows.findingWordsMatchSpecRow.stops==[])&&(Tryz.prog.stops==[])&&(Rows.findingWordsMatchSpecRow.knobs==[])&&(Tryz.prog.stopKnobs==[])&&(Rows.findingWordsMatchSpecRow.maps==(Tryz.f3.params.toList++(OpenSpec.ofChange Rows.findingWordsMatchSpecSpec).bare.plain.varTypes Tryz.prog).any (Tryz.prog.mapsRec ·))&&(Rows.findingWordsMatchSpecRow.ifaces==(Tryz.f3.params.toList++(OpenSpec.ofChange Rows.findingWordsMatchSpecSpec).bare.plain.varTypes Tryz.prog).any (Tryz.prog.ifacesRec ·))&&(Rows.findingWordsMatchSpecRow.mapsOut==Tryz.prog.mapsAmong Tryz.f3.resultTypes.toList)&&(Rows.findingWordsMatchSpecRow.loops==(Tryz.f3.params.toList++(OpenSpec.ofChange Rows.findingWordsMatchSpecSpec).bare.plain.varTypes Tryz.prog).any (Tryz.prog.loopsFrom ·))&&(Rows.findingWordsMatchSpecRow.wideKeys==(Tryz.f3.params.toList++(OpenSpec.ofChange Rows.findingWordsMatchSpecSpec).bare.plain.varTypes Tryz.prog++Tryz.f3.resultTypes.toList).any (Tryz.prog.wideKeysFrom ·))&&((OpenSpec.ofChange Rows.findingWordsMatchSpecSpec).bare.vars.all (Tryz.prog.varReadable ·))&&(Tryz.f3.resultTypes.all (λt=>Tryz.prog.readableRec t&&decide (t<Tryz.prog.types.size)))&&(Rows.findingWordsMatchSpecRow.ifacesOut==Tryz.f3.resultTypes.toList.any (Tryz.prog.ifacesRec ·))&&(Rows.findingWordsMatchSpecRow.loopsOut==Tryz.f3.resultTypes.toList.any (Tryz.prog.loopsFrom ·))&&(Rows.findingWordsMatchSpecRow.shortTexts.isNone)&&(Tryz.prog.make==some Rows.findingWordsMatchSpecRow.make)&&(Rows.findingWordsMatchSpecRow.kinds==(if Rows.findingWordsMatchSpecRow.domain.isEmpty then []else Tryz.f3.params.toList.map λt=>match Tryz.prog.underlying t with |some (.int k)=>some k|_=>none))&&(Rows.findingWordsMatchSpecRow.pinned==Rows.findingWordsMatchSpecRow.pinnedBy)&&(Rows.findingWordsMatchSpecRow.veiled==(Tryz.f3.params.toList++(OpenSpec.ofChange Rows.findingWordsMatchSpecSpec).bare.plain.varTypes Tryz.prog++Tryz.f3.resultTypes.toList).any (Tryz.prog.veiledRec ·))&&(Rows.findingWordsMatchSpecRow.veiledFits Tryz.prog Tryz.f3.params.toList (Tryz.f3.params.toList++(OpenSpec.ofChange Rows.findingWordsMatchSpecSpec).bare.plain.varTypes Tryz.prog++Tryz.f3.resultTypes.toList)))=true:=by kernel_rfl
theorem c_wf:(Rows.findingWordsMatchSpecRow.wf (OpenSpec.ofChange (OpenSpec.ofChange Rows.findingWordsMatchSpecSpec).bare))=true:=(gZ (gZ (gZ (gZ (gZ (gZ (gZ (gZ (gZ (gZ (gZ (gZ (gZ (gZ (gZ (gZ (gZ (gZ (gZ (gZ (gZ g_2)))))))))))))))))))))
theorem c_params:(Tryz.f3.params.all (Tryz.prog.readableRec ·))=true:=qQ (gZ (gZ (gZ (gZ (gZ (gZ (gZ (gZ (gZ (gZ (gZ (gZ (gZ (gZ (gZ (gZ (gZ (gZ (gZ (gZ g_2))))))))))))))))))))
theorem c_tie:(namedTie Tryz.prog Rows.findingWordsMatchSpecRow.named (OpenSpec.ofChange Rows.findingWordsMatchSpecSpec).bare.vars)=true:=qQ (gZ (gZ (gZ (gZ (gZ (gZ (gZ (gZ (gZ (gZ (gZ (gZ (gZ (gZ (gZ (gZ (gZ (gZ (gZ g_2)))))))))))))))))))
theorem c_stops0:(Rows.findingWordsMatchSpecRow.stops==[])=true:=qQ (gZ (gZ (gZ (gZ (gZ (gZ (gZ (gZ (gZ (gZ (gZ (gZ (gZ (gZ (gZ (gZ (gZ (gZ g_2))))))))))))))))))
theorem c_stops:(Tryz.prog.stops==[])=true:=qQ (gZ (gZ (gZ (gZ (gZ (gZ (gZ (gZ (gZ (gZ (gZ (gZ (gZ (gZ (gZ (gZ (gZ g_2)))))))))))))))))
theorem c_knobs0:(Rows.findingWordsMatchSpecRow.knobs==[])=true:=qQ (gZ (gZ (gZ (gZ (gZ (gZ (gZ (gZ (gZ (gZ (gZ (gZ (gZ (gZ (gZ (gZ g_2))))))))))))))))
theorem c_knobs:(Tryz.prog.stopKnobs==[])=true:=qQ (gZ (gZ (gZ (gZ (gZ (gZ (gZ (gZ (gZ (gZ (gZ (gZ (gZ (gZ (gZ g_2)))))))))))))))
theorem c_maps:(Rows.findingWordsMatchSpecRow.maps==(Tryz.f3.params.toList++(OpenSpec.ofChange Rows.findingWordsMatchSpecSpec).bare.plain.varTypes Tryz.prog).any (Tryz.prog.mapsRec ·))=true:=qQ (gZ (gZ (gZ (gZ (gZ (gZ (gZ (gZ (gZ (gZ (gZ (gZ (gZ (gZ g_2))))))))))))))
theorem c_ifaces:(Rows.findingWordsMatchSpecRow.ifaces==(Tryz.f3.params.toList++(OpenSpec.ofChange Rows.findingWordsMatchSpecSpec).bare.plain.varTypes Tryz.prog).any (Tryz.prog.ifacesRec ·))=true:=qQ (gZ (gZ (gZ (gZ (gZ (gZ (gZ (gZ (gZ (gZ (gZ (gZ (gZ g_2)))))))))))))
theorem c_mapsOut:(Rows.findingWordsMatchSpecRow.mapsOut==Tryz.prog.mapsAmong Tryz.f3.resultTypes.toList)=true:=qQ (gZ (gZ (gZ (gZ (gZ (gZ (gZ (gZ (gZ (gZ (gZ (gZ g_2))))))))))))
theorem c_loops:(Rows.findingWordsMatchSpecRow.loops==(Tryz.f3.params.toList++(OpenSpec.ofChange Rows.findingWordsMatchSpecSpec).bare.plain.varTypes Tryz.prog).any (Tryz.prog.loopsFrom ·))=true:=qQ (gZ (gZ (gZ (gZ (gZ (gZ (gZ (gZ (gZ (gZ (gZ g_2)))))))))))
theorem aVt:(Rows.findingWordsMatchSpecRow.wideKeys==(Tryz.f3.params.toList++(OpenSpec.ofChange Rows.findingWordsMatchSpecSpec).bare.plain.varTypes Tryz.prog++Tryz.f3.resultTypes.toList).any (Tryz.prog.wideKeysFrom ·))=true:=qQ (gZ (gZ (gZ (gZ (gZ (gZ (gZ (gZ (gZ (gZ g_2))))))))))
theorem c_vars:((OpenSpec.ofChange Rows.findingWordsMatchSpecSpec).bare.vars.all (Tryz.prog.varReadable ·))=true:=qQ (gZ (gZ (gZ (gZ (gZ (gZ (gZ (gZ (gZ g_2)))))))))
theorem c_results:(Tryz.f3.resultTypes.all (λt=>Tryz.prog.readableRec t&&decide (t<Tryz.prog.types.size)))=true:=qQ (gZ (gZ (gZ (gZ (gZ (gZ (gZ (gZ g_2))))))))
theorem aRw:(Rows.findingWordsMatchSpecRow.ifacesOut==Tryz.f3.resultTypes.toList.any (Tryz.prog.ifacesRec ·))=true:=qQ (gZ (gZ (gZ (gZ (gZ (gZ (gZ g_2)))))))
theorem aXh:(Rows.findingWordsMatchSpecRow.loopsOut==Tryz.f3.resultTypes.toList.any (Tryz.prog.loopsFrom ·))=true:=qQ (gZ (gZ (gZ (gZ (gZ (gZ g_2))))))
theorem c_short:(Rows.findingWordsMatchSpecRow.shortTexts.isNone)=true:=qQ (gZ (gZ (gZ (gZ (gZ g_2)))))
theorem c_make:(Tryz.prog.make==some Rows.findingWordsMatchSpecRow.make)=true:=qQ (gZ (gZ (gZ (gZ g_2))))
theorem c_kinds:(Rows.findingWordsMatchSpecRow.kinds==(if Rows.findingWordsMatchSpecRow.domain.isEmpty then []else Tryz.f3.params.toList.map λt=>match Tryz.prog.underlying t with |some (.int k)=>some k|_=>none))=true:=qQ (gZ (gZ (gZ g_2)))
theorem c_pinned:(Rows.findingWordsMatchSpecRow.pinned==Rows.findingWordsMatchSpecRow.pinnedBy)=true:=qQ (gZ (gZ g_2))
theorem c_veiled:(Rows.findingWordsMatchSpecRow.veiled==(Tryz.f3.params.toList++(OpenSpec.ofChange Rows.findingWordsMatchSpecSpec).bare.plain.varTypes Tryz.prog++Tryz.f3.resultTypes.toList).any (Tryz.prog.veiledRec ·))=true:=qQ (gZ g_2)
theorem aQq:(Rows.findingWordsMatchSpecRow.veiledFits Tryz.prog Tryz.f3.params.toList (Tryz.f3.params.toList++(OpenSpec.ofChange Rows.findingWordsMatchSpecSpec).bare.plain.varTypes Tryz.prog++Tryz.f3.resultTypes.toList))=true:=qQ g_2
set_option maxRecDepth 100000 in
theorem closedF:joinedFacts Tryz.pinned.checked.prog 3 Tryz.f3 (OpenSpec.ofChange Rows.findingWordsMatchSpecSpec).bare Rows.findingWordsMatchSpecRow=true:=(qA (qA (qA (qA (qA (qA (qA (qA (qA (qA (qA (qA (qA (qA (qA (qA (qA (qA (qA (qA (qA (qA (qA (qA (qA (qA (qA (qA (qA (qA (qA c_wf aNw) aSu) c_params) c_tie) c_stops0) c_stops) c_knobs0) c_knobs) c_inPlace) aPc) aWa) c_named) c_maps) c_ifaces) c_mapsOut) c_loops) aVt) c_vars) c_results) aRw) aXh) aSs) c_short) c_heard) c_enter) c_lifted) c_make) c_kinds) c_pinned) c_veiled) aQq)
theorem goesF:false=Rows.findingWordsMatchSpecRow.goesBy Tryz.pinned.checked.prog:=by kernel_rfl
theorem looksF:true=Tryz.pinned.checked.prog.looks []:=by kernel_rfl
end Go.Proofs.YtbjofgmdhbiekaaGreatDoor.findingWordsMatchSpec
