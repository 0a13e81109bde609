/- Walks: what each function computes, for every argument; no condition but those that stand in the statements. -/
import Derived.Test.YtckmiljbaejijaaGreatDoorRows
import Derived.Test.YtckmiljbaejijaaGreatDoorHP
import Derived.Test.YtckmiljbaejijaaGreatDoorXVa
import Derived.Test.YtckmiljbaejijaaGreatDoorLfS
namespace Go.Proofs.YtckmiljbaejijaaGreatDoor.E
open Go.RowKit Go.OB Go.Lf
theorem u346:Tryz.prog.underlying 346=some (.array 20 297):=Tryz.underlying346
theorem sz297:Sz Tryz.prog 297 1:=by unfold Sz; kernel_rfl
theorem one297:dW Tryz.prog 297:=by unfold dW; kernel_rfl
theorem en238:Go.OB.Enters Tryz.prog 238:=⟨_,Tryz.func238,rfl,by kernel_rfl⟩
theorem en272:Go.OB.Enters Tryz.prog 272:=⟨_,Tryz.func272,rfl,by kernel_rfl⟩
theorem en273:Go.OB.Enters Tryz.prog 273:=⟨_,Tryz.func273,rfl,by kernel_rfl⟩
theorem mixed:Tryz.prog.follows .mixedOrders=true:=by kernel_rfl
set_option maxHeartbeats 4000000 in
theorem Fc2w (p0:Int)(r:Int)(hF:Fc2 p0=some r)(O S:List Nat)(w:World)(H:Hd O w w S []):
    Calls Tryz.prog 272 ([.int .i64 p0]:List Value).toArray w fun e w'=>e= .returned (.int .i64 r)∧Hd O w w' S []:=by
  unfold Fc2 at hF
  refine nC 6 Tryz.func272 rfl rfl rfl ?_
  refine zB fun K1 hK1=>?_
  refine zA ?_
  refine zI (.int .i64 0) ?_
  refine (yA (zF (hK1 _ _ ?_)))
  refine zB fun K2 hK2=>?_
  refine zA ?_
  refine zH (.int .i64 p0) ?_
  obtain ⟨x3,e4,hF⟩:=zD hF
  refine zG (rP (a:=p0) (b:=78913) rfl rfl e4) ?_
  obtain ⟨x5,e6,hF⟩:=zC hF
  refine zG (rU (j:=x3) (q:=18) rfl rfl e6) ?_
  refine zI (.int .i64 x5) ?_
  refine (yA (zF (hK2 _ _ ?_)))
  obtain rfl:=gI hF
  refine (zW (fC (v1:= .int .i64 x5) rfl rfl ?_))
  exact ⟨rfl,H.pick [] (by decide)⟩
set_option maxHeartbeats 4000000 in
theorem Fc7w (p0 : Bool) (r : Int) (hF : Fc7 p0 = some r) (O S : List Nat) (w : World) (H : Hd O w w S []) :
    Calls Tryz.prog 273 ([.bool p0] : List Value).toArray w fun e w' => e = .returned (.int .i64 r) ∧ Hd O w w' S [] := by
  unfold Fc7 at hF
  refine nC 4 Tryz.func273 rfl rfl rfl ?_
  refine zB fun K1 hK1 => ?_
  refine zA ?_
  refine zI (.int .i64 0) ?_
  refine (yA (zF (hK1 _ _ ?_)))
  refine zB fun K5 hK5 => ?_
  refine zB fun K6 hK6 => ?_
  refine zA ?_
  refine zH (.bool p0) ?_
  refine (yA (zF (hK6 _ _ ?_)))
  refine zY (b := p0) rfl (fun c7 => ?_) (fun c7 => ?_)
  · have hF := zO c7 hF
    refine zB fun K8 hK8 => ?_
    refine zA ?_
    refine zI (.int .i64 1) ?_
    refine (yA (zF (hK8 _ _ ?_)))
    obtain rfl := gI hF
    refine (zW (zV (fC (v1 := .int .i64 1) rfl rfl ?_)))
    exact ⟨rfl, H.pick [] (by decide)⟩
  · have hF := zQ c7 hF
    refine (zX (zF (hK5 _ _ ?_)))
    refine zB fun K9 hK9 => ?_
    refine zA ?_
    refine zI (.int .i64 0) ?_
    refine (yA (zF (hK9 _ _ ?_)))
    obtain rfl := gI hF
    refine (zW (fC (v1 := .int .i64 0) rfl rfl ?_))
    exact ⟨rfl, H.pick [] (by decide)⟩
set_option maxHeartbeats 4000000 in
theorem Fdrw (p0:Int)(r:Int)(hF:Fdr p0=some r)(O S:List Nat)(w:World)(H:Hd O w w S [.fz (.at 3 0 ((Fl.arr 20 (Fl.int .u64)).f zT))]):
    Calls Tryz.prog 250 ([.int .u64 p0]:List Value).toArray w fun e w'=>e= .returned (.int .i64 r)∧Hd O w w' S []:=by
  unfold Fdr at hF
  refine nC 15 Tryz.func250 rfl rfl rfl ?_
  refine zB fun K2 hK2=>?_
  refine zA ?_
  refine zI (.int .i64 0) ?_
  refine (yA (zF (hK2 _ _ ?_)))
  refine zB fun K3 hK3=>?_
  refine zA ?_
  refine zH (.int .u64 p0) ?_
  have H4:=H
  obtain ⟨x5,e6,hF⟩:=zC hF
  refine zZ rfl rfl (zS en238 rfl) (Fdfw p0 _ e6 _ _ _ (H.enter [] [] (by decide) rfl)) ?_
  rintro _ w7 ⟨rfl,G8⟩
  have H:=H4.step (G8.only:Only [] _ _)
  refine ⟨_,rfl,?_⟩
  have H9:=H
  obtain ⟨x10,e11,hF⟩:=zC hF
  refine zZ rfl rfl (zS en272 rfl) (Fc2w x5 _ e11 _ _ _ (H.enter [] [] (by decide) rfl)) ?_
  rintro _ w12 ⟨rfl,G13⟩
  have H:=H9.step (G13.only:Only [] _ _)
  refine ⟨_,rfl,?_⟩
  refine zI (.int .i64 x10) ?_
  refine (yA (zF (hK3 _ _ ?_)))
  refine zB fun K14 hK14=>?_
  refine zA ?_
  refine zH (.int .i64 x10) ?_
  refine zH (.int .u64 p0) ?_
  refine zH (.int .i64 x10) ?_
  obtain ⟨x15,e16,hF⟩:=zC hF
  refine zG (mP (X:=zT) u346 sz297 rfl rfl e16) ?_
  refine zG (pW (v:= .int .u64 x15) one297 rfl (Cells.ix (e:=(Fl.int .u64)) (x:=zT) (H.item (i:=0) rfl).2.2 e16)) ?_
  obtain ⟨x17,e18,hF⟩:=zD hF
  refine zG (zL (kZ (a:=p0) (b:=x15) rfl rfl) e18) ?_
  have H19:=H
  obtain ⟨x20,e21,hF⟩:=zC hF
  refine zZ rfl rfl (zS en273 rfl) (Fc7w x17 _ e21 _ _ _ (H.enter [] [] (by decide) rfl)) ?_
  rintro _ w22 ⟨rfl,G23⟩
  have H:=H19.step (G23.only:Only [] _ _)
  refine ⟨_,rfl,?_⟩
  obtain ⟨x24,e25,hF⟩:=zD hF
  refine zG (xM (a:=x10) (b:=x20) rfl rfl e25) ?_
  refine zI (.int .i64 x24) ?_
  refine (yA (zF (hK14 _ _ ?_)))
  obtain rfl:=gI hF
  refine (zW (fC (v1:= .int .i64 x24) rfl rfl ?_))
  exact ⟨rfl,H.pick [] (by decide)⟩
end Go.Proofs.YtckmiljbaejijaaGreatDoor.E
