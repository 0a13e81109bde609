/- Walks: what each function computes, for every argument; no condition but those that stand in the statements. -/
import Derived.Test.YtckmiljbaejijaaGreatDoorRows
import Derived.Test.YtckmiljbaejijaaGreatDoorHP
import Derived.Test.YtckmiljbaejijaaGreatDoorXVa
import Derived.Test.YtckmiljbaejijaaGreatDoorLfS
namespace Go.Proofs.YtckmiljbaejijaaGreatDoor.E
open Go.RowKit Go.OB Go.Lf
theorem u346:Tryz.prog.underlying 346=some (.array 20 297):=Tryz.underlying346
theorem sz297:Sz Tryz.prog 297 1:=by unfold Sz; kernel_rfl
theorem one297:OneC Tryz.prog 297:=by unfold OneC; kernel_rfl
theorem en238:Go.OB.Enters Tryz.prog 238:=⟨_,Tryz.func238,rfl,by kernel_rfl⟩
theorem en272:Go.OB.Enters Tryz.prog 272:=⟨_,Tryz.func272,rfl,by kernel_rfl⟩
theorem en273:Go.OB.Enters Tryz.prog 273:=⟨_,Tryz.func273,rfl,by kernel_rfl⟩
theorem mixed:Tryz.prog.follows .mixedOrders=true:=by kernel_rfl
set_option maxHeartbeats 4000000 in
theorem Fcew (p0:Int)(r:Int)(hF:Fce p0=some r)(O S:List Nat)(w:World)(H:Hd O w w S []):
    Calls Tryz.prog 272 ([.int .i64 p0]:List Value).toArray w fun e w'=>e= .returned (.int .i64 r)∧Hd O w w' S []:=by
  unfold Fce at hF
  refine zW 6 Tryz.func272 rfl rfl rfl ?_
  refine zC fun K1 hK1=>?_
  refine zB ?_
  refine zK (.int .i64 0) ?_
  refine (zG (zA (hK1 _ _ ?_)))
  refine zC fun K2 hK2=>?_
  refine zB ?_
  refine zJ (.int .i64 p0) ?_
  obtain ⟨x3,e4,hF⟩:=zD hF
  refine zH (Do_mul (a:=p0) (b:=78913) rfl rfl e4) ?_
  obtain ⟨x5,e6,hF⟩:=zF hF
  refine zH (Do_shr' (j:=x3) (q:=18) rfl rfl e6) ?_
  refine zK (.int .i64 x5) ?_
  refine (zG (zA (hK2 _ _ ?_)))
  obtain rfl:=someI hF
  refine (zY (post1 (v1:= .int .i64 x5) rfl rfl ?_))
  exact ⟨rfl,H.pick [] (by decide)⟩
set_option maxHeartbeats 4000000 in
theorem Fc7w (p0 : Bool) (r : Int) (hF : Fc7 p0 = some r) (O S : List Nat) (w : World) (H : Hd O w w S []) :
    Calls Tryz.prog 273 ([.bool p0] : List Value).toArray w fun e w' => e = .returned (.int .i64 r) ∧ Hd O w w' S [] := by
  unfold Fc7 at hF
  refine zW 4 Tryz.func273 rfl rfl rfl ?_
  refine zC fun K1 hK1 => ?_
  refine zB ?_
  refine zK (.int .i64 0) ?_
  refine (zG (zA (hK1 _ _ ?_)))
  refine zC fun K5 hK5 => ?_
  refine zC fun K6 hK6 => ?_
  refine zB ?_
  refine zJ (.bool p0) ?_
  refine (zG (zA (hK6 _ _ ?_)))
  refine zZ (b := p0) rfl (fun c7 => ?_) (fun c7 => ?_)
  · have hF := zS c7 hF
    refine zC fun K8 hK8 => ?_
    refine zB ?_
    refine zK (.int .i64 1) ?_
    refine (zG (zA (hK8 _ _ ?_)))
    obtain rfl := someI hF
    refine (zY (zV (post1 (v1 := .int .i64 1) rfl rfl ?_)))
    exact ⟨rfl, H.pick [] (by decide)⟩
  · have hF := zT c7 hF
    refine (yA (zA (hK5 _ _ ?_)))
    refine zC fun K9 hK9 => ?_
    refine zB ?_
    refine zK (.int .i64 0) ?_
    refine (zG (zA (hK9 _ _ ?_)))
    obtain rfl := someI hF
    refine (zY (post1 (v1 := .int .i64 0) rfl rfl ?_))
    exact ⟨rfl, H.pick [] (by decide)⟩
set_option maxHeartbeats 4000000 in
theorem Fdfw (p0:Int)(r:Int)(hF:Fdf p0=some r)(O S:List Nat)(w:World)(H:Hd O w w S [.fz (.at 3 0 ((Fl.arr 20 (Fl.int .u64)).f zO))]):
    Calls Tryz.prog 250 ([.int .u64 p0]:List Value).toArray w fun e w'=>e= .returned (.int .i64 r)∧Hd O w w' S []:=by
  unfold Fdf at hF
  refine zW 15 Tryz.func250 rfl rfl rfl ?_
  refine zC fun K2 hK2=>?_
  refine zB ?_
  refine zK (.int .i64 0) ?_
  refine (zG (zA (hK2 _ _ ?_)))
  refine zC fun K3 hK3=>?_
  refine zB ?_
  refine zJ (.int .u64 p0) ?_
  have H4:=H
  obtain ⟨x5,e6,hF⟩:=zF hF
  refine yG rfl rfl (yC en238 rfl) (Fc4w p0 _ e6 _ _ _ (H.enter [] [] (by decide) rfl)) ?_
  rintro _ w7 ⟨rfl,G8⟩
  have H:=H4.step (G8.only:Only [] _ _)
  refine ⟨_,rfl,?_⟩
  have H9:=H
  obtain ⟨x10,e11,hF⟩:=zF hF
  refine yG rfl rfl (yC en272 rfl) (Fcew x5 _ e11 _ _ _ (H.enter [] [] (by decide) rfl)) ?_
  rintro _ w12 ⟨rfl,G13⟩
  have H:=H9.step (G13.only:Only [] _ _)
  refine ⟨_,rfl,?_⟩
  refine zK (.int .i64 x10) ?_
  refine (zG (zA (hK3 _ _ ?_)))
  refine zC fun K14 hK14=>?_
  refine zB ?_
  refine zJ (.int .i64 x10) ?_
  refine zJ (.int .u64 p0) ?_
  refine zJ (.int .i64 x10) ?_
  obtain ⟨x15,e16,hF⟩:=zF hF
  refine zH (Do_idxA (X:=zO) u346 sz297 rfl rfl e16) ?_
  refine zH (Do_load1 (v:= .int .u64 x15) one297 rfl (Cells.ix (e:=(Fl.int .u64)) (x:=zO) (H.item (i:=0) rfl).2.2 e16)) ?_
  obtain ⟨x17,e18,hF⟩:=zD hF
  refine zH (zQ (Do_geq (a:=p0) (b:=x15) rfl rfl) e18) ?_
  have H19:=H
  obtain ⟨x20,e21,hF⟩:=zF hF
  refine yG rfl rfl (yC en273 rfl) (Fc7w x17 _ e21 _ _ _ (H.enter [] [] (by decide) rfl)) ?_
  rintro _ w22 ⟨rfl,G23⟩
  have H:=H19.step (G23.only:Only [] _ _)
  refine ⟨_,rfl,?_⟩
  obtain ⟨x24,e25,hF⟩:=zD hF
  refine zH (xM (a:=x10) (b:=x20) rfl rfl e25) ?_
  refine zK (.int .i64 x24) ?_
  refine (zG (zA (hK14 _ _ ?_)))
  obtain rfl:=someI hF
  refine (zY (post1 (v1:= .int .i64 x24) rfl rfl ?_))
  exact ⟨rfl,H.pick [] (by decide)⟩
end Go.Proofs.YtckmiljbaejijaaGreatDoor.E
