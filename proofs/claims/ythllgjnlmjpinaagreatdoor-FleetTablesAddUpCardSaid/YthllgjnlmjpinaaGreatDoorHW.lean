/- Walks: what each function computes, for every argument; no condition but those that stand in the statements. -/
import Derived.Test.YthllgjnlmjpinaaGreatDoorRows
import Derived.Test.YthllgjnlmjpinaaGreatDoorHP
import Derived.Test.YthllgjnlmjpinaaGreatDoorXVa
import Derived.Test.YthllgjnlmjpinaaGreatDoorLfS
namespace Go.Proofs.YthllgjnlmjpinaaGreatDoor.E
open Go.RowKit Go.OB Go.Lf
theorem u232:Tryz.prog.underlying 232=some (.array 20 147):=Tryz.underlying232
theorem sz147:Sz Tryz.prog 147 1:=by unfold Sz; kernel_rfl
theorem one147:dS Tryz.prog 147:=by unfold dS; kernel_rfl
theorem en138:Go.OB.Enters Tryz.prog 138:=⟨_,Tryz.func138,rfl,by kernel_rfl⟩
theorem en159:Go.OB.Enters Tryz.prog 159:=⟨_,Tryz.func159,rfl,by kernel_rfl⟩
theorem en160:Go.OB.Enters Tryz.prog 160:=⟨_,Tryz.func160,rfl,by kernel_rfl⟩
theorem mixed:Tryz.prog.follows .mixedOrders=true:=by kernel_rfl
set_option maxHeartbeats 4000000 in
theorem Fc2w (p0:Int)(r:Int)(hF:Fc2 p0=some r)(O S:List Nat)(w:World)(H:Hd O w w S []):
    Calls Tryz.prog 159 ([.int .i64 p0]:List Value).toArray w fun e w'=>e= .returned (.int .i64 r)∧Hd O w w' S []:=by
  unfold Fc2 at hF
  refine kY 6 Tryz.func159 rfl rfl rfl ?_
  refine zB fun K1 hK1=>?_
  refine zA ?_
  refine zI (.int .i64 0) ?_
  refine (zT (zF (hK1 _ _ ?_)))
  refine zB fun K2 hK2=>?_
  refine zA ?_
  refine zH (.int .i64 p0) ?_
  obtain ⟨x3,e4,hF⟩:=zD hF
  refine zG (rH (a:=p0) (b:=78913) rfl rfl e4) ?_
  obtain ⟨x5,e6,hF⟩:=zC hF
  refine zG (qW (j:=x3) (q:=18) rfl rfl e6) ?_
  refine zI (.int .i64 x5) ?_
  refine (zT (zF (hK2 _ _ ?_)))
  obtain rfl:=gG hF
  refine (zX (gV (v1:= .int .i64 x5) rfl rfl ?_))
  exact ⟨rfl,H.pick [] (by decide)⟩
set_option maxHeartbeats 4000000 in
theorem Fd4w (p0 : Bool) (r : Int) (hF : Fd4 p0 = some r) (O S : List Nat) (w : World) (H : Hd O w w S []) :
    Calls Tryz.prog 160 ([.bool p0] : List Value).toArray w fun e w' => e = .returned (.int .i64 r) ∧ Hd O w w' S [] := by
  unfold Fd4 at hF
  refine kY 4 Tryz.func160 rfl rfl rfl ?_
  refine zB fun K1 hK1 => ?_
  refine zA ?_
  refine zI (.int .i64 0) ?_
  refine (zT (zF (hK1 _ _ ?_)))
  refine zB fun K5 hK5 => ?_
  refine zB fun K6 hK6 => ?_
  refine zA ?_
  refine zH (.bool p0) ?_
  refine (zT (zF (hK6 _ _ ?_)))
  refine zW (b := p0) rfl (fun c7 => ?_) (fun c7 => ?_)
  · have hF := zN c7 hF
    refine zB fun K8 hK8 => ?_
    refine zA ?_
    refine zI (.int .i64 1) ?_
    refine (zT (zF (hK8 _ _ ?_)))
    obtain rfl := gG hF
    refine (zX (zQ (gV (v1 := .int .i64 1) rfl rfl ?_)))
    exact ⟨rfl, H.pick [] (by decide)⟩
  · have hF := zM c7 hF
    refine (zZ (zF (hK5 _ _ ?_)))
    refine zB fun K9 hK9 => ?_
    refine zA ?_
    refine zI (.int .i64 0) ?_
    refine (zT (zF (hK9 _ _ ?_)))
    obtain rfl := gG hF
    refine (zX (gV (v1 := .int .i64 0) rfl rfl ?_))
    exact ⟨rfl, H.pick [] (by decide)⟩
set_option maxHeartbeats 4000000 in
theorem Fdsw (p0:Int)(r:Int)(hF:Fds p0=some r)(O S:List Nat)(w:World)(H:Hd O w w S [.fz (.at 1 0 ((Fl.arr 20 (Fl.int .u64)).f zS))]):
    Calls Tryz.prog 143 ([.int .u64 p0]:List Value).toArray w fun e w'=>e= .returned (.int .i64 r)∧Hd O w w' S []:=by
  unfold Fds at hF
  refine kY 15 Tryz.func143 rfl rfl rfl ?_
  refine zB fun K2 hK2=>?_
  refine zA ?_
  refine zI (.int .i64 0) ?_
  refine (zT (zF (hK2 _ _ ?_)))
  refine zB fun K3 hK3=>?_
  refine zA ?_
  refine zH (.int .u64 p0) ?_
  have H4:=H
  obtain ⟨x5,e6,hF⟩:=zC hF
  refine yB rfl rfl (zY en138 rfl) (Fdjw p0 _ e6 _ _ _ (H.enter [] [] (by decide) rfl)) ?_
  rintro _ w7 ⟨rfl,G8⟩
  have H:=H4.step (G8.only:Only [] _ _)
  refine ⟨_,rfl,?_⟩
  have H9:=H
  obtain ⟨x10,e11,hF⟩:=zC hF
  refine yB rfl rfl (zY en159 rfl) (Fc2w x5 _ e11 _ _ _ (H.enter [] [] (by decide) rfl)) ?_
  rintro _ w12 ⟨rfl,G13⟩
  have H:=H9.step (G13.only:Only [] _ _)
  refine ⟨_,rfl,?_⟩
  refine zI (.int .i64 x10) ?_
  refine (zT (zF (hK3 _ _ ?_)))
  refine zB fun K14 hK14=>?_
  refine zA ?_
  refine zH (.int .i64 x10) ?_
  refine zH (.int .u64 p0) ?_
  refine zH (.int .i64 x10) ?_
  obtain ⟨x15,e16,hF⟩:=zC hF
  refine zG (mY (X:=zS) u232 sz147 rfl rfl e16) ?_
  refine zG (pV (v:= .int .u64 x15) one147 rfl (Cells.ix (e:=(Fl.int .u64)) (x:=zS) (H.item (i:=0) rfl).2.2 e16)) ?_
  obtain ⟨x17,e18,hF⟩:=zD hF
  refine zG (zO (aN (a:=p0) (b:=x15) rfl rfl) e18) ?_
  have H19:=H
  obtain ⟨x20,e21,hF⟩:=zC hF
  refine yB rfl rfl (zY en160 rfl) (Fd4w x17 _ e21 _ _ _ (H.enter [] [] (by decide) rfl)) ?_
  rintro _ w22 ⟨rfl,G23⟩
  have H:=H19.step (G23.only:Only [] _ _)
  refine ⟨_,rfl,?_⟩
  obtain ⟨x24,e25,hF⟩:=zD hF
  refine zG (xC (a:=x10) (b:=x20) rfl rfl e25) ?_
  refine zI (.int .i64 x24) ?_
  refine (zT (zF (hK14 _ _ ?_)))
  obtain rfl:=gG hF
  refine (zX (gV (v1:= .int .i64 x24) rfl rfl ?_))
  exact ⟨rfl,H.pick [] (by decide)⟩
end Go.Proofs.YthllgjnlmjpinaaGreatDoor.E
