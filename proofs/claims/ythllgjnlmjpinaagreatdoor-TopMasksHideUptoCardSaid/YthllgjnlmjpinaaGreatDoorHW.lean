/- Walks: what each function computes, for every argument; no condition but those that stand in the statements. -/
import Derived.Test.YthllgjnlmjpinaaGreatDoorRows
import Derived.Test.YthllgjnlmjpinaaGreatDoorHPb
import Derived.Test.YthllgjnlmjpinaaGreatDoorXVa
import Derived.Test.YthllgjnlmjpinaaGreatDoorLfS
namespace Go.Proofs.YthllgjnlmjpinaaGreatDoor.E
open Go.RowKit Go.OB Go.Lf
theorem u232:Tryz.prog.underlying 232=some (.array 20 147):=Tryz.underlying232
theorem sz147:Sz Tryz.prog 147 1:=by unfold Sz; kernel_rfl
theorem one147:cZ Tryz.prog 147:=by unfold cZ; kernel_rfl
theorem en138:Go.OB.Enters Tryz.prog 138:=⟨_,Tryz.func138,rfl,by kernel_rfl⟩
theorem en159:Go.OB.Enters Tryz.prog 159:=⟨_,Tryz.func159,rfl,by kernel_rfl⟩
theorem en160:Go.OB.Enters Tryz.prog 160:=⟨_,Tryz.func160,rfl,by kernel_rfl⟩
theorem mixed:Tryz.prog.follows .mixedOrders=true:=by kernel_rfl
set_option maxHeartbeats 4000000 in
theorem Fcnw (p0:Int)(r:Int)(hF:Fcn p0=some r)(O S:List Nat)(w:World)(H:Hd O w w S []):
    Calls Tryz.prog 159 ([.int .i64 p0]:List Value).toArray w fun e w'=>e= .returned (.int .i64 r)∧Hd O w w' S []:=by
 unfold Fcn at hF;refine jS 6 Tryz.func159 rfl rfl rfl ?_;refine zB fun K1 hK1=>?_;refine zA ?_;refine zG (.int .i64 0) ?_;refine (zK (zD (hK1 _ _ ?_)));refine zB fun K2 hK2=>?_;refine zA ?_;refine zF (.int .i64 p0) ?_;obtain ⟨x3,e4,hF⟩:=zT hF;refine zH (aQ (a:=p0) (b:=78913) rfl rfl e4) ?_;obtain ⟨x5,e6,hF⟩:=zC hF;refine zH (mQ (j:=x3) (q:=18) rfl rfl e6) ?_;refine zG (.int .i64 x5) ?_;refine (zK (zD (hK2 _ _ ?_)));obtain rfl:=gI hF;refine (zN (gW (v1:= .int .i64 x5) rfl rfl ?_));exact ⟨rfl,H.pick [] (by decide)⟩
set_option maxHeartbeats 4000000 in
theorem Fejw (p0 : Bool) (r : Int) (hF : Fej p0 = some r) (O S : List Nat) (w : World) (H : Hd O w w S []) :
    Calls Tryz.prog 160 ([.bool p0] : List Value).toArray w fun e w' => e = .returned (.int .i64 r) ∧ Hd O w w' S [] := by
 unfold Fej at hF;refine jS 4 Tryz.func160 rfl rfl rfl ?_;refine zB fun K1 hK1 => ?_;refine zA ?_;refine zG (.int .i64 0) ?_;refine (zK (zD (hK1 _ _ ?_)));refine zB fun K5 hK5 => ?_;refine zB fun K6 hK6 => ?_;refine zA ?_;refine zF (.bool p0) ?_;refine (zK (zD (hK6 _ _ ?_)));refine vT (b := p0) rfl (fun c7 => ?_) (fun c7 => ?_);have hF := aDx c7 hF;refine zB fun K8 hK8 => ?_;refine zA ?_;refine zG (.int .i64 1) ?_;refine (zK (zD (hK8 _ _ ?_)));obtain rfl := gI hF;refine (zN (zJ (gW (v1 := .int .i64 1) rfl rfl ?_)));exact ⟨rfl, H.pick [] (by decide)⟩;have hF := aEi c7 hF;refine (yM (zD (hK5 _ _ ?_)));refine zB fun K9 hK9 => ?_;refine zA ?_;refine zG (.int .i64 0) ?_;refine (zK (zD (hK9 _ _ ?_)));obtain rfl := gI hF;refine (zN (gW (v1 := .int .i64 0) rfl rfl ?_));exact ⟨rfl, H.pick [] (by decide)⟩
set_option maxHeartbeats 4000000 in
theorem Felw (p0:Int)(r:Int)(hF:Fel p0=some r)(O S:List Nat)(w:World)(H:Hd O w w S [.fz (.at 1 0 ((Fl.arr 20 (Fl.int .u64)).f zO))]):
    Calls Tryz.prog 143 ([.int .u64 p0]:List Value).toArray w fun e w'=>e= .returned (.int .i64 r)∧Hd O w w' S []:=by
 unfold Fel at hF;refine jS 15 Tryz.func143 rfl rfl rfl ?_;refine zB fun K2 hK2=>?_;refine zA ?_;refine zG (.int .i64 0) ?_;refine (zK (zD (hK2 _ _ ?_)));refine zB fun K3 hK3=>?_;refine zA ?_;refine zF (.int .u64 p0) ?_;have H4:=H;obtain ⟨x5,e6,hF⟩:=zC hF;refine yJ rfl rfl (yD en138 rfl) (Fflw p0 _ e6 _ _ _ (H.enter [] [] (by decide) rfl)) ?_;rintro _ w7 ⟨rfl,G8⟩;have H:=H4.step (G8.only:Only [] _ _);refine ⟨_,rfl,?_⟩;have H9:=H;obtain ⟨x10,e11,hF⟩:=zC hF;refine yJ rfl rfl (yD en159 rfl) (Fcnw x5 _ e11 _ _ _ (H.enter [] [] (by decide) rfl)) ?_;rintro _ w12 ⟨rfl,G13⟩;have H:=H9.step (G13.only:Only [] _ _);refine ⟨_,rfl,?_⟩;refine zG (.int .i64 x10) ?_;refine (zK (zD (hK3 _ _ ?_)));refine zB fun K14 hK14=>?_;refine zA ?_;refine zF (.int .i64 x10) ?_;refine zF (.int .u64 p0) ?_;refine zF (.int .i64 x10) ?_;obtain ⟨x15,e16,hF⟩:=zC hF;refine zH (dP (X:=zO) u232 sz147 rfl rfl e16) ?_;refine zH (aB (v:= .int .u64 x15) one147 rfl (Cells.ix (e:=(Fl.int .u64)) (x:=zO) (H.item (i:=0) rfl).2.2 e16)) ?_;obtain ⟨x17,e18,hF⟩:=zT hF;refine zH (mV (aC (a:=p0) (b:=x15) rfl rfl) e18) ?_;have H19:=H;obtain ⟨x20,e21,hF⟩:=zC hF;refine yJ rfl rfl (yD en160 rfl) (Fejw x17 _ e21 _ _ _ (H.enter [] [] (by decide) rfl)) ?_;rintro _ w22 ⟨rfl,G23⟩;have H:=H19.step (G23.only:Only [] _ _);refine ⟨_,rfl,?_⟩;obtain ⟨x24,e25,hF⟩:=zT hF;refine zH (yQ (a:=x10) (b:=x20) rfl rfl e25) ?_;refine zG (.int .i64 x24) ?_;refine (zK (zD (hK14 _ _ ?_)));obtain rfl:=gI hF;refine (zN (gW (v1:= .int .i64 x24) rfl rfl ?_));exact ⟨rfl,H.pick [] (by decide)⟩
end Go.Proofs.YthllgjnlmjpinaaGreatDoor.E
