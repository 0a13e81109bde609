/- Laws that the claim stands on; no condition beyond those stated. -/
import Derived.Test.YtibkjjklfhfipacGreatDoorHPb
import Derived.Test.YtibkjjklfhfipacGreatDoorXVa
namespace Go.Proofs.YtibkjjklfhfipacGreatDoor.E
open Go.RowKit Go.OB Go.Lf
theorem u203:Tryz.prog.underlying 203=some (.array 20 169):=Tryz.underlying203
theorem sz169:Sz Tryz.prog 169 1:=by unfold Sz;kernel_rfl
theorem one169:aAo Tryz.prog 169:=by unfold aAo;kernel_rfl
theorem en142:Go.OB.Enters Tryz.prog 142:=⟨_,Tryz.func142,rfl,by kernel_rfl⟩
theorem en143:Go.OB.Enters Tryz.prog 143:=⟨_,Tryz.func143,rfl,by kernel_rfl⟩
theorem en144:Go.OB.Enters Tryz.prog 144:=⟨_,Tryz.func144,rfl,by kernel_rfl⟩
set_option maxHeartbeats 4000000 in
theorem Fcjw (d r:Int)(c:Fcj d=some r)(O S:List Nat)(w:World)(H:Hd O w w S []):
    Calls Tryz.prog 142 ([.int .i64 d]:List Value).toArray w λe w'=>e= .returned (.int .i64 r)/\Hd O w w' S []:=by
 unfold Fcj at c;refine rC 6 Tryz.func142 rfl rfl rfl ?_;refine xJ λ_ f=>?_;refine zF ?_;refine zB (.int .i64 0) ?_;refine(yK (zG (f _ _ ?_)));refine xJ λ_ h=>?_;refine zF ?_;refine zC (.int .i64 d) ?_;obtain⟨k,l,c⟩:=aFt c;refine zN (aWw (a:=d) (b:=78913) rfl rfl l) ?_;obtain⟨i,n,c⟩:=yN c;refine zN (aCn (j:=k) (q:=18) rfl rfl n) ?_;refine zB (.int .i64 i) ?_;refine(yK (zG (h _ _ ?_)));obtain rfl:=bGe c;refine(zI (aIg (v1:= .int .i64 i) rfl rfl ?_));exact⟨rfl,H.U [] (by decide)⟩
set_option maxHeartbeats 4000000 in
theorem Feiw (c:Bool) (r:Int) (a:Fei c=some r) (O S:List Nat) (w:World) (H:Hd O w w S []):
    Calls Tryz.prog 144 ([.bool c]:List Value).toArray w λe w'=>e= .returned (.int .i64 r)/\Hd O w w' S []:=by
 unfold Fei at a;refine rC 4 Tryz.func144 rfl rfl rfl ?_;refine xJ λ_ d=>?_;refine zF ?_;refine zB (.int .i64 0) ?_;refine(yK (zG (d _ _ ?_)));refine xJ λ_ f=>?_;refine xJ λ_ h=>?_;refine zF ?_;refine zC (.bool c) ?_;refine(yK (zG (h _ _ ?_)));refine aFf (b:=c) rfl (λi=>?_) (λi=>?_);have a:=rY i a;refine xJ λ_ j=>?_;refine zF ?_;refine zB (.int .i64 1) ?_;refine(yK (zG (j _ _ ?_)));obtain rfl:=bGe a;refine(zI (zH (aIg (v1:= .int .i64 1) rfl rfl ?_)));exact⟨rfl,H.U [] (by decide)⟩;have a:=sH i a;refine(yI (zG (f _ _ ?_)));refine xJ λ_ k=>?_;refine zF ?_;refine zB (.int .i64 0) ?_;refine(yK (zG (k _ _ ?_)));obtain rfl:=bGe a;refine(zI (aIg (v1:= .int .i64 0) rfl rfl ?_));exact⟨rfl,H.U [] (by decide)⟩
set_option maxHeartbeats 4000000 in
theorem Feew (h r:Int)(c:Fee h=some r)(O S:List Nat)(w:World)(H:Hd O w w S [.fz (.at 0 0 ((Fl.arr 20 (Fl.int .u64)).f zW))]):
    Calls Tryz.prog 122 ([.int .u64 h]:List Value).toArray w λe w'=>e= .returned (.int .i64 r)/\Hd O w w' S []:=by
 unfold Fee at c;refine rC 15 Tryz.func122 rfl rfl rfl ?_;refine xJ λ_ o=>?_;refine zF ?_;refine zB (.int .i64 0) ?_;refine(yK (zG (o _ _ ?_)));refine xJ λ_ p=>?_;refine zF ?_;refine zC (.int .u64 h) ?_;have D:=H;obtain⟨E,F,c⟩:=yN c;refine xH rfl rfl (yG en143 rfl) (Ff1w h _ F _ _ _ (H.W [] [] (by decide) rfl)) ?_;rintro _ _ ⟨rfl,G⟩;have H:=D.step (G.only:Only [] _ _);refine⟨_,rfl,?_⟩;have I:=H;obtain⟨d,q,c⟩:=yN c;refine xH rfl rfl (yG en142 rfl) (Fcjw E _ q _ _ _ (H.W [] [] (by decide) rfl)) ?_;rintro _ _ ⟨rfl,s⟩;have H:=I.step (s.only:Only [] _ _);refine⟨_,rfl,?_⟩;refine zB (.int .i64 d) ?_;refine(yK (zG (p _ _ ?_)));refine xJ λ_ j=>?_;refine zF ?_;refine zC (.int .i64 d) ?_;refine zC (.int .u64 h) ?_;refine zC (.int .i64 d) ?_;obtain⟨k,l,c⟩:=yN c;refine zN (vT (X:=zW) u203 sz169 rfl rfl l) ?_;refine zN (aCc (v:= .int .u64 k) one169 rfl (Cells.ix (e:=(Fl.int .u64)) (x:=zW) (H.V (i:=0) rfl).2.2 l)) ?_;obtain⟨t,u,c⟩:=aFt c;refine zN (wB (aKq (a:=h) (b:=k) rfl rfl) u) ?_;have y:=H;obtain⟨z,A,c⟩:=yN c;refine xH rfl rfl (yG en144 rfl) (Feiw t _ A _ _ _ (H.W [] [] (by decide) rfl)) ?_;rintro _ _ ⟨rfl,B⟩;have H:=y.step (B.only:Only [] _ _);refine⟨_,rfl,?_⟩;obtain⟨n,C,c⟩:=aFt c;refine zN (uY (a:=d) (b:=z) rfl rfl C) ?_;refine zB (.int .i64 n) ?_;refine(yK (zG (j _ _ ?_)));obtain rfl:=bGe c;refine(zI (aIg (v1:= .int .i64 n) rfl rfl ?_))
 exact⟨rfl,H.U [] (by decide)⟩
end Go.Proofs.YtibkjjklfhfipacGreatDoor.E
