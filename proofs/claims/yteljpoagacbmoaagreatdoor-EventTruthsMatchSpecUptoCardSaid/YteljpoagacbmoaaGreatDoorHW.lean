/- Laws that the claim stands on; no condition beyond those stated. -/
import Derived.Test.YteljpoagacbmoaaGreatDoorHPb
import Derived.Test.YteljpoagacbmoaaGreatDoorXVa
namespace Go.Proofs.YteljpoagacbmoaaGreatDoor.E
open Go.RowKit Go.OB Go.Lf
theorem u340:Tryz.prog.underlying 340=some (.array 20 282):=Tryz.underlying340
theorem sz282:Sz Tryz.prog 282 1:=by unfold Sz;kernel_rfl
theorem one282:bK Tryz.prog 282:=by unfold bK;kernel_rfl
theorem en257:Go.OB.Enters Tryz.prog 257:=⟨_,Tryz.func257,rfl,by kernel_rfl⟩
theorem en263:Go.OB.Enters Tryz.prog 263:=⟨_,Tryz.func263,rfl,by kernel_rfl⟩
theorem en264:Go.OB.Enters Tryz.prog 264:=⟨_,Tryz.func264,rfl,by kernel_rfl⟩
set_option maxHeartbeats 4000000 in
theorem Fdvw (d r:Int)(c:Fdv d=some r)(O S:List Nat)(w:World)(H:Hd O w w S []):
    Calls Tryz.prog 263 ([.int .i64 d]:List Value).toArray w λe w'=>e= .returned (.int .i64 r)/\Hd O w w' S []:=by
 unfold Fdv at c;refine tX 6 Tryz.func263 rfl rfl rfl ?_;refine bI λ_ f=>?_;refine zD ?_;refine zA (.int .i64 0) ?_;refine(yX (zF (f _ _ ?_)));refine bI λ_ h=>?_;refine zD ?_;refine zB (.int .i64 d) ?_;obtain⟨k,l,c⟩:=aCq c;refine zN (aWd (a:=d) (b:=78913) rfl rfl l) ?_;obtain⟨i,n,c⟩:=yK c;refine zN (aAu (j:=k) (q:=18) rfl rfl n) ?_;refine zA (.int .i64 i) ?_;refine(yX (zF (h _ _ ?_)));obtain rfl:=bAc c;refine(zH (aJw (v1:= .int .i64 i) rfl rfl ?_));exact⟨rfl,H.U [] (by decide)⟩
set_option maxHeartbeats 4000000 in
theorem Fepw (c:Bool) (r:Int) (a:Fep c=some r) (O S:List Nat) (w:World) (H:Hd O w w S []):
    Calls Tryz.prog 264 ([.bool c]:List Value).toArray w λe w'=>e= .returned (.int .i64 r)/\Hd O w w' S []:=by
 unfold Fep at a;refine tX 4 Tryz.func264 rfl rfl rfl ?_;refine bI λ_ d=>?_;refine zD ?_;refine zA (.int .i64 0) ?_;refine(yX (zF (d _ _ ?_)));refine bI λ_ f=>?_;refine bI λ_ h=>?_;refine zD ?_;refine zB (.bool c) ?_;refine(yX (zF (h _ _ ?_)));refine aRd (b:=c) rfl (λi=>?_) (λi=>?_);have a:=wH i a;refine bI λ_ j=>?_;refine zD ?_;refine zA (.int .i64 1) ?_;refine(yX (zF (j _ _ ?_)));obtain rfl:=bAc a;refine(zH (zG (aJw (v1:= .int .i64 1) rfl rfl ?_)));exact⟨rfl,H.U [] (by decide)⟩;have a:=wG i a;refine(yV (zF (f _ _ ?_)));refine bI λ_ k=>?_;refine zD ?_;refine zA (.int .i64 0) ?_;refine(yX (zF (k _ _ ?_)));obtain rfl:=bAc a;refine(zH (aJw (v1:= .int .i64 0) rfl rfl ?_));exact⟨rfl,H.U [] (by decide)⟩
set_option maxHeartbeats 4000000 in
theorem Fffw (h r:Int)(c:Fff h=some r)(O S:List Nat)(w:World)(H:Hd O w w S [.fz (.at 2 0 ((Fl.arr 20 (Fl.int .u64)).f yD))]):
    Calls Tryz.prog 229 ([.int .u64 h]:List Value).toArray w λe w'=>e= .returned (.int .i64 r)/\Hd O w w' S []:=by
 unfold Fff at c;refine tX 15 Tryz.func229 rfl rfl rfl ?_;refine bI λ_ o=>?_;refine zD ?_;refine zA (.int .i64 0) ?_;refine(yX (zF (o _ _ ?_)));refine bI λ_ p=>?_;refine zD ?_;refine zB (.int .u64 h) ?_;have D:=H;obtain⟨E,F,c⟩:=yK c;refine yE rfl rfl (zU en257 rfl) (Ffrw h _ F _ _ _ (H.W [] [] (by decide) rfl)) ?_;rintro _ _ ⟨rfl,G⟩;have H:=D.step (G.only:Only [] _ _);refine⟨_,rfl,?_⟩;have I:=H;obtain⟨d,q,c⟩:=yK c;refine yE rfl rfl (zU en263 rfl) (Fdvw E _ q _ _ _ (H.W [] [] (by decide) rfl)) ?_;rintro _ _ ⟨rfl,s⟩;have H:=I.step (s.only:Only [] _ _);refine⟨_,rfl,?_⟩;refine zA (.int .i64 d) ?_;refine(yX (zF (p _ _ ?_)));refine bI λ_ j=>?_;refine zD ?_;refine zB (.int .i64 d) ?_;refine zB (.int .u64 h) ?_;refine zB (.int .i64 d) ?_;obtain⟨k,l,c⟩:=yK c;refine zN (sV (X:=yD) u340 sz282 rfl rfl l) ?_;refine zN (vH (v:= .int .u64 k) one282 rfl (Cells.ix (e:=(Fl.int .u64)) (x:=yD) (H.V (i:=0) rfl).2.2 l)) ?_;obtain⟨t,u,c⟩:=aCq c;refine zN (bM (aGb (a:=h) (b:=k) rfl rfl) u) ?_;have y:=H;obtain⟨z,A,c⟩:=yK c;refine yE rfl rfl (zU en264 rfl) (Fepw t _ A _ _ _ (H.W [] [] (by decide) rfl)) ?_;rintro _ _ ⟨rfl,B⟩;have H:=y.step (B.only:Only [] _ _);refine⟨_,rfl,?_⟩;obtain⟨n,C,c⟩:=aCq c;refine zN (aAi (a:=d) (b:=z) rfl rfl C) ?_;refine zA (.int .i64 n) ?_;refine(yX (zF (j _ _ ?_)));obtain rfl:=bAc c;refine(zH (aJw (v1:= .int .i64 n) rfl rfl ?_))
 exact⟨rfl,H.U [] (by decide)⟩
end Go.Proofs.YteljpoagacbmoaaGreatDoor.E
