/- Laws that the claim stands on; no condition beyond those stated. -/
import Derived.Test.YtibkjjklfhfipadGreatDoorHPb
import Derived.Test.YtibkjjklfhfipadGreatDoorXVa
namespace Go.Proofs.YtibkjjklfhfipadGreatDoor.E
open Go.RowKit Go.OB Go.Lf
theorem u270:Tryz.prog.underlying 270=some (.array 20 166):=Tryz.underlying270
theorem sz166:Sz Tryz.prog 166 1:=by unfold Sz;kernel_rfl
theorem one166:aCm Tryz.prog 166:=by unfold aCm;kernel_rfl
theorem en148:Go.OB.Enters Tryz.prog 148:=⟨_,Tryz.func148,rfl,by kernel_rfl⟩
theorem en187:Go.OB.Enters Tryz.prog 187:=⟨_,Tryz.func187,rfl,by kernel_rfl⟩
theorem en188:Go.OB.Enters Tryz.prog 188:=⟨_,Tryz.func188,rfl,by kernel_rfl⟩
set_option maxHeartbeats 4000000 in
theorem Fchw (d r:Int)(c:Fch d=some r)(O S:List Nat)(w:World)(H:Hd O w w S []):
    Calls Tryz.prog 187 ([.int .i64 d]:List Value).toArray w λe w'=>e= .returned (.int .i64 r)/\Hd O w w' S []:=by
 unfold Fch at c;refine tK 6 Tryz.func187 rfl rfl rfl ?_;refine dZ λ_ f=>?_;refine zD ?_;refine zB (.int .i64 0) ?_;refine(yN (zF (f _ _ ?_)));refine dZ λ_ h=>?_;refine zD ?_;refine zA (.int .i64 d) ?_;obtain⟨k,l,c⟩:=aCy c;refine zO (bAf (a:=d) (b:=78913) rfl rfl l) ?_;obtain⟨i,n,c⟩:=zZ c;refine zO (aAt (j:=k) (q:=18) rfl rfl n) ?_;refine zB (.int .i64 i) ?_;refine(yN (zF (h _ _ ?_)));obtain rfl:=bDf c;refine(zI (aLr (v1:= .int .i64 i) rfl rfl ?_));exact⟨rfl,H.U [] (by decide)⟩
set_option maxHeartbeats 4000000 in
theorem Fdww (c:Bool) (r:Int) (a:Fdw c=some r) (O S:List Nat) (w:World) (H:Hd O w w S []):
    Calls Tryz.prog 188 ([.bool c]:List Value).toArray w λe w'=>e= .returned (.int .i64 r)/\Hd O w w' S []:=by
 unfold Fdw at a;refine tK 4 Tryz.func188 rfl rfl rfl ?_;refine dZ λ_ d=>?_;refine zD ?_;refine zB (.int .i64 0) ?_;refine(yN (zF (d _ _ ?_)));refine dZ λ_ f=>?_;refine dZ λ_ h=>?_;refine zD ?_;refine zA (.bool c) ?_;refine(yN (zF (h _ _ ?_)));refine aTc (b:=c) rfl (λi=>?_) (λi=>?_);have a:=wO i a;refine dZ λ_ j=>?_;refine zD ?_;refine zB (.int .i64 1) ?_;refine(yN (zF (j _ _ ?_)));obtain rfl:=bDf a;refine(zI (zG (aLr (v1:= .int .i64 1) rfl rfl ?_)));exact⟨rfl,H.U [] (by decide)⟩;have a:=wS i a;refine(yJ (zF (f _ _ ?_)));refine dZ λ_ k=>?_;refine zD ?_;refine zB (.int .i64 0) ?_;refine(yN (zF (k _ _ ?_)));obtain rfl:=bDf a;refine(zI (aLr (v1:= .int .i64 0) rfl rfl ?_));exact⟨rfl,H.U [] (by decide)⟩
set_option maxHeartbeats 4000000 in
theorem Fejw (h r:Int)(c:Fej h=some r)(O S:List Nat)(w:World)(H:Hd O w w S [.fz (.at 1 0 ((Fl.arr 20 (Fl.int .u64)).f zY))]):
    Calls Tryz.prog 165 ([.int .u64 h]:List Value).toArray w λe w'=>e= .returned (.int .i64 r)/\Hd O w w' S []:=by
 unfold Fej at c;refine tK 15 Tryz.func165 rfl rfl rfl ?_;refine dZ λ_ o=>?_;refine zD ?_;refine zB (.int .i64 0) ?_;refine(yN (zF (o _ _ ?_)));refine dZ λ_ p=>?_;refine zD ?_;refine zA (.int .u64 h) ?_;have D:=H;obtain⟨E,F,c⟩:=zZ c;refine xC rfl rfl (yG en148 rfl) (Fe9w h _ F _ _ _ (H.W [] [] (by decide) rfl)) ?_;rintro _ _ ⟨rfl,G⟩;have H:=D.step (G.only:Only [] _ _);refine⟨_,rfl,?_⟩;have I:=H;obtain⟨d,q,c⟩:=zZ c;refine xC rfl rfl (yG en187 rfl) (Fchw E _ q _ _ _ (H.W [] [] (by decide) rfl)) ?_;rintro _ _ ⟨rfl,s⟩;have H:=I.step (s.only:Only [] _ _);refine⟨_,rfl,?_⟩;refine zB (.int .i64 d) ?_;refine(yN (zF (p _ _ ?_)));refine dZ λ_ j=>?_;refine zD ?_;refine zA (.int .i64 d) ?_;refine zA (.int .u64 h) ?_;refine zA (.int .i64 d) ?_;obtain⟨k,l,c⟩:=zZ c;refine zO (uQ (X:=zY) u270 sz166 rfl rfl l) ?_;refine zO (wY (v:= .int .u64 k) one166 rfl (Cells.ix (e:=(Fl.int .u64)) (x:=zY) (H.V (i:=0) rfl).2.2 l)) ?_;obtain⟨t,u,c⟩:=aCy c;refine zO (bD (aHg (a:=h) (b:=k) rfl rfl) u) ?_;have y:=H;obtain⟨z,A,c⟩:=zZ c;refine xC rfl rfl (yG en188 rfl) (Fdww t _ A _ _ _ (H.W [] [] (by decide) rfl)) ?_;rintro _ _ ⟨rfl,B⟩;have H:=y.step (B.only:Only [] _ _);refine⟨_,rfl,?_⟩;obtain⟨n,C,c⟩:=aCy c;refine zO (wP (a:=d) (b:=z) rfl rfl C) ?_;refine zB (.int .i64 n) ?_;refine(yN (zF (j _ _ ?_)));obtain rfl:=bDf c;refine(zI (aLr (v1:= .int .i64 n) rfl rfl ?_))
 exact⟨rfl,H.U [] (by decide)⟩
end Go.Proofs.YtibkjjklfhfipadGreatDoor.E
