/- Laws that the claim stands on; no condition beyond those stated. -/
import Derived.Test.YtibkjjklfhfipabGreatDoorHPb
import Derived.Test.YtibkjjklfhfipabGreatDoorXVa
namespace Go.Proofs.YtibkjjklfhfipabGreatDoor.E
open Go.RowKit Go.OB Go.Lf
theorem u237:Tryz.prog.underlying 237=some (.array 20 172):=Tryz.underlying237
theorem sz172:Sz Tryz.prog 172 1:=by unfold Sz;kernel_rfl
theorem one172:aDl Tryz.prog 172:=by unfold aDl;kernel_rfl
theorem en150:Go.OB.Enters Tryz.prog 150:=⟨_,Tryz.func150,rfl,by kernel_rfl⟩
theorem en151:Go.OB.Enters Tryz.prog 151:=⟨_,Tryz.func151,rfl,by kernel_rfl⟩
theorem en152:Go.OB.Enters Tryz.prog 152:=⟨_,Tryz.func152,rfl,by kernel_rfl⟩
set_option maxHeartbeats 4000000 in
theorem Fccw (d r:Int)(c:Fcc d=some r)(O S:List Nat)(w:World)(H:Hd O w w S []):
    Calls Tryz.prog 150 ([.int .i64 d]:List Value).toArray w λe w'=>e= .returned (.int .i64 r)/\Hd O w w' S []:=by
 unfold Fcc at c;refine sK 6 Tryz.func150 rfl rfl rfl ?_;refine cO λ_ f=>?_;refine zD ?_;refine zB (.int .i64 0) ?_;refine(yN (zF (f _ _ ?_)));refine cO λ_ h=>?_;refine zD ?_;refine zC (.int .i64 d) ?_;obtain⟨k,l,c⟩:=aCu c;refine zQ (aXu (a:=d) (b:=78913) rfl rfl l) ?_;obtain⟨i,n,c⟩:=yL c;refine zQ (aAe (j:=k) (q:=18) rfl rfl n) ?_;refine zB (.int .i64 i) ?_;refine(yN (zF (h _ _ ?_)));obtain rfl:=bBt c;refine(zI (aKo (v1:= .int .i64 i) rfl rfl ?_));exact⟨rfl,H.U [] (by decide)⟩
set_option maxHeartbeats 4000000 in
theorem Fe1w (c:Bool) (r:Int) (a:Fe1 c=some r) (O S:List Nat) (w:World) (H:Hd O w w S []):
    Calls Tryz.prog 152 ([.bool c]:List Value).toArray w λe w'=>e= .returned (.int .i64 r)/\Hd O w w' S []:=by
 unfold Fe1 at a;refine sK 4 Tryz.func152 rfl rfl rfl ?_;refine cO λ_ d=>?_;refine zD ?_;refine zB (.int .i64 0) ?_;refine(yN (zF (d _ _ ?_)));refine cO λ_ f=>?_;refine cO λ_ h=>?_;refine zD ?_;refine zC (.bool c) ?_;refine(yN (zF (h _ _ ?_)));refine aQi (b:=c) rfl (λi=>?_) (λi=>?_);have a:=uT i a;refine cO λ_ j=>?_;refine zD ?_;refine zB (.int .i64 1) ?_;refine(yN (zF (j _ _ ?_)));obtain rfl:=bBt a;refine(zI (zH (aKo (v1:= .int .i64 1) rfl rfl ?_)));exact⟨rfl,H.U [] (by decide)⟩;have a:=uZ i a;refine(yK (zF (f _ _ ?_)));refine cO λ_ k=>?_;refine zD ?_;refine zB (.int .i64 0) ?_;refine(yN (zF (k _ _ ?_)));obtain rfl:=bBt a;refine(zI (aKo (v1:= .int .i64 0) rfl rfl ?_));exact⟨rfl,H.U [] (by decide)⟩
set_option maxHeartbeats 4000000 in
theorem Fdzw (h r:Int)(c:Fdz h=some r)(O S:List Nat)(w:World)(H:Hd O w w S [.fz (.at 0 0 ((Fl.arr 20 (Fl.int .u64)).f zX))]):
    Calls Tryz.prog 138 ([.int .u64 h]:List Value).toArray w λe w'=>e= .returned (.int .i64 r)/\Hd O w w' S []:=by
 unfold Fdz at c;refine sK 15 Tryz.func138 rfl rfl rfl ?_;refine cO λ_ o=>?_;refine zD ?_;refine zB (.int .i64 0) ?_;refine(yN (zF (o _ _ ?_)));refine cO λ_ p=>?_;refine zD ?_;refine zC (.int .u64 h) ?_;have D:=H;obtain⟨E,F,c⟩:=yL c;refine xE rfl rfl (yA en151 rfl) (Fefw h _ F _ _ _ (H.W [] [] (by decide) rfl)) ?_;rintro _ _ ⟨rfl,G⟩;have H:=D.step (G.only:Only [] _ _);refine⟨_,rfl,?_⟩;have I:=H;obtain⟨d,q,c⟩:=yL c;refine xE rfl rfl (yA en150 rfl) (Fccw E _ q _ _ _ (H.W [] [] (by decide) rfl)) ?_;rintro _ _ ⟨rfl,s⟩;have H:=I.step (s.only:Only [] _ _);refine⟨_,rfl,?_⟩;refine zB (.int .i64 d) ?_;refine(yN (zF (p _ _ ?_)));refine cO λ_ j=>?_;refine zD ?_;refine zC (.int .i64 d) ?_;refine zC (.int .u64 h) ?_;refine zC (.int .i64 d) ?_;obtain⟨k,l,c⟩:=yL c;refine zQ (uC (X:=zX) u237 sz172 rfl rfl l) ?_;refine zQ (wW (v:= .int .u64 k) one172 rfl (Cells.ix (e:=(Fl.int .u64)) (x:=zX) (H.V (i:=0) rfl).2.2 l)) ?_;obtain⟨t,u,c⟩:=aCu c;refine zQ (dU (aGw (a:=h) (b:=k) rfl rfl) u) ?_;have y:=H;obtain⟨z,A,c⟩:=yL c;refine xE rfl rfl (yA en152 rfl) (Fe1w t _ A _ _ _ (H.W [] [] (by decide) rfl)) ?_;rintro _ _ ⟨rfl,B⟩;have H:=y.step (B.only:Only [] _ _);refine⟨_,rfl,?_⟩;obtain⟨n,C,c⟩:=aCu c;refine zQ (aAl (a:=d) (b:=z) rfl rfl C) ?_;refine zB (.int .i64 n) ?_;refine(yN (zF (j _ _ ?_)));obtain rfl:=bBt c;refine(zI (aKo (v1:= .int .i64 n) rfl rfl ?_))
 exact⟨rfl,H.U [] (by decide)⟩
end Go.Proofs.YtibkjjklfhfipabGreatDoor.E
