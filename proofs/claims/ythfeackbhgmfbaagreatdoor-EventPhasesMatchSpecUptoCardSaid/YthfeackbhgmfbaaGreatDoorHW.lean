/- Laws that the claim stands on; no condition beyond those stated. -/
import Derived.Test.YthfeackbhgmfbaaGreatDoorHPb
import Derived.Test.YthfeackbhgmfbaaGreatDoorXVa
namespace Go.Proofs.YthfeackbhgmfbaaGreatDoor.E
open Go.RowKit Go.OB Go.Lf
theorem u244:Tryz.prog.underlying 244=some (.array 20 151):=Tryz.underlying244
theorem sz151:Sz Tryz.prog 151 1:=by unfold Sz;kernel_rfl
theorem one151:dP Tryz.prog 151:=by unfold dP;kernel_rfl
theorem en152:Go.OB.Enters Tryz.prog 152:=⟨_,Tryz.func152,rfl,by kernel_rfl⟩
theorem en153:Go.OB.Enters Tryz.prog 153:=⟨_,Tryz.func153,rfl,by kernel_rfl⟩
theorem en154:Go.OB.Enters Tryz.prog 154:=⟨_,Tryz.func154,rfl,by kernel_rfl⟩
set_option maxHeartbeats 4000000 in
theorem Fevw (d r:Int)(c:Fev d=some r)(O S:List Nat)(w:World)(H:Hd O w w S []):
    Calls Tryz.prog 152 ([.int .i64 d]:List Value).toArray w λe w'=>e= .returned (.int .i64 r)/\Hd O w w' S []:=by
 unfold Fev at c;refine tV 6 Tryz.func152 rfl rfl rfl ?_;refine bH λ_ f=>?_;refine zD ?_;refine zB (.int .i64 0) ?_;refine(yK (zF (f _ _ ?_)));refine bH λ_ h=>?_;refine zD ?_;refine zA (.int .i64 d) ?_;obtain⟨k,l,c⟩:=aCs c;refine zS (aZl (a:=d) (b:=78913) rfl rfl l) ?_;obtain⟨i,n,c⟩:=yA c;refine zS (aAw (j:=k) (q:=18) rfl rfl n) ?_;refine zB (.int .i64 i) ?_;refine(yK (zF (h _ _ ?_)));obtain rfl:=bBi c;refine(zI (aLp (v1:= .int .i64 i) rfl rfl ?_));exact⟨rfl,H.U [] (by decide)⟩
set_option maxHeartbeats 4000000 in
theorem Fe7w (c:Bool) (r:Int) (a:Fe7 c=some r) (O S:List Nat) (w:World) (H:Hd O w w S []):
    Calls Tryz.prog 154 ([.bool c]:List Value).toArray w λe w'=>e= .returned (.int .i64 r)/\Hd O w w' S []:=by
 unfold Fe7 at a;refine tV 4 Tryz.func154 rfl rfl rfl ?_;refine bH λ_ d=>?_;refine zD ?_;refine zB (.int .i64 0) ?_;refine(yK (zF (d _ _ ?_)));refine bH λ_ f=>?_;refine bH λ_ h=>?_;refine zD ?_;refine zA (.bool c) ?_;refine(yK (zF (h _ _ ?_)));refine aPr (b:=c) rfl (λi=>?_) (λi=>?_);have a:=rZ i a;refine bH λ_ j=>?_;refine zD ?_;refine zB (.int .i64 1) ?_;refine(yK (zF (j _ _ ?_)));obtain rfl:=bBi a;refine(zI (zH (aLp (v1:= .int .i64 1) rfl rfl ?_)));exact⟨rfl,H.U [] (by decide)⟩;have a:=sN i a;refine(yP (zF (f _ _ ?_)));refine bH λ_ k=>?_;refine zD ?_;refine zB (.int .i64 0) ?_;refine(yK (zF (k _ _ ?_)));obtain rfl:=bBi a;refine(zI (aLp (v1:= .int .i64 0) rfl rfl ?_));exact⟨rfl,H.U [] (by decide)⟩
set_option maxHeartbeats 4000000 in
theorem Fgfw (h r:Int)(c:Fgf h=some r)(O S:List Nat)(w:World)(H:Hd O w w S [.fz (.at 1 0 ((Fl.arr 20 (Fl.int .u64)).f zX))]):
    Calls Tryz.prog 108 ([.int .u64 h]:List Value).toArray w λe w'=>e= .returned (.int .i64 r)/\Hd O w w' S []:=by
 unfold Fgf at c;refine tV 15 Tryz.func108 rfl rfl rfl ?_;refine bH λ_ o=>?_;refine zD ?_;refine zB (.int .i64 0) ?_;refine(yK (zF (o _ _ ?_)));refine bH λ_ p=>?_;refine zD ?_;refine zA (.int .u64 h) ?_;have D:=H;obtain⟨E,F,c⟩:=yA c;refine xG rfl rfl (yD en153 rfl) (Fgvw h _ F _ _ _ (H.W [] [] (by decide) rfl)) ?_;rintro _ _ ⟨rfl,G⟩;have H:=D.step (G.only:Only [] _ _);refine⟨_,rfl,?_⟩;have I:=H;obtain⟨d,q,c⟩:=yA c;refine xG rfl rfl (yD en152 rfl) (Fevw E _ q _ _ _ (H.W [] [] (by decide) rfl)) ?_;rintro _ _ ⟨rfl,s⟩;have H:=I.step (s.only:Only [] _ _);refine⟨_,rfl,?_⟩;refine zB (.int .i64 d) ?_;refine(yK (zF (p _ _ ?_)));refine bH λ_ j=>?_;refine zD ?_;refine zA (.int .i64 d) ?_;refine zA (.int .u64 h) ?_;refine zA (.int .i64 d) ?_;obtain⟨k,l,c⟩:=yA c;refine zS (tC (X:=zX) u244 sz151 rfl rfl l) ?_;refine zS (uY (v:= .int .u64 k) one151 rfl (Cells.ix (e:=(Fl.int .u64)) (x:=zX) (H.V (i:=0) rfl).2.2 l)) ?_;obtain⟨t,u,c⟩:=aCs c;refine zS (dS (aGx (a:=h) (b:=k) rfl rfl) u) ?_;have y:=H;obtain⟨z,A,c⟩:=yA c;refine xG rfl rfl (yD en154 rfl) (Fe7w t _ A _ _ _ (H.W [] [] (by decide) rfl)) ?_;rintro _ _ ⟨rfl,B⟩;have H:=y.step (B.only:Only [] _ _);refine⟨_,rfl,?_⟩;obtain⟨n,C,c⟩:=aCs c;refine zS (uA (a:=d) (b:=z) rfl rfl C) ?_;refine zB (.int .i64 n) ?_;refine(yK (zF (j _ _ ?_)));obtain rfl:=bBi c;refine(zI (aLp (v1:= .int .i64 n) rfl rfl ?_))
 exact⟨rfl,H.U [] (by decide)⟩
end Go.Proofs.YthfeackbhgmfbaaGreatDoor.E
