/- Laws that the claim stands on; no condition beyond those stated. -/
import Derived.Test.YtnccbhdmemheeaaGreatDoorHPb
import Derived.Test.YtnccbhdmemheeaaGreatDoorXVa
namespace Go.Proofs.YtnccbhdmemheeaaGreatDoor.E
open Go.RowKit Go.OB Go.Lf
theorem u279:Tryz.prog.underlying 279=some (.array 20 241):=Tryz.underlying279
theorem sz241:Sz Tryz.prog 241 1:=by unfold Sz;kernel_rfl
theorem one241:aCb Tryz.prog 241:=by unfold aCb;kernel_rfl
theorem en150:Go.OB.Enters Tryz.prog 150:=⟨_,Tryz.func150,rfl,by kernel_rfl⟩
theorem en193:Go.OB.Enters Tryz.prog 193:=⟨_,Tryz.func193,rfl,by kernel_rfl⟩
theorem en194:Go.OB.Enters Tryz.prog 194:=⟨_,Tryz.func194,rfl,by kernel_rfl⟩
set_option maxHeartbeats 4000000 in
theorem Fcfw (d r:Int)(c:Fcf d=some r)(O S:List Nat)(w:World)(H:Hd O w w S []):
    Calls Tryz.prog 193 ([.int .i64 d]:List Value).toArray w λe w'=>e= .returned (.int .i64 r)/\Hd O w w' S []:=by
 unfold Fcf at c;refine tJ 6 Tryz.func193 rfl rfl rfl ?_;refine cZ λ_ f=>?_;refine zD ?_;refine zA (.int .i64 0) ?_;refine(yP (zF (f _ _ ?_)));refine cZ λ_ h=>?_;refine zD ?_;refine zB (.int .i64 d) ?_;obtain⟨k,l,c⟩:=aDc c;refine zK (Do_mul (a:=d) (b:=78913) rfl rfl l) ?_;obtain⟨i,n,c⟩:=yD c;refine zK (aDk (j:=k) (q:=18) rfl rfl n) ?_;refine zA (.int .i64 i) ?_;refine(yP (zF (h _ _ ?_)));obtain rfl:=bBs c;refine(zH (aLc (v1:= .int .i64 i) rfl rfl ?_));exact⟨rfl,H.U [] (by decide)⟩
set_option maxHeartbeats 4000000 in
theorem Fd9w (c:Bool) (r:Int) (a:Fd9 c=some r) (O S:List Nat) (w:World) (H:Hd O w w S []):
    Calls Tryz.prog 194 ([.bool c]:List Value).toArray w λe w'=>e= .returned (.int .i64 r)/\Hd O w w' S []:=by
 unfold Fd9 at a;refine tJ 4 Tryz.func194 rfl rfl rfl ?_;refine cZ λ_ d=>?_;refine zD ?_;refine zA (.int .i64 0) ?_;refine(yP (zF (d _ _ ?_)));refine cZ λ_ f=>?_;refine cZ λ_ h=>?_;refine zD ?_;refine zB (.bool c) ?_;refine(yP (zF (h _ _ ?_)));refine aQm (b:=c) rfl (λi=>?_) (λi=>?_);have a:=aAt i a;refine cZ λ_ j=>?_;refine zD ?_;refine zA (.int .i64 1) ?_;refine(yP (zF (j _ _ ?_)));obtain rfl:=bBs a;refine(zH (zG (aLc (v1:= .int .i64 1) rfl rfl ?_)));exact⟨rfl,H.U [] (by decide)⟩;have a:=aBj i a;refine(yF (zF (f _ _ ?_)));refine cZ λ_ k=>?_;refine zD ?_;refine zA (.int .i64 0) ?_;refine(yP (zF (k _ _ ?_)));obtain rfl:=bBs a;refine(zH (aLc (v1:= .int .i64 0) rfl rfl ?_));exact⟨rfl,H.U [] (by decide)⟩
set_option maxHeartbeats 4000000 in
theorem Fd3w (h r:Int)(c:Fd3 h=some r)(O S:List Nat)(w:World)(H:Hd O w w S [.fz (.at 2 0 ((Fl.arr 20 (Fl.int .u64)).f zX))]):
    Calls Tryz.prog 182 ([.int .u64 h]:List Value).toArray w λe w'=>e= .returned (.int .i64 r)/\Hd O w w' S []:=by
 unfold Fd3 at c;refine tJ 15 Tryz.func182 rfl rfl rfl ?_;refine cZ λ_ o=>?_;refine zD ?_;refine zA (.int .i64 0) ?_;refine(yP (zF (o _ _ ?_)));refine cZ λ_ p=>?_;refine zD ?_;refine zB (.int .u64 h) ?_;have D:=H;obtain⟨E,F,c⟩:=yD c;refine xK rfl rfl (yE en150 rfl) (Ffaw h _ F _ _ _ (H.W [] [] (by decide) rfl)) ?_;rintro _ _ ⟨rfl,G⟩;have H:=D.step (G.only:Only [] _ _);refine⟨_,rfl,?_⟩;have I:=H;obtain⟨d,q,c⟩:=yD c;refine xK rfl rfl (yE en193 rfl) (Fcfw E _ q _ _ _ (H.W [] [] (by decide) rfl)) ?_;rintro _ _ ⟨rfl,s⟩;have H:=I.step (s.only:Only [] _ _);refine⟨_,rfl,?_⟩;refine zA (.int .i64 d) ?_;refine(yP (zF (p _ _ ?_)));refine cZ λ_ j=>?_;refine zD ?_;refine zB (.int .i64 d) ?_;refine zB (.int .u64 h) ?_;refine zB (.int .i64 d) ?_;obtain⟨k,l,c⟩:=yD c;refine zK (sV (X:=zX) u279 sz241 rfl rfl l) ?_;refine zK (uZ (v:= .int .u64 k) one241 rfl (Cells.ix (e:=(Fl.int .u64)) (x:=zX) (H.V (i:=0) rfl).2.2 l)) ?_;obtain⟨t,u,c⟩:=aDc c;refine zK (bJ (aHl (a:=h) (b:=k) rfl rfl) u) ?_;have y:=H;obtain⟨z,A,c⟩:=yD c;refine xK rfl rfl (yE en194 rfl) (Fd9w t _ A _ _ _ (H.W [] [] (by decide) rfl)) ?_;rintro _ _ ⟨rfl,B⟩;have H:=y.step (B.only:Only [] _ _);refine⟨_,rfl,?_⟩;obtain⟨n,C,c⟩:=aDc c;refine zK (uG (a:=d) (b:=z) rfl rfl C) ?_;refine zA (.int .i64 n) ?_;refine(yP (zF (j _ _ ?_)));obtain rfl:=bBs c;refine(zH (aLc (v1:= .int .i64 n) rfl rfl ?_))
 exact⟨rfl,H.U [] (by decide)⟩
end Go.Proofs.YtnccbhdmemheeaaGreatDoor.E
