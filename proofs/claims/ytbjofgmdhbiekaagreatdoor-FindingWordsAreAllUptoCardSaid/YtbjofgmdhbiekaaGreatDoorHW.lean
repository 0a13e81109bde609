/- Laws that the claim stands on; no condition beyond those stated. -/
import Derived.Test.YtbjofgmdhbiekaaGreatDoorHPb
import Derived.Test.YtbjofgmdhbiekaaGreatDoorXVa
namespace Go.Proofs.YtbjofgmdhbiekaaGreatDoor.E
open Go.RowKit Go.OB Go.Lf
theorem u338:Tryz.prog.underlying 338=some (.array 20 250):=Tryz.underlying338
theorem sz250:Sz Tryz.prog 250 1:=by unfold Sz;kernel_rfl
theorem one250:aAs Tryz.prog 250:=by unfold aAs;kernel_rfl
theorem en178:Go.OB.Enters Tryz.prog 178:=⟨_,Tryz.func178,rfl,by kernel_rfl⟩
theorem en285:Go.OB.Enters Tryz.prog 285:=⟨_,Tryz.func285,rfl,by kernel_rfl⟩
theorem en286:Go.OB.Enters Tryz.prog 286:=⟨_,Tryz.func286,rfl,by kernel_rfl⟩
set_option maxHeartbeats 4000000 in
theorem Fbhw (d r:Int)(c:Fbh d=some r)(O S:List Nat)(w:World)(H:Hd O w w S []):
    Calls Tryz.prog 285 ([.int .i64 d]:List Value).toArray w λe w'=>e= .returned (.int .i64 r)/\Hd O w w' S []:=by
 unfold Fbh at c;refine rJ 6 Tryz.func285 rfl rfl rfl ?_;refine yX λ_ f=>?_;refine zF ?_;refine zB (.int .i64 0) ?_;refine(yU (zJ (f _ _ ?_)));refine yX λ_ g=>?_;refine zF ?_;refine zA (.int .i64 d) ?_;obtain⟨i,k,c⟩:=aCl c;refine zI (aBp (a:=d) (b:=78913) rfl rfl k) ?_;obtain⟨h,l,c⟩:=zX c;refine zI (aEf (j:=i) (q:=18) rfl rfl l) ?_;refine zB (.int .i64 h) ?_;refine(yU (zJ (g _ _ ?_)));obtain rfl:=aRr c;refine(zH (aKp (v1:= .int .i64 h) rfl rfl ?_));exact⟨rfl,H.U [] (by decide)⟩
set_option maxHeartbeats 4000000 in
theorem Fc5w (c:Bool) (r:Int) (a:Fc5 c=some r) (O S:List Nat) (w:World) (H:Hd O w w S []):
    Calls Tryz.prog 286 ([.bool c]:List Value).toArray w λe w'=>e= .returned (.int .i64 r)/\Hd O w w' S []:=by
 unfold Fc5 at a;refine rJ 4 Tryz.func286 rfl rfl rfl ?_;refine yX λ_ d=>?_;refine zF ?_;refine zB (.int .i64 0) ?_;refine(yU (zJ (d _ _ ?_)));refine yX λ_ f=>?_;refine yX λ_ g=>?_;refine zF ?_;refine zA (.bool c) ?_;refine(yU (zJ (g _ _ ?_)));refine aDi (b:=c) rfl (λh=>?_) (λh=>?_);have a:=vN h a;refine yX λ_ i=>?_;refine zF ?_;refine zB (.int .i64 1) ?_;refine(yU (zJ (i _ _ ?_)));obtain rfl:=aRr a;refine(zH (zG (aKp (v1:= .int .i64 1) rfl rfl ?_)));exact⟨rfl,H.U [] (by decide)⟩;have a:=vV h a;refine(yI (zJ (f _ _ ?_)));refine yX λ_ j=>?_;refine zF ?_;refine zB (.int .i64 0) ?_;refine(yU (zJ (j _ _ ?_)));obtain rfl:=aRr a;refine(zH (aKp (v1:= .int .i64 0) rfl rfl ?_));exact⟨rfl,H.U [] (by decide)⟩
set_option maxHeartbeats 4000000 in
theorem Fdlw (g r:Int)(c:Fdl g=some r)(O S:List Nat)(w:World)(H:Hd O w w S [.fz (.at 3 0 ((Fl.arr 20 (Fl.int .u64)).f yA))]):
    Calls Tryz.prog 258 ([.int .u64 g]:List Value).toArray w λe w'=>e= .returned (.int .i64 r)/\Hd O w w' S []:=by
 unfold Fdl at c;refine rJ 15 Tryz.func258 rfl rfl rfl ?_;refine yX λ_ m=>?_;refine zF ?_;refine zB (.int .i64 0) ?_;refine(yU (zJ (m _ _ ?_)));refine yX λ_ n=>?_;refine zF ?_;refine zA (.int .u64 g) ?_;have B:=H;obtain⟨C,D,c⟩:=zX c;refine yY rfl rfl (xE en178 rfl) (Fb9w g _ D _ _ _ (H.W [] [] (by decide) rfl)) ?_;rintro _ _ ⟨rfl,E⟩;have H:=B.step (E.only:Only [] _ _);refine⟨_,rfl,?_⟩;have F:=H;obtain⟨d,o,c⟩:=zX c;refine yY rfl rfl (xE en285 rfl) (Fbhw C _ o _ _ _ (H.W [] [] (by decide) rfl)) ?_;rintro _ _ ⟨rfl,p⟩;have H:=F.step (p.only:Only [] _ _);refine⟨_,rfl,?_⟩;refine zB (.int .i64 d) ?_;refine(yU (zJ (n _ _ ?_)));refine yX λ_ h=>?_;refine zF ?_;refine zA (.int .i64 d) ?_;refine zA (.int .u64 g) ?_;refine zA (.int .i64 d) ?_;obtain⟨j,k,c⟩:=zX c;refine zI (dO (X:=yA) u338 sz250 rfl rfl k) ?_;refine zI (dL (v:= .int .u64 j) one250 rfl (Cells.ix (e:=(Fl.int .u64)) (x:=yA) (H.V (i:=0) rfl).2.2 k)) ?_;obtain⟨q,s,c⟩:=aCl c;refine zI (aT (Do_geq (a:=g) (b:=j) rfl rfl) s) ?_;have t:=H;obtain⟨u,y,c⟩:=zX c;refine yY rfl rfl (xE en286 rfl) (Fc5w q _ y _ _ _ (H.W [] [] (by decide) rfl)) ?_;rintro _ _ ⟨rfl,z⟩;have H:=t.step (z.only:Only [] _ _);refine⟨_,rfl,?_⟩;obtain⟨l,A,c⟩:=aCl c;refine zI (aBu (a:=d) (b:=u) rfl rfl A) ?_;refine zB (.int .i64 l) ?_;refine(yU (zJ (h _ _ ?_)));obtain rfl:=aRr c;refine(zH (aKp (v1:= .int .i64 l) rfl rfl ?_))
 exact⟨rfl,H.U [] (by decide)⟩
end Go.Proofs.YtbjofgmdhbiekaaGreatDoor.E
