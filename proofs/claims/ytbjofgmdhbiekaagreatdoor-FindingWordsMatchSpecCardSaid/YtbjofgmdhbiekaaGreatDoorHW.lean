/- Laws that the claim stands on; no condition beyond those stated. -/
import Derived.Test.YtbjofgmdhbiekaaGreatDoorHPb
import Derived.Test.YtbjofgmdhbiekaaGreatDoorXVa
namespace Go.Proofs.YtbjofgmdhbiekaaGreatDoor.E
open Go.RowKit Go.OB Go.Lf
theorem u338:Tryz.prog.underlying 338=some (.array 20 250):=Tryz.underlying338
theorem sz250:Sz Tryz.prog 250 1:=by unfold Sz;kernel_rfl
theorem one250:aAs Tryz.prog 250:=by unfold aAs;kernel_rfl
theorem en178:Go.OB.Enters Tryz.prog 178:=⟨_,Tryz.func178,rfl,by kernel_rfl⟩
theorem en285:Go.OB.Enters Tryz.prog 285:=⟨_,Tryz.func285,rfl,by kernel_rfl⟩
theorem en286:Go.OB.Enters Tryz.prog 286:=⟨_,Tryz.func286,rfl,by kernel_rfl⟩
set_option maxHeartbeats 4000000 in
theorem Fbvw (d r:Int)(c:Fbv d=some r)(O S:List Nat)(w:World)(H:Hd O w w S []):
    Calls Tryz.prog 285 ([.int .i64 d]:List Value).toArray w λe w'=>e= .returned (.int .i64 r)/\Hd O w w' S []:=by
 unfold Fbv at c;refine sG 6 Tryz.func285 rfl rfl rfl ?_;refine xB λ_ f=>?_;refine zD ?_;refine zB (.int .i64 0) ?_;refine(yL (zG (f _ _ ?_)));refine xB λ_ g=>?_;refine zD ?_;refine zA (.int .i64 d) ?_;obtain⟨i,k,c⟩:=aCv c;refine zH (aCf (a:=d) (b:=78913) rfl rfl k) ?_;obtain⟨h,l,c⟩:=zX c;refine zH (vS (j:=i) (q:=18) rfl rfl l) ?_;refine zB (.int .i64 h) ?_;refine(yL (zG (g _ _ ?_)));obtain rfl:=aRk c;refine(zI (aKy (v1:= .int .i64 h) rfl rfl ?_));exact⟨rfl,H.U [] (by decide)⟩
set_option maxHeartbeats 4000000 in
theorem Fcfw (c:Bool) (r:Int) (a:Fcf c=some r) (O S:List Nat) (w:World) (H:Hd O w w S []):
    Calls Tryz.prog 286 ([.bool c]:List Value).toArray w λe w'=>e= .returned (.int .i64 r)/\Hd O w w' S []:=by
 unfold Fcf at a;refine sG 4 Tryz.func286 rfl rfl rfl ?_;refine xB λ_ d=>?_;refine zD ?_;refine zB (.int .i64 0) ?_;refine(yL (zG (d _ _ ?_)));refine xB λ_ f=>?_;refine xB λ_ g=>?_;refine zD ?_;refine zA (.bool c) ?_;refine(yL (zG (g _ _ ?_)));refine aEr (b:=c) rfl (λh=>?_) (λh=>?_);have a:=jX h a;refine xB λ_ i=>?_;refine zD ?_;refine zB (.int .i64 1) ?_;refine(yL (zG (i _ _ ?_)));obtain rfl:=aRk a;refine(zI (zF (aKy (v1:= .int .i64 1) rfl rfl ?_)));exact⟨rfl,H.U [] (by decide)⟩;have a:=jW h a;refine(yE (zG (f _ _ ?_)));refine xB λ_ j=>?_;refine zD ?_;refine zB (.int .i64 0) ?_;refine(yL (zG (j _ _ ?_)));obtain rfl:=aRk a;refine(zI (aKy (v1:= .int .i64 0) rfl rfl ?_));exact⟨rfl,H.U [] (by decide)⟩
set_option maxHeartbeats 4000000 in
theorem Fdhw (g r:Int)(c:Fdh g=some r)(O S:List Nat)(w:World)(H:Hd O w w S [.fz (.at 3 0 ((Fl.arr 20 (Fl.int .u64)).f yD))]):
    Calls Tryz.prog 258 ([.int .u64 g]:List Value).toArray w λe w'=>e= .returned (.int .i64 r)/\Hd O w w' S []:=by
 unfold Fdh at c;refine sG 15 Tryz.func258 rfl rfl rfl ?_;refine xB λ_ m=>?_;refine zD ?_;refine zB (.int .i64 0) ?_;refine(yL (zG (m _ _ ?_)));refine xB λ_ n=>?_;refine zD ?_;refine zA (.int .u64 g) ?_;have B:=H;obtain⟨C,D,c⟩:=zX c;refine xC rfl rfl (yY en178 rfl) (Fd6w g _ D _ _ _ (H.W [] [] (by decide) rfl)) ?_;rintro _ _ ⟨rfl,E⟩;have H:=B.step (E.only:Only [] _ _);refine⟨_,rfl,?_⟩;have F:=H;obtain⟨d,o,c⟩:=zX c;refine xC rfl rfl (yY en285 rfl) (Fbvw C _ o _ _ _ (H.W [] [] (by decide) rfl)) ?_;rintro _ _ ⟨rfl,p⟩;have H:=F.step (p.only:Only [] _ _);refine⟨_,rfl,?_⟩;refine zB (.int .i64 d) ?_;refine(yL (zG (n _ _ ?_)));refine xB λ_ h=>?_;refine zD ?_;refine zA (.int .i64 d) ?_;refine zA (.int .u64 g) ?_;refine zA (.int .i64 d) ?_;obtain⟨j,k,c⟩:=zX c;refine zH (xR (X:=yD) u338 sz250 rfl rfl k) ?_;refine zH (xM (v:= .int .u64 j) one250 rfl (Cells.ix (e:=(Fl.int .u64)) (x:=yD) (H.V (i:=0) rfl).2.2 k)) ?_;obtain⟨q,s,c⟩:=aCv c;refine zH (wF (Do_geq (a:=g) (b:=j) rfl rfl) s) ?_;have t:=H;obtain⟨u,y,c⟩:=zX c;refine xC rfl rfl (yY en286 rfl) (Fcfw q _ y _ _ _ (H.W [] [] (by decide) rfl)) ?_;rintro _ _ ⟨rfl,z⟩;have H:=t.step (z.only:Only [] _ _);refine⟨_,rfl,?_⟩;obtain⟨l,A,c⟩:=aCv c;refine zH (aBm (a:=d) (b:=u) rfl rfl A) ?_;refine zB (.int .i64 l) ?_;refine(yL (zG (h _ _ ?_)));obtain rfl:=aRk c;refine(zI (aKy (v1:= .int .i64 l) rfl rfl ?_))
 exact⟨rfl,H.U [] (by decide)⟩
end Go.Proofs.YtbjofgmdhbiekaaGreatDoor.E
