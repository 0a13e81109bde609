/- Laws that the claim stands on; no condition beyond those stated. -/
import Derived.Test.YtbjofgmdhbiekaaGreatDoorHPb
import Derived.Test.YtbjofgmdhbiekaaGreatDoorXVa
namespace Go.Proofs.YtbjofgmdhbiekaaGreatDoor.E
open Go.RowKit Go.OB Go.Lf
theorem u338:Tryz.prog.underlying 338=some (.array 20 250):=Tryz.underlying338
theorem sz250:Sz Tryz.prog 250 1:=by unfold Sz;kernel_rfl
theorem one250:aAo Tryz.prog 250:=by unfold aAo;kernel_rfl
theorem en178:Go.OB.Enters Tryz.prog 178:=⟨_,Tryz.func178,rfl,by kernel_rfl⟩
theorem en285:Go.OB.Enters Tryz.prog 285:=⟨_,Tryz.func285,rfl,by kernel_rfl⟩
theorem en286:Go.OB.Enters Tryz.prog 286:=⟨_,Tryz.func286,rfl,by kernel_rfl⟩
set_option maxHeartbeats 4000000 in
theorem Fbxw (d r:Int)(c:Fbx d=some r)(O S:List Nat)(w:World)(H:Hd O w w S []):
    Calls Tryz.prog 285 ([.int .i64 d]:List Value).toArray w λe w'=>e= .returned (.int .i64 r)/\Hd O w w' S []:=by
 unfold Fbx at c;refine rE 6 Tryz.func285 rfl rfl rfl ?_;refine xB λ_ f=>?_;refine zD ?_;refine zB (.int .i64 0) ?_;refine(yL (zG (f _ _ ?_)));refine xB λ_ g=>?_;refine zD ?_;refine zA (.int .i64 d) ?_;obtain⟨i,k,c⟩:=aCs c;refine zJ (aCb (a:=d) (b:=78913) rfl rfl k) ?_;obtain⟨h,m,c⟩:=yA c;refine zJ (mQ (j:=i) (q:=18) rfl rfl m) ?_;refine zB (.int .i64 h) ?_;refine(yL (zG (g _ _ ?_)));obtain rfl:=aSg c;refine(zH (aJm (v1:= .int .i64 h) rfl rfl ?_));exact⟨rfl,H.U [] (by decide)⟩
set_option maxHeartbeats 4000000 in
theorem Fdhw (c:Bool) (r:Int) (a:Fdh c=some r) (O S:List Nat) (w:World) (H:Hd O w w S []):
    Calls Tryz.prog 286 ([.bool c]:List Value).toArray w λe w'=>e= .returned (.int .i64 r)/\Hd O w w' S []:=by
 unfold Fdh at a;refine rE 4 Tryz.func286 rfl rfl rfl ?_;refine xB λ_ d=>?_;refine zD ?_;refine zB (.int .i64 0) ?_;refine(yL (zG (d _ _ ?_)));refine xB λ_ f=>?_;refine xB λ_ g=>?_;refine zD ?_;refine zA (.bool c) ?_;refine(yL (zG (g _ _ ?_)));refine aDg (b:=c) rfl (λh=>?_) (λh=>?_);have a:=jG h a;refine xB λ_ i=>?_;refine zD ?_;refine zB (.int .i64 1) ?_;refine(yL (zG (i _ _ ?_)));obtain rfl:=aSg a;refine(zH (zF (aJm (v1:= .int .i64 1) rfl rfl ?_)));exact⟨rfl,H.U [] (by decide)⟩;have a:=jJ h a;refine(yE (zG (f _ _ ?_)));refine xB λ_ j=>?_;refine zD ?_;refine zB (.int .i64 0) ?_;refine(yL (zG (j _ _ ?_)));obtain rfl:=aSg a;refine(zH (aJm (v1:= .int .i64 0) rfl rfl ?_));exact⟨rfl,H.U [] (by decide)⟩
set_option maxHeartbeats 4000000 in
theorem Fdcw (g r:Int)(c:Fdc g=some r)(O S:List Nat)(w:World)(H:Hd O w w S [.fz (.at 3 0 ((Fl.arr 20 (Fl.int .u64)).f yD))]):
    Calls Tryz.prog 258 ([.int .u64 g]:List Value).toArray w λe w'=>e= .returned (.int .i64 r)/\Hd O w w' S []:=by
 unfold Fdc at c;refine rE 15 Tryz.func258 rfl rfl rfl ?_;refine xB λ_ n=>?_;refine zD ?_;refine zB (.int .i64 0) ?_;refine(yL (zG (n _ _ ?_)));refine xB λ_ o=>?_;refine zD ?_;refine zA (.int .u64 g) ?_;have C:=H;obtain⟨D,E,c⟩:=yA c;refine xC rfl rfl (yR en178 rfl) (Fdnw g _ E _ _ _ (H.W [] [] (by decide) rfl)) ?_;rintro _ _ ⟨rfl,F⟩;have H:=C.step (F.only:Only [] _ _);refine⟨_,rfl,?_⟩;have G:=H;obtain⟨d,p,c⟩:=yA c;refine xC rfl rfl (yR en285 rfl) (Fbxw D _ p _ _ _ (H.W [] [] (by decide) rfl)) ?_;rintro _ _ ⟨rfl,q⟩;have H:=G.step (q.only:Only [] _ _);refine⟨_,rfl,?_⟩;refine zB (.int .i64 d) ?_;refine(yL (zG (o _ _ ?_)));refine xB λ_ h=>?_;refine zD ?_;refine zA (.int .i64 d) ?_;refine zA (.int .u64 g) ?_;refine zA (.int .i64 d) ?_;obtain⟨j,k,c⟩:=yA c;refine zJ (xR (X:=yD) u338 sz250 rfl rfl k) ?_;refine zJ (xK (v:= .int .u64 j) one250 rfl (Cells.ix (e:=(Fl.int .u64)) (x:=yD) (H.V (i:=0) rfl).2.2 k)) ?_;obtain⟨s,t,c⟩:=aCs c;refine zJ (xX (Do_geq (a:=g) (b:=j) rfl rfl) t) ?_;have u:=H;obtain⟨y,z,c⟩:=yA c;refine xC rfl rfl (yR en286 rfl) (Fdhw s _ z _ _ _ (H.W [] [] (by decide) rfl)) ?_;rintro _ _ ⟨rfl,A⟩;have H:=u.step (A.only:Only [] _ _);refine⟨_,rfl,?_⟩;obtain⟨m,B,c⟩:=aCs c;refine zJ (nR (a:=d) (b:=y) rfl rfl B) ?_;refine zB (.int .i64 m) ?_;refine(yL (zG (h _ _ ?_)));obtain rfl:=aSg c;refine(zH (aJm (v1:= .int .i64 m) rfl rfl ?_))
 exact⟨rfl,H.U [] (by decide)⟩
end Go.Proofs.YtbjofgmdhbiekaaGreatDoor.E
