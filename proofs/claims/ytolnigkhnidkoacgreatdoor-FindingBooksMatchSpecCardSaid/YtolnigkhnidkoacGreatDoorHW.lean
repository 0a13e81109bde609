/- Laws that the claim stands on; no condition beyond those stated. -/
import Derived.Test.YtolnigkhnidkoacGreatDoorHPb
import Derived.Test.YtolnigkhnidkoacGreatDoorXVa
namespace Go.Proofs.YtolnigkhnidkoacGreatDoor.E
open Go.RowKit Go.OB Go.Lf
theorem u274:Tryz.prog.underlying 274=some (.array 20 205):=Tryz.underlying274
theorem sz205:Sz Tryz.prog 205 1:=by unfold Sz;kernel_rfl
theorem one205:aBh Tryz.prog 205:=by unfold aBh;kernel_rfl
theorem en223:Go.OB.Enters Tryz.prog 223:=⟨_,Tryz.func223,rfl,by kernel_rfl⟩
theorem en224:Go.OB.Enters Tryz.prog 224:=⟨_,Tryz.func224,rfl,by kernel_rfl⟩
theorem en225:Go.OB.Enters Tryz.prog 225:=⟨_,Tryz.func225,rfl,by kernel_rfl⟩
set_option maxHeartbeats 4000000 in
theorem Fbuw (d r:Int)(c:Fbu d=some r)(O S:List Nat)(w:World)(H:Hd O w w S []):
    Calls Tryz.prog 223 ([.int .i64 d]:List Value).toArray w λe w'=>e= .returned (.int .i64 r)/\Hd O w w' S []:=by
 unfold Fbu at c;refine sQ 6 Tryz.func223 rfl rfl rfl ?_;refine yZ λ_ f=>?_;refine zD ?_;refine zB (.int .i64 0) ?_;refine(yN (zG (f _ _ ?_)));refine yZ λ_ g=>?_;refine zD ?_;refine zA (.int .i64 d) ?_;obtain⟨i,k,c⟩:=aDi c;refine zH (aCi (a:=d) (b:=78913) rfl rfl k) ?_;obtain⟨h,l,c⟩:=yC c;refine zH (uX (j:=i) (q:=18) rfl rfl l) ?_;refine zB (.int .i64 h) ?_;refine(yN (zG (g _ _ ?_)));obtain rfl:=aRu c;refine(zJ (aMe (v1:= .int .i64 h) rfl rfl ?_));exact⟨rfl,H.U [] (by decide)⟩
set_option maxHeartbeats 4000000 in
theorem Fdxw (c:Bool) (r:Int) (a:Fdx c=some r) (O S:List Nat) (w:World) (H:Hd O w w S []):
    Calls Tryz.prog 225 ([.bool c]:List Value).toArray w λe w'=>e= .returned (.int .i64 r)/\Hd O w w' S []:=by
 unfold Fdx at a;refine sQ 4 Tryz.func225 rfl rfl rfl ?_;refine yZ λ_ d=>?_;refine zD ?_;refine zB (.int .i64 0) ?_;refine(yN (zG (d _ _ ?_)));refine yZ λ_ f=>?_;refine yZ λ_ g=>?_;refine zD ?_;refine zA (.bool c) ?_;refine(yN (zG (g _ _ ?_)));refine aEu (b:=c) rfl (λh=>?_) (λh=>?_);have a:=kM h a;refine yZ λ_ i=>?_;refine zD ?_;refine zB (.int .i64 1) ?_;refine(yN (zG (i _ _ ?_)));obtain rfl:=aRu a;refine(zJ (zF (aMe (v1:= .int .i64 1) rfl rfl ?_)));exact⟨rfl,H.U [] (by decide)⟩;have a:=kL h a;refine(yI (zG (f _ _ ?_)));refine yZ λ_ j=>?_;refine zD ?_;refine zB (.int .i64 0) ?_;refine(yN (zG (j _ _ ?_)));obtain rfl:=aRu a;refine(zJ (aMe (v1:= .int .i64 0) rfl rfl ?_));exact⟨rfl,H.U [] (by decide)⟩
set_option maxHeartbeats 4000000 in
theorem Fcqw (g r:Int)(c:Fcq g=some r)(O S:List Nat)(w:World)(H:Hd O w w S [.fz (.at 1 0 ((Fl.arr 20 (Fl.int .u64)).f zZ))]):
    Calls Tryz.prog 186 ([.int .u64 g]:List Value).toArray w λe w'=>e= .returned (.int .i64 r)/\Hd O w w' S []:=by
 unfold Fcq at c;refine sQ 15 Tryz.func186 rfl rfl rfl ?_;refine yZ λ_ m=>?_;refine zD ?_;refine zB (.int .i64 0) ?_;refine(yN (zG (m _ _ ?_)));refine yZ λ_ n=>?_;refine zD ?_;refine zA (.int .u64 g) ?_;have B:=H;obtain⟨C,D,c⟩:=yC c;refine xP rfl rfl (yK en224 rfl) (Fd2w g _ D _ _ _ (H.W [] [] (by decide) rfl)) ?_;rintro _ _ ⟨rfl,E⟩;have H:=B.step (E.only:Only [] _ _);refine⟨_,rfl,?_⟩;have F:=H;obtain⟨d,o,c⟩:=yC c;refine xP rfl rfl (yK en223 rfl) (Fbuw C _ o _ _ _ (H.W [] [] (by decide) rfl)) ?_;rintro _ _ ⟨rfl,p⟩;have H:=F.step (p.only:Only [] _ _);refine⟨_,rfl,?_⟩;refine zB (.int .i64 d) ?_;refine(yN (zG (n _ _ ?_)));refine yZ λ_ h=>?_;refine zD ?_;refine zA (.int .i64 d) ?_;refine zA (.int .u64 g) ?_;refine zA (.int .i64 d) ?_;obtain⟨j,k,c⟩:=yC c;refine zH (xN (X:=zZ) u274 sz205 rfl rfl k) ?_;refine zH (xK (v:= .int .u64 j) one205 rfl (Cells.ix (e:=(Fl.int .u64)) (x:=zZ) (H.V (i:=0) rfl).2.2 k)) ?_;obtain⟨q,s,c⟩:=aDi c;refine zH (wC (Do_geq (a:=g) (b:=j) rfl rfl) s) ?_;have t:=H;obtain⟨u,y,c⟩:=yC c;refine xP rfl rfl (yK en225 rfl) (Fdxw q _ y _ _ _ (H.W [] [] (by decide) rfl)) ?_;rintro _ _ ⟨rfl,z⟩;have H:=t.step (z.only:Only [] _ _);refine⟨_,rfl,?_⟩;obtain⟨l,A,c⟩:=aDi c;refine zH (aBs (a:=d) (b:=u) rfl rfl A) ?_;refine zB (.int .i64 l) ?_;refine(yN (zG (h _ _ ?_)));obtain rfl:=aRu c;refine(zJ (aMe (v1:= .int .i64 l) rfl rfl ?_))
 exact⟨rfl,H.U [] (by decide)⟩
end Go.Proofs.YtolnigkhnidkoacGreatDoor.E
