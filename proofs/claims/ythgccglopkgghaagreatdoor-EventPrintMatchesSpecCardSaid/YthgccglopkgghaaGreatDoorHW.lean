/- Laws that the claim stands on; no condition beyond those stated. -/
import Derived.Test.YthgccglopkgghaaGreatDoorHPb
import Derived.Test.YthgccglopkgghaaGreatDoorXVa
namespace Go.Proofs.YthgccglopkgghaaGreatDoor.E
open Go.RowKit Go.OB Go.Lf
theorem u146:Tryz.prog.underlying 146=some (.array 20 120):=Tryz.underlying146
theorem sz120:Sz Tryz.prog 120 1:=by unfold Sz;kernel_rfl
theorem one120:uN Tryz.prog 120:=by unfold uN;kernel_rfl
theorem en127:Go.OB.Enters Tryz.prog 127:=⟨_,Tryz.func127,rfl,by kernel_rfl⟩
theorem en128:Go.OB.Enters Tryz.prog 128:=⟨_,Tryz.func128,rfl,by kernel_rfl⟩
theorem en129:Go.OB.Enters Tryz.prog 129:=⟨_,Tryz.func129,rfl,by kernel_rfl⟩
set_option maxHeartbeats 4000000 in
theorem Fcmw (d r:Int)(c:Fcm d=some r)(O S:List Nat)(w:World)(H:Hd O w w S []):
    Calls Tryz.prog 127 ([.int .i64 d]:List Value).toArray w λe w'=>e= .returned (.int .i64 r)/\Hd O w w' S []:=by
 unfold Fcm at c;refine aO 6 Tryz.func127 rfl rfl rfl ?_;refine yI λ_ f=>?_;refine zF ?_;refine zC (.int .i64 0) ?_;refine(yH (zK (f _ _ ?_)));refine yI λ_ g=>?_;refine zF ?_;refine zB (.int .i64 d) ?_;obtain⟨i,k,c⟩:=tN c;refine zM (Do_mul (a:=d) (b:=78913) rfl rfl k) ?_;obtain⟨h,l,c⟩:=yA c;refine zM (Do_shr' (j:=i) (q:=18) rfl rfl l) ?_;refine zC (.int .i64 h) ?_;refine(yH (zK (g _ _ ?_)));obtain rfl:=aJo c;refine(zJ (pI (v1:= .int .i64 h) rfl rfl ?_));exact⟨rfl,H.U [] (by decide)⟩
set_option maxHeartbeats 4000000 in
theorem Fdsw (c:Bool) (r:Int) (a:Fds c=some r) (O S:List Nat) (w:World) (H:Hd O w w S []):
    Calls Tryz.prog 129 ([.bool c]:List Value).toArray w λe w'=>e= .returned (.int .i64 r)/\Hd O w w' S []:=by
 unfold Fds at a;refine aO 4 Tryz.func129 rfl rfl rfl ?_;refine yI λ_ d=>?_;refine zF ?_;refine zC (.int .i64 0) ?_;refine(yH (zK (d _ _ ?_)));refine yI λ_ f=>?_;refine yI λ_ g=>?_;refine zF ?_;refine zB (.bool c) ?_;refine(yH (zK (g _ _ ?_)));refine mX (b:=c) rfl (λh=>?_) (λh=>?_);have a:=wO h a;refine yI λ_ i=>?_;refine zF ?_;refine zC (.int .i64 1) ?_;refine(yH (zK (i _ _ ?_)));obtain rfl:=aJo a;refine(zJ (zG (pI (v1:= .int .i64 1) rfl rfl ?_)));exact⟨rfl,H.U [] (by decide)⟩;have a:=wQ h a;refine(yN (zK (f _ _ ?_)));refine yI λ_ j=>?_;refine zF ?_;refine zC (.int .i64 0) ?_;refine(yH (zK (j _ _ ?_)));obtain rfl:=aJo a;refine(zJ (pI (v1:= .int .i64 0) rfl rfl ?_));exact⟨rfl,H.U [] (by decide)⟩
set_option maxHeartbeats 4000000 in
theorem Fdrw (g r:Int)(c:Fdr g=some r)(O S:List Nat)(w:World)(H:Hd O w w S [.fz (.at 1 0 ((Fl.arr 20 (Fl.int .u64)).f zD))]):
    Calls Tryz.prog 114 ([.int .u64 g]:List Value).toArray w λe w'=>e= .returned (.int .i64 r)/\Hd O w w' S []:=by
 unfold Fdr at c;refine aO 15 Tryz.func114 rfl rfl rfl ?_;refine yI λ_ m=>?_;refine zF ?_;refine zC (.int .i64 0) ?_;refine(yH (zK (m _ _ ?_)));refine yI λ_ n=>?_;refine zF ?_;refine zB (.int .u64 g) ?_;have B:=H;obtain⟨C,D,c⟩:=yA c;refine eP rfl rfl (zW en128 rfl) (Fdkw g _ D _ _ _ (H.W [] [] (by decide) rfl)) ?_;rintro _ _ ⟨rfl,E⟩;have H:=B.step (E.only:Only [] _ _);refine⟨_,rfl,?_⟩;have F:=H;obtain⟨d,o,c⟩:=yA c;refine eP rfl rfl (zW en127 rfl) (Fcmw C _ o _ _ _ (H.W [] [] (by decide) rfl)) ?_;rintro _ _ ⟨rfl,p⟩;have H:=F.step (p.only:Only [] _ _);refine⟨_,rfl,?_⟩;refine zC (.int .i64 d) ?_;refine(yH (zK (n _ _ ?_)));refine yI λ_ h=>?_;refine zF ?_;refine zB (.int .i64 d) ?_;refine zB (.int .u64 g) ?_;refine zB (.int .i64 d) ?_;obtain⟨j,k,c⟩:=yA c;refine zM (aEf (X:=zD) u146 sz120 rfl rfl k) ?_;refine zM (aBv (v:= .int .u64 j) one120 rfl (Cells.ix (e:=(Fl.int .u64)) (x:=zD) (H.V (i:=0) rfl).2.2 k)) ?_;obtain⟨q,s,c⟩:=tN c;refine zM (tC (aJc (a:=g) (b:=j) rfl rfl) s) ?_;have t:=H;obtain⟨u,y,c⟩:=yA c;refine eP rfl rfl (zW en129 rfl) (Fdsw q _ y _ _ _ (H.W [] [] (by decide) rfl)) ?_;rintro _ _ ⟨rfl,z⟩;have H:=t.step (z.only:Only [] _ _);refine⟨_,rfl,?_⟩;obtain⟨l,A,c⟩:=tN c;refine zM (qU (a:=d) (b:=u) rfl rfl A) ?_;refine zC (.int .i64 l) ?_;refine(yH (zK (h _ _ ?_)));obtain rfl:=aJo c;refine(zJ (pI (v1:= .int .i64 l) rfl rfl ?_))
 exact⟨rfl,H.U [] (by decide)⟩
end Go.Proofs.YthgccglopkgghaaGreatDoor.E
