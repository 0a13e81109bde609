/- Walks: what each function computes, for every argument; no condition but those that stand in the statements. -/
import Derived.Test.YtgmikmoapfmedaaGreatDoorVV0
import Derived.Test.YtgmikmoapfmedaaGreatDoorVV1
import Derived.Test.YtgmikmoapfmedaaGreatDoorVV3
namespace Go.Proofs.YtgmikmoapfmedaaGreatDoor.L
open Go.RowKit Go.OB Go.Lf
set_option maxHeartbeats 4000000
theorem Fbrw (f:List Str)(d:Str)(v1:Value)(r:Bool)(c:Fbr f d=some r)(O S:List Nat)(w:World)(H:Hd O w w S [f1 Rp.str v1 f]):
  Cl 61 [v1,sb d] w fun e h=>e= .returned (.bool r)∧Hd O w h S []:=by
 unfold Fbr at c
 refine CW 9 Tryz.func61 ?_
 refine zB fun p i=>zA<| zI (.bool false)<| RN i<| zB fun q j=>zA<| zH v1<| zH (sb d) ?_
 have k:=H
 obtain ⟨l,m,c⟩:=zC c
 refine zS rfl rfl (zN en90 rfl) (Fbxw f d v1 _ m _ _ _ (H.enter [] [0])) ?_
 rintro _ s ⟨rfl,n⟩
 have H:=k.step (n.only:Only [] _ _)
 refine ⟨_,rfl,?_⟩
 obtain ⟨g,o,c⟩:=zD c
 refine zG (zM (bG (a:=l) (b:=0) rfl rfl) o)<| zI (.bool g)<| RN j ?_
 obtain rfl:=gJ c
 refine (zZ (fB (v1:= .bool g) rfl rfl ?_))
 exact ⟨rfl,H.pick []⟩
set_option maxRecDepth 100000 in
theorem Fanw (h:List gV)(k:List Str)(v1:Value)(d:Value)(r:Int)(c:Fan h k=some r)(O S:List Nat)(w:World)(H:Hd O w w S [f1 fE v1 h,f1 Rp.str d k]):
  Cl 32 [v1,d] w fun e j=>e= .returned (i6 r)∧Hd O w j S []:=by
 unfold Fan at c
 refine CW 64 Tryz.func32 ?_
 refine zB fun K5 Y=>zA<| zI (i6 0)<| RN Y<| zB fun d3 Z=>zB fun d4 aa=>zA<| zH d ?_
 obtain ⟨ab,ac,c⟩:=zD c
 obtain ⟨d5,d6,ad⟩:=SlF.len ((H.item (i:=1) rfl))
 refine zG (yK (xK u36 ad) (congrArg (Value.int .i64) ac)) ?_
 obtain ⟨ae,af,c⟩:=zD c
 refine zG (zM (dG (a:=ab) (b:=3) rfl rfl) af)<| RN aa<| yB (b:=ae) rfl (fun p=>?_) (fun p=>?_)
 ·have c:=zU p c
  refine zB fun d7 ag=>zA<| zI (i6 2)<| RN ag ?_
  obtain rfl:=gJ c
  refine (zZ (zW (fB (v1:=i6 2) rfl rfl ?_)))
  exact ⟨rfl,H.pick []⟩
 have c:=zV p c
 refine zQ (zF (Z _ _ ?_))
 obtain ⟨ah,ai,c⟩:=xJ c
 refine yH [4,6,14,15,16,17,18,19,20,21,22,23,24] (fun (g:Unit)=>[]) (fun g wl=>Hd O w wl S [f1 fE v1 h,f1 Rp.str d k]∧ah ()=some r) ?_ ?_
 ·skip
  refine zB fun d8 aj=>zA<| zH d ?_
  obtain ⟨ak,al,c⟩:=zD c
  obtain ⟨d9,ea,am⟩:=SlF.len ((H.item (i:=1) rfl))
  refine zG (yK (xK u36 am) (congrArg (Value.int .i64) al))<| zH (i6 0)<| RN aj<| zY ?_
  unfold Fdm at c
  obtain ⟨an,I,ao,c⟩:=yF c
  refine xA [4,6,16,17,18,19,20,21,22,23,24] (fun (g:Nat×Int)=>[(16,i6 g.2)]) (fun g wl=>Hd O w wl S [f1 fE v1 h,f1 Rp.str d k]∧fF an g.1 g.2=some r) (fun g=>g.1) (I,0) (zJ rfl zK) ⟨H.pick [0,1],c⟩ ?_
  clear H c
  rintro ⟨I,q⟩ ρ eb ⟨H,c⟩
  obtain ⟨ap,rfl,c⟩:=yN c
  have c:=yO ao c
  refine zB fun ec aq=>zA ?_
  obtain ⟨ar,au,c⟩:=zD c
  refine zG (zM (xG (a:=q) (b:=ak) rfl rfl) au)<| RN aq<| zB fun ed av=>yB (b:=ar) rfl (fun s=>?_) (fun s=>?_)
  ·have c:=zU s c
   refine zQ (zF (av _ _ ?_))
   refine zB fun ee aw=>?_
   refine zY ?_
   refine zB fun ef ax=>zA ?_
   obtain ⟨m,t,c⟩:=zC c
   obtain ⟨ay,az,eg,a0,a1,a2,a3,a4,a5⟩:=xY (H.item (i:=1) rfl) t
   obtain rfl:a0= [sb m]:=a2
   have H:=H.fz (.at ay (az+q.toNat * 1) _) ⟨a3,a4,a5⟩
   refine zG (yV u36 sz9 a1 rfl (zO t).1 (zO t).2.1 rfl rfl)<| zG (yU dQ rfl (Cells.get (H.item (i:=2) rfl).2.2 (i:=0) rfl))<| zI (sb m)<| RN ax<| zB fun eh a6=>zA<| zH v1<| zH (sb m) ?_
   have a7:=H
   obtain ⟨a8,a9,c⟩:=zC c
   refine zS rfl rfl (zN en20 rfl) (Faaw h m v1 _ a9 _ _ _ (H.enter [] [0])) ?_
   rintro _ ei ⟨rfl,ba⟩
   have H:=a7.step (ba.only:Only [] _ _)
   refine ⟨_,rfl,?_⟩
   obtain ⟨bb,bc,c⟩:=zD c
   refine zG (zM (xG (a:=a8) (b:=0) rfl rfl) bc)<| RN a6<| yB (b:=bb) rfl (fun u=>?_) (fun u=>?_)
   ·have c:=zU u c
    refine zB fun ej bd=>zA<| zI (i6 4)<| RN bd ?_
    obtain rfl:=gJ c
    refine (zZ (yG (zW (zW (yG (zW (fB (v1:=i6 4) rfl rfl ?_)))))))
    exact ⟨rfl,H.pick []⟩
   have c:=zV u c
   refine (zQ (yX (zF (aw _ _ ?_))))
   refine zA ?_
   obtain ⟨J,be,c⟩:=zD c
   refine zG (xM (a:=q) (b:=1) rfl rfl be)<| zH (i6 J) ?_
   exact (zX (zF (meet ⟨(ap,J),(zJ rfl zK),⟨H.pick [0,1],c⟩,Nat.lt_succ_self _⟩)))
  have c:=zV s c
  exact (xE (yC (yC (yQ (zF (meet ⟨(),zK,⟨H.pick [0,1],c⟩⟩))))))
 rintro _ ρ ek ⟨H,c⟩
 have c:=xO ai c
 obtain ⟨bf,bg,c⟩:=xJ c
 refine yH [4,7,8,25,26,27,28,29,30,31,32,33,34,35,36,37] (fun (g:Unit)=>[]) (fun g wl=>Hd O w wl S [f1 fE v1 h,f1 Rp.str d k]∧bf ()=some r) ?_ ?_
 ·skip
  refine zB fun el bh=>zA<| zH d ?_
  obtain ⟨bi,bj,c⟩:=zD c
  obtain ⟨em,en,bk⟩:=SlF.len ((H.item (i:=1) rfl))
  refine zG (yK (xK u36 bk) (congrArg (Value.int .i64) bj))<| zH (i6 0)<| RN bh<| zY ?_
  unfold Fcy at c
  obtain ⟨bl,K,bm,c⟩:=yF c
  refine xA [4,7,8,27,28,29,30,31,32,33,34,35,36,37] (fun (g:Nat×Int)=>[(27,i6 g.2)]) (fun g wl=>Hd O w wl S [f1 fE v1 h,f1 Rp.str d k]∧fF bl g.1 g.2=some r) (fun g=>g.1) (K,0) (zJ rfl zK) ⟨H.pick [0,1],c⟩ ?_
  clear H c
  rintro ⟨K,l⟩ ρ eo ⟨H,c⟩
  obtain ⟨bn,rfl,c⟩:=yN c
  have c:=yO bm c
  refine zB fun ep bo=>zA ?_
  obtain ⟨bp,bq,c⟩:=zD c
  refine zG (zM (xG (a:=l) (b:=bi) rfl rfl) bq)<| RN bo<| zB fun eq br=>yB (b:=bp) rfl (fun x=>?_) (fun x=>?_)
  ·have c:=zU x c
   refine zQ (zF (br _ _ ?_))
   refine zB fun er bt=>?_
   refine zY ?_
   refine zB fun es bu=>zA<| zH (i6 l) ?_
   obtain ⟨n,y,c⟩:=zC c
   obtain ⟨bv,bw,et,bx,bz,b0,b1,b2,b3⟩:=xY (H.item (i:=1) rfl) y
   obtain rfl:bx= [sb n]:=b0
   have H:=H.fz (.at bv (bw+l.toNat * 1) _) ⟨b1,b2,b3⟩
   refine zG (yV u36 sz9 bz rfl (zO y).1 (zO y).2.1 rfl rfl)<| zG (yU dQ rfl (Cells.get (H.item (i:=2) rfl).2.2 (i:=0) rfl))<| zI (i6 l)<| zI (sb n)<| RN bu<| zB fun eu b4=>zA<| zH d<| zH (i6 l) ?_
   obtain ⟨L,b5,c⟩:=zC c
   refine aAc rfl rfl (mO u36 sz9 (H.item (i:=1) rfl) rfl rfl b5) ?_
   rintro M b6
   have H:=H.fz (.sl Rp.str M L) b6
   refine zH (sb n) ?_
   have b7:=H
   obtain ⟨b8,b9,c⟩:=zC c
   refine zS rfl rfl (zN en61 rfl) (Fbrw L n M _ b9 _ _ _ (H.enter [] [3])) ?_
   rintro _ ew ⟨rfl,ca⟩
   have H:=b7.step (ca.only:Only [] _ _)
   refine ⟨_,rfl,?_⟩
   refine RN b4<| yB (b:=b8) rfl (fun z=>?_) (fun z=>?_)
   ·have c:=zU z c
    refine zB fun ex cb=>zA<| zI (i6 5)<| RN cb ?_
    obtain rfl:=gJ c
    refine (zZ (yG (zW (zW (yG (zW (fB (v1:=i6 5) rfl rfl ?_)))))))
    exact ⟨rfl,H.pick []⟩
   have c:=zV z c
   refine (zQ (yX (zF (bt _ _ ?_))))
   refine zA ?_
   obtain ⟨N,cc,c⟩:=zD c
   refine zG (xM (a:=l) (b:=1) rfl rfl cc)<| zH (i6 N) ?_
   exact (zX (zF (meet ⟨(bn,N),(zJ rfl zK),⟨H.pick [0,1],c⟩,Nat.lt_succ_self _⟩)))
  have c:=zV x c
  exact (xE (yC (yC (yQ (zF (meet ⟨(),zK,⟨H.pick [0,1],c⟩⟩))))))
 rintro _ ρ ey ⟨H,c⟩
 have c:=xO bg c
 obtain ⟨cd,ce,c⟩:=xJ c
 refine yH [4,10,38,39,40,41,42,43,44,45,46,47,48,49,50,51,52,53,54,55,56,57,58,59,60,61,62,63] (fun (g:Unit)=>[]) (fun g wl=>Hd O w wl S []∧cd ()=some r) ?_ ?_
 ·skip
  refine zB fun ez cf=>zA<| zH d ?_
  obtain ⟨cg,ch,c⟩:=zD c
  obtain ⟨e0,e1,ci⟩:=SlF.len ((H.item (i:=1) rfl))
  refine zG (yK (xK u36 ci) (congrArg (Value.int .i64) ch))<| zH (i6 0)<| RN cf<| zY ?_
  unfold Fbn at c
  obtain ⟨cj,P,ck,c⟩:=yF c
  refine xA [4,10,40,41,42,43,44,45,46,47,48,49,50,51,52,53,54,55,56,57,58,59,60,61,62,63] (fun (g:Nat×Int)=>[(40,i6 g.2)]) (fun g wl=>Hd O w wl S [f1 fE v1 h,f1 Rp.str d k]∧fF cj g.1 g.2=some r) (fun g=>g.1) (P,0) (zJ rfl zK) ⟨H.pick [0,1],c⟩ ?_
  clear H c
  rintro ⟨P,A⟩ ρ e2 ⟨H,c⟩
  obtain ⟨cl,rfl,c⟩:=yN c
  have c:=yO ck c
  refine zB fun e3 cm=>zA ?_
  obtain ⟨cn,co,c⟩:=zD c
  refine zG (zM (xG (a:=A) (b:=cg) rfl rfl) co)<| RN cm<| zB fun e4 cp=>yB (b:=cn) rfl (fun B=>?_) (fun B=>?_)
  ·have c:=zU B c
   refine zQ (zF (cp _ _ ?_))
   refine zB fun e5 cq=>?_
   refine zY ?_
   refine zB fun e6 cr=>zA ?_
   obtain ⟨o,C,c⟩:=zC c
   obtain ⟨cs,ct,e7,cu,cv,cw,cx,cy,cz⟩:=xY (H.item (i:=1) rfl) C
   obtain rfl:cu= [sb o]:=cw
   have H:=H.fz (.at cs (ct+A.toNat * 1) _) ⟨cx,cy,cz⟩
   refine zG (yV u36 sz9 cv rfl (zO C).1 (zO C).2.1 rfl rfl)<| zG (yU dQ rfl (Cells.get (H.item (i:=2) rfl).2.2 (i:=0) rfl))<| zI (sb o)<| RN cr<| zB fun e8 c0=>?_
   have c1:=H
   have H:=H.rebase
   have e9:=H
   refine WP_mix0 H [0,1,2,3,4,5,6,7,8,9,10,11,12,13,14,15,16,17,18] (kz [0,0,0,1,0,0,0,1,0,0,0,0,1,1,0,0,0,1,0]) mixed ?_
   refine XM v1<| XM v1<| XM (sb o) ?_
   have c2:=H
   obtain ⟨Q,c3,c⟩:=zC c
   refine MxM.XL_call oS rfl rfl rfl (v:=i6 Q) (fun j f=>zN en20 rfl) (fun j f=>bY (Faaw h o v1 _ c3 _ _ _ ((H.sees f).enter [] [0]))) ?_
   have H:=c2
   obtain ⟨R,D,c⟩:=zC c
   obtain ⟨c4,c5,fa,fb,c6,c7,c8,c9,da⟩:=xY (H.item (i:=0) rfl) D
   obtain ⟨db,rfl,dc⟩:=xU c7
   have H:=H.fzs [.at c4 (c5+Q.toNat * 4) _,.sl gX db R.Series.Samples] ⟨⟨c8,c9,da⟩,dc,trivial⟩
   refine XP (fun _ _=>yV u22 eF c6 rfl (zO D).1 (zO D).2.1 rfl rfl)<| XP (fun _ _=>aY rfl)<| XP (fun _ _=>nC rfl)<| MxM.xP oS rfl rfl rfl (fun j f=>yU fK rfl (Cells.get ((H.sees f).item (i:=3) rfl).2.2 (i:=1) rfl))<| XM v1<| XM v1<| XM d ?_
   obtain ⟨T,E,c⟩:=zC c
   obtain ⟨dd,de,fc,df,dg,dh,di,dj,dk⟩:=xY (H.item (i:=1) rfl) E
   obtain rfl:df= [sb T]:=dh
   have H:=H.fz (.at dd (de+(0:Int).toNat * 1) _) ⟨di,dj,dk⟩
   refine XP (fun _ _=>yV u36 sz9 dg rfl (zO E).1 (zO E).2.1 rfl rfl)<| MxM.xP oS rfl rfl rfl (fun j f=>yU dQ rfl (Cells.get ((H.sees f).item (i:=5) rfl).2.2 (i:=0) rfl)) ?_
   have dl:=H
   obtain ⟨U,dm,c⟩:=zC c
   refine MxM.XL_call oS rfl rfl rfl (v:=i6 U) (fun j f=>zN en20 rfl) (fun j f=>bY (Faaw h T v1 _ dm _ _ _ ((H.sees f).enter [] [0]))) ?_
   have H:=dl
   obtain ⟨V,F,c⟩:=zC c
   obtain ⟨dn,dp,fd,fe,dq,dr,ds,dt,du⟩:=xY (H.item (i:=0) rfl) F
   obtain ⟨dv,rfl,dw⟩:=xU dr
   have H:=H.fzs [.at dn (dp+U.toNat * 4) _,.sl gX dv V.Series.Samples] ⟨⟨ds,dt,du⟩,dw,trivial⟩
   refine XP (fun _ _=>yV u22 eF dq rfl (zO F).1 (zO F).2.1 rfl rfl)<| XP (fun _ _=>aY rfl)<| XP (fun _ _=>nC rfl)<| MxM.xP oS rfl rfl rfl (fun j f=>yU fK rfl (Cells.get ((H.sees f).item (i:=6) rfl).2.2 (i:=1) rfl)) ?_
   obtain ⟨dx,dy,c⟩:=zD c
   refine XP (fun _ _=>zM (dG (a:=R.Series.Den) (b:=V.Series.Den) rfl rfl) dy)<| MxM.XL_nil fun ff hS=>?_
   have H:=H.sees hS
   have H:=c1.rejoin H
   refine (zF (c0 _ _ ?_))
   refine yB (b:=dx) rfl (fun G=>?_) (fun G=>?_)
   ·have c:=zU G c
    refine zB fun fg dz=>zA<| zI (i6 2)<| RN dz ?_
    obtain rfl:=gJ c
    refine (zZ (yG (zW (zW (yG (zW (fB (v1:=i6 2) rfl rfl ?_)))))))
    exact ⟨rfl,H.pick []⟩
   have c:=zV G c
   refine (zQ (yX (zF (cq _ _ ?_))))
   refine zA ?_
   obtain ⟨X,d0,c⟩:=zD c
   refine zG (xM (a:=A) (b:=1) rfl rfl d0)<| zH (i6 X) ?_
   exact (zX (zF (meet ⟨(cl,X),(zJ rfl zK),⟨H.pick [0,1],c⟩,Nat.lt_succ_self _⟩)))
  have c:=zV B c
  exact (xE (yC (yC (yQ (zF (meet ⟨(),zK,⟨H.pick [],c⟩⟩))))))
 rintro _ ρ fh ⟨H,c⟩
 have c:=xO ce c
 refine zB fun fi d1=>zA<| zI (i6 0)<| RN d1 ?_
 obtain rfl:=gJ c
 refine (zZ (fB (v1:=i6 0) rfl rfl ?_))
 exact ⟨rfl,H.pick []⟩
theorem Faiw (d:Int)(f:Int)(r:Int)(c:Fai d f=some r)(O S:List Nat)(w:World)(H:Hd O w w S []):
  Cl 63 [i6 d,i6 f] w fun e h=>e= .returned (i6 r)∧Hd O w h S []:=by
 unfold Fai at c
 refine CW 12 Tryz.func63 ?_
 refine zB fun s i=>zA<| zI (i6 0)<| RN i<| zB fun t k=>zA<| zH (i6 d)<| zH (i6 f) ?_
 obtain ⟨l,m,c⟩:=zD c
 refine zG (dH (a:=d) (b:=f) rfl rfl m)<| zH (i6 f)<| zH (i6 d) ?_
 obtain ⟨n,o,c⟩:=zD c
 refine zG (dH (a:=f) (b:=d) rfl rfl o) ?_
 obtain ⟨g,p,c⟩:=zD c
 refine zG (Do_max (j:=l) (q:=n) rfl rfl p)<| zI (i6 g)<| RN k ?_
 obtain rfl:=gJ c
 refine (zZ (fB (v1:=i6 g) rfl rfl ?_))
 exact ⟨rfl,H.pick []⟩
set_option maxRecDepth 100000 in
theorem Fadw (l:List fG)(h:Int)(v1:Value)(r:Int×Bool×Int)(c:Fad l h=some r)(O S:List Nat)(w:World)(H:Hd O w w S [f1 aW v1 l]):
  Cl 34 [v1,i6 h] w fun e n=>e= .returned (.tuple #[i6 r.1,.bool r.2.1,i6 r.2.2])∧Hd O w n S []:=by
 unfold Fad at c
 refine CW 90 Tryz.func34 ?_
 refine zB fun K3 ak=>zA<| zI (i6 0)<| zI (.bool false)<| zI (i6 0)<| RN ak<| zB fun K4 al=>zA<| zI (.slice none 0 0)<| RN al ?_
 obtain ⟨s,c,am⟩:=zC c
 refine yH [7,9,15,16,17,18,19,20,21,22,23,24,25,26,27,28] (fun (g:Value)=>[(7,g)]) (fun g wl=>Hd O w wl S [.own (Rp.int .i64) g 3 s,f1 aW v1 l]) ?_ ?_
 ·skip
  refine zB fun d1 an=>zA<| zH v1 ?_
  obtain ⟨ao,ap,c⟩:=zD c
  obtain ⟨d2,d3,aq⟩:=SlF.len ((H.item (i:=0) rfl))
  refine zG (yK (xK u47 aq) (congrArg (Value.int .i64) ap))<| zH (i6 0)<| RN an<| zY ?_
  have H:=fQ H (Rp.int .i64) 3
  unfold Fcl at c
  obtain ⟨ar,V,au,c⟩:=yF c
  refine xA [7,9,17,18,19,20,21,22,23,24,25,26,27,28] (fun (g:Nat×(List Int)×Int×Value)=>[(7,g.2.2.2),(17,i6 g.2.2.1)]) (fun g wl=>Hd O w wl S [.own (Rp.int .i64) g.2.2.2 3 g.2.1,f1 aW v1 l]∧fF ar g.1 (g.2.1,g.2.2.1)=some s) (fun g=>g.1) (V,[],0,.slice none 0 0) (zJ rfl (zJ rfl zK)) ⟨H.pick [1,0],c⟩ ?_
  clear H c
  rintro ⟨V,d4,t,u⟩ ρ d5 ⟨H,c⟩
  obtain ⟨av,rfl,c⟩:=yN c
  have c:=yO au c
  refine zB fun d6 aw=>zA ?_
  obtain ⟨ax,ay,c⟩:=zD c
  refine zG (zM (xG (a:=t) (b:=ao) rfl rfl) ay)<| RN aw<| zB fun d7 az=>yB (b:=ax) rfl (fun x=>?_) (fun x=>?_)
  ·have c:=zU x c
   refine zQ (zF (az _ _ ?_))
   obtain ⟨X,c,a0⟩:=zC c
   refine yH [7,9,19,20,21,22,23,24,25,26,27] (fun (g:Value)=>[(7,g)]) (fun g wl=>Hd O w wl S [.own (Rp.int .i64) g 3 X,f1 aW v1 l]) ?_ ?_
   ·skip
    refine zY ?_
    refine zB fun d8 a1=>zA ?_
    obtain ⟨j,y,c⟩:=zC c
    obtain ⟨a2,a3,d9,ea,a4,a5,a6,a7,a8⟩:=xY (H.item (i:=1) rfl) y
    obtain rfl:=rQ a5
    have H:=H.fz (.at a2 (a3+t.toNat * 2) _) ⟨a6,a7,a8⟩
    refine zG (yV u47 qQ a4 rfl (zO y).1 (zO y).2.1 rfl rfl)<| zG (yK (yP (cs:=[i6 j.N,.bool j.Known]) agg51 rfl qQ rfl (H.item (i:=2) rfl).2.2) rfl)<| yS rfl rfl (xB zero51 H) ?_
    rintro _ eb ⟨ec,rfl,H⟩
    refine yZ rfl (yM (vs:=[i6 j.N,.bool j.Known]) H 3 rfl qQ rfl rfl rfl ⟨rfl,rfl,trivial⟩ rfl) ?_
    rintro ed H
    refine RN a1<| zB fun ee a9=>zA<| zG (fa51_1 rfl)<| Ld pV H 3 1 rfl rfl<| RN a9<| yB (b:=j.Known) rfl (fun z=>?_) (fun z=>?_)
    ·have c:=zU z c
     refine zA ?_
     refine zH u<| zG (rJ rfl)<| Ld fK H 3 0 rfl rfl ?_
     obtain ⟨ef,ba,c⟩:=zD c
     subst ba
     refine yS rfl rfl (kN (r:=(Rp.int .i64)) (xl:=[j.N]) (cs:=[i6 j.N]) u42 el3 (by decide) (by decide) rfl (xW (vs:=[i6 j.N]) (by decide) rfl rfl ⟨rfl,trivial⟩ rfl) H ⟨[i6 j.N],[],rfl,rfl,rfl⟩) ?_
     rintro eg eh H
     obtain ⟨ei,bb,c⟩:=zC c
     refine yS rfl rfl (aU H (i:=0) rfl u42 el3 rfl rfl (Sr.of_own (H.item (i:=4) rfl)) bb) ?_
     rintro Y ej H
     refine zI Y ?_
     obtain rfl:=gJ c
     exact (zX (yX (zF (meet ⟨Y,(zJ rfl zK),H.pick [0,1]⟩))))
    have c:=zV z c
    obtain rfl:=gJ c
    exact (zQ (yX (zF (meet ⟨u,(zJ rfl zK),H.pick [0,1]⟩))))
   rintro bc ρ ek H
   have c:=a0
   refine zA ?_
   obtain ⟨Z,bd,c⟩:=zD c
   refine zG (xM (a:=t) (b:=1) rfl rfl bd)<| zH (i6 Z) ?_
   exact (zX (zF (meet ⟨(av,X,Z,bc),(zJ rfl (zJ rfl zK)),⟨H.pick [0,1],c⟩,Nat.lt_succ_self _⟩)))
  have c:=zV x c
  obtain rfl:=gJ c
  exact (xE (yC (yC (yQ (zF (meet ⟨u,(zJ rfl zK),H.pick [0,1]⟩))))))
 rintro f ρ el H
 have c:=am
 refine zB fun em be=>zA<| zH f ?_
 obtain ⟨bf,bg,c⟩:=zC c
 refine zS rfl rfl (zN en62 rfl) (E.Fcfw s f _ bg _ _ _ (H.enter [0] [])) ?_
 rintro _ en ⟨rfl,bh⟩
 have H:Hd _ _ _ _ [_,_]:=H.back [0] [] rfl bh
 refine ⟨_,rfl,?_⟩
 refine RN be<| zB fun eo bi=>zY ?_
 obtain ⟨aa,c,bj⟩:=zC c
 refine yH [31,32,33,34,35,36,37,38,39,40,41,42,43,44,45] (fun (g:Unit)=>[(31,.bool aa)]) (fun g wl=>Hd O w wl S [f1 aW v1 l,.own (Rp.int .i64) f 3 bf]) ?_ ?_
 ·skip
  have ab:=H
  have H:=H.rebase
  have ep:=H
  refine WP_mix0 H [0,1,2,3,4,5,6,7,8,9,10,11,12,13,14] (kz [0,0,0,0,0,0,1,0,0,1,0,0,0,0,0]) mixed ?_
  refine XM f ?_
  obtain ⟨bk,bl,c⟩:=zD c
  obtain ⟨eq,er,bm⟩:=Sr.len (Sr.of_own (H.item (i:=1) rfl))
  refine XP (fun _ _=>yK (xK u42 bm) (congrArg (Value.int .i64) bl)) ?_
  obtain ⟨bn,bo,c⟩:=zD c
  refine XP (fun _ _=>zM (wC (a:=bk) (b:=2) rfl rfl) bo)<| MxM.XL_splitb (b:=bn) rfl rfl rfl rfl (fun A=>?_) (fun A=>?_)
  ·have c:=zU A c
   refine XM f ?_
   obtain ⟨ac,B,c⟩:=zC c
   obtain ⟨es,et,bp,bq,br,bt⟩:=fZ (H.item (i:=1) rfl) B
   obtain rfl:bp= [i6 ac]:=br
   refine XP (fun _ _=>yV u42 sz3 bq rfl (zO B).1 (zO B).2.1 rfl rfl)<| MxM.xP oS rfl rfl rfl (fun n m=>yU fK rfl (Cells.get (bt.sees m) (i:=0) rfl))<| XM f ?_
   obtain ⟨ad,C,c⟩:=zC c
   obtain ⟨eu,ew,bu,bv,bw,bx⟩:=fZ (H.item (i:=1) rfl) C
   obtain rfl:bu= [i6 ad]:=bw
   refine XP (fun _ _=>yV u42 sz3 bv rfl (zO C).1 (zO C).2.1 rfl rfl)<| MxM.xP oS rfl rfl rfl (fun n m=>yU fK rfl (Cells.get (bx.sees m) (i:=0) rfl)) ?_
   obtain ⟨bz,b0,c⟩:=zD c
   refine XP (fun _ _=>dH (a:=ac) (b:=ad) rfl rfl b0)<| XM (i6 h) ?_
   obtain ⟨ae,b1,c⟩:=zD c
   refine XP (fun _ _=>zM (bV (a:=bz) (b:=h) rfl rfl) b1)<| XP (fun _ _=>yL (v:= .bool ae) rfl rfl)<| XP (fun _ _=>eG (v:= .bool ae) rfl)<| MxM.XL_nil fun ex hS=>?_
   have H:=H.sees hS
   have H:=ab.rejoin H
   obtain rfl:=gJ c
   exact (zF (meet ⟨(),(zJ rfl zK),H.pick [0,1]⟩))
  have c:=zV A c
  refine XO<| XO<| MxM.XL_offr oS rfl rfl rfl ?_
  refine XO<| XO<| MxM.XL_offr oS rfl rfl rfl ?_
  refine XO<| XO<| XO<| XP (fun _ _=>yD (v:= .bool false) rfl rfl)<| XP (fun _ _=>eG (v:= .bool false) rfl)<| MxM.XL_nil fun ey hS=>?_
  have H:=H.sees hS
  have H:=ab.rejoin H
  obtain rfl:=gJ c
  exact (zF (meet ⟨(),(zJ rfl zK),H.pick [0,1]⟩))
 rintro _ ρ ez H
 have c:=bj
 refine yB (b:=aa) rfl (fun D=>?_) (fun D=>?_)
 ·have c:=zU D c
  refine zB fun e0 b2=>zA<| zH f ?_
  obtain ⟨F,G,c⟩:=zC c
  obtain ⟨e1,e2,b3,b4,b5,b6⟩:=fZ (H.item (i:=1) rfl) G
  obtain rfl:b3= [i6 F]:=b5
  refine zG (yV u42 sz3 b4 rfl (zO G).1 (zO G).2.1 rfl rfl)<| zG (yU fK rfl (Cells.get b6 (i:=0) rfl))<| zI (i6 F)<| zI (.bool true)<| zI (i6 (-1))<| RN b2 ?_
  obtain rfl:=gJ c
  refine (zZ (yG (zW (vC (v1:=i6 F) (v2:= .bool true) (v3:=i6 (-1)) rfl rfl rfl rfl ?_))))
  exact ⟨rfl,H.pick []⟩
 have c:=zV D c
 refine zB fun e3 b7=>zA<| zH f ?_
 obtain ⟨b8,b9,c⟩:=zD c
 obtain ⟨e4,e5,ca⟩:=Sr.len (Sr.of_own (H.item (i:=1) rfl))
 refine zG (yK (xK u42 ca) (congrArg (Value.int .i64) b9)) ?_
 obtain ⟨af,cb,c⟩:=zD c
 refine zG (zM (xG (a:=b8) (b:=3) rfl rfl) cb)<| zI (.bool af)<| RN b7<| yB (b:=af) rfl (fun I=>?_) (fun I=>?_)
 ·have c:=zU I c
  refine zB fun e6 cc=>zA<| zI (i6 0)<| zI (.bool false)<| zI (i6 (-1))<| RN cc ?_
  obtain rfl:=gJ c
  refine (zZ (yG (zW (vC (v1:=i6 0) (v2:= .bool false) (v3:=i6 (-1)) rfl rfl rfl rfl ?_))))
  exact ⟨rfl,H.pick []⟩
 have c:=zV I c
 refine (zQ (yX (zF (bi _ _ ?_))))
 refine zB fun e7 cd=>zA<| zH f ?_
 obtain ⟨d,J,c⟩:=zC c
 obtain ⟨e8,e9,ce,cf,cg,ch⟩:=fZ (H.item (i:=1) rfl) J
 obtain rfl:ce= [i6 d]:=cg
 refine zG (yV u42 sz3 cf rfl (zO J).1 (zO J).2.1 rfl rfl)<| zG (yU fK rfl (Cells.get ch (i:=0) rfl))<| zI (i6 d)<| RN cd<| zB fun fa ci=>?_
 have cj:=H
 have H:=H.rebase
 have fb:=H
 refine WP_mix0 H [0,1,2,3,4,5,6,7,8,9,10,11,12,13,14,15] (kz [0,0,0,1,0,0,0,0,0,1,0,0,0,0,0,0]) mixed ?_
 refine XM (i6 d)<| XM f ?_
 obtain ⟨ag,K,c⟩:=zC c
 obtain ⟨fc,fd,ck,cl,cm,cn⟩:=fZ (H.item (i:=1) rfl) K
 obtain rfl:ck= [i6 ag]:=cm
 refine XP (fun _ _=>yV u42 sz3 cl rfl (zO K).1 (zO K).2.1 rfl rfl)<| MxM.xP oS rfl rfl rfl (fun n m=>yU fK rfl (Cells.get (cn.sees m) (i:=0) rfl)) ?_
 obtain ⟨co,cp,c⟩:=zD c
 refine XP (fun _ _=>dH (a:=d) (b:=ag) rfl rfl cp)<| XM (i6 h) ?_
 obtain ⟨L,cq,c⟩:=zD c
 refine XP (fun _ _=>zM (eX (a:=co) (b:=h) rfl rfl) cq)<| XM f ?_
 obtain ⟨ah,M,c⟩:=zC c
 obtain ⟨fe,ff,cr,ct,cu,cv⟩:=fZ (H.item (i:=1) rfl) M
 obtain rfl:cr= [i6 ah]:=cu
 refine XP (fun _ _=>yV u42 sz3 ct rfl (zO M).1 (zO M).2.1 rfl rfl)<| MxM.xP oS rfl rfl rfl (fun n m=>yU fK rfl (Cells.get (cv.sees m) (i:=0) rfl))<| XM (i6 d) ?_
 obtain ⟨cw,cx,c⟩:=zD c
 refine XP (fun _ _=>dH (a:=ah) (b:=d) rfl rfl cx)<| XM (i6 h) ?_
 obtain ⟨P,cy,c⟩:=zD c
 refine XP (fun _ _=>zM (eX (a:=cw) (b:=h) rfl rfl) cy)<| XP (fun _ _=>eG (v:= .bool L) rfl)<| XP (fun _ _=>eG (v:= .bool P) rfl)<| MxM.XL_nil fun fg hS=>?_
 have H:=H.sees hS
 have H:=cj.rejoin H
 refine (zF (ci _ _ ?_))
 obtain ⟨cz,c0,c⟩:=xJ c
 refine yH [4,5,6,13,14,70,71,72,73,74,75,76,77,78,79,80,81,82,83,84,85,86,87,88] (fun (g:Unit)=>[]) (fun g wl=>Hd O w wl S []∧cz ()=some r) ?_ ?_
 ·skip
  refine zB fun fh c1=>zA<| zH (.bool L)<| zH (.bool P) ?_
  obtain ⟨c2,c3,c⟩:=zD c
  refine zG (zM (aFe (p:=L) (q:=P) u4 rfl rfl) c3)<| RN c1<| yB (b:=c2) rfl (fun Q=>?_) (fun Q=>?_)
  ·have c:=zU Q c
   refine zB fun fi c4=>zA<| zH v1 ?_
   obtain ⟨c5,c6,c⟩:=zD c
   obtain ⟨fj,fk,c7⟩:=SlF.len ((H.item (i:=0) rfl))
   refine zG (yK (xK u47 c7) (congrArg (Value.int .i64) c6))<| zH (i6 0)<| RN c4<| zY ?_
   unfold Fa7 at c
   obtain ⟨c8,ai,c9,c⟩:=yF c
   refine xA [4,5,6,13,14,75,76,77,78,79,80,81,82,83,84,85,86,87,88] (fun (g:Nat×Int)=>[(75,i6 g.2)]) (fun g wl=>Hd O w wl S [f1 aW v1 l]∧fF c8 g.1 g.2=some r) (fun g=>g.1) (ai,0) (zJ rfl zK) ⟨H.pick [0],c⟩ ?_
   clear H c
   rintro ⟨ai,k⟩ ρ fm ⟨H,c⟩
   obtain ⟨da,rfl,c⟩:=yN c
   have c:=yO c9 c
   refine zB fun fn db=>zA ?_
   obtain ⟨dc,dd,c⟩:=zD c
   refine zG (zM (xG (a:=k) (b:=c5) rfl rfl) dd)<| RN db<| zB fun fo de=>yB (b:=dc) rfl (fun R=>?_) (fun R=>?_)
   ·have c:=zU R c
    refine zQ (zF (de _ _ ?_))
    refine zB fun fp df=>?_
    refine zY ?_
    refine zB fun fq dg=>zA<| zH (i6 k) ?_
    obtain ⟨o,T,c⟩:=zC c
    obtain ⟨dh,di,fr,fs,dj,dk,dl,dm,dn⟩:=xY (H.item (i:=0) rfl) T
    obtain rfl:=rQ dk
    have H:=H.fz (.at dh (di+k.toNat * 2) _) ⟨dl,dm,dn⟩
    refine zG (yV u47 qQ dj rfl (zO T).1 (zO T).2.1 rfl rfl)<| zG (yK (yP (cs:=[i6 o.N,.bool o.Known]) agg51 rfl qQ rfl (H.item (i:=1) rfl).2.2) rfl)<| yS rfl rfl (xB zero51 H) ?_
    rintro _ ft ⟨fu,rfl,H⟩
    refine zI (i6 k)<| yZ rfl (yM (vs:=[i6 o.N,.bool o.Known]) H 2 rfl qQ rfl rfl rfl ⟨rfl,rfl,trivial⟩ rfl) ?_
    rintro fv H
    refine RN dg<| zB fun fw dp=>zA<| zG (rJ rfl)<| Ld fK H 2 0 rfl rfl<| zH (i6 d) ?_
    have dq:=H
    obtain ⟨dr,ds,c⟩:=zC c
    refine zS rfl rfl (zN en63 rfl) (Faiw o.N d _ ds _ _ _ (H.enter [] [])) ?_
    rintro _ fx ⟨rfl,dt⟩
    have H:=dq.step (dt.only:Only [] _ _)
    refine ⟨_,rfl,?_⟩
    refine zH (i6 h) ?_
    obtain ⟨du,dv,c⟩:=zD c
    refine zG (zM (eX (a:=dr) (b:=h) rfl rfl) dv)<| RN dp<| yB (b:=du) rfl (fun U=>?_) (fun U=>?_)
    ·have c:=zU U c
     refine zB fun fy dw=>zA<| zH (i6 d)<| zH (i6 k)<| zI (i6 d)<| zI (.bool true)<| zI (i6 k)<| RN dw ?_
     obtain rfl:=gJ c
     refine (zZ (yG (zW (zW (yG (zW (vC (v1:=i6 d) (v2:= .bool true) (v3:=i6 k) rfl rfl rfl rfl ?_)))))))
     exact ⟨rfl,H.pick []⟩
    have c:=zV U c
    refine (zQ (yX (zF (df _ _ ?_))))
    refine zA ?_
    obtain ⟨aj,dx,c⟩:=zD c
    refine zG (xM (a:=k) (b:=1) rfl rfl dx)<| zH (i6 aj) ?_
    exact (zX (zF (meet ⟨(da,aj),(zJ rfl zK),⟨H.pick [0],c⟩,Nat.lt_succ_self _⟩)))
   have c:=zV R c
   exact (xE (yC (yC (yQ (zF (meet ⟨(),zK,⟨H.pick [],c⟩⟩))))))
  have c:=zV Q c
  exact (zQ (zF (meet ⟨(),zK,⟨H.pick [],c⟩⟩)))
 rintro _ ρ f0 ⟨H,c⟩
 have c:=xO c0 c
 refine zB fun f2 dy=>zA<| zH (i6 d)<| zI (i6 d)<| zI (.bool true)<| zI (i6 (-1))<| RN dy ?_
 obtain rfl:=gJ c
 refine (zZ (vC (v1:=i6 d) (v2:= .bool true) (v3:=i6 (-1)) rfl rfl rfl rfl ?_))
 exact ⟨rfl,H.pick []⟩
set_option maxRecDepth 100000 in
theorem Fa5w (y:List gV)(I:List Str)(z:Int)(k:Int)(n:Int)(v1:Value)(o:Value)(r:gV×(List Int)×Int)(c:Fa5 y I z k n=some r)(O S:List Nat)(w:World)(H:Hd O w w S [f1 fE v1 y,f1 Rp.str o I]):
  Cl 11 [v1,o,i6 z,i6 k,i6 n] w fun e s=> ∃u5 u6,e= .returned (.tuple #[.agg [sb r.1.Name,i6 r.1.Series.Den,u5,i6 r.1.Long].toArray,u6,i6 r.2.2])∧Hd O w s S [f1 gX u5 r.1.Series.Samples,.own (Rp.int .i64) u6 3 r.2.1]:=by
 unfold Fa5 at c
 refine CW 125 Tryz.func11 ?_
 refine zB fun K7 a0=>zA<| yS rfl rfl (xB jI H) ?_
 rintro _ fc ⟨A,rfl,H⟩
 refine zI (.slice none 0 0)<| zI (i6 0)<| RN a0<| zB fun fd a1=>zB fun fe a2=>zA<| zH v1 ?_
 have a3:=H
 obtain ⟨B,a4,c⟩:=zC c
 refine zS rfl rfl (zN en17 rfl) (Fbqw y v1 _ a4 _ _ _ (H.enter [] [0])) ?_
 rintro _ ff ⟨rfl,a5⟩
 have H:=a3.step (a5.only:Only [] _ _)
 refine ⟨_,rfl,?_⟩
 refine zI (i6 B)<| RN a2<| zB fun fg a6=>zA<| zH (i6 B) ?_
 obtain ⟨a7,a8,c⟩:=zD c
 refine zG (zM (dG (a:=B) (b:=0) rfl rfl) a8)<| RN a6<| yB (b:=a7) rfl (fun R=>?_) (fun R=>?_)
 ·have c:=zU R c
  refine zB fun fh a9=>zA<| zG (xR (cs:=[.string (bs []),i6 0,.slice none 0 0,i6 0]) rX)<| zH (i6 B)<| yZ rfl (yM (vs:=[.string (bs []),i6 0,.slice none 0 0,i6 0]) H 2 rfl eF rfl rfl rfl ⟨rfl,rfl,rfl,rfl,trivial⟩ rfl) ?_
  rintro fi H
  refine zI (.slice none 0 0)<| zI (i6 B)<| RN a9 ?_
  have H:=H.fz (.sl gX (.slice none 0 0) []) SlF.nil
  have H:=fQ H (Rp.int .i64) 3
  obtain rfl:=gJ c
  refine (zZ (zW (aN (v1:= .slice none 0 0) (v2:=i6 B) rfl rfl (yI bP eF rfl (Hbc H 2 rfl)) rfl rfl ?_)))
  exact ⟨.slice none 0 0,.slice none 0 0,rfl,H.pick [3,4]⟩
 have c:=zV R c
 refine zQ (zF (a1 _ _ ?_))
 refine zB fun fj ba=>?_
 refine zB fun fk bb=>zA<| zH v1<| zH o ?_
 have bc:=H
 obtain ⟨C,bd,c⟩:=zC c
 refine zS rfl rfl (zN en32 rfl) (Fanw y I v1 o _ bd _ _ _ (H.enter [] [0,1])) ?_
 rintro _ fm ⟨rfl,be⟩
 have H:=bc.step (be.only:Only [] _ _)
 refine ⟨_,rfl,?_⟩
 refine zI (i6 C)<| RN bb<| zB fun fn bf=>zA<| zH (i6 C) ?_
 obtain ⟨bg,bh,c⟩:=zD c
 refine zG (zM (dG (a:=C) (b:=0) rfl rfl) bh)<| RN bf<| yB (b:=bg) rfl (fun T=>?_) (fun T=>?_)
 ·have c:=zU T c
  refine zB fun fo bi=>zA<| zG (xR (cs:=[.string (bs []),i6 0,.slice none 0 0,i6 0]) rX)<| zH (i6 C)<| yZ rfl (yM (vs:=[.string (bs []),i6 0,.slice none 0 0,i6 0]) H 2 rfl eF rfl rfl rfl ⟨rfl,rfl,rfl,rfl,trivial⟩ rfl) ?_
  rintro fp H
  refine zI (.slice none 0 0)<| zI (i6 C)<| RN bi ?_
  have H:=H.fz (.sl gX (.slice none 0 0) []) SlF.nil
  have H:=fQ H (Rp.int .i64) 3
  obtain rfl:=gJ c
  refine (zZ (zW (aN (v1:= .slice none 0 0) (v2:=i6 C) rfl rfl (yI bP eF rfl (Hbc H 2 rfl)) rfl rfl ?_)))
  exact ⟨.slice none 0 0,.slice none 0 0,rfl,H.pick [3,4]⟩
 have c:=zV T c
 refine zQ (zF (ba _ _ ?_))
 refine zB fun fq bj=>?_
 refine zB fun fr bk=>zA<| zH (i6 z) ?_
 have bl:=H
 obtain ⟨bm,bn,c⟩:=zC c
 refine zS rfl rfl (zN en33 rfl) (Fbpw z 0 1125899906842624 _ bn _ _ _ (H.enter [] [])) ?_
 rintro _ fs ⟨rfl,bo⟩
 have H:=bl.step (bo.only:Only [] _ _)
 refine ⟨_,rfl,?_⟩
 obtain ⟨bp,bq,c⟩:=zD c
 refine zG (zM (fV (p:=bm) rfl) bq)<| RN bk<| yB (b:=bp) rfl (fun U=>?_) (fun U=>?_)
 ·have c:=zU U c
  refine zB fun ft br=>zA<| zG (xR (cs:=[.string (bs []),i6 0,.slice none 0 0,i6 0]) rX)<| yZ rfl (yM (vs:=[.string (bs []),i6 0,.slice none 0 0,i6 0]) H 2 rfl eF rfl rfl rfl ⟨rfl,rfl,rfl,rfl,trivial⟩ rfl) ?_
  rintro fu H
  refine zI (.slice none 0 0)<| zI (i6 9)<| RN br ?_
  have H:=H.fz (.sl gX (.slice none 0 0) []) SlF.nil
  have H:=fQ H (Rp.int .i64) 3
  obtain rfl:=gJ c
  refine (zZ (zW (aN (v1:= .slice none 0 0) (v2:=i6 9) rfl rfl (yI bP eF rfl (Hbc H 2 rfl)) rfl rfl ?_)))
  exact ⟨.slice none 0 0,.slice none 0 0,rfl,H.pick [3,4]⟩
 have c:=zV U c
 refine zQ (zF (bj _ _ ?_))
 refine zB fun fv bt=>?_
 refine zB fun fw bu=>zA<| zH (i6 k)<| zH (i6 n) ?_
 have bv:=H
 obtain ⟨D,bw,c⟩:=zC c
 refine zS rfl rfl (zN en19 rfl) (Fbiw k n _ bw _ _ _ (H.enter [] [])) ?_
 rintro _ fx ⟨rfl,bx⟩
 have H:=bv.step (bx.only:Only [] _ _)
 refine ⟨_,rfl,?_⟩
 refine zI (i6 D)<| RN bu<| zB fun fy bz=>zA<| zH (i6 D) ?_
 obtain ⟨b0,b1,c⟩:=zD c
 refine zG (zM (dG (a:=D) (b:=0) rfl rfl) b1)<| RN bz<| yB (b:=b0) rfl (fun V=>?_) (fun V=>?_)
 ·have c:=zU V c
  refine zB fun f0 b2=>zA<| zG (xR (cs:=[.string (bs []),i6 0,.slice none 0 0,i6 0]) rX)<| zH (i6 D)<| yZ rfl (yM (vs:=[.string (bs []),i6 0,.slice none 0 0,i6 0]) H 2 rfl eF rfl rfl rfl ⟨rfl,rfl,rfl,rfl,trivial⟩ rfl) ?_
  rintro f2 H
  refine zI (.slice none 0 0)<| zI (i6 D)<| RN b2 ?_
  have H:=H.fz (.sl gX (.slice none 0 0) []) SlF.nil
  have H:=fQ H (Rp.int .i64) 3
  obtain rfl:=gJ c
  refine (zZ (zW (aN (v1:= .slice none 0 0) (v2:=i6 D) rfl rfl (yI bP eF rfl (Hbc H 2 rfl)) rfl rfl ?_)))
  exact ⟨.slice none 0 0,.slice none 0 0,rfl,H.pick [3,4]⟩
 have c:=zV V c
 refine zQ (zF (bt _ _ ?_))
 refine zB fun f3 b3=>?_
 refine zB fun f4 b4=>zA<| zH (i6 n)<| zH (i6 k) ?_
 obtain ⟨b5,b6,c⟩:=zD c
 refine zG (dH (a:=n) (b:=k) rfl rfl b6) ?_
 obtain ⟨b7,b8,c⟩:=zD c
 refine zG (xM (a:=b5) (b:=1) rfl rfl b8) ?_
 obtain ⟨b9,ca,c⟩:=zD c
 refine zG (zM (eX (a:=b7) (b:=20000) rfl rfl) ca)<| RN b4<| yB (b:=b9) rfl (fun X=>?_) (fun X=>?_)
 ·have c:=zU X c
  refine zB fun f5 cb=>zA<| zG (xR (cs:=[.string (bs []),i6 0,.slice none 0 0,i6 0]) rX)<| yZ rfl (yM (vs:=[.string (bs []),i6 0,.slice none 0 0,i6 0]) H 2 rfl eF rfl rfl rfl ⟨rfl,rfl,rfl,rfl,trivial⟩ rfl) ?_
  rintro f6 H
  refine zI (.slice none 0 0)<| zI (i6 3)<| RN cb ?_
  have H:=H.fz (.sl gX (.slice none 0 0) []) SlF.nil
  have H:=fQ H (Rp.int .i64) 3
  obtain rfl:=gJ c
  refine (zZ (zW (aN (v1:= .slice none 0 0) (v2:=i6 3) rfl rfl (yI bP eF rfl (Hbc H 2 rfl)) rfl rfl ?_)))
  exact ⟨.slice none 0 0,.slice none 0 0,rfl,H.pick [3,4]⟩
 have c:=zV X c
 refine zQ (zF (b3 _ _ ?_))
 refine zB fun f7 cc=>zA<| zI (.slice none 0 0)<| RN cc ?_
 obtain ⟨E,c,cd⟩:=zC c
 refine yH [16,18,56,57,58,59,60,61,62,63,64,65,66,67,68,69,70,71] (fun (g:Value)=>[(16,g)]) (fun g wl=>Hd O w wl S [.own fE g 41 E,f1 Rp.str o I,.blk A [.string (bs []),i6 0,.slice none 0 0,i6 0] 41]) ?_ ?_
 ·skip
  refine zB fun f8 ce=>zA<| zH o ?_
  obtain ⟨cf,cg,c⟩:=zD c
  obtain ⟨f9,ga,ch⟩:=SlF.len ((H.item (i:=1) rfl))
  refine zG (yK (xK u36 ch) (congrArg (Value.int .i64) cg))<| zH (i6 0)<| RN ce<| zY ?_
  have H:=fQ H fE 41
  unfold Fcr at c
  obtain ⟨ci,am,cj,c⟩:=yF c
  refine xA [16,18,58,59,60,61,62,63,64,65,66,67,68,69,70,71] (fun (g:Nat×(List gV)×Int×Value)=>[(16,g.2.2.2),(58,i6 g.2.2.1)]) (fun g wl=>Hd O w wl S [.own fE g.2.2.2 41 g.2.1,f1 fE v1 y,f1 Rp.str o I,.blk A [.string (bs []),i6 0,.slice none 0 0,i6 0] 41]∧fF ci g.1 (g.2.1,g.2.2.1)=some E) (fun g=>g.1) (am,[],0,.slice none 0 0) (zJ rfl (zJ rfl zK)) ⟨H.pick [3,0,1,2],c⟩ ?_
  clear H c
  rintro ⟨am,gb,Y,an⟩ ρ gc ⟨H,c⟩
  obtain ⟨ck,rfl,c⟩:=yN c
  have c:=yO cj c
  refine zB fun gd cl=>zA ?_
  obtain ⟨cm,cn,c⟩:=zD c
  refine zG (zM (xG (a:=Y) (b:=cf) rfl rfl) cn)<| RN cl<| zB fun ge co=>yB (b:=cm) rfl (fun Z=>?_) (fun Z=>?_)
  ·have c:=zU Z c
   refine zQ (zF (co _ _ ?_))
   refine zB fun gf cp=>?_
   refine zY ?_
   refine zB fun gg cq=>zA ?_
   obtain ⟨N,aa,c⟩:=zC c
   obtain ⟨cr,ct,gh,cu,cv,cw,cx,cy,cz⟩:=xY (H.item (i:=2) rfl) aa
   obtain rfl:cu= [sb N]:=cw
   have H:=H.fz (.at cr (ct+Y.toNat * 1) _) ⟨cx,cy,cz⟩
   refine zG (yV u36 sz9 cv rfl (zO aa).1 (zO aa).2.1 rfl rfl)<| zG (yU dQ rfl (Cells.get (H.item (i:=4) rfl).2.2 (i:=0) rfl))<| zI (sb N)<| RN cq<| zA<| zH an<| zH v1<| zH v1<| zH (sb N) ?_
   have c0:=H
   obtain ⟨c1,c2,c⟩:=zC c
   refine zS rfl rfl (zN en20 rfl) (Faaw y N v1 _ c2 _ _ _ (H.enter [] [1])) ?_
   rintro _ gj ⟨rfl,c3⟩
   have H:=c0.step (c3.only:Only [] _ _)
   refine ⟨_,rfl,?_⟩
   obtain ⟨d,ab,c⟩:=zC c
   obtain ⟨c4,c5,gk,gl,c6,c7,c8,c9,da⟩:=xY (H.item (i:=1) rfl) ab
   obtain ⟨J,rfl,db⟩:=xU c7
   have H:=H.fzs [.at c4 (c5+c1.toNat * 4) _,.sl gX J d.Series.Samples] ⟨⟨c8,c9,da⟩,db,trivial⟩
   refine zG (yV u22 eF c6 rfl (zO ab).1 (zO ab).2.1 rfl rfl)<| zG (yK (yP (cs:=[sb d.Name,i6 d.Series.Den,J,i6 d.Long]) bP rfl eF rfl (H.item (i:=5) rfl).2.2) rfl) ?_
   obtain ⟨gm,dc,c⟩:=zD c
   subst dc
   refine yS rfl rfl (kN (r:=fE) (xl:=[d]) (cs:=[sb d.Name,i6 d.Series.Den,J,i6 d.Long]) u22 el41 (by decide) (by decide) rfl (xW (vs:=[.agg [sb d.Name,i6 d.Series.Den,J,i6 d.Long].toArray]) (by decide) rfl rfl ⟨rfl,trivial⟩ rfl) H ⟨[sb d.Name,i6 d.Series.Den,J,i6 d.Long],[],rfl,(qR (x:=d) (H.item (i:=6) rfl)),rfl⟩) ?_
   rintro gn go H
   obtain ⟨dd,de,c⟩:=zC c
   refine yS rfl rfl (aU H (i:=0) rfl u22 el41 rfl rfl (Sr.of_own (H.item (i:=7) rfl)) de) ?_
   rintro ao gp H
   refine zI ao<| (zX (yX (zF (cp _ _ ?_))))
   refine zA ?_
   obtain ⟨ap,df,c⟩:=zD c
   refine zG (xM (a:=Y) (b:=1) rfl rfl df)<| zH (i6 ap) ?_
   exact (zX (zF (meet ⟨(ck,dd,ap,ao),(zJ rfl (zJ rfl zK)),⟨H.pick [0,1,2,3],c⟩,Nat.lt_succ_self _⟩)))
  have c:=zV Z c
  obtain rfl:=gJ c
  exact (xE (yC (yC (yQ (zF (meet ⟨an,(zJ rfl zK),H.pick [0,2,3]⟩))))))
 rintro F ρ gq H
 have c:=cd
 refine zB fun gr dg=>?_
 have dh:=H
 have H:=H.rebase
 have gs:=H
 refine WP_mix0 H [0,1,2,3,4,5,6,7,8,9,10,11] (kz [0,0,1,0,0,0,0,1,0,0,2,3]) mixed ?_
 refine XM o ?_
 obtain ⟨l,ac,c⟩:=zC c
 obtain ⟨di,dj,gt,dk,dl,dm,dn,dp,dq⟩:=xY (H.item (i:=1) rfl) ac
 obtain rfl:dk= [sb l]:=dm
 have H:=H.fz (.at di (dj+(0:Int).toNat * 1) _) ⟨dn,dp,dq⟩
 refine XP (fun _ _=>yV u36 sz9 dl rfl (zO ac).1 (zO ac).2.1 rfl rfl)<| MxM.xP oS rfl rfl rfl (fun s m=>yU dQ rfl (Cells.get ((H.sees m).item (i:=3) rfl).2.2 (i:=0) rfl))<| XM F ?_
 obtain ⟨f,ad,c⟩:=zC c
 obtain ⟨gu,gv,gw,dr,ds,dt⟩:=fZ (H.item (i:=0) rfl) ad
 obtain ⟨du,rfl,dv⟩:=xU ds
 have H:=H.fzs [.sl gX du f.Series.Samples] ⟨dv,trivial⟩
 refine XP (fun _ _=>yV u22 eF dr rfl (zO ad).1 (zO ad).2.1 rfl rfl)<| XP (fun _ _=>aY rfl)<| XP (fun _ _=>nC rfl)<| MxM.xP oS rfl rfl rfl (fun s m=>yU fK rfl (Cells.get (dt.sees m) (i:=1) rfl))<| XP (fun _ _=>xR (cs:=[i6 f.Series.Den,.slice none 0 0]) (bt39_0 _))<| XP (fun _ _=>xR (cs:=[sb l,i6 f.Series.Den,.slice none 0 0,i6 63]) (uZ _ _ none 0 0 _)) ?_
 refine MxM.XL_exN oS rfl rfl rfl (fun s m=>Ls_of (xB jI (H.sees m)) (Ys_alloc jI)) ?_
 rintro s _ gx m ⟨P,rfl,H⟩
 refine MxM.XL_exU oS rfl rfl (fun s m=>yM (vs:=[sb l,i6 f.Series.Den,.slice none 0 0,i6 63]) (H.sees m) 5 rfl eF rfl rfl rfl ⟨rfl,rfl,rfl,rfl,trivial⟩ rfl) ?_
 rintro s gy m H
 refine ⟨H.only,?_⟩
 refine MxM.XL_nil fun gz hS=>?_
 have H:=H.sees hS
 have H:=dh.rejoin H
 refine (zF (dg _ _ ?_))
 refine zB fun g0 dw=>zA ?_
 obtain ⟨dx,dy,c⟩:=zC c
 refine yS rfl rfl (aDz (r:=(Rp.int .i64)) (zv:=i6 0) u42 el3 rfl (fun _ _=>rfl) rfl rfl dy H) ?_
 rintro h g1 H
 refine zI h<| RN dw ?_
 obtain ⟨Q,c,dz⟩:=zC c
 refine yH [21,22,23,24,25,83,84,85,86,87,88,89,90,91,92,93,94,95,96,97,98,99,100,101,102,103,104,105,106,107,108,109,110,111,112,113,114,115,116,117,118,119,120,121,122] (fun (g:Value)=>[]) (fun g wl=>Hd O w wl S [.blk A [.string (bs []),i6 0,.slice none 0 0,i6 0] 41,.blk P [sb l,i6 f.Series.Den,g,i6 63] 41,.own gX g 46 Q.1,.own (Rp.int .i64) h 3 Q.2]) ?_ ?_
 ·skip
  refine zB fun g2 d0=>zA<| zH (i6 k)<| zI (i6 k)<| RN d0<| zY ?_
  have H:=H.freeze (i:=0) rfl
  have H:=fQ H gX 46
  unfold Fch at c
  obtain ⟨d1,aq,d2,c⟩:=yF c
  refine xA [21,22,23,24,25,84,85,86,87,88,89,90,91,92,93,94,95,96,97,98,99,100,101,102,103,104,105,106,107,108,109,110,111,112,113,114,115,116,117,118,119,120,121,122] (fun (g:Nat×Int×(List fA)×(List Int)×Value)=>[(21,i6 g.2.1)]) (fun g wl=>Hd O w wl S [f1 fE F E,.blk A [.string (bs []),i6 0,.slice none 0 0,i6 0] 41,.blk P [sb l,i6 f.Series.Den,g.2.2.2.2,i6 63] 41,.own gX g.2.2.2.2 46 g.2.2.1,.own (Rp.int .i64) h 3 g.2.2.2.1]∧fF d1 g.1 (g.2.1,g.2.2.1,g.2.2.2.1)=some Q) (fun g=>g.1) (aq,k,[],dx,.slice none 0 0) (zJ rfl zK) ⟨H.pick [0,2,5,7,6],c⟩ ?_
  clear H c
  rintro ⟨aq,q,ar,d3,K⟩ ρ g3 ⟨H,c⟩
  obtain ⟨d4,rfl,c⟩:=yN c
  have c:=yO d2 c
  refine zB fun g4 d5=>?_
  refine zB fun g5 d6=>zA<| zH (i6 q)<| zH (i6 n) ?_
  obtain ⟨d7,d8,c⟩:=zD c
  refine zG (zM (bV (a:=q) (b:=n) rfl rfl) d8)<| RN d6<| yB (b:=d7) rfl (fun ae=>?_) (fun ae=>?_)
  ·have c:=zU ae c
   refine zQ (zF (d5 _ _ ?_))
   refine zB fun g6 d9=>?_
   refine zY ?_
   refine zB fun g7 ea=>zA<| zH F<| zH (i6 q) ?_
   obtain ⟨eb,ec,c⟩:=zC c
   refine zS rfl rfl (zN en35 rfl) (Fciw E q F _ ec _ _ _ (H.enter [] [0])) ?_
   rintro _ g8 ⟨ed,rfl,ee⟩
   have H:=H.back1 [0] rfl ee
   refine ⟨_,rfl,?_⟩
   refine zH (i6 z) ?_
   have ef:=H
   have H:=H.freeze (i:=5) rfl
   obtain ⟨⟨L,M,G⟩,eg,c⟩:=zC c
   refine zS rfl rfl (zN en34 rfl) (Fadw eb z ed _ eg _ _ _ (H.enter [] [5])) ?_
   rintro _ g9 ⟨rfl,eh⟩
   have H:=ef.step (eh.only:Only [] _ _)
   refine ⟨_,rfl,?_⟩
   refine zH (.tuple #[i6 L,.bool M,i6 G])<| zG (xC (v:=i6 L) rfl rfl)<| zG (xC (v:= .bool M) rfl rfl)<| zG (xC (v:=i6 G) rfl rfl)<| zI (i6 L)<| zI (.bool M)<| zI (i6 G)<| RN ea<| zB fun ha ei=>zA<| zH (i6 q) ?_
   obtain ⟨ej,ek,c⟩:=zD c
   refine zG (aAa (a:=64) (b:=q) rfl rfl ek) ?_
   obtain ⟨el,em,c⟩:=zD c
   refine zG (xM (a:=ej) (b:=64) rfl rfl em) ?_
   obtain ⟨j,en,c⟩:=zD c
   refine zG (dH (a:=el) (b:=1) rfl rfl en)<| zG (xR (cs:=[i6 j,i6 0,i6 0]) (bt46_0 _))<| yS rfl rfl (xB mD H) ?_
   rintro _ hb ⟨au,rfl,H⟩
   refine yZ rfl (yM (vs:=[i6 j,i6 0,i6 0]) H 6 rfl bD rfl rfl rfl ⟨rfl,rfl,rfl,trivial⟩ rfl) ?_
   rintro hc H
   refine RN ei ?_
   obtain ⟨af,c,eo⟩:=zC c
   refine yH [103,104,105,106] (fun (g:Unit)=>[]) (fun g wl=>Hd O w wl S [f1 fE F E,.blk A [.string (bs []),i6 0,.slice none 0 0,i6 0] 41,.blk P [sb l,i6 f.Series.Den,K,i6 63] 41,.own gX K 46 ar,.own (Rp.int .i64) h 3 d3,.blk au [i6 j,i6 af.1,i6 af.2] 46]) ?_ ?_
   ·skip
    refine zB fun he ep=>zA<| zH (.bool M)<| RN ep<| yB (b:=M) rfl (fun ag=>?_) (fun ag=>?_)
    ·have c:=zU ag c
     refine zA ?_
     refine zH (i6 L)<| zG (mQ rfl)<| yZ rfl (xN H 6 rfl sz3 rfl (v:=i6 L) rfl rfl rfl) ?_
     rintro hf H
     refine zG (jW rfl)<| yZ rfl (xN H 6 rfl sz3 rfl (v:=i6 4) rfl rfl rfl) ?_
     rintro hg H
     obtain rfl:=gJ c
     exact (zX (zF (meet ⟨(),zK,H.pick [0,1,2,3,4,6]⟩)))
    have c:=zV ag c
    obtain rfl:=gJ c
    exact (zQ (zF (meet ⟨(),zK,H.pick [0,1,2,3,4,6]⟩)))
   rintro _ ρ hh H
   have c:=eo
   obtain ⟨t,u⟩:=af
   obtain ⟨av,c,eq⟩:=zC c
   refine yH [107,108,109,110,111,112,113,114] (fun (g:Unit)=>[]) (fun g wl=>Hd O w wl S [f1 fE F E,.blk A [.string (bs []),i6 0,.slice none 0 0,i6 0] 41,.blk P [sb l,i6 f.Series.Den,K,i6 63] 41,.own gX K 46 ar,.own (Rp.int .i64) h 3 av,.blk au [i6 j,i6 t,i6 u] 46]) ?_ ?_
   ·skip
    refine zB fun hi er=>zA<| zH (i6 G) ?_
    obtain ⟨es,et,c⟩:=zD c
    refine zG (zM (bG (a:=G) (b:=0) rfl rfl) et)<| RN er<| yB (b:=es) rfl (fun ah=>?_) (fun ah=>?_)
    ·have c:=zU ah c
     refine zA ?_
     refine zH h<| zH (i6 G) ?_
     obtain ⟨aw,ai,c⟩:=zC c
     obtain ⟨hj,hk,eu,ew,ex,ey⟩:=fZ (H.item (i:=4) rfl) ai
     obtain rfl:eu= [i6 aw]:=ex
     refine zG (yV u42 sz3 ew rfl (zO ai).1 (zO ai).2.1 rfl rfl)<| zG (yU fK rfl (Cells.get ey (i:=0) rfl)) ?_
     obtain ⟨ez,e0,c⟩:=zD c
     refine zG (xM (a:=aw) (b:=1) rfl rfl e0) ?_
     obtain ⟨e1,aj,c⟩:=zC c
     obtain ⟨hl,hn,e2,ax,e3,e4⟩:=fZ (H.item (i:=4) rfl) aj
     obtain rfl:e2= [i6 e1]:=e3
     refine zG (yV u42 sz3 ax rfl (zO aj).1 (zO aj).2.1 rfl rfl) ?_
     obtain ⟨ho,e5,c⟩:=zC c
     refine yZ rfl (kP (vs:=[i6 ez]) (off:=0) H 4 rfl ax e4 rfl sz3 rfl rfl rfl (kC ⟨rfl,trivial⟩) e5 (by decide) rfl rfl) ?_
     rintro hp H
     obtain rfl:=gJ c
     exact (zX (zF (meet ⟨(),zK,H.pick [0,1,2,3,4,5]⟩)))
    have c:=zV ah c
    obtain rfl:=gJ c
    exact (zQ (zF (meet ⟨(),zK,H.pick [0,1,2,3,4,5]⟩)))
   rintro _ ρ hq H
   have c:=eq
   refine zA ?_
   refine zG (aY rfl)<| zG (dX rfl)<| Ld aO H 2 2 rfl rfl<| zG (yK (yP (cs:=[i6 j,i6 t,i6 u]) kH rfl bD rfl (Hbc H 5 rfl)) rfl) ?_
   obtain ⟨hr,e6,c⟩:=zD c
   subst e6
   refine yS rfl rfl (kN (r:=gX) (xl:=[fA.mk j t u]) (cs:=[i6 j,i6 t,i6 u]) u37 el46 (by decide) (by decide) rfl (xW (vs:=[.agg [i6 j,i6 t,i6 u].toArray]) (by decide) rfl rfl ⟨rfl,trivial⟩ rfl) H ⟨[i6 j,i6 t,i6 u],[],rfl,(uU (x:=fA.mk j t u)),rfl⟩) ?_
   rintro hs ht H
   obtain ⟨e7,e8,c⟩:=zC c
   refine yS rfl rfl (aU H (i:=3) rfl u37 el46 rfl rfl (Sr.of_own (H.item (i:=6) rfl)) e8) ?_
   rintro ay hu H
   refine zG (aY rfl)<| zG (dX rfl)<| yZ rfl (xN H 2 rfl sz37 rfl (v:=ay) rfl (bM (H.item (i:=3) rfl)) rfl) ?_
   rintro hv H
   refine (zX (yX (zF (d9 _ _ ?_))))
   refine zA ?_
   refine zH (i6 q) ?_
   obtain ⟨az,e9,c⟩:=zD c
   refine zG (xM (a:=q) (b:=1) rfl rfl e9)<| zI (i6 az) ?_
   exact (zX (zF (meet ⟨(d4,az,e7,av,ay),(zJ rfl zK),⟨H.pick [0,1,2,3,4],c⟩,Nat.lt_succ_self _⟩)))
  have c:=zV ae c
  obtain rfl:=gJ c
  exact (xE (yC (yC (yQ (zF (meet ⟨K,zK,H.pick [1,2,3,4]⟩))))))
 rintro ak ρ hw H
 have c:=dz
 obtain ⟨hx,hy⟩:=Q
 refine zB fun hz fa=>zA<| zG (yK (yP (cs:=[sb l,i6 f.Series.Den,ak,i6 63]) bP rfl eF rfl (Hbc H 1 rfl)) rfl)<| zH h<| yZ rfl (yM (vs:=[sb l,i6 f.Series.Den,ak,i6 63]) H 0 rfl eF rfl rfl rfl ⟨rfl,rfl,(bM (H.item (i:=2) rfl)),rfl,trivial⟩ rfl) ?_
 rintro h0 H
 refine zI h<| zI (i6 0)<| RN fa ?_
 have H:=H.freeze (i:=2) rfl
 obtain rfl:=gJ c
 refine (zZ (aN (v1:=h) (v2:=i6 0) rfl rfl (yI bP eF rfl (Hbc H 0 rfl)) rfl rfl ?_))
 exact ⟨ak,h,rfl,H.pick [2,3]⟩
theorem Fb5w (r:(List Str))(a:Fb5=some r)(O S:List Nat)(w:World)(H:Hd O w w S []):
  Cl 97 [] w fun e d=> ∃c,e= .returned (c)∧Hd O w d S [.own Rp.str c 9 r]:=by
 unfold Fb5 at a
 refine CW 2 Tryz.func97 ?_
 refine zB fun i f=>zA<| zI (.slice none 0 0)<| RN f<| zB fun j g=>zA ?_
 obtain ⟨k,h,a⟩:=zD a
 subst h
 refine yS rfl rfl (kN (r:=Rp.str) (xl:=[[112,104,97,115,101],[109,111,118,101],[114,117,108,101],[105,102],[111,114],[97,110,100],[116,114,117,101],[102,97,108,115,101],[115,116,101,97,100,121],[110,111,116],[102,111,114],[119,105,116,104,105,110],[99,111,117,110,116],[111,102],[114,105,115,101,115],[115,105,110,99,101]]) (cs:=[.string (bs [112,104,97,115,101]),.string (bs [109,111,118,101]),.string (bs [114,117,108,101]),.string (bs [105,102]),.string (bs [111,114]),.string (bs [97,110,100]),.string (bs [116,114,117,101]),.string (bs [102,97,108,115,101]),.string (bs [115,116,101,97,100,121]),.string (bs [110,111,116]),.string (bs [102,111,114]),.string (bs [119,105,116,104,105,110]),.string (bs [99,111,117,110,116]),.string (bs [111,102]),.string (bs [114,105,115,101,115]),.string (bs [115,105,110,99,101])]) u36 el9 (by decide) (by decide) rfl (xW (vs:=[.string (bs [112,104,97,115,101]),.string (bs [109,111,118,101]),.string (bs [114,117,108,101]),.string (bs [105,102]),.string (bs [111,114]),.string (bs [97,110,100]),.string (bs [116,114,117,101]),.string (bs [102,97,108,115,101]),.string (bs [115,116,101,97,100,121]),.string (bs [110,111,116]),.string (bs [102,111,114]),.string (bs [119,105,116,104,105,110]),.string (bs [99,111,117,110,116]),.string (bs [111,102]),.string (bs [114,105,115,101,115]),.string (bs [115,105,110,99,101])]) (by decide) rfl rfl ⟨rfl,rfl,rfl,rfl,rfl,rfl,rfl,rfl,rfl,rfl,rfl,rfl,rfl,rfl,rfl,rfl,trivial⟩ rfl) H ⟨[.string (bs [112,104,97,115,101])],[.string (bs [109,111,118,101]),.string (bs [114,117,108,101]),.string (bs [105,102]),.string (bs [111,114]),.string (bs [97,110,100]),.string (bs [116,114,117,101]),.string (bs [102,97,108,115,101]),.string (bs [115,116,101,97,100,121]),.string (bs [110,111,116]),.string (bs [102,111,114]),.string (bs [119,105,116,104,105,110]),.string (bs [99,111,117,110,116]),.string (bs [111,102]),.string (bs [114,105,115,101,115]),.string (bs [115,105,110,99,101])],rfl,rfl,⟨[.string (bs [109,111,118,101])],[.string (bs [114,117,108,101]),.string (bs [105,102]),.string (bs [111,114]),.string (bs [97,110,100]),.string (bs [116,114,117,101]),.string (bs [102,97,108,115,101]),.string (bs [115,116,101,97,100,121]),.string (bs [110,111,116]),.string (bs [102,111,114]),.string (bs [119,105,116,104,105,110]),.string (bs [99,111,117,110,116]),.string (bs [111,102]),.string (bs [114,105,115,101,115]),.string (bs [115,105,110,99,101])],rfl,rfl,⟨[.string (bs [114,117,108,101])],[.string (bs [105,102]),.string (bs [111,114]),.string (bs [97,110,100]),.string (bs [116,114,117,101]),.string (bs [102,97,108,115,101]),.string (bs [115,116,101,97,100,121]),.string (bs [110,111,116]),.string (bs [102,111,114]),.string (bs [119,105,116,104,105,110]),.string (bs [99,111,117,110,116]),.string (bs [111,102]),.string (bs [114,105,115,101,115]),.string (bs [115,105,110,99,101])],rfl,rfl,⟨[.string (bs [105,102])],[.string (bs [111,114]),.string (bs [97,110,100]),.string (bs [116,114,117,101]),.string (bs [102,97,108,115,101]),.string (bs [115,116,101,97,100,121]),.string (bs [110,111,116]),.string (bs [102,111,114]),.string (bs [119,105,116,104,105,110]),.string (bs [99,111,117,110,116]),.string (bs [111,102]),.string (bs [114,105,115,101,115]),.string (bs [115,105,110,99,101])],rfl,rfl,⟨[.string (bs [111,114])],[.string (bs [97,110,100]),.string (bs [116,114,117,101]),.string (bs [102,97,108,115,101]),.string (bs [115,116,101,97,100,121]),.string (bs [110,111,116]),.string (bs [102,111,114]),.string (bs [119,105,116,104,105,110]),.string (bs [99,111,117,110,116]),.string (bs [111,102]),.string (bs [114,105,115,101,115]),.string (bs [115,105,110,99,101])],rfl,rfl,⟨[.string (bs [97,110,100])],[.string (bs [116,114,117,101]),.string (bs [102,97,108,115,101]),.string (bs [115,116,101,97,100,121]),.string (bs [110,111,116]),.string (bs [102,111,114]),.string (bs [119,105,116,104,105,110]),.string (bs [99,111,117,110,116]),.string (bs [111,102]),.string (bs [114,105,115,101,115]),.string (bs [115,105,110,99,101])],rfl,rfl,⟨[.string (bs [116,114,117,101])],[.string (bs [102,97,108,115,101]),.string (bs [115,116,101,97,100,121]),.string (bs [110,111,116]),.string (bs [102,111,114]),.string (bs [119,105,116,104,105,110]),.string (bs [99,111,117,110,116]),.string (bs [111,102]),.string (bs [114,105,115,101,115]),.string (bs [115,105,110,99,101])],rfl,rfl,⟨[.string (bs [102,97,108,115,101])],[.string (bs [115,116,101,97,100,121]),.string (bs [110,111,116]),.string (bs [102,111,114]),.string (bs [119,105,116,104,105,110]),.string (bs [99,111,117,110,116]),.string (bs [111,102]),.string (bs [114,105,115,101,115]),.string (bs [115,105,110,99,101])],rfl,rfl,⟨[.string (bs [115,116,101,97,100,121])],[.string (bs [110,111,116]),.string (bs [102,111,114]),.string (bs [119,105,116,104,105,110]),.string (bs [99,111,117,110,116]),.string (bs [111,102]),.string (bs [114,105,115,101,115]),.string (bs [115,105,110,99,101])],rfl,rfl,⟨[.string (bs [110,111,116])],[.string (bs [102,111,114]),.string (bs [119,105,116,104,105,110]),.string (bs [99,111,117,110,116]),.string (bs [111,102]),.string (bs [114,105,115,101,115]),.string (bs [115,105,110,99,101])],rfl,rfl,⟨[.string (bs [102,111,114])],[.string (bs [119,105,116,104,105,110]),.string (bs [99,111,117,110,116]),.string (bs [111,102]),.string (bs [114,105,115,101,115]),.string (bs [115,105,110,99,101])],rfl,rfl,⟨[.string (bs [119,105,116,104,105,110])],[.string (bs [99,111,117,110,116]),.string (bs [111,102]),.string (bs [114,105,115,101,115]),.string (bs [115,105,110,99,101])],rfl,rfl,⟨[.string (bs [99,111,117,110,116])],[.string (bs [111,102]),.string (bs [114,105,115,101,115]),.string (bs [115,105,110,99,101])],rfl,rfl,⟨[.string (bs [111,102])],[.string (bs [114,105,115,101,115]),.string (bs [115,105,110,99,101])],rfl,rfl,⟨[.string (bs [114,105,115,101,115])],[.string (bs [115,105,110,99,101])],rfl,rfl,⟨[.string (bs [115,105,110,99,101])],[],rfl,rfl,rfl⟩⟩⟩⟩⟩⟩⟩⟩⟩⟩⟩⟩⟩⟩⟩⟩) ?_
 rintro b l H
 refine zI b<| RN g ?_
 obtain rfl:=gJ a
 refine (zZ (fB (v1:=b) rfl rfl ?_))
 exact ⟨b,rfl,H.pick [0]⟩
theorem Fa2w (f:Str)(r:Bool)(c:Fa2 f=some r)(O S:List Nat)(w:World)(H:Hd O w w S []):
  Cl 71 [sb f] w fun e p=>e= .returned (.bool r)∧Hd O w p S []:=by
 unfold Fa2 at c
 refine CW 18 Tryz.func71 ?_
 refine zB fun Z q=>zA<| zI (.bool false)<| RN q<| zB fun K2 s=>zA ?_
 obtain ⟨t,u,c⟩:=zC c
 refine zS rfl rfl (zN en97 rfl) (Fb5w _ u _ _ _ (H.enter [] [])) ?_
 rintro _ w7 ⟨h,rfl,v⟩
 have H:=H.back1 [] rfl v
 refine ⟨_,rfl,?_⟩
 refine zI h<| RN s ?_
 obtain ⟨x,y,c⟩:=xJ c
 refine yH [2,4,6,7,8,9,10,11,12,13,14,15,16,17] (fun (g:Unit)=>[]) (fun g wl=>Hd O w wl S []∧x ()=some r) ?_ ?_
 ·skip
  refine zB fun ac z=>zA<| zI (i6 0)<| RN z<| zY ?_
  unfold Fcm at c
  obtain ⟨A,m,B,c⟩:=yF c
  refine xA [2,4,6,7,8,9,10,11,12,13,14,15,16,17] (fun (g:Nat×Int)=>[(4,i6 g.2)]) (fun g wl=>Hd O w wl S [.own Rp.str h 9 t]∧fF A g.1 g.2=some r) (fun g=>g.1) (m,0) (zJ rfl zK) ⟨H.pick [0],c⟩ ?_
  clear H c
  rintro ⟨m,d⟩ ρ ad ⟨H,c⟩
  obtain ⟨C,rfl,c⟩:=yN c
  have c:=yO B c
  refine zB fun ae D=>?_
  refine zB fun af E=>zA<| zH (i6 d)<| zH h ?_
  obtain ⟨F,G,c⟩:=zD c
  obtain ⟨ag,ah,I⟩:=Sr.len (Sr.of_own (H.item (i:=0) rfl))
  refine zG (yK (xK u36 I) (congrArg (Value.int .i64) G)) ?_
  obtain ⟨J,K,c⟩:=zD c
  refine zG (zM (xG (a:=d) (b:=F) rfl rfl) K)<| RN E<| yB (b:=J) rfl (fun j=>?_) (fun j=>?_)
  ·have c:=zU j c
   refine zQ (zF (D _ _ ?_))
   refine zB fun ai L=>?_
   refine zY ?_
   refine zB fun aj M=>zA<| zH h<| zH (i6 d) ?_
   obtain ⟨n,k,c⟩:=zC c
   obtain ⟨ak,al,N,P,Q,R⟩:=fZ (H.item (i:=0) rfl) k
   obtain rfl:N= [sb n]:=Q
   refine zG (yV u36 sz9 P rfl (zO k).1 (zO k).2.1 rfl rfl)<| zG (yU dQ rfl (Cells.get R (i:=0) rfl))<| zH (sb f) ?_
   obtain ⟨T,U,c⟩:=zD c
   refine zG (zM (wB (s1:=n) (s2:=f) rfl rfl) U)<| RN M<| yB (b:=T) rfl (fun l=>?_) (fun l=>?_)
   ·have c:=zU l c
    refine zB fun am V=>zA<| zI (.bool true)<| RN V ?_
    obtain rfl:=gJ c
    refine (zZ (yG (zW (zW (yG (zW (fB (v1:= .bool true) rfl rfl ?_)))))))
    exact ⟨rfl,H.pick []⟩
   have c:=zV l c
   refine (zQ (yX (zF (L _ _ ?_))))
   refine zA ?_
   refine zH (i6 d) ?_
   obtain ⟨o,X,c⟩:=zD c
   refine zG (xM (a:=d) (b:=1) rfl rfl X)<| zI (i6 o) ?_
   exact (zX (zF (meet ⟨(C,o),(zJ rfl zK),⟨H.pick [0],c⟩,Nat.lt_succ_self _⟩)))
  have c:=zV j c
  exact (xE (yC (yC (yQ (zF (meet ⟨(),zK,⟨H.pick [],c⟩⟩))))))
 rintro _ ρ an ⟨H,c⟩
 have c:=xO y c
 refine zB fun ao Y=>zA<| zI (.bool false)<| RN Y ?_
 obtain rfl:=gJ c
 refine (zZ (fB (v1:= .bool false) rfl rfl ?_))
 exact ⟨rfl,H.pick []⟩
set_option maxRecDepth 100000 in
theorem Fa6w (d:Str)(r:Bool)(c:Fa6 d=some r)(O S:List Nat)(w:World)(H:Hd O w w S []):
  Cl 49 [sb d] w fun e F=>e= .returned (.bool r)∧Hd O w F S []:=by
 unfold Fa6 at c
 refine CW 49 Tryz.func49 ?_
 refine zB fun K1 G=>zA<| zI (.bool false)<| RN G ?_
 obtain ⟨I,J,c⟩:=xJ c
 refine yH [2,3,4,5,6,7,8,9,10,11,12,13,14,15,16,17,18,19,20,21,22,23,24,25,26,27,28,29,30,31,32,33,34,35,36] (fun (g:Unit)=>[]) (fun g wl=>Hd O w wl S []∧I ()=some r) ?_ ?_
 ·skip
  refine zB fun a7 K=>zA<| zI (i6 0)<| RN K<| zY ?_
  unfold Fb3 at c
  obtain ⟨L,x,M,c⟩:=yF c
  refine xA [2,3,4,5,6,7,8,9,10,11,12,13,14,15,16,17,18,19,20,21,22,23,24,25,26,27,28,29,30,31,32,33,34,35,36] (fun (g:Nat×Int)=>[(3,i6 g.2)]) (fun g wl=>Hd O w wl S []∧fF L g.1 g.2=some r) (fun g=>g.1) (x,0) (zJ rfl zK) ⟨H.pick [],c⟩ ?_
  clear H c
  rintro ⟨x,h⟩ ρ a8 ⟨H,c⟩
  obtain ⟨N,rfl,c⟩:=yN c
  have c:=yO M c
  refine zB fun a9 P=>?_
  refine zB fun ba Q=>zA<| zH (i6 h)<| zH (sb d) ?_
  obtain ⟨R,T,c⟩:=zD c
  refine zG (yK (bK (s1:=d) u9 rfl) (congrArg (Value.int .i64) T)) ?_
  obtain ⟨U,V,c⟩:=zD c
  refine zG (zM (xG (a:=h) (b:=R) rfl rfl) V)<| RN Q<| yB (b:=U) rfl (fun j=>?_) (fun j=>?_)
  ·have c:=zU j c
   refine zQ (zF (P _ _ ?_))
   refine zB fun bb X=>?_
   refine zY ?_
   refine zB fun bc Y=>zA<| zH (sb d)<| zH (i6 h) ?_
   obtain ⟨f,Z,c⟩:=zC c
   refine zG (nO (s1:=d) (q:=h) u9 rfl rfl Z)<| zI (.int .u8 f)<| RN Y ?_
   obtain ⟨y,c,aa⟩:=zC c
   refine yH [14,15,16,17,18,19,20,21,22,23,24,25,26,27,28,29,30,31,32,33,34,35,36] (fun (g:Unit)=>[(36,.bool y)]) (fun g wl=>Hd O w wl S []) ?_ ?_
   ·skip
    refine zA ?_
    refine zH (.int .u8 f) ?_
    obtain ⟨ab,ac,c⟩:=zD c
    refine zG (zM (bG (a:=f) (b:=97) rfl rfl) ac) ?_
    obtain ⟨z,c,ad⟩:=zC c
    refine eU 4 [16,17,18,19] [(19,.bool z)] (fun wl=>Hd O w wl S []) ?_ ?_
    ·skip
     refine xI (b:=ab) rfl rfl rfl (fun k=>?_) (fun k=>?_)
     ·have c:=zU k c
      refine zH (.int .u8 f) ?_
      obtain ⟨ae,af,c⟩:=zD c
      refine zG (zM (bV (a:=f) (b:=122) rfl rfl) af)<| zG (yL (v:= .bool ae) rfl rfl) ?_
      obtain rfl:=gJ c
      exact zX (zF (meet ⟨(zJ rfl zK),H.pick []⟩))
     have c:=zV k c
     refine yT ?_
     refine yT ?_
     refine zG (yD (v:= .bool false) rfl rfl) ?_
     obtain rfl:=gJ c
     exact zX (zF (meet ⟨(zJ rfl zK),H.pick []⟩))
    rintro ρ bd H
    have c:=ad
    refine xI (b:=z) rfl rfl rfl (fun l=>?_) (fun l=>?_)
    ·have c:=zU l c
     refine yT ?_
     refine yT ?_
     refine yT ?_
     refine yT ?_
     refine yT ?_
     refine yT ?_
     refine yT ?_
     refine yT ?_
     refine yT ?_
     refine yT ?_
     refine yT ?_
     refine yT ?_
     refine yT ?_
     refine yT ?_
     refine zG (yL (v:= .bool true) rfl rfl)<| zG (fV (p:=true) rfl) ?_
     obtain rfl:=gJ c
     exact (zX (zF (meet ⟨(),(zJ rfl zK),H.pick []⟩)))
    have c:=zV l c
    refine zH (i6 h) ?_
    obtain ⟨ag,ah,c⟩:=zD c
    refine zG (zM (eX (a:=h) (b:=0) rfl rfl) ah)<| xI (b:=ag) rfl rfl rfl (fun m=>?_) (fun m=>?_)
    ·have c:=zU m c
     refine zH (.int .u8 f) ?_
     obtain ⟨ai,aj,c⟩:=zD c
     refine zG (zM (bG (a:=f) (b:=48) rfl rfl) aj) ?_
     obtain ⟨A,c,ak⟩:=zC c
     refine eU 4 [26,27,28,29] [(29,.bool A)] (fun wl=>Hd O w wl S []) ?_ ?_
     ·skip
      refine xI (b:=ai) rfl rfl rfl (fun n=>?_) (fun n=>?_)
      ·have c:=zU n c
       refine zH (.int .u8 f) ?_
       obtain ⟨al,am,c⟩:=zD c
       refine zG (zM (bV (a:=f) (b:=57) rfl rfl) am)<| zG (yL (v:= .bool al) rfl rfl) ?_
       obtain rfl:=gJ c
       exact zX (zF (meet ⟨(zJ rfl zK),H.pick []⟩))
      have c:=zV n c
      refine yT ?_
      refine yT ?_
      refine zG (yD (v:= .bool false) rfl rfl) ?_
      obtain rfl:=gJ c
      exact zX (zF (meet ⟨(zJ rfl zK),H.pick []⟩))
     rintro ρ be H
     have c:=ak
     refine xI (b:=A) rfl rfl rfl (fun o=>?_) (fun o=>?_)
     ·have c:=zU o c
      refine yT ?_
      refine yT ?_
      refine zG (yL (v:= .bool true) rfl rfl)<| zG (yL (v:= .bool true) rfl rfl)<| zG (yD (v:= .bool true) rfl rfl)<| zG (fV (p:=true) rfl) ?_
      obtain rfl:=gJ c
      exact (zX (zF (meet ⟨(),(zJ rfl zK),H.pick []⟩)))
     have c:=zV o c
     refine zH (.int .u8 f) ?_
     obtain ⟨i,an,c⟩:=zD c
     refine zG (zM (wC (a:=f) (b:=45) rfl rfl) an)<| zG (yD (v:= .bool i) rfl rfl)<| zG (yL (v:= .bool i) rfl rfl)<| zG (yD (v:= .bool i) rfl rfl) ?_
     obtain ⟨bf,ao,c⟩:=zD c
     refine zG (zM (fV (p:=i) rfl) ao) ?_
     obtain rfl:=gJ c
     exact (zX (zF (meet ⟨(),(zJ rfl zK),H.pick []⟩)))
    have c:=zV m c
    refine yT ?_
    refine yT ?_
    refine yT ?_
    refine yT ?_
    refine yT ?_
    refine yT ?_
    refine yT ?_
    refine yT ?_
    refine yT ?_
    refine yT ?_
    refine zG (yD (v:= .bool false) rfl rfl)<| zG (yD (v:= .bool false) rfl rfl)<| zG (fV (p:=false) rfl) ?_
    obtain rfl:=gJ c
    exact (zX (zF (meet ⟨(),(zJ rfl zK),H.pick []⟩)))
   rintro _ ρ bg H
   have c:=aa
   refine yB (b:=y) rfl (fun s=>?_) (fun s=>?_)
   ·have c:=zU s c
    refine zB fun bh ap=>zA<| zI (.bool false)<| RN ap ?_
    obtain rfl:=gJ c
    refine (zZ (yG (zW (zW (yG (zW (fB (v1:= .bool false) rfl rfl ?_)))))))
    exact ⟨rfl,H.pick []⟩
   have c:=zV s c
   refine (zQ (yX (zF (X _ _ ?_))))
   refine zA ?_
   refine zH (i6 h) ?_
   obtain ⟨B,aq,c⟩:=zD c
   refine zG (xM (a:=h) (b:=1) rfl rfl aq)<| zI (i6 B) ?_
   exact (zX (zF (meet ⟨(N,B),(zJ rfl zK),⟨H.pick [],c⟩,Nat.lt_succ_self _⟩)))
  have c:=zV j c
  exact (xE (yC (yC (yQ (zF (meet ⟨(),zK,⟨H.pick [],c⟩⟩))))))
 rintro _ ρ bi ⟨H,c⟩
 have c:=xO J c
 obtain ⟨C,c,ar⟩:=zC c
 refine yH [2,37,38,39,40,41,42,43,44,45,46,47,48] (fun (g:Unit)=>[(2,.bool C)]) (fun g wl=>Hd O w wl S []) ?_ ?_
 ·skip
  refine zA ?_
  refine zH (sb d) ?_
  obtain ⟨au,av,c⟩:=zD c
  refine zG (zM (aFc (s1:=d) (s2:=[]) rfl rfl) av) ?_
  obtain ⟨D,c,aw⟩:=zC c
  refine eU 5 [39,40,41,42,43] [(43,.bool D)] (fun wl=>Hd O w wl S []) ?_ ?_
  ·skip
   refine xI (b:=au) rfl rfl rfl (fun t=>?_) (fun t=>?_)
   ·have c:=zU t c
    refine zH (sb d) ?_
    obtain ⟨ax,ay,c⟩:=zD c
    refine zG (yK (bK (s1:=d) u9 rfl) (congrArg (Value.int .i64) ay)) ?_
    obtain ⟨az,a0,c⟩:=zD c
    refine zG (zM (bV (a:=ax) (b:=30) rfl rfl) a0)<| zG (yL (v:= .bool az) rfl rfl) ?_
    obtain rfl:=gJ c
    exact zX (zF (meet ⟨(zJ rfl zK),H.pick []⟩))
   have c:=zV t c
   refine yT ?_
   refine yT ?_
   refine yT ?_
   refine zG (yD (v:= .bool false) rfl rfl) ?_
   obtain rfl:=gJ c
   exact zX (zF (meet ⟨(zJ rfl zK),H.pick []⟩))
  rintro ρ bj H
  have c:=aw
  refine xI (b:=D) rfl rfl rfl (fun u=>?_) (fun u=>?_)
  ·have c:=zU u c
   refine zH (sb d) ?_
   have a1:=H
   obtain ⟨a2,a3,c⟩:=zC c
   refine zS rfl rfl (zN en71 rfl) (Fa2w d _ a3 _ _ _ (H.enter [] [])) ?_
   rintro _ bk ⟨rfl,a4⟩
   have H:=a1.step (a4.only:Only [] _ _)
   refine ⟨_,rfl,?_⟩
   obtain ⟨E,a5,c⟩:=zD c
   refine zG (zM (fV (p:=a2) rfl) a5)<| zG (yL (v:= .bool E) rfl rfl)<| zI (.bool E) ?_
   obtain rfl:=gJ c
   exact (zX (zF (meet ⟨(),(zJ rfl zK),H.pick []⟩)))
  have c:=zV u c
  refine yT ?_
  refine yT ?_
  refine yT ?_
  refine zG (yD (v:= .bool false) rfl rfl)<| zI (.bool false) ?_
  obtain rfl:=gJ c
  exact (zX (zF (meet ⟨(),(zJ rfl zK),H.pick []⟩)))
 rintro _ ρ bl H
 have c:=ar
 obtain rfl:=gJ c
 refine (zZ (fB (v1:= .bool C) rfl rfl ?_))
 exact ⟨rfl,H.pick []⟩
theorem Faew (d:Int)(f:Int)(h:Int)(r:Bool)(c:Fae d f h=some r)(O S:List Nat)(w:World)(H:Hd O w w S []):
  Cl 98 [i6 d,i6 f,i6 h] w fun e l=>e= .returned (.bool r)∧Hd O w l S []:=by
 unfold Fae at c
 refine CW 15 Tryz.func98 ?_
 refine zB fun s m=>zA<| zI (.bool false)<| RN m ?_
 obtain ⟨j,c,n⟩:=zC c
 refine yH [6,7,8,9,10,11,12,13,14] (fun (g:Unit)=>[(6,.bool j)]) (fun g wl=>Hd O w wl S []) ?_ ?_
 ·skip
  refine zA ?_
  refine zH (i6 d)<| zH (i6 f) ?_
  obtain ⟨o,p,c⟩:=zD c
  refine zG (zM (xG (a:=d) (b:=f) rfl rfl) p)<| xI (b:=o) rfl rfl rfl (fun i=>?_) (fun i=>?_)
  ·have c:=zU i c
   refine yT ?_
   refine yT ?_
   refine yT ?_
   refine zG (yL (v:= .bool true) rfl rfl)<| zI (.bool true) ?_
   obtain rfl:=gJ c
   exact (zX (zF (meet ⟨(),(zJ rfl zK),H.pick []⟩)))
  have c:=zV i c
  refine zH (i6 d)<| zH (i6 h) ?_
  obtain ⟨k,q,c⟩:=zD c
  refine zG (zM (eX (a:=d) (b:=h) rfl rfl) q)<| zG (yD (v:= .bool k) rfl rfl)<| zI (.bool k) ?_
  obtain rfl:=gJ c
  exact (zX (zF (meet ⟨(),(zJ rfl zK),H.pick []⟩)))
 rintro _ ρ t H
 have c:=n
 obtain rfl:=gJ c
 refine (zZ (fB (v1:= .bool j) rfl rfl ?_))
 exact ⟨rfl,H.pick []⟩
theorem Fctw (c:Int)(r:Bool)(d:Fct c=some r)(O S:List Nat)(w:World)(H:Hd O w w S []):
  Cl 131 [i6 c] w fun e g=>e= .returned (.bool r)∧Hd O w g S []:=by
 unfold Fct at d
 refine CW 5 Tryz.func131 ?_
 refine zB fun k h=>zA<| zI (.bool false)<| RN h<| zB fun l i=>zA<| zH (i6 c) ?_
 obtain ⟨f,j,d⟩:=zD d
 refine zG (zM (bG (a:=c) (b:=2) rfl rfl) j)<| zI (.bool f)<| RN i ?_
 obtain rfl:=gJ d
 refine (zZ (fB (v1:= .bool f) rfl rfl ?_))
 exact ⟨rfl,H.pick []⟩
end Go.Proofs.YtgmikmoapfmedaaGreatDoor.L
