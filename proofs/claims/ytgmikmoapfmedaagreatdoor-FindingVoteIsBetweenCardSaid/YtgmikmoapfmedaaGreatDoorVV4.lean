/- Walks: what each function computes, for every argument; no condition but those that stand in the statements. -/
import Derived.Test.YtgmikmoapfmedaaGreatDoorVV0
import Derived.Test.YtgmikmoapfmedaaGreatDoorVV1
import Derived.Test.YtgmikmoapfmedaaGreatDoorVV3
namespace Go.Proofs.YtgmikmoapfmedaaGreatDoor.L
open Go.RowKit Go.OB Go.Lf
set_option maxHeartbeats 4000000
theorem Faxw (f:List Str)(d:Str)(v1:Value)(r:Bool)(c:Fax f d=some r)(O S:List Nat)(w:World)(H:Hd O w w S [f1 Rp.str v1 f]):
  Cl 61 [v1,sb d] w fun e h=>e= .returned (.bool r)∧Hd O w h S []:=by
 unfold Fax at c
 refine CW 9 Tryz.func61 ?_
 refine zB fun p i=>zA<| zI (.bool false)<| RN i<| zB fun q j=>zA<| zH v1<| zH (sb d) ?_
 have k:=H
 obtain ⟨l,m,c⟩:=zD c
 refine zT rfl rfl (zO en90 rfl) (Fa2w f d v1 _ m _ _ _ (H.enter [] [0])) ?_
 rintro _ s ⟨rfl,n⟩
 have H:=k.step (n.only:Only [] _ _)
 refine ⟨_,rfl,?_⟩
 obtain ⟨g,o,c⟩:=zC c
 refine zG (zL (bI (a:=l) (b:=0) rfl rfl) o)<| zI (.bool g)<| RN j ?_
 obtain rfl:=gI c
 refine (zX (fB (v1:= .bool g) rfl rfl ?_))
 exact ⟨rfl,H.pick []⟩
set_option maxRecDepth 100000 in
theorem Fakw (h:List gV)(k:List Str)(v1:Value)(d:Value)(r:Int)(c:Fak h k=some r)(O S:List Nat)(w:World)(H:Hd O w w S [f1 fD v1 h,f1 Rp.str d k]):
  Cl 32 [v1,d] w fun e j=>e= .returned (i6 r)∧Hd O w j S []:=by
 unfold Fak at c
 refine CW 64 Tryz.func32 ?_
 refine zB fun K5 Y=>zA<| zI (i6 0)<| RN Y<| zB fun d3 Z=>zB fun d4 aa=>zA<| zH d ?_
 obtain ⟨ab,ac,c⟩:=zC c
 obtain ⟨d5,d6,ad⟩:=SlF.len ((H.item (i:=1) rfl))
 refine zG (yJ (xJ u36 ad) (congrArg (Value.int .i64) ac)) ?_
 obtain ⟨ae,af,c⟩:=zC c
 refine zG (zL (eQ (a:=ab) (b:=3) rfl rfl) af)<| RN aa<| yC (b:=ae) rfl (fun p=>?_) (fun p=>?_)
 ·have c:=zU p c
  refine zB fun d7 ag=>zA<| zI (i6 2)<| RN ag ?_
  obtain rfl:=gI c
  refine (zX (zS (fB (v1:=i6 2) rfl rfl ?_)))
  exact ⟨rfl,H.pick []⟩
 have c:=zV p c
 refine zQ (zF (Z _ _ ?_))
 obtain ⟨ah,ai,c⟩:=xH c
 refine yI [4,6,14,15,16,17,18,19,20,21,22,23,24] (fun (g:Unit)=>[]) (fun g wl=>Hd O w wl S [f1 fD v1 h,f1 Rp.str d k]∧ah ()=some r) ?_ ?_
 ·skip
  refine zB fun d8 aj=>zA<| zH d ?_
  obtain ⟨ak,al,c⟩:=zC c
  obtain ⟨d9,ea,am⟩:=SlF.len ((H.item (i:=1) rfl))
  refine zG (yJ (xJ u36 am) (congrArg (Value.int .i64) al))<| zH (i6 0)<| RN aj<| zY ?_
  unfold Fc8 at c
  obtain ⟨an,I,ao,c⟩:=yK c
  refine yX [4,6,16,17,18,19,20,21,22,23,24] (fun (g:Nat×Int)=>[(16,i6 g.2)]) (fun g wl=>Hd O w wl S [f1 fD v1 h,f1 Rp.str d k]∧fE an g.1 g.2=some r) (fun g=>g.1) (I,0) (zJ rfl zK) ⟨H.pick [0,1],c⟩ ?_
  clear H c
  rintro ⟨I,q⟩ ρ eb ⟨H,c⟩
  obtain ⟨ap,rfl,c⟩:=yO c
  have c:=yN ao c
  refine zB fun ec aq=>zA ?_
  obtain ⟨ar,au,c⟩:=zC c
  refine zG (zL (xI (a:=q) (b:=ak) rfl rfl) au)<| RN aq<| zB fun ed av=>yC (b:=ar) rfl (fun s=>?_) (fun s=>?_)
  ·have c:=zU s c
   refine zQ (zF (av _ _ ?_))
   refine zB fun ee aw=>?_
   refine zY ?_
   refine zB fun ef ax=>zA ?_
   obtain ⟨m,t,c⟩:=zD c
   obtain ⟨ay,az,eg,a0,a1,a2,a3,a4,a5⟩:=xU (H.item (i:=1) rfl) t
   obtain rfl:a0= [sb m]:=a2
   have H:=H.fz (.at ay (az+q.toNat * 1) _) ⟨a3,a4,a5⟩
   refine zG (yU u36 sz9 a1 rfl (zN t).1 (zN t).2.1 rfl rfl)<| zG (yZ dQ rfl (Cells.get (H.item (i:=2) rfl).2.2 (i:=0) rfl))<| zI (sb m)<| RN ax<| zB fun eh a6=>zA<| zH v1<| zH (sb m) ?_
   have a7:=H
   obtain ⟨a8,a9,c⟩:=zD c
   refine zT rfl rfl (zO en20 rfl) (Faaw h m v1 _ a9 _ _ _ (H.enter [] [0])) ?_
   rintro _ ei ⟨rfl,ba⟩
   have H:=a7.step (ba.only:Only [] _ _)
   refine ⟨_,rfl,?_⟩
   obtain ⟨bb,bc,c⟩:=zC c
   refine zG (zL (xI (a:=a8) (b:=0) rfl rfl) bc)<| RN a6<| yC (b:=bb) rfl (fun u=>?_) (fun u=>?_)
   ·have c:=zU u c
    refine zB fun ej bd=>zA<| zI (i6 4)<| RN bd ?_
    obtain rfl:=gI c
    refine (zX (yE (zS (zS (yE (zS (fB (v1:=i6 4) rfl rfl ?_)))))))
    exact ⟨rfl,H.pick []⟩
   have c:=zV u c
   refine (zQ (yV (zF (aw _ _ ?_))))
   refine zA ?_
   obtain ⟨J,be,c⟩:=zC c
   refine zG (xP (a:=q) (b:=1) rfl rfl be)<| zH (i6 J) ?_
   exact (zZ (zF (meet ⟨(ap,J),(zJ rfl zK),⟨H.pick [0,1],c⟩,Nat.lt_succ_self _⟩)))
  have c:=zV s c
  exact (xG (yD (yD (yS (zF (meet ⟨(),zK,⟨H.pick [0,1],c⟩⟩))))))
 rintro _ ρ ek ⟨H,c⟩
 have c:=xO ai c
 obtain ⟨bf,bg,c⟩:=xH c
 refine yI [4,7,8,25,26,27,28,29,30,31,32,33,34,35,36,37] (fun (g:Unit)=>[]) (fun g wl=>Hd O w wl S [f1 fD v1 h,f1 Rp.str d k]∧bf ()=some r) ?_ ?_
 ·skip
  refine zB fun el bh=>zA<| zH d ?_
  obtain ⟨bi,bj,c⟩:=zC c
  obtain ⟨em,en,bk⟩:=SlF.len ((H.item (i:=1) rfl))
  refine zG (yJ (xJ u36 bk) (congrArg (Value.int .i64) bj))<| zH (i6 0)<| RN bh<| zY ?_
  unfold Fbr at c
  obtain ⟨bl,K,bm,c⟩:=yK c
  refine yX [4,7,8,27,28,29,30,31,32,33,34,35,36,37] (fun (g:Nat×Int)=>[(27,i6 g.2)]) (fun g wl=>Hd O w wl S [f1 fD v1 h,f1 Rp.str d k]∧fE bl g.1 g.2=some r) (fun g=>g.1) (K,0) (zJ rfl zK) ⟨H.pick [0,1],c⟩ ?_
  clear H c
  rintro ⟨K,l⟩ ρ eo ⟨H,c⟩
  obtain ⟨bn,rfl,c⟩:=yO c
  have c:=yN bm c
  refine zB fun ep bo=>zA ?_
  obtain ⟨bp,bq,c⟩:=zC c
  refine zG (zL (xI (a:=l) (b:=bi) rfl rfl) bq)<| RN bo<| zB fun eq br=>yC (b:=bp) rfl (fun x=>?_) (fun x=>?_)
  ·have c:=zU x c
   refine zQ (zF (br _ _ ?_))
   refine zB fun er bt=>?_
   refine zY ?_
   refine zB fun es bu=>zA<| zH (i6 l) ?_
   obtain ⟨n,y,c⟩:=zD c
   obtain ⟨bv,bw,et,bx,bz,b0,b1,b2,b3⟩:=xU (H.item (i:=1) rfl) y
   obtain rfl:bx= [sb n]:=b0
   have H:=H.fz (.at bv (bw+l.toNat * 1) _) ⟨b1,b2,b3⟩
   refine zG (yU u36 sz9 bz rfl (zN y).1 (zN y).2.1 rfl rfl)<| zG (yZ dQ rfl (Cells.get (H.item (i:=2) rfl).2.2 (i:=0) rfl))<| zI (i6 l)<| zI (sb n)<| RN bu<| zB fun eu b4=>zA<| zH d<| zH (i6 l) ?_
   obtain ⟨L,b5,c⟩:=zD c
   refine wW rfl rfl (jT u36 sz9 (H.item (i:=1) rfl) rfl rfl b5) ?_
   rintro M b6
   have H:=H.fz (.sl Rp.str M L) b6
   refine zH (sb n) ?_
   have b7:=H
   obtain ⟨b8,b9,c⟩:=zD c
   refine zT rfl rfl (zO en61 rfl) (Faxw L n M _ b9 _ _ _ (H.enter [] [3])) ?_
   rintro _ ew ⟨rfl,ca⟩
   have H:=b7.step (ca.only:Only [] _ _)
   refine ⟨_,rfl,?_⟩
   refine RN b4<| yC (b:=b8) rfl (fun z=>?_) (fun z=>?_)
   ·have c:=zU z c
    refine zB fun ex cb=>zA<| zI (i6 5)<| RN cb ?_
    obtain rfl:=gI c
    refine (zX (yE (zS (zS (yE (zS (fB (v1:=i6 5) rfl rfl ?_)))))))
    exact ⟨rfl,H.pick []⟩
   have c:=zV z c
   refine (zQ (yV (zF (bt _ _ ?_))))
   refine zA ?_
   obtain ⟨N,cc,c⟩:=zC c
   refine zG (xP (a:=l) (b:=1) rfl rfl cc)<| zH (i6 N) ?_
   exact (zZ (zF (meet ⟨(bn,N),(zJ rfl zK),⟨H.pick [0,1],c⟩,Nat.lt_succ_self _⟩)))
  have c:=zV x c
  exact (xG (yD (yD (yS (zF (meet ⟨(),zK,⟨H.pick [0,1],c⟩⟩))))))
 rintro _ ρ ey ⟨H,c⟩
 have c:=xO bg c
 obtain ⟨cd,ce,c⟩:=xH c
 refine yI [4,10,38,39,40,41,42,43,44,45,46,47,48,49,50,51,52,53,54,55,56,57,58,59,60,61,62,63] (fun (g:Unit)=>[]) (fun g wl=>Hd O w wl S []∧cd ()=some r) ?_ ?_
 ·skip
  refine zB fun ez cf=>zA<| zH d ?_
  obtain ⟨cg,ch,c⟩:=zC c
  obtain ⟨e0,e1,ci⟩:=SlF.len ((H.item (i:=1) rfl))
  refine zG (yJ (xJ u36 ci) (congrArg (Value.int .i64) ch))<| zH (i6 0)<| RN cf<| zY ?_
  unfold Fa8 at c
  obtain ⟨cj,P,ck,c⟩:=yK c
  refine yX [4,10,40,41,42,43,44,45,46,47,48,49,50,51,52,53,54,55,56,57,58,59,60,61,62,63] (fun (g:Nat×Int)=>[(40,i6 g.2)]) (fun g wl=>Hd O w wl S [f1 fD v1 h,f1 Rp.str d k]∧fE cj g.1 g.2=some r) (fun g=>g.1) (P,0) (zJ rfl zK) ⟨H.pick [0,1],c⟩ ?_
  clear H c
  rintro ⟨P,A⟩ ρ e2 ⟨H,c⟩
  obtain ⟨cl,rfl,c⟩:=yO c
  have c:=yN ck c
  refine zB fun e3 cm=>zA ?_
  obtain ⟨cn,co,c⟩:=zC c
  refine zG (zL (xI (a:=A) (b:=cg) rfl rfl) co)<| RN cm<| zB fun e4 cp=>yC (b:=cn) rfl (fun B=>?_) (fun B=>?_)
  ·have c:=zU B c
   refine zQ (zF (cp _ _ ?_))
   refine zB fun e5 cq=>?_
   refine zY ?_
   refine zB fun e6 cr=>zA ?_
   obtain ⟨o,C,c⟩:=zD c
   obtain ⟨cs,ct,e7,cu,cv,cw,cx,cy,cz⟩:=xU (H.item (i:=1) rfl) C
   obtain rfl:cu= [sb o]:=cw
   have H:=H.fz (.at cs (ct+A.toNat * 1) _) ⟨cx,cy,cz⟩
   refine zG (yU u36 sz9 cv rfl (zN C).1 (zN C).2.1 rfl rfl)<| zG (yZ dQ rfl (Cells.get (H.item (i:=2) rfl).2.2 (i:=0) rfl))<| zI (sb o)<| RN cr<| zB fun e8 c0=>?_
   have c1:=H
   have H:=H.rebase
   have e9:=H
   refine WP_mix0 H [0,1,2,3,4,5,6,7,8,9,10,11,12,13,14,15,16,17,18] (kz [0,0,0,1,0,0,0,1,0,0,0,0,1,1,0,0,0,1,0]) mixed ?_
   refine XM v1<| XM v1<| XM (sb o) ?_
   have c2:=H
   obtain ⟨Q,c3,c⟩:=zD c
   refine MxM.XL_call oS rfl rfl rfl (v:=i6 Q) (fun j f=>zO en20 rfl) (fun j f=>jO (Faaw h o v1 _ c3 _ _ _ ((H.sees f).enter [] [0]))) ?_
   have H:=c2
   obtain ⟨R,D,c⟩:=zD c
   obtain ⟨c4,c5,fa,fb,c6,c7,c8,c9,da⟩:=xU (H.item (i:=0) rfl) D
   obtain ⟨db,rfl,dc⟩:=xR c7
   have H:=H.fzs [.at c4 (c5+Q.toNat * 4) _,.sl gW db R.Series.Samples] ⟨⟨c8,c9,da⟩,dc,trivial⟩
   refine XP (fun _ _=>yU u22 cO c6 rfl (zN D).1 (zN D).2.1 rfl rfl)<| XP (fun _ _=>aV rfl)<| XP (fun _ _=>uU rfl)<| MxM.xN oS rfl rfl rfl (fun j f=>yZ fJ rfl (Cells.get ((H.sees f).item (i:=3) rfl).2.2 (i:=1) rfl))<| XM v1<| XM v1<| XM d ?_
   obtain ⟨T,E,c⟩:=zD c
   obtain ⟨dd,de,fc,df,dg,dh,di,dj,dk⟩:=xU (H.item (i:=1) rfl) E
   obtain rfl:df= [sb T]:=dh
   have H:=H.fz (.at dd (de+(0:Int).toNat * 1) _) ⟨di,dj,dk⟩
   refine XP (fun _ _=>yU u36 sz9 dg rfl (zN E).1 (zN E).2.1 rfl rfl)<| MxM.xN oS rfl rfl rfl (fun j f=>yZ dQ rfl (Cells.get ((H.sees f).item (i:=5) rfl).2.2 (i:=0) rfl)) ?_
   have dl:=H
   obtain ⟨U,dm,c⟩:=zD c
   refine MxM.XL_call oS rfl rfl rfl (v:=i6 U) (fun j f=>zO en20 rfl) (fun j f=>jO (Faaw h T v1 _ dm _ _ _ ((H.sees f).enter [] [0]))) ?_
   have H:=dl
   obtain ⟨V,F,c⟩:=zD c
   obtain ⟨dn,dp,fd,fe,dq,dr,ds,dt,du⟩:=xU (H.item (i:=0) rfl) F
   obtain ⟨dv,rfl,dw⟩:=xR dr
   have H:=H.fzs [.at dn (dp+U.toNat * 4) _,.sl gW dv V.Series.Samples] ⟨⟨ds,dt,du⟩,dw,trivial⟩
   refine XP (fun _ _=>yU u22 cO dq rfl (zN F).1 (zN F).2.1 rfl rfl)<| XP (fun _ _=>aV rfl)<| XP (fun _ _=>uU rfl)<| MxM.xN oS rfl rfl rfl (fun j f=>yZ fJ rfl (Cells.get ((H.sees f).item (i:=6) rfl).2.2 (i:=1) rfl)) ?_
   obtain ⟨dx,dy,c⟩:=zC c
   refine XP (fun _ _=>zL (eQ (a:=R.Series.Den) (b:=V.Series.Den) rfl rfl) dy)<| MxM.XL_nil fun ff hS=>?_
   have H:=H.sees hS
   have H:=c1.rejoin H
   refine (zF (c0 _ _ ?_))
   refine yC (b:=dx) rfl (fun G=>?_) (fun G=>?_)
   ·have c:=zU G c
    refine zB fun fg dz=>zA<| zI (i6 2)<| RN dz ?_
    obtain rfl:=gI c
    refine (zX (yE (zS (zS (yE (zS (fB (v1:=i6 2) rfl rfl ?_)))))))
    exact ⟨rfl,H.pick []⟩
   have c:=zV G c
   refine (zQ (yV (zF (cq _ _ ?_))))
   refine zA ?_
   obtain ⟨X,d0,c⟩:=zC c
   refine zG (xP (a:=A) (b:=1) rfl rfl d0)<| zH (i6 X) ?_
   exact (zZ (zF (meet ⟨(cl,X),(zJ rfl zK),⟨H.pick [0,1],c⟩,Nat.lt_succ_self _⟩)))
  have c:=zV B c
  exact (xG (yD (yD (yS (zF (meet ⟨(),zK,⟨H.pick [],c⟩⟩))))))
 rintro _ ρ fh ⟨H,c⟩
 have c:=xO ce c
 refine zB fun fi d1=>zA<| zI (i6 0)<| RN d1 ?_
 obtain rfl:=gI c
 refine (zX (fB (v1:=i6 0) rfl rfl ?_))
 exact ⟨rfl,H.pick []⟩
theorem Facw (d:Int)(f:Int)(r:Int)(c:Fac d f=some r)(O S:List Nat)(w:World)(H:Hd O w w S []):
  Cl 63 [i6 d,i6 f] w fun e h=>e= .returned (i6 r)∧Hd O w h S []:=by
 unfold Fac at c
 refine CW 12 Tryz.func63 ?_
 refine zB fun s i=>zA<| zI (i6 0)<| RN i<| zB fun t k=>zA<| zH (i6 d)<| zH (i6 f) ?_
 obtain ⟨l,m,c⟩:=zC c
 refine zG (dH (a:=d) (b:=f) rfl rfl m)<| zH (i6 f)<| zH (i6 d) ?_
 obtain ⟨n,o,c⟩:=zC c
 refine zG (dH (a:=f) (b:=d) rfl rfl o) ?_
 obtain ⟨g,p,c⟩:=zC c
 refine zG (Do_max (j:=l) (q:=n) rfl rfl p)<| zI (i6 g)<| RN k ?_
 obtain rfl:=gI c
 refine (zX (fB (v1:=i6 g) rfl rfl ?_))
 exact ⟨rfl,H.pick []⟩
set_option maxRecDepth 100000 in
theorem Fabw (l:List fG)(h:Int)(v1:Value)(r:Int×Bool×Int)(c:Fab l h=some r)(O S:List Nat)(w:World)(H:Hd O w w S [f1 dK v1 l]):
  Cl 34 [v1,i6 h] w fun e n=>e= .returned (.tuple #[i6 r.1,.bool r.2.1,i6 r.2.2])∧Hd O w n S []:=by
 unfold Fab at c
 refine CW 90 Tryz.func34 ?_
 refine zB fun K3 ak=>zA<| zI (i6 0)<| zI (.bool false)<| zI (i6 0)<| RN ak<| zB fun K4 al=>zA<| zI (.slice none 0 0)<| RN al ?_
 obtain ⟨s,c,am⟩:=zD c
 refine yI [7,9,15,16,17,18,19,20,21,22,23,24,25,26,27,28] (fun (g:Value)=>[(7,g)]) (fun g wl=>Hd O w wl S [.own (Rp.int .i64) g 3 s,f1 dK v1 l]) ?_ ?_
 ·skip
  refine zB fun d1 an=>zA<| zH v1 ?_
  obtain ⟨ao,ap,c⟩:=zC c
  obtain ⟨d2,d3,aq⟩:=SlF.len ((H.item (i:=0) rfl))
  refine zG (yJ (xJ u47 aq) (congrArg (Value.int .i64) ap))<| zH (i6 0)<| RN an<| zY ?_
  have H:=dE H (Rp.int .i64) 3
  unfold Fbx at c
  obtain ⟨ar,V,au,c⟩:=yK c
  refine yX [7,9,17,18,19,20,21,22,23,24,25,26,27,28] (fun (g:Nat×(List Int)×Int×Value)=>[(7,g.2.2.2),(17,i6 g.2.2.1)]) (fun g wl=>Hd O w wl S [.own (Rp.int .i64) g.2.2.2 3 g.2.1,f1 dK v1 l]∧fE ar g.1 (g.2.1,g.2.2.1)=some s) (fun g=>g.1) (V,[],0,.slice none 0 0) (zJ rfl (zJ rfl zK)) ⟨H.pick [1,0],c⟩ ?_
  clear H c
  rintro ⟨V,d4,t,u⟩ ρ d5 ⟨H,c⟩
  obtain ⟨av,rfl,c⟩:=yO c
  have c:=yN au c
  refine zB fun d6 aw=>zA ?_
  obtain ⟨ax,ay,c⟩:=zC c
  refine zG (zL (xI (a:=t) (b:=ao) rfl rfl) ay)<| RN aw<| zB fun d7 az=>yC (b:=ax) rfl (fun x=>?_) (fun x=>?_)
  ·have c:=zU x c
   refine zQ (zF (az _ _ ?_))
   obtain ⟨X,c,a0⟩:=zD c
   refine yI [7,9,19,20,21,22,23,24,25,26,27] (fun (g:Value)=>[(7,g)]) (fun g wl=>Hd O w wl S [.own (Rp.int .i64) g 3 X,f1 dK v1 l]) ?_ ?_
   ·skip
    refine zY ?_
    refine zB fun d8 a1=>zA ?_
    obtain ⟨j,y,c⟩:=zD c
    obtain ⟨a2,a3,d9,ea,a4,a5,a6,a7,a8⟩:=xU (H.item (i:=1) rfl) y
    obtain rfl:=jA a5
    have H:=H.fz (.at a2 (a3+t.toNat * 2) _) ⟨a6,a7,a8⟩
    refine zG (yU u47 aBs a4 rfl (zN y).1 (zN y).2.1 rfl rfl)<| zG (yJ (yL (cs:=[i6 j.N,.bool j.Known]) agg51 rfl aBs rfl (H.item (i:=2) rfl).2.2) rfl)<| yT rfl rfl (xE zero51 H) ?_
    rintro _ eb ⟨ec,rfl,H⟩
    refine xB rfl (yQ (vs:=[i6 j.N,.bool j.Known]) H 3 rfl aBs rfl rfl rfl ⟨rfl,rfl,trivial⟩ rfl) ?_
    rintro ed H
    refine RN a1<| zB fun ee a9=>zA<| zG (fa51_1 rfl)<| Ld qH H 3 1 rfl rfl<| RN a9<| yC (b:=j.Known) rfl (fun z=>?_) (fun z=>?_)
    ·have c:=zU z c
     refine zA ?_
     refine zH u<| zG (aCk rfl)<| Ld fJ H 3 0 rfl rfl ?_
     obtain ⟨ef,ba,c⟩:=zC c
     subst ba
     refine yT rfl rfl (jG (r:=(Rp.int .i64)) (xl:=[j.N]) (cs:=[i6 j.N]) u42 el3 (by decide) (by decide) rfl (fP (vs:=[i6 j.N]) (by decide) rfl rfl ⟨rfl,trivial⟩ rfl) H ⟨[i6 j.N],[],rfl,rfl,rfl⟩) ?_
     rintro eg eh H
     obtain ⟨ei,bb,c⟩:=zD c
     refine yT rfl rfl (kU H (i:=0) rfl u42 el3 rfl rfl (Sr.of_own (H.item (i:=4) rfl)) bb) ?_
     rintro Y ej H
     refine zI Y ?_
     obtain rfl:=gI c
     exact (zZ (yV (zF (meet ⟨Y,(zJ rfl zK),H.pick [0,1]⟩))))
    have c:=zV z c
    obtain rfl:=gI c
    exact (zQ (yV (zF (meet ⟨u,(zJ rfl zK),H.pick [0,1]⟩))))
   rintro bc ρ ek H
   have c:=a0
   refine zA ?_
   obtain ⟨Z,bd,c⟩:=zC c
   refine zG (xP (a:=t) (b:=1) rfl rfl bd)<| zH (i6 Z) ?_
   exact (zZ (zF (meet ⟨(av,X,Z,bc),(zJ rfl (zJ rfl zK)),⟨H.pick [0,1],c⟩,Nat.lt_succ_self _⟩)))
  have c:=zV x c
  obtain rfl:=gI c
  exact (xG (yD (yD (yS (zF (meet ⟨u,(zJ rfl zK),H.pick [0,1]⟩))))))
 rintro f ρ el H
 have c:=am
 refine zB fun em be=>zA<| zH f ?_
 obtain ⟨bf,bg,c⟩:=zD c
 refine zT rfl rfl (zO en62 rfl) (E.Fbew s f _ bg _ _ _ (H.enter [0] [])) ?_
 rintro _ en ⟨rfl,bh⟩
 have H:Hd _ _ _ _ [_,_]:=H.back [0] [] rfl bh
 refine ⟨_,rfl,?_⟩
 refine RN be<| zB fun eo bi=>zY ?_
 obtain ⟨aa,c,bj⟩:=zD c
 refine yI [31,32,33,34,35,36,37,38,39,40,41,42,43,44,45] (fun (g:Unit)=>[(31,.bool aa)]) (fun g wl=>Hd O w wl S [f1 dK v1 l,.own (Rp.int .i64) f 3 bf]) ?_ ?_
 ·skip
  have ab:=H
  have H:=H.rebase
  have ep:=H
  refine WP_mix0 H [0,1,2,3,4,5,6,7,8,9,10,11,12,13,14] (kz [0,0,0,0,0,0,1,0,0,1,0,0,0,0,0]) mixed ?_
  refine XM f ?_
  obtain ⟨bk,bl,c⟩:=zC c
  obtain ⟨eq,er,bm⟩:=Sr.len (Sr.of_own (H.item (i:=1) rfl))
  refine XP (fun _ _=>yJ (xJ u42 bm) (congrArg (Value.int .i64) bl)) ?_
  obtain ⟨bn,bo,c⟩:=zC c
  refine XP (fun _ _=>zL (fV (a:=bk) (b:=2) rfl rfl) bo)<| MxM.XL_splitb (b:=bn) rfl rfl rfl rfl (fun A=>?_) (fun A=>?_)
  ·have c:=zU A c
   refine XM f ?_
   obtain ⟨ac,B,c⟩:=zD c
   obtain ⟨es,et,bp,bq,br,bt⟩:=dN (H.item (i:=1) rfl) B
   obtain rfl:bp= [i6 ac]:=br
   refine XP (fun _ _=>yU u42 sz3 bq rfl (zN B).1 (zN B).2.1 rfl rfl)<| MxM.xN oS rfl rfl rfl (fun n m=>yZ fJ rfl (Cells.get (bt.sees m) (i:=0) rfl))<| XM f ?_
   obtain ⟨ad,C,c⟩:=zD c
   obtain ⟨eu,ew,bu,bv,bw,bx⟩:=dN (H.item (i:=1) rfl) C
   obtain rfl:bu= [i6 ad]:=bw
   refine XP (fun _ _=>yU u42 sz3 bv rfl (zN C).1 (zN C).2.1 rfl rfl)<| MxM.xN oS rfl rfl rfl (fun n m=>yZ fJ rfl (Cells.get (bx.sees m) (i:=0) rfl)) ?_
   obtain ⟨bz,b0,c⟩:=zC c
   refine XP (fun _ _=>dH (a:=ac) (b:=ad) rfl rfl b0)<| XM (i6 h) ?_
   obtain ⟨ae,b1,c⟩:=zC c
   refine XP (fun _ _=>zL (bV (a:=bz) (b:=h) rfl rfl) b1)<| XP (fun _ _=>yG (v:= .bool ae) rfl rfl)<| XP (fun _ _=>dU (v:= .bool ae) rfl)<| MxM.XL_nil fun ex hS=>?_
   have H:=H.sees hS
   have H:=ab.rejoin H
   obtain rfl:=gI c
   exact (zF (meet ⟨(),(zJ rfl zK),H.pick [0,1]⟩))
  have c:=zV A c
  refine XO<| XO<| MxM.XL_offr oS rfl rfl rfl ?_
  refine XO<| XO<| MxM.XL_offr oS rfl rfl rfl ?_
  refine XO<| XO<| XO<| XP (fun _ _=>yB (v:= .bool false) rfl rfl)<| XP (fun _ _=>dU (v:= .bool false) rfl)<| MxM.XL_nil fun ey hS=>?_
  have H:=H.sees hS
  have H:=ab.rejoin H
  obtain rfl:=gI c
  exact (zF (meet ⟨(),(zJ rfl zK),H.pick [0,1]⟩))
 rintro _ ρ ez H
 have c:=bj
 refine yC (b:=aa) rfl (fun D=>?_) (fun D=>?_)
 ·have c:=zU D c
  refine zB fun e0 b2=>zA<| zH f ?_
  obtain ⟨F,G,c⟩:=zD c
  obtain ⟨e1,e2,b3,b4,b5,b6⟩:=dN (H.item (i:=1) rfl) G
  obtain rfl:b3= [i6 F]:=b5
  refine zG (yU u42 sz3 b4 rfl (zN G).1 (zN G).2.1 rfl rfl)<| zG (yZ fJ rfl (Cells.get b6 (i:=0) rfl))<| zI (i6 F)<| zI (.bool true)<| zI (i6 (-1))<| RN b2 ?_
  obtain rfl:=gI c
  refine (zX (yE (zS (aEl (v1:=i6 F) (v2:= .bool true) (v3:=i6 (-1)) rfl rfl rfl rfl ?_))))
  exact ⟨rfl,H.pick []⟩
 have c:=zV D c
 refine zB fun e3 b7=>zA<| zH f ?_
 obtain ⟨b8,b9,c⟩:=zC c
 obtain ⟨e4,e5,ca⟩:=Sr.len (Sr.of_own (H.item (i:=1) rfl))
 refine zG (yJ (xJ u42 ca) (congrArg (Value.int .i64) b9)) ?_
 obtain ⟨af,cb,c⟩:=zC c
 refine zG (zL (xI (a:=b8) (b:=3) rfl rfl) cb)<| zI (.bool af)<| RN b7<| yC (b:=af) rfl (fun I=>?_) (fun I=>?_)
 ·have c:=zU I c
  refine zB fun e6 cc=>zA<| zI (i6 0)<| zI (.bool false)<| zI (i6 (-1))<| RN cc ?_
  obtain rfl:=gI c
  refine (zX (yE (zS (aEl (v1:=i6 0) (v2:= .bool false) (v3:=i6 (-1)) rfl rfl rfl rfl ?_))))
  exact ⟨rfl,H.pick []⟩
 have c:=zV I c
 refine (zQ (yV (zF (bi _ _ ?_))))
 refine zB fun e7 cd=>zA<| zH f ?_
 obtain ⟨d,J,c⟩:=zD c
 obtain ⟨e8,e9,ce,cf,cg,ch⟩:=dN (H.item (i:=1) rfl) J
 obtain rfl:ce= [i6 d]:=cg
 refine zG (yU u42 sz3 cf rfl (zN J).1 (zN J).2.1 rfl rfl)<| zG (yZ fJ rfl (Cells.get ch (i:=0) rfl))<| zI (i6 d)<| RN cd<| zB fun fa ci=>?_
 have cj:=H
 have H:=H.rebase
 have fb:=H
 refine WP_mix0 H [0,1,2,3,4,5,6,7,8,9,10,11,12,13,14,15] (kz [0,0,0,1,0,0,0,0,0,1,0,0,0,0,0,0]) mixed ?_
 refine XM (i6 d)<| XM f ?_
 obtain ⟨ag,K,c⟩:=zD c
 obtain ⟨fc,fd,ck,cl,cm,cn⟩:=dN (H.item (i:=1) rfl) K
 obtain rfl:ck= [i6 ag]:=cm
 refine XP (fun _ _=>yU u42 sz3 cl rfl (zN K).1 (zN K).2.1 rfl rfl)<| MxM.xN oS rfl rfl rfl (fun n m=>yZ fJ rfl (Cells.get (cn.sees m) (i:=0) rfl)) ?_
 obtain ⟨co,cp,c⟩:=zC c
 refine XP (fun _ _=>dH (a:=d) (b:=ag) rfl rfl cp)<| XM (i6 h) ?_
 obtain ⟨L,cq,c⟩:=zC c
 refine XP (fun _ _=>zL (dD (a:=co) (b:=h) rfl rfl) cq)<| XM f ?_
 obtain ⟨ah,M,c⟩:=zD c
 obtain ⟨fe,ff,cr,ct,cu,cv⟩:=dN (H.item (i:=1) rfl) M
 obtain rfl:cr= [i6 ah]:=cu
 refine XP (fun _ _=>yU u42 sz3 ct rfl (zN M).1 (zN M).2.1 rfl rfl)<| MxM.xN oS rfl rfl rfl (fun n m=>yZ fJ rfl (Cells.get (cv.sees m) (i:=0) rfl))<| XM (i6 d) ?_
 obtain ⟨cw,cx,c⟩:=zC c
 refine XP (fun _ _=>dH (a:=ah) (b:=d) rfl rfl cx)<| XM (i6 h) ?_
 obtain ⟨P,cy,c⟩:=zC c
 refine XP (fun _ _=>zL (dD (a:=cw) (b:=h) rfl rfl) cy)<| XP (fun _ _=>dU (v:= .bool L) rfl)<| XP (fun _ _=>dU (v:= .bool P) rfl)<| MxM.XL_nil fun fg hS=>?_
 have H:=H.sees hS
 have H:=cj.rejoin H
 refine (zF (ci _ _ ?_))
 obtain ⟨cz,c0,c⟩:=xH c
 refine yI [4,5,6,13,14,70,71,72,73,74,75,76,77,78,79,80,81,82,83,84,85,86,87,88] (fun (g:Unit)=>[]) (fun g wl=>Hd O w wl S []∧cz ()=some r) ?_ ?_
 ·skip
  refine zB fun fh c1=>zA<| zH (.bool L)<| zH (.bool P) ?_
  obtain ⟨c2,c3,c⟩:=zC c
  refine zG (zL (Do_neqb (p:=L) (q:=P) u4 rfl rfl) c3)<| RN c1<| yC (b:=c2) rfl (fun Q=>?_) (fun Q=>?_)
  ·have c:=zU Q c
   refine zB fun fi c4=>zA<| zH v1 ?_
   obtain ⟨c5,c6,c⟩:=zC c
   obtain ⟨fj,fk,c7⟩:=SlF.len ((H.item (i:=0) rfl))
   refine zG (yJ (xJ u47 c7) (congrArg (Value.int .i64) c6))<| zH (i6 0)<| RN c4<| zY ?_
   unfold Fao at c
   obtain ⟨c8,ai,c9,c⟩:=yK c
   refine yX [4,5,6,13,14,75,76,77,78,79,80,81,82,83,84,85,86,87,88] (fun (g:Nat×Int)=>[(75,i6 g.2)]) (fun g wl=>Hd O w wl S [f1 dK v1 l]∧fE c8 g.1 g.2=some r) (fun g=>g.1) (ai,0) (zJ rfl zK) ⟨H.pick [0],c⟩ ?_
   clear H c
   rintro ⟨ai,k⟩ ρ fm ⟨H,c⟩
   obtain ⟨da,rfl,c⟩:=yO c
   have c:=yN c9 c
   refine zB fun fn db=>zA ?_
   obtain ⟨dc,dd,c⟩:=zC c
   refine zG (zL (xI (a:=k) (b:=c5) rfl rfl) dd)<| RN db<| zB fun fo de=>yC (b:=dc) rfl (fun R=>?_) (fun R=>?_)
   ·have c:=zU R c
    refine zQ (zF (de _ _ ?_))
    refine zB fun fp df=>?_
    refine zY ?_
    refine zB fun fq dg=>zA<| zH (i6 k) ?_
    obtain ⟨o,T,c⟩:=zD c
    obtain ⟨dh,di,fr,fs,dj,dk,dl,dm,dn⟩:=xU (H.item (i:=0) rfl) T
    obtain rfl:=jA dk
    have H:=H.fz (.at dh (di+k.toNat * 2) _) ⟨dl,dm,dn⟩
    refine zG (yU u47 aBs dj rfl (zN T).1 (zN T).2.1 rfl rfl)<| zG (yJ (yL (cs:=[i6 o.N,.bool o.Known]) agg51 rfl aBs rfl (H.item (i:=1) rfl).2.2) rfl)<| yT rfl rfl (xE zero51 H) ?_
    rintro _ ft ⟨fu,rfl,H⟩
    refine zI (i6 k)<| xB rfl (yQ (vs:=[i6 o.N,.bool o.Known]) H 2 rfl aBs rfl rfl rfl ⟨rfl,rfl,trivial⟩ rfl) ?_
    rintro fv H
    refine RN dg<| zB fun fw dp=>zA<| zG (aCk rfl)<| Ld fJ H 2 0 rfl rfl<| zH (i6 d) ?_
    have dq:=H
    obtain ⟨dr,ds,c⟩:=zD c
    refine zT rfl rfl (zO en63 rfl) (Facw o.N d _ ds _ _ _ (H.enter [] [])) ?_
    rintro _ fx ⟨rfl,dt⟩
    have H:=dq.step (dt.only:Only [] _ _)
    refine ⟨_,rfl,?_⟩
    refine zH (i6 h) ?_
    obtain ⟨du,dv,c⟩:=zC c
    refine zG (zL (dD (a:=dr) (b:=h) rfl rfl) dv)<| RN dp<| yC (b:=du) rfl (fun U=>?_) (fun U=>?_)
    ·have c:=zU U c
     refine zB fun fy dw=>zA<| zH (i6 d)<| zH (i6 k)<| zI (i6 d)<| zI (.bool true)<| zI (i6 k)<| RN dw ?_
     obtain rfl:=gI c
     refine (zX (yE (zS (zS (yE (zS (aEl (v1:=i6 d) (v2:= .bool true) (v3:=i6 k) rfl rfl rfl rfl ?_)))))))
     exact ⟨rfl,H.pick []⟩
    have c:=zV U c
    refine (zQ (yV (zF (df _ _ ?_))))
    refine zA ?_
    obtain ⟨aj,dx,c⟩:=zC c
    refine zG (xP (a:=k) (b:=1) rfl rfl dx)<| zH (i6 aj) ?_
    exact (zZ (zF (meet ⟨(da,aj),(zJ rfl zK),⟨H.pick [0],c⟩,Nat.lt_succ_self _⟩)))
   have c:=zV R c
   exact (xG (yD (yD (yS (zF (meet ⟨(),zK,⟨H.pick [],c⟩⟩))))))
  have c:=zV Q c
  exact (zQ (zF (meet ⟨(),zK,⟨H.pick [],c⟩⟩)))
 rintro _ ρ f0 ⟨H,c⟩
 have c:=xO c0 c
 refine zB fun f2 dy=>zA<| zH (i6 d)<| zI (i6 d)<| zI (.bool true)<| zI (i6 (-1))<| RN dy ?_
 obtain rfl:=gI c
 refine (zX (aEl (v1:=i6 d) (v2:= .bool true) (v3:=i6 (-1)) rfl rfl rfl rfl ?_))
 exact ⟨rfl,H.pick []⟩
set_option maxRecDepth 100000 in
theorem Faqw (y:List gV)(I:List Str)(z:Int)(k:Int)(n:Int)(v1:Value)(o:Value)(r:gV×(List Int)×Int)(c:Faq y I z k n=some r)(O S:List Nat)(w:World)(H:Hd O w w S [f1 fD v1 y,f1 Rp.str o I]):
  Cl 11 [v1,o,i6 z,i6 k,i6 n] w fun e s=> ∃u5 u6,e= .returned (.tuple #[.agg [sb r.1.Name,i6 r.1.Series.Den,u5,i6 r.1.Long].toArray,u6,i6 r.2.2])∧Hd O w s S [f1 gW u5 r.1.Series.Samples,.own (Rp.int .i64) u6 3 r.2.1]:=by
 unfold Faq at c
 refine CW 125 Tryz.func11 ?_
 refine zB fun K7 a0=>zA<| yT rfl rfl (xE mQ H) ?_
 rintro _ fc ⟨A,rfl,H⟩
 refine zI (.slice none 0 0)<| zI (i6 0)<| RN a0<| zB fun fd a1=>zB fun fe a2=>zA<| zH v1 ?_
 have a3:=H
 obtain ⟨B,a4,c⟩:=zD c
 refine zT rfl rfl (zO en17 rfl) (Fa3w y v1 _ a4 _ _ _ (H.enter [] [0])) ?_
 rintro _ ff ⟨rfl,a5⟩
 have H:=a3.step (a5.only:Only [] _ _)
 refine ⟨_,rfl,?_⟩
 refine zI (i6 B)<| RN a2<| zB fun fg a6=>zA<| zH (i6 B) ?_
 obtain ⟨a7,a8,c⟩:=zC c
 refine zG (zL (eQ (a:=B) (b:=0) rfl rfl) a8)<| RN a6<| yC (b:=a7) rfl (fun R=>?_) (fun R=>?_)
 ·have c:=zU R c
  refine zB fun fh a9=>zA<| zG (eY (cs:=[.string (bs []),i6 0,.slice none 0 0,i6 0]) bz41)<| zH (i6 B)<| xB rfl (yQ (vs:=[.string (bs []),i6 0,.slice none 0 0,i6 0]) H 2 rfl cO rfl rfl rfl ⟨rfl,rfl,rfl,rfl,trivial⟩ rfl) ?_
  rintro fi H
  refine zI (.slice none 0 0)<| zI (i6 B)<| RN a9 ?_
  have H:=H.fz (.sl gW (.slice none 0 0) []) SlF.nil
  have H:=dE H (Rp.int .i64) 3
  obtain rfl:=gI c
  refine (zX (zS (pF (v1:= .slice none 0 0) (v2:=i6 B) rfl rfl (yP mJ cO rfl (Hbc H 2 rfl)) rfl rfl ?_)))
  exact ⟨.slice none 0 0,.slice none 0 0,rfl,H.pick [3,4]⟩
 have c:=zV R c
 refine zQ (zF (a1 _ _ ?_))
 refine zB fun fj ba=>?_
 refine zB fun fk bb=>zA<| zH v1<| zH o ?_
 have bc:=H
 obtain ⟨C,bd,c⟩:=zD c
 refine zT rfl rfl (zO en32 rfl) (Fakw y I v1 o _ bd _ _ _ (H.enter [] [0,1])) ?_
 rintro _ fm ⟨rfl,be⟩
 have H:=bc.step (be.only:Only [] _ _)
 refine ⟨_,rfl,?_⟩
 refine zI (i6 C)<| RN bb<| zB fun fn bf=>zA<| zH (i6 C) ?_
 obtain ⟨bg,bh,c⟩:=zC c
 refine zG (zL (eQ (a:=C) (b:=0) rfl rfl) bh)<| RN bf<| yC (b:=bg) rfl (fun T=>?_) (fun T=>?_)
 ·have c:=zU T c
  refine zB fun fo bi=>zA<| zG (eY (cs:=[.string (bs []),i6 0,.slice none 0 0,i6 0]) bz41)<| zH (i6 C)<| xB rfl (yQ (vs:=[.string (bs []),i6 0,.slice none 0 0,i6 0]) H 2 rfl cO rfl rfl rfl ⟨rfl,rfl,rfl,rfl,trivial⟩ rfl) ?_
  rintro fp H
  refine zI (.slice none 0 0)<| zI (i6 C)<| RN bi ?_
  have H:=H.fz (.sl gW (.slice none 0 0) []) SlF.nil
  have H:=dE H (Rp.int .i64) 3
  obtain rfl:=gI c
  refine (zX (zS (pF (v1:= .slice none 0 0) (v2:=i6 C) rfl rfl (yP mJ cO rfl (Hbc H 2 rfl)) rfl rfl ?_)))
  exact ⟨.slice none 0 0,.slice none 0 0,rfl,H.pick [3,4]⟩
 have c:=zV T c
 refine zQ (zF (ba _ _ ?_))
 refine zB fun fq bj=>?_
 refine zB fun fr bk=>zA<| zH (i6 z) ?_
 have bl:=H
 obtain ⟨bm,bn,c⟩:=zD c
 refine zT rfl rfl (zO en33 rfl) (Fa5w z 0 1125899906842624 _ bn _ _ _ (H.enter [] [])) ?_
 rintro _ fs ⟨rfl,bo⟩
 have H:=bl.step (bo.only:Only [] _ _)
 refine ⟨_,rfl,?_⟩
 obtain ⟨bp,bq,c⟩:=zC c
 refine zG (zL (fU (p:=bm) rfl) bq)<| RN bk<| yC (b:=bp) rfl (fun U=>?_) (fun U=>?_)
 ·have c:=zU U c
  refine zB fun ft br=>zA<| zG (eY (cs:=[.string (bs []),i6 0,.slice none 0 0,i6 0]) bz41)<| xB rfl (yQ (vs:=[.string (bs []),i6 0,.slice none 0 0,i6 0]) H 2 rfl cO rfl rfl rfl ⟨rfl,rfl,rfl,rfl,trivial⟩ rfl) ?_
  rintro fu H
  refine zI (.slice none 0 0)<| zI (i6 9)<| RN br ?_
  have H:=H.fz (.sl gW (.slice none 0 0) []) SlF.nil
  have H:=dE H (Rp.int .i64) 3
  obtain rfl:=gI c
  refine (zX (zS (pF (v1:= .slice none 0 0) (v2:=i6 9) rfl rfl (yP mJ cO rfl (Hbc H 2 rfl)) rfl rfl ?_)))
  exact ⟨.slice none 0 0,.slice none 0 0,rfl,H.pick [3,4]⟩
 have c:=zV U c
 refine zQ (zF (bj _ _ ?_))
 refine zB fun fv bt=>?_
 refine zB fun fw bu=>zA<| zH (i6 k)<| zH (i6 n) ?_
 have bv:=H
 obtain ⟨D,bw,c⟩:=zD c
 refine zT rfl rfl (zO en19 rfl) (Fa6w k n _ bw _ _ _ (H.enter [] [])) ?_
 rintro _ fx ⟨rfl,bx⟩
 have H:=bv.step (bx.only:Only [] _ _)
 refine ⟨_,rfl,?_⟩
 refine zI (i6 D)<| RN bu<| zB fun fy bz=>zA<| zH (i6 D) ?_
 obtain ⟨b0,b1,c⟩:=zC c
 refine zG (zL (eQ (a:=D) (b:=0) rfl rfl) b1)<| RN bz<| yC (b:=b0) rfl (fun V=>?_) (fun V=>?_)
 ·have c:=zU V c
  refine zB fun f0 b2=>zA<| zG (eY (cs:=[.string (bs []),i6 0,.slice none 0 0,i6 0]) bz41)<| zH (i6 D)<| xB rfl (yQ (vs:=[.string (bs []),i6 0,.slice none 0 0,i6 0]) H 2 rfl cO rfl rfl rfl ⟨rfl,rfl,rfl,rfl,trivial⟩ rfl) ?_
  rintro f2 H
  refine zI (.slice none 0 0)<| zI (i6 D)<| RN b2 ?_
  have H:=H.fz (.sl gW (.slice none 0 0) []) SlF.nil
  have H:=dE H (Rp.int .i64) 3
  obtain rfl:=gI c
  refine (zX (zS (pF (v1:= .slice none 0 0) (v2:=i6 D) rfl rfl (yP mJ cO rfl (Hbc H 2 rfl)) rfl rfl ?_)))
  exact ⟨.slice none 0 0,.slice none 0 0,rfl,H.pick [3,4]⟩
 have c:=zV V c
 refine zQ (zF (bt _ _ ?_))
 refine zB fun f3 b3=>?_
 refine zB fun f4 b4=>zA<| zH (i6 n)<| zH (i6 k) ?_
 obtain ⟨b5,b6,c⟩:=zC c
 refine zG (dH (a:=n) (b:=k) rfl rfl b6) ?_
 obtain ⟨b7,b8,c⟩:=zC c
 refine zG (xP (a:=b5) (b:=1) rfl rfl b8) ?_
 obtain ⟨b9,ca,c⟩:=zC c
 refine zG (zL (dD (a:=b7) (b:=20000) rfl rfl) ca)<| RN b4<| yC (b:=b9) rfl (fun X=>?_) (fun X=>?_)
 ·have c:=zU X c
  refine zB fun f5 cb=>zA<| zG (eY (cs:=[.string (bs []),i6 0,.slice none 0 0,i6 0]) bz41)<| xB rfl (yQ (vs:=[.string (bs []),i6 0,.slice none 0 0,i6 0]) H 2 rfl cO rfl rfl rfl ⟨rfl,rfl,rfl,rfl,trivial⟩ rfl) ?_
  rintro f6 H
  refine zI (.slice none 0 0)<| zI (i6 3)<| RN cb ?_
  have H:=H.fz (.sl gW (.slice none 0 0) []) SlF.nil
  have H:=dE H (Rp.int .i64) 3
  obtain rfl:=gI c
  refine (zX (zS (pF (v1:= .slice none 0 0) (v2:=i6 3) rfl rfl (yP mJ cO rfl (Hbc H 2 rfl)) rfl rfl ?_)))
  exact ⟨.slice none 0 0,.slice none 0 0,rfl,H.pick [3,4]⟩
 have c:=zV X c
 refine zQ (zF (b3 _ _ ?_))
 refine zB fun f7 cc=>zA<| zI (.slice none 0 0)<| RN cc ?_
 obtain ⟨E,c,cd⟩:=zD c
 refine yI [16,18,56,57,58,59,60,61,62,63,64,65,66,67,68,69,70,71] (fun (g:Value)=>[(16,g)]) (fun g wl=>Hd O w wl S [.own fD g 41 E,f1 Rp.str o I,.blk A [.string (bs []),i6 0,.slice none 0 0,i6 0] 41]) ?_ ?_
 ·skip
  refine zB fun f8 ce=>zA<| zH o ?_
  obtain ⟨cf,cg,c⟩:=zC c
  obtain ⟨f9,ga,ch⟩:=SlF.len ((H.item (i:=1) rfl))
  refine zG (yJ (xJ u36 ch) (congrArg (Value.int .i64) cg))<| zH (i6 0)<| RN ce<| zY ?_
  have H:=dE H fD 41
  unfold Fbo at c
  obtain ⟨ci,am,cj,c⟩:=yK c
  refine yX [16,18,58,59,60,61,62,63,64,65,66,67,68,69,70,71] (fun (g:Nat×(List gV)×Int×Value)=>[(16,g.2.2.2),(58,i6 g.2.2.1)]) (fun g wl=>Hd O w wl S [.own fD g.2.2.2 41 g.2.1,f1 fD v1 y,f1 Rp.str o I,.blk A [.string (bs []),i6 0,.slice none 0 0,i6 0] 41]∧fE ci g.1 (g.2.1,g.2.2.1)=some E) (fun g=>g.1) (am,[],0,.slice none 0 0) (zJ rfl (zJ rfl zK)) ⟨H.pick [3,0,1,2],c⟩ ?_
  clear H c
  rintro ⟨am,gb,Y,an⟩ ρ gc ⟨H,c⟩
  obtain ⟨ck,rfl,c⟩:=yO c
  have c:=yN cj c
  refine zB fun gd cl=>zA ?_
  obtain ⟨cm,cn,c⟩:=zC c
  refine zG (zL (xI (a:=Y) (b:=cf) rfl rfl) cn)<| RN cl<| zB fun ge co=>yC (b:=cm) rfl (fun Z=>?_) (fun Z=>?_)
  ·have c:=zU Z c
   refine zQ (zF (co _ _ ?_))
   refine zB fun gf cp=>?_
   refine zY ?_
   refine zB fun gg cq=>zA ?_
   obtain ⟨N,aa,c⟩:=zD c
   obtain ⟨cr,ct,gh,cu,cv,cw,cx,cy,cz⟩:=xU (H.item (i:=2) rfl) aa
   obtain rfl:cu= [sb N]:=cw
   have H:=H.fz (.at cr (ct+Y.toNat * 1) _) ⟨cx,cy,cz⟩
   refine zG (yU u36 sz9 cv rfl (zN aa).1 (zN aa).2.1 rfl rfl)<| zG (yZ dQ rfl (Cells.get (H.item (i:=4) rfl).2.2 (i:=0) rfl))<| zI (sb N)<| RN cq<| zA<| zH an<| zH v1<| zH v1<| zH (sb N) ?_
   have c0:=H
   obtain ⟨c1,c2,c⟩:=zD c
   refine zT rfl rfl (zO en20 rfl) (Faaw y N v1 _ c2 _ _ _ (H.enter [] [1])) ?_
   rintro _ gj ⟨rfl,c3⟩
   have H:=c0.step (c3.only:Only [] _ _)
   refine ⟨_,rfl,?_⟩
   obtain ⟨d,ab,c⟩:=zD c
   obtain ⟨c4,c5,gk,gl,c6,c7,c8,c9,da⟩:=xU (H.item (i:=1) rfl) ab
   obtain ⟨J,rfl,db⟩:=xR c7
   have H:=H.fzs [.at c4 (c5+c1.toNat * 4) _,.sl gW J d.Series.Samples] ⟨⟨c8,c9,da⟩,db,trivial⟩
   refine zG (yU u22 cO c6 rfl (zN ab).1 (zN ab).2.1 rfl rfl)<| zG (yJ (yL (cs:=[sb d.Name,i6 d.Series.Den,J,i6 d.Long]) mJ rfl cO rfl (H.item (i:=5) rfl).2.2) rfl) ?_
   obtain ⟨gm,dc,c⟩:=zC c
   subst dc
   refine yT rfl rfl (jG (r:=fD) (xl:=[d]) (cs:=[sb d.Name,i6 d.Series.Den,J,i6 d.Long]) u22 el41 (by decide) (by decide) rfl (fP (vs:=[.agg [sb d.Name,i6 d.Series.Den,J,i6 d.Long].toArray]) (by decide) rfl rfl ⟨rfl,trivial⟩ rfl) H ⟨[sb d.Name,i6 d.Series.Den,J,i6 d.Long],[],rfl,(rTrack_mk (x:=d) (H.item (i:=6) rfl)),rfl⟩) ?_
   rintro gn go H
   obtain ⟨dd,de,c⟩:=zD c
   refine yT rfl rfl (kU H (i:=0) rfl u22 el41 rfl rfl (Sr.of_own (H.item (i:=7) rfl)) de) ?_
   rintro ao gp H
   refine zI ao<| (zZ (yV (zF (cp _ _ ?_))))
   refine zA ?_
   obtain ⟨ap,df,c⟩:=zC c
   refine zG (xP (a:=Y) (b:=1) rfl rfl df)<| zH (i6 ap) ?_
   exact (zZ (zF (meet ⟨(ck,dd,ap,ao),(zJ rfl (zJ rfl zK)),⟨H.pick [0,1,2,3],c⟩,Nat.lt_succ_self _⟩)))
  have c:=zV Z c
  obtain rfl:=gI c
  exact (xG (yD (yD (yS (zF (meet ⟨an,(zJ rfl zK),H.pick [0,2,3]⟩))))))
 rintro F ρ gq H
 have c:=cd
 refine zB fun gr dg=>?_
 have dh:=H
 have H:=H.rebase
 have gs:=H
 refine WP_mix0 H [0,1,2,3,4,5,6,7,8,9,10,11] (kz [0,0,1,0,0,0,0,1,0,0,2,3]) mixed ?_
 refine XM o ?_
 obtain ⟨l,ac,c⟩:=zD c
 obtain ⟨di,dj,gt,dk,dl,dm,dn,dp,dq⟩:=xU (H.item (i:=1) rfl) ac
 obtain rfl:dk= [sb l]:=dm
 have H:=H.fz (.at di (dj+(0:Int).toNat * 1) _) ⟨dn,dp,dq⟩
 refine XP (fun _ _=>yU u36 sz9 dl rfl (zN ac).1 (zN ac).2.1 rfl rfl)<| MxM.xN oS rfl rfl rfl (fun s m=>yZ dQ rfl (Cells.get ((H.sees m).item (i:=3) rfl).2.2 (i:=0) rfl))<| XM F ?_
 obtain ⟨f,ad,c⟩:=zD c
 obtain ⟨gu,gv,gw,dr,ds,dt⟩:=dN (H.item (i:=0) rfl) ad
 obtain ⟨du,rfl,dv⟩:=xR ds
 have H:=H.fzs [.sl gW du f.Series.Samples] ⟨dv,trivial⟩
 refine XP (fun _ _=>yU u22 cO dr rfl (zN ad).1 (zN ad).2.1 rfl rfl)<| XP (fun _ _=>aV rfl)<| XP (fun _ _=>uU rfl)<| MxM.xN oS rfl rfl rfl (fun s m=>yZ fJ rfl (Cells.get (dt.sees m) (i:=1) rfl))<| XP (fun _ _=>eY (cs:=[i6 f.Series.Den,.slice none 0 0]) (bt39_0 _))<| XP (fun _ _=>eY (cs:=[sb l,i6 f.Series.Den,.slice none 0 0,i6 63]) (aCs _ _ none 0 0 _)) ?_
 refine MxM.XL_exN oS rfl rfl rfl (fun s m=>Ls_of (xE mQ (H.sees m)) (aBp mQ)) ?_
 rintro s _ gx m ⟨P,rfl,H⟩
 refine MxM.XL_exU oS rfl rfl (fun s m=>yQ (vs:=[sb l,i6 f.Series.Den,.slice none 0 0,i6 63]) (H.sees m) 5 rfl cO rfl rfl rfl ⟨rfl,rfl,rfl,rfl,trivial⟩ rfl) ?_
 rintro s gy m H
 refine ⟨H.only,?_⟩
 refine MxM.XL_nil fun gz hS=>?_
 have H:=H.sees hS
 have H:=dh.rejoin H
 refine (zF (dg _ _ ?_))
 refine zB fun g0 dw=>zA ?_
 obtain ⟨dx,dy,c⟩:=zD c
 refine yT rfl rfl (Lx_make (r:=(Rp.int .i64)) (zv:=i6 0) u42 el3 rfl (fun _ _=>rfl) rfl rfl dy H) ?_
 rintro h g1 H
 refine zI h<| RN dw ?_
 obtain ⟨Q,c,dz⟩:=zD c
 refine yI [21,22,23,24,25,83,84,85,86,87,88,89,90,91,92,93,94,95,96,97,98,99,100,101,102,103,104,105,106,107,108,109,110,111,112,113,114,115,116,117,118,119,120,121,122] (fun (g:Value)=>[]) (fun g wl=>Hd O w wl S [.blk A [.string (bs []),i6 0,.slice none 0 0,i6 0] 41,.blk P [sb l,i6 f.Series.Den,g,i6 63] 41,.own gW g 46 Q.1,.own (Rp.int .i64) h 3 Q.2]) ?_ ?_
 ·skip
  refine zB fun g2 d0=>zA<| zH (i6 k)<| zI (i6 k)<| RN d0<| zY ?_
  have H:=H.freeze (i:=0) rfl
  have H:=dE H gW 46
  unfold Fca at c
  obtain ⟨d1,aq,d2,c⟩:=yK c
  refine yX [21,22,23,24,25,84,85,86,87,88,89,90,91,92,93,94,95,96,97,98,99,100,101,102,103,104,105,106,107,108,109,110,111,112,113,114,115,116,117,118,119,120,121,122] (fun (g:Nat×Int×(List fC)×(List Int)×Value)=>[(21,i6 g.2.1)]) (fun g wl=>Hd O w wl S [f1 fD F E,.blk A [.string (bs []),i6 0,.slice none 0 0,i6 0] 41,.blk P [sb l,i6 f.Series.Den,g.2.2.2.2,i6 63] 41,.own gW g.2.2.2.2 46 g.2.2.1,.own (Rp.int .i64) h 3 g.2.2.2.1]∧fE d1 g.1 (g.2.1,g.2.2.1,g.2.2.2.1)=some Q) (fun g=>g.1) (aq,k,[],dx,.slice none 0 0) (zJ rfl zK) ⟨H.pick [0,2,5,7,6],c⟩ ?_
  clear H c
  rintro ⟨aq,q,ar,d3,K⟩ ρ g3 ⟨H,c⟩
  obtain ⟨d4,rfl,c⟩:=yO c
  have c:=yN d2 c
  refine zB fun g4 d5=>?_
  refine zB fun g5 d6=>zA<| zH (i6 q)<| zH (i6 n) ?_
  obtain ⟨d7,d8,c⟩:=zC c
  refine zG (zL (bV (a:=q) (b:=n) rfl rfl) d8)<| RN d6<| yC (b:=d7) rfl (fun ae=>?_) (fun ae=>?_)
  ·have c:=zU ae c
   refine zQ (zF (d5 _ _ ?_))
   refine zB fun g6 d9=>?_
   refine zY ?_
   refine zB fun g7 ea=>zA<| zH F<| zH (i6 q) ?_
   obtain ⟨eb,ec,c⟩:=zD c
   refine zT rfl rfl (zO en35 rfl) (Fb3w E q F _ ec _ _ _ (H.enter [] [0])) ?_
   rintro _ g8 ⟨ed,rfl,ee⟩
   have H:=H.back1 [0] rfl ee
   refine ⟨_,rfl,?_⟩
   refine zH (i6 z) ?_
   have ef:=H
   have H:=H.freeze (i:=5) rfl
   obtain ⟨⟨L,M,G⟩,eg,c⟩:=zD c
   refine zT rfl rfl (zO en34 rfl) (Fabw eb z ed _ eg _ _ _ (H.enter [] [5])) ?_
   rintro _ g9 ⟨rfl,eh⟩
   have H:=ef.step (eh.only:Only [] _ _)
   refine ⟨_,rfl,?_⟩
   refine zH (.tuple #[i6 L,.bool M,i6 G])<| zG (xA (v:=i6 L) rfl rfl)<| zG (xA (v:= .bool M) rfl rfl)<| zG (xA (v:=i6 G) rfl rfl)<| zI (i6 L)<| zI (.bool M)<| zI (i6 G)<| RN ea<| zB fun ha ei=>zA<| zH (i6 q) ?_
   obtain ⟨ej,ek,c⟩:=zC c
   refine zG (aCl (a:=64) (b:=q) rfl rfl ek) ?_
   obtain ⟨el,em,c⟩:=zC c
   refine zG (xP (a:=ej) (b:=64) rfl rfl em) ?_
   obtain ⟨j,en,c⟩:=zC c
   refine zG (dH (a:=el) (b:=1) rfl rfl en)<| zG (eY (cs:=[i6 j,i6 0,i6 0]) (bt46_0 _))<| yT rfl rfl (xE jU H) ?_
   rintro _ hb ⟨au,rfl,H⟩
   refine xB rfl (yQ (vs:=[i6 j,i6 0,i6 0]) H 6 rfl dV rfl rfl rfl ⟨rfl,rfl,rfl,trivial⟩ rfl) ?_
   rintro hc H
   refine RN ei ?_
   obtain ⟨af,c,eo⟩:=zD c
   refine yI [103,104,105,106] (fun (g:Unit)=>[]) (fun g wl=>Hd O w wl S [f1 fD F E,.blk A [.string (bs []),i6 0,.slice none 0 0,i6 0] 41,.blk P [sb l,i6 f.Series.Den,K,i6 63] 41,.own gW K 46 ar,.own (Rp.int .i64) h 3 d3,.blk au [i6 j,i6 af.1,i6 af.2] 46]) ?_ ?_
   ·skip
    refine zB fun he ep=>zA<| zH (.bool M)<| RN ep<| yC (b:=M) rfl (fun ag=>?_) (fun ag=>?_)
    ·have c:=zU ag c
     refine zA ?_
     refine zH (i6 L)<| zG (mZ rfl)<| xB rfl (xQ H 6 rfl sz3 rfl (v:=i6 L) rfl rfl rfl) ?_
     rintro hf H
     refine zG (pK rfl)<| xB rfl (xQ H 6 rfl sz3 rfl (v:=i6 4) rfl rfl rfl) ?_
     rintro hg H
     obtain rfl:=gI c
     exact (zZ (zF (meet ⟨(),zK,H.pick [0,1,2,3,4,6]⟩)))
    have c:=zV ag c
    obtain rfl:=gI c
    exact (zQ (zF (meet ⟨(),zK,H.pick [0,1,2,3,4,6]⟩)))
   rintro _ ρ hh H
   have c:=eo
   obtain ⟨t,u⟩:=af
   obtain ⟨av,c,eq⟩:=zD c
   refine yI [107,108,109,110,111,112,113,114] (fun (g:Unit)=>[]) (fun g wl=>Hd O w wl S [f1 fD F E,.blk A [.string (bs []),i6 0,.slice none 0 0,i6 0] 41,.blk P [sb l,i6 f.Series.Den,K,i6 63] 41,.own gW K 46 ar,.own (Rp.int .i64) h 3 av,.blk au [i6 j,i6 t,i6 u] 46]) ?_ ?_
   ·skip
    refine zB fun hi er=>zA<| zH (i6 G) ?_
    obtain ⟨es,et,c⟩:=zC c
    refine zG (zL (bI (a:=G) (b:=0) rfl rfl) et)<| RN er<| yC (b:=es) rfl (fun ah=>?_) (fun ah=>?_)
    ·have c:=zU ah c
     refine zA ?_
     refine zH h<| zH (i6 G) ?_
     obtain ⟨aw,ai,c⟩:=zD c
     obtain ⟨hj,hk,eu,ew,ex,ey⟩:=dN (H.item (i:=4) rfl) ai
     obtain rfl:eu= [i6 aw]:=ex
     refine zG (yU u42 sz3 ew rfl (zN ai).1 (zN ai).2.1 rfl rfl)<| zG (yZ fJ rfl (Cells.get ey (i:=0) rfl)) ?_
     obtain ⟨ez,e0,c⟩:=zC c
     refine zG (xP (a:=aw) (b:=1) rfl rfl e0) ?_
     obtain ⟨e1,aj,c⟩:=zD c
     obtain ⟨hl,hn,e2,ax,e3,e4⟩:=dN (H.item (i:=4) rfl) aj
     obtain rfl:e2= [i6 e1]:=e3
     refine zG (yU u42 sz3 ax rfl (zN aj).1 (zN aj).2.1 rfl rfl) ?_
     obtain ⟨ho,e5,c⟩:=zD c
     refine xB rfl (jY (vs:=[i6 ez]) (off:=0) H 4 rfl ax e4 rfl sz3 rfl rfl rfl (kL ⟨rfl,trivial⟩) e5 (by decide) rfl rfl) ?_
     rintro hp H
     obtain rfl:=gI c
     exact (zZ (zF (meet ⟨(),zK,H.pick [0,1,2,3,4,5]⟩)))
    have c:=zV ah c
    obtain rfl:=gI c
    exact (zQ (zF (meet ⟨(),zK,H.pick [0,1,2,3,4,5]⟩)))
   rintro _ ρ hq H
   have c:=eq
   refine zA ?_
   refine zG (aV rfl)<| zG (dS rfl)<| Ld bY H 2 2 rfl rfl<| zG (yJ (yL (cs:=[i6 j,i6 t,i6 u]) aZ rfl dV rfl (Hbc H 5 rfl)) rfl) ?_
   obtain ⟨hr,e6,c⟩:=zC c
   subst e6
   refine yT rfl rfl (jG (r:=gW) (xl:=[fC.mk j t u]) (cs:=[i6 j,i6 t,i6 u]) u37 el46 (by decide) (by decide) rfl (fP (vs:=[.agg [i6 j,i6 t,i6 u].toArray]) (by decide) rfl rfl ⟨rfl,trivial⟩ rfl) H ⟨[i6 j,i6 t,i6 u],[],rfl,(aCn (x:=fC.mk j t u)),rfl⟩) ?_
   rintro hs ht H
   obtain ⟨e7,e8,c⟩:=zD c
   refine yT rfl rfl (kU H (i:=3) rfl u37 el46 rfl rfl (Sr.of_own (H.item (i:=6) rfl)) e8) ?_
   rintro ay hu H
   refine zG (aV rfl)<| zG (dS rfl)<| xB rfl (xQ H 2 rfl sz37 rfl (v:=ay) rfl (kH (H.item (i:=3) rfl)) rfl) ?_
   rintro hv H
   refine (zZ (yV (zF (d9 _ _ ?_))))
   refine zA ?_
   refine zH (i6 q) ?_
   obtain ⟨az,e9,c⟩:=zC c
   refine zG (xP (a:=q) (b:=1) rfl rfl e9)<| zI (i6 az) ?_
   exact (zZ (zF (meet ⟨(d4,az,e7,av,ay),(zJ rfl zK),⟨H.pick [0,1,2,3,4],c⟩,Nat.lt_succ_self _⟩)))
  have c:=zV ae c
  obtain rfl:=gI c
  exact (xG (yD (yD (yS (zF (meet ⟨K,zK,H.pick [1,2,3,4]⟩))))))
 rintro ak ρ hw H
 have c:=dz
 obtain ⟨hx,hy⟩:=Q
 refine zB fun hz fa=>zA<| zG (yJ (yL (cs:=[sb l,i6 f.Series.Den,ak,i6 63]) mJ rfl cO rfl (Hbc H 1 rfl)) rfl)<| zH h<| xB rfl (yQ (vs:=[sb l,i6 f.Series.Den,ak,i6 63]) H 0 rfl cO rfl rfl rfl ⟨rfl,rfl,(kH (H.item (i:=2) rfl)),rfl,trivial⟩ rfl) ?_
 rintro h0 H
 refine zI h<| zI (i6 0)<| RN fa ?_
 have H:=H.freeze (i:=2) rfl
 obtain rfl:=gI c
 refine (zX (pF (v1:=h) (v2:=i6 0) rfl rfl (yP mJ cO rfl (Hbc H 0 rfl)) rfl rfl ?_))
 exact ⟨ak,h,rfl,H.pick [2,3]⟩
set_option maxRecDepth 100000 in
theorem Fanw (y:List Int)(v1:Value)(r:(List Int))(c:Fan y=some r)(O S:List Nat)(w:World)(H:Hd O w w S [f1 (Rp.int .i64) v1 y]):
  Cl 13 [v1] w fun e j=> ∃u3,e= .returned (u3)∧Hd O w j S [.own (Rp.int .i64) u3 3 r]:=by
 unfold Fan at c
 refine CW 48 Tryz.func13 ?_
 refine zB fun K4 N=>zA<| zI (.slice none 0 0)<| RN N<| zB fun K5 P=>zA<| zH v1 ?_
 have H:=dE H (Rp.int .i64) 3
 obtain ⟨Q,R,c⟩:=zD c
 refine yT rfl rfl (kU H (i:=1) rfl u42 el3 rfl rfl (Sr.of_rd (H.item (i:=0) rfl)) R) ?_
 rintro d bx H
 refine zI d<| RN P ?_
 obtain ⟨z,c,T⟩:=zD c
 refine yI [4,5,8,9,10,11,12,13,14,15,16,17,18,19,20,21,22,23,24,25,26,27,28,29,30,31,32,33,34,35,36,37,38,39,40,41,42,43,44,45,46] (fun (g:Unit)=>[]) (fun g wl=>Hd O w wl S [.own (Rp.int .i64) d 3 z]) ?_ ?_
 ·skip
  refine zB fun bz U=>zA<| zI (i6 1)<| RN U<| zY ?_
  unfold Fcb at c
  obtain ⟨V,A,X,c⟩:=yK c
  refine yX [4,5,8,9,10,11,12,13,14,15,16,17,18,19,20,21,22,23,24,25,26,27,28,29,30,31,32,33,34,35,36,37,38,39,40,41,42,43,44,45,46] (fun (g:Nat×Int×(List Int))=>[(4,i6 g.2.1)]) (fun g wl=>Hd O w wl S [.own (Rp.int .i64) d 3 g.2.2]∧fE V g.1 (g.2.1,g.2.2)=some z) (fun g=>g.1) (A,1,Q) (zJ rfl zK) ⟨H.pick [1],c⟩ ?_
  clear H c
  rintro ⟨A,k,Y⟩ ρ b0 ⟨H,c⟩
  obtain ⟨Z,rfl,c⟩:=yO c
  have c:=yN X c
  refine zB fun b1 aa=>?_
  refine zB fun b2 ab=>zA<| zH (i6 k)<| zH d ?_
  obtain ⟨ac,ad,c⟩:=zC c
  obtain ⟨b3,b4,ae⟩:=Sr.len (Sr.of_own (H.item (i:=0) rfl))
  refine zG (yJ (xJ u42 ae) (congrArg (Value.int .i64) ad)) ?_
  obtain ⟨af,ag,c⟩:=zC c
  refine zG (zL (xI (a:=k) (b:=ac) rfl rfl) ag)<| RN ab<| yC (b:=af) rfl (fun l=>?_) (fun l=>?_)
  ·have c:=zU l c
   refine zQ (zF (aa _ _ ?_))
   obtain ⟨m,c,ah⟩:=zD c
   refine yI [5,14,15,16,17,18,19,20,21,22,23,24,25,26,27,28,29,30,31,32,33,34,35,36,37,38,39,40,41,42,43,44,45,46] (fun (g:Unit)=>[]) (fun g wl=>Hd O w wl S [.own (Rp.int .i64) d 3 m]) ?_ ?_
   ·skip
    refine zY ?_
    refine zB fun b5 ai=>zA<| zH (i6 k)<| zI (i6 k)<| RN ai<| zY ?_
    unfold Fbn at c
    obtain ⟨aj,B,ak,c⟩:=yK c
    refine yX [5,15,16,17,18,19,20,21,22,23,24,25,26,27,28,29,30,31,32,33,34,35,36,37,38,39,40,41,42,43,44,45,46] (fun (g:Nat×Int×(List Int))=>[(5,i6 g.2.1)]) (fun g wl=>Hd O w wl S [.own (Rp.int .i64) d 3 g.2.2]∧fE aj g.1 (g.2.1,g.2.2)=some m) (fun g=>g.1) (B,k,Y) (zJ rfl zK) ⟨H.pick [0],c⟩ ?_
    clear H c
    rintro ⟨B,h,al⟩ ρ b6 ⟨H,c⟩
    obtain ⟨am,rfl,c⟩:=yO c
    have c:=yN ak c
    refine zB fun b7 an=>?_
    obtain ⟨C,c,ao⟩:=zD c
    refine yI [15,16,17,18,19,20,21,22,23,24,25,26,27,28] (fun (g:Unit)=>[(28,.bool C)]) (fun g wl=>Hd O w wl S [.own (Rp.int .i64) d 3 al]) ?_ ?_
    ·skip
     have D:=H
     have H:=H.rebase
     have b8:=H
     refine WP_mix0 H [0,1,2,3,4,5,6,7,8,9,10,11,12,13] (kz [0,0,0,0,0,0,1,0,0,0,0,1,0,0]) mixed ?_
     refine XM (i6 h) ?_
     obtain ⟨ap,aq,c⟩:=zC c
     refine XP (fun _ _=>zL (dD (a:=h) (b:=0) rfl rfl) aq)<| MxM.XL_splitb (b:=ap) rfl rfl rfl rfl (fun n=>?_) (fun n=>?_)
     ·have c:=zU n c
      refine XM d<| XM (i6 h) ?_
      obtain ⟨E,o,c⟩:=zD c
      obtain ⟨b9,ca,ar,au,av,aw⟩:=dN (H.item (i:=0) rfl) o
      obtain rfl:ar= [i6 E]:=av
      refine XP (fun _ _=>yU u42 sz3 au rfl (zN o).1 (zN o).2.1 rfl rfl)<| MxM.xN oS rfl rfl rfl (fun j f=>yZ fJ rfl (Cells.get (aw.sees f) (i:=0) rfl))<| XM d<| XM (i6 h) ?_
      obtain ⟨cb,ax,c⟩:=zC c
      refine XP (fun _ _=>dH (a:=h) (b:=1) rfl rfl ax) ?_
      obtain ⟨F,p,c⟩:=zD c
      obtain ⟨cc,cd,ay,az,a0,a1⟩:=dN (H.item (i:=0) rfl) p
      obtain rfl:ay= [i6 F]:=a0
      refine XP (fun _ _=>yU u42 sz3 az rfl (zN p).1 (zN p).2.1 rfl rfl)<| MxM.xN oS rfl rfl rfl (fun j f=>yZ fJ rfl (Cells.get (a1.sees f) (i:=0) rfl)) ?_
      obtain ⟨a2,a3,c⟩:=zC c
      refine XP (fun _ _=>zL (xI (a:=E) (b:=F) rfl rfl) a3)<| XP (fun _ _=>yG (v:= .bool a2) rfl rfl)<| MxM.XL_nil fun ce hS=>?_
      have H:=H.sees hS
      have H:=D.rejoin H
      obtain rfl:=gI c
      exact (zF (meet ⟨(),(zJ rfl zK),H.pick [0]⟩))
     have c:=zV n c
     refine XO<| XO<| XO<| MxM.XL_offr oS rfl rfl rfl ?_
     refine XO<| XO<| XO<| XO<| MxM.XL_offr oS rfl rfl rfl ?_
     refine XO<| XP (fun _ _=>yB (v:= .bool false) rfl rfl)<| MxM.XL_nil fun cf hS=>?_
     have H:=H.sees hS
     have H:=D.rejoin H
     obtain rfl:=gI c
     exact (zF (meet ⟨(),(zJ rfl zK),H.pick [0]⟩))
    rintro _ ρ cg H
    have c:=ao
    refine yC (b:=C) rfl (fun q=>?_) (fun q=>?_)
    ·have c:=zU q c
     refine zQ (zF (an _ _ ?_))
     refine zB fun ch a4=>?_
     refine zY ?_
     have a5:=H
     have H:=H.rebase
     have ci:=H
     refine WP_mix0 H [0,1,2,3,4,5,6,7,8,9,10,11,12,13,14,15,16,17] (kz [0,0,0,0,0,0,0,0,0,1,0,0,0,1,0,3,0,3]) mixed ?_
     refine XM d<| XM (i6 h)<| XM d<| XM (i6 h) ?_
     obtain ⟨cj,a6,c⟩:=zC c
     refine XP (fun _ _=>dH (a:=h) (b:=1) rfl rfl a6)<| XM d<| XM (i6 h) ?_
     obtain ⟨ck,a7,c⟩:=zC c
     refine XP (fun _ _=>dH (a:=h) (b:=1) rfl rfl a7) ?_
     obtain ⟨G,s,c⟩:=zD c
     obtain ⟨cl,cm,a8,a9,ba,bb⟩:=dN (H.item (i:=0) rfl) s
     obtain rfl:a8= [i6 G]:=ba
     refine XP (fun _ _=>yU u42 sz3 a9 rfl (zN s).1 (zN s).2.1 rfl rfl)<| MxM.xN oS rfl rfl rfl (fun j f=>yZ fJ rfl (Cells.get (bb.sees f) (i:=0) rfl))<| XM d<| XM (i6 h) ?_
     obtain ⟨I,t,c⟩:=zD c
     obtain ⟨cn,co,bc,bd,be,bf⟩:=dN (H.item (i:=0) rfl) t
     obtain rfl:bc= [i6 I]:=be
     refine XP (fun _ _=>yU u42 sz3 bd rfl (zN t).1 (zN t).2.1 rfl rfl)<| MxM.xN oS rfl rfl rfl (fun j f=>yZ fJ rfl (Cells.get (bf.sees f) (i:=0) rfl)) ?_
     obtain ⟨bg,u,c⟩:=zD c
     obtain ⟨cp,cq,bh,J,bi,bj⟩:=dN (H.item (i:=0) rfl) u
     obtain rfl:bh= [i6 bg]:=bi
     refine XP (fun _ _=>yU u42 sz3 J rfl (zN u).1 (zN u).2.1 rfl rfl) ?_
     obtain ⟨cr,bk,c⟩:=zD c
     refine MxM.XL_exU oS rfl rfl (fun j f=>jY (vs:=[i6 G]) (off:=0) (H.sees f) 0 rfl J (bj.sees f) rfl sz3 rfl rfl rfl (kL ⟨rfl,trivial⟩) bk (by decide) rfl rfl) ?_
     rintro j cs f H
     refine ⟨H.only,?_⟩
     obtain ⟨bl,x,c⟩:=zD c
     obtain ⟨ct,cu,bm,K,bn,bo⟩:=dN (H.item (i:=0) rfl) x
     obtain rfl:bm= [i6 bl]:=bn
     refine XP (fun _ _=>yU u42 sz3 K rfl (zN x).1 (zN x).2.1 rfl rfl) ?_
     obtain ⟨bp,bq,c⟩:=zD c
     refine MxM.XL_exU oS rfl rfl (fun j f=>jY (vs:=[i6 I]) (off:=0) (H.sees f) 0 rfl K (bo.sees f) rfl sz3 rfl rfl rfl (kL ⟨rfl,trivial⟩) bq (by decide) rfl rfl) ?_
     rintro j cv f H
     refine ⟨H.only,?_⟩
     refine MxM.XL_nil fun cw hS=>?_
     have H:=H.sees hS
     have H:=a5.rejoin H
     refine yV (zF (a4 _ _ ?_))
     refine zA ?_
     refine zH (i6 h) ?_
     obtain ⟨L,br,c⟩:=zC c
     refine zG (dH (a:=h) (b:=1) rfl rfl br)<| zI (i6 L) ?_
     exact (zZ (zF (meet ⟨(am,L,bp),(zJ rfl zK),⟨H.pick [0],c⟩,Nat.lt_succ_self _⟩)))
    have c:=zV q c
    obtain rfl:=gI c
    exact (xG (yD (yD (yS (yV (zF (meet ⟨(),zK,H.pick [0]⟩)))))))
   rintro _ ρ cx H
   have c:=ah
   refine zA ?_
   refine zH (i6 k) ?_
   obtain ⟨M,bt,c⟩:=zC c
   refine zG (xP (a:=k) (b:=1) rfl rfl bt)<| zI (i6 M) ?_
   exact (zZ (zF (meet ⟨(Z,M,m),(zJ rfl zK),⟨H.pick [0],c⟩,Nat.lt_succ_self _⟩)))
  have c:=zV l c
  obtain rfl:=gI c
  exact (xG (yD (yD (yS (zF (meet ⟨(),zK,H.pick [0]⟩))))))
 rintro _ ρ cy H
 have c:=T
 refine zB fun cz bu=>zA<| zH d<| zI d<| RN bu ?_
 obtain rfl:=gI c
 refine (zX (fB (v1:=d) rfl rfl ?_))
 exact ⟨d,rfl,H.pick [0]⟩
theorem Fasw (d:Int)(f:Int)(h:Int)(r:Bool)(c:Fas d f h=some r)(O S:List Nat)(w:World)(H:Hd O w w S []):
  Cl 36 [i6 d,i6 f,i6 h] w fun e l=>e= .returned (.bool r)∧Hd O w l S []:=by
 unfold Fas at c
 refine CW 15 Tryz.func36 ?_
 refine zB fun s m=>zA<| zI (.bool false)<| RN m ?_
 obtain ⟨j,c,n⟩:=zD c
 refine yI [6,7,8,9,10,11,12,13,14] (fun (g:Unit)=>[(6,.bool j)]) (fun g wl=>Hd O w wl S []) ?_ ?_
 ·skip
  refine zA ?_
  refine zH (i6 d)<| zH (i6 f) ?_
  obtain ⟨o,p,c⟩:=zC c
  refine zG (zL (xI (a:=d) (b:=f) rfl rfl) p)<| xC (b:=o) rfl rfl rfl (fun i=>?_) (fun i=>?_)
  ·have c:=zU i c
   refine yH ?_
   refine yH ?_
   refine yH ?_
   refine zG (yG (v:= .bool true) rfl rfl)<| zI (.bool true) ?_
   obtain rfl:=gI c
   exact (zZ (zF (meet ⟨(),(zJ rfl zK),H.pick []⟩)))
  have c:=zV i c
  refine zH (i6 d)<| zH (i6 h) ?_
  obtain ⟨k,q,c⟩:=zC c
  refine zG (zL (dD (a:=d) (b:=h) rfl rfl) q)<| zG (yB (v:= .bool k) rfl rfl)<| zI (.bool k) ?_
  obtain rfl:=gI c
  exact (zZ (zF (meet ⟨(),(zJ rfl zK),H.pick []⟩)))
 rintro _ ρ t H
 have c:=n
 obtain rfl:=gI c
 refine (zX (fB (v1:= .bool j) rfl rfl ?_))
 exact ⟨rfl,H.pick []⟩
theorem Fbsw (r:(List Str))(a:Fbs=some r)(O S:List Nat)(w:World)(H:Hd O w w S []):
  Cl 97 [] w fun e d=> ∃c,e= .returned (c)∧Hd O w d S [.own Rp.str c 9 r]:=by
 unfold Fbs at a
 refine CW 2 Tryz.func97 ?_
 refine zB fun i f=>zA<| zI (.slice none 0 0)<| RN f<| zB fun j g=>zA ?_
 obtain ⟨k,h,a⟩:=zC a
 subst h
 refine yT rfl rfl (jG (r:=Rp.str) (xl:=[[112,104,97,115,101],[109,111,118,101],[114,117,108,101],[105,102],[111,114],[97,110,100],[116,114,117,101],[102,97,108,115,101],[115,116,101,97,100,121],[110,111,116],[102,111,114],[119,105,116,104,105,110],[99,111,117,110,116],[111,102],[114,105,115,101,115],[115,105,110,99,101]]) (cs:=[.string (bs [112,104,97,115,101]),.string (bs [109,111,118,101]),.string (bs [114,117,108,101]),.string (bs [105,102]),.string (bs [111,114]),.string (bs [97,110,100]),.string (bs [116,114,117,101]),.string (bs [102,97,108,115,101]),.string (bs [115,116,101,97,100,121]),.string (bs [110,111,116]),.string (bs [102,111,114]),.string (bs [119,105,116,104,105,110]),.string (bs [99,111,117,110,116]),.string (bs [111,102]),.string (bs [114,105,115,101,115]),.string (bs [115,105,110,99,101])]) u36 el9 (by decide) (by decide) rfl (fP (vs:=[.string (bs [112,104,97,115,101]),.string (bs [109,111,118,101]),.string (bs [114,117,108,101]),.string (bs [105,102]),.string (bs [111,114]),.string (bs [97,110,100]),.string (bs [116,114,117,101]),.string (bs [102,97,108,115,101]),.string (bs [115,116,101,97,100,121]),.string (bs [110,111,116]),.string (bs [102,111,114]),.string (bs [119,105,116,104,105,110]),.string (bs [99,111,117,110,116]),.string (bs [111,102]),.string (bs [114,105,115,101,115]),.string (bs [115,105,110,99,101])]) (by decide) rfl rfl ⟨rfl,rfl,rfl,rfl,rfl,rfl,rfl,rfl,rfl,rfl,rfl,rfl,rfl,rfl,rfl,rfl,trivial⟩ rfl) H ⟨[.string (bs [112,104,97,115,101])],[.string (bs [109,111,118,101]),.string (bs [114,117,108,101]),.string (bs [105,102]),.string (bs [111,114]),.string (bs [97,110,100]),.string (bs [116,114,117,101]),.string (bs [102,97,108,115,101]),.string (bs [115,116,101,97,100,121]),.string (bs [110,111,116]),.string (bs [102,111,114]),.string (bs [119,105,116,104,105,110]),.string (bs [99,111,117,110,116]),.string (bs [111,102]),.string (bs [114,105,115,101,115]),.string (bs [115,105,110,99,101])],rfl,rfl,⟨[.string (bs [109,111,118,101])],[.string (bs [114,117,108,101]),.string (bs [105,102]),.string (bs [111,114]),.string (bs [97,110,100]),.string (bs [116,114,117,101]),.string (bs [102,97,108,115,101]),.string (bs [115,116,101,97,100,121]),.string (bs [110,111,116]),.string (bs [102,111,114]),.string (bs [119,105,116,104,105,110]),.string (bs [99,111,117,110,116]),.string (bs [111,102]),.string (bs [114,105,115,101,115]),.string (bs [115,105,110,99,101])],rfl,rfl,⟨[.string (bs [114,117,108,101])],[.string (bs [105,102]),.string (bs [111,114]),.string (bs [97,110,100]),.string (bs [116,114,117,101]),.string (bs [102,97,108,115,101]),.string (bs [115,116,101,97,100,121]),.string (bs [110,111,116]),.string (bs [102,111,114]),.string (bs [119,105,116,104,105,110]),.string (bs [99,111,117,110,116]),.string (bs [111,102]),.string (bs [114,105,115,101,115]),.string (bs [115,105,110,99,101])],rfl,rfl,⟨[.string (bs [105,102])],[.string (bs [111,114]),.string (bs [97,110,100]),.string (bs [116,114,117,101]),.string (bs [102,97,108,115,101]),.string (bs [115,116,101,97,100,121]),.string (bs [110,111,116]),.string (bs [102,111,114]),.string (bs [119,105,116,104,105,110]),.string (bs [99,111,117,110,116]),.string (bs [111,102]),.string (bs [114,105,115,101,115]),.string (bs [115,105,110,99,101])],rfl,rfl,⟨[.string (bs [111,114])],[.string (bs [97,110,100]),.string (bs [116,114,117,101]),.string (bs [102,97,108,115,101]),.string (bs [115,116,101,97,100,121]),.string (bs [110,111,116]),.string (bs [102,111,114]),.string (bs [119,105,116,104,105,110]),.string (bs [99,111,117,110,116]),.string (bs [111,102]),.string (bs [114,105,115,101,115]),.string (bs [115,105,110,99,101])],rfl,rfl,⟨[.string (bs [97,110,100])],[.string (bs [116,114,117,101]),.string (bs [102,97,108,115,101]),.string (bs [115,116,101,97,100,121]),.string (bs [110,111,116]),.string (bs [102,111,114]),.string (bs [119,105,116,104,105,110]),.string (bs [99,111,117,110,116]),.string (bs [111,102]),.string (bs [114,105,115,101,115]),.string (bs [115,105,110,99,101])],rfl,rfl,⟨[.string (bs [116,114,117,101])],[.string (bs [102,97,108,115,101]),.string (bs [115,116,101,97,100,121]),.string (bs [110,111,116]),.string (bs [102,111,114]),.string (bs [119,105,116,104,105,110]),.string (bs [99,111,117,110,116]),.string (bs [111,102]),.string (bs [114,105,115,101,115]),.string (bs [115,105,110,99,101])],rfl,rfl,⟨[.string (bs [102,97,108,115,101])],[.string (bs [115,116,101,97,100,121]),.string (bs [110,111,116]),.string (bs [102,111,114]),.string (bs [119,105,116,104,105,110]),.string (bs [99,111,117,110,116]),.string (bs [111,102]),.string (bs [114,105,115,101,115]),.string (bs [115,105,110,99,101])],rfl,rfl,⟨[.string (bs [115,116,101,97,100,121])],[.string (bs [110,111,116]),.string (bs [102,111,114]),.string (bs [119,105,116,104,105,110]),.string (bs [99,111,117,110,116]),.string (bs [111,102]),.string (bs [114,105,115,101,115]),.string (bs [115,105,110,99,101])],rfl,rfl,⟨[.string (bs [110,111,116])],[.string (bs [102,111,114]),.string (bs [119,105,116,104,105,110]),.string (bs [99,111,117,110,116]),.string (bs [111,102]),.string (bs [114,105,115,101,115]),.string (bs [115,105,110,99,101])],rfl,rfl,⟨[.string (bs [102,111,114])],[.string (bs [119,105,116,104,105,110]),.string (bs [99,111,117,110,116]),.string (bs [111,102]),.string (bs [114,105,115,101,115]),.string (bs [115,105,110,99,101])],rfl,rfl,⟨[.string (bs [119,105,116,104,105,110])],[.string (bs [99,111,117,110,116]),.string (bs [111,102]),.string (bs [114,105,115,101,115]),.string (bs [115,105,110,99,101])],rfl,rfl,⟨[.string (bs [99,111,117,110,116])],[.string (bs [111,102]),.string (bs [114,105,115,101,115]),.string (bs [115,105,110,99,101])],rfl,rfl,⟨[.string (bs [111,102])],[.string (bs [114,105,115,101,115]),.string (bs [115,105,110,99,101])],rfl,rfl,⟨[.string (bs [114,105,115,101,115])],[.string (bs [115,105,110,99,101])],rfl,rfl,⟨[.string (bs [115,105,110,99,101])],[],rfl,rfl,rfl⟩⟩⟩⟩⟩⟩⟩⟩⟩⟩⟩⟩⟩⟩⟩⟩) ?_
 rintro b l H
 refine zI b<| RN g ?_
 obtain rfl:=gI a
 refine (zX (fB (v1:=b) rfl rfl ?_))
 exact ⟨b,rfl,H.pick [0]⟩
theorem Fbgw (f:Str)(r:Bool)(c:Fbg f=some r)(O S:List Nat)(w:World)(H:Hd O w w S []):
  Cl 71 [sb f] w fun e p=>e= .returned (.bool r)∧Hd O w p S []:=by
 unfold Fbg at c
 refine CW 18 Tryz.func71 ?_
 refine zB fun Z q=>zA<| zI (.bool false)<| RN q<| zB fun K2 s=>zA ?_
 obtain ⟨t,u,c⟩:=zD c
 refine zT rfl rfl (zO en97 rfl) (Fbsw _ u _ _ _ (H.enter [] [])) ?_
 rintro _ w7 ⟨h,rfl,v⟩
 have H:=H.back1 [] rfl v
 refine ⟨_,rfl,?_⟩
 refine zI h<| RN s ?_
 obtain ⟨x,y,c⟩:=xH c
 refine yI [2,4,6,7,8,9,10,11,12,13,14,15,16,17] (fun (g:Unit)=>[]) (fun g wl=>Hd O w wl S []∧x ()=some r) ?_ ?_
 ·skip
  refine zB fun ac z=>zA<| zI (i6 0)<| RN z<| zY ?_
  unfold Fbl at c
  obtain ⟨A,m,B,c⟩:=yK c
  refine yX [2,4,6,7,8,9,10,11,12,13,14,15,16,17] (fun (g:Nat×Int)=>[(4,i6 g.2)]) (fun g wl=>Hd O w wl S [.own Rp.str h 9 t]∧fE A g.1 g.2=some r) (fun g=>g.1) (m,0) (zJ rfl zK) ⟨H.pick [0],c⟩ ?_
  clear H c
  rintro ⟨m,d⟩ ρ ad ⟨H,c⟩
  obtain ⟨C,rfl,c⟩:=yO c
  have c:=yN B c
  refine zB fun ae D=>?_
  refine zB fun af E=>zA<| zH (i6 d)<| zH h ?_
  obtain ⟨F,G,c⟩:=zC c
  obtain ⟨ag,ah,I⟩:=Sr.len (Sr.of_own (H.item (i:=0) rfl))
  refine zG (yJ (xJ u36 I) (congrArg (Value.int .i64) G)) ?_
  obtain ⟨J,K,c⟩:=zC c
  refine zG (zL (xI (a:=d) (b:=F) rfl rfl) K)<| RN E<| yC (b:=J) rfl (fun j=>?_) (fun j=>?_)
  ·have c:=zU j c
   refine zQ (zF (D _ _ ?_))
   refine zB fun ai L=>?_
   refine zY ?_
   refine zB fun aj M=>zA<| zH h<| zH (i6 d) ?_
   obtain ⟨n,k,c⟩:=zD c
   obtain ⟨ak,al,N,P,Q,R⟩:=dN (H.item (i:=0) rfl) k
   obtain rfl:N= [sb n]:=Q
   refine zG (yU u36 sz9 P rfl (zN k).1 (zN k).2.1 rfl rfl)<| zG (yZ dQ rfl (Cells.get R (i:=0) rfl))<| zH (sb f) ?_
   obtain ⟨T,U,c⟩:=zC c
   refine zG (zL (fO (s1:=n) (s2:=f) rfl rfl) U)<| RN M<| yC (b:=T) rfl (fun l=>?_) (fun l=>?_)
   ·have c:=zU l c
    refine zB fun am V=>zA<| zI (.bool true)<| RN V ?_
    obtain rfl:=gI c
    refine (zX (yE (zS (zS (yE (zS (fB (v1:= .bool true) rfl rfl ?_)))))))
    exact ⟨rfl,H.pick []⟩
   have c:=zV l c
   refine (zQ (yV (zF (L _ _ ?_))))
   refine zA ?_
   refine zH (i6 d) ?_
   obtain ⟨o,X,c⟩:=zC c
   refine zG (xP (a:=d) (b:=1) rfl rfl X)<| zI (i6 o) ?_
   exact (zZ (zF (meet ⟨(C,o),(zJ rfl zK),⟨H.pick [0],c⟩,Nat.lt_succ_self _⟩)))
  have c:=zV j c
  exact (xG (yD (yD (yS (zF (meet ⟨(),zK,⟨H.pick [],c⟩⟩))))))
 rintro _ ρ an ⟨H,c⟩
 have c:=xO y c
 refine zB fun ao Y=>zA<| zI (.bool false)<| RN Y ?_
 obtain rfl:=gI c
 refine (zX (fB (v1:= .bool false) rfl rfl ?_))
 exact ⟨rfl,H.pick []⟩
end Go.Proofs.YtgmikmoapfmedaaGreatDoor.L
