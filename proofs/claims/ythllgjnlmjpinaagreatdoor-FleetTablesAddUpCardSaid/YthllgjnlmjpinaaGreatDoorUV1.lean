/- Walks: what each function computes, for every argument; no condition but those that stand in the statements. -/
import Derived.Test.YthllgjnlmjpinaaGreatDoorUV0
namespace Go.Proofs.YthllgjnlmjpinaaGreatDoor.L
open Go.RowKit Go.OB Go.Lf
set_option maxHeartbeats 4000000
set_option maxRecDepth 100000 in
theorem Fclw (k:List Track)(v1:Value)(r:Int)(c:Fcl k=some r)(O S:List Nat)(w:World)(H:Hd O w w S [f1 fF v1 k]):
  Cl 81 [v1] w fun e z=>e= .returned (i6 r)∧Hd O w z S []:=by
 unfold Fcl at c
 refine CW 36 Tryz.func81 ?_
 refine zB fun K3 A=>zA<| zI (i6 0)<| RN A<| zB fun bo B=>zB fun bp C=>zA<| zH v1 ?_
 obtain ⟨D,E,c⟩:=zD c
 obtain ⟨bq,br,F⟩:=SlF.len ((H.item (i:=0) rfl))
 refine zG (yH (yZ u45 F) (congrArg (Value.int .i64) E)) ?_
 obtain ⟨G,I,c⟩:=zD c
 refine zG (zO (cZ (a:=D) (b:=50) rfl rfl) I)<| RN C<| zW (b:=G) rfl (fun l=>?_) (fun l=>?_)
 ·have c:=zN l c
  refine zB fun bt J=>zA<| zI (i6 3)<| RN J ?_
  obtain rfl:=gG c
  refine (zX (zQ (gV (v1:=i6 3) rfl rfl ?_)))
  exact ⟨rfl,H.pick []⟩
 have c:=zM l c
 refine zZ (zF (B _ _ ?_))
 obtain ⟨K,L,c⟩:=xW c
 refine yG [2,3,4,5,9,10,11,12,13,14,15,16,17,18,19,20,21,22,23,24,25,26,27,28,29,30,31,32,33,34,35] (fun (g:Unit)=>[]) (fun g wl=>Hd O w wl S []∧K ()=some r) ?_ ?_
 ·skip
  refine zB fun bu M=>zA<| zH v1 ?_
  obtain ⟨N,P,c⟩:=zD c
  obtain ⟨bv,bw,Q⟩:=SlF.len ((H.item (i:=0) rfl))
  refine zG (yH (yZ u45 Q) (congrArg (Value.int .i64) P))<| zH (i6 0)<| RN M<| yD ?_
  unfold Ffh at c
  obtain ⟨R,u,T,c⟩:=yQ c
  refine xA [2,3,4,5,11,12,13,14,15,16,17,18,19,20,21,22,23,24,25,26,27,28,29,30,31,32,33,34,35] (fun (g:Nat×Int)=>[(11,i6 g.2)]) (fun g wl=>Hd O w wl S [f1 fF v1 k]∧fV R g.1 g.2=some r) (fun g=>g.1) (u,0) (zJ rfl zK) ⟨H.pick [0],c⟩ ?_
  clear H c
  rintro ⟨u,f⟩ ρ bx ⟨H,c⟩
  obtain ⟨U,rfl,c⟩:=yT c
  have c:=yV T c
  refine zB fun bz V=>zA ?_
  obtain ⟨X,Y,c⟩:=zD c
  refine zG (zO (xH (a:=f) (b:=N) rfl rfl) Y)<| RN V<| zB fun b0 Z=>zW (b:=X) rfl (fun m=>?_) (fun m=>?_)
  ·have c:=zN m c
   refine zZ (zF (Z _ _ ?_))
   refine zB fun b1 aa=>?_
   refine yD ?_
   refine zB fun b2 ab=>zA<| zH (i6 f) ?_
   obtain ⟨d,n,c⟩:=zC c
   obtain ⟨ac,ad,b3,b4,ae,af,ag,ah,ai⟩:=wJ (H.item (i:=0) rfl) n
   obtain ⟨h,rfl,aj⟩:=bY af
   have H:=H.fzs [.at ac (ad+f.toNat * 4) _,.sl fM h d.Series.Samples] ⟨⟨ag,ah,ai⟩,aj,trivial⟩
   refine zG (yS u45 qR ae rfl (zU n).1 (zU n).2.1 rfl rfl)<| zG (yH (yI (cs:=[sb d.Name,i6 d.Series.Den,h,i6 d.Long]) aFu rfl qR rfl (H.item (i:=1) rfl).2.2) rfl)<| yP rfl rfl (xI aHu H) ?_
   rintro _ b5 ⟨ak,rfl,H⟩
   refine zI (i6 f)<| yX rfl (yU (vs:=[sb d.Name,i6 d.Series.Den,h,i6 d.Long]) H 3 rfl qR rfl rfl rfl ⟨rfl,rfl,(dG (H.item (i:=2) rfl)),rfl,trivial⟩ rfl) ?_
   rintro b6 H
   refine RN ab<| zB fun b7 al=>zB fun b8 am=>zA<| zG (vJ rfl)<| Ld dX H 3 0 rfl rfl ?_
   have an:=H
   obtain ⟨ao,ap,c⟩:=zC c
   refine yB rfl rfl (zY en47 rfl) (Faiw d.Name _ ap _ _ _ (H.enter [] [])) ?_
   rintro _ b9 ⟨rfl,aq⟩
   have H:=an.step (aq.only:Only [] _ _)
   refine ⟨_,rfl,?_⟩
   obtain ⟨ar,au,c⟩:=zD c
   refine zG (zO (xX (p:=ao) rfl) au)<| RN am<| zW (b:=ar) rfl (fun o=>?_) (fun o=>?_)
   ·have c:=zN o c
    refine zB fun ca av=>zA<| zI (i6 8)<| RN av ?_
    obtain rfl:=gG c
    refine (zX (zQ (yA (zQ (zQ (yA (zQ (gV (v1:=i6 8) rfl rfl ?_))))))))
    exact ⟨rfl,H.pick []⟩
   have c:=zM o c
   refine zZ (zF (al _ _ ?_))
   refine zB fun cb aw=>?_
   refine zB fun cc ax=>zA<| zH v1<| zH (i6 f) ?_
   obtain ⟨v,ay,c⟩:=zC c
   refine sZ rfl rfl (jS u45 qR (H.item (i:=0) rfl) rfl rfl ay) ?_
   rintro x az
   have H:=H.fz (.sl fF x v) az
   refine zG (bZ rfl) ?_
   obtain ⟨a0,a1,c⟩:=zC c
   refine yB rfl rfl (zY en112 rfl) (Fdfw v d x ak h _ a1 _ _ _ (H.enter [3] [4,2])) ?_
   rintro _ cd ⟨rfl,a2⟩
   have H:Hd _ _ _ _ [_,_,_,_,_]:=H.back [3] [4,2] rfl a2
   refine ⟨_,rfl,?_⟩
   refine RN ax<| zW (b:=a0) rfl (fun q=>?_) (fun q=>?_)
   ·have c:=zN q c
    refine zB fun ce a3=>zA<| zI (i6 5)<| RN a3 ?_
    obtain rfl:=gG c
    refine (zX (zQ (yA (zQ (zQ (yA (zQ (gV (v1:=i6 5) rfl rfl ?_))))))))
    exact ⟨rfl,H.pick []⟩
   have c:=zM q c
   refine zZ (zF (aw _ _ ?_))
   refine zB fun cf a4=>?_
   refine zB fun cg a5=>zA<| zG (vK rfl)<| zG (yH (yI (cs:=[i6 d.Series.Den,h]) aKa rfl sz90 rfl (Cells.drop (Hbc H 4 rfl) 1 2)) rfl) ?_
   have a6:=H
   obtain ⟨j,a7,c⟩:=zC c
   refine yB rfl rfl (zY en114 rfl) (Fbtw d.Series h _ a7 _ _ _ (H.enter [] [2])) ?_
   rintro _ ch ⟨rfl,a8⟩
   have H:=a6.step (a8.only:Only [] _ _)
   refine ⟨_,rfl,?_⟩
   refine zI (i6 j)<| RN a5<| zB fun ci a9=>zA<| zH (i6 j) ?_
   obtain ⟨ba,bb,c⟩:=zD c
   refine zG (zO (eX (a:=j) (b:=0) rfl rfl) bb)<| RN a9<| zW (b:=ba) rfl (fun s=>?_) (fun s=>?_)
   ·have c:=zN s c
    refine zB fun cj bc=>zA<| zH (i6 j)<| zI (i6 j)<| RN bc ?_
    obtain rfl:=gG c
    refine (zX (zQ (yA (zQ (zQ (yA (zQ (gV (v1:=i6 j) rfl rfl ?_))))))))
    exact ⟨rfl,H.pick []⟩
   have c:=zM s c
   refine zZ (zF (a4 _ _ ?_))
   refine zB fun ck bd=>zA<| zG (fa92_2 rfl)<| Ld fG H 4 3 rfl rfl ?_
   have be:=H
   obtain ⟨bf,bg,c⟩:=zC c
   refine yB rfl rfl (zY aOi rfl) (aNu d.Long 0 1099511627776 _ bg _ _ _ (H.enter [] [])) ?_
   rintro _ cl ⟨rfl,bh⟩
   have H:=be.step (bh.only:Only [] _ _)
   refine ⟨_,rfl,?_⟩
   obtain ⟨bi,bj,c⟩:=zD c
   refine zG (zO (xX (p:=bf) rfl) bj)<| RN bd<| zW (b:=bi) rfl (fun t=>?_) (fun t=>?_)
   ·have c:=zN t c
    refine zB fun cm bk=>zA<| zI (i6 9)<| RN bk ?_
    obtain rfl:=gG c
    refine (zX (yA (zQ (zQ (yA (zQ (gV (v1:=i6 9) rfl rfl ?_)))))))
    exact ⟨rfl,H.pick []⟩
   have c:=zM t c
   refine (zZ (yJ (zF (aa _ _ ?_))))
   refine zA ?_
   obtain ⟨y,bl,c⟩:=zD c
   refine zG (xC (a:=f) (b:=1) rfl rfl bl)<| zH (i6 y) ?_
   exact (zT (zF (meet ⟨(U,y),(zJ rfl zK),⟨H.pick [0],c⟩,Nat.lt_succ_self _⟩)))
  have c:=zM m c
  exact (xE (yK (yK (yR (zF (meet ⟨(),zK,⟨H.pick [],c⟩⟩))))))
 rintro _ ρ cn ⟨H,c⟩
 have c:=wE L c
 refine zB fun cp bm=>zA<| zI (i6 0)<| RN bm ?_
 obtain rfl:=gG c
 refine (zX (gV (v1:=i6 0) rfl rfl ?_))
 exact ⟨rfl,H.pick []⟩
set_option maxRecDepth 100000 in
theorem Fdgw (d:Flight)(v1:Value)(r:Int)(c:Fdg d=some r)(O S:List Nat)(w:World)(H:Hd O w w S [f1 fF v1 d.Tracks]):
  Cl 46 [.agg [sb d.Tail,sb d.Route,i6 d.Day,i6 d.From,i6 d.To,v1].toArray] w fun e F=>e= .returned (i6 r)∧Hd O w F S []:=by
 unfold Fdg at c
 refine CW 58 Tryz.func46 ?_
 refine zB fun K3 G=>zA<| yP rfl rfl (xJ (cs:=[sb d.Tail,sb d.Route,i6 d.Day,i6 d.From,i6 d.To,v1]) rfl H) ?_
 rintro _ w6 ⟨f,rfl,H⟩
 refine zI (i6 0)<| RN G<| zB fun bb I=>yD ?_
 obtain ⟨t,c,J⟩:=zC c
 refine yG [3,4,5,6,7,8,9,10,11,12,13,14,15,16,17,18] (fun (g:Unit)=>[(3,.bool t)]) (fun g wl=>Hd O w wl S [f1 fF v1 d.Tracks,.blk f [sb d.Tail,sb d.Route,i6 d.Day,i6 d.From,i6 d.To,v1] 47]) ?_ ?_
 ·skip
  refine zA ?_
  refine zG (aJd rfl)<| Ld dX H 1 0 rfl rfl ?_
  obtain ⟨K,L,c⟩:=zD c
  refine zG (zO (aCy (s1:=d.Tail) (s2:=[]) rfl rfl) L) ?_
  obtain ⟨u,c,M⟩:=zC c
  refine dO 6 [7,8,9,10,11,12] [(12,.bool u)] (fun wl=>Hd O w wl S [f1 fF v1 d.Tracks,.blk f [sb d.Tail,sb d.Route,i6 d.Day,i6 d.From,i6 d.To,v1] 47]) ?_ ?_
  ·skip
   refine yO (b:=K) rfl rfl rfl (fun h=>?_) (fun h=>?_)
   ·have c:=zN h c
    refine zG (aJd rfl)<| Ld dX H 1 0 rfl rfl ?_
    have N:=H
    obtain ⟨P,Q,c⟩:=zC c
    refine yB rfl rfl (zY en52 rfl) (Faqw d.Tail _ Q _ _ _ (H.enter [] [])) ?_
    rintro _ bc ⟨rfl,R⟩
    have H:=N.step (R.only:Only [] _ _)
    refine ⟨_,rfl,?_⟩
    obtain ⟨T,U,c⟩:=zD c
    refine zG (zO (xX (p:=P) rfl) U)<| zG (yL (v:= .bool T) rfl rfl) ?_
    obtain rfl:=gG c
    exact zT (zF (meet ⟨(zJ rfl zK),H.pick [0,1]⟩))
   have c:=zM h c
   refine yE ?_
   refine yE ?_
   refine yE ?_
   refine yE ?_
   refine zG (yF (v:= .bool false) rfl rfl) ?_
   obtain rfl:=gG c
   exact zT (zF (meet ⟨(zJ rfl zK),H.pick [0,1]⟩))
  rintro ρ bd H
  have c:=M
  refine yO (b:=u) rfl rfl rfl (fun j=>?_) (fun j=>?_)
  ·have c:=zN j c
   refine yE ?_
   refine yE ?_
   refine yE ?_
   refine yE ?_
   refine zG (yL (v:= .bool true) rfl rfl)<| zI (.bool true) ?_
   obtain rfl:=gG c
   exact (zT (zF (meet ⟨(),(zJ rfl zK),H.pick [0,1]⟩)))
  have c:=zM j c
  refine zG (fa47_1 rfl)<| Ld dX H 1 1 rfl rfl ?_
  have V:=H
  obtain ⟨X,Y,c⟩:=zC c
  refine yB rfl rfl (zY en52 rfl) (Faqw d.Route _ Y _ _ _ (H.enter [] [])) ?_
  rintro _ be ⟨rfl,Z⟩
  have H:=V.step (Z.only:Only [] _ _)
  refine ⟨_,rfl,?_⟩
  obtain ⟨x,aa,c⟩:=zD c
  refine zG (zO (xX (p:=X) rfl) aa)<| zG (yF (v:= .bool x) rfl rfl)<| zI (.bool x) ?_
  obtain rfl:=gG c
  exact (zT (zF (meet ⟨(),(zJ rfl zK),H.pick [0,1]⟩)))
 rintro _ ρ bf H
 have c:=J
 refine zW (b:=t) rfl (fun k=>?_) (fun k=>?_)
 ·have c:=zN k c
  refine zB fun bg ab=>zA<| zI (i6 8)<| RN ab ?_
  obtain rfl:=gG c
  refine (zX (yA (zQ (gV (v1:=i6 8) rfl rfl ?_))))
  exact ⟨rfl,H.pick []⟩
 have c:=zM k c
 obtain ⟨y,c,ac⟩:=zC c
 refine yG [19,20,21,22,23,24,25,26,27,28,29,30,31,32,33,34,35,36,37,38,39,40] (fun (g:Unit)=>[(19,.bool y)]) (fun g wl=>Hd O w wl S [f1 fF v1 d.Tracks,.blk f [sb d.Tail,sb d.Route,i6 d.Day,i6 d.From,i6 d.To,v1] 47]) ?_ ?_
 ·skip
  refine zA ?_
  refine zG (aEv rfl)<| Ld fG H 1 2 rfl rfl ?_
  have ad:=H
  obtain ⟨ae,af,c⟩:=zC c
  refine yB rfl rfl (zY en26 rfl) (Fahw d.Day 0 1000000 _ af _ _ _ (H.enter [] [])) ?_
  rintro _ bh ⟨rfl,ag⟩
  have H:=ad.step (ag.only:Only [] _ _)
  refine ⟨_,rfl,?_⟩
  obtain ⟨ah,ai,c⟩:=zD c
  refine zG (zO (xX (p:=ae) rfl) ai) ?_
  obtain ⟨z,c,aj⟩:=zC c
  refine dO 5 [24,25,26,27,28] [(28,.bool z)] (fun wl=>Hd O w wl S [f1 fF v1 d.Tracks,.blk f [sb d.Tail,sb d.Route,i6 d.Day,i6 d.From,i6 d.To,v1] 47]) ?_ ?_
  ·skip
   refine yO (b:=ah) rfl rfl rfl (fun l=>?_) (fun l=>?_)
   ·have c:=zN l c
    refine yE ?_
    refine yE ?_
    refine yE ?_
    refine zG (yL (v:= .bool true) rfl rfl) ?_
    obtain rfl:=gG c
    exact zT (zF (meet ⟨(zJ rfl zK),H.pick [0,1]⟩))
   have c:=zM l c
   refine zG (aIw rfl)<| Ld fG H 1 3 rfl rfl ?_
   obtain ⟨ak,al,c⟩:=zD c
   refine zG (zO (xH (a:=d.From) (b:=0) rfl rfl) al)<| zG (yF (v:= .bool ak) rfl rfl) ?_
   obtain rfl:=gG c
   exact zT (zF (meet ⟨(zJ rfl zK),H.pick [0,1]⟩))
  rintro ρ bi H
  have c:=aj
  obtain ⟨A,c,am⟩:=zC c
  refine dO 7 [29,30,31,32,33,34,35] [(35,.bool A)] (fun wl=>Hd O w wl S [f1 fF v1 d.Tracks,.blk f [sb d.Tail,sb d.Route,i6 d.Day,i6 d.From,i6 d.To,v1] 47]) ?_ ?_
  ·skip
   refine yO (b:=z) rfl rfl rfl (fun m=>?_) (fun m=>?_)
   ·have c:=zN m c
    refine yE ?_
    refine yE ?_
    refine yE ?_
    refine yE ?_
    refine yE ?_
    refine zG (yL (v:= .bool true) rfl rfl) ?_
    obtain rfl:=gG c
    exact zT (zF (meet ⟨(zJ rfl zK),H.pick [0,1]⟩))
   have c:=zM m c
   refine zG (aIw rfl)<| Ld fG H 1 3 rfl rfl<| zG (aJf rfl)<| Ld fG H 1 4 rfl rfl ?_
   obtain ⟨an,ao,c⟩:=zD c
   refine zG (zO (cZ (a:=d.From) (b:=d.To) rfl rfl) ao)<| zG (yF (v:= .bool an) rfl rfl) ?_
   obtain rfl:=gG c
   exact zT (zF (meet ⟨(zJ rfl zK),H.pick [0,1]⟩))
  rintro ρ bj H
  have c:=am
  refine yO (b:=A) rfl rfl rfl (fun n=>?_) (fun n=>?_)
  ·have c:=zN n c
   refine yE ?_
   refine yE ?_
   refine yE ?_
   refine zG (yL (v:= .bool true) rfl rfl)<| zI (.bool true) ?_
   obtain rfl:=gG c
   exact (zT (zF (meet ⟨(),(zJ rfl zK),H.pick [0,1]⟩)))
  have c:=zM n c
  refine zG (aJf rfl)<| Ld fG H 1 4 rfl rfl ?_
  obtain ⟨B,ap,c⟩:=zD c
  refine zG (zO (aN (a:=d.To) (b:=4194304) rfl rfl) ap)<| zG (yF (v:= .bool B) rfl rfl)<| zI (.bool B) ?_
  obtain rfl:=gG c
  exact (zT (zF (meet ⟨(),(zJ rfl zK),H.pick [0,1]⟩)))
 rintro _ ρ bk H
 have c:=ac
 refine zW (b:=y) rfl (fun o=>?_) (fun o=>?_)
 ·have c:=zN o c
  refine zB fun bl aq=>zA<| zI (i6 9)<| RN aq ?_
  obtain rfl:=gG c
  refine (zX (yA (zQ (gV (v1:=i6 9) rfl rfl ?_))))
  exact ⟨rfl,H.pick []⟩
 have c:=zM o c
 obtain ⟨C,c,ar⟩:=zC c
 refine yG [41,42,43,44,45,46,47,48,49,50,51,52,53,54] (fun (g:Unit)=>[(41,.bool C)]) (fun g wl=>Hd O w wl S [f1 fF v1 d.Tracks,.blk f [sb d.Tail,sb d.Route,i6 d.Day,i6 d.From,i6 d.To,v1] 47]) ?_ ?_
 ·skip
  refine zA ?_
  refine zG (aJf rfl)<| Ld fG H 1 4 rfl rfl<| zG (aIw rfl)<| Ld fG H 1 3 rfl rfl ?_
  obtain ⟨au,av,c⟩:=zD c
  refine zG (kX (a:=d.To) (b:=d.From) rfl rfl av) ?_
  obtain ⟨aw,ax,c⟩:=zD c
  refine zG (xC (a:=au) (b:=1) rfl rfl ax) ?_
  obtain ⟨ay,az,c⟩:=zD c
  refine zG (zO (cZ (a:=aw) (b:=20000) rfl rfl) az)<| yO (b:=ay) rfl rfl rfl (fun q=>?_) (fun q=>?_)
  ·have c:=zN q c
   refine yE ?_
   refine yE ?_
   refine yE ?_
   refine yE ?_
   refine zG (yL (v:= .bool true) rfl rfl)<| zI (.bool true) ?_
   obtain rfl:=gG c
   exact (zT (zF (meet ⟨(),(zJ rfl zK),H.pick [0,1]⟩)))
  have c:=zM q c
  refine zG (vT rfl)<| Ld aGl H 1 5 rfl rfl ?_
  obtain ⟨a0,a1,c⟩:=zD c
  obtain ⟨bm,bn,a2⟩:=SlF.len ((H.item (i:=0) rfl))
  refine zG (yH (yZ u45 a2) (congrArg (Value.int .i64) a1)) ?_
  obtain ⟨D,a3,c⟩:=zD c
  refine zG (zO (cZ (a:=a0) (b:=30) rfl rfl) a3)<| zG (yF (v:= .bool D) rfl rfl)<| zI (.bool D) ?_
  obtain rfl:=gG c
  exact (zT (zF (meet ⟨(),(zJ rfl zK),H.pick [0,1]⟩)))
 rintro _ ρ bo H
 have c:=ar
 refine zW (b:=C) rfl (fun s=>?_) (fun s=>?_)
 ·have c:=zN s c
  refine zB fun bp a4=>zA<| zI (i6 3)<| RN a4 ?_
  obtain rfl:=gG c
  refine (zX (yA (zQ (gV (v1:=i6 3) rfl rfl ?_))))
  exact ⟨rfl,H.pick []⟩
 have c:=zM s c
 refine (zZ (yJ (zF (I _ _ ?_))))
 refine zB fun bq a5=>zA<| zG (vT rfl)<| Ld aGl H 1 5 rfl rfl ?_
 have a6:=H
 obtain ⟨E,a7,c⟩:=zC c
 refine yB rfl rfl (zY en81 rfl) (Fclw d.Tracks v1 _ a7 _ _ _ (H.enter [] [0])) ?_
 rintro _ br ⟨rfl,a8⟩
 have H:=a6.step (a8.only:Only [] _ _)
 refine ⟨_,rfl,?_⟩
 refine zI (i6 E)<| RN a5 ?_
 obtain rfl:=gG c
 refine (zX (gV (v1:=i6 E) rfl rfl ?_))
 exact ⟨rfl,H.pick []⟩
theorem Fc6w (j:List Flight)(v1:Value)(r:Int)(c:Fc6 j=some r)(O S:List Nat)(w:World)(H:Hd O w w S [f1 aB v1 j]):
  Cl 23 [v1] w fun e s=>e= .returned (i6 r)∧Hd O w s S []:=by
 unfold Fc6 at c
 refine CW 21 Tryz.func23 ?_
 refine zB fun K3 t=>zA<| zI (i6 0)<| RN t<| zB fun ap u=>zB fun aq v=>zA<| zH v1 ?_
 obtain ⟨x,y,c⟩:=zD c
 obtain ⟨ar,au,z⟩:=SlF.len ((H.item (i:=0) rfl))
 refine zG (yH (yZ u22 z) (congrArg (Value.int .i64) y)) ?_
 obtain ⟨A,B,c⟩:=zD c
 refine zG (zO (cZ (a:=x) (b:=300) rfl rfl) B)<| RN v<| zW (b:=A) rfl (fun k=>?_) (fun k=>?_)
 ·have c:=zN k c
  refine zB fun av C=>zA<| zI (i6 3)<| RN C ?_
  obtain rfl:=gG c
  refine (zX (zQ (gV (v1:=i6 3) rfl rfl ?_)))
  exact ⟨rfl,H.pick []⟩
 have c:=zM k c
 refine zZ (zF (u _ _ ?_))
 obtain ⟨D,E,c⟩:=xW c
 refine yG [2,4,5,9,10,11,12,13,14,15,16,17,18,19,20] (fun (g:Unit)=>[]) (fun g wl=>Hd O w wl S []∧D ()=some r) ?_ ?_
 ·skip
  refine zB fun aw F=>zA<| zH v1 ?_
  obtain ⟨G,I,c⟩:=zD c
  obtain ⟨ax,ay,J⟩:=SlF.len ((H.item (i:=0) rfl))
  refine zG (yH (yZ u22 J) (congrArg (Value.int .i64) I))<| zH (i6 0)<| RN F<| yD ?_
  unfold Fes at c
  obtain ⟨K,p,L,c⟩:=yQ c
  refine xA [2,4,5,11,12,13,14,15,16,17,18,19,20] (fun (g:Nat×Int)=>[(11,i6 g.2)]) (fun g wl=>Hd O w wl S [f1 aB v1 j]∧fV K g.1 g.2=some r) (fun g=>g.1) (p,0) (zJ rfl zK) ⟨H.pick [0],c⟩ ?_
  clear H c
  rintro ⟨p,l⟩ ρ az ⟨H,c⟩
  obtain ⟨M,rfl,c⟩:=yT c
  have c:=yV L c
  refine zB fun a0 N=>zA ?_
  obtain ⟨P,Q,c⟩:=zD c
  refine zG (zO (xH (a:=l) (b:=G) rfl rfl) Q)<| RN N<| zB fun a1 R=>zW (b:=P) rfl (fun m=>?_) (fun m=>?_)
  ·have c:=zN m c
   refine zZ (zF (R _ _ ?_))
   refine zB fun a2 T=>?_
   refine yD ?_
   refine zB fun a3 U=>zA ?_
   obtain ⟨d,n,c⟩:=zC c
   obtain ⟨V,X,a4,a5,Y,Z,aa,ab,ac⟩:=wJ (H.item (i:=0) rfl) n
   obtain ⟨h,rfl,ad⟩:=wZ Z
   have H:=H.fzs [.at V (X+l.toNat * 6) _,.sl fF h d.Tracks] ⟨⟨aa,ab,ac⟩,ad,trivial⟩
   refine zG (yS u22 tC Y rfl (zU n).1 (zU n).2.1 rfl rfl)<| zG (yH (yI (cs:=[sb d.Tail,sb d.Route,i6 d.Day,i6 d.From,i6 d.To,h]) sF rfl tC rfl (H.item (i:=1) rfl).2.2) rfl)<| yP rfl rfl (xI aOp H) ?_
   rintro _ a6 ⟨a7,rfl,H⟩
   refine yX rfl (yU (vs:=[sb d.Tail,sb d.Route,i6 d.Day,i6 d.From,i6 d.To,h]) H 3 rfl tC rfl rfl rfl ⟨rfl,rfl,rfl,rfl,rfl,(dG (H.item (i:=2) rfl)),trivial⟩ rfl) ?_
   rintro a8 H
   refine RN U<| zB fun a9 ae=>zA<| zG (yH (yI (cs:=[sb d.Tail,sb d.Route,i6 d.Day,i6 d.From,i6 d.To,h]) sF rfl tC rfl (Hbc H 3 rfl)) rfl) ?_
   have af:=H
   obtain ⟨f,ag,c⟩:=zC c
   refine yB rfl rfl (zY en46 rfl) (Fdgw d h _ ag _ _ _ (H.enter [] [2])) ?_
   rintro _ ba ⟨rfl,ah⟩
   have H:=af.step (ah.only:Only [] _ _)
   refine ⟨_,rfl,?_⟩
   refine zI (i6 f)<| RN ae<| zB fun bb ai=>zA<| zH (i6 f) ?_
   obtain ⟨aj,ak,c⟩:=zD c
   refine zG (zO (eX (a:=f) (b:=0) rfl rfl) ak)<| RN ai<| zW (b:=aj) rfl (fun o=>?_) (fun o=>?_)
   ·have c:=zN o c
    refine zB fun bc al=>zA<| zH (i6 f)<| zI (i6 f)<| RN al ?_
    obtain rfl:=gG c
    refine (zX (yA (zQ (zQ (yA (zQ (gV (v1:=i6 f) rfl rfl ?_)))))))
    exact ⟨rfl,H.pick []⟩
   have c:=zM o c
   refine (zZ (yJ (zF (T _ _ ?_))))
   refine zA ?_
   obtain ⟨q,am,c⟩:=zD c
   refine zG (xC (a:=l) (b:=1) rfl rfl am)<| zH (i6 q) ?_
   exact (zT (zF (meet ⟨(M,q),(zJ rfl zK),⟨H.pick [0],c⟩,Nat.lt_succ_self _⟩)))
  have c:=zM m c
  exact (xE (yK (yK (yR (zF (meet ⟨(),zK,⟨H.pick [],c⟩⟩))))))
 rintro _ ρ bd ⟨H,c⟩
 have c:=wE E c
 refine zB fun be an=>zA<| zI (i6 0)<| RN an ?_
 obtain rfl:=gG c
 refine (zX (gV (v1:=i6 0) rfl rfl ?_))
 exact ⟨rfl,H.pick []⟩
theorem Facw (h:List Str)(f:Str)(v1:Value)(r:Int)(c:Fac h f=some r)(O S:List Nat)(w:World)(H:Hd O w w S [f1 Rp.str v1 h]):
  Cl 85 [v1,sb f] w fun e p=>e= .returned (i6 r)∧Hd O w p S []:=by
 unfold Fac at c
 refine CW 19 Tryz.func85 ?_
 refine zB fun K3 q=>zA<| zI (i6 0)<| RN q ?_
 obtain ⟨s,t,c⟩:=xW c
 refine yG [4,5,6,7,8,9,10,11,12,13,14,15,16,17,18] (fun (g:Unit)=>[]) (fun g wl=>Hd O w wl S []∧s ()=some r) ?_ ?_
 ·skip
  refine zB fun ab u=>zA<| zH v1 ?_
  obtain ⟨v,x,c⟩:=zD c
  obtain ⟨ac,ad,y⟩:=SlF.len ((H.item (i:=0) rfl))
  refine zG (yH (yZ u23 y) (congrArg (Value.int .i64) x))<| zH (i6 0)<| RN u<| yD ?_
  unfold Fc7 at c
  obtain ⟨z,m,A,c⟩:=yQ c
  refine xA [4,5,8,9,10,11,12,13,14,15,16,17,18] (fun (g:Nat×Int)=>[(8,i6 g.2)]) (fun g wl=>Hd O w wl S [f1 Rp.str v1 h]∧fV z g.1 g.2=some r) (fun g=>g.1) (m,0) (zJ rfl zK) ⟨H.pick [0],c⟩ ?_
  clear H c
  rintro ⟨m,d⟩ ρ ae ⟨H,c⟩
  obtain ⟨B,rfl,c⟩:=yT c
  have c:=yV A c
  refine zB fun af C=>zA ?_
  obtain ⟨D,E,c⟩:=zD c
  refine zG (zO (xH (a:=d) (b:=v) rfl rfl) E)<| RN C<| zB fun ag F=>zW (b:=D) rfl (fun j=>?_) (fun j=>?_)
  ·have c:=zN j c
   refine zZ (zF (F _ _ ?_))
   refine zB fun ah G=>?_
   refine yD ?_
   refine zB fun ai I=>zA<| zH (i6 d)<| zI (i6 d)<| RN I<| zB fun aj J=>zA<| zH (sb f)<| zH v1<| zH (i6 d) ?_
   obtain ⟨n,k,c⟩:=zC c
   obtain ⟨K,L,ak,M,N,P,Q,R,T⟩:=wJ (H.item (i:=0) rfl) k
   obtain rfl:M= [sb n]:=P
   have H:=H.fz (.at K (L+d.toNat * 1) _) ⟨Q,R,T⟩
   refine zG (yS u23 sz9 N rfl (zU k).1 (zU k).2.1 rfl rfl)<| zG (xG dX rfl (Cells.get (H.item (i:=1) rfl).2.2 (i:=0) rfl)) ?_
   obtain ⟨U,V,c⟩:=zD c
   refine zG (zO (dK (s1:=f) (s2:=n) rfl rfl) V)<| RN J<| zW (b:=U) rfl (fun l=>?_) (fun l=>?_)
   ·have c:=zN l c
    refine zB fun al X=>zA<| zH (i6 d)<| zI (i6 d)<| RN X ?_
    obtain rfl:=gG c
    refine (zX (yA (zQ (zQ (yA (zQ (gV (v1:=i6 d) rfl rfl ?_)))))))
    exact ⟨rfl,H.pick []⟩
   have c:=zM l c
   refine (zZ (yJ (zF (G _ _ ?_))))
   refine zA ?_
   obtain ⟨o,Y,c⟩:=zD c
   refine zG (xC (a:=d) (b:=1) rfl rfl Y)<| zH (i6 o) ?_
   exact (zT (zF (meet ⟨(B,o),(zJ rfl zK),⟨H.pick [0],c⟩,Nat.lt_succ_self _⟩)))
  have c:=zM j c
  exact (xE (yK (yK (yR (zF (meet ⟨(),zK,⟨H.pick [],c⟩⟩))))))
 rintro _ ρ am ⟨H,c⟩
 have c:=wE t c
 refine zB fun an Z=>zA<| zI (i6 (-1))<| RN Z ?_
 obtain rfl:=gG c
 refine (zX (gV (v1:=i6 (-1)) rfl rfl ?_))
 exact ⟨rfl,H.pick []⟩
theorem Fafw (f:List Str)(d:Str)(v1:Value)(r:Bool)(c:Faf f d=some r)(O S:List Nat)(w:World)(H:Hd O w w S [f1 Rp.str v1 f]):
  Cl 48 [v1,sb d] w fun e i=>e= .returned (.bool r)∧Hd O w i S []:=by
 unfold Faf at c
 refine CW 9 Tryz.func48 ?_
 refine zB fun q j=>zA<| zI (.bool false)<| RN j<| zB fun s k=>zA<| zH v1<| zH (sb d) ?_
 have l:=H
 obtain ⟨m,n,c⟩:=zC c
 refine yB rfl rfl (zY en85 rfl) (Facw f d v1 _ n _ _ _ (H.enter [] [0])) ?_
 rintro _ t ⟨rfl,o⟩
 have H:=l.step (o.only:Only [] _ _)
 refine ⟨_,rfl,?_⟩
 obtain ⟨h,p,c⟩:=zD c
 refine zG (zO (aN (a:=m) (b:=0) rfl rfl) p)<| zI (.bool h)<| RN k ?_
 obtain rfl:=gG c
 refine (zX (gV (v1:= .bool h) rfl rfl ?_))
 exact ⟨rfl,H.pick []⟩
abbrev Ffk (f:Cond→Int→Int→Option (Bool×Int)):Prop:= ∀(p0:Cond) (p1:Int) (p2:Int) (v1:Value) (b3:Nat) (r:Bool×Int) (_:f p0 p1 p2=some r) (O S:List Nat) (w:World) (_:Hd O w w S [.blk b3 [i6 p2] 3,f1 fO v1 p0.Kids]),
  Cl 115 [.agg [i6 p0.Kind,sb p0.Name,sb p0.Other,i6 p0.Op,i6 p0.N,i6 p0.Frames,v1].toArray,i6 p1,gX b3] w fun e w'=>e= .returned (.bool r.1)∧Hd O w w' S [.blk b3 [i6 r.2] 3]
set_option maxRecDepth 100000 in
theorem Fc8w (rfA:Cond→Int→Int→Option (Bool×Int))(rhA:Ffk rfA)(d:Cond)(j:Int)(m:Int)(v1:Value)(h:Nat)(r:Bool×Int)(c:Fc8 rfA d j m=some r)(O S:List Nat)(w:World)(H:Hd O w w S [.blk h [i6 m] 3,f1 fO v1 d.Kids]):
  Cl 115 [.agg [i6 d.Kind,sb d.Name,sb d.Other,i6 d.Op,i6 d.N,i6 d.Frames,v1].toArray,i6 j,gX h] w fun e B=>e= .returned (.bool r.1)∧Hd O w B S [.blk h [i6 r.2] 3]:=by
 unfold Fc8 at c
 refine CW 36 Tryz.func115 ?_
 refine zB fun K5 C=>zA<| yP rfl rfl (xJ (cs:=[i6 d.Kind,sb d.Name,sb d.Other,i6 d.Op,i6 d.N,i6 d.Frames,v1]) rfl H) ?_
 rintro _ w8 ⟨D,rfl,H⟩
 refine zI (.bool false)<| RN C<| zB fun K9 E=>zA<| zH (gX h)<| zG (yC rfl)<| Ld fG H 0 0 rfl rfl ?_
 obtain ⟨l,F,c⟩:=zD c
 refine zG (xC (a:=m) (b:=1) rfl rfl F)<| zG (yC rfl)<| yX rfl (xR H 0 rfl sz3 rfl (v:=i6 l) rfl rfl rfl) ?_
 rintro a6 H
 refine RN E<| zB fun a7 G=>?_
 obtain ⟨x,c,I⟩:=zC c
 refine yG [14,15,16,17,18,19,20,21] (fun (g:Unit)=>[(21,.bool x)]) (fun g wl=>Hd O w wl S [.blk h [i6 l] 3,f1 fO v1 d.Kids,.blk D [i6 d.Kind,sb d.Name,sb d.Other,i6 d.Op,i6 d.N,i6 d.Frames,v1] 110]) ?_ ?_
 ·skip
  refine zA ?_
  refine zH (i6 j) ?_
  obtain ⟨J,K,c⟩:=zD c
  refine zG (zO (yY (a:=j) (b:=0) rfl rfl) K)<| yO (b:=J) rfl rfl rfl (fun n=>?_) (fun n=>?_)
  ·have c:=zN n c
   refine yE ?_
   refine yE ?_
   refine yE ?_
   refine yE ?_
   refine zG (yL (v:= .bool true) rfl rfl) ?_
   obtain rfl:=gG c
   exact (zT (zF (meet ⟨(),(zJ rfl zK),H.pick [0,1,2]⟩)))
  have c:=zM n c
  refine zH (gX h)<| zG (yC rfl)<| Ld fG H 0 0 rfl rfl ?_
  obtain ⟨L,M,c⟩:=zD c
  refine zG (zO (cZ (a:=l) (b:=200) rfl rfl) M)<| zG (yF (v:= .bool L) rfl rfl) ?_
  obtain rfl:=gG c
  exact (zT (zF (meet ⟨(),(zJ rfl zK),H.pick [0,1,2]⟩)))
 rintro _ ρ a8 H
 have c:=I
 refine zW (b:=x) rfl (fun o=>?_) (fun o=>?_)
 ·have c:=zN o c
  refine zB fun a9 P=>zA<| zI (.bool false)<| RN P ?_
  obtain rfl:=gG c
  refine (zX (zQ (gV (v1:= .bool false) rfl rfl ?_)))
  exact ⟨rfl,H.pick [0]⟩
 have c:=zM o c
 refine zZ (zF (G _ _ ?_))
 obtain ⟨Q,R,c⟩:=xW c
 refine yG [6,8,22,23,24,25,26,27,28,29,30,31,32,33,34,35] (fun (g:Int)=>[]) (fun g wl=>Hd O w wl S [.blk h [i6 g] 3]∧Q g=some r) ?_ ?_
 ·skip
  refine zB fun ba T=>zA<| zG (rO rfl)<| Ld vC H 2 6 rfl rfl ?_
  obtain ⟨U,V,c⟩:=zD c
  obtain ⟨bb,bc,X⟩:=SlF.len ((H.item (i:=1) rfl))
  refine zG (yH (yZ aBf X) (congrArg (Value.int .i64) V))<| zH (i6 0)<| RN T<| yD ?_
  unfold Ffb at c
  obtain ⟨Y,y,Z,c⟩:=yQ c
  refine xA [6,8,25,26,27,28,29,30,31,32,33,34,35] (fun (g:Nat×Int×Int)=>[(25,i6 g.2.1)]) (fun g wl=>Hd O w wl S [.blk h [i6 g.2.2] 3,f1 fO v1 d.Kids]∧fV Y g.1 (g.2.1,g.2.2)=some r) (fun g=>g.1) (y,0,l) (zJ rfl zK) ⟨H.pick [0,1],c⟩ ?_
  clear H c
  rintro ⟨y,q,z⟩ ρ bd ⟨H,c⟩
  obtain ⟨aa,rfl,c⟩:=yT c
  have c:=yV Z c
  refine zB fun be ab=>zA ?_
  obtain ⟨ac,ad,c⟩:=zD c
  refine zG (zO (xH (a:=q) (b:=U) rfl rfl) ad)<| RN ab<| zB fun bf ae=>zW (b:=ac) rfl (fun s=>?_) (fun s=>?_)
  ·have c:=zN s c
   refine zZ (zF (ae _ _ ?_))
   refine zB fun bg af=>?_
   refine yD ?_
   refine zB fun bh ag=>zA ?_
   obtain ⟨f,t,c⟩:=zC c
   obtain ⟨ah,ai,bi,bj,aj,ak,al,am,an⟩:=wJ (H.item (i:=1) rfl) t
   obtain ⟨k,rfl,ao⟩:=aY ak
   have H:=H.fzs [.at ah (ai+q.toNat * 7) _,.sl fO k f.Kids] ⟨⟨al,am,an⟩,ao,trivial⟩
   refine zG (yS aBf dI aj rfl (zU t).1 (zU t).2.1 rfl rfl)<| zG (yH (yI (cs:=[i6 f.Kind,sb f.Name,sb f.Other,i6 f.Op,i6 f.N,i6 f.Frames,k]) dQ rfl dI rfl (H.item (i:=2) rfl).2.2) rfl)<| yP rfl rfl (xI tV H) ?_
   rintro _ bk ⟨bl,rfl,H⟩
   refine yX rfl (yU (vs:=[i6 f.Kind,sb f.Name,sb f.Other,i6 f.Op,i6 f.N,i6 f.Frames,k]) H 4 rfl dI rfl rfl rfl ⟨rfl,rfl,rfl,rfl,rfl,rfl,(dG (H.item (i:=3) rfl)),trivial⟩ rfl) ?_
   rintro bm H
   refine RN ag<| zB fun bn ap=>zA<| zG (yH (yI (cs:=[i6 f.Kind,sb f.Name,sb f.Other,i6 f.Op,i6 f.N,i6 f.Frames,k]) dQ rfl dI rfl (Hbc H 4 rfl)) rfl)<| zH (i6 j) ?_
   obtain ⟨aq,ar,c⟩:=zD c
   refine zG (kX (a:=j) (b:=1) rfl rfl ar)<| zH (gX h) ?_
   obtain ⟨⟨au,av⟩,aw,c⟩:=zC c
   refine yB rfl rfl (zY en115 rfl) (rhA f aq z k h _ aw _ _ _ (H.enter [0] [3])) ?_
   rintro _ bo ⟨rfl,ax⟩
   have H:Hd _ _ _ _ [_,_,_,_,_]:=H.back [0] [3] rfl ax
   refine ⟨_,rfl,?_⟩
   obtain ⟨ay,az,c⟩:=zD c
   refine zG (zO (xX (p:=au) rfl) az)<| RN ap<| zW (b:=ay) rfl (fun u=>?_) (fun u=>?_)
   ·have c:=zN u c
    refine zB fun bp a0=>zA<| zI (.bool false)<| RN a0 ?_
    obtain rfl:=gG c
    refine (zX (yA (zQ (zQ (yA (zQ (gV (v1:= .bool false) rfl rfl ?_)))))))
    exact ⟨rfl,H.pick [4]⟩
   have c:=zM u c
   refine (zZ (yJ (zF (af _ _ ?_))))
   refine zA ?_
   obtain ⟨A,a1,c⟩:=zD c
   refine zG (xC (a:=q) (b:=1) rfl rfl a1)<| zH (i6 A) ?_
   exact (zT (zF (meet ⟨(aa,A,av),(zJ rfl zK),⟨H.pick [4,0],c⟩,Nat.lt_succ_self _⟩)))
  have c:=zM s c
  exact (xE (yK (yK (yR (zF (meet ⟨z,zK,⟨H.pick [0],c⟩⟩))))))
 rintro bq ρ br ⟨H,c⟩
 have c:=wE R c
 refine zB fun bt a2=>zA<| zI (.bool true)<| RN a2 ?_
 obtain rfl:=gG c
 refine (zX (gV (v1:= .bool true) rfl rfl ?_))
 exact ⟨rfl,H.pick [0]⟩
theorem Ffz:Ffk (Fd9):=by
 have h: ∀n,Ffk (Faj n):=by
  intro n
  induction n with
  | zero=>intro b c d e f r a; cases a
  | succ n ih=>intro b c d e f r a; exact Fc8w (Faj n) ih b c d e f r a
 exact h FU
set_option maxRecDepth 100000 in
theorem Faaw (d:Int)(r:dE×Bool)(c:Faa d=some r)(O S:List Nat)(w:World)(H:Hd O w w S []):
  Cl 141 [i6 d] w fun e Q=>e= .returned (.tuple #[.agg [.bool r.1.name,.bool r.1.other,.bool r.1.op,.bool r.1.n,.bool r.1.frames,i6 r.1.least,i6 r.1.most].toArray,.bool r.2])∧Hd O w Q S []:=by
 unfold Faa at c
 refine CW 41 Tryz.func141 ?_
 refine zB fun K1 R=>zA<| yP rfl rfl (xI aPt H) ?_
 rintro _ w4 ⟨f,rfl,H⟩
 refine zI (.bool false)<| RN R<| zB fun bk T=>zB fun bl U=>zA<| zH (i6 d)<| RN U<| yD ?_
 obtain ⟨z,c,V⟩:=zC c
 refine yG [5,6,7] (fun (g:Unit)=>[(5,.bool z)]) (fun g wl=>Hd O w wl S [.blk f [.bool false,.bool false,.bool false,.bool false,.bool false,i6 0,i6 0] 199]) ?_ ?_
 ·skip
  refine zB fun bm X=>zA ?_
  obtain ⟨A,Y,c⟩:=zD c
  refine zG (zO (yY (a:=d) (b:=1) rfl rfl) Y)<| zI (.bool A)<| RN X<| zW (b:=A) rfl (fun h=>?_) (fun h=>?_)
  ·have c:=zN h c
   obtain rfl:=gG c
   exact (zZ (zF (meet ⟨(),(zJ rfl zK),H.pick [0]⟩)))
  have c:=zM h c
  refine zA ?_
  obtain ⟨Z,aa,c⟩:=zD c
  refine zG (zO (yY (a:=d) (b:=2) rfl rfl) aa)<| zI (.bool Z) ?_
  obtain rfl:=gG c
  exact (zT (zF (meet ⟨(),(zJ rfl zK),H.pick [0]⟩)))
 rintro _ ρ bn H
 have c:=V
 refine zW (b:=z) rfl (fun i=>?_) (fun i=>?_)
 ·have c:=zN i c
  refine zB fun bo ab=>zA<| zG (xM (cs:=[.bool false,.bool false,.bool false,.bool false,.bool false,i6 0,i6 0]) bz199)<| yX rfl (yU (vs:=[.bool false,.bool false,.bool false,.bool false,.bool false,i6 0,i6 0]) H 0 rfl aZ rfl rfl rfl ⟨rfl,rfl,rfl,rfl,rfl,rfl,rfl,trivial⟩ rfl) ?_
  rintro bp H
  refine zI (.bool true)<| RN ab ?_
  obtain rfl:=gG c
  refine (zX (yA (zQ (kF (v1:= .bool true) rfl rfl (xK nT aZ rfl (Hbc H 0 rfl)) rfl ?_))))
  exact ⟨rfl,H.pick []⟩
 have c:=zM i c
 refine zB fun bq ac=>zA ?_
 obtain ⟨B,ad,c⟩:=zD c
 refine zG (zO (yY (a:=d) (b:=3) rfl rfl) ad)<| zI (.bool B)<| RN ac<| zW (b:=B) rfl (fun j=>?_) (fun j=>?_)
 ·have c:=zN j c
  refine zB fun br ae=>zA<| zG (xM (cs:=[.bool true,.bool false,.bool true,.bool true,.bool false,i6 0,i6 0]) (aKt _ _ _))<| yX rfl (yU (vs:=[.bool true,.bool false,.bool true,.bool true,.bool false,i6 0,i6 0]) H 0 rfl aZ rfl rfl rfl ⟨rfl,rfl,rfl,rfl,rfl,rfl,rfl,trivial⟩ rfl) ?_
  rintro bt H
  refine zI (.bool true)<| RN ae ?_
  obtain rfl:=gG c
  refine (zX (yA (zQ (kF (v1:= .bool true) rfl rfl (xK nT aZ rfl (Hbc H 0 rfl)) rfl ?_))))
  exact ⟨rfl,H.pick []⟩
 have c:=zM j c
 refine zB fun bu af=>zA ?_
 obtain ⟨C,ag,c⟩:=zD c
 refine zG (zO (yY (a:=d) (b:=4) rfl rfl) ag)<| zI (.bool C)<| RN af<| zW (b:=C) rfl (fun k=>?_) (fun k=>?_)
 ·have c:=zN k c
  refine zB fun bv ah=>zA<| zG (xM (cs:=[.bool true,.bool true,.bool true,.bool false,.bool false,i6 0,i6 0]) (aMm _ _ _))<| yX rfl (yU (vs:=[.bool true,.bool true,.bool true,.bool false,.bool false,i6 0,i6 0]) H 0 rfl aZ rfl rfl rfl ⟨rfl,rfl,rfl,rfl,rfl,rfl,rfl,trivial⟩ rfl) ?_
  rintro bw H
  refine zI (.bool true)<| RN ah ?_
  obtain rfl:=gG c
  refine (zX (yA (zQ (kF (v1:= .bool true) rfl rfl (xK nT aZ rfl (Hbc H 0 rfl)) rfl ?_))))
  exact ⟨rfl,H.pick []⟩
 have c:=zM k c
 refine zB fun bx ai=>zA ?_
 obtain ⟨D,aj,c⟩:=zD c
 refine zG (zO (yY (a:=d) (b:=5) rfl rfl) aj)<| zI (.bool D)<| RN ai<| zW (b:=D) rfl (fun l=>?_) (fun l=>?_)
 ·have c:=zN l c
  refine zB fun bz ak=>zA<| zG (xM (cs:=[.bool true,.bool false,.bool false,.bool true,.bool true,i6 0,i6 0]) (aLu _ _ _))<| yX rfl (yU (vs:=[.bool true,.bool false,.bool false,.bool true,.bool true,i6 0,i6 0]) H 0 rfl aZ rfl rfl rfl ⟨rfl,rfl,rfl,rfl,rfl,rfl,rfl,trivial⟩ rfl) ?_
  rintro b0 H
  refine zI (.bool true)<| RN ak ?_
  obtain rfl:=gG c
  refine (zX (yA (zQ (kF (v1:= .bool true) rfl rfl (xK nT aZ rfl (Hbc H 0 rfl)) rfl ?_))))
  exact ⟨rfl,H.pick []⟩
 have c:=zM l c
 obtain ⟨E,c,al⟩:=zC c
 refine yG [18,19,20] (fun (g:Unit)=>[(18,.bool E)]) (fun g wl=>Hd O w wl S [.blk f [.bool false,.bool false,.bool false,.bool false,.bool false,i6 0,i6 0] 199]) ?_ ?_
 ·skip
  refine zB fun b1 am=>zA ?_
  obtain ⟨F,an,c⟩:=zD c
  refine zG (zO (yY (a:=d) (b:=6) rfl rfl) an)<| zI (.bool F)<| RN am<| zW (b:=F) rfl (fun m=>?_) (fun m=>?_)
  ·have c:=zN m c
   obtain rfl:=gG c
   exact (zZ (zF (meet ⟨(),(zJ rfl zK),H.pick [0]⟩)))
  have c:=zM m c
  refine zA ?_
  obtain ⟨ao,ap,c⟩:=zD c
  refine zG (zO (yY (a:=d) (b:=7) rfl rfl) ap)<| zI (.bool ao) ?_
  obtain rfl:=gG c
  exact (zT (zF (meet ⟨(),(zJ rfl zK),H.pick [0]⟩)))
 rintro _ ρ b2 H
 have c:=al
 refine zW (b:=E) rfl (fun o=>?_) (fun o=>?_)
 ·have c:=zN o c
  refine zB fun b3 aq=>zA<| zG (xM (cs:=[.bool true,.bool false,.bool false,.bool false,.bool false,i6 0,i6 0]) (bt199_0 _))<| yX rfl (yU (vs:=[.bool true,.bool false,.bool false,.bool false,.bool false,i6 0,i6 0]) H 0 rfl aZ rfl rfl rfl ⟨rfl,rfl,rfl,rfl,rfl,rfl,rfl,trivial⟩ rfl) ?_
  rintro b4 H
  refine zI (.bool true)<| RN aq ?_
  obtain rfl:=gG c
  refine (zX (yA (zQ (kF (v1:= .bool true) rfl rfl (xK nT aZ rfl (Hbc H 0 rfl)) rfl ?_))))
  exact ⟨rfl,H.pick []⟩
 have c:=zM o c
 obtain ⟨G,c,ar⟩:=zC c
 refine yG [22,23,24] (fun (g:Unit)=>[(22,.bool G)]) (fun g wl=>Hd O w wl S [.blk f [.bool false,.bool false,.bool false,.bool false,.bool false,i6 0,i6 0] 199]) ?_ ?_
 ·skip
  refine zB fun b5 au=>zA ?_
  obtain ⟨I,av,c⟩:=zD c
  refine zG (zO (yY (a:=d) (b:=8) rfl rfl) av)<| zI (.bool I)<| RN au<| zW (b:=I) rfl (fun p=>?_) (fun p=>?_)
  ·have c:=zN p c
   obtain rfl:=gG c
   exact (zZ (zF (meet ⟨(),(zJ rfl zK),H.pick [0]⟩)))
  have c:=zM p c
  refine zA ?_
  obtain ⟨aw,ax,c⟩:=zD c
  refine zG (zO (yY (a:=d) (b:=15) rfl rfl) ax)<| zI (.bool aw) ?_
  obtain rfl:=gG c
  exact (zT (zF (meet ⟨(),(zJ rfl zK),H.pick [0]⟩)))
 rintro _ ρ b6 H
 have c:=ar
 refine zW (b:=G) rfl (fun q=>?_) (fun q=>?_)
 ·have c:=zN q c
  refine zB fun b7 ay=>zA<| zG (xM (cs:=[.bool false,.bool false,.bool false,.bool false,.bool false,i6 1,i6 1]) (aBv _ _))<| yX rfl (yU (vs:=[.bool false,.bool false,.bool false,.bool false,.bool false,i6 1,i6 1]) H 0 rfl aZ rfl rfl rfl ⟨rfl,rfl,rfl,rfl,rfl,rfl,rfl,trivial⟩ rfl) ?_
  rintro b8 H
  refine zI (.bool true)<| RN ay ?_
  obtain rfl:=gG c
  refine (zX (yA (zQ (kF (v1:= .bool true) rfl rfl (xK nT aZ rfl (Hbc H 0 rfl)) rfl ?_))))
  exact ⟨rfl,H.pick []⟩
 have c:=zM q c
 obtain ⟨J,c,az⟩:=zC c
 refine yG [26,27,28] (fun (g:Unit)=>[(26,.bool J)]) (fun g wl=>Hd O w wl S [.blk f [.bool false,.bool false,.bool false,.bool false,.bool false,i6 0,i6 0] 199]) ?_ ?_
 ·skip
  refine zB fun b9 a0=>zA ?_
  obtain ⟨K,a1,c⟩:=zD c
  refine zG (zO (yY (a:=d) (b:=9) rfl rfl) a1)<| zI (.bool K)<| RN a0<| zW (b:=K) rfl (fun s=>?_) (fun s=>?_)
  ·have c:=zN s c
   obtain rfl:=gG c
   exact (zZ (zF (meet ⟨(),(zJ rfl zK),H.pick [0]⟩)))
  have c:=zM s c
  refine zA ?_
  obtain ⟨a2,a3,c⟩:=zD c
  refine zG (zO (yY (a:=d) (b:=10) rfl rfl) a3)<| zI (.bool a2) ?_
  obtain rfl:=gG c
  exact (zT (zF (meet ⟨(),(zJ rfl zK),H.pick [0]⟩)))
 rintro _ ρ ca H
 have c:=az
 refine zW (b:=J) rfl (fun t=>?_) (fun t=>?_)
 ·have c:=zN t c
  refine zB fun cb a4=>zA<| zG (xM (cs:=[.bool false,.bool false,.bool false,.bool false,.bool false,i6 2,i6 200]) (aBv _ _))<| yX rfl (yU (vs:=[.bool false,.bool false,.bool false,.bool false,.bool false,i6 2,i6 200]) H 0 rfl aZ rfl rfl rfl ⟨rfl,rfl,rfl,rfl,rfl,rfl,rfl,trivial⟩ rfl) ?_
  rintro cc H
  refine zI (.bool true)<| RN a4 ?_
  obtain rfl:=gG c
  refine (zX (yA (zQ (kF (v1:= .bool true) rfl rfl (xK nT aZ rfl (Hbc H 0 rfl)) rfl ?_))))
  exact ⟨rfl,H.pick []⟩
 have c:=zM t c
 obtain ⟨L,c,a5⟩:=zC c
 refine yG [30,31,32] (fun (g:Unit)=>[(30,.bool L)]) (fun g wl=>Hd O w wl S [.blk f [.bool false,.bool false,.bool false,.bool false,.bool false,i6 0,i6 0] 199]) ?_ ?_
 ·skip
  refine zB fun cd a6=>zA ?_
  obtain ⟨M,a7,c⟩:=zD c
  refine zG (zO (yY (a:=d) (b:=11) rfl rfl) a7)<| zI (.bool M)<| RN a6<| zW (b:=M) rfl (fun u=>?_) (fun u=>?_)
  ·have c:=zN u c
   obtain rfl:=gG c
   exact (zZ (zF (meet ⟨(),(zJ rfl zK),H.pick [0]⟩)))
  have c:=zM u c
  refine zA ?_
  obtain ⟨a8,a9,c⟩:=zD c
  refine zG (zO (yY (a:=d) (b:=12) rfl rfl) a9)<| zI (.bool a8) ?_
  obtain rfl:=gG c
  exact (zT (zF (meet ⟨(),(zJ rfl zK),H.pick [0]⟩)))
 rintro _ ρ ce H
 have c:=a5
 refine zW (b:=L) rfl (fun v=>?_) (fun v=>?_)
 ·have c:=zN v c
  refine zB fun cf ba=>zA<| zG (xM (cs:=[.bool false,.bool false,.bool false,.bool false,.bool true,i6 1,i6 1]) (aMn _ _ _))<| yX rfl (yU (vs:=[.bool false,.bool false,.bool false,.bool false,.bool true,i6 1,i6 1]) H 0 rfl aZ rfl rfl rfl ⟨rfl,rfl,rfl,rfl,rfl,rfl,rfl,trivial⟩ rfl) ?_
  rintro cg H
  refine zI (.bool true)<| RN ba ?_
  obtain rfl:=gG c
  refine (zX (yA (zQ (kF (v1:= .bool true) rfl rfl (xK nT aZ rfl (Hbc H 0 rfl)) rfl ?_))))
  exact ⟨rfl,H.pick []⟩
 have c:=zM v c
 refine zB fun ch bb=>zA ?_
 obtain ⟨N,bc,c⟩:=zD c
 refine zG (zO (yY (a:=d) (b:=13) rfl rfl) bc)<| zI (.bool N)<| RN bb<| zW (b:=N) rfl (fun x=>?_) (fun x=>?_)
 ·have c:=zN x c
  refine zB fun ci bd=>zA<| zG (xM (cs:=[.bool false,.bool false,.bool false,.bool true,.bool true,i6 1,i6 1]) (aGc _ _ _ _))<| yX rfl (yU (vs:=[.bool false,.bool false,.bool false,.bool true,.bool true,i6 1,i6 1]) H 0 rfl aZ rfl rfl rfl ⟨rfl,rfl,rfl,rfl,rfl,rfl,rfl,trivial⟩ rfl) ?_
  rintro cj H
  refine zI (.bool true)<| RN bd ?_
  obtain rfl:=gG c
  refine (zX (yA (zQ (kF (v1:= .bool true) rfl rfl (xK nT aZ rfl (Hbc H 0 rfl)) rfl ?_))))
  exact ⟨rfl,H.pick []⟩
 have c:=zM x c
 refine zB fun ck be=>zA ?_
 obtain ⟨P,bf,c⟩:=zD c
 refine zG (zO (yY (a:=d) (b:=14) rfl rfl) bf)<| zI (.bool P)<| RN be<| zW (b:=P) rfl (fun y=>?_) (fun y=>?_)
 ·have c:=zN y c
  refine zB fun cl bg=>zA<| zG (xM (cs:=[.bool false,.bool false,.bool false,.bool false,.bool false,i6 2,i6 2]) (aBv _ _))<| yX rfl (yU (vs:=[.bool false,.bool false,.bool false,.bool false,.bool false,i6 2,i6 2]) H 0 rfl aZ rfl rfl rfl ⟨rfl,rfl,rfl,rfl,rfl,rfl,rfl,trivial⟩ rfl) ?_
  rintro cm H
  refine zI (.bool true)<| RN bg ?_
  obtain rfl:=gG c
  refine (zX (yA (zQ (kF (v1:= .bool true) rfl rfl (xK nT aZ rfl (Hbc H 0 rfl)) rfl ?_))))
  exact ⟨rfl,H.pick []⟩
 have c:=zM y c
 refine (zZ (yJ (zF (T _ _ ?_))))
 refine zB fun cn bh=>zA<| zG (xM (cs:=[.bool false,.bool false,.bool false,.bool false,.bool false,i6 0,i6 0]) bz199)<| yX rfl (yU (vs:=[.bool false,.bool false,.bool false,.bool false,.bool false,i6 0,i6 0]) H 0 rfl aZ rfl rfl rfl ⟨rfl,rfl,rfl,rfl,rfl,rfl,rfl,trivial⟩ rfl) ?_
 rintro cp H
 refine zI (.bool false)<| RN bh ?_
 obtain rfl:=gG c
 refine (zX (kF (v1:= .bool false) rfl rfl (xK nT aZ rfl (Hbc H 0 rfl)) rfl ?_))
 exact ⟨rfl,H.pick []⟩
end Go.Proofs.YthllgjnlmjpinaaGreatDoor.L
