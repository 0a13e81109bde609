/- Walks: what each function computes, for every argument; no condition but those that stand in the statements. -/
import Derived.Test.YthllgjnlmjpinaaGreatDoorUV0
import Derived.Test.YthllgjnlmjpinaaGreatDoorUV8
namespace Go.Proofs.YthllgjnlmjpinaaGreatDoor.L
open Go.RowKit Go.OB Go.Lf
set_option maxHeartbeats 4000000
set_option maxRecDepth 100000 in
theorem Feww (f:List gK)(v1:Value)(r:gK×Int)(c:Few f=some r)(O S:List Nat)(w:World)(H:Hd O w w S [f1 fJ v1 f]):
  Cl 8 [v1] w fun e U=> ∃u3,e= .returned (.tuple #[.agg [sb r.1.Key,.bool r.1.Hidden,i6 r.1.Flights,u3].toArray,i6 r.2])∧Hd O w U S [f1 (Rp.int .i64) u3 r.1.Events]:=by
 unfold Few at c
 refine CW 57 Tryz.func8 ?_
 refine zB fun K4 V=>zA<| yP rfl rfl (xH aAt H) ?_
 rintro _ w7 ⟨l,rfl,H⟩
 refine zI (i6 0)<| RN V<| zB fun ct X=>zB fun cu Y=>zA<| zJ v1 ?_
 have Z:=H
 obtain ⟨h,aa,c⟩:=zD c
 refine yC rfl rfl (zZ en31 rfl) (Fekw f v1 _ aa _ _ _ (H.enter [] [0])) ?_
 rintro _ cv ⟨rfl,ab⟩
 have H:=Z.step (ab.only:Only [] _ _)
 refine ⟨_,rfl,?_⟩
 refine zI (i6 h)<| RN Y<| zB fun cw ac=>zA<| zJ (i6 h) ?_
 obtain ⟨ad,ae,c⟩:=zC c
 refine zG (zO (eX (a:=h) (b:=0) rfl rfl) ae)<| RN ac<| zU (b:=ad) rfl (fun s=>?_) (fun s=>?_)
 ·have c:=zN s c
  refine zB fun cx af=>zA<| zG (xM (cs:=[.string (bs []),.bool false,i6 0,.slice none 0 0]) bz38)<| zJ (i6 h)<| yY rfl (yT (vs:=[.string (bs []),.bool false,i6 0,.slice none 0 0]) H 1 rfl aS rfl rfl rfl ⟨rfl,rfl,rfl,rfl,trivial⟩ rfl) ?_
  rintro cy H
  refine zI (i6 h)<| RN af ?_
  have H:=H.fz (.sl (Rp.int .i64) (.slice none 0 0) []) SlF.nil
  obtain rfl:=gG c
  refine (zW (zQ (aT (v1:=i6 h) rfl rfl (xK aBo aS rfl (Hbc H 1 rfl)) rfl ?_)))
  exact ⟨.slice none 0 0,rfl,H.pick [2]⟩
 have c:=zM s c
 refine zV (zF (X _ _ ?_))
 refine zB fun cz ag=>zA<| yP rfl rfl (xH aAt H) ?_
 rintro _ c0 ⟨m,rfl,H⟩
 refine RN ag ?_
 obtain ⟨n,c,ah⟩:=zD c
 refine yF [7,8,9,16,17,18,19,20,21,22,23,24,25,26,27,28,29,30,31,32,33,34,35,36,37,38,39,40,41,42,43,44,45,46,47,48,49,50,51,52,53,54,55] (fun (g:Value)=>[]) (fun g wl=>Hd O w wl S [.blk l [.string (bs []),.bool false,i6 0,.slice none 0 0] 38,.blk m [.string (bs []),.bool false,i6 n.1,g] 38,.own (Rp.int .i64) g 3 n.2.1,.fz (.nl g n.2.2)]) ?_ ?_
 ·skip
  refine zB fun c1 ai=>zA<| zJ v1 ?_
  obtain ⟨aj,ak,c⟩:=zC c
  obtain ⟨c2,c3,al⟩:=SlF.len ((H.item (i:=0) rfl))
  refine zG (yJ (yZ u31 al) (congrArg (Value.int .i64) ak))<| zJ (i6 0)<| RN ai<| yA ?_
  have H:=aQ H (Rp.int .i64) 3
  have H:=H.fz (.nl (.slice none 0 0) true) rfl
  unfold Ffd at c
  obtain ⟨am,J,an,c⟩:=yQ c
  refine xA [7,8,9,18,19,20,21,22,23,24,25,26,27,28,29,30,31,32,33,34,35,36,37,38,39,40,41,42,43,44,45,46,47,48,49,50,51,52,53,54,55] (fun (g:Nat×Int×Int×(List Int)×Bool×Value)=>[(18,i6 g.2.1)]) (fun g wl=>Hd O w wl S [f1 fJ v1 f,.blk l [.string (bs []),.bool false,i6 0,.slice none 0 0] 38,.blk m [.string (bs []),.bool false,i6 g.2.2.1,g.2.2.2.2.2] 38,.own (Rp.int .i64) g.2.2.2.2.2 3 g.2.2.2.1,.fz (.nl g.2.2.2.2.2 g.2.2.2.2.1)]∧fQ am g.1 (g.2.1,g.2.2.1,g.2.2.2.1,g.2.2.2.2.1)=some n) (fun g=>g.1) (J,0,0,[],true,.slice none 0 0) (zH rfl zK) ⟨H.pick [0,1,2,3,4],c⟩ ?_
  clear H c
  rintro ⟨J,t,K,c4,ao,u⟩ ρ c5 ⟨H,c⟩
  obtain ⟨ap,rfl,c⟩:=yU c
  have c:=yV an c
  refine zB fun c6 aq=>zA ?_
  obtain ⟨ar,au,c⟩:=zC c
  refine zG (zO (xG (a:=t) (b:=aj) rfl rfl) au)<| RN aq<| zB fun c7 av=>zU (b:=ar) rfl (fun x=>?_) (fun x=>?_)
  ·have c:=zN x c
   refine zV (zF (av _ _ ?_))
   obtain ⟨o,c,aw⟩:=zD c
   refine yF [7,8,9,20,21,22,23,24,25,26,27,28,29,30,31,32,33,34,35,36,37,38,39,40,41,42,43,44,45,46,47,48,49,50,51,52,53,54] (fun (g:Value)=>[]) (fun g wl=>Hd O w wl S [f1 fJ v1 f,.blk l [.string (bs []),.bool false,i6 0,.slice none 0 0] 38,.blk m [.string (bs []),.bool false,i6 o.1,g] 38,.own (Rp.int .i64) g 3 o.2.1,.fz (.nl g o.2.2)]) ?_ ?_
   ·skip
    refine yA ?_
    refine zB fun c8 ax=>zA ?_
    obtain ⟨d,y,c⟩:=zD c
    obtain ⟨ay,az,c9,da,a0,a1,a2,a3,a4⟩:=wG (H.item (i:=0) rfl) y
    obtain ⟨j,rfl,a5⟩:=dI a1
    have H:=H.fzs [.at ay (az+t.toNat * 4) _,.sl (Rp.int .i64) j d.Events] ⟨⟨a2,a3,a4⟩,a5,trivial⟩
    refine zG (yS u31 aS a0 rfl (zS y).1 (zS y).2.1 rfl rfl)<| zG (yJ (yI (cs:=[sb d.Key,.bool d.Hidden,i6 d.Flights,j]) aBo rfl aS rfl (H.item (i:=5) rfl).2.2) rfl)<| yP rfl rfl (xH aAt H) ?_
    rintro _ db ⟨a6,rfl,H⟩
    refine yY rfl (yT (vs:=[sb d.Key,.bool d.Hidden,i6 d.Flights,j]) H 7 rfl aS rfl rfl rfl ⟨rfl,rfl,rfl,(dH (H.item (i:=6) rfl)),trivial⟩ rfl) ?_
    rintro dc H
    refine RN ax<| zB fun dd a7=>zB fun de a8=>zA<| zG (aDs rfl)<| Ld jQ H 7 1 rfl rfl<| RN a8<| zU (b:=d.Hidden) rfl (fun z=>?_) (fun z=>?_)
    ·have c:=zN z c
     obtain rfl:=gG c
     exact (xE (yK (yR (zF (meet ⟨u,zK,H.pick [0,1,2,3,4]⟩)))))
    have c:=zM z c
    refine zV (zF (a7 _ _ ?_))
    obtain ⟨A,c,a9⟩:=zD c
    refine yF [24,25,26,27,28,29,30,31] (fun (g:Value)=>[]) (fun g wl=>Hd O w wl S [f1 fJ v1 f,.blk l [.string (bs []),.bool false,i6 0,.slice none 0 0] 38,.blk m [.string (bs []),.bool false,i6 K,g] 38,.own (Rp.int .i64) g 3 A.1,.fz (.nl g A.2),f1 (Rp.int .i64) j d.Events,.blk a6 [sb d.Key,.bool d.Hidden,i6 d.Flights,j] 38]) ?_ ?_
    ·skip
     refine zB fun df ba=>zA<| zG (jT rfl)<| Ld bY H 2 3 rfl rfl<| zG (Do_eqlnl u36 (own_sl (H.item (i:=3) rfl)) rfl rfl (H.item (i:=4) rfl))<| RN ba<| zU (b:=ao) rfl (fun B=>?_) (fun B=>?_)
     ·have c:=zN B c
      refine zA ?_
      refine zG (jT rfl)<| Ld bY H 7 3 rfl rfl ?_
      obtain ⟨dg,bb,c⟩:=zC c
      obtain ⟨dh,di,bc⟩:=SlF.len ((H.item (i:=6) rfl))
      refine zG (yJ (yZ u36 bc) (congrArg (Value.int .i64) bb)) ?_
      obtain ⟨dj,bd,c⟩:=zD c
      refine yP rfl rfl (Lx_makeN (r:=(Rp.int .i64)) (zv:=i6 0) u36 el3 rfl (fun _ _=>rfl) rfl rfl bd H) ?_
      rintro C dk ⟨H,be⟩
      have H:=H.fz (.nl C false) be
      refine zG (jT rfl)<| yY rfl (xY H 2 rfl sz36 rfl (v:=C) rfl (kD (H.item (i:=8) rfl)) rfl) ?_
      rintro dl H
      obtain rfl:=gG c
      exact (zT (zF (meet ⟨C,zK,H.pick [0,1,2,8,9,6,7]⟩)))
     have c:=zM B c
     obtain rfl:=gG c
     exact (zV (zF (meet ⟨u,zK,H.pick [0,1,2,3,4,6,7]⟩)))
    rintro p ρ dm H
    have c:=a9
    obtain ⟨bf,bg⟩:=A
    refine zB fun dn bh=>zA<| zG (jK rfl)<| Ld fF H 2 2 rfl rfl<| zG (jK rfl)<| Ld fF H 6 2 rfl rfl ?_
    obtain ⟨L,bi,c⟩:=zC c
    refine zG (xC (a:=K) (b:=d.Flights) rfl rfl bi)<| zG (jK rfl)<| yY rfl (xY H 2 rfl sz3 rfl (v:=i6 L) rfl rfl rfl) ?_
    rintro dp H
    refine RN bh<| zB fun dq bj=>zA<| zG (jT rfl)<| Ld bY H 6 3 rfl rfl ?_
    obtain ⟨bk,bl,c⟩:=zC c
    obtain ⟨dr,ds,bm⟩:=SlF.len ((H.item (i:=5) rfl))
    refine zG (yJ (yZ u36 bm) (congrArg (Value.int .i64) bl))<| zJ (i6 0)<| RN bj<| yA ?_
    unfold Fff at c
    obtain ⟨bn,M,bo,c⟩:=yQ c
    refine xA [8,9,41,42,43,44,45,46,47,48,49,50,51,52,53,54] (fun (g:Nat×Int×(List Int))=>[(41,i6 g.2.1)]) (fun g wl=>Hd O w wl S [f1 fJ v1 f,.blk l [.string (bs []),.bool false,i6 0,.slice none 0 0] 38,.blk m [.string (bs []),.bool false,i6 L,p] 38,.own (Rp.int .i64) p 3 g.2.2,.fz (.nl p bg),f1 (Rp.int .i64) j d.Events]∧fQ bn g.1 (g.2.1,g.2.2)=some o) (fun g=>g.1) (M,0,bf) (zH rfl zK) ⟨H.pick [0,1,2,3,4,5],c⟩ ?_
    clear H c
    rintro ⟨M,k,dt⟩ ρ du ⟨H,c⟩
    obtain ⟨bp,rfl,c⟩:=yU c
    have c:=yV bo c
    refine zB fun dv bq=>zA ?_
    obtain ⟨br,bt,c⟩:=zC c
    refine zG (zO (xG (a:=k) (b:=bk) rfl rfl) bt)<| RN bq<| zB fun dw bu=>zU (b:=br) rfl (fun D=>?_) (fun D=>?_)
    ·have c:=zN D c
     refine zV (zF (bu _ _ ?_))
     refine zB fun dx bv=>?_
     refine yA ?_
     refine zB fun dy bw=>zA<| zJ (i6 k) ?_
     obtain ⟨q,E,c⟩:=zD c
     obtain ⟨bx,bz,dz,b0,b1,b2,b3,b4,b5⟩:=wG (H.item (i:=5) rfl) E
     obtain rfl:b0= [i6 q]:=b2
     have H:=H.fz (.at bx (bz+k.toNat * 1) _) ⟨b3,b4,b5⟩
     refine zG (yS u36 sz3 b1 rfl (zS E).1 (zS E).2.1 rfl rfl)<| zG (xB fF rfl (Cells.get (H.item (i:=6) rfl).2.2 (i:=0) rfl))<| zI (i6 k)<| zI (i6 q)<| RN bw<| zA<| zG (jT rfl)<| Ld bY H 2 3 rfl rfl<| zJ (i6 k) ?_
     obtain ⟨N,F,c⟩:=zD c
     obtain ⟨d0,d1,b6,b7,b8,b9⟩:=bH (H.item (i:=3) rfl) F
     obtain rfl:b6= [i6 N]:=b8
     refine zG (yS u36 sz3 b7 rfl (zS F).1 (zS F).2.1 rfl rfl)<| zG (xB fF rfl (Cells.get b9 (i:=0) rfl))<| zJ (i6 q) ?_
     obtain ⟨ca,cb,c⟩:=zC c
     refine zG (xC (a:=N) (b:=q) rfl rfl cb) ?_
     obtain ⟨cc,G,c⟩:=zD c
     obtain ⟨d2,d3,cd,P,ce,cf⟩:=bH (H.item (i:=3) rfl) G
     obtain rfl:cd= [i6 cc]:=ce
     refine zG (yS u36 sz3 P rfl (zS G).1 (zS G).2.1 rfl rfl) ?_
     obtain ⟨cg,ch,c⟩:=zD c
     refine yY rfl (bF (vs:=[i6 ca]) (off:=0) H 3 rfl P cf rfl sz3 rfl rfl rfl (dJ ⟨rfl,trivial⟩) ch (by decide) rfl rfl) ?_
     rintro d4 H
     refine (zT (yH (zF (bv _ _ ?_))))
     refine zA ?_
     obtain ⟨Q,ci,c⟩:=zC c
     refine zG (xC (a:=k) (b:=1) rfl rfl ci)<| zJ (i6 Q) ?_
     exact (zT (zF (meet ⟨(bp,Q,cg),(zH rfl zK),⟨H.pick [0,1,2,3,4,5],c⟩,Nat.lt_succ_self _⟩)))
    have c:=zM D c
    obtain rfl:=gG c
    exact (xE (yK (yK (yR (yH (zF (meet ⟨p,zK,H.pick [0,1,2,3,4]⟩)))))))
   rintro cj ρ d5 H
   have c:=aw
   obtain ⟨ck,cl,cm⟩:=o
   refine zA ?_
   obtain ⟨R,cn,c⟩:=zC c
   refine zG (xC (a:=t) (b:=1) rfl rfl cn)<| zJ (i6 R) ?_
   exact (zT (zF (meet ⟨(ap,R,ck,cl,cm,cj),(zH rfl zK),⟨H.pick [0,1,2,3,4],c⟩,Nat.lt_succ_self _⟩)))
  have c:=zM x c
  obtain rfl:=gG c
  exact (xE (yK (yK (yR (zF (meet ⟨u,zK,H.pick [1,2,3,4]⟩))))))
 rintro I ρ d6 H
 have c:=ah
 obtain ⟨T,d7,d8⟩:=n
 refine zB fun d9 cp=>zA<| zG (yJ (yI (cs:=[.string (bs []),.bool false,i6 T,I]) aBo rfl aS rfl (Hbc H 1 rfl)) rfl)<| yY rfl (yT (vs:=[.string (bs []),.bool false,i6 T,I]) H 0 rfl aS rfl rfl rfl ⟨rfl,rfl,rfl,(kD (H.item (i:=2) rfl)),trivial⟩ rfl) ?_
 rintro ea H
 refine zI (i6 0)<| RN cp ?_
 have H:=H.freeze (i:=2) rfl
 obtain rfl:=gG c
 refine (zW (aT (v1:=i6 0) rfl rfl (xK aBo aS rfl (Hbc H 0 rfl)) rfl ?_))
 exact ⟨I,rfl,H.pick [2]⟩
theorem Fcaw (r:Bool)(d:Fca=some r)(O S:List Nat)(w:World)(H:Hd O w w S []):
  Cl 7 [] w fun e B=>e= .returned (.bool r)∧Hd O w B S []:=by
 unfold Fca at d
 refine CW 32 Tryz.func7 ?_
 refine zB fun K1 C=>zA<| zI (.bool false)<| RN C<| zB fun K2 D=>zA ?_
 obtain ⟨x3,E,d⟩:=zC d
 subst E
 refine yP rfl rfl (mM (r:=(Rp.int .i64)) (xl:=[1]) (cs:=[i6 1]) u36 el3 (by decide) (by decide) rfl (xQ (vs:=[i6 1]) (by decide) rfl rfl ⟨rfl,trivial⟩ rfl) H ⟨[i6 1],[],rfl,rfl,rfl⟩) ?_
 rintro j w7 H
 obtain ⟨F,G,I⟩: ∃a c,j= .slice a _ c:=Sr.len (Sr.of_own (H.item (i:=0) rfl))
 refine zG (xM (cs:=[.string (bs [97]),.bool false,i6 2,j]) (by rw [I]; exact aEg _ _ F _ G)) ?_
 obtain ⟨au,J,d⟩:=zC d
 subst J
 refine yP rfl rfl (mM (r:=(Rp.int .i64)) (xl:=[4]) (cs:=[i6 4]) u36 el3 (by decide) (by decide) rfl (xQ (vs:=[i6 4]) (by decide) rfl rfl ⟨rfl,trivial⟩ rfl) H ⟨[i6 4],[],rfl,rfl,rfl⟩) ?_
 rintro h av H
 obtain ⟨K,L,M⟩: ∃a c,h= .slice a _ c:=Sr.len (Sr.of_own (H.item (i:=1) rfl))
 refine zG (xM (cs:=[.string (bs [98]),.bool false,i6 3,h]) (by rw [M]; exact aEg _ _ K _ L)) ?_
 have H:=H.freeze (i:=0) rfl
 have H:=H.freeze (i:=1) rfl
 obtain ⟨aw,N,d⟩:=zC d
 subst N
 refine yP rfl rfl (mM (r:=fJ) (xl:=[gK.mk [97] false 2 ([1]:List Int),gK.mk [98] false 3 ([4]:List Int)]) (cs:=[.string (bs [97]),.bool false,i6 2,j,.string (bs [98]),.bool false,i6 3,h]) u31 el38 (by decide) (by decide) rfl (xQ (vs:=[.agg [.string (bs [97]),.bool false,i6 2,j].toArray,.agg [.string (bs [98]),.bool false,i6 3,h].toArray]) (by decide) rfl rfl ⟨rfl,rfl,trivial⟩ rfl) H ⟨[.string (bs [97]),.bool false,i6 2,j],[.string (bs [98]),.bool false,i6 3,h],rfl,(aAb (x:=gK.mk [97] false 2 ([1]:List Int)) (H.item (i:=0) rfl)),⟨[.string (bs [98]),.bool false,i6 3,h],[],rfl,(aAb (x:=gK.mk [98] false 3 ([4]:List Int)) (H.item (i:=1) rfl)),rfl⟩⟩) ?_
 rintro m ax H
 have H:=H.freeze (i:=2) rfl
 obtain ⟨⟨f,l⟩,P,d⟩:=zD d
 refine yC rfl rfl (zZ en8 rfl) (Feww ([gK.mk [97] false 2 ([1]:List Int),gK.mk [98] false 3 ([4]:List Int)]:List gK) m _ P _ _ _ (H.enter [] [2])) ?_
 rintro _ ay ⟨k,rfl,Q⟩
 have H:=H.back1 [2] rfl Q
 refine ⟨_,rfl,?_⟩
 refine zJ (.tuple #[.agg [sb f.Key,.bool f.Hidden,i6 f.Flights,k].toArray,i6 l])<| zG (xZ (v:= .agg [sb f.Key,.bool f.Hidden,i6 f.Flights,k].toArray) rfl rfl)<| zG (xZ (v:=i6 l) rfl rfl)<| yP rfl rfl (xH aAt H) ?_
 rintro _ az ⟨s,rfl,H⟩
 refine yY rfl (yT (vs:=[sb f.Key,.bool f.Hidden,i6 f.Flights,k]) H 4 rfl aS rfl rfl rfl ⟨rfl,rfl,rfl,(dH (H.item (i:=3) rfl)),trivial⟩ rfl) ?_
 rintro a0 H
 refine zI (i6 l)<| RN D ?_
 obtain ⟨t,d,R⟩:=zD d
 refine yF [0,12,13,14,15,16,17,18,19,20,21,22,23,24,25,26,27,28,29,30,31] (fun (g:Unit)=>[(0,.bool t)]) (fun g wl=>Hd O w wl S []) ?_ ?_
 ·skip
  refine zA ?_
  refine zJ (i6 l) ?_
  obtain ⟨T,U,d⟩:=zC d
  refine zG (zO (yX (a:=l) (b:=0) rfl rfl) U) ?_
  obtain ⟨u,d,V⟩:=zD d
  refine dP 5 [14,15,16,17,18] [(18,.bool u)] (fun wl=>Hd O w wl S [f1 (Rp.int .i64) j ([1]:List Int),f1 (Rp.int .i64) h ([4]:List Int),.fz (.sl fJ m ([gK.mk [97] false 2 ([1]:List Int),gK.mk [98] false 3 ([4]:List Int)]:List gK)),f1 (Rp.int .i64) k f.Events,.blk s [sb f.Key,.bool f.Hidden,i6 f.Flights,k] 38]) ?_ ?_
  ·skip
   refine yM (b:=T) rfl rfl rfl (fun n=>?_) (fun n=>?_)
   ·have d:=zN n d
    refine zG (jK rfl)<| Ld fF H 4 2 rfl rfl ?_
    obtain ⟨X,Y,d⟩:=zC d
    refine zG (zO (yX (a:=f.Flights) (b:=5) rfl rfl) Y)<| zG (yL (v:= .bool X) rfl rfl) ?_
    obtain rfl:=gG d
    exact zT (zF (meet ⟨(zH rfl zK),H.pick [0,1,2,3,4]⟩))
   have d:=zM n d
   refine yE ?_
   refine yE ?_
   refine yE ?_
   refine zG (yG (v:= .bool false) rfl rfl) ?_
   obtain rfl:=gG d
   exact zT (zF (meet ⟨(zH rfl zK),H.pick [0,1,2,3,4]⟩))
  rintro ρ a1 H
  have d:=V
  obtain ⟨y,d,Z⟩:=zD d
  refine dP 6 [19,20,21,22,23,24] [(24,.bool y)] (fun wl=>Hd O w wl S [f1 (Rp.int .i64) j ([1]:List Int),f1 (Rp.int .i64) h ([4]:List Int),.fz (.sl fJ m ([gK.mk [97] false 2 ([1]:List Int),gK.mk [98] false 3 ([4]:List Int)]:List gK)),f1 (Rp.int .i64) k f.Events,.blk s [sb f.Key,.bool f.Hidden,i6 f.Flights,k] 38]) ?_ ?_
  ·skip
   refine yM (b:=u) rfl rfl rfl (fun o=>?_) (fun o=>?_)
   ·have d:=zN o d
    refine zG (jT rfl)<| Ld bY H 4 3 rfl rfl ?_
    obtain ⟨aa,ab,d⟩:=zC d
    obtain ⟨a2,a3,ac⟩:=SlF.len ((H.item (i:=3) rfl))
    refine zG (yJ (yZ u36 ac) (congrArg (Value.int .i64) ab)) ?_
    obtain ⟨ad,ae,d⟩:=zC d
    refine zG (zO (yX (a:=aa) (b:=1) rfl rfl) ae)<| zG (yL (v:= .bool ad) rfl rfl) ?_
    obtain rfl:=gG d
    exact zT (zF (meet ⟨(zH rfl zK),H.pick [0,1,2,3,4]⟩))
   have d:=zM o d
   refine yE ?_
   refine yE ?_
   refine yE ?_
   refine yE ?_
   refine zG (yG (v:= .bool false) rfl rfl) ?_
   obtain rfl:=gG d
   exact zT (zF (meet ⟨(zH rfl zK),H.pick [0,1,2,3,4]⟩))
  rintro ρ a4 H
  have d:=Z
  refine yM (b:=y) rfl rfl rfl (fun p=>?_) (fun p=>?_)
  ·have d:=zN p d
   refine zG (jT rfl)<| Ld bY H 4 3 rfl rfl ?_
   obtain ⟨z,q,d⟩:=zD d
   obtain ⟨af,ag,a5,ah,ai,aj,ak,al,am⟩:=wG (H.item (i:=3) rfl) q
   obtain rfl:ah= [i6 z]:=aj
   have H:=H.fz (.at af (ag+(0:Int).toNat * 1) _) ⟨ak,al,am⟩
   refine zG (yS u36 sz3 ai rfl (zS q).1 (zS q).2.1 rfl rfl)<| zG (xB fF rfl (Cells.get (H.item (i:=5) rfl).2.2 (i:=0) rfl)) ?_
   obtain ⟨A,an,d⟩:=zC d
   refine zG (zO (yX (a:=z) (b:=5) rfl rfl) an)<| zG (yL (v:= .bool A) rfl rfl)<| zI (.bool A) ?_
   obtain rfl:=gG d
   exact (zT (zF (meet ⟨(),(zH rfl zK),H.pick []⟩)))
  have d:=zM p d
  refine yE ?_
  refine yE ?_
  refine yE ?_
  refine yE ?_
  refine yE ?_
  refine zG (yG (v:= .bool false) rfl rfl)<| zI (.bool false) ?_
  obtain rfl:=gG d
  exact (zT (zF (meet ⟨(),(zH rfl zK),H.pick []⟩)))
 rintro _ ρ a6 H
 have d:=R
 obtain rfl:=gG d
 refine (zW (gU (v1:= .bool t) rfl rfl ?_))
 exact ⟨rfl,H.pick []⟩
set_option maxRecDepth 100000 in
theorem Fdrw (x:List Flight)(m:Rules)(d:Mask)(t:Int)(v1:Value)(n:Value)(o:Value)(p:Value)(k:Value)(l:Value)(r:Bool)(c:Fdr x m d t=some r)(O S:List Nat)(w:World)(H:Hd O w w S [f1 kF v1 x,f1 Rp.str n m.Phases,f1 fO o m.Moves,f1 fU p m.Rules,f1 Rp.str k d.Hide,f1 dC l d.Grains,.fz (.at 1 0 ((Fl.arr 20 (Fl.int .u64)).f yB))]):
  Cl 3 [v1,.agg [n,o,p].toArray,.agg [.bool d.Tails,i6 d.Days,k,l,i6 d.Least].toArray,i6 t] w fun e M=>e= .returned (.bool r)∧Hd O w M S []:=by
 unfold Fdr at c
 refine CW 70 Tryz.func3 ?_
 refine zB fun c7 ac=>zA<| yP rfl rfl (xJ (cs:=[n,o,p]) rfl H) ?_
 rintro _ c8 ⟨c9,rfl,H⟩
 refine yP rfl rfl (xJ (cs:=[.bool d.Tails,i6 d.Days,k,l,i6 d.Least]) rfl H) ?_
 rintro _ da ⟨y,rfl,H⟩
 refine zI (.bool false)<| RN ac<| zB fun db ad=>zA<| zJ v1<| zG (yJ (yI (cs:=[n,o,p]) qW rfl aBt rfl (Hbc H 7 rfl)) rfl)<| zG (yJ (yI (cs:=[.bool d.Tails,i6 d.Days,k,l,i6 d.Least]) agg30 rfl sz30 rfl (Hbc H 8 rfl)) rfl)<| zJ (i6 t) ?_
 obtain ⟨⟨q,s⟩,ae,c⟩:=zD c
 refine yC rfl rfl (zZ en6 rfl) (Fayw x m d t v1 n o p k l _ ae _ _ _ (H.enter [] [0,1,2,3,4,5,6])) ?_
 rintro _ dc ⟨h,rfl,af⟩
 have H:=H.back1 [0,1,2,3,4,5,6] rfl af
 refine ⟨_,rfl,?_⟩
 refine zJ (.tuple #[h,i6 s])<| zG (xZ (v:=h) rfl rfl)<| zG (xZ (v:=i6 s) rfl rfl)<| zI h<| zI (i6 s)<| RN ad<| zB fun dd ag=>zB fun de ah=>zA<| zJ (i6 s) ?_
 obtain ⟨ai,aj,c⟩:=zC c
 refine zG (zO (eX (a:=s) (b:=0) rfl rfl) aj)<| RN ah<| zU (b:=ai) rfl (fun z=>?_) (fun z=>?_)
 ·have c:=zN z c
  refine zB fun df ak=>zA ?_
  have al:=H
  obtain ⟨N,am,c⟩:=zD c
  refine yC rfl rfl (zZ en7 rfl) (Fcaw _ am _ _ _ (H.enter [] [])) ?_
  rintro _ dg ⟨rfl,an⟩
  have H:=al.step (an.only:Only [] _ _)
  refine ⟨_,rfl,?_⟩
  refine zI (.bool N)<| RN ak ?_
  obtain rfl:=gG c
  refine (zW (zQ (gU (v1:= .bool N) rfl rfl ?_)))
  exact ⟨rfl,H.pick []⟩
 have c:=zM z c
 refine zV (zF (ag _ _ ?_))
 refine zB fun dh ao=>zA<| zI (i6 0)<| RN ao ?_
 obtain ⟨ap,aq,c⟩:=xO c
 refine yF [8,11,12,24,25,26,27,28,29,30,31,32,33,34,35,36,37,38,39,40,41,42,43,44,45,46,47,48,49,50,51,52,53,54,55,56,57,58,59] (fun (g:Int)=>[(11,i6 g)]) (fun g wl=>Hd O w wl S [.fz (.at 1 0 ((Fl.arr 20 (Fl.int .u64)).f yB)),f1 fJ h q]∧ap g=some r) ?_ ?_
 ·skip
  refine zB fun di ar=>zA<| zI (i6 0)<| RN ar<| yA ?_
  unfold Fc2 at c
  obtain ⟨au,P,av,c⟩:=yQ c
  refine xA [8,11,12,24,25,26,27,28,29,30,31,32,33,34,35,36,37,38,39,40,41,42,43,44,45,46,47,48,49,50,51,52,53,54,55,56,57,58,59] (fun (g:Nat×Int×Int)=>[(11,i6 g.2.1),(12,i6 g.2.2)]) (fun g wl=>Hd O w wl S [f1 Rp.str k d.Hide,f1 dC l d.Grains,.fz (.at 1 0 ((Fl.arr 20 (Fl.int .u64)).f yB)),.blk y [.bool d.Tails,i6 d.Days,k,l,i6 d.Least] 30,f1 fJ h q]∧fQ au g.1 (g.2.1,g.2.2)=some r) (fun g=>g.1) (P,0,0) (zH rfl (zH rfl zK)) ⟨H.pick [4,5,6,8,9],c⟩ ?_
  clear H c
  rintro ⟨P,u,j⟩ ρ dj ⟨H,c⟩
  obtain ⟨aw,rfl,c⟩:=yU c
  have c:=yV av c
  refine zB fun dk ax=>?_
  refine zB fun dl ay=>zA<| zJ (i6 j)<| zJ h ?_
  obtain ⟨az,a0,c⟩:=zC c
  obtain ⟨dm,dn,a1⟩:=SlF.len ((H.item (i:=4) rfl))
  refine zG (yJ (yZ u31 a1) (congrArg (Value.int .i64) a0)) ?_
  obtain ⟨a2,a3,c⟩:=zC c
  refine zG (zO (xG (a:=j) (b:=az) rfl rfl) a3)<| RN ay<| zU (b:=a2) rfl (fun A=>?_) (fun A=>?_)
  ·have c:=zN A c
   refine zV (zF (ax _ _ ?_))
   obtain ⟨a4,a5,c⟩:=xO c
   refine yF [8,11,30,31,32,33,34,35,36,37,38,39,40,41,42,43,44,45,46,47,48,49,50,51,52,53,54,55,56,57,58,59] (fun (g:Int)=>[(11,i6 g)]) (fun g wl=>Hd O w wl S [f1 Rp.str k d.Hide,f1 dC l d.Grains,.fz (.at 1 0 ((Fl.arr 20 (Fl.int .u64)).f yB)),.blk y [.bool d.Tails,i6 d.Days,k,l,i6 d.Least] 30,f1 fJ h q]∧a4 g=some r) ?_ ?_
   ·skip
    refine yA ?_
    refine zB fun dp a6=>zA<| zJ h<| zJ (i6 j) ?_
    obtain ⟨Q,B,c⟩:=zD c
    obtain ⟨a7,a8,dq,dr,a9,ba,bb,bc,bd⟩:=wG (H.item (i:=4) rfl) B
    obtain ⟨be,rfl,bf⟩:=dI ba
    have H:=H.fzs [.at a7 (a8+j.toNat * 4) _,.sl (Rp.int .i64) be Q.Events] ⟨⟨bb,bc,bd⟩,bf,trivial⟩
    refine zG (yS u31 aS a9 rfl (zS B).1 (zS B).2.1 rfl rfl)<| zG (aDs rfl)<| zG (xB jQ rfl (Cells.get (H.item (i:=5) rfl).2.2 (i:=1) rfl))<| RN a6<| zU (b:=Q.Hidden) rfl (fun C=>?_) (fun C=>?_)
    ·have c:=zN C c
     refine zB fun ds bg=>zA<| zJ (i6 u) ?_
     obtain ⟨R,bh,c⟩:=zC c
     refine zG (xC (a:=u) (b:=1) rfl rfl bh)<| zI (i6 R)<| RN bg ?_
     obtain ⟨T,c,bi⟩:=zD c
     refine yF [37,38,39,40,41,42,43,44,45,46,47,48,49,50,51] (fun (g:Unit)=>[(51,.bool T)]) (fun g wl=>Hd O w wl S [f1 Rp.str k d.Hide,f1 dC l d.Grains,.fz (.at 1 0 ((Fl.arr 20 (Fl.int .u64)).f yB)),.blk y [.bool d.Tails,i6 d.Days,k,l,i6 d.Least] 30,f1 fJ h q]) ?_ ?_
     ·skip
      refine zA ?_
      refine zJ h<| zJ (i6 j) ?_
      obtain ⟨U,D,c⟩:=zD c
      obtain ⟨bj,bk,dt,du,bl,bm,bn,bo,bp⟩:=wG (H.item (i:=4) rfl) D
      obtain ⟨bq,rfl,br⟩:=dI bm
      have H:=H.fzs [.at bj (bk+j.toNat * 4) _,.sl (Rp.int .i64) bq U.Events] ⟨⟨bn,bo,bp⟩,br,trivial⟩
      refine zG (yS u31 aS bl rfl (zS D).1 (zS D).2.1 rfl rfl)<| zG (jK rfl)<| zG (xB fF rfl (Cells.get (H.item (i:=7) rfl).2.2 (i:=2) rfl)) ?_
      obtain ⟨bt,bu,c⟩:=zC c
      refine zG (zO (eX (a:=U.Flights) (b:=0) rfl rfl) bu)<| yM (b:=bt) rfl rfl rfl (fun E=>?_) (fun E=>?_)
      ·have c:=zN E c
       refine yE ?_
       refine yE ?_
       refine yE ?_
       refine yE ?_
       refine yE ?_
       refine yE ?_
       refine yE ?_
       refine zG (yL (v:= .bool true) rfl rfl) ?_
       obtain rfl:=gG c
       exact (zT (zF (meet ⟨(),(zH rfl zK),H.pick [0,1,2,3,4]⟩)))
      have c:=zM E c
      refine zJ h<| zJ (i6 j) ?_
      obtain ⟨bv,F,c⟩:=zD c
      obtain ⟨bw,bx,dv,dw,bz,b0,b1,b2,b3⟩:=wG (H.item (i:=4) rfl) F
      obtain ⟨b4,rfl,b5⟩:=dI b0
      have H:=H.fzs [.at bw (bx+j.toNat * 4) _,.sl (Rp.int .i64) b4 bv.Events] ⟨⟨b1,b2,b3⟩,b5,trivial⟩
      refine zG (yS u31 aS bz rfl (zS F).1 (zS F).2.1 rfl rfl)<| zG (jT rfl)<| zG (xB bY rfl (Cells.get (H.item (i:=9) rfl).2.2 (i:=3) rfl)) ?_
      obtain ⟨b6,b7,c⟩:=zC c
      obtain ⟨dx,dy,b8⟩:=SlF.len ((H.item (i:=10) rfl))
      refine zG (yJ (yZ u36 b8) (congrArg (Value.int .i64) b7)) ?_
      obtain ⟨b9,ca,c⟩:=zC c
      refine zG (zO (eX (a:=b6) (b:=0) rfl rfl) ca)<| zG (yG (v:= .bool b9) rfl rfl) ?_
      obtain rfl:=gG c
      exact (zT (zF (meet ⟨(),(zH rfl zK),H.pick [0,1,2,3,4]⟩)))
     rintro _ ρ dz H
     have c:=bi
     refine zU (b:=T) rfl (fun G=>?_) (fun G=>?_)
     ·have c:=zN G c
      refine zB fun d0 cb=>zA<| zI (.bool false)<| RN cb ?_
      obtain rfl:=gG c
      refine (zW (zY (zQ (zQ (zY (zQ (gU (v1:= .bool false) rfl rfl ?_)))))))
      exact ⟨rfl,H.pick []⟩
     have c:=zM G c
     exact (zV (yH (zF (meet ⟨R,(zH rfl zK),⟨H.pick [0,1,2,3,4],c⟩⟩))))
    have c:=zM C c
    refine zB fun d1 cc=>?_
    have cd:=H
    have H:=H.rebase
    have d2:=H
    refine wF H [0,1,2,3,4,5,6,7] (kz [0,0,0,0,1,0,1,0]) mixed ?_
    refine XM h<| XM (i6 j) ?_
    obtain ⟨V,I,c⟩:=zD c
    obtain ⟨ce,cf,d3,d4,cg,ch,ci,cj,ck⟩:=wG (H.item (i:=4) rfl) I
    obtain ⟨cl,rfl,cm⟩:=dI ch
    have H:=H.fzs [.at ce (cf+j.toNat * 4) _,.sl (Rp.int .i64) cl V.Events] ⟨⟨ci,cj,ck⟩,cm,trivial⟩
    refine XP (fun _ _=>yS u31 aS cg rfl (zS I).1 (zS I).2.1 rfl rfl)<| XP (fun _ _=>jK rfl)<| MxM.XL_read oS rfl rfl rfl (fun M cn=>xB fF rfl (Cells.get ((H.sees cn).item (i:=7) rfl).2.2 (i:=2) rfl))<| XP (fun _ _=>aMk rfl)<| XR fF H 3 4 rfl rfl ?_
    obtain ⟨cp,cq,c⟩:=zC c
    refine XP (fun _ _=>zO (xG (a:=V.Flights) (b:=d.Least) rfl rfl) cq)<| MxM.xN fun d5 hS=>?_
    have H:=H.sees hS
    have H:=cd.rejoin H
    refine (zF (cc _ _ ?_))
    refine zU (b:=cp) rfl (fun J=>?_) (fun J=>?_)
    ·have c:=zN J c
     refine zB fun d6 cr=>zA<| zI (.bool false)<| RN cr ?_
     obtain rfl:=gG c
     refine (zW (zY (zQ (zQ (zY (zQ (gU (v1:= .bool false) rfl rfl ?_)))))))
     exact ⟨rfl,H.pick []⟩
    have c:=zM J c
    exact (zV (yH (zF (meet ⟨u,(zH rfl zK),⟨H.pick [0,1,2,3,4],c⟩⟩))))
   rintro ct ρ d7 ⟨H,c⟩
   have c:=xW a5 c
   refine zA ?_
   refine zJ (i6 j) ?_
   obtain ⟨X,cu,c⟩:=zC c
   refine zG (xC (a:=j) (b:=1) rfl rfl cu)<| zI (i6 X) ?_
   exact (zT (zF (meet ⟨(aw,ct,X),(zH rfl (zH rfl zK)),⟨H.pick [0,1,2,3,4],c⟩,Nat.lt_succ_self _⟩)))
  have c:=zM A c
  exact (xE (yK (yK (yR (zF (meet ⟨u,(zH rfl zK),⟨H.pick [2,4],c⟩⟩))))))
 rintro Y ρ d8 ⟨H,c⟩
 have c:=xW aq c
 obtain ⟨Z,c,cv⟩:=zD c
 refine yF [8,60,61,62,63,64,65,66,67,68,69] (fun (g:Unit)=>[(8,.bool Z)]) (fun g wl=>Hd O w wl S [.fz (.at 1 0 ((Fl.arr 20 (Fl.int .u64)).f yB))]) ?_ ?_
 ·skip
  refine zA ?_
  refine zJ (i6 Y) ?_
  obtain ⟨cw,cx,c⟩:=zC c
  refine zG (zO (eX (a:=Y) (b:=1) rfl rfl) cx) ?_
  obtain ⟨aa,c,cy⟩:=zD c
  refine dP 5 [62,63,64,65,66] [(66,.bool aa)] (fun wl=>Hd O w wl S [.fz (.at 1 0 ((Fl.arr 20 (Fl.int .u64)).f yB)),f1 fJ h q]) ?_ ?_
  ·skip
   refine yM (b:=cw) rfl rfl rfl (fun K=>?_) (fun K=>?_)
   ·have c:=zN K c
    refine yE ?_
    refine yE ?_
    refine yE ?_
    refine zG (yL (v:= .bool true) rfl rfl) ?_
    obtain rfl:=gG c
    exact zT (zF (meet ⟨(zH rfl zK),H.pick [0,1]⟩))
   have c:=zM K c
   refine zJ h ?_
   obtain ⟨cz,c0,c⟩:=zC c
   obtain ⟨d9,ea,c1⟩:=SlF.len ((H.item (i:=1) rfl))
   refine zG (yJ (yZ u31 c1) (congrArg (Value.int .i64) c0)) ?_
   obtain ⟨c2,c3,c⟩:=zC c
   refine zG (zO (yX (a:=cz) (b:=1) rfl rfl) c3)<| zG (yG (v:= .bool c2) rfl rfl) ?_
   obtain rfl:=gG c
   exact zT (zF (meet ⟨(zH rfl zK),H.pick [0,1]⟩))
  rintro ρ eb H
  have c:=cy
  refine yM (b:=aa) rfl rfl rfl (fun L=>?_) (fun L=>?_)
  ·have c:=zN L c
   have c4:=H
   obtain ⟨ab,c5,c⟩:=zD c
   refine yC rfl rfl (zZ en7 rfl) (Fcaw _ c5 _ _ _ (H.enter [] [])) ?_
   rintro _ ec ⟨rfl,c6⟩
   have H:=c4.step (c6.only:Only [] _ _)
   refine ⟨_,rfl,?_⟩
   refine zG (yL (v:= .bool ab) rfl rfl)<| zI (.bool ab) ?_
   obtain rfl:=gG c
   exact (zT (zF (meet ⟨(),(zH rfl zK),H.pick [0]⟩)))
  have c:=zM L c
  refine yE ?_
  refine zG (yG (v:= .bool false) rfl rfl)<| zI (.bool false) ?_
  obtain rfl:=gG c
  exact (zT (zF (meet ⟨(),(zH rfl zK),H.pick [0]⟩)))
 rintro _ ρ ed H
 have c:=cv
 obtain rfl:=gG c
 refine (zW (gU (v1:= .bool Z) rfl rfl ?_))
 exact ⟨rfl,H.pick []⟩
end Go.Proofs.YthllgjnlmjpinaaGreatDoor.L
