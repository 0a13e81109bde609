/- Walks: what each function computes, for every argument; no condition but those that stand in the statements. -/
import Derived.Test.YthllgjnlmjpinaaGreatDoorUV0
import Derived.Test.YthllgjnlmjpinaaGreatDoorUV8
namespace Go.Proofs.YthllgjnlmjpinaaGreatDoor.L
open Go.RowKit Go.OB Go.Lf
set_option maxHeartbeats 4000000
set_option maxRecDepth 100000 in
theorem Fbow (f:List gK)(v1:Value)(r:gK×Int)(c:Fbo f=some r)(O S:List Nat)(w:World)(H:Hd O w w S [f1 fK v1 f]):
  Cl 8 [v1] w fun e U=> ∃u3,e= .returned (.tuple #[.agg [sb r.1.Key,.bool r.1.Hidden,i6 r.1.Flights,u3].toArray,i6 r.2])∧Hd O w U S [f1 (Rp.int .i64) u3 r.1.Events]:=by
 unfold Fbo at c
 refine CW 57 Tryz.func8 ?_
 refine zB fun K4 V=>zA<| yP rfl rfl (xI vM H) ?_
 rintro _ w7 ⟨l,rfl,H⟩
 refine zI (i6 0)<| RN V<| zB fun ct X=>zB fun cu Y=>zA<| zH v1 ?_
 have Z:=H
 obtain ⟨h,aa,c⟩:=zC c
 refine yB rfl rfl (zY en31 rfl) (Fb7w f v1 _ aa _ _ _ (H.enter [] [0])) ?_
 rintro _ cv ⟨rfl,ab⟩
 have H:=Z.step (ab.only:Only [] _ _)
 refine ⟨_,rfl,?_⟩
 refine zI (i6 h)<| RN Y<| zB fun cw ac=>zA<| zH (i6 h) ?_
 obtain ⟨ad,ae,c⟩:=zD c
 refine zG (zO (eX (a:=h) (b:=0) rfl rfl) ae)<| RN ac<| zW (b:=ad) rfl (fun s=>?_) (fun s=>?_)
 ·have c:=zN s c
  refine zB fun cx af=>zA<| zG (xM (cs:=[.string (bs []),.bool false,i6 0,.slice none 0 0]) bz38)<| zH (i6 h)<| yX rfl (yU (vs:=[.string (bs []),.bool false,i6 0,.slice none 0 0]) H 1 rfl kE rfl rfl rfl ⟨rfl,rfl,rfl,rfl,trivial⟩ rfl) ?_
  rintro cy H
  refine zI (i6 h)<| RN af ?_
  have H:=H.fz (.sl (Rp.int .i64) (.slice none 0 0) []) SlF.nil
  obtain rfl:=gG c
  refine (zX (zQ (kF (v1:=i6 h) rfl rfl (xK uT kE rfl (Hbc H 1 rfl)) rfl ?_)))
  exact ⟨.slice none 0 0,rfl,H.pick [2]⟩
 have c:=zM s c
 refine zZ (zF (X _ _ ?_))
 refine zB fun cz ag=>zA<| yP rfl rfl (xI vM H) ?_
 rintro _ c0 ⟨m,rfl,H⟩
 refine RN ag ?_
 obtain ⟨n,c,ah⟩:=zC c
 refine yG [7,8,9,16,17,18,19,20,21,22,23,24,25,26,27,28,29,30,31,32,33,34,35,36,37,38,39,40,41,42,43,44,45,46,47,48,49,50,51,52,53,54,55] (fun (g:Value)=>[]) (fun g wl=>Hd O w wl S [.blk l [.string (bs []),.bool false,i6 0,.slice none 0 0] 38,.blk m [.string (bs []),.bool false,i6 n.1,g] 38,.own (Rp.int .i64) g 3 n.2.1,.fz (.nl g n.2.2)]) ?_ ?_
 ·skip
  refine zB fun c1 ai=>zA<| zH v1 ?_
  obtain ⟨aj,ak,c⟩:=zD c
  obtain ⟨c2,c3,al⟩:=SlF.len ((H.item (i:=0) rfl))
  refine zG (yH (yZ u31 al) (congrArg (Value.int .i64) ak))<| zH (i6 0)<| RN ai<| yD ?_
  have H:=aS H (Rp.int .i64) 3
  have H:=H.fz (.nl (.slice none 0 0) true) rfl
  unfold Fei at c
  obtain ⟨am,J,an,c⟩:=yQ c
  refine xA [7,8,9,18,19,20,21,22,23,24,25,26,27,28,29,30,31,32,33,34,35,36,37,38,39,40,41,42,43,44,45,46,47,48,49,50,51,52,53,54,55] (fun (g:Nat×Int×Int×(List Int)×Bool×Value)=>[(18,i6 g.2.1)]) (fun g wl=>Hd O w wl S [f1 fK v1 f,.blk l [.string (bs []),.bool false,i6 0,.slice none 0 0] 38,.blk m [.string (bs []),.bool false,i6 g.2.2.1,g.2.2.2.2.2] 38,.own (Rp.int .i64) g.2.2.2.2.2 3 g.2.2.2.1,.fz (.nl g.2.2.2.2.2 g.2.2.2.2.1)]∧fV am g.1 (g.2.1,g.2.2.1,g.2.2.2.1,g.2.2.2.2.1)=some n) (fun g=>g.1) (J,0,0,[],true,.slice none 0 0) (zJ rfl zK) ⟨H.pick [0,1,2,3,4],c⟩ ?_
  clear H c
  rintro ⟨J,t,K,c4,ao,u⟩ ρ c5 ⟨H,c⟩
  obtain ⟨ap,rfl,c⟩:=yT c
  have c:=yV an c
  refine zB fun c6 aq=>zA ?_
  obtain ⟨ar,au,c⟩:=zD c
  refine zG (zO (xH (a:=t) (b:=aj) rfl rfl) au)<| RN aq<| zB fun c7 av=>zW (b:=ar) rfl (fun x=>?_) (fun x=>?_)
  ·have c:=zN x c
   refine zZ (zF (av _ _ ?_))
   obtain ⟨o,c,aw⟩:=zC c
   refine yG [7,8,9,20,21,22,23,24,25,26,27,28,29,30,31,32,33,34,35,36,37,38,39,40,41,42,43,44,45,46,47,48,49,50,51,52,53,54] (fun (g:Value)=>[]) (fun g wl=>Hd O w wl S [f1 fK v1 f,.blk l [.string (bs []),.bool false,i6 0,.slice none 0 0] 38,.blk m [.string (bs []),.bool false,i6 o.1,g] 38,.own (Rp.int .i64) g 3 o.2.1,.fz (.nl g o.2.2)]) ?_ ?_
   ·skip
    refine yD ?_
    refine zB fun c8 ax=>zA ?_
    obtain ⟨d,y,c⟩:=zC c
    obtain ⟨ay,az,c9,da,a0,a1,a2,a3,a4⟩:=wJ (H.item (i:=0) rfl) y
    obtain ⟨j,rfl,a5⟩:=bU a1
    have H:=H.fzs [.at ay (az+t.toNat * 4) _,.sl (Rp.int .i64) j d.Events] ⟨⟨a2,a3,a4⟩,a5,trivial⟩
    refine zG (yS u31 kE a0 rfl (zU y).1 (zU y).2.1 rfl rfl)<| zG (yH (yI (cs:=[sb d.Key,.bool d.Hidden,i6 d.Flights,j]) uT rfl kE rfl (H.item (i:=5) rfl).2.2) rfl)<| yP rfl rfl (xI vM H) ?_
    rintro _ db ⟨a6,rfl,H⟩
    refine yX rfl (yU (vs:=[sb d.Key,.bool d.Hidden,i6 d.Flights,j]) H 7 rfl kE rfl rfl rfl ⟨rfl,rfl,rfl,(dG (H.item (i:=6) rfl)),trivial⟩ rfl) ?_
    rintro dc H
    refine RN ax<| zB fun dd a7=>zB fun de a8=>zA<| zG (aEh rfl)<| Ld jT H 7 1 rfl rfl<| RN a8<| zW (b:=d.Hidden) rfl (fun z=>?_) (fun z=>?_)
    ·have c:=zN z c
     obtain rfl:=gG c
     exact (xE (yK (yR (zF (meet ⟨u,zK,H.pick [0,1,2,3,4]⟩)))))
    have c:=zM z c
    refine zZ (zF (a7 _ _ ?_))
    obtain ⟨A,c,a9⟩:=zC c
    refine yG [24,25,26,27,28,29,30,31] (fun (g:Value)=>[]) (fun g wl=>Hd O w wl S [f1 fK v1 f,.blk l [.string (bs []),.bool false,i6 0,.slice none 0 0] 38,.blk m [.string (bs []),.bool false,i6 K,g] 38,.own (Rp.int .i64) g 3 A.1,.fz (.nl g A.2),f1 (Rp.int .i64) j d.Events,.blk a6 [sb d.Key,.bool d.Hidden,i6 d.Flights,j] 38]) ?_ ?_
    ·skip
     refine zB fun df ba=>zA<| zG (jO rfl)<| Ld aF H 2 3 rfl rfl<| zG (Do_eqlnl u36 (own_sl (H.item (i:=3) rfl)) rfl rfl (H.item (i:=4) rfl))<| RN ba<| zW (b:=ao) rfl (fun B=>?_) (fun B=>?_)
     ·have c:=zN B c
      refine zA ?_
      refine zG (jO rfl)<| Ld aF H 7 3 rfl rfl ?_
      obtain ⟨dg,bb,c⟩:=zD c
      obtain ⟨dh,di,bc⟩:=SlF.len ((H.item (i:=6) rfl))
      refine zG (yH (yZ u36 bc) (congrArg (Value.int .i64) bb)) ?_
      obtain ⟨dj,bd,c⟩:=zC c
      refine yP rfl rfl (Lx_makeN (r:=(Rp.int .i64)) (zv:=i6 0) u36 el3 rfl (fun _ _=>rfl) rfl rfl bd H) ?_
      rintro C dk ⟨H,be⟩
      have H:=H.fz (.nl C false) be
      refine zG (jO rfl)<| yX rfl (xR H 2 rfl sz36 rfl (v:=C) rfl (bQ (H.item (i:=8) rfl)) rfl) ?_
      rintro dl H
      obtain rfl:=gG c
      exact (zT (zF (meet ⟨C,zK,H.pick [0,1,2,8,9,6,7]⟩)))
     have c:=zM B c
     obtain rfl:=gG c
     exact (zZ (zF (meet ⟨u,zK,H.pick [0,1,2,3,4,6,7]⟩)))
    rintro p ρ dm H
    have c:=a9
    obtain ⟨bf,bg⟩:=A
    refine zB fun dn bh=>zA<| zG (jQ rfl)<| Ld fG H 2 2 rfl rfl<| zG (jQ rfl)<| Ld fG H 6 2 rfl rfl ?_
    obtain ⟨L,bi,c⟩:=zD c
    refine zG (xC (a:=K) (b:=d.Flights) rfl rfl bi)<| zG (jQ rfl)<| yX rfl (xR H 2 rfl sz3 rfl (v:=i6 L) rfl rfl rfl) ?_
    rintro dp H
    refine RN bh<| zB fun dq bj=>zA<| zG (jO rfl)<| Ld aF H 6 3 rfl rfl ?_
    obtain ⟨bk,bl,c⟩:=zD c
    obtain ⟨dr,ds,bm⟩:=SlF.len ((H.item (i:=5) rfl))
    refine zG (yH (yZ u36 bm) (congrArg (Value.int .i64) bl))<| zH (i6 0)<| RN bj<| yD ?_
    unfold Fdk at c
    obtain ⟨bn,M,bo,c⟩:=yQ c
    refine xA [8,9,41,42,43,44,45,46,47,48,49,50,51,52,53,54] (fun (g:Nat×Int×(List Int))=>[(41,i6 g.2.1)]) (fun g wl=>Hd O w wl S [f1 fK v1 f,.blk l [.string (bs []),.bool false,i6 0,.slice none 0 0] 38,.blk m [.string (bs []),.bool false,i6 L,p] 38,.own (Rp.int .i64) p 3 g.2.2,.fz (.nl p bg),f1 (Rp.int .i64) j d.Events]∧fV bn g.1 (g.2.1,g.2.2)=some o) (fun g=>g.1) (M,0,bf) (zJ rfl zK) ⟨H.pick [0,1,2,3,4,5],c⟩ ?_
    clear H c
    rintro ⟨M,k,dt⟩ ρ du ⟨H,c⟩
    obtain ⟨bp,rfl,c⟩:=yT c
    have c:=yV bo c
    refine zB fun dv bq=>zA ?_
    obtain ⟨br,bt,c⟩:=zD c
    refine zG (zO (xH (a:=k) (b:=bk) rfl rfl) bt)<| RN bq<| zB fun dw bu=>zW (b:=br) rfl (fun D=>?_) (fun D=>?_)
    ·have c:=zN D c
     refine zZ (zF (bu _ _ ?_))
     refine zB fun dx bv=>?_
     refine yD ?_
     refine zB fun dy bw=>zA<| zH (i6 k) ?_
     obtain ⟨q,E,c⟩:=zC c
     obtain ⟨bx,bz,dz,b0,b1,b2,b3,b4,b5⟩:=wJ (H.item (i:=5) rfl) E
     obtain rfl:b0= [i6 q]:=b2
     have H:=H.fz (.at bx (bz+k.toNat * 1) _) ⟨b3,b4,b5⟩
     refine zG (yS u36 sz3 b1 rfl (zU E).1 (zU E).2.1 rfl rfl)<| zG (xG fG rfl (Cells.get (H.item (i:=6) rfl).2.2 (i:=0) rfl))<| zI (i6 k)<| zI (i6 q)<| RN bw<| zA<| zG (jO rfl)<| Ld aF H 2 3 rfl rfl<| zH (i6 k) ?_
     obtain ⟨N,F,c⟩:=zC c
     obtain ⟨d0,d1,b6,b7,b8,b9⟩:=bH (H.item (i:=3) rfl) F
     obtain rfl:b6= [i6 N]:=b8
     refine zG (yS u36 sz3 b7 rfl (zU F).1 (zU F).2.1 rfl rfl)<| zG (xG fG rfl (Cells.get b9 (i:=0) rfl))<| zH (i6 q) ?_
     obtain ⟨ca,cb,c⟩:=zD c
     refine zG (xC (a:=N) (b:=q) rfl rfl cb) ?_
     obtain ⟨cc,G,c⟩:=zC c
     obtain ⟨d2,d3,cd,P,ce,cf⟩:=bH (H.item (i:=3) rfl) G
     obtain rfl:cd= [i6 cc]:=ce
     refine zG (yS u36 sz3 P rfl (zU G).1 (zU G).2.1 rfl rfl) ?_
     obtain ⟨cg,ch,c⟩:=zC c
     refine yX rfl (bG (vs:=[i6 ca]) (off:=0) H 3 rfl P cf rfl sz3 rfl rfl rfl (dH ⟨rfl,trivial⟩) ch (by decide) rfl rfl) ?_
     rintro d4 H
     refine (zT (yJ (zF (bv _ _ ?_))))
     refine zA ?_
     obtain ⟨Q,ci,c⟩:=zD c
     refine zG (xC (a:=k) (b:=1) rfl rfl ci)<| zH (i6 Q) ?_
     exact (zT (zF (meet ⟨(bp,Q,cg),(zJ rfl zK),⟨H.pick [0,1,2,3,4,5],c⟩,Nat.lt_succ_self _⟩)))
    have c:=zM D c
    obtain rfl:=gG c
    exact (xE (yK (yK (yR (yJ (zF (meet ⟨p,zK,H.pick [0,1,2,3,4]⟩)))))))
   rintro cj ρ d5 H
   have c:=aw
   obtain ⟨ck,cl,cm⟩:=o
   refine zA ?_
   obtain ⟨R,cn,c⟩:=zD c
   refine zG (xC (a:=t) (b:=1) rfl rfl cn)<| zH (i6 R) ?_
   exact (zT (zF (meet ⟨(ap,R,ck,cl,cm,cj),(zJ rfl zK),⟨H.pick [0,1,2,3,4],c⟩,Nat.lt_succ_self _⟩)))
  have c:=zM x c
  obtain rfl:=gG c
  exact (xE (yK (yK (yR (zF (meet ⟨u,zK,H.pick [1,2,3,4]⟩))))))
 rintro I ρ d6 H
 have c:=ah
 obtain ⟨T,d7,d8⟩:=n
 refine zB fun d9 cp=>zA<| zG (yH (yI (cs:=[.string (bs []),.bool false,i6 T,I]) uT rfl kE rfl (Hbc H 1 rfl)) rfl)<| yX rfl (yU (vs:=[.string (bs []),.bool false,i6 T,I]) H 0 rfl kE rfl rfl rfl ⟨rfl,rfl,rfl,(bQ (H.item (i:=2) rfl)),trivial⟩ rfl) ?_
 rintro ea H
 refine zI (i6 0)<| RN cp ?_
 have H:=H.freeze (i:=2) rfl
 obtain rfl:=gG c
 refine (zX (kF (v1:=i6 0) rfl rfl (xK uT kE rfl (Hbc H 0 rfl)) rfl ?_))
 exact ⟨I,rfl,H.pick [2]⟩
theorem Fbew (r:Bool)(d:Fbe=some r)(O S:List Nat)(w:World)(H:Hd O w w S []):
  Cl 7 [] w fun e B=>e= .returned (.bool r)∧Hd O w B S []:=by
 unfold Fbe at d
 refine CW 32 Tryz.func7 ?_
 refine zB fun K1 C=>zA<| zI (.bool false)<| RN C<| zB fun K2 D=>zA ?_
 obtain ⟨x3,E,d⟩:=zD d
 subst E
 refine yP rfl rfl (jK (r:=(Rp.int .i64)) (xl:=[1]) (cs:=[i6 1]) u36 el3 (by decide) (by decide) rfl (xP (vs:=[i6 1]) (by decide) rfl rfl ⟨rfl,trivial⟩ rfl) H ⟨[i6 1],[],rfl,rfl,rfl⟩) ?_
 rintro j w7 H
 obtain ⟨F,G,I⟩: ∃a c,j= .slice a _ c:=Sr.len (Sr.of_own (H.item (i:=0) rfl))
 refine zG (xM (cs:=[.string (bs [97]),.bool false,i6 2,j]) (by rw [I]; exact aFb _ _ F _ G)) ?_
 obtain ⟨au,J,d⟩:=zD d
 subst J
 refine yP rfl rfl (jK (r:=(Rp.int .i64)) (xl:=[4]) (cs:=[i6 4]) u36 el3 (by decide) (by decide) rfl (xP (vs:=[i6 4]) (by decide) rfl rfl ⟨rfl,trivial⟩ rfl) H ⟨[i6 4],[],rfl,rfl,rfl⟩) ?_
 rintro h av H
 obtain ⟨K,L,M⟩: ∃a c,h= .slice a _ c:=Sr.len (Sr.of_own (H.item (i:=1) rfl))
 refine zG (xM (cs:=[.string (bs [98]),.bool false,i6 3,h]) (by rw [M]; exact aFb _ _ K _ L)) ?_
 have H:=H.freeze (i:=0) rfl
 have H:=H.freeze (i:=1) rfl
 obtain ⟨aw,N,d⟩:=zD d
 subst N
 refine yP rfl rfl (jK (r:=fK) (xl:=[gK.mk [97] false 2 ([1]:List Int),gK.mk [98] false 3 ([4]:List Int)]) (cs:=[.string (bs [97]),.bool false,i6 2,j,.string (bs [98]),.bool false,i6 3,h]) u31 el38 (by decide) (by decide) rfl (xP (vs:=[.agg [.string (bs [97]),.bool false,i6 2,j].toArray,.agg [.string (bs [98]),.bool false,i6 3,h].toArray]) (by decide) rfl rfl ⟨rfl,rfl,trivial⟩ rfl) H ⟨[.string (bs [97]),.bool false,i6 2,j],[.string (bs [98]),.bool false,i6 3,h],rfl,(rF (x:=gK.mk [97] false 2 ([1]:List Int)) (H.item (i:=0) rfl)),⟨[.string (bs [98]),.bool false,i6 3,h],[],rfl,(rF (x:=gK.mk [98] false 3 ([4]:List Int)) (H.item (i:=1) rfl)),rfl⟩⟩) ?_
 rintro m ax H
 have H:=H.freeze (i:=2) rfl
 obtain ⟨⟨f,l⟩,P,d⟩:=zC d
 refine yB rfl rfl (zY en8 rfl) (Fbow ([gK.mk [97] false 2 ([1]:List Int),gK.mk [98] false 3 ([4]:List Int)]:List gK) m _ P _ _ _ (H.enter [] [2])) ?_
 rintro _ ay ⟨k,rfl,Q⟩
 have H:=H.back1 [2] rfl Q
 refine ⟨_,rfl,?_⟩
 refine zH (.tuple #[.agg [sb f.Key,.bool f.Hidden,i6 f.Flights,k].toArray,i6 l])<| zG (xU (v:= .agg [sb f.Key,.bool f.Hidden,i6 f.Flights,k].toArray) rfl rfl)<| zG (xU (v:=i6 l) rfl rfl)<| yP rfl rfl (xI vM H) ?_
 rintro _ az ⟨s,rfl,H⟩
 refine yX rfl (yU (vs:=[sb f.Key,.bool f.Hidden,i6 f.Flights,k]) H 4 rfl kE rfl rfl rfl ⟨rfl,rfl,rfl,(dG (H.item (i:=3) rfl)),trivial⟩ rfl) ?_
 rintro a0 H
 refine zI (i6 l)<| RN D ?_
 obtain ⟨t,d,R⟩:=zC d
 refine yG [0,12,13,14,15,16,17,18,19,20,21,22,23,24,25,26,27,28,29,30,31] (fun (g:Unit)=>[(0,.bool t)]) (fun g wl=>Hd O w wl S []) ?_ ?_
 ·skip
  refine zA ?_
  refine zH (i6 l) ?_
  obtain ⟨T,U,d⟩:=zD d
  refine zG (zO (yY (a:=l) (b:=0) rfl rfl) U) ?_
  obtain ⟨u,d,V⟩:=zC d
  refine dO 5 [14,15,16,17,18] [(18,.bool u)] (fun wl=>Hd O w wl S [f1 (Rp.int .i64) j ([1]:List Int),f1 (Rp.int .i64) h ([4]:List Int),.fz (.sl fK m ([gK.mk [97] false 2 ([1]:List Int),gK.mk [98] false 3 ([4]:List Int)]:List gK)),f1 (Rp.int .i64) k f.Events,.blk s [sb f.Key,.bool f.Hidden,i6 f.Flights,k] 38]) ?_ ?_
  ·skip
   refine yO (b:=T) rfl rfl rfl (fun n=>?_) (fun n=>?_)
   ·have d:=zN n d
    refine zG (jQ rfl)<| Ld fG H 4 2 rfl rfl ?_
    obtain ⟨X,Y,d⟩:=zD d
    refine zG (zO (yY (a:=f.Flights) (b:=5) rfl rfl) Y)<| zG (yL (v:= .bool X) rfl rfl) ?_
    obtain rfl:=gG d
    exact zT (zF (meet ⟨(zJ rfl zK),H.pick [0,1,2,3,4]⟩))
   have d:=zM n d
   refine yE ?_
   refine yE ?_
   refine yE ?_
   refine zG (yF (v:= .bool false) rfl rfl) ?_
   obtain rfl:=gG d
   exact zT (zF (meet ⟨(zJ rfl zK),H.pick [0,1,2,3,4]⟩))
  rintro ρ a1 H
  have d:=V
  obtain ⟨y,d,Z⟩:=zC d
  refine dO 6 [19,20,21,22,23,24] [(24,.bool y)] (fun wl=>Hd O w wl S [f1 (Rp.int .i64) j ([1]:List Int),f1 (Rp.int .i64) h ([4]:List Int),.fz (.sl fK m ([gK.mk [97] false 2 ([1]:List Int),gK.mk [98] false 3 ([4]:List Int)]:List gK)),f1 (Rp.int .i64) k f.Events,.blk s [sb f.Key,.bool f.Hidden,i6 f.Flights,k] 38]) ?_ ?_
  ·skip
   refine yO (b:=u) rfl rfl rfl (fun o=>?_) (fun o=>?_)
   ·have d:=zN o d
    refine zG (jO rfl)<| Ld aF H 4 3 rfl rfl ?_
    obtain ⟨aa,ab,d⟩:=zD d
    obtain ⟨a2,a3,ac⟩:=SlF.len ((H.item (i:=3) rfl))
    refine zG (yH (yZ u36 ac) (congrArg (Value.int .i64) ab)) ?_
    obtain ⟨ad,ae,d⟩:=zD d
    refine zG (zO (yY (a:=aa) (b:=1) rfl rfl) ae)<| zG (yL (v:= .bool ad) rfl rfl) ?_
    obtain rfl:=gG d
    exact zT (zF (meet ⟨(zJ rfl zK),H.pick [0,1,2,3,4]⟩))
   have d:=zM o d
   refine yE ?_
   refine yE ?_
   refine yE ?_
   refine yE ?_
   refine zG (yF (v:= .bool false) rfl rfl) ?_
   obtain rfl:=gG d
   exact zT (zF (meet ⟨(zJ rfl zK),H.pick [0,1,2,3,4]⟩))
  rintro ρ a4 H
  have d:=Z
  refine yO (b:=y) rfl rfl rfl (fun p=>?_) (fun p=>?_)
  ·have d:=zN p d
   refine zG (jO rfl)<| Ld aF H 4 3 rfl rfl ?_
   obtain ⟨z,q,d⟩:=zC d
   obtain ⟨af,ag,a5,ah,ai,aj,ak,al,am⟩:=wJ (H.item (i:=3) rfl) q
   obtain rfl:ah= [i6 z]:=aj
   have H:=H.fz (.at af (ag+(0:Int).toNat * 1) _) ⟨ak,al,am⟩
   refine zG (yS u36 sz3 ai rfl (zU q).1 (zU q).2.1 rfl rfl)<| zG (xG fG rfl (Cells.get (H.item (i:=5) rfl).2.2 (i:=0) rfl)) ?_
   obtain ⟨A,an,d⟩:=zD d
   refine zG (zO (yY (a:=z) (b:=5) rfl rfl) an)<| zG (yL (v:= .bool A) rfl rfl)<| zI (.bool A) ?_
   obtain rfl:=gG d
   exact (zT (zF (meet ⟨(),(zJ rfl zK),H.pick []⟩)))
  have d:=zM p d
  refine yE ?_
  refine yE ?_
  refine yE ?_
  refine yE ?_
  refine yE ?_
  refine zG (yF (v:= .bool false) rfl rfl)<| zI (.bool false) ?_
  obtain rfl:=gG d
  exact (zT (zF (meet ⟨(),(zJ rfl zK),H.pick []⟩)))
 rintro _ ρ a6 H
 have d:=R
 obtain rfl:=gG d
 refine (zX (gV (v1:= .bool t) rfl rfl ?_))
 exact ⟨rfl,H.pick []⟩
theorem Fbxw (n:List Int)(d:Int)(h:Int)(v1:Value)(r:(List Int))(c:Fbx n d h=some r)(O S:List Nat)(w:World)(H:Hd O w w S [.own (Rp.int .u8) v1 5 n,.fz (.at 1 0 ((Fl.arr 20 (Fl.int .u64)).f zS))]):
  Cl 107 [v1,i6 d,i6 h] w fun e s=> ∃u4,e= .returned (u4)∧Hd O w s S [.own (Rp.int .u8) u4 5 r]:=by
 unfold Fbx at c
 refine CW 21 Tryz.func107 ?_
 refine zB fun M t=>zA<| zI (.slice none 0 0)<| RN t<| zB fun N u=>zA<| zH (i6 d) ?_
 obtain ⟨j,v,c⟩:=zD c
 refine zG (mX u2 u147 rfl v)<| zI (.int .u64 j)<| RN u ?_
 obtain ⟨k,c,x⟩:=zC c
 refine yG [0,7,10,11,12,13,14,15,16] (fun (g:Value)=>[(0,g),(7,.int .u64 k.2)]) (fun g wl=>Hd O w wl S [.own (Rp.int .u8) g 5 k.1,.fz (.at 1 0 ((Fl.arr 20 (Fl.int .u64)).f zS))]) ?_ ?_
 ·skip
  refine zB fun P y=>zA<| zH (i6 d) ?_
  obtain ⟨z,A,c⟩:=zD c
  refine zG (zO (xH (a:=d) (b:=0) rfl rfl) A)<| RN y<| zW (b:=z) rfl (fun l=>?_) (fun l=>?_)
  ·have c:=zN l c
   refine zB fun Q B=>zA<| zH v1 ?_
   obtain ⟨R,C,c⟩:=zD c
   subst C
   refine yP rfl rfl (jK (r:=(Rp.int .u8)) (xl:=[45]) (cs:=[.int .u8 45]) u50 el5 (by decide) (by decide) rfl (xP (vs:=[.int .u8 45]) (by decide) rfl rfl ⟨rfl,trivial⟩ rfl) H ⟨[.int .u8 45],[],rfl,rfl,rfl⟩) ?_
   rintro T U H
   obtain ⟨V,D,c⟩:=zC c
   refine yP rfl rfl (kC H (i:=0) rfl u50 el5 rfl rfl (Sr.of_own (H.item (i:=2) rfl)) D) ?_
   rintro o X H
   refine zI o<| RN B<| zA<| zH (.int .u64 j) ?_
   obtain ⟨F,G,c⟩:=zD c
   refine zG (Do_neg (a:=j) rfl G)<| zI (.int .u64 F) ?_
   obtain rfl:=gG c
   exact (zT (zF (meet ⟨o,(zJ rfl (zJ rfl zK)),H.pick [0,1]⟩)))
  have c:=zM l c
  obtain rfl:=gG c
  exact (zZ (zF (meet ⟨v1,(zJ rfl (zJ rfl zK)),H.pick [0,1]⟩)))
 rintro p ρ Y H
 have c:=x
 obtain ⟨I,q⟩:=k
 refine zB fun Z J=>zA<| zH p<| zH (.int .u64 q)<| zH (i6 h) ?_
 obtain ⟨aa,K,c⟩:=zC c
 refine yB rfl rfl (zY en126 rfl) (E.Fc5w I q h p _ K _ _ _ (H.enter [0] [1])) ?_
 rintro _ ab ⟨m,rfl,L⟩
 have H:Hd _ _ _ _ [_,_]:=H.back [0] [1] rfl L
 refine ⟨_,rfl,?_⟩
 refine zI m<| RN J ?_
 obtain rfl:=gG c
 refine (zX (gV (v1:=m) rfl rfl ?_))
 exact ⟨m,rfl,H.pick [1]⟩
theorem Fcxw (d:List Int)(a:Int)(b:Int)(v1:Value)(r:(List Int))(c:Fcx d a b=some r)(O S:List Nat)(w:World)(H:Hd O w w S [.own (Rp.int .u8) v1 5 d,.fz (.at 1 0 ((Fl.arr 20 (Fl.int .u64)).f zS))]):
  Cl 71 [v1,i6 a,i6 b] w fun e i=> ∃u4,e= .returned (u4)∧Hd O w i S [.own (Rp.int .u8) u4 5 r]:=by
 unfold Fcx at c
 refine CW 11 Tryz.func71 ?_
 refine zB fun n j=>zA<| zI (.slice none 0 0)<| RN j<| zB fun o k=>zA<| zH v1<| zH (i6 a)<| zH (i6 b) ?_
 obtain ⟨p,l,c⟩:=zC c
 refine yB rfl rfl (zY en107 rfl) (Fbxw d a b v1 _ l _ _ _ (H.enter [0] [1])) ?_
 rintro _ q ⟨h,rfl,m⟩
 have H:Hd _ _ _ _ [_,_]:=H.back [0] [1] rfl m
 refine ⟨_,rfl,?_⟩
 refine zI h<| RN k ?_
 obtain rfl:=gG c
 refine (zX (gV (v1:=h) rfl rfl ?_))
 exact ⟨h,rfl,H.pick [1]⟩
theorem Fagw (d:gI)(c:Int)(b:Nat)(h:Value)(r:gI)(a:Fag d c=some r)(O S:List Nat)(w:World)(H:Hd O w w S [.own (Rp.int .u8) h 5 d.out,.blk b [h] 52,.fz (.at 1 0 ((Fl.arr 20 (Fl.int .u64)).f zS))]):
  Cl 37 [gX b,i6 c] w fun e l=> ∃j,e= .returned (.tuple #[])∧Hd O w l S [.own (Rp.int .u8) j 5 r.out,.blk b [j] 52]:=by
 unfold Fag at a
 refine CW 22 Tryz.func37 ?_
 refine zB fun t m=>zA<| zH (gX b)<| zH (gX b)<| zG (yC rfl)<| zG (rD rfl)<| Ld aKw H 1 0 rfl rfl<| zH (i6 c) ?_
 obtain ⟨u,n,a⟩:=zC a
 refine yB rfl rfl (zY en71 rfl) (Fcxw d.out c 10 h _ n _ _ _ (H.enter [0] [2])) ?_
 rintro _ x ⟨o,rfl,p⟩
 have H:Hd _ _ _ _ [_,_,_]:=H.back [0] [2] rfl p
 refine ⟨_,rfl,?_⟩
 refine zG (yC rfl)<| zG (rD rfl)<| yX rfl (xR H 0 rfl sz50 rfl (v:=o) rfl (bQ (H.item (i:=2) rfl)) rfl) ?_
 rintro y H
 refine RN m<| zA<| zH (gX b)<| zH (gX b)<| zG (yC rfl)<| zG (rD rfl)<| Ld aKw H 0 0 rfl rfl ?_
 obtain ⟨z,q,a⟩:=zD a
 subst q
 refine yP rfl rfl (jK (r:=(Rp.int .u8)) (xl:=[32]) (cs:=[.int .u8 32]) u50 el5 (by decide) (by decide) rfl (xP (vs:=[.int .u8 32]) (by decide) rfl rfl ⟨rfl,trivial⟩ rfl) H ⟨[.int .u8 32],[],rfl,rfl,rfl⟩) ?_
 rintro A B H
 obtain ⟨C,s,a⟩:=zC a
 refine yP rfl rfl (kC H (i:=2) rfl u50 el5 rfl rfl (Sr.of_own (H.item (i:=3) rfl)) s) ?_
 rintro k D H
 refine zG (yC rfl)<| zG (rD rfl)<| yX rfl (xR H 0 rfl sz50 rfl (v:=k) rfl (bQ (H.item (i:=2) rfl)) rfl) ?_
 rintro E H
 obtain rfl:=gG a
 refine (zT (mV rfl ?_))
 exact ⟨k,rfl,H.pick [2,0]⟩
theorem Fc1w (d:gI)(c:Str)(b:Nat)(h:Value)(r:gI)(a:Fc1 d c=some r)(O S:List Nat)(w:World)(H:Hd O w w S [.own (Rp.int .u8) h 5 d.out,.blk b [h] 52,.fz (.at 1 0 ((Fl.arr 20 (Fl.int .u64)).f zS))]):
  Cl 72 [gX b,sb c] w fun e l=> ∃j,e= .returned (.tuple #[])∧Hd O w l S [.own (Rp.int .u8) j 5 r.out,.blk b [j] 52]:=by
 unfold Fc1 at a
 refine CW 17 Tryz.func72 ?_
 refine zB fun t m=>zA<| zH (gX b)<| zH (sb c) ?_
 obtain ⟨n,o,a⟩:=zD a
 refine zG (yH (aHy (s1:=c) u9 rfl) (congrArg (Value.int .i64) o)) ?_
 obtain ⟨u,p,a⟩:=zC a
 refine yB rfl rfl (zY en37 rfl) (Fagw (gI.mk d.out) n b h _ p _ _ _ (H.enter [0,1] [2])) ?_
 rintro _ x ⟨y,rfl,q⟩
 have H:Hd _ _ _ _ [_,_,_]:=H.back [0,1] [2] rfl q
 refine ⟨_,rfl,?_⟩
 refine RN m<| zA<| zH (gX b)<| zH (gX b)<| zG (yC rfl)<| zG (rD rfl)<| Ld aKw H 2 0 rfl rfl<| zH (sb c) ?_
 obtain ⟨z,s,a⟩:=zC a
 refine yP rfl rfl (uH H (i:=1) rfl u50 u9 z8_5 rfl rfl s) ?_
 rintro k A H
 refine zG (yC rfl)<| zG (rD rfl)<| yX rfl (xR H 2 rfl sz50 rfl (v:=k) rfl (bQ (H.item (i:=1) rfl)) rfl) ?_
 rintro B H
 obtain rfl:=gG a
 refine (zT (mV rfl ?_))
 exact ⟨k,rfl,H.pick [1,2]⟩
theorem Fd6w (j:List Int)(c:Bool)(v1:Value)(r:(List Int))(a:Fd6 j c=some r)(O S:List Nat)(w:World)(H:Hd O w w S [.own (Rp.int .u8) v1 5 j]):
  Cl 127 [v1,.bool c] w fun e k=> ∃u3,e= .returned (u3)∧Hd O w k S [.own (Rp.int .u8) u3 5 r]:=by
 unfold Fd6 at a
 refine CW 10 Tryz.func127 ?_
 refine zB fun t l=>zA<| zI (.slice none 0 0)<| RN l<| zB fun u m=>zB fun v n=>zA<| zH (.bool c)<| RN n<| zW (b:=c) rfl (fun d=>?_) (fun d=>?_)
 ·have a:=zN d a
  refine zB fun x o=>zA<| zH v1 ?_
  obtain ⟨y,p,a⟩:=zC a
  refine yP rfl rfl (uH H (i:=0) rfl u50 u9 z8_5 rfl rfl p) ?_
  rintro f z H
  refine zI f<| RN o ?_
  obtain rfl:=gG a
  refine (zX (zQ (gV (v1:=f) rfl rfl ?_)))
  exact ⟨f,rfl,H.pick [0]⟩
 have a:=zM d a
 refine zZ (zF (m _ _ ?_))
 refine zB fun A q=>zA<| zH v1 ?_
 obtain ⟨B,s,a⟩:=zC a
 refine yP rfl rfl (uH H (i:=0) rfl u50 u9 z8_5 rfl rfl s) ?_
 rintro h C H
 refine zI h<| RN q ?_
 obtain rfl:=gG a
 refine (zX (gV (v1:=h) rfl rfl ?_))
 exact ⟨h,rfl,H.pick [0]⟩
theorem Fd5w (c:List Int)(a:Bool)(v1:Value)(r:(List Int))(b:Fd5 c a=some r)(O S:List Nat)(w:World)(H:Hd O w w S [.own (Rp.int .u8) v1 5 c]):
  Cl 108 [v1,.bool a] w fun e f=> ∃u3,e= .returned (u3)∧Hd O w f S [.own (Rp.int .u8) u3 5 r]:=by
 unfold Fd5 at b
 refine CW 8 Tryz.func108 ?_
 refine zB fun l h=>zA<| zI (.slice none 0 0)<| RN h<| zB fun m i=>zA<| zH v1<| zH (.bool a) ?_
 obtain ⟨n,j,b⟩:=zC b
 refine yB rfl rfl (zY en127 rfl) (Fd6w c a v1 _ j _ _ _ (H.enter [0] [])) ?_
 rintro _ o ⟨d,rfl,k⟩
 have H:Hd _ _ _ _ [_]:=H.back [0] [] rfl k
 refine ⟨_,rfl,?_⟩
 refine zI d<| RN i ?_
 obtain rfl:=gG b
 refine (zX (gV (v1:=d) rfl rfl ?_))
 exact ⟨d,rfl,H.pick [0]⟩
theorem Fcyw (d:gI)(b:Bool)(a:Nat)(f:Value)(r:gI)(c:Fcy d b=some r)(O S:List Nat)(w:World)(H:Hd O w w S [.own (Rp.int .u8) f 5 d.out,.blk a [f] 52]):
  Cl 73 [gX a,.bool b] w fun e j=> ∃u5,e= .returned (.tuple #[])∧Hd O w j S [.own (Rp.int .u8) u5 5 r.out,.blk a [u5] 52]:=by
 unfold Fcy at c
 refine CW 13 Tryz.func73 ?_
 refine zA ?_
 refine zH (gX a)<| zH (gX a)<| zG (yC rfl)<| zG (rD rfl)<| Ld aKw H 1 0 rfl rfl<| zH (.bool b) ?_
 obtain ⟨m,k,c⟩:=zC c
 refine yB rfl rfl (zY en108 rfl) (Fd5w d.out b f _ k _ _ _ (H.enter [0] [])) ?_
 rintro _ n ⟨h,rfl,l⟩
 have H:Hd _ _ _ _ [_,_]:=H.back [0] [] rfl l
 refine ⟨_,rfl,?_⟩
 refine zG (yC rfl)<| zG (rD rfl)<| yX rfl (xR H 0 rfl sz50 rfl (v:=h) rfl (bQ (H.item (i:=1) rfl)) rfl) ?_
 rintro o H
 obtain rfl:=gG c
 refine (zT (mV rfl ?_))
 exact ⟨h,rfl,H.pick [1,0]⟩
theorem Fcdw (k:gI)(l:List Int)(d:Nat)(m:Value)(h:Value)(r:gI)(c:Fcd k l=some r)(O S:List Nat)(w:World)(H:Hd O w w S [.own (Rp.int .u8) m 5 k.out,.blk d [m] 52,f1 (Rp.int .i64) h l,.fz (.at 1 0 ((Fl.arr 20 (Fl.int .u64)).f zS))]):
  Cl 17 [gX d,h] w fun e u=> ∃u8,e= .returned (.tuple #[])∧Hd O w u S [.own (Rp.int .u8) u8 5 r.out,.blk d [u8] 52]:=by
 unfold Fcd at c
 refine CW 21 Tryz.func17 ?_
 refine zB fun K9 v=>zA<| zH (gX d)<| zH h ?_
 obtain ⟨x,y,c⟩:=zD c
 obtain ⟨aj,ak,z⟩:=SlF.len ((H.item (i:=2) rfl))
 refine zG (yH (yZ u36 z) (congrArg (Value.int .i64) y)) ?_
 obtain ⟨A,B,c⟩:=zC c
 refine yB rfl rfl (zY en37 rfl) (Fagw (gI.mk k.out) x d m _ B _ _ _ (H.enter [0,1] [3])) ?_
 rintro _ al ⟨C,rfl,D⟩
 have H:Hd _ _ _ _ [_,_,_,_]:=H.back [0,1] [3] rfl D
 refine ⟨_,rfl,?_⟩
 refine RN v<| zB fun am E=>zA<| zI (i6 0)<| RN E<| yD ?_
 unfold Ffd at c
 obtain ⟨F,p,G,c⟩:=yQ c
 refine xA [4,9,10,11,12,13,14,15,16,17,18,19,20] (fun (g:Nat×Int×(List Int)×Value)=>[(4,i6 g.2.1)]) (fun g wl=>Hd O w wl S [f1 (Rp.int .i64) h l,.fz (.at 1 0 ((Fl.arr 20 (Fl.int .u64)).f zS)),.blk d [g.2.2.2] 52,.own (Rp.int .u8) g.2.2.2 5 g.2.2.1]∧fV F g.1 (g.2.1,g.2.2.1)=some r) (fun g=>g.1) (p,0,A.out,C) (zJ rfl zK) ⟨H.pick [0,1,3,2],c⟩ ?_
 clear H c
 rintro ⟨p,j,I,q⟩ ρ an ⟨H,c⟩
 obtain ⟨J,rfl,c⟩:=yT c
 have c:=yV G c
 refine zB fun ao K=>?_
 refine zB fun ap L=>zA<| zH (i6 j)<| zH h ?_
 obtain ⟨M,N,c⟩:=zD c
 obtain ⟨aq,ar,P⟩:=SlF.len ((H.item (i:=0) rfl))
 refine zG (yH (yZ u36 P) (congrArg (Value.int .i64) N)) ?_
 obtain ⟨Q,R,c⟩:=zD c
 refine zG (zO (xH (a:=j) (b:=M) rfl rfl) R)<| RN L<| zW (b:=Q) rfl (fun n=>?_) (fun n=>?_)
 ·have c:=zN n c
  refine zZ (zF (K _ _ ?_))
  refine zB fun au T=>?_
  refine yD ?_
  refine zA ?_
  refine zH (gX d)<| zH h<| zH (i6 j) ?_
  obtain ⟨s,o,c⟩:=zC c
  obtain ⟨U,V,av,X,Y,Z,aa,ab,ac⟩:=wJ (H.item (i:=0) rfl) o
  obtain rfl:X= [i6 s]:=Z
  have H:=H.fz (.at U (V+j.toNat * 1) _) ⟨aa,ab,ac⟩
  refine zG (yS u36 sz3 Y rfl (zU o).1 (zU o).2.1 rfl rfl)<| zG (xG fG rfl (Cells.get (H.item (i:=4) rfl).2.2 (i:=0) rfl)) ?_
  obtain ⟨ad,ae,c⟩:=zC c
  refine yB rfl rfl (zY en37 rfl) (Fagw (gI.mk I) s d q _ ae _ _ _ (H.enter [3,2] [1])) ?_
  rintro _ aw ⟨af,rfl,ag⟩
  have H:Hd _ _ _ _ [_,_,_,_,_]:=H.back [3,2] [1] rfl ag
  refine ⟨_,rfl,?_⟩
  refine (zT (yJ (zF (T _ _ ?_))))
  refine zA ?_
  refine zH (i6 j) ?_
  obtain ⟨t,ah,c⟩:=zD c
  refine zG (xC (a:=j) (b:=1) rfl rfl ah)<| zI (i6 t) ?_
  exact (zT (zF (meet ⟨(J,t,ad.out,af),(zJ rfl zK),⟨H.pick [0,1,4,3],c⟩,Nat.lt_succ_self _⟩)))
 have c:=zM n c
 obtain rfl:=gG c
 refine (xE (yK (yK (yR (mV rfl ?_)))))
 exact ⟨q,rfl,H.pick [3,2]⟩
theorem Fcaw (h:gI)(a:gK)(b:Nat)(i:Value)(d:Value)(r:gI)(c:Fca h a=some r)(O S:List Nat)(w:World)(H:Hd O w w S [.own (Rp.int .u8) i 5 h.out,.blk b [i] 52,f1 (Rp.int .i64) d a.Events,.fz (.at 1 0 ((Fl.arr 20 (Fl.int .u64)).f zS))]):
  Cl 38 [gX b,.agg [sb a.Key,.bool a.Hidden,i6 a.Flights,d].toArray] w fun e j=> ∃u8,e= .returned (.tuple #[])∧Hd O w j S [.own (Rp.int .u8) u8 5 r.out,.blk b [u8] 52]:=by
 unfold Fca at c
 refine CW 20 Tryz.func38 ?_
 refine zB fun F k=>zA<| yP rfl rfl (xJ (cs:=[sb a.Key,.bool a.Hidden,i6 a.Flights,d]) rfl H) ?_
 rintro _ G ⟨I,rfl,H⟩
 refine RN k<| zB fun J l=>zA<| zH (gX b)<| zG (aDp rfl)<| Ld dX H 4 0 rfl rfl ?_
 obtain ⟨m,n,c⟩:=zC c
 refine yB rfl rfl (zY en72 rfl) (Fc1w (gI.mk h.out) a.Key b i _ n _ _ _ (H.enter [0,1] [3])) ?_
 rintro _ K ⟨o,rfl,p⟩
 have H:Hd _ _ _ _ [_,_,_,_,_]:=H.back [0,1] [3] rfl p
 refine ⟨_,rfl,?_⟩
 refine RN l<| zB fun L q=>zA<| zH (gX b)<| zG (aEh rfl)<| Ld jT H 2 1 rfl rfl ?_
 obtain ⟨s,t,c⟩:=zC c
 refine yB rfl rfl (zY en73 rfl) (Fcyw (gI.mk m.out) a.Hidden b o _ t _ _ _ (H.enter [3,4] [])) ?_
 rintro _ M ⟨u,rfl,v⟩
 have H:Hd _ _ _ _ [_,_,_,_,_]:=H.back [3,4] [] rfl v
 refine ⟨_,rfl,?_⟩
 refine RN q<| zB fun N x=>zA<| zH (gX b)<| zG (jQ rfl)<| Ld fG H 2 2 rfl rfl ?_
 obtain ⟨y,z,c⟩:=zC c
 refine yB rfl rfl (zY en37 rfl) (Fagw (gI.mk s.out) a.Flights b u _ z _ _ _ (H.enter [3,4] [1])) ?_
 rintro _ P ⟨A,rfl,B⟩
 have H:Hd _ _ _ _ [_,_,_,_,_]:=H.back [3,4] [1] rfl B
 refine ⟨_,rfl,?_⟩
 refine RN x<| zA<| zH (gX b)<| zG (jO rfl)<| Ld aF H 2 3 rfl rfl ?_
 obtain ⟨Q,C,c⟩:=zC c
 refine yB rfl rfl (zY en17 rfl) (Fcdw (gI.mk y.out) a.Events b A d _ C _ _ _ (H.enter [3,4] [0,1])) ?_
 rintro _ R ⟨D,rfl,E⟩
 have H:Hd _ _ _ _ [_,_,_,_,_]:=H.back [3,4] [0,1] rfl E
 refine ⟨_,rfl,?_⟩
 obtain rfl:=gG c
 refine (zT (mV rfl ?_))
 exact ⟨D,rfl,H.pick [3,4]⟩
theorem Fcrw (l:gI)(m:List gK)(d:Nat)(n:Value)(h:Value)(r:gI)(c:Fcr l m=some r)(O S:List Nat)(w:World)(H:Hd O w w S [.own (Rp.int .u8) n 5 l.out,.blk d [n] 52,f1 fK h m,.fz (.at 1 0 ((Fl.arr 20 (Fl.int .u64)).f zS))]):
  Cl 14 [gX d,h] w fun e v=> ∃u8,e= .returned (.tuple #[])∧Hd O w v S [.own (Rp.int .u8) u8 5 r.out,.blk d [u8] 52]:=by
 unfold Fcr at c
 refine CW 21 Tryz.func14 ?_
 refine zB fun K9 x=>zA<| zH (gX d)<| zH h ?_
 obtain ⟨y,z,c⟩:=zD c
 obtain ⟨ak,al,A⟩:=SlF.len ((H.item (i:=2) rfl))
 refine zG (yH (yZ u31 A) (congrArg (Value.int .i64) z)) ?_
 obtain ⟨B,C,c⟩:=zC c
 refine yB rfl rfl (zY en37 rfl) (Fagw (gI.mk l.out) y d n _ C _ _ _ (H.enter [0,1] [3])) ?_
 rintro _ am ⟨D,rfl,E⟩
 have H:Hd _ _ _ _ [_,_,_,_]:=H.back [0,1] [3] rfl E
 refine ⟨_,rfl,?_⟩
 refine RN x<| zB fun an F=>zA<| zI (i6 0)<| RN F<| yD ?_
 unfold Ffn at c
 obtain ⟨G,s,I,c⟩:=yQ c
 refine xA [4,9,10,11,12,13,14,15,16,17,18,19,20] (fun (g:Nat×Int×(List Int)×Value)=>[(4,i6 g.2.1)]) (fun g wl=>Hd O w wl S [f1 fK h m,.fz (.at 1 0 ((Fl.arr 20 (Fl.int .u64)).f zS)),.blk d [g.2.2.2] 52,.own (Rp.int .u8) g.2.2.2 5 g.2.2.1]∧fV G g.1 (g.2.1,g.2.2.1)=some r) (fun g=>g.1) (s,0,B.out,D) (zJ rfl zK) ⟨H.pick [0,1,3,2],c⟩ ?_
 clear H c
 rintro ⟨s,j,J,t⟩ ρ ao ⟨H,c⟩
 obtain ⟨K,rfl,c⟩:=yT c
 have c:=yV I c
 refine zB fun ap L=>?_
 refine zB fun aq M=>zA<| zH (i6 j)<| zH h ?_
 obtain ⟨N,P,c⟩:=zD c
 obtain ⟨ar,au,Q⟩:=SlF.len ((H.item (i:=0) rfl))
 refine zG (yH (yZ u31 Q) (congrArg (Value.int .i64) P)) ?_
 obtain ⟨R,T,c⟩:=zD c
 refine zG (zO (xH (a:=j) (b:=N) rfl rfl) T)<| RN M<| zW (b:=R) rfl (fun o=>?_) (fun o=>?_)
 ·have c:=zN o c
  refine zZ (zF (L _ _ ?_))
  refine zB fun av U=>?_
  refine yD ?_
  refine zA ?_
  refine zH (gX d)<| zH h<| zH (i6 j) ?_
  obtain ⟨k,p,c⟩:=zC c
  obtain ⟨V,X,aw,ax,Y,Z,aa,ab,ac⟩:=wJ (H.item (i:=0) rfl) p
  obtain ⟨q,rfl,ad⟩:=bU Z
  have H:=H.fzs [.at V (X+j.toNat * 4) _,.sl (Rp.int .i64) q k.Events] ⟨⟨aa,ab,ac⟩,ad,trivial⟩
  refine zG (yS u31 kE Y rfl (zU p).1 (zU p).2.1 rfl rfl)<| zG (yH (yI (cs:=[sb k.Key,.bool k.Hidden,i6 k.Flights,q]) uT rfl kE rfl (H.item (i:=4) rfl).2.2) rfl) ?_
  obtain ⟨ae,af,c⟩:=zC c
  refine yB rfl rfl (zY en38 rfl) (Fcaw (gI.mk J) k d t q _ af _ _ _ (H.enter [3,2] [5,1])) ?_
  rintro _ ay ⟨ag,rfl,ah⟩
  have H:Hd _ _ _ _ [_,_,_,_,_,_]:=H.back [3,2] [5,1] rfl ah
  refine ⟨_,rfl,?_⟩
  refine (zT (yJ (zF (U _ _ ?_))))
  refine zA ?_
  refine zH (i6 j) ?_
  obtain ⟨u,ai,c⟩:=zD c
  refine zG (xC (a:=j) (b:=1) rfl rfl ai)<| zI (i6 u) ?_
  exact (zT (zF (meet ⟨(K,u,ae.out,ag),(zJ rfl zK),⟨H.pick [0,1,5,4],c⟩,Nat.lt_succ_self _⟩)))
 have c:=zM o c
 obtain rfl:=gG c
 refine (xE (yK (yK (yR (mV rfl ?_)))))
 exact ⟨t,rfl,H.pick [3,2]⟩
theorem Fegw (d:gI)(b:Int)(a:Nat)(h:Value)(r:gI)(c:Feg d b=some r)(O S:List Nat)(w:World)(H:Hd O w w S [.own (Rp.int .u8) h 5 d.out,.blk a [h] 52,.fz (.at 1 0 ((Fl.arr 20 (Fl.int .u64)).f zS))]):
  Cl 15 [gX a,i6 b] w fun e j=> ∃i,e= .returned (.tuple #[])∧Hd O w j S [.own (Rp.int .u8) i 5 r.out,.blk a [i] 52]:=by
 unfold Feg at c
 refine CW 7 Tryz.func15 ?_
 refine zA ?_
 refine zH (gX a)<| zH (i6 b) ?_
 obtain ⟨n,k,c⟩:=zC c
 refine yB rfl rfl (zY en37 rfl) (Fagw (gI.mk d.out) b a h _ k _ _ _ (H.enter [0,1] [2])) ?_
 rintro _ o ⟨l,rfl,m⟩
 have H:Hd _ _ _ _ [_,_,_]:=H.back [0,1] [2] rfl m
 refine ⟨_,rfl,?_⟩
 obtain rfl:=gG c
 refine (zT (mV rfl ?_))
 exact ⟨l,rfl,H.pick [1,2]⟩
theorem Fdow (b:Option gI)(v1:Option Addr)(r:Str)(a:Fdo b=some r)(O S:List Nat)(w:World)(H:Hd O w w S [.fz (.pt aP v1 b)]):
  Cl 22 [.pointer v1] w fun e j=>e= .returned (sb r)∧Hd O w j S []:=by
 unfold Fdo at a
 refine CW 8 Tryz.func22 ?_
 refine zB fun y k=>zA<| zI (.string (bs []))<| RN k<| zB fun z l=>zA<| zH (.pointer v1) ?_
 obtain ⟨c,m,a⟩:=zC a
 obtain ⟨d,f,A,n,o,p,q,t⟩:=aMe ((H.item (i:=0) rfl):PtF _ _ _ _ _) m
 obtain ⟨u,rfl,v⟩:=qX q
 have H:=H.fzs [.at d f _,.sl (Rp.int .u8) u c.out] ⟨⟨o,p,t⟩,v,trivial⟩
 refine zG (yC (ad:=⟨d,f,none⟩) (congrArg Value.pointer n))<| zG (rD rfl)<| zG (xG aKw rfl (Cells.get (H.item (i:=1) rfl).2.2 (i:=0) rfl)) ?_
 obtain ⟨h,x,a⟩:=zD a
 refine zG (yH (aEz (xl:=c.out) u50 u5 u9 rfl (Sr.of_rd (H.item (i:=2) rfl))) (congrArg (fun s=>Value.string (bs s)) x))<| zI (sb h)<| RN l ?_
 obtain rfl:=gG a
 refine (zX (gV (v1:=sb h) rfl rfl ?_))
 exact ⟨rfl,H.pick []⟩
theorem Fa2w (d:List gK)(c:Int)(v1:Value)(r:Str)(a:Fa2 d c=some r)(O S:List Nat)(w:World)(H:Hd O w w S [f1 fK v1 d,.fz (.at 1 0 ((Fl.arr 20 (Fl.int .u64)).f zS))]):
  Cl 9 [v1,i6 c] w fun e k=>e= .returned (sb r)∧Hd O w k S []:=by
 unfold Fa2 at a
 refine CW 16 Tryz.func9 ?_
 refine zB fun C l=>zA<| zI (.string (bs []))<| RN l<| zB fun D m=>zA<| zG (xM (cs:=[.slice none 0 0]) bz52)<| yP rfl rfl (xJ (cs:=[.slice none 0 0]) rfl H) ?_
 rintro _ E ⟨b,rfl,H⟩
 refine zI (gX b)<| RN m<| zB fun F n=>zA<| zH (gX b)<| zH v1 ?_
 have H:=aS H (Rp.int .u8) 5
 obtain ⟨o,p,a⟩:=zC a
 refine yB rfl rfl (zY en14 rfl) (Fcrw (gI.mk []) d b (.slice none 0 0) v1 _ p _ _ _ (H.enter [3,2] [0,1])) ?_
 rintro _ G ⟨q,rfl,s⟩
 have H:Hd _ _ _ _ [_,_,_,_]:=H.back [3,2] [0,1] rfl s
 refine ⟨_,rfl,?_⟩
 refine RN n<| zB fun I t=>zA<| zH (gX b)<| zH (i6 c) ?_
 obtain ⟨h,u,a⟩:=zC a
 refine yB rfl rfl (zY en15 rfl) (Fegw (gI.mk o.out) c b q _ u _ _ _ (H.enter [2,3] [1])) ?_
 rintro _ J ⟨K,rfl,v⟩
 have H:Hd _ _ _ _ [_,_,_,_]:=H.back [2,3] [1] rfl v
 refine ⟨_,rfl,?_⟩
 refine RN t<| zB fun L y=>zA<| zH (gX b) ?_
 have z:=H
 have H:=H.freezeB (i:=3) rfl
 have H:=H.freeze (i:=2) rfl
 have H:=H.fz (.pt aP (some ⟨b,0,none⟩) (some h)) ⟨_,_,_,rfl,(H.item (i:=3) rfl).1,(H.item (i:=3) rfl).2.1,(tJ (x:=h) (H.item (i:=2) rfl)),(H.item (i:=3) rfl).2.2⟩
 obtain ⟨j,A,a⟩:=zC a
 refine yB rfl rfl (zY en22 rfl) (Fdow (some h) (some ⟨b,0,none⟩) _ A _ _ _ (H.enter [] [4])) ?_
 rintro _ M ⟨rfl,B⟩
 have H:=z.step (B.only:Only [] _ _)
 refine ⟨_,rfl,?_⟩
 refine zI (sb j)<| RN y ?_
 obtain rfl:=gG a
 refine (zX (gV (v1:=sb j) rfl rfl ?_))
 exact ⟨rfl,H.pick []⟩
set_option maxRecDepth 100000 in
theorem Feaw (o:List Flight)(z:Rules)(h:Mask)(E:Int)(v1:Value)(p:Value)(s:Value)(t:Value)(u:Value)(y:Value)(r:Bool)(c:Fea o z h E=some r)(O S:List Nat)(w:World)(H:Hd O w w S [f1 aB v1 o,f1 Rp.str p z.Phases,f1 fP s z.Moves,f1 fZ t z.Rules,f1 Rp.str u h.Hide,f1 dJ y h.Grains,.fz (.at 1 0 ((Fl.arr 20 (Fl.int .u64)).f zS))]):
  Cl 4 [v1,.agg [p,s,t].toArray,.agg [.bool h.Tails,i6 h.Days,u,y,i6 h.Least].toArray,i6 E] w fun e m=>e= .returned (.bool r)∧Hd O w m S []:=by
 unfold Fea at c
 refine CW 73 Tryz.func4 ?_
 refine zB fun b6 ad=>zA<| yP rfl rfl (xJ (cs:=[p,s,t]) rfl H) ?_
 rintro _ b7 ⟨b8,rfl,H⟩
 refine yP rfl rfl (xJ (cs:=[.bool h.Tails,i6 h.Days,u,y,i6 h.Least]) rfl H) ?_
 rintro _ b9 ⟨ca,rfl,H⟩
 refine zI (.bool false)<| RN ad<| zB fun cb ae=>zA<| zG (aNq rfl)<| yX rfl (xR H 8 rfl sz3 rfl (v:=i6 1) rfl rfl rfl) ?_
 rintro cc H
 refine RN ae<| zB fun cd af=>zA<| zH v1<| zG (yH (yI (cs:=[p,s,t]) qM rfl aBj rfl (Hbc H 7 rfl)) rfl)<| zG (yH (yI (cs:=[.bool h.Tails,i6 h.Days,u,y,i6 1]) aPw rfl sz30 rfl (Hbc H 8 rfl)) rfl)<| zH (i6 E) ?_
 obtain ⟨⟨ag,A⟩,ah,c⟩:=zC c
 refine yB rfl rfl (zY en6 rfl) (Famw o z (Mask.mk h.Tails h.Days h.Hide h.Grains 1) E v1 p s t u y _ ah _ _ _ (H.enter [] [0,1,2,3,4,5,6])) ?_
 rintro _ ce ⟨B,rfl,ai⟩
 have H:=H.back1 [0,1,2,3,4,5,6] rfl ai
 refine ⟨_,rfl,?_⟩
 refine zH (.tuple #[B,i6 A])<| zG (xU (v:=B) rfl rfl)<| zG (xU (v:=i6 A) rfl rfl)<| zI B<| zI (i6 A)<| RN af<| zB fun cf aj=>zB fun cg ak=>zA<| zH (i6 A) ?_
 obtain ⟨al,am,c⟩:=zD c
 refine zG (zO (eX (a:=A) (b:=0) rfl rfl) am)<| RN ak<| zW (b:=al) rfl (fun G=>?_) (fun G=>?_)
 ·have c:=zN G c
  refine zB fun ch an=>zA ?_
  have ao:=H
  obtain ⟨U,ap,c⟩:=zC c
  refine yB rfl rfl (zY en7 rfl) (Fbew _ ap _ _ _ (H.enter [] [])) ?_
  rintro _ ci ⟨rfl,aq⟩
  have H:=ao.step (aq.only:Only [] _ _)
  refine ⟨_,rfl,?_⟩
  refine zI (.bool U)<| RN an ?_
  obtain rfl:=gG c
  refine (zX (zQ (gV (v1:= .bool U) rfl rfl ?_)))
  exact ⟨rfl,H.pick []⟩
 have c:=zM G c
 refine zZ (zF (aj _ _ ?_))
 refine zB fun cj ar=>zA<| zH B ?_
 obtain ⟨⟨d,C⟩,au,c⟩:=zC c
 refine yB rfl rfl (zY en8 rfl) (Fbow ag B _ au _ _ _ (H.enter [] [9])) ?_
 rintro _ ck ⟨k,rfl,av⟩
 have H:=H.back1 [9] rfl av
 refine ⟨_,rfl,?_⟩
 refine zH (.tuple #[.agg [sb d.Key,.bool d.Hidden,i6 d.Flights,k].toArray,i6 C])<| zG (xU (v:= .agg [sb d.Key,.bool d.Hidden,i6 d.Flights,k].toArray) rfl rfl)<| zG (xU (v:=i6 C) rfl rfl)<| yP rfl rfl (xI vM H) ?_
 rintro _ cl ⟨I,rfl,H⟩
 refine yX rfl (yU (vs:=[sb d.Key,.bool d.Hidden,i6 d.Flights,k]) H 11 rfl kE rfl rfl rfl ⟨rfl,rfl,rfl,(dG (H.item (i:=10) rfl)),trivial⟩ rfl) ?_
 rintro cm H
 refine zI (i6 C)<| RN ar<| zB fun cn aw=>zA<| zH v1<| zG (yH (yI (cs:=[p,s,t]) qM rfl aBj rfl (Hbc H 7 rfl)) rfl)<| zG (yH (yI (cs:=[.bool h.Tails,i6 h.Days,u,y,i6 1]) aPw rfl sz30 rfl (Hbc H 8 rfl)) rfl) ?_
 obtain ⟨⟨F,D⟩,ax,c⟩:=zC c
 refine yB rfl rfl (zY en6 rfl) (Famw o z (Mask.mk h.Tails h.Days h.Hide h.Grains 1) 1 v1 p s t u y _ ax _ _ _ (H.enter [] [0,1,2,3,4,5,6])) ?_
 rintro _ cp ⟨n,rfl,ay⟩
 have H:=H.back1 [0,1,2,3,4,5,6] rfl ay
 refine ⟨_,rfl,?_⟩
 refine zH (.tuple #[n,i6 D])<| zG (xU (v:=n) rfl rfl)<| zG (xU (v:=i6 D) rfl rfl)<| zI n<| zI (i6 D)<| RN aw ?_
 have H:Hd _ _ _ _ [_,_,_,_,_]:=H.pick [0,6,10,11,12]
 refine zB fun cq az=>?_
 obtain ⟨V,c,a0⟩:=zC c
 refine yG [38,39,40,41,42,43,44,45,46,47,48,49,50,51,52,53,54,55,56,57,58] (fun (g:Unit)=>[(58,.bool V)]) (fun g wl=>Hd O w wl S [f1 aB v1 o,.fz (.at 1 0 ((Fl.arr 20 (Fl.int .u64)).f zS)),f1 (Rp.int .i64) k d.Events,.blk I [sb d.Key,.bool d.Hidden,i6 d.Flights,k] 38,f1 fK n F]) ?_ ?_
 ·skip
  refine zA ?_
  refine zH (i6 C) ?_
  obtain ⟨a1,a2,c⟩:=zD c
  refine zG (zO (eX (a:=C) (b:=0) rfl rfl) a2) ?_
  obtain ⟨X,c,a3⟩:=zC c
  refine dO 4 [40,41,42,43] [(43,.bool X)] (fun wl=>Hd O w wl S [f1 aB v1 o,.fz (.at 1 0 ((Fl.arr 20 (Fl.int .u64)).f zS)),f1 (Rp.int .i64) k d.Events,.blk I [sb d.Key,.bool d.Hidden,i6 d.Flights,k] 38,f1 fK n F]) ?_ ?_
  ·skip
   refine yO (b:=a1) rfl rfl rfl (fun J=>?_) (fun J=>?_)
   ·have c:=zN J c
    refine yE ?_
    refine yE ?_
    refine zG (yL (v:= .bool true) rfl rfl) ?_
    obtain rfl:=gG c
    exact zT (zF (meet ⟨(zJ rfl zK),H.pick [0,1,2,3,4]⟩))
   have c:=zM J c
   refine zH (i6 D) ?_
   obtain ⟨a4,a5,c⟩:=zD c
   refine zG (zO (eX (a:=D) (b:=0) rfl rfl) a5)<| zG (yF (v:= .bool a4) rfl rfl) ?_
   obtain rfl:=gG c
   exact zT (zF (meet ⟨(zJ rfl zK),H.pick [0,1,2,3,4]⟩))
  rintro ρ cr H
  have c:=a3
  obtain ⟨Y,c,a6⟩:=zC c
  refine dO 7 [44,45,46,47,48,49,50] [(50,.bool Y)] (fun wl=>Hd O w wl S [f1 aB v1 o,.fz (.at 1 0 ((Fl.arr 20 (Fl.int .u64)).f zS)),f1 (Rp.int .i64) k d.Events,.blk I [sb d.Key,.bool d.Hidden,i6 d.Flights,k] 38,f1 fK n F]) ?_ ?_
  ·skip
   refine yO (b:=X) rfl rfl rfl (fun K=>?_) (fun K=>?_)
   ·have c:=zN K c
    refine yE ?_
    refine yE ?_
    refine yE ?_
    refine yE ?_
    refine yE ?_
    refine zG (yL (v:= .bool true) rfl rfl) ?_
    obtain rfl:=gG c
    exact zT (zF (meet ⟨(zJ rfl zK),H.pick [0,1,2,3,4]⟩))
   have c:=zM K c
   refine zG (jQ rfl)<| Ld fG H 3 2 rfl rfl<| zH v1 ?_
   obtain ⟨a7,a8,c⟩:=zD c
   obtain ⟨ct,cu,a9⟩:=SlF.len ((H.item (i:=0) rfl))
   refine zG (yH (yZ u22 a9) (congrArg (Value.int .i64) a8)) ?_
   obtain ⟨ba,bb,c⟩:=zD c
   refine zG (zO (eX (a:=d.Flights) (b:=a7) rfl rfl) bb)<| zG (yF (v:= .bool ba) rfl rfl) ?_
   obtain rfl:=gG c
   exact zT (zF (meet ⟨(zJ rfl zK),H.pick [0,1,2,3,4]⟩))
  rintro ρ cv H
  have c:=a6
  refine yO (b:=Y) rfl rfl rfl (fun L=>?_) (fun L=>?_)
  ·have c:=zN L c
   refine yE ?_
   refine yE ?_
   refine yE ?_
   refine yE ?_
   refine yE ?_
   refine yE ?_
   refine zG (yL (v:= .bool true) rfl rfl) ?_
   obtain rfl:=gG c
   exact (zT (zF (meet ⟨(),(zJ rfl zK),H.pick [0,1,2,3,4]⟩)))
  have c:=zM L c
  refine zH n ?_
  obtain ⟨bc,bd,c⟩:=zD c
  obtain ⟨cw,cx,be⟩:=SlF.len ((H.item (i:=4) rfl))
  refine zG (yH (yZ u31 be) (congrArg (Value.int .i64) bd))<| zH v1 ?_
  obtain ⟨bf,bg,c⟩:=zD c
  obtain ⟨cy,cz,bh⟩:=SlF.len ((H.item (i:=0) rfl))
  refine zG (yH (yZ u22 bh) (congrArg (Value.int .i64) bg)) ?_
  obtain ⟨bi,bj,c⟩:=zD c
  refine zG (Do_min (j:=1) (q:=bf) rfl rfl bj) ?_
  obtain ⟨bk,bl,c⟩:=zD c
  refine zG (zO (eX (a:=bc) (b:=bi) rfl rfl) bl)<| zG (yF (v:= .bool bk) rfl rfl) ?_
  obtain rfl:=gG c
  exact (zT (zF (meet ⟨(),(zJ rfl zK),H.pick [0,1,2,3,4]⟩)))
 rintro _ ρ c0 H
 have c:=a0
 refine zW (b:=V) rfl (fun M=>?_) (fun M=>?_)
 ·have c:=zN M c
  refine zB fun c1 bm=>zA<| zI (.bool false)<| RN bm ?_
  obtain rfl:=gG c
  refine (zX (zQ (gV (v1:= .bool false) rfl rfl ?_)))
  exact ⟨rfl,H.pick []⟩
 have c:=zM M c
 refine zZ (zF (az _ _ ?_))
 obtain ⟨Z,c,bn⟩:=zC c
 refine yG [8,59,60,61,62,63,64,65,66,67,68,69,70,71,72] (fun (g:Unit)=>[(8,.bool Z)]) (fun g wl=>Hd O w wl S [.fz (.at 1 0 ((Fl.arr 20 (Fl.int .u64)).f zS))]) ?_ ?_
 ·skip
  have N:=H
  have H:=H.rebase
  have c2:=H
  refine wH H [0,1,2,3,4,5,6,7,8,9,10,11,12,13,14] (kz [0,0,0,0,0,1,1,2,1,0,0,0,4,0,0]) mixed ?_
  refine XM v1 ?_
  obtain ⟨bo,bp,c⟩:=zD c
  obtain ⟨c3,c4,bq⟩:=SlF.len ((H.item (i:=0) rfl))
  refine XP (fun _ _=>yH (yZ u22 bq) (congrArg (Value.int .i64) bp)) ?_
  obtain ⟨br,bt,c⟩:=zD c
  refine XP (fun _ _=>zO (yY (a:=bo) (b:=0) rfl rfl) bt)<| MxM.XL_splitb (b:=br) rfl rfl rfl rfl (fun P=>?_) (fun P=>?_)
  ·have c:=zN P c
   refine XO<| MxM.XL_offr oS rfl rfl rfl ?_
   refine MxM.XL_offr oS rfl rfl rfl ?_
   refine MxM.XL_offn oS rfl rfl rfl ?_
   refine MxM.XL_offr oS rfl rfl rfl ?_
   refine XO<| XP (fun _ _=>yL (v:= .bool true) rfl rfl)<| XM (.bool true) ?_
   have bu:=H
   obtain ⟨Q,bv,c⟩:=zC c
   refine MxM.XL_fcall oS rfl rfl rfl (v:= .bool Q) (fun m l=>zY en7 rfl) (fun m l=>dV (Fbew _ bv _ _ _ (Hd.fresh0 m))) ?_
   have H:=bu
   refine XP (fun _ _=>yL (v:= .bool Q) rfl rfl)<| XP (fun _ _=>xB (v:= .bool Q) rfl)<| MxM.xO fun c5 hS=>?_
   have H:=H.sees hS
   have H:=N.rejoin H
   obtain rfl:=gG c
   exact (zF (meet ⟨(),(zJ rfl zK),H.pick [1]⟩))
  have c:=zM P c
  refine XM n ?_
  have bw:=H
  obtain ⟨aa,bx,c⟩:=zC c
  refine MxM.XL_call oS rfl rfl rfl (v:=sb aa) (fun m l=>zY en9 rfl) (fun m l=>dV (Fa2w F 0 n _ bx _ _ _ ((H.sees l).enter [] [4,1]))) ?_
  have H:=bw
  refine MxM.XL_read oS rfl rfl rfl (fun m l=>yH (yI (cs:=[sb d.Key,.bool d.Hidden,i6 d.Flights,k]) uT rfl kE rfl (Blk.cells ((H.sees l).item (i:=3) rfl))) rfl) ?_
  obtain ⟨c6,bz,c⟩:=zD c
  subst bz
  refine MxM.XL_exN oS rfl rfl rfl (fun m l=>qA (jK (r:=fK) (xl:=[d]) (cs:=[sb d.Key,.bool d.Hidden,i6 d.Flights,k]) u31 el38 (by decide) (by decide) rfl (xP (vs:=[.agg [sb d.Key,.bool d.Hidden,i6 d.Flights,k].toArray]) (by decide) rfl rfl ⟨rfl,trivial⟩ rfl) (H.sees l) ⟨[sb d.Key,.bool d.Hidden,i6 d.Flights,k],[],rfl,(rF (x:=d) ((H.sees l).item (i:=2) rfl)),rfl⟩) (aQn (cs:=[sb d.Key,.bool d.Hidden,i6 d.Flights,k]) u31 el38 (by decide) (by decide) (xP (vs:=[.agg [sb d.Key,.bool d.Hidden,i6 d.Flights,k].toArray]) (by decide) rfl rfl ⟨rfl,trivial⟩ rfl))) ?_
  rintro m b0 c7 l H
  have b1:=H
  have H:=H.freeze (i:=5) rfl
  obtain ⟨ab,b2,c⟩:=zC c
  refine MxM.XL_call oS rfl rfl rfl (v:=sb ab) (fun m l=>zY en9 rfl) (fun m l=>dV (Fa2w ([d]:List gK) 0 b0 _ b2 _ _ _ ((H.sees l).enter [] [5,1]))) ?_
  have H:=b1
  obtain ⟨ac,b3,c⟩:=zD c
  refine XP (fun _ _=>zO (dK (s1:=aa) (s2:=ab) rfl rfl) b3)<| XP (fun _ _=>yF (v:= .bool ac) rfl rfl)<| MxM.XL_splitb (b:=ac) rfl rfl rfl rfl (fun R=>?_) (fun R=>?_)
  ·have c:=zN R c
   have b4:=H
   obtain ⟨T,b5,c⟩:=zC c
   refine MxM.XL_fcall oS rfl rfl rfl (v:= .bool T) (fun m l=>zY en7 rfl) (fun m l=>dV (Fbew _ b5 _ _ _ (Hd.fresh0 m))) ?_
   have H:=b4
   refine XP (fun _ _=>yL (v:= .bool T) rfl rfl)<| XP (fun _ _=>xB (v:= .bool T) rfl)<| MxM.xO fun c8 hS=>?_
   have H:=H.sees hS
   have H:=N.rejoin H
   obtain rfl:=gG c
   exact (zF (meet ⟨(),(zJ rfl zK),H.pick [1]⟩))
  have c:=zM R c
  refine MxM.XL_offf oS rfl rfl rfl ?_
  refine XP (fun _ _=>yF (v:= .bool false) rfl rfl)<| XP (fun _ _=>xB (v:= .bool false) rfl)<| MxM.xO fun c9 hS=>?_
  have H:=H.sees hS
  have H:=N.rejoin H
  obtain rfl:=gG c
  exact (zF (meet ⟨(),(zJ rfl zK),H.pick [1]⟩))
 rintro _ ρ da H
 have c:=bn
 obtain rfl:=gG c
 refine (zX (gV (v1:= .bool Z) rfl rfl ?_))
 exact ⟨rfl,H.pick []⟩
end Go.Proofs.YthllgjnlmjpinaaGreatDoor.L
