/- Walks: what each function computes, for every argument; no condition but those that stand in the statements. -/
import Derived.Test.YthllgjnlmjpinaaGreatDoorUV0
import Derived.Test.YthllgjnlmjpinaaGreatDoorUV1
import Derived.Test.YthllgjnlmjpinaaGreatDoorUV3
import Derived.Test.YthllgjnlmjpinaaGreatDoorUV7
namespace Go.Proofs.YthllgjnlmjpinaaGreatDoor.L
open Go.RowKit Go.OB Go.Lf
set_option maxHeartbeats 4000000
set_option maxRecDepth 100000 in
theorem Fa8w (t:List gK)(p:Int)(d:Value)(G:List Nat)(r:(List gK))(c:Fa8 t p=some r)(O S:List Nat)(w:World)(H:Hd O w w S [.tr (Rt.row eY 38 []) [d] G t]):
  Cl 30 [d,i6 p] w fun e I=> ∃u4,e= .returned (.tuple #[])∧Hd O w I S [.tr (Rt.row eY 38 []) [d] u4 r]:=by
 unfold Fa8 at c
 refine CW 58 Tryz.func30 ?_
 refine zB fun K5 Z=>zA<| zI (i6 0)<| zI (i6 (-1))<| RN Z ?_
 obtain ⟨m,c,aa⟩:=zC c
 refine yG [4,5,6,7,8,9,10,11,12,13,14,15,16,17,18,19,20,21,22,23,24,25,26,27,28,29,30,31,32,33,34,35,36,37,38,39,40,41,42] (fun (g:(List Nat))=>[(4,i6 m.1),(5,i6 m.2.1)]) (fun g wl=>Hd O w wl S [.tr (Rt.row eY 38 []) [d] g m.2.2]) ?_ ?_
 ·skip
  refine zB fun bk ab=>zA<| zH d ?_
  obtain ⟨ac,ad,c⟩:=zD c
  obtain ⟨bl,bm,ae⟩:=kP ((H.item (i:=0) rfl))
  refine zG (yH (yZ u31 ae) (congrArg (Value.int .i64) ad))<| zH (i6 0)<| RN ab<| yD ?_
  unfold Feq at c
  obtain ⟨af,J,ag,c⟩:=yQ c
  refine xA [4,5,6,7,10,11,12,13,14,15,16,17,18,19,20,21,22,23,24,25,26,27,28,29,30,31,32,33,34,35,36,37,38,39,40,41,42] (fun (g:Nat×Int×Int×Int×(List gK)×(List Nat))=>[(4,i6 g.2.1),(5,i6 g.2.2.1),(10,i6 g.2.2.2.1)]) (fun g wl=>Hd O w wl S [.tr (Rt.row eY 38 []) [d] g.2.2.2.2.2 g.2.2.2.2.1]∧fV af g.1 (g.2.1,g.2.2.1,g.2.2.2.1,g.2.2.2.2.1)=some m) (fun g=>g.1) (J,0,(-1),0,t,G) (zJ rfl (zJ rfl (zJ rfl zK))) ⟨H.pick [0],c⟩ ?_
  clear H c
  rintro ⟨J,K,u,k,ah,ai⟩ ρ bn ⟨H,c⟩
  obtain ⟨aj,rfl,c⟩:=yT c
  have c:=yV ag c
  refine zB fun bo ak=>zA ?_
  obtain ⟨al,am,c⟩:=zD c
  refine zG (zO (xH (a:=k) (b:=ac) rfl rfl) am)<| RN ak<| zB fun bp an=>zW (b:=al) rfl (fun y=>?_) (fun y=>?_)
  ·have c:=zN y c
   refine zZ (zF (an _ _ ?_))
   obtain ⟨q,c,ao⟩:=zC c
   refine yG [4,5,6,7,12,13,14,15,16,17,18,19,20,21,22,23,24,25,26,27,28,29,30,31,32,33,34,35,36,37,38,39,40,41] (fun (g:(List Nat))=>[(4,i6 q.1),(5,i6 q.2.1)]) (fun g wl=>Hd O w wl S [.tr (Rt.row eY 38 []) [d] g q.2.2]) ?_ ?_
   ·skip
    refine yD ?_
    refine zB fun bq ap=>zA<| zH (i6 k) ?_
    obtain ⟨f,h,c⟩:=zC c
    obtain ⟨br,bt,bu,n⟩:=aC (H.item (i:=0) rfl) h
    refine zG (yS u31 kE n rfl (zU h).1 (zU h).2.1 rfl rfl) ?_
    obtain ⟨bv,bw,bx,H⟩:=H.focusV 0 rfl n h rfl
    obtain ⟨L,bz,rfl,H⟩:=aG H 1 rfl
    have H:Hd _ _ _ _ [_,_]:=H
    refine zG (yH (yI (cs:=[sb f.Key,.bool f.Hidden,i6 f.Flights,L]) uT rfl kE rfl (H.holeW 0 rfl n h rfl wG)) rfl)<| yP rfl rfl (xI vM H) ?_
    rintro _ b0 ⟨b1,rfl,H⟩
    refine zI (i6 k)<| yX rfl (yU (vs:=[sb f.Key,.bool f.Hidden,i6 f.Flights,L]) H 2 rfl kE rfl rfl rfl ⟨rfl,rfl,rfl,(pR (H.item (i:=1) rfl)),trivial⟩ rfl) ?_
    rintro b2 H
    refine RN ap<| yD<| zB fun b3 aq=>zA<| zG (jQ rfl)<| Ld fG H 2 2 rfl rfl<| zH (i6 p) ?_
    obtain ⟨M,ar,c⟩:=zD c
    refine zG (zO (xH (a:=f.Flights) (b:=p) rfl rfl) ar)<| zI (.bool M)<| RN aq<| zW (b:=M) rfl (fun z=>?_) (fun z=>?_)
    ·have c:=zN z c
     refine zB fun b4 au=>zA<| zH (i6 K) ?_
     obtain ⟨av,aw,c⟩:=zD c
     refine zG (xC (a:=K) (b:=1) rfl rfl aw)<| zI (i6 av)<| RN au<| zA<| zH d<| zH (i6 k)<| zG (aDp rfl)<| Ld dX H 2 0 rfl rfl<| zG (xM (cs:=[sb f.Key,.bool true,i6 0,.slice none 0 0]) (aLd _ _))<| zG (yS u31 kE n rfl (zU h).1 (zU h).2.1 rfl rfl)<| yX rfl (jC (vs:=[sb f.Key,.bool true,i6 0,.slice none 0 0]) (off:=0) H 0 rfl n h rfl rfl kE rfl rfl rfl (dH ⟨rfl,rfl,rfl,rfl,trivial⟩) (by show _≤4; decide)) ?_
     rintro b5 H
     have H:Hd _ _ _ _ [_,_,_]:=H
     have H:=jX H (Rt.of (Rp.int .i64)) 3
     obtain ⟨b6,H⟩:=dZ (x:=gK.mk f.Key true 0 []) H 3 rfl
     have H:Hd _ _ _ _ [_,_,_,_]:=H
     obtain ⟨b7,ax,c⟩:=zC c
     obtain ⟨ay,H⟩:=H.unfocus 0 3 rfl rfl (by decide) rfl rfl ax
     have H:Hd _ _ _ _ [_,_,_]:=H
     obtain rfl:=gG c
     exact (zT (yJ (yJ (zF (meet ⟨ay,(zJ rfl (zJ rfl zK)),H.pick [2]⟩)))))
    have c:=zM z c
    obtain ⟨N,c,az⟩:=zC c
    refine yG [28,29,30,31,32,33,34,35,36,37,38,39,40] (fun (g:(List Nat))=>[(28,.bool N)]) (fun g wl=>Hd O w wl S [.tr (Rt.row eY 38 []) [d] g ah]) ?_ ?_
    ·skip
     have P:=H
     have H:=H.rebase
     have b8:=H
     refine wH H [0,1,2,3,4,5,6,7,8,9,10,11,12] (kz [0,0,0,0,1,0,0,0,0,1,0,0,0]) mixed ?_
     refine XM (i6 u) ?_
     obtain ⟨a0,a1,c⟩:=zD c
     refine XP (fun _ _=>zO (xH (a:=u) (b:=0) rfl rfl) a1)<| MxM.XL_splitb (b:=a0) rfl rfl rfl rfl (fun A=>?_) (fun A=>?_)
     ·have c:=zN A c
      refine XO<| MxM.XL_offr oS rfl rfl rfl ?_
      refine XO<| XO<| XO<| XO<| MxM.XL_offr oS rfl rfl rfl ?_
      refine XO<| XP (fun _ _=>yL (v:= .bool true) rfl rfl)<| XP (fun _ _=>xB (v:= .bool true) rfl)<| MxM.xO fun b9 hS=>?_
      have H:=H.sees hS
      have H:=P.rejoin H
      have H:Hd _ _ _ _ [_,_,_]:=H
      obtain ⟨ca,H⟩:=dZ (x:=f) H 1 rfl
      have H:Hd _ _ _ _ [_,_,_]:=H
      obtain ⟨a2,H⟩:=H.unfocus0 0 2 rfl rfl (by decide) rfl rfl h
      have H:Hd _ _ _ _ [_,_]:=H
      obtain rfl:=gG c
      exact (zF (meet ⟨a2,(zJ rfl zK),H.pick [1]⟩))
     have c:=zM A c
     refine XP (fun _ _=>jQ rfl)<| XR fG H 2 2 rfl rfl<| XM d<| XM (i6 u) ?_
     obtain ⟨Q,l,c⟩:=zC c
     obtain ⟨cb,cc,cd,B⟩:=aC (H.item (i:=0) rfl) l
     refine XP (fun _ _=>yS u31 kE B rfl (zU l).1 (zU l).2.1 rfl rfl)<| XP (fun _ _=>jQ rfl) ?_
     have H:Hd _ _ _ _ [_,_,_]:=H
     obtain ⟨ce,H⟩:=dZ (x:=f) H 1 rfl
     have H:Hd _ _ _ _ [_,_,_]:=H
     obtain ⟨cf,H⟩:=H.unfocus0 0 2 rfl rfl (by decide) rfl rfl h
     have H:Hd _ _ _ _ [_,_]:=H
     obtain ⟨cg,ch,ci,H⟩:=H.focusV 1 rfl B l rfl
     obtain ⟨cj,ck,rfl,H⟩:=aG H 2 rfl
     have H:Hd _ _ _ _ [_,_,_]:=H
     refine MxM.XL_read oS rfl rfl rfl (fun I a3=>xG fG rfl (Cells.get ((H.sees a3).holeW 1 rfl B l rfl wG) (i:=2) rfl)) ?_
     obtain ⟨R,a4,c⟩:=zD c
     refine XP (fun _ _=>zO (xH (a:=f.Flights) (b:=Q.Flights) rfl rfl) a4)<| XP (fun _ _=>yF (v:= .bool R) rfl rfl)<| XP (fun _ _=>xB (v:= .bool R) rfl)<| MxM.xO fun cl hS=>?_
     have H:=H.sees hS
     have H:=P.rejoin H
     have H:Hd _ _ _ _ [_,_,_]:=H
     obtain ⟨cm,H⟩:=dZ (x:=Q) H 2 rfl
     have H:Hd _ _ _ _ [_,_,_]:=H
     obtain ⟨a5,H⟩:=H.unfocus0 1 2 rfl rfl (by decide) rfl rfl l
     have H:Hd _ _ _ _ [_,_]:=H
     obtain rfl:=gG c
     exact (zF (meet ⟨a5,(zJ rfl zK),H.pick [1]⟩))
    rintro T ρ cn H
    have c:=az
    refine zW (b:=N) rfl (fun C=>?_) (fun C=>?_)
    ·have c:=zN C c
     refine zA ?_
     refine zH (i6 k)<| zI (i6 k) ?_
     obtain rfl:=gG c
     exact (zT (yJ (yJ (zF (meet ⟨T,(zJ rfl (zJ rfl zK)),H.pick [0]⟩)))))
    have c:=zM C c
    obtain rfl:=gG c
    exact (zZ (yJ (yJ (zF (meet ⟨T,(zJ rfl (zJ rfl zK)),H.pick [0]⟩)))))
   rintro a6 ρ cp H
   have c:=ao
   obtain ⟨a7,a8,a9⟩:=q
   refine zA ?_
   obtain ⟨U,ba,c⟩:=zD c
   refine zG (xC (a:=k) (b:=1) rfl rfl ba)<| zH (i6 U) ?_
   exact (zT (zF (meet ⟨(aj,a7,a8,U,a9,a6),(zJ rfl (zJ rfl (zJ rfl zK))),⟨H.pick [0],c⟩,Nat.lt_succ_self _⟩)))
  have c:=zM y c
  obtain rfl:=gG c
  exact (xE (yK (yK (yR (zF (meet ⟨ai,(zJ rfl (zJ rfl zK)),H.pick [0]⟩))))))
 rintro V ρ cq H
 have c:=aa
 obtain ⟨X,s,bb⟩:=m
 obtain ⟨Y,c,bc⟩:=zC c
 refine yG [43,44,45,46,47,48] (fun (g:Unit)=>[(48,.bool Y)]) (fun g wl=>Hd O w wl S [.tr (Rt.row eY 38 []) [d] V bb]) ?_ ?_
 ·skip
  refine zA ?_
  refine zH (i6 X) ?_
  obtain ⟨bd,be,c⟩:=zD c
  refine zG (zO (yY (a:=X) (b:=1) rfl rfl) be)<| yO (b:=bd) rfl rfl rfl (fun D=>?_) (fun D=>?_)
  ·have c:=zN D c
   refine zH (i6 s) ?_
   obtain ⟨bf,bg,c⟩:=zD c
   refine zG (zO (aN (a:=s) (b:=0) rfl rfl) bg)<| zG (yL (v:= .bool bf) rfl rfl) ?_
   obtain rfl:=gG c
   exact (zT (zF (meet ⟨(),(zJ rfl zK),H.pick [0]⟩)))
  have c:=zM D c
  refine yE ?_
  refine yE ?_
  refine zG (yF (v:= .bool false) rfl rfl) ?_
  obtain rfl:=gG c
  exact (zT (zF (meet ⟨(),(zJ rfl zK),H.pick [0]⟩)))
 rintro _ ρ cr H
 have c:=bc
 refine zW (b:=Y) rfl (fun E=>?_) (fun E=>?_)
 ·have c:=zN E c
  refine zA ?_
  refine zH d<| zH (i6 s)<| zH d<| zH (i6 s) ?_
  obtain ⟨F,j,c⟩:=zC c
  obtain ⟨ct,cu,cv,o⟩:=aC (H.item (i:=0) rfl) j
  refine zG (yS u31 kE o rfl (zU j).1 (zU j).2.1 rfl rfl)<| zG (aDp rfl) ?_
  obtain ⟨cw,cx,cy,H⟩:=H.focusV 0 rfl o j rfl
  obtain ⟨cz,c0,rfl,H⟩:=aG H 1 rfl
  have H:Hd _ _ _ _ [_,_]:=H
  refine zG (xG dX rfl (Cells.get (H.holeW 0 rfl o j rfl wG) (i:=0) rfl))<| zG (xM (cs:=[sb F.Key,.bool true,i6 0,.slice none 0 0]) (aLd _ _))<| zG (yS u31 kE o rfl (zU j).1 (zU j).2.1 rfl rfl)<| yX rfl (jC (vs:=[sb F.Key,.bool true,i6 0,.slice none 0 0]) (off:=0) H 0 rfl o j rfl rfl kE rfl rfl rfl (dH ⟨rfl,rfl,rfl,rfl,trivial⟩) (by show _≤4; decide)) ?_
  rintro c1 H
  have H:Hd _ _ _ _ [_,_]:=H
  have H:=jX H (Rt.of (Rp.int .i64)) 3
  obtain ⟨c2,H⟩:=dZ (x:=gK.mk F.Key true 0 []) H 2 rfl
  have H:Hd _ _ _ _ [_,_,_]:=H
  obtain ⟨c3,bh,c⟩:=zC c
  obtain ⟨bi,H⟩:=H.unfocus 0 2 rfl rfl (by decide) rfl rfl bh
  have H:Hd _ _ _ _ [_,_]:=H
  obtain rfl:=gG c
  refine (zT (mV rfl ?_))
  exact ⟨bi,rfl,H.pick [1]⟩
 have c:=zM E c
 obtain rfl:=gG c
 refine (zZ (mV rfl ?_))
 exact ⟨V,rfl,H.pick [0]⟩
set_option maxRecDepth 100000 in
theorem Famw (B:List Flight)(l:Rules)(h:Mask)(F:Int)(v1:Value)(s:Value)(t:Value)(u:Value)(n:Value)(o:Value)(r:(List gK)×Int)(d:Fam B l h F=some r)(O S:List Nat)(w:World)(H:Hd O w w S [f1 aB v1 B,f1 Rp.str s l.Phases,f1 fP t l.Moves,f1 fZ u l.Rules,f1 Rp.str n h.Hide,f1 dJ o h.Grains,.fz (.at 1 0 ((Fl.arr 20 (Fl.int .u64)).f zS))]):
  Cl 6 [v1,.agg [s,t,u].toArray,.agg [.bool h.Tails,i6 h.Days,n,o,i6 h.Least].toArray,i6 F] w fun e w'=> ∃ax,e= .returned (.tuple #[ax,i6 r.2])∧Hd O w w' S [f1 fK ax r.1]:=by
 unfold Fam at d
 refine CW 113 Tryz.func6 ?_
 refine zB fun fj a9=>zA<| yP rfl rfl (xJ (cs:=[s,t,u]) rfl H) ?_
 rintro _ fk ⟨V,rfl,H⟩
 refine yP rfl rfl (xJ (cs:=[.bool h.Tails,i6 h.Days,n,o,i6 h.Least]) rfl H) ?_
 rintro _ fm ⟨M,rfl,H⟩
 refine zI (.slice none 0 0)<| zI (i6 0)<| RN a9<| zB fun fn ba=>zB fun fo bb=>zA<| zH v1 ?_
 have bc:=H
 obtain ⟨I,bd,d⟩:=zC d
 refine yB rfl rfl (zY en23 rfl) (Fc6w B v1 _ bd _ _ _ (H.enter [] [0])) ?_
 rintro _ fp ⟨rfl,be⟩
 have H:=bc.step (be.only:Only [] _ _)
 refine ⟨_,rfl,?_⟩
 refine zI (i6 I)<| RN bb<| zB fun fq bf=>zA<| zH (i6 I) ?_
 obtain ⟨bg,bh,d⟩:=zD d
 refine zG (zO (eX (a:=I) (b:=0) rfl rfl) bh)<| RN bf<| zW (b:=bg) rfl (fun ad=>?_) (fun ad=>?_)
 ·have d:=zN ad d
  refine zB fun fr bi=>zA<| zH (i6 I)<| zI (.slice none 0 0)<| zI (i6 I)<| RN bi ?_
  have H:=H.fz (.sl fK (.slice none 0 0) []) SlF.nil
  obtain rfl:=gG d
  refine (zX (zQ (mW (v1:= .slice none 0 0) (v2:=i6 I) rfl rfl rfl ?_)))
  exact ⟨.slice none 0 0,rfl,H.pick [9]⟩
 have d:=zM ad d
 refine zZ (zF (ba _ _ ?_))
 refine zB fun fs bj=>?_
 refine zB fun ft bk=>zA<| zG (yH (yI (cs:=[s,t,u]) qM rfl aBj rfl (Hbc H 7 rfl)) rfl) ?_
 have bl:=H
 obtain ⟨J,bm,d⟩:=zC d
 refine yB rfl rfl (zY en24 rfl) (Fa1w l s t u _ bm _ _ _ (H.enter [] [1,2,3])) ?_
 rintro _ fu ⟨rfl,bn⟩
 have H:=bl.step (bn.only:Only [] _ _)
 refine ⟨_,rfl,?_⟩
 refine zI (i6 J)<| RN bk<| zB fun fv bo=>zA<| zH (i6 J) ?_
 obtain ⟨bp,bq,d⟩:=zD d
 refine zG (zO (eX (a:=J) (b:=0) rfl rfl) bq)<| RN bo<| zW (b:=bp) rfl (fun ae=>?_) (fun ae=>?_)
 ·have d:=zN ae d
  refine zB fun fw br=>zA<| zH (i6 J)<| zI (.slice none 0 0)<| zI (i6 J)<| RN br ?_
  have H:=H.fz (.sl fK (.slice none 0 0) []) SlF.nil
  obtain rfl:=gG d
  refine (zX (zQ (mW (v1:= .slice none 0 0) (v2:=i6 J) rfl rfl rfl ?_)))
  exact ⟨.slice none 0 0,rfl,H.pick [9]⟩
 have d:=zM ae d
 refine zZ (zF (bj _ _ ?_))
 refine zB fun fx bt=>?_
 refine zB fun fy bu=>zA<| zG (yH (yI (cs:=[.bool h.Tails,i6 h.Days,n,o,i6 h.Least]) aPw rfl sz30 rfl (Hbc H 8 rfl)) rfl) ?_
 have bv:=H
 obtain ⟨L,bw,d⟩:=zC d
 refine yB rfl rfl (zY en25 rfl) (Fccw h n o _ bw _ _ _ (H.enter [] [4,5])) ?_
 rintro _ f0 ⟨rfl,bx⟩
 have H:=bv.step (bx.only:Only [] _ _)
 refine ⟨_,rfl,?_⟩
 refine zI (i6 L)<| RN bu<| zB fun f4 bz=>zA<| zH (i6 L) ?_
 obtain ⟨b0,b1,d⟩:=zD d
 refine zG (zO (eX (a:=L) (b:=0) rfl rfl) b1)<| RN bz<| zW (b:=b0) rfl (fun af=>?_) (fun af=>?_)
 ·have d:=zN af d
  refine zB fun f5 b2=>zA<| zH (i6 L)<| zI (.slice none 0 0)<| zI (i6 L)<| RN b2 ?_
  have H:=H.fz (.sl fK (.slice none 0 0) []) SlF.nil
  obtain rfl:=gG d
  refine (zX (zQ (mW (v1:= .slice none 0 0) (v2:=i6 L) rfl rfl rfl ?_)))
  exact ⟨.slice none 0 0,rfl,H.pick [9]⟩
 have d:=zM af d
 refine zZ (zF (bt _ _ ?_))
 refine zB fun f6 b3=>?_
 refine zB fun f7 b4=>zA<| zH (i6 F) ?_
 have b5:=H
 obtain ⟨b6,b7,d⟩:=zC d
 refine yB rfl rfl (zY en26 rfl) (Fahw F 1 4 _ b7 _ _ _ (H.enter [] [])) ?_
 rintro _ f8 ⟨rfl,b8⟩
 have H:=b5.step (b8.only:Only [] _ _)
 refine ⟨_,rfl,?_⟩
 obtain ⟨b9,ca,d⟩:=zD d
 refine zG (zO (xX (p:=b6) rfl) ca)<| RN b4<| zW (b:=b9) rfl (fun ag=>?_) (fun ag=>?_)
 ·have d:=zN ag d
  refine zB fun f9 cb=>zA<| zI (.slice none 0 0)<| zI (i6 7)<| RN cb ?_
  have H:=H.fz (.sl fK (.slice none 0 0) []) SlF.nil
  obtain rfl:=gG d
  refine (zX (zQ (mW (v1:= .slice none 0 0) (v2:=i6 7) rfl rfl rfl ?_)))
  exact ⟨.slice none 0 0,rfl,H.pick [9]⟩
 have d:=zM ag d
 refine zZ (zF (b3 _ _ ?_))
 refine zB fun ga cc=>zA<| zI (.slice none 0 0)<| RN cc<| zB fun gb cd=>zA<| yP rfl rfl (aDx H) ?_
 rintro _ gc ⟨C,rfl,H⟩
 refine zI (.map (some C))<| RN cd ?_
 obtain ⟨ah,d,ce⟩:=zC d
 refine yG [13,16,17,18,19,20,21,41,42,43,44,45,46,47,48,49,50,51,52,53,54,55,56,57,58,59,60,61,62,63,64,65,66,67,68,69,70,71,72,73,74,75,76,77,78,79,80,81,82,83,84,85,86,87,88,89,90,91,92,93,94,95,96,97,98,99,100,101,102,103,104] (fun (g:Value×(List Nat))=>[(13,g.1)]) (fun g wl=>Hd O w wl S [.tr (Rt.row eY 38 []) [g.1] g.2 ah,f1 Rp.str n h.Hide,f1 dJ o h.Grains,.fz (.at 1 0 ((Fl.arr 20 (Fl.int .u64)).f zS)),.blk M [.bool h.Tails,i6 h.Days,n,o,i6 h.Least] 30]) ?_ ?_
 ·skip
  refine zB fun gd cf=>zA<| zH v1 ?_
  obtain ⟨cg,ch,d⟩:=zD d
  obtain ⟨ge,gf,ci⟩:=SlF.len ((H.item (i:=0) rfl))
  refine zG (yH (yZ u22 ci) (congrArg (Value.int .i64) ch))<| zH (i6 0)<| RN cf<| yD ?_
  have H:=jX H eY 38
  unfold Fbz at d
  obtain ⟨cj,ay,ck,d⟩:=yQ d
  refine xA [13,16,17,18,19,20,21,43,44,45,46,47,48,49,50,51,52,53,54,55,56,57,58,59,60,61,62,63,64,65,66,67,68,69,70,71,72,73,74,75,76,77,78,79,80,81,82,83,84,85,86,87,88,89,90,91,92,93,94,95,96,97,98,99,100,101,102,103,104] (fun (g:Nat×(List gK)×Int×(List (Str×Int))×Value×(List Nat))=>[(13,g.2.2.2.2.1),(43,i6 g.2.2.1)]) (fun g wl=>Hd O w wl S [.tr (Rt.row eY 38 []) [g.2.2.2.2.1] g.2.2.2.2.2 g.2.1,f1 aB v1 B,f1 Rp.str s l.Phases,f1 fP t l.Moves,f1 fZ u l.Rules,f1 Rp.str n h.Hide,f1 dJ o h.Grains,.fz (.at 1 0 ((Fl.arr 20 (Fl.int .u64)).f zS)),.blk V [s,t,u] 27,.blk M [.bool h.Tails,i6 h.Days,n,o,i6 h.Least] 30,.mp C (fA Ky.str (fun v=>Value.int .i64 v) g.2.2.2.1)]∧fV cj g.1 (g.2.1,g.2.2.1,g.2.2.2.1)=some ah) (fun g=>g.1) (ay,[],0,([]:List (Str×Int)),.slice none 0 0,[]) (zJ rfl (zJ rfl zK)) ⟨H.pick [10,0,1,2,3,4,5,6,7,8,9],d⟩ ?_
  clear H d
  rintro ⟨ay,gg,ai,az,X,a0⟩ ρ gh ⟨H,d⟩
  obtain ⟨cl,rfl,d⟩:=yT d
  have d:=yV ck d
  refine zB fun gi cm=>zA ?_
  obtain ⟨cn,cp,d⟩:=zD d
  refine zG (zO (xH (a:=ai) (b:=cg) rfl rfl) cp)<| RN cm<| zB fun gj cq=>zW (b:=cn) rfl (fun aj=>?_) (fun aj=>?_)
  ·have d:=zN aj d
   refine zZ (zF (cq _ _ ?_))
   obtain ⟨Y,d,cr⟩:=zC d
   refine yG [13,16,17,18,19,20,21,45,46,47,48,49,50,51,52,53,54,55,56,57,58,59,60,61,62,63,64,65,66,67,68,69,70,71,72,73,74,75,76,77,78,79,80,81,82,83,84,85,86,87,88,89,90,91,92,93,94,95,96,97,98,99,100,101,102,103] (fun (g:Value×(List Nat))=>[(13,g.1)]) (fun g wl=>Hd O w wl S [.tr (Rt.row eY 38 []) [g.1] g.2 Y.1,f1 aB v1 B,f1 Rp.str s l.Phases,f1 fP t l.Moves,f1 fZ u l.Rules,f1 Rp.str n h.Hide,f1 dJ o h.Grains,.fz (.at 1 0 ((Fl.arr 20 (Fl.int .u64)).f zS)),.blk V [s,t,u] 27,.blk M [.bool h.Tails,i6 h.Days,n,o,i6 h.Least] 30,.mp C (fA Ky.str (fun v=>Value.int .i64 v) Y.2)]) ?_ ?_
   ·skip
    refine yD ?_
    refine zB fun gl ct=>zA ?_
    obtain ⟨q,ak,d⟩:=zC d
    obtain ⟨cu,cv,gm,gn,cw,cx,cy,cz,c0⟩:=wJ (H.item (i:=1) rfl) ak
    obtain ⟨N,rfl,c1⟩:=wZ cx
    have H:=H.fzs [.at cu (cv+ai.toNat * 6) _,.sl fF N q.Tracks] ⟨⟨cy,cz,c0⟩,c1,trivial⟩
    refine zG (yS u22 tC cw rfl (zU ak).1 (zU ak).2.1 rfl rfl)<| zG (yH (yI (cs:=[sb q.Tail,sb q.Route,i6 q.Day,i6 q.From,i6 q.To,N]) sF rfl tC rfl (H.item (i:=11) rfl).2.2) rfl)<| yP rfl rfl (xI aOp H) ?_
    rintro _ go ⟨c2,rfl,H⟩
    refine yX rfl (yU (vs:=[sb q.Tail,sb q.Route,i6 q.Day,i6 q.From,i6 q.To,N]) H 13 rfl tC rfl rfl rfl ⟨rfl,rfl,rfl,rfl,rfl,(dG (H.item (i:=12) rfl)),trivial⟩ rfl) ?_
    rintro gp H
    refine RN ct ?_
    have H:Hd _ _ _ _ [_,_,_,_,_,_,_,_,_,_,_,_,_]:=H.pick [0,1,2,3,4,5,6,7,8,9,10,12,13]
    refine zB fun gq c3=>zA<| zG (yH (yI (cs:=[sb q.Tail,sb q.Route,i6 q.Day,i6 q.From,i6 q.To,N]) sF rfl tC rfl (Hbc H 12 rfl)) rfl)<| zG (yH (yI (cs:=[.bool h.Tails,i6 h.Days,n,o,i6 h.Least]) aPw rfl sz30 rfl (Hbc H 9 rfl)) rfl) ?_
    obtain ⟨j,c4,d⟩:=zC d
    refine yB rfl rfl (zY en27 rfl) (Fb6w q h N n o _ c4 _ _ _ (H.enter [] [11,5,6])) ?_
    rintro _ gr ⟨D,rfl,c5⟩
    have H:=H.back1 [11,5,6] rfl c5
    refine ⟨_,rfl,?_⟩
    refine yX rfl (yU (vs:=[sb j.Tail,sb j.Route,i6 j.Day,i6 j.From,i6 j.To,D]) H 12 rfl tC rfl rfl rfl ⟨rfl,rfl,rfl,rfl,rfl,(dG (H.item (i:=13) rfl)),trivial⟩ rfl) ?_
    rintro gs H
    refine RN c3<| zB fun gt c6=>zA<| zG (yH (yI (cs:=[sb j.Tail,sb j.Route,i6 j.Day,i6 j.From,i6 j.To,D]) sF rfl tC rfl (Hbc H 12 rfl)) rfl)<| zH (i6 F) ?_
    have c7:=H
    obtain ⟨y,c8,d⟩:=zC d
    refine yB rfl rfl (zY en28 rfl) (Fapw j F D _ c8 _ _ _ (H.enter [] [13,7])) ?_
    rintro _ c9 ⟨rfl,da⟩
    have H:=c7.step (da.only:Only [] _ _)
    refine ⟨_,rfl,?_⟩
    refine zI (sb y)<| RN c6<| zB fun gu db=>zA<| zH (.map (some C))<| zH (sb y) ?_
    obtain ⟨al,dc,d⟩:=zD d
    obtain ⟨P,dd,d⟩:=zD d
    refine zG (aOr (K:=Ky.str) (G:=(fun v=>Value.int .i64 v)) (m:=az) (k:=y) (zv:=0) (H.item (i:=10) rfl) u71 u9 rfl rfl (Tryz.zeroValue3 c9) dc dd)<| zH (.tuple #[i6 al,.bool P])<| zG (xU (v:=i6 al) rfl rfl)<| zG (xU (v:= .bool P) rfl rfl)<| zI (i6 al)<| zI (.bool P)<| RN db ?_
    obtain ⟨Z,d,de⟩:=zC d
    refine yG [13,18,59,60,61,62,63,64,65,66,67,68,69,70,71,72,73,74] (fun (g:Value×(List Nat))=>[(13,g.1),(18,i6 Z.2.1)]) (fun g wl=>Hd O w wl S [.tr (Rt.row eY 38 []) [g.1] g.2 Z.1,f1 aB v1 B,f1 Rp.str s l.Phases,f1 fP t l.Moves,f1 fZ u l.Rules,f1 Rp.str n h.Hide,f1 dJ o h.Grains,.fz (.at 1 0 ((Fl.arr 20 (Fl.int .u64)).f zS)),.blk V [s,t,u] 27,.blk M [.bool h.Tails,i6 h.Days,n,o,i6 h.Least] 30,.mp C (fA Ky.str (fun v=>Value.int .i64 v) Z.2.2),.blk c2 [sb j.Tail,sb j.Route,i6 j.Day,i6 j.From,i6 j.To,D] 47,f1 fF D j.Tracks]) ?_ ?_
    ·skip
     refine zB fun gv df=>zA<| zH (.bool P) ?_
     obtain ⟨dg,dh,d⟩:=zD d
     refine zG (zO (xX (p:=P) rfl) dh)<| RN df<| zW (b:=dg) rfl (fun am=>?_) (fun am=>?_)
     ·have d:=zN am d
      refine zB fun gw di=>zA<| zH X ?_
      obtain ⟨an,dj,d⟩:=zD d
      obtain ⟨gx,gy,dk⟩:=kP ((H.item (i:=0) rfl))
      refine zG (yH (yZ u31 dk) (congrArg (Value.int .i64) dj))<| zI (i6 an)<| RN di<| zB fun gz dl=>zA<| zH (.map (some C))<| zH (sb y)<| zH (i6 an) ?_
      obtain ⟨g0,dm,d⟩:=zD d
      refine yX rfl (aBi (K:=Ky.str) (G:=(fun v=>Value.int .i64 v)) (m:=az) (k:=y) (v:=an) H 10 rfl u71 u9 rfl rfl rfl dm) ?_
      rintro g1 H
      refine RN dl<| zA<| zH X<| zH (sb y)<| zG (qQ rfl)<| Ld wO H 8 2 rfl rfl ?_
      obtain ⟨g2,dn,d⟩:=zD d
      obtain ⟨g3,g4,dp⟩:=SlF.len ((H.item (i:=4) rfl))
      refine zG (yH (yZ u25 dp) (congrArg (Value.int .i64) dn)) ?_
      obtain ⟨dq,dr,d⟩:=zC d
      refine yP rfl rfl (tZ (r:=(Rp.int .i64)) (zv:=i6 0) u36 el3 rfl (fun _ _=>rfl) rfl rfl dr H) ?_
      rintro ao g5 H
      obtain ⟨ds,dt,du⟩: ∃a c,ao= .slice a _ c:=Sr.len (Sr.of_own (H.item (i:=14) rfl))
      refine zG (xM (cs:=[sb y,.bool false,i6 0,ao]) (by rw [du]; exact bt38_0_3 _ ds _ dt)) ?_
      have H:=H.own_row 14 rfl
      obtain ⟨g6,H⟩:=dZ (x:=gK.mk y false 0 dq) H 14 rfl
      have H:Hd _ _ _ _ [_,_,_,_,_,_,_,_,_,_,_,_,_,_,_]:=H
      refine yP rfl rfl (aCv H 14 rfl u31 el38 (by decide) (by decide) (xP (vs:=[.agg [sb y,.bool false,i6 0,ao].toArray]) (by decide) rfl rfl ⟨rfl,trivial⟩ rfl)) ?_
      rintro g7 g8 ⟨g9,H⟩
      have H:Hd _ _ _ _ [_,_,_,_,_,_,_,_,_,_,_,_,_,_,_]:=H
      obtain ⟨ha,dv,d⟩:=zC d
      refine yP rfl rfl (uK H 0 14 rfl rfl (by decide) u31 el38 rfl rfl dv) ?_
      rintro a1 hb ⟨dw,H⟩
      have H:Hd _ _ _ _ [_,_,_,_,_,_,_,_,_,_,_,_,_,_]:=H
      refine zI a1 ?_
      obtain rfl:=gG d
      exact (zT (zF (meet ⟨(a1,dw),(zJ rfl (zJ rfl zK)),H.pick [13,0,1,2,3,4,5,6,7,8,9,11,12]⟩)))
     have d:=zM am d
     obtain rfl:=gG d
     exact (zZ (zF (meet ⟨(X,a0),(zJ rfl (zJ rfl zK)),H.pick [0,1,2,3,4,5,6,7,8,9,10,12,13]⟩)))
    rintro ⟨aa,hc⟩ ρ he H
    have d:=de
    obtain ⟨hf,a2,dx⟩:=Z
    refine zB fun hg dy=>zA<| zH aa<| zH (i6 a2) ?_
    obtain ⟨ab,z,d⟩:=zC d
    obtain ⟨hh,hi,hj,Q⟩:=aC (H.item (i:=0) rfl) z
    refine zG (yS u31 kE Q rfl (zU z).1 (zU z).2.1 rfl rfl)<| zG (jQ rfl) ?_
    obtain ⟨hk,hl,hn,H⟩:=H.focusV 0 rfl Q z rfl
    obtain ⟨ho,hp,rfl,H⟩:=aG H 13 rfl
    have H:Hd _ _ _ _ [_,_,_,_,_,_,_,_,_,_,_,_,_,_]:=H
    refine zG (xG fG rfl (Cells.get (H.holeW 12 rfl Q z rfl wG) (i:=2) rfl)) ?_
    obtain ⟨a3,dz,d⟩:=zD d
    refine zG (xC (a:=ab.Flights) (b:=1) rfl rfl dz)<| zG (yS u31 kE Q rfl (zU z).1 (zU z).2.1 rfl rfl)<| zG (jQ rfl)<| yX rfl (jC (vs:=[i6 a3]) (off:=2) H 12 rfl Q z rfl rfl sz3 rfl rfl rfl (dH ⟨rfl,trivial⟩) (by show _≤4; decide)) ?_
    rintro hq H
    refine RN dy<| zB fun hr d0=>zA<| zG (yH (yI (cs:=[sb j.Tail,sb j.Route,i6 j.Day,i6 j.From,i6 j.To,D]) sF rfl tC rfl (Hbc H 10 rfl)) rfl)<| zG (yH (yI (cs:=[s,t,u]) qM rfl aBj rfl (Hbc H 7 rfl)) rfl) ?_
    obtain ⟨d1,d2,d⟩:=zC d
    refine yB rfl rfl (zY en29 rfl) (Faww j l D s t u _ d2 _ _ _ (H.enter [] [11,1,2,3])) ?_
    rintro _ hs ⟨d3,rfl,d4⟩
    have H:=H.back1 [11,1,2,3] rfl d4
    refine ⟨_,rfl,?_⟩
    obtain ⟨d5,d6,d⟩:=zD d
    obtain ⟨ht,hu,d7⟩:=Sr.len (Sr.of_own (H.item (i:=14) rfl))
    refine zG (yH (yZ u36 d7) (congrArg (Value.int .i64) d6))<| zH (i6 0)<| RN d0<| yD ?_
    have H:Hd _ _ _ _ [_,_,_,_,_,_,_,_,_,_,_,_,_,_,_]:=H
    obtain ⟨hv,H⟩:=dZ (x:=gK.mk ab.Key ab.Hidden a3 ab.Events) H 13 rfl
    have H:Hd _ _ _ _ [_,_,_,_,_,_,_,_,_,_,_,_,_,_,_]:=H
    obtain ⟨d8,d9,d⟩:=zC d
    obtain ⟨ea,H⟩:=H.unfocus 12 14 rfl rfl (by decide) rfl rfl d9
    have H:Hd _ _ _ _ [_,_,_,_,_,_,_,_,_,_,_,_,_,_]:=H
    unfold Fec at d
    obtain ⟨eb,a4,ec,d⟩:=yQ d
    refine xA [20,21,87,88,89,90,91,92,93,94,95,96,97,98,99,100,101,102,103] (fun (g:Nat×Int×(List gK)×(List Nat))=>[(87,i6 g.2.1)]) (fun g wl=>Hd O w wl S [f1 aB v1 B,f1 Rp.str s l.Phases,f1 fP t l.Moves,f1 fZ u l.Rules,f1 Rp.str n h.Hide,f1 dJ o h.Grains,.fz (.at 1 0 ((Fl.arr 20 (Fl.int .u64)).f zS)),.blk V [s,t,u] 27,.blk M [.bool h.Tails,i6 h.Days,n,o,i6 h.Least] 30,.mp C (fA Ky.str (fun v=>Value.int .i64 v) dx),.own (Rp.int .i64) d3 3 d1,.tr (Rt.row eY 38 []) [aa] g.2.2.2 g.2.2.1]∧fV eb g.1 (g.2.1,g.2.2.1)=some Y) (fun g=>g.1) (a4,0,d8,ea) (zJ rfl zK) ⟨H.pick [0,1,2,3,4,5,6,7,8,9,12,13],d⟩ ?_
    clear H d
    rintro ⟨a4,R,hw,ed⟩ ρ hx ⟨H,d⟩
    obtain ⟨ee,rfl,d⟩:=yT d
    have d:=yV ec d
    refine zB fun hy ef=>zA ?_
    obtain ⟨eg,eh,d⟩:=zD d
    refine zG (zO (xH (a:=R) (b:=d5) rfl rfl) eh)<| RN ef<| zB fun hz ei=>zW (b:=eg) rfl (fun ap=>?_) (fun ap=>?_)
    ·have d:=zN ap d
     refine zZ (zF (ei _ _ ?_))
     refine zB fun h0 ej=>?_
     refine yD ?_
     refine zB fun h1 ek=>zA<| zH (i6 R) ?_
     obtain ⟨ac,aq,d⟩:=zC d
     obtain ⟨h2,h3,el,em,en,eo⟩:=bH (H.item (i:=10) rfl) aq
     obtain rfl:el= [i6 ac]:=en
     refine zG (yS u36 sz3 em rfl (zU aq).1 (zU aq).2.1 rfl rfl)<| zG (xG fG rfl (Cells.get eo (i:=0) rfl))<| zI (i6 R)<| zI (i6 ac)<| RN ek<| zA<| zH aa<| zH (i6 a2) ?_
     obtain ⟨ar,T,d⟩:=zC d
     obtain ⟨h4,h5,h6,au⟩:=aC (H.item (i:=11) rfl) T
     refine zG (yS u31 kE au rfl (zU T).1 (zU T).2.1 rfl rfl)<| zG (jO rfl) ?_
     obtain ⟨h7,h8,h9,H⟩:=H.focusV 11 rfl au T rfl
     obtain ⟨ia,ib,rfl,H⟩:=aG H 12 rfl
     have H:Hd _ _ _ _ [_,_,_,_,_,_,_,_,_,_,_,_,_]:=H
     refine zG (xG aF rfl (Cells.get (H.holeW 11 rfl au T rfl wG) (i:=3) rfl))<| zH (i6 R) ?_
     obtain ⟨a5,A,d⟩:=zC d
     obtain ⟨ic,id,ie,U⟩:=aC (H.item (i:=12) rfl) A
     refine zG (yS u36 sz3 U rfl (zU A).1 (zU A).2.1 rfl rfl) ?_
     obtain ⟨ep,ig,ih,H⟩:=H.focusV 12 rfl U A rfl
     obtain ⟨er,es⟩:=trF (H.item (i:=13) rfl)
     subst er
     obtain rfl:ep= [i6 a5]:=es
     have H:Hd _ _ _ _ [_,_,_,_,_,_,_,_,_,_,_,_,_,_]:=H
     refine zG (xG fG rfl (Cells.get (H.holeW 12 rfl U A rfl wG) (i:=0) rfl))<| zH (i6 ac) ?_
     obtain ⟨av,et,d⟩:=zD d
     refine zG (xC (a:=a5) (b:=ac) rfl rfl et)<| zG (yS u36 sz3 U rfl (zU A).1 (zU A).2.1 rfl rfl)<| yX rfl (jC (vs:=[i6 av]) (off:=0) H 12 rfl U A rfl rfl sz3 rfl rfl rfl (dH ⟨rfl,trivial⟩) (by show _≤1; decide)) ?_
     rintro ii H
     refine (zT (yJ (zF (ej _ _ ?_))))
     refine zA ?_
     obtain ⟨a6,eu,d⟩:=zD d
     refine zG (xC (a:=R) (b:=1) rfl rfl eu)<| zH (i6 a6) ?_
     have H:Hd _ _ _ _ [_,_,_,_,_,_,_,_,_,_,_,_,_,_]:=H
     have H:=H.addF (r:=(Rp.int .i64)) (cs:=[i6 av]) (a:=av) rfl
     obtain ⟨ew,ex,d⟩:=zC d
     obtain ⟨ij,H⟩:=H.unfocus 12 14 rfl rfl (by decide) rfl rfl ex
     have H:Hd _ _ _ _ [_,_,_,_,_,_,_,_,_,_,_,_,_,_]:=H
     obtain ⟨ik,H⟩:=dZ (x:=gK.mk ar.Key ar.Hidden ar.Flights ew) H 13 rfl
     have H:Hd _ _ _ _ [_,_,_,_,_,_,_,_,_,_,_,_,_,_]:=H
     obtain ⟨ey,ez,d⟩:=zC d
     obtain ⟨e0,H⟩:=H.unfocus 11 13 rfl rfl (by decide) rfl rfl ez
     have H:Hd _ _ _ _ [_,_,_,_,_,_,_,_,_,_,_,_,_]:=H
     exact (zT (zF (meet ⟨(ee,a6,ey,e0),(zJ rfl zK),⟨H.pick [0,1,2,3,4,5,6,7,8,9,10,12],d⟩,Nat.lt_succ_self _⟩)))
    have d:=zM ap d
    obtain rfl:=gG d
    exact (xE (yK (yK (yR (yJ (zF (meet ⟨(aa,ed),(zJ rfl zK),H.pick [11,0,1,2,3,4,5,6,7,8,9]⟩)))))))
   rintro ⟨e1,e2⟩ ρ il H
   have d:=cr
   obtain ⟨e3,e4⟩:=Y
   refine zA ?_
   obtain ⟨a7,e5,d⟩:=zD d
   refine zG (xC (a:=ai) (b:=1) rfl rfl e5)<| zH (i6 a7) ?_
   exact (zT (zF (meet ⟨(cl,e3,a7,e4,e1,e2),(zJ rfl (zJ rfl zK)),⟨H.pick [0,1,2,3,4,5,6,7,8,9,10],d⟩,Nat.lt_succ_self _⟩)))
  have d:=zM aj d
  obtain rfl:=gG d
  exact (xE (yK (yK (yR (zF (meet ⟨(X,a0),(zJ rfl zK),H.pick [0,5,6,7,9]⟩))))))
 rintro ⟨E,e6⟩ ρ im H
 have d:=ce
 refine zB fun io e7=>?_
 refine zB fun ip e8=>zA<| zH E ?_
 obtain ⟨e9,fa,d⟩:=zD d
 obtain ⟨iq,ir,fb⟩:=kP ((H.item (i:=0) rfl))
 refine zG (yH (yZ u31 fb) (congrArg (Value.int .i64) fa)) ?_
 obtain ⟨fc,fd,d⟩:=zD d
 refine zG (zO (cZ (a:=e9) (b:=300) rfl rfl) fd)<| RN e8<| zW (b:=fc) rfl (fun aw=>?_) (fun aw=>?_)
 ·have d:=zN aw d
  refine zB fun it fe=>zA<| zI (.slice none 0 0)<| zI (i6 3)<| RN fe ?_
  have H:=H.fz (.sl fK (.slice none 0 0) []) SlF.nil
  obtain rfl:=gG d
  refine (zX (zQ (mW (v1:= .slice none 0 0) (v2:=i6 3) rfl rfl rfl ?_)))
  exact ⟨.slice none 0 0,rfl,H.pick [5]⟩
 have d:=zM aw d
 refine zZ (zF (e7 _ _ ?_))
 refine zB fun iu ff=>zA<| zH E<| zG (aNq rfl)<| Ld fG H 4 4 rfl rfl ?_
 obtain ⟨iv,fg,d⟩:=zC d
 refine yB rfl rfl (zY en30 rfl) (Fa8w ah h.Least E e6 _ fg _ _ _ (H.enter [0] [])) ?_
 rintro _ iw ⟨iy,rfl,fh⟩
 have H:Hd _ _ _ _ [_,_,_,_,_]:=H.back [0] [] rfl fh
 refine ⟨_,rfl,?_⟩
 refine RN ff<| zB fun iz fi=>zA<| zH E<| zI E<| zI (i6 0)<| RN fi ?_
 have H:=H.freezeT aLh 4 rfl
 obtain rfl:=gG d
 refine (zX (mW (v1:=E) (v2:=i6 0) rfl rfl rfl ?_))
 exact ⟨E,rfl,H.pick [4]⟩
theorem Fd3w (a:gK)(v1:Value)(r:Bool)(b:Fd3 a=some r)(O S:List Nat)(w:World)(H:Hd O w w S [f1 (Rp.int .i64) v1 a.Events]):
  Cl 61 [.agg [sb a.Key,.bool a.Hidden,i6 a.Flights,v1].toArray] w fun e d=>e= .returned (.bool r)∧Hd O w d S []:=by
 unfold Fd3 at b
 refine CW 6 Tryz.func61 ?_
 refine zB fun j f=>zA<| yP rfl rfl (xJ (cs:=[sb a.Key,.bool a.Hidden,i6 a.Flights,v1]) rfl H) ?_
 rintro _ k ⟨l,rfl,H⟩
 refine zI (.bool false)<| RN f<| zB fun m h=>zA<| zG (aEh rfl)<| Ld jT H 1 1 rfl rfl ?_
 obtain ⟨c,i,b⟩:=zD b
 refine zG (zO (xX (p:=a.Hidden) rfl) i)<| zI (.bool c)<| RN h ?_
 obtain rfl:=gG b
 refine (zX (gV (v1:= .bool c) rfl rfl ?_))
 exact ⟨rfl,H.pick []⟩
theorem Fc9w (h:List gK)(v1:Value)(r:Int)(c:Fc9 h=some r)(O S:List Nat)(w:World)(H:Hd O w w S [f1 fK v1 h]):
  Cl 60 [v1,.func (.func 61) #[] #[]] w fun e p=>e= .returned (i6 r)∧Hd O w p S []:=by
 unfold Fc9 at c
 refine CW 19 Tryz.func60 ?_
 refine zB fun K3 q=>zA<| zI (i6 0)<| RN q ?_
 obtain ⟨s,t,c⟩:=xW c
 refine yG [4,5,6,7,8,9,10,11,12,13,14,15,16,17,18] (fun (g:Unit)=>[]) (fun g wl=>Hd O w wl S []∧s ()=some r) ?_ ?_
 ·skip
  refine zB fun ad u=>zA<| zH v1 ?_
  obtain ⟨v,x,c⟩:=zD c
  obtain ⟨ae,af,y⟩:=SlF.len ((H.item (i:=0) rfl))
  refine zG (yH (yZ u31 y) (congrArg (Value.int .i64) x))<| zH (i6 0)<| RN u<| yD ?_
  unfold Fet at c
  obtain ⟨z,n,A,c⟩:=yQ c
  refine xA [4,5,8,9,10,11,12,13,14,15,16,17,18] (fun (g:Nat×Int)=>[(8,i6 g.2)]) (fun g wl=>Hd O w wl S [f1 fK v1 h]∧fV z g.1 g.2=some r) (fun g=>g.1) (n,0) (zJ rfl zK) ⟨H.pick [0],c⟩ ?_
  clear H c
  rintro ⟨n,d⟩ ρ ag ⟨H,c⟩
  obtain ⟨B,rfl,c⟩:=yT c
  have c:=yV A c
  refine zB fun ah C=>zA ?_
  obtain ⟨D,E,c⟩:=zD c
  refine zG (zO (xH (a:=d) (b:=v) rfl rfl) E)<| RN C<| zB fun ai F=>zW (b:=D) rfl (fun j=>?_) (fun j=>?_)
  ·have c:=zN j c
   refine zZ (zF (F _ _ ?_))
   refine zB fun aj G=>?_
   refine yD ?_
   refine zB fun ak I=>zA<| zH (i6 d)<| zI (i6 d)<| RN I<| zB fun al J=>zA<| zH (.func (.func 61) #[] #[])<| zH v1<| zH (i6 d) ?_
   obtain ⟨f,k,c⟩:=zC c
   obtain ⟨K,L,am,an,M,N,P,Q,R⟩:=wJ (H.item (i:=0) rfl) k
   obtain ⟨l,rfl,T⟩:=bU N
   have H:=H.fzs [.at K (L+d.toNat * 4) _,.sl (Rp.int .i64) l f.Events] ⟨⟨P,Q,R⟩,T,trivial⟩
   refine zG (yS u31 kE M rfl (zU k).1 (zU k).2.1 rfl rfl)<| zG (yH (yI (cs:=[sb f.Key,.bool f.Hidden,i6 f.Flights,l]) uT rfl kE rfl (H.item (i:=1) rfl).2.2) rfl) ?_
   have U:=H
   obtain ⟨V,X,c⟩:=zC c
   refine yB rfl rfl (bP en61 rfl rfl) (Fd3w f l _ X _ _ _ (H.enter [] [2])) ?_
   rintro _ ao ⟨rfl,Y⟩
   have H:=U.step (Y.only:Only [] _ _)
   refine ⟨_,rfl,?_⟩
   refine RN J<| zW (b:=V) rfl (fun m=>?_) (fun m=>?_)
   ·have c:=zN m c
    refine zB fun ap Z=>zA<| zH (i6 d)<| zI (i6 d)<| RN Z ?_
    obtain rfl:=gG c
    refine (zX (yA (zQ (zQ (yA (zQ (gV (v1:=i6 d) rfl rfl ?_)))))))
    exact ⟨rfl,H.pick []⟩
   have c:=zM m c
   refine (zZ (yJ (zF (G _ _ ?_))))
   refine zA ?_
   obtain ⟨o,aa,c⟩:=zD c
   refine zG (xC (a:=d) (b:=1) rfl rfl aa)<| zH (i6 o) ?_
   exact (zT (zF (meet ⟨(B,o),(zJ rfl zK),⟨H.pick [0],c⟩,Nat.lt_succ_self _⟩)))
  have c:=zM j c
  exact (xE (yK (yK (yR (zF (meet ⟨(),zK,⟨H.pick [],c⟩⟩))))))
 rintro _ ρ aq ⟨H,c⟩
 have c:=wE t c
 refine zB fun ar ab=>zA<| zI (i6 (-1))<| RN ab ?_
 obtain rfl:=gG c
 refine (zX (gV (v1:=i6 (-1)) rfl rfl ?_))
 exact ⟨rfl,H.pick []⟩
theorem Fd8w (a:gK)(b:gK)(v1:Value)(d:Nat)(f:Value)(r:Bool)(c:Fd8 a b=some r)(O S:List Nat)(w:World)(H:Hd O w w S [.blk d [sb b.Key,.bool b.Hidden,i6 b.Flights,f] 38,f1 (Rp.int .i64) v1 a.Events,f1 (Rp.int .i64) f b.Events]):
  Cl 64 [.agg [sb a.Key,.bool a.Hidden,i6 a.Flights,v1].toArray,gX d] w fun e i=>e= .returned (.bool r)∧Hd O w i S [.blk d [sb b.Key,.bool b.Hidden,i6 b.Flights,f] 38]:=by
 unfold Fd8 at c
 refine CW 9 Tryz.func64 ?_
 refine zB fun m j=>zA<| yP rfl rfl (xJ (cs:=[sb a.Key,.bool a.Hidden,i6 a.Flights,v1]) rfl H) ?_
 rintro _ n ⟨o,rfl,H⟩
 refine zI (.bool false)<| RN j<| zB fun p k=>zA<| zG (aDp rfl)<| Ld dX H 3 0 rfl rfl<| zG (aDp rfl)<| Ld dX H 0 0 rfl rfl ?_
 obtain ⟨h,l,c⟩:=zD c
 refine zG (zO (dK (s1:=a.Key) (s2:=b.Key) rfl rfl) l)<| zI (.bool h)<| RN k ?_
 obtain rfl:=gG c
 refine (zX (gV (v1:= .bool h) rfl rfl ?_))
 exact ⟨rfl,H.pick [0]⟩
theorem Fb1w (k:List gK)(p1c0:gK)(v1:Value)(h:Nat)(f:Value)(r:Int)(c:Fb1 k p1c0=some r)(O S:List Nat)(w:World)(H:Hd O w w S [.blk h [sb p1c0.Key,.bool p1c0.Hidden,i6 p1c0.Flights,f] 38,f1 fK v1 k,f1 (Rp.int .i64) f p1c0.Events]):
  Cl 60 [v1,.func (.func 64) #[] #[gX h]] w fun e s=>e= .returned (i6 r)∧Hd O w s S [.blk h [sb p1c0.Key,.bool p1c0.Hidden,i6 p1c0.Flights,f] 38]:=by
 unfold Fb1 at c
 refine CW 19 Tryz.func60 ?_
 refine zB fun K7 t=>zA<| zI (i6 0)<| RN t ?_
 obtain ⟨u,v,c⟩:=xW c
 refine yG [4,5,6,7,8,9,10,11,12,13,14,15,16,17,18] (fun (g:Unit)=>[]) (fun g wl=>Hd O w wl S [.blk h [sb p1c0.Key,.bool p1c0.Hidden,i6 p1c0.Flights,f] 38,f1 (Rp.int .i64) f p1c0.Events]∧u ()=some r) ?_ ?_
 ·skip
  refine zB fun ae x=>zA<| zH v1 ?_
  obtain ⟨y,z,c⟩:=zD c
  obtain ⟨af,ag,A⟩:=SlF.len ((H.item (i:=1) rfl))
  refine zG (yH (yZ u31 A) (congrArg (Value.int .i64) z))<| zH (i6 0)<| RN x<| yD ?_
  unfold Few at c
  obtain ⟨B,p,C,c⟩:=yQ c
  refine xA [4,5,8,9,10,11,12,13,14,15,16,17,18] (fun (g:Nat×Int)=>[(8,i6 g.2)]) (fun g wl=>Hd O w wl S [.blk h [sb p1c0.Key,.bool p1c0.Hidden,i6 p1c0.Flights,f] 38,f1 (Rp.int .i64) f p1c0.Events,f1 fK v1 k]∧fV B g.1 g.2=some r) (fun g=>g.1) (p,0) (zJ rfl zK) ⟨H.pick [0,2,1],c⟩ ?_
  clear H c
  rintro ⟨p,d⟩ ρ ah ⟨H,c⟩
  obtain ⟨D,rfl,c⟩:=yT c
  have c:=yV C c
  refine zB fun ai E=>zA ?_
  obtain ⟨F,G,c⟩:=zD c
  refine zG (zO (xH (a:=d) (b:=y) rfl rfl) G)<| RN E<| zB fun aj I=>zW (b:=F) rfl (fun l=>?_) (fun l=>?_)
  ·have c:=zN l c
   refine zZ (zF (I _ _ ?_))
   refine zB fun ak J=>?_
   refine yD ?_
   refine zB fun al K=>zA<| zH (i6 d)<| zI (i6 d)<| RN K<| zB fun am L=>zA<| zH (.func (.func 64) #[] #[gX h])<| zH v1<| zH (i6 d) ?_
   obtain ⟨j,m,c⟩:=zC c
   obtain ⟨M,N,an,ao,P,Q,R,T,U⟩:=wJ (H.item (i:=2) rfl) m
   obtain ⟨n,rfl,V⟩:=bU Q
   have H:=H.fzs [.at M (N+d.toNat * 4) _,.sl (Rp.int .i64) n j.Events] ⟨⟨R,T,U⟩,V,trivial⟩
   refine zG (yS u31 kE P rfl (zU m).1 (zU m).2.1 rfl rfl)<| zG (yH (yI (cs:=[sb j.Key,.bool j.Hidden,i6 j.Flights,n]) uT rfl kE rfl (H.item (i:=3) rfl).2.2) rfl) ?_
   obtain ⟨X,Y,c⟩:=zC c
   refine yB rfl rfl (bP en64 rfl rfl) (Fd8w j p1c0 n h f _ Y _ _ _ (H.enter [0] [4,1])) ?_
   rintro _ ap ⟨rfl,Z⟩
   have H:Hd _ _ _ _ [_,_,_,_,_]:=H.back [0] [4,1] rfl Z
   refine ⟨_,rfl,?_⟩
   refine RN L<| zW (b:=X) rfl (fun o=>?_) (fun o=>?_)
   ·have c:=zN o c
    refine zB fun aq aa=>zA<| zH (i6 d)<| zI (i6 d)<| RN aa ?_
    obtain rfl:=gG c
    refine (zX (yA (zQ (zQ (yA (zQ (gV (v1:=i6 d) rfl rfl ?_)))))))
    exact ⟨rfl,H.pick [4]⟩
   have c:=zM o c
   refine (zZ (yJ (zF (J _ _ ?_))))
   refine zA ?_
   obtain ⟨q,ab,c⟩:=zD c
   refine zG (xC (a:=d) (b:=1) rfl rfl ab)<| zH (i6 q) ?_
   exact (zT (zF (meet ⟨(D,q),(zJ rfl zK),⟨H.pick [4,0,1],c⟩,Nat.lt_succ_self _⟩)))
  have c:=zM l c
  exact (xE (yK (yK (yR (zF (meet ⟨(),zK,⟨H.pick [0,1],c⟩⟩))))))
 rintro _ ρ ar ⟨H,c⟩
 have c:=wE v c
 refine zB fun au ac=>zA<| zI (i6 (-1))<| RN ac ?_
 obtain rfl:=gG c
 refine (zX (gV (v1:=i6 (-1)) rfl rfl ?_))
 exact ⟨rfl,H.pick [0]⟩
theorem Fbyw (h:List gK)(p1c0:gK)(v1:Value)(d:Nat)(f:Value)(r:Bool)(c:Fby h p1c0=some r)(O S:List Nat)(w:World)(H:Hd O w w S [.blk d [sb p1c0.Key,.bool p1c0.Hidden,i6 p1c0.Flights,f] 38,f1 fK v1 h,f1 (Rp.int .i64) f p1c0.Events]):
  Cl 63 [v1,.func (.func 64) #[] #[gX d]] w fun e j=>e= .returned (.bool r)∧Hd O w j S [.blk d [sb p1c0.Key,.bool p1c0.Hidden,i6 p1c0.Flights,f] 38]:=by
 unfold Fby at c
 refine CW 9 Tryz.func63 ?_
 refine zB fun q k=>zA<| zI (.bool false)<| RN k<| zB fun s l=>zA<| zH v1<| zH (.func (.func 64) #[] #[gX d]) ?_
 obtain ⟨m,n,c⟩:=zC c
 refine yB rfl rfl (zY en60 rfl) (Fb1w h p1c0 v1 d f _ n _ _ _ (H.enter [0] [1,2])) ?_
 rintro _ t ⟨rfl,o⟩
 have H:Hd _ _ _ _ [_,_,_]:=H.back [0] [1,2] rfl o
 refine ⟨_,rfl,?_⟩
 obtain ⟨i,p,c⟩:=zD c
 refine zG (zO (aN (a:=m) (b:=0) rfl rfl) p)<| zI (.bool i)<| RN l ?_
 obtain rfl:=gG c
 refine (zX (gV (v1:= .bool i) rfl rfl ?_))
 exact ⟨rfl,H.pick [2]⟩
theorem Fbhw (b:Int)(r:Bool)(a:Fbh b=some r)(O S:List Nat)(w:World)(H:Hd O w w S []):
  Cl 62 [i6 b] w fun e d=>e= .returned (.bool r)∧Hd O w d S []:=by
 unfold Fbh at a
 refine CW 6 Tryz.func62 ?_
 refine zB fun n f=>zA<| zI (.bool false)<| RN f<| zB fun o h=>zA<| zH (i6 b) ?_
 have i:=H
 obtain ⟨j,k,a⟩:=zC a
 refine yB rfl rfl (zY en26 rfl) (Fahw b 0 1000000000 _ k _ _ _ (H.enter [] [])) ?_
 rintro _ q ⟨rfl,l⟩
 have H:=i.step (l.only:Only [] _ _)
 refine ⟨_,rfl,?_⟩
 obtain ⟨c,m,a⟩:=zD a
 refine zG (zO (xX (p:=j) rfl) m)<| zI (.bool c)<| RN h ?_
 obtain rfl:=gG a
 refine (zX (gV (v1:= .bool c) rfl rfl ?_))
 exact ⟨rfl,H.pick []⟩
theorem Fbww (f:List Int)(v1:Value)(r:Int)(c:Fbw f=some r)(O S:List Nat)(w:World)(H:Hd O w w S [f1 (Rp.int .i64) v1 f]):
  Cl 100 [v1,.func (.func 62) #[] #[]] w fun e o=>e= .returned (i6 r)∧Hd O w o S []:=by
 unfold Fbw at c
 refine CW 19 Tryz.func100 ?_
 refine zB fun K3 p=>zA<| zI (i6 0)<| RN p ?_
 obtain ⟨q,s,c⟩:=xW c
 refine yG [4,5,6,7,8,9,10,11,12,13,14,15,16,17,18] (fun (g:Unit)=>[]) (fun g wl=>Hd O w wl S []∧q ()=some r) ?_ ?_
 ·skip
  refine zB fun ac t=>zA<| zH v1 ?_
  obtain ⟨u,v,c⟩:=zD c
  obtain ⟨ad,ae,x⟩:=SlF.len ((H.item (i:=0) rfl))
  refine zG (yH (yZ u36 x) (congrArg (Value.int .i64) v))<| zH (i6 0)<| RN t<| yD ?_
  unfold Ffp at c
  obtain ⟨y,l,z,c⟩:=yQ c
  refine xA [4,5,8,9,10,11,12,13,14,15,16,17,18] (fun (g:Nat×Int)=>[(8,i6 g.2)]) (fun g wl=>Hd O w wl S [f1 (Rp.int .i64) v1 f]∧fV y g.1 g.2=some r) (fun g=>g.1) (l,0) (zJ rfl zK) ⟨H.pick [0],c⟩ ?_
  clear H c
  rintro ⟨l,d⟩ ρ af ⟨H,c⟩
  obtain ⟨A,rfl,c⟩:=yT c
  have c:=yV z c
  refine zB fun ag B=>zA ?_
  obtain ⟨C,D,c⟩:=zD c
  refine zG (zO (xH (a:=d) (b:=u) rfl rfl) D)<| RN B<| zB fun ah E=>zW (b:=C) rfl (fun h=>?_) (fun h=>?_)
  ·have c:=zN h c
   refine zZ (zF (E _ _ ?_))
   refine zB fun ai F=>?_
   refine yD ?_
   refine zB fun aj G=>zA<| zH (i6 d)<| zI (i6 d)<| RN G<| zB fun ak I=>zA<| zH (.func (.func 62) #[] #[])<| zH v1<| zH (i6 d) ?_
   obtain ⟨m,j,c⟩:=zC c
   obtain ⟨J,K,al,L,M,N,P,Q,R⟩:=wJ (H.item (i:=0) rfl) j
   obtain rfl:L= [i6 m]:=N
   have H:=H.fz (.at J (K+d.toNat * 1) _) ⟨P,Q,R⟩
   refine zG (yS u36 sz3 M rfl (zU j).1 (zU j).2.1 rfl rfl)<| zG (xG fG rfl (Cells.get (H.item (i:=1) rfl).2.2 (i:=0) rfl)) ?_
   have T:=H
   obtain ⟨U,V,c⟩:=zC c
   refine yB rfl rfl (bP en62 rfl rfl) (Fbhw m _ V _ _ _ (H.enter [] [])) ?_
   rintro _ am ⟨rfl,X⟩
   have H:=T.step (X.only:Only [] _ _)
   refine ⟨_,rfl,?_⟩
   refine RN I<| zW (b:=U) rfl (fun k=>?_) (fun k=>?_)
   ·have c:=zN k c
    refine zB fun an Y=>zA<| zH (i6 d)<| zI (i6 d)<| RN Y ?_
    obtain rfl:=gG c
    refine (zX (yA (zQ (zQ (yA (zQ (gV (v1:=i6 d) rfl rfl ?_)))))))
    exact ⟨rfl,H.pick []⟩
   have c:=zM k c
   refine (zZ (yJ (zF (F _ _ ?_))))
   refine zA ?_
   obtain ⟨n,Z,c⟩:=zD c
   refine zG (xC (a:=d) (b:=1) rfl rfl Z)<| zH (i6 n) ?_
   exact (zT (zF (meet ⟨(A,n),(zJ rfl zK),⟨H.pick [0],c⟩,Nat.lt_succ_self _⟩)))
  have c:=zM h c
  exact (xE (yK (yK (yR (zF (meet ⟨(),zK,⟨H.pick [],c⟩⟩))))))
 rintro _ ρ ao ⟨H,c⟩
 have c:=wE s c
 refine zB fun ap aa=>zA<| zI (i6 (-1))<| RN aa ?_
 obtain rfl:=gG c
 refine (zX (gV (v1:=i6 (-1)) rfl rfl ?_))
 exact ⟨rfl,H.pick []⟩
theorem Fbvw (d:List Int)(v1:Value)(r:Bool)(c:Fbv d=some r)(O S:List Nat)(w:World)(H:Hd O w w S [f1 (Rp.int .i64) v1 d]):
  Cl 65 [v1,.func (.func 62) #[] #[]] w fun e h=>e= .returned (.bool r)∧Hd O w h S []:=by
 unfold Fbv at c
 refine CW 9 Tryz.func65 ?_
 refine zB fun p i=>zA<| zI (.bool false)<| RN i<| zB fun q j=>zA<| zH v1<| zH (.func (.func 62) #[] #[]) ?_
 have k:=H
 obtain ⟨l,m,c⟩:=zC c
 refine yB rfl rfl (zY en100 rfl) (Fbww d v1 _ m _ _ _ (H.enter [] [0])) ?_
 rintro _ s ⟨rfl,n⟩
 have H:=k.step (n.only:Only [] _ _)
 refine ⟨_,rfl,?_⟩
 obtain ⟨f,o,c⟩:=zD c
 refine zG (zO (aN (a:=l) (b:=0) rfl rfl) o)<| zI (.bool f)<| RN j ?_
 obtain rfl:=gG c
 refine (zX (gV (v1:= .bool f) rfl rfl ?_))
 exact ⟨rfl,H.pick []⟩
set_option maxRecDepth 100000 in
theorem Fb7w (h:List gK)(v1:Value)(r:Int)(c:Fb7 h=some r)(O S:List Nat)(w:World)(H:Hd O w w S [f1 fK v1 h]):
  Cl 31 [v1] w fun e D=>e= .returned (i6 r)∧Hd O w D S []:=by
 unfold Fb7 at c
 refine CW 67 Tryz.func31 ?_
 refine zB fun K3 R=>zA<| zI (i6 0)<| RN R<| zB fun ck T=>zB fun cl U=>zA<| zH v1 ?_
 obtain ⟨V,X,c⟩:=zD c
 obtain ⟨cm,cn,Y⟩:=SlF.len ((H.item (i:=0) rfl))
 refine zG (yH (yZ u31 Y) (congrArg (Value.int .i64) X)) ?_
 obtain ⟨Z,aa,c⟩:=zD c
 refine zG (zO (cZ (a:=V) (b:=300) rfl rfl) aa)<| RN U<| zW (b:=Z) rfl (fun k=>?_) (fun k=>?_)
 ·have c:=zN k c
  refine zB fun cp ab=>zA<| zI (i6 3)<| RN ab ?_
  obtain rfl:=gG c
  refine (zX (zQ (gV (v1:=i6 3) rfl rfl ?_)))
  exact ⟨rfl,H.pick []⟩
 have c:=zM k c
 refine zZ (zF (T _ _ ?_))
 refine zB fun cq ac=>zA<| zH v1 ?_
 have ad:=H
 obtain ⟨l,ae,c⟩:=zC c
 refine yB rfl rfl (zY en60 rfl) (Fc9w h v1 _ ae _ _ _ (H.enter [] [0])) ?_
 rintro _ cr ⟨rfl,af⟩
 have H:=ad.step (af.only:Only [] _ _)
 refine ⟨_,rfl,?_⟩
 refine zI (i6 l)<| RN ac<| zB fun ct ag=>zA<| zI (.func (.func 62) #[] #[])<| RN ag ?_
 obtain ⟨ah,ai,c⟩:=xW c
 refine yG [2,5,6,12,13,14,15,16,17,18,19,20,21,22,23,24,25,26,27,28,29,30,31,32,33,34,35,36,37,38,39,40,41,42,43,44,45,46,47,48,49,50,51,52,53,54,55,56,57,58,59,60,61,62,63,64,65,66] (fun (g:Unit)=>[]) (fun g wl=>Hd O w wl S []∧ah ()=some r) ?_ ?_
 ·skip
  refine zB fun cu aj=>zA<| zH v1 ?_
  obtain ⟨ak,al,c⟩:=zD c
  obtain ⟨cv,cw,am⟩:=SlF.len ((H.item (i:=0) rfl))
  refine zG (yH (yZ u31 am) (congrArg (Value.int .i64) al))<| zH (i6 0)<| RN aj<| yD ?_
  unfold Feu at c
  obtain ⟨an,E,ao,c⟩:=yQ c
  refine xA [2,5,6,14,15,16,17,18,19,20,21,22,23,24,25,26,27,28,29,30,31,32,33,34,35,36,37,38,39,40,41,42,43,44,45,46,47,48,49,50,51,52,53,54,55,56,57,58,59,60,61,62,63,64,65,66] (fun (g:Nat×Int)=>[(14,i6 g.2)]) (fun g wl=>Hd O w wl S [f1 fK v1 h]∧fV an g.1 g.2=some r) (fun g=>g.1) (E,0) (zJ rfl zK) ⟨H.pick [0],c⟩ ?_
  clear H c
  rintro ⟨E,j⟩ ρ cx ⟨H,c⟩
  obtain ⟨ap,rfl,c⟩:=yT c
  have c:=yV ao c
  refine zB fun cy aq=>zA ?_
  obtain ⟨ar,au,c⟩:=zD c
  refine zG (zO (xH (a:=j) (b:=ak) rfl rfl) au)<| RN aq<| zB fun cz av=>zW (b:=ar) rfl (fun m=>?_) (fun m=>?_)
  ·have c:=zN m c
   refine zZ (zF (av _ _ ?_))
   refine zB fun c0 aw=>?_
   refine yD ?_
   refine zB fun c1 ax=>zA<| zH (i6 j) ?_
   obtain ⟨d,n,c⟩:=zC c
   obtain ⟨ay,az,c2,c3,a0,a1,a2,a3,a4⟩:=wJ (H.item (i:=0) rfl) n
   obtain ⟨f,rfl,a5⟩:=bU a1
   have H:=H.fzs [.at ay (az+j.toNat * 4) _,.sl (Rp.int .i64) f d.Events] ⟨⟨a2,a3,a4⟩,a5,trivial⟩
   refine zG (yS u31 kE a0 rfl (zU n).1 (zU n).2.1 rfl rfl)<| zG (yH (yI (cs:=[sb d.Key,.bool d.Hidden,i6 d.Flights,f]) uT rfl kE rfl (H.item (i:=1) rfl).2.2) rfl)<| yP rfl rfl (xI vM H) ?_
   rintro _ c4 ⟨o,rfl,H⟩
   refine zI (i6 j)<| yX rfl (yU (vs:=[sb d.Key,.bool d.Hidden,i6 d.Flights,f]) H 3 rfl kE rfl rfl rfl ⟨rfl,rfl,rfl,(dG (H.item (i:=2) rfl)),trivial⟩ rfl) ?_
   rintro c5 H
   refine RN ax<| yD<| zB fun c6 a6=>zA<| zH v1<| zH (i6 j) ?_
   obtain ⟨F,a7,c⟩:=zC c
   refine sZ rfl rfl (jS u31 kE (H.item (i:=0) rfl) rfl rfl a7) ?_
   rintro G a8
   have H:=H.fz (.sl fK G F) a8
   refine zG (bZ rfl) ?_
   obtain ⟨I,a9,c⟩:=zC c
   refine yB rfl rfl (zY en63 rfl) (Fbyw F d G o f _ a9 _ _ _ (H.enter [3] [4,2])) ?_
   rintro _ c7 ⟨rfl,ba⟩
   have H:Hd _ _ _ _ [_,_,_,_,_]:=H.back [3] [4,2] rfl ba
   refine ⟨_,rfl,?_⟩
   refine zI (.bool I)<| RN a6<| zW (b:=I) rfl (fun q=>?_) (fun q=>?_)
   ·have c:=zN q c
    refine zB fun c8 bb=>zA<| zI (i6 5)<| RN bb ?_
    obtain rfl:=gG c
    refine (zX (yA (yA (zQ (zQ (yA (zQ (gV (v1:=i6 5) rfl rfl ?_))))))))
    exact ⟨rfl,H.pick []⟩
   have c:=zM q c
   obtain ⟨J,c,bc⟩:=zC c
   refine yG [25,26,27,28,29,30,31,32,33,34,35,36,37,38] (fun (g:Unit)=>[(25,.bool J)]) (fun g wl=>Hd O w wl S [f1 fK v1 h,f1 (Rp.int .i64) f d.Events,.blk o [sb d.Key,.bool d.Hidden,i6 d.Flights,f] 38]) ?_ ?_
   ·skip
    refine zA ?_
    refine zG (aEh rfl)<| Ld jT H 4 1 rfl rfl<| yO (b:=d.Hidden) rfl rfl rfl (fun s=>?_) (fun s=>?_)
    ·have c:=zN s c
     refine zG (jQ rfl)<| Ld fG H 4 2 rfl rfl ?_
     obtain ⟨bd,be,c⟩:=zD c
     refine zG (zO (eX (a:=d.Flights) (b:=0) rfl rfl) be)<| yO (b:=bd) rfl rfl rfl (fun t=>?_) (fun t=>?_)
     ·have c:=zN t c
      refine yE ?_
      refine yE ?_
      refine yE ?_
      refine yE ?_
      refine zG (yL (v:= .bool true) rfl rfl)<| zG (yL (v:= .bool true) rfl rfl)<| zI (.bool true) ?_
      obtain rfl:=gG c
      exact (zT (zF (meet ⟨(),(zJ rfl zK),H.pick [0,2,4]⟩)))
     have c:=zM t c
     refine zG (jO rfl)<| Ld aF H 4 3 rfl rfl ?_
     obtain ⟨bf,bg,c⟩:=zD c
     obtain ⟨c9,da,bh⟩:=SlF.len ((H.item (i:=2) rfl))
     refine zG (yH (yZ u36 bh) (congrArg (Value.int .i64) bg)) ?_
     obtain ⟨u,bi,c⟩:=zD c
     refine zG (zO (cZ (a:=bf) (b:=0) rfl rfl) bi)<| zG (yF (v:= .bool u) rfl rfl)<| zG (yL (v:= .bool u) rfl rfl)<| zI (.bool u) ?_
     obtain rfl:=gG c
     exact (zT (zF (meet ⟨(),(zJ rfl zK),H.pick [0,2,4]⟩)))
    have c:=zM s c
    refine yE ?_
    refine yE ?_
    refine yE ?_
    refine yE ?_
    refine yE ?_
    refine yE ?_
    refine yE ?_
    refine yE ?_
    refine yE ?_
    refine zG (yF (v:= .bool false) rfl rfl)<| zI (.bool false) ?_
    obtain rfl:=gG c
    exact (zT (zF (meet ⟨(),(zJ rfl zK),H.pick [0,2,4]⟩)))
   rintro _ ρ db H
   have c:=bc
   refine zW (b:=J) rfl (fun x=>?_) (fun x=>?_)
   ·have c:=zN x c
    refine zB fun dc bj=>zA<| zI (i6 2)<| RN bj ?_
    obtain rfl:=gG c
    refine (zX (yA (yA (zQ (zQ (yA (zQ (gV (v1:=i6 2) rfl rfl ?_))))))))
    exact ⟨rfl,H.pick []⟩
   have c:=zM x c
   obtain ⟨K,c,bk⟩:=zC c
   refine yG [39,40,41,42,43,44,45,46,47,48,49] (fun (g:Unit)=>[(39,.bool K)]) (fun g wl=>Hd O w wl S [f1 fK v1 h,f1 (Rp.int .i64) f d.Events,.blk o [sb d.Key,.bool d.Hidden,i6 d.Flights,f] 38]) ?_ ?_
   ·skip
    refine zA ?_
    refine zH (.func (.func 62) #[] #[])<| zG (jQ rfl)<| Ld fG H 2 2 rfl rfl ?_
    have bl:=H
    obtain ⟨bm,bn,c⟩:=zC c
    refine yB rfl rfl (bP en62 rfl rfl) (Fbhw d.Flights _ bn _ _ _ (H.enter [] [])) ?_
    rintro _ dd ⟨rfl,bo⟩
    have H:=bl.step (bo.only:Only [] _ _)
    refine ⟨_,rfl,?_⟩
    refine yO (b:=bm) rfl rfl rfl (fun y=>?_) (fun y=>?_)
    ·have c:=zN y c
     refine yE ?_
     refine yE ?_
     refine yE ?_
     refine yE ?_
     refine zG (yL (v:= .bool true) rfl rfl)<| zI (.bool true) ?_
     obtain rfl:=gG c
     exact (zT (zF (meet ⟨(),(zJ rfl zK),H.pick [0,1,2]⟩)))
    have c:=zM y c
    refine zG (jO rfl)<| Ld aF H 2 3 rfl rfl<| zH (.func (.func 62) #[] #[]) ?_
    have bp:=H
    obtain ⟨L,bq,c⟩:=zC c
    refine yB rfl rfl (zY en65 rfl) (Fbvw d.Events f _ bq _ _ _ (H.enter [] [1])) ?_
    rintro _ de ⟨rfl,br⟩
    have H:=bp.step (br.only:Only [] _ _)
    refine ⟨_,rfl,?_⟩
    refine zG (yF (v:= .bool L) rfl rfl)<| zI (.bool L) ?_
    obtain rfl:=gG c
    exact (zT (zF (meet ⟨(),(zJ rfl zK),H.pick [0,1,2]⟩)))
   rintro _ ρ df H
   have c:=bk
   refine zW (b:=K) rfl (fun z=>?_) (fun z=>?_)
   ·have c:=zN z c
    refine zB fun dg bt=>zA<| zI (i6 9)<| RN bt ?_
    obtain rfl:=gG c
    refine (zX (yA (yA (zQ (zQ (yA (zQ (gV (v1:=i6 9) rfl rfl ?_))))))))
    exact ⟨rfl,H.pick []⟩
   have c:=zM z c
   obtain ⟨M,c,bu⟩:=zC c
   refine yG [50,51,52,53,54,55,56,57,58,59,60,61,62,63,64,65] (fun (g:Unit)=>[(50,.bool M)]) (fun g wl=>Hd O w wl S [f1 fK v1 h]) ?_ ?_
   ·skip
    have N:=H
    have H:=H.rebase
    have dh:=H
    refine wH H [0,1,2,3,4,5,6,7,8,9,10,11,12,13,14,15] (kz [0,1,0,0,0,1,0,0,0,0,0,1,0,0,0,0]) mixed ?_
    refine XP (fun _ _=>aEh rfl)<| XR jT H 2 1 rfl rfl ?_
    obtain ⟨bv,bw,c⟩:=zD c
    refine XP (fun _ _=>zO (xX (p:=d.Hidden) rfl) bw)<| MxM.XL_splitb (b:=bv) rfl rfl rfl rfl (fun A=>?_) (fun A=>?_)
    ·have c:=zN A c
     refine XP (fun _ _=>jO rfl)<| XR aF H 2 3 rfl rfl ?_
     obtain ⟨bx,bz,c⟩:=zD c
     obtain ⟨di,dj,b0⟩:=SlF.len ((H.item (i:=1) rfl))
     refine XP (fun _ _=>yH (yZ u36 b0) (congrArg (Value.int .i64) bz))<| XM v1<| XM (i6 l) ?_
     obtain ⟨b1,B,c⟩:=zC c
     obtain ⟨b2,b3,dk,dl,b4,b5,b6,b7,b8⟩:=wJ (H.item (i:=0) rfl) B
     obtain ⟨b9,rfl,ca⟩:=bU b5
     have H:=H.fzs [.at b2 (b3+l.toNat * 4) _,.sl (Rp.int .i64) b9 b1.Events] ⟨⟨b6,b7,b8⟩,ca,trivial⟩
     refine XP (fun _ _=>yS u31 kE b4 rfl (zU B).1 (zU B).2.1 rfl rfl)<| XP (fun _ _=>jO rfl)<| MxM.XL_read oS rfl rfl rfl (fun D cb=>xG aF rfl (Cells.get ((H.sees cb).item (i:=3) rfl).2.2 (i:=3) rfl)) ?_
     obtain ⟨cc,cd,c⟩:=zD c
     obtain ⟨dm,dn,ce⟩:=SlF.len ((H.item (i:=4) rfl))
     refine XP (fun _ _=>yH (yZ u36 ce) (congrArg (Value.int .i64) cd)) ?_
     obtain ⟨P,cf,c⟩:=zD c
     refine XP (fun _ _=>zO (eX (a:=bx) (b:=cc) rfl rfl) cf)<| XP (fun _ _=>yL (v:= .bool P) rfl rfl)<| XP (fun _ _=>xB (v:= .bool P) rfl)<| MxM.xO fun dp hS=>?_
     have H:=H.sees hS
     have H:=N.rejoin H
     obtain rfl:=gG c
     exact (zF (meet ⟨(),(zJ rfl zK),H.pick [0]⟩))
    have c:=zM A c
    refine XO<| MxM.XL_offr oS rfl rfl rfl ?_
    refine XO<| XO<| XO<| XO<| XO<| MxM.XL_offr oS rfl rfl rfl ?_
    refine XO<| XO<| XP (fun _ _=>yF (v:= .bool false) rfl rfl)<| XP (fun _ _=>xB (v:= .bool false) rfl)<| MxM.xO fun dq hS=>?_
    have H:=H.sees hS
    have H:=N.rejoin H
    obtain rfl:=gG c
    exact (zF (meet ⟨(),(zJ rfl zK),H.pick [0]⟩))
   rintro _ ρ dr H
   have c:=bu
   refine zW (b:=M) rfl (fun C=>?_) (fun C=>?_)
   ·have c:=zN C c
    refine zB fun ds cg=>zA<| zI (i6 2)<| RN cg ?_
    obtain rfl:=gG c
    refine (zX (yA (yA (zQ (zQ (yA (zQ (gV (v1:=i6 2) rfl rfl ?_))))))))
    exact ⟨rfl,H.pick []⟩
   have c:=zM C c
   refine (zZ (yJ (yJ (zF (aw _ _ ?_)))))
   refine zA ?_
   obtain ⟨Q,ch,c⟩:=zD c
   refine zG (xC (a:=j) (b:=1) rfl rfl ch)<| zH (i6 Q) ?_
   exact (zT (zF (meet ⟨(ap,Q),(zJ rfl zK),⟨H.pick [0],c⟩,Nat.lt_succ_self _⟩)))
  have c:=zM m c
  exact (xE (yK (yK (yR (zF (meet ⟨(),zK,⟨H.pick [],c⟩⟩))))))
 rintro _ ρ dt ⟨H,c⟩
 have c:=wE ai c
 refine zB fun du ci=>zA<| zI (i6 0)<| RN ci ?_
 obtain rfl:=gG c
 refine (zX (gV (v1:=i6 0) rfl rfl ?_))
 exact ⟨rfl,H.pick []⟩
end Go.Proofs.YthllgjnlmjpinaaGreatDoor.L
