/- Walks: what each function computes, for every argument; no condition but those that stand in the statements. -/
import Derived.Test.YtgmikmoapfmedaaGreatDoorVV0
import Derived.Test.YtgmikmoapfmedaaGreatDoorVV1
namespace Go.Proofs.YtgmikmoapfmedaaGreatDoor.L
open Go.RowKit Go.OB Go.Lf
set_option maxHeartbeats 4000000
set_option maxRecDepth 100000 in
theorem Fazw (n:List gW)(t:List Twins)(u:Int)(z:Int)(v1:Value)(q:Value)(r:(List fE)×Int)(c:Faz n t u z=some r)(O S:List Nat)(w:World)(H:Hd O w w S [f1 fH v1 n,f1 dD q t]):
  Cl 6 [v1,q,i6 u,i6 z] w fun e l=> ∃u5,e= .returned (.tuple #[u5,i6 r.2])∧Hd O w l S [.own fV u5 64 r.1]:=by
 unfold Faz at c
 refine CW 95 Tryz.func6 ?_
 refine zB fun K6 ap=>zA<| zI (.slice none 0 0)<| zI (i6 0)<| RN ap<| zB fun dv aq=>zB fun dw ar=>zA<| zH v1 ?_
 have au:=H
 obtain ⟨C,av,c⟩:=zD c
 refine zO rfl rfl (zM en17 rfl) (Fbkw n v1 _ av _ _ _ (H.enter [] [0])) ?_
 rintro _ dx ⟨rfl,aw⟩
 have H:=au.step (aw.only:Only [] _ _)
 refine ⟨_,rfl,?_⟩
 refine zI (i6 C)<| RN ar<| zB fun dy ax=>zA<| zH (i6 C) ?_
 obtain ⟨ay,az,c⟩:=zC c
 refine zF (zL (dJ (a:=C) (b:=0) rfl rfl) az)<| RN ax<| yB (b:=ay) rfl (fun G=>?_) (fun G=>?_)
 ·have c:=zT G c
  refine zB fun dz a0=>zA<| zH (i6 C)<| zI (.slice none 0 0)<| zI (i6 C)<| RN a0 ?_
  have H:=dL H fV 64
  obtain rfl:=gI c
  refine (zW (zV (cZ (v1:= .slice none 0 0) (v2:=i6 C) rfl rfl rfl ?_)))
  exact ⟨.slice none 0 0,rfl,H.pick [2]⟩
 have c:=zU G c
 refine zS (zG (aq _ _ ?_))
 refine zB fun d0 a1=>?_
 refine zB fun d1 a2=>zA<| zH v1<| zH q ?_
 have a3:=H
 obtain ⟨D,a4,c⟩:=zD c
 refine zO rfl rfl (zM en18 rfl) (Fbrw n t v1 q _ a4 _ _ _ (H.enter [] [0,1])) ?_
 rintro _ d2 ⟨rfl,a5⟩
 have H:=a3.step (a5.only:Only [] _ _)
 refine ⟨_,rfl,?_⟩
 refine zI (i6 D)<| RN a2<| zB fun d3 a6=>zA<| zH (i6 D) ?_
 obtain ⟨a7,a8,c⟩:=zC c
 refine zF (zL (dJ (a:=D) (b:=0) rfl rfl) a8)<| RN a6<| yB (b:=a7) rfl (fun I=>?_) (fun I=>?_)
 ·have c:=zT I c
  refine zB fun d4 a9=>zA<| zH (i6 D)<| zI (.slice none 0 0)<| zI (i6 D)<| RN a9 ?_
  have H:=dL H fV 64
  obtain rfl:=gI c
  refine (zW (zV (cZ (v1:= .slice none 0 0) (v2:=i6 D) rfl rfl rfl ?_)))
  exact ⟨.slice none 0 0,rfl,H.pick [2]⟩
 have c:=zU I c
 refine zS (zG (a1 _ _ ?_))
 refine zB fun d5 ba=>?_
 refine zB fun d6 bb=>zA<| zH (i6 u)<| zH (i6 z) ?_
 have bc:=H
 obtain ⟨E,bd,c⟩:=zD c
 refine zO rfl rfl (zM en19 rfl) (Fbqw u z _ bd _ _ _ (H.enter [] [])) ?_
 rintro _ d7 ⟨rfl,be⟩
 have H:=bc.step (be.only:Only [] _ _)
 refine ⟨_,rfl,?_⟩
 refine zI (i6 E)<| RN bb<| zB fun d8 bf=>zA<| zH (i6 E) ?_
 obtain ⟨bg,bh,c⟩:=zC c
 refine zF (zL (dJ (a:=E) (b:=0) rfl rfl) bh)<| RN bf<| yB (b:=bg) rfl (fun J=>?_) (fun J=>?_)
 ·have c:=zT J c
  refine zB fun d9 bi=>zA<| zH (i6 E)<| zI (.slice none 0 0)<| zI (i6 E)<| RN bi ?_
  have H:=dL H fV 64
  obtain rfl:=gI c
  refine (zW (zV (cZ (v1:= .slice none 0 0) (v2:=i6 E) rfl rfl rfl ?_)))
  exact ⟨.slice none 0 0,rfl,H.pick [2]⟩
 have c:=zU J c
 refine zS (zG (ba _ _ ?_))
 refine zB fun ea bj=>zA<| zI (.slice none 0 0)<| RN bj ?_
 obtain ⟨ab,c,bk⟩:=zD c
 refine yL [13,14,15,16,17,18,19,20,38,39,40,41,42,43,44,45,46,47,48,49,50,51,52,53,54,55,56,57,58,59,60,61,62,63,64,65,66,67,68,69,70,71,72,73,74,75,76,77,78,79,80,81,82,83,84,85,86,87,88,89,90,91,92,93] (fun (g:Value)=>[(13,g)]) (fun g wl=>Hd O w wl S [.own fV g 64 ab]) ?_ ?_
 ·skip
  refine zB fun eb bl=>zA<| zH q ?_
  obtain ⟨bm,bn,c⟩:=zC c
  obtain ⟨ec,ed,bo⟩:=SlF.len ((H.item (i:=1) rfl))
  refine zF (yK (xI u23 bo) (congrArg (Value.int .i64) bn))<| zH (i6 0)<| RN bl<| yA ?_
  have H:=dL H fV 64
  unfold Fby at c
  obtain ⟨bp,ac,bq,c⟩:=yM c
  refine xA [13,14,15,16,17,18,19,20,40,41,42,43,44,45,46,47,48,49,50,51,52,53,54,55,56,57,58,59,60,61,62,63,64,65,66,67,68,69,70,71,72,73,74,75,76,77,78,79,80,81,82,83,84,85,86,87,88,89,90,91,92,93] (fun (g:Nat×(List fE)×Int×Value)=>[(13,g.2.2.2),(40,i6 g.2.2.1)]) (fun g wl=>Hd O w wl S [.own fV g.2.2.2 64 g.2.1,f1 fH v1 n,f1 dD q t]∧fJ bp g.1 (g.2.1,g.2.2.1)=some ab) (fun g=>g.1) (ac,[],0,.slice none 0 0) (zJ rfl (zJ rfl zK)) ⟨H.pick [2,0,1],c⟩ ?_
  clear H c
  rintro ⟨ac,br,m,ad⟩ ρ ee ⟨H,c⟩
  obtain ⟨bt,rfl,c⟩:=yS c
  have c:=yT bq c
  refine zB fun ef bu=>zA ?_
  obtain ⟨bv,bw,c⟩:=zC c
  refine zF (zL (xC (a:=m) (b:=bm) rfl rfl) bw)<| RN bu<| zB fun eg bx=>yB (b:=bv) rfl (fun K=>?_) (fun K=>?_)
  ·have c:=zT K c
   refine zS (zG (bx _ _ ?_))
   obtain ⟨L,c,bz⟩:=zD c
   refine yL [13,14,15,16,17,18,19,20,42,43,44,45,46,47,48,49,50,51,52,53,54,55,56,57,58,59,60,61,62,63,64,65,66,67,68,69,70,71,72,73,74,75,76,77,78,79,80,81,82,83,84,85,86,87,88,89,90,91,92] (fun (g:Value)=>[(13,g)]) (fun g wl=>Hd O w wl S [.own fV g 64 L,f1 fH v1 n,f1 dD q t]) ?_ ?_
   ·skip
    refine yA ?_
    refine zB fun eh b0=>zA<| zH (i6 m) ?_
    obtain ⟨j,M,c⟩:=zD c
    obtain ⟨b1,b2,ei,ej,b3,b4,b5,b6,b7⟩:=fQ (H.item (i:=2) rfl) M
    obtain rfl:=dZ b4
    have H:=H.fz (.at b1 (b2+m.toNat * 3) _) ⟨b5,b6,b7⟩
    refine zF (xG u23 sN b3 rfl (zZ M).1 (zZ M).2.1 rfl rfl)<| zF (yK (yH (cs:=[sb j.A,sb j.B,i6 j.Most]) agg60 rfl sN rfl (H.item (i:=3) rfl).2.2) rfl)<| yQ rfl rfl (xB zero60 H) ?_
    rintro _ ek ⟨N,rfl,H⟩
    refine zI (i6 m)<| yZ rfl (yN (vs:=[sb j.A,sb j.B,i6 j.Most]) H 4 rfl sN rfl rfl rfl ⟨rfl,rfl,rfl,trivial⟩ rfl) ?_
    rintro ae H
    refine RN b0<| zB fun el b8=>?_
    have b9:=H
    have H:=H.rebase
    have ca:=H
    have em:=H.firm (i:=1) rfl
    refine aAp H [0,1,2,3,4,5,6,7,8,9,10,11,12,13,14,15,16,17] [.pure,.pure,.pure,.read,.read,.pure,.read,.pure,.pure,.pure,.read,.read,.pure,.pure,.mk (World.heap ae).size,.mk (World.heap ae).size,.eff,.eff] ⟨trivial,trivial,trivial,trivial,trivial,trivial,trivial,trivial,trivial,trivial,trivial,trivial,trivial,trivial,rfl,rfl,trivial,trivial,trivial⟩ mixed (by kernel_rfl) (by kernel_rfl) (by kernel_rfl) (by decide) ?_
    have H:=H.hm
    refine XM v1<| XM v1<| XP (fun _ _=>wW rfl)<| XR dW H.hd 4 0 rfl rfl ?_
    have cb:=H
    have H:=H.hd
    obtain ⟨af,cc,c⟩:=zD c
    refine MxM.XL_call oS rfl rfl rfl (v:=i6 af) (fun l k=>zM en20 rfl) (fun l k=>aU (Fakw n j.A v1 _ cc _ _ _ ((H.sees k).enter [] [1]))) ?_
    have H:=cb
    obtain ⟨d,P,c⟩:=zD c
    obtain ⟨cd,ce,en,eo,cf,cg,ch,ci,cj⟩:=fQ (H.item (i:=1) rfl) P
    obtain ⟨o,rfl,ck⟩:=fZ cg
    have H:=H.fzs [.at cd (ce+af.toNat * 4) _,.sl gY o d.Series.Samples] ⟨⟨ch,ci,cj⟩,ck,trivial⟩
    refine XP (fun _ _=>xG u22 bQ cf rfl (zZ P).1 (zZ P).2.1 rfl rfl)<| MxM.XL_read oS rfl rfl rfl (fun l k=>yK (yH (cs:=[sb d.Name,i6 d.Series.Den,o,i6 d.Long]) mP rfl bQ rfl ((H.sees k).item (i:=5) rfl).2.2) rfl)<| XM v1<| XM v1<| XP (fun _ _=>aAm rfl)<| XR dW H.hd 4 1 rfl rfl ?_
    have cl:=H
    have H:=H.hd
    obtain ⟨ag,cm,c⟩:=zD c
    refine MxM.XL_call oS rfl rfl rfl (v:=i6 ag) (fun l k=>zM en20 rfl) (fun l k=>aU (Fakw n j.B v1 _ cm _ _ _ ((H.sees k).enter [] [1]))) ?_
    have H:=cl
    obtain ⟨f,Q,c⟩:=zD c
    obtain ⟨cn,co,ep,eq,cp,cq,cr,ct,cu⟩:=fQ (H.item (i:=1) rfl) Q
    obtain ⟨p,rfl,cv⟩:=fZ cq
    have H:=H.fzs [.at cn (co+ag.toNat * 4) _,.sl gY p f.Series.Samples] ⟨⟨cr,ct,cu⟩,cv,trivial⟩
    refine XP (fun _ _=>xG u22 bQ cp rfl (zZ Q).1 (zZ Q).2.1 rfl rfl) ?_
    have cw:=ca.firmC (H.item (i:=7) rfl).1.1 (H.item (i:=7) rfl).2.1 (H.item (i:=7) rfl).2.2
    refine XP (fun l k=>yK (yH (cs:=[sb f.Name,i6 f.Series.Den,p,i6 f.Long]) mP rfl bQ rfl (cw l k)) rfl)<| H.alloc_rule rfl rfl rfl rfl rW ?_
    rintro R er H
    refine H.alloc_rule rfl rfl rfl rfl rW ?_
    rintro T es H
    have H:=H.hd
    refine MxM.XL_exU oS rfl rfl (fun l k=>yN (vs:=[sb d.Name,i6 d.Series.Den,o,i6 d.Long]) (H.sees k) 9 rfl bQ rfl rfl rfl ⟨rfl,rfl,(dK ((H.sees k).item (i:=6) rfl)),rfl,trivial⟩ rfl) ?_
    rintro l et k H
    refine ⟨H.only,?_⟩
    refine MxM.XL_exU oS rfl rfl (fun l k=>yN (vs:=[sb f.Name,i6 f.Series.Den,p,i6 f.Long]) (H.sees k) 10 rfl bQ rfl rfl rfl ⟨rfl,rfl,(dK ((H.sees k).item (i:=8) rfl)),rfl,trivial⟩ rfl) ?_
    rintro l eu k H
    refine ⟨H.only,?_⟩
    refine MxM.XL_nil fun ew hS=>?_
    have H:=H.sees hS
    have H:=b9.rejoin H
    refine (zG (b8 _ _ ?_))
    refine zB fun ex cx=>zA<| zI (.bool false)<| RN cx<| zB fun ey cy=>zA<| zH (i6 u)<| zI (i6 u)<| RN cy<| yA ?_
    unfold Fcg at c
    obtain ⟨cz,ah,c0,c⟩:=yM c
    refine xA [13,18,19,20,60,61,62,63,64,65,66,67,68,69,70,71,72,73,74,75,76,77,78,79,80,81,82,83,84,85,86,87,88,89,90,91,92] (fun (g:Nat×(List fE)×Bool×Int×Value)=>[(13,g.2.2.2.2),(18,.bool g.2.2.1),(19,i6 g.2.2.2.1)]) (fun g wl=>Hd O w wl S [.own fV g.2.2.2.2 64 g.2.1,f1 fH v1 n,f1 dD q t,.blk N [sb j.A,sb j.B,i6 j.Most] 60,f1 gY o d.Series.Samples,f1 gY p f.Series.Samples,.blk R [sb d.Name,i6 d.Series.Den,o,i6 d.Long] 41,.blk T [sb f.Name,i6 f.Series.Den,p,i6 f.Long] 41]∧fJ cz g.1 (g.2.1,g.2.2.1,g.2.2.2.1)=some L) (fun g=>g.1) (ah,br,false,u,ad) (zJ rfl (zJ rfl (zJ rfl zK))) ⟨H.pick [0,1,2,4,6,8,9,10],c⟩ ?_
    clear H c
    rintro ⟨ah,c1,U,h,y⟩ ρ ez ⟨H,c⟩
    obtain ⟨c2,rfl,c⟩:=yS c
    have c:=yT c0 c
    refine zB fun e0 c3=>?_
    refine zB fun e1 c4=>zA<| zH (i6 h)<| zH (i6 z) ?_
    obtain ⟨c5,c6,c⟩:=zC c
    refine zF (zL (aB (a:=h) (b:=z) rfl rfl) c6)<| RN c4<| yB (b:=c5) rfl (fun V=>?_) (fun V=>?_)
    ·have c:=zT V c
     refine zS (zG (c3 _ _ ?_))
     refine zB fun e2 c7=>?_
     refine yA ?_
     refine zB fun e3 c8=>zA<| zF (yK (yH (cs:=[sb d.Name,i6 d.Series.Den,o,i6 d.Long]) mP rfl bQ rfl (Hbc H 6 rfl)) rfl)<| zF (yK (yH (cs:=[sb f.Name,i6 f.Series.Den,p,i6 f.Long]) mP rfl bQ rfl (Hbc H 7 rfl)) rfl)<| zF (aAj rfl)<| Ld fK H 3 2 rfl rfl<| zH (i6 h) ?_
     have c9:=H
     obtain ⟨s,da,c⟩:=zD c
     refine zO rfl rfl (zM en21 rfl) (Fa3w d f j.Most h o p _ da _ _ _ (H.enter [] [4,5])) ?_
     rintro _ e4 ⟨rfl,db⟩
     have H:=c9.step (db.only:Only [] _ _)
     refine ⟨_,rfl,?_⟩
     refine zI (.bool s)<| RN c8 ?_
     obtain ⟨ai,c,dc⟩:=zD c
     refine yL [13,71,72,73,74,75,76,77,78,79,80,81,82,83,84,85,86,87,88,89,90,91] (fun (g:Value)=>[(13,g)]) (fun g wl=>Hd O w wl S [.own fV g 64 ai,f1 fH v1 n,f1 dD q t,.blk N [sb j.A,sb j.B,i6 j.Most] 60,f1 gY o d.Series.Samples,f1 gY p f.Series.Samples,.blk R [sb d.Name,i6 d.Series.Den,o,i6 d.Long] 41,.blk T [sb f.Name,i6 f.Series.Den,p,i6 f.Long] 41]) ?_ ?_
     ·skip
      refine yA ?_
      obtain ⟨aj,c,dd⟩:=zD c
      refine yL [71,72,73,74,75] (fun (g:Unit)=>[(71,.bool aj)]) (fun g wl=>Hd O w wl S [.own fV y 64 c1,f1 fH v1 n,f1 dD q t,.blk N [sb j.A,sb j.B,i6 j.Most] 60,f1 gY o d.Series.Samples,f1 gY p f.Series.Samples,.blk R [sb d.Name,i6 d.Series.Den,o,i6 d.Long] 41,.blk T [sb f.Name,i6 f.Series.Den,p,i6 f.Long] 41]) ?_ ?_
      ·skip
       refine zA ?_
       refine zH (.bool s)<| yR (b:=s) rfl rfl rfl (fun X=>?_) (fun X=>?_)
       ·have c:=zT X c
        refine zH (.bool U)<| zF (yD (v:= .bool U) rfl rfl)<| zI (.bool U) ?_
        obtain rfl:=gI c
        exact (zQ (zG (meet ⟨(),(zJ rfl zK),H.pick [0,1,2,3,4,5,6,7]⟩)))
       have c:=zU X c
       refine yC ?_
       refine zF (zY (v:= .bool false) rfl rfl)<| zI (.bool false) ?_
       obtain rfl:=gI c
       exact (zQ (zG (meet ⟨(),(zJ rfl zK),H.pick [0,1,2,3,4,5,6,7]⟩)))
      rintro _ ρ e5 H
      have c:=dd
      refine yB (b:=aj) rfl (fun Y=>?_) (fun Y=>?_)
      ·have c:=zT Y c
       refine zA ?_
       refine zH y<| zH y ?_
       obtain ⟨de,df,c⟩:=zC c
       obtain ⟨e6,e7,dg⟩:=Sr.len (Sr.of_own (H.item (i:=0) rfl))
       refine zF (yK (xI u28 dg) (congrArg (Value.int .i64) df)) ?_
       obtain ⟨e8,dh,c⟩:=zC c
       refine zF (bI (a:=de) (b:=1) rfl rfl dh)<| zH (i6 h) ?_
       obtain ⟨ak,Z,c⟩:=zD c
       obtain ⟨e9,fa,fb,al,di,dj⟩:=pK (H.item (i:=0) rfl) Z
       obtain rfl:=aZ di
       refine zF (xG u28 sz64 al rfl (zZ Z).1 (zZ Z).2.1 rfl rfl)<| zF (aCp rfl) ?_
       obtain ⟨fc,dk,c⟩:=zD c
       refine yZ rfl (qF (vs:=[i6 h]) (off:=2) H 0 rfl al dj rfl sz3 rfl rfl rfl (mJ ⟨rfl,trivial⟩) dk (by decide) rfl (nP (x:=fE.mk ak.Twins ak.From h))) ?_
       rintro fd H
       obtain rfl:=gI c
       exact (zQ (yV (zG (meet ⟨y,(zJ rfl zK),H.pick [0,1,2,3,4,5,6,7]⟩))))
      have c:=zU Y c
      refine zB fun fe dl=>zA<| zH (.bool s)<| zI (.bool s)<| RN dl<| yB (b:=s) rfl (fun aa=>?_) (fun aa=>?_)
      ·have c:=zT aa c
       refine zA ?_
       refine zH y<| zH (i6 m)<| zH (i6 h)<| zH (i6 h)<| zF (dB (cs:=[i6 m,i6 h,i6 h]) (aCl _ _ _)) ?_
       obtain ⟨ff,dm,c⟩:=zC c
       subst dm
       refine yQ rfl rfl (kX (r:=fV) (xl:=[fE.mk m h h]) (cs:=[i6 m,i6 h,i6 h]) u28 el64 (by decide) (by decide) rfl (xU (vs:=[.agg [i6 m,i6 h,i6 h].toArray]) (by decide) rfl rfl ⟨rfl,trivial⟩ rfl) H ⟨[i6 m,i6 h,i6 h],[],rfl,(nP (x:=fE.mk m h h)),rfl⟩) ?_
       rintro fg fh H
       obtain ⟨fi,dn,c⟩:=zD c
       refine yQ rfl rfl (jD H (i:=0) rfl u28 el64 rfl rfl (Sr.of_own (H.item (i:=8) rfl)) dn) ?_
       rintro am fj H
       refine zI am ?_
       obtain rfl:=gI c
       exact (zQ (yV (zG (meet ⟨am,(zJ rfl zK),H.pick [0,1,2,3,4,5,6,7]⟩))))
      have c:=zU aa c
      obtain rfl:=gI c
      exact (zS (yV (zG (meet ⟨y,(zJ rfl zK),H.pick [0,1,2,3,4,5,6,7]⟩))))
     rintro dp ρ fk H
     have c:=dc
     refine zA ?_
     refine zH (.bool s)<| zI (.bool s)<| (zQ (yV (zG (c7 _ _ ?_))))
     refine zA ?_
     refine zH (i6 h) ?_
     obtain ⟨an,dq,c⟩:=zC c
     refine zF (xN (a:=h) (b:=1) rfl rfl dq)<| zI (i6 an) ?_
     exact (zQ (zG (meet ⟨(c2,ai,s,an,dp),(zJ rfl (zJ rfl (zJ rfl zK))),⟨H.pick [0,1,2,3,4,5,6,7],c⟩,Nat.lt_succ_self _⟩)))
    have c:=zU V c
    obtain rfl:=gI c
    exact (xH (yI (yI (yU (yV (zG (meet ⟨y,(zJ rfl zK),H.pick [0,1,2]⟩)))))))
   rintro dr ρ fm H
   have c:=bz
   refine zA ?_
   obtain ⟨ao,ds,c⟩:=zC c
   refine zF (xN (a:=m) (b:=1) rfl rfl ds)<| zH (i6 ao) ?_
   exact (zQ (zG (meet ⟨(bt,L,ao,dr),(zJ rfl (zJ rfl zK)),⟨H.pick [0,1,2],c⟩,Nat.lt_succ_self _⟩)))
  have c:=zU K c
  obtain rfl:=gI c
  exact (xH (yI (yI (yU (zG (meet ⟨ad,(zJ rfl zK),H.pick [0]⟩))))))
 rintro F ρ fn H
 have c:=bk
 refine zB fun fo dt=>zA<| zH F<| zI F<| zI (i6 0)<| RN dt ?_
 obtain rfl:=gI c
 refine (zW (cZ (v1:=F) (v2:=i6 0) rfl rfl rfl ?_))
 exact ⟨F,rfl,H.pick [0]⟩
theorem Fbvw (r:(List Str))(a:Fbv=some r)(O S:List Nat)(w:World)(H:Hd O w w S []):
  Cl 97 [] w fun e d=> ∃c,e= .returned (c)∧Hd O w d S [.own Rp.str c 9 r]:=by
 unfold Fbv at a
 refine CW 2 Tryz.func97 ?_
 refine zB fun i f=>zA<| zI (.slice none 0 0)<| RN f<| zB fun j g=>zA ?_
 obtain ⟨k,h,a⟩:=zC a
 subst h
 refine yQ rfl rfl (kX (r:=Rp.str) (xl:=[[112,104,97,115,101],[109,111,118,101],[114,117,108,101],[105,102],[111,114],[97,110,100],[116,114,117,101],[102,97,108,115,101],[115,116,101,97,100,121],[110,111,116],[102,111,114],[119,105,116,104,105,110],[99,111,117,110,116],[111,102],[114,105,115,101,115],[115,105,110,99,101]]) (cs:=[.string (bs [112,104,97,115,101]),.string (bs [109,111,118,101]),.string (bs [114,117,108,101]),.string (bs [105,102]),.string (bs [111,114]),.string (bs [97,110,100]),.string (bs [116,114,117,101]),.string (bs [102,97,108,115,101]),.string (bs [115,116,101,97,100,121]),.string (bs [110,111,116]),.string (bs [102,111,114]),.string (bs [119,105,116,104,105,110]),.string (bs [99,111,117,110,116]),.string (bs [111,102]),.string (bs [114,105,115,101,115]),.string (bs [115,105,110,99,101])]) u36 el9 (by decide) (by decide) rfl (xU (vs:=[.string (bs [112,104,97,115,101]),.string (bs [109,111,118,101]),.string (bs [114,117,108,101]),.string (bs [105,102]),.string (bs [111,114]),.string (bs [97,110,100]),.string (bs [116,114,117,101]),.string (bs [102,97,108,115,101]),.string (bs [115,116,101,97,100,121]),.string (bs [110,111,116]),.string (bs [102,111,114]),.string (bs [119,105,116,104,105,110]),.string (bs [99,111,117,110,116]),.string (bs [111,102]),.string (bs [114,105,115,101,115]),.string (bs [115,105,110,99,101])]) (by decide) rfl rfl ⟨rfl,rfl,rfl,rfl,rfl,rfl,rfl,rfl,rfl,rfl,rfl,rfl,rfl,rfl,rfl,rfl,trivial⟩ rfl) H ⟨[.string (bs [112,104,97,115,101])],[.string (bs [109,111,118,101]),.string (bs [114,117,108,101]),.string (bs [105,102]),.string (bs [111,114]),.string (bs [97,110,100]),.string (bs [116,114,117,101]),.string (bs [102,97,108,115,101]),.string (bs [115,116,101,97,100,121]),.string (bs [110,111,116]),.string (bs [102,111,114]),.string (bs [119,105,116,104,105,110]),.string (bs [99,111,117,110,116]),.string (bs [111,102]),.string (bs [114,105,115,101,115]),.string (bs [115,105,110,99,101])],rfl,rfl,⟨[.string (bs [109,111,118,101])],[.string (bs [114,117,108,101]),.string (bs [105,102]),.string (bs [111,114]),.string (bs [97,110,100]),.string (bs [116,114,117,101]),.string (bs [102,97,108,115,101]),.string (bs [115,116,101,97,100,121]),.string (bs [110,111,116]),.string (bs [102,111,114]),.string (bs [119,105,116,104,105,110]),.string (bs [99,111,117,110,116]),.string (bs [111,102]),.string (bs [114,105,115,101,115]),.string (bs [115,105,110,99,101])],rfl,rfl,⟨[.string (bs [114,117,108,101])],[.string (bs [105,102]),.string (bs [111,114]),.string (bs [97,110,100]),.string (bs [116,114,117,101]),.string (bs [102,97,108,115,101]),.string (bs [115,116,101,97,100,121]),.string (bs [110,111,116]),.string (bs [102,111,114]),.string (bs [119,105,116,104,105,110]),.string (bs [99,111,117,110,116]),.string (bs [111,102]),.string (bs [114,105,115,101,115]),.string (bs [115,105,110,99,101])],rfl,rfl,⟨[.string (bs [105,102])],[.string (bs [111,114]),.string (bs [97,110,100]),.string (bs [116,114,117,101]),.string (bs [102,97,108,115,101]),.string (bs [115,116,101,97,100,121]),.string (bs [110,111,116]),.string (bs [102,111,114]),.string (bs [119,105,116,104,105,110]),.string (bs [99,111,117,110,116]),.string (bs [111,102]),.string (bs [114,105,115,101,115]),.string (bs [115,105,110,99,101])],rfl,rfl,⟨[.string (bs [111,114])],[.string (bs [97,110,100]),.string (bs [116,114,117,101]),.string (bs [102,97,108,115,101]),.string (bs [115,116,101,97,100,121]),.string (bs [110,111,116]),.string (bs [102,111,114]),.string (bs [119,105,116,104,105,110]),.string (bs [99,111,117,110,116]),.string (bs [111,102]),.string (bs [114,105,115,101,115]),.string (bs [115,105,110,99,101])],rfl,rfl,⟨[.string (bs [97,110,100])],[.string (bs [116,114,117,101]),.string (bs [102,97,108,115,101]),.string (bs [115,116,101,97,100,121]),.string (bs [110,111,116]),.string (bs [102,111,114]),.string (bs [119,105,116,104,105,110]),.string (bs [99,111,117,110,116]),.string (bs [111,102]),.string (bs [114,105,115,101,115]),.string (bs [115,105,110,99,101])],rfl,rfl,⟨[.string (bs [116,114,117,101])],[.string (bs [102,97,108,115,101]),.string (bs [115,116,101,97,100,121]),.string (bs [110,111,116]),.string (bs [102,111,114]),.string (bs [119,105,116,104,105,110]),.string (bs [99,111,117,110,116]),.string (bs [111,102]),.string (bs [114,105,115,101,115]),.string (bs [115,105,110,99,101])],rfl,rfl,⟨[.string (bs [102,97,108,115,101])],[.string (bs [115,116,101,97,100,121]),.string (bs [110,111,116]),.string (bs [102,111,114]),.string (bs [119,105,116,104,105,110]),.string (bs [99,111,117,110,116]),.string (bs [111,102]),.string (bs [114,105,115,101,115]),.string (bs [115,105,110,99,101])],rfl,rfl,⟨[.string (bs [115,116,101,97,100,121])],[.string (bs [110,111,116]),.string (bs [102,111,114]),.string (bs [119,105,116,104,105,110]),.string (bs [99,111,117,110,116]),.string (bs [111,102]),.string (bs [114,105,115,101,115]),.string (bs [115,105,110,99,101])],rfl,rfl,⟨[.string (bs [110,111,116])],[.string (bs [102,111,114]),.string (bs [119,105,116,104,105,110]),.string (bs [99,111,117,110,116]),.string (bs [111,102]),.string (bs [114,105,115,101,115]),.string (bs [115,105,110,99,101])],rfl,rfl,⟨[.string (bs [102,111,114])],[.string (bs [119,105,116,104,105,110]),.string (bs [99,111,117,110,116]),.string (bs [111,102]),.string (bs [114,105,115,101,115]),.string (bs [115,105,110,99,101])],rfl,rfl,⟨[.string (bs [119,105,116,104,105,110])],[.string (bs [99,111,117,110,116]),.string (bs [111,102]),.string (bs [114,105,115,101,115]),.string (bs [115,105,110,99,101])],rfl,rfl,⟨[.string (bs [99,111,117,110,116])],[.string (bs [111,102]),.string (bs [114,105,115,101,115]),.string (bs [115,105,110,99,101])],rfl,rfl,⟨[.string (bs [111,102])],[.string (bs [114,105,115,101,115]),.string (bs [115,105,110,99,101])],rfl,rfl,⟨[.string (bs [114,105,115,101,115])],[.string (bs [115,105,110,99,101])],rfl,rfl,⟨[.string (bs [115,105,110,99,101])],[],rfl,rfl,rfl⟩⟩⟩⟩⟩⟩⟩⟩⟩⟩⟩⟩⟩⟩⟩⟩) ?_
 rintro b l H
 refine zI b<| RN g ?_
 obtain rfl:=gI a
 refine (zW (gZ (v1:=b) rfl rfl ?_))
 exact ⟨b,rfl,H.pick [0]⟩
theorem Fa6w (f:Str)(r:Bool)(c:Fa6 f=some r)(O S:List Nat)(w:World)(H:Hd O w w S []):
  Cl 71 [sb f] w fun e p=>e= .returned (.bool r)∧Hd O w p S []:=by
 unfold Fa6 at c
 refine CW 18 Tryz.func71 ?_
 refine zB fun Z q=>zA<| zI (.bool false)<| RN q<| zB fun K2 s=>zA ?_
 obtain ⟨t,u,c⟩:=zD c
 refine zO rfl rfl (zM en97 rfl) (Fbvw _ u _ _ _ (H.enter [] [])) ?_
 rintro _ w7 ⟨h,rfl,v⟩
 have H:=H.back1 [] rfl v
 refine ⟨_,rfl,?_⟩
 refine zI h<| RN s ?_
 obtain ⟨x,y,c⟩:=xM c
 refine yL [2,4,6,7,8,9,10,11,12,13,14,15,16,17] (fun (g:Unit)=>[]) (fun g wl=>Hd O w wl S []∧x ()=some r) ?_ ?_
 ·skip
  refine zB fun ac z=>zA<| zI (i6 0)<| RN z<| yA ?_
  unfold Fbz at c
  obtain ⟨A,m,B,c⟩:=yM c
  refine xA [2,4,6,7,8,9,10,11,12,13,14,15,16,17] (fun (g:Nat×Int)=>[(4,i6 g.2)]) (fun g wl=>Hd O w wl S [.own Rp.str h 9 t]∧fJ A g.1 g.2=some r) (fun g=>g.1) (m,0) (zJ rfl zK) ⟨H.pick [0],c⟩ ?_
  clear H c
  rintro ⟨m,d⟩ ρ ad ⟨H,c⟩
  obtain ⟨C,rfl,c⟩:=yS c
  have c:=yT B c
  refine zB fun ae D=>?_
  refine zB fun af E=>zA<| zH (i6 d)<| zH h ?_
  obtain ⟨F,G,c⟩:=zC c
  obtain ⟨ag,ah,I⟩:=Sr.len (Sr.of_own (H.item (i:=0) rfl))
  refine zF (yK (xI u36 I) (congrArg (Value.int .i64) G)) ?_
  obtain ⟨J,K,c⟩:=zC c
  refine zF (zL (xC (a:=d) (b:=F) rfl rfl) K)<| RN E<| yB (b:=J) rfl (fun j=>?_) (fun j=>?_)
  ·have c:=zT j c
   refine zS (zG (D _ _ ?_))
   refine zB fun ai L=>?_
   refine yA ?_
   refine zB fun aj M=>zA<| zH h<| zH (i6 d) ?_
   obtain ⟨n,k,c⟩:=zD c
   obtain ⟨ak,al,N,P,Q,R⟩:=pK (H.item (i:=0) rfl) k
   obtain rfl:N= [sb n]:=Q
   refine zF (xG u36 sz9 P rfl (zZ k).1 (zZ k).2.1 rfl rfl)<| zF (xO dW rfl (Cells.get R (i:=0) rfl))<| zH (sb f) ?_
   obtain ⟨T,U,c⟩:=zC c
   refine zF (zL (fU (s1:=n) (s2:=f) rfl rfl) U)<| RN M<| yB (b:=T) rfl (fun l=>?_) (fun l=>?_)
   ·have c:=zT l c
    refine zB fun am V=>zA<| zI (.bool true)<| RN V ?_
    obtain rfl:=gI c
    refine (zW (yJ (zV (zV (yJ (zV (gZ (v1:= .bool true) rfl rfl ?_)))))))
    exact ⟨rfl,H.pick []⟩
   have c:=zU l c
   refine (zS (yV (zG (L _ _ ?_))))
   refine zA ?_
   refine zH (i6 d) ?_
   obtain ⟨o,X,c⟩:=zC c
   refine zF (xN (a:=d) (b:=1) rfl rfl X)<| zI (i6 o) ?_
   exact (zQ (zG (meet ⟨(C,o),(zJ rfl zK),⟨H.pick [0],c⟩,Nat.lt_succ_self _⟩)))
  have c:=zU j c
  exact (xH (yI (yI (yU (zG (meet ⟨(),zK,⟨H.pick [],c⟩⟩))))))
 rintro _ ρ an ⟨H,c⟩
 have c:=xR y c
 refine zB fun ao Y=>zA<| zI (.bool false)<| RN Y ?_
 obtain rfl:=gI c
 refine (zW (gZ (v1:= .bool false) rfl rfl ?_))
 exact ⟨rfl,H.pick []⟩
set_option maxRecDepth 100000 in
theorem Fa9w (d:Str)(r:Bool)(c:Fa9 d=some r)(O S:List Nat)(w:World)(H:Hd O w w S []):
  Cl 49 [sb d] w fun e F=>e= .returned (.bool r)∧Hd O w F S []:=by
 unfold Fa9 at c
 refine CW 49 Tryz.func49 ?_
 refine zB fun K1 G=>zA<| zI (.bool false)<| RN G ?_
 obtain ⟨I,J,c⟩:=xM c
 refine yL [2,3,4,5,6,7,8,9,10,11,12,13,14,15,16,17,18,19,20,21,22,23,24,25,26,27,28,29,30,31,32,33,34,35,36] (fun (g:Unit)=>[]) (fun g wl=>Hd O w wl S []∧I ()=some r) ?_ ?_
 ·skip
  refine zB fun a7 K=>zA<| zI (i6 0)<| RN K<| yA ?_
  unfold Fce at c
  obtain ⟨L,x,M,c⟩:=yM c
  refine xA [2,3,4,5,6,7,8,9,10,11,12,13,14,15,16,17,18,19,20,21,22,23,24,25,26,27,28,29,30,31,32,33,34,35,36] (fun (g:Nat×Int)=>[(3,i6 g.2)]) (fun g wl=>Hd O w wl S []∧fJ L g.1 g.2=some r) (fun g=>g.1) (x,0) (zJ rfl zK) ⟨H.pick [],c⟩ ?_
  clear H c
  rintro ⟨x,h⟩ ρ a8 ⟨H,c⟩
  obtain ⟨N,rfl,c⟩:=yS c
  have c:=yT M c
  refine zB fun a9 P=>?_
  refine zB fun ba Q=>zA<| zH (i6 h)<| zH (sb d) ?_
  obtain ⟨R,T,c⟩:=zC c
  refine zF (yK (bM (s1:=d) u9 rfl) (congrArg (Value.int .i64) T)) ?_
  obtain ⟨U,V,c⟩:=zC c
  refine zF (zL (xC (a:=h) (b:=R) rfl rfl) V)<| RN Q<| yB (b:=U) rfl (fun j=>?_) (fun j=>?_)
  ·have c:=zT j c
   refine zS (zG (P _ _ ?_))
   refine zB fun bb X=>?_
   refine yA ?_
   refine zB fun bc Y=>zA<| zH (sb d)<| zH (i6 h) ?_
   obtain ⟨f,Z,c⟩:=zD c
   refine zF (nT (s1:=d) (q:=h) u9 rfl rfl Z)<| zI (.int .u8 f)<| RN Y ?_
   obtain ⟨y,c,aa⟩:=zD c
   refine yL [14,15,16,17,18,19,20,21,22,23,24,25,26,27,28,29,30,31,32,33,34,35,36] (fun (g:Unit)=>[(36,.bool y)]) (fun g wl=>Hd O w wl S []) ?_ ?_
   ·skip
    refine zA ?_
    refine zH (.int .u8 f) ?_
    obtain ⟨ab,ac,c⟩:=zC c
    refine zF (zL (bK (a:=f) (b:=97) rfl rfl) ac) ?_
    obtain ⟨z,c,ad⟩:=zD c
    refine eF 4 [16,17,18,19] [(19,.bool z)] (fun wl=>Hd O w wl S []) ?_ ?_
    ·skip
     refine yR (b:=ab) rfl rfl rfl (fun k=>?_) (fun k=>?_)
     ·have c:=zT k c
      refine zH (.int .u8 f) ?_
      obtain ⟨ae,af,c⟩:=zC c
      refine zF (zL (aB (a:=f) (b:=122) rfl rfl) af)<| zF (yD (v:= .bool ae) rfl rfl) ?_
      obtain rfl:=gI c
      exact zQ (zG (meet ⟨(zJ rfl zK),H.pick []⟩))
     have c:=zU k c
     refine yC ?_
     refine yC ?_
     refine zF (zY (v:= .bool false) rfl rfl) ?_
     obtain rfl:=gI c
     exact zQ (zG (meet ⟨(zJ rfl zK),H.pick []⟩))
    rintro ρ bd H
    have c:=ad
    refine yR (b:=z) rfl rfl rfl (fun l=>?_) (fun l=>?_)
    ·have c:=zT l c
     refine yC ?_
     refine yC ?_
     refine yC ?_
     refine yC ?_
     refine yC ?_
     refine yC ?_
     refine yC ?_
     refine yC ?_
     refine yC ?_
     refine yC ?_
     refine yC ?_
     refine yC ?_
     refine yC ?_
     refine yC ?_
     refine zF (yD (v:= .bool true) rfl rfl)<| zF (xX (p:=true) rfl) ?_
     obtain rfl:=gI c
     exact (zQ (zG (meet ⟨(),(zJ rfl zK),H.pick []⟩)))
    have c:=zU l c
    refine zH (i6 h) ?_
    obtain ⟨ag,ah,c⟩:=zC c
    refine zF (zL (eQ (a:=h) (b:=0) rfl rfl) ah)<| yR (b:=ag) rfl rfl rfl (fun m=>?_) (fun m=>?_)
    ·have c:=zT m c
     refine zH (.int .u8 f) ?_
     obtain ⟨ai,aj,c⟩:=zC c
     refine zF (zL (bK (a:=f) (b:=48) rfl rfl) aj) ?_
     obtain ⟨A,c,ak⟩:=zD c
     refine eF 4 [26,27,28,29] [(29,.bool A)] (fun wl=>Hd O w wl S []) ?_ ?_
     ·skip
      refine yR (b:=ai) rfl rfl rfl (fun n=>?_) (fun n=>?_)
      ·have c:=zT n c
       refine zH (.int .u8 f) ?_
       obtain ⟨al,am,c⟩:=zC c
       refine zF (zL (aB (a:=f) (b:=57) rfl rfl) am)<| zF (yD (v:= .bool al) rfl rfl) ?_
       obtain rfl:=gI c
       exact zQ (zG (meet ⟨(zJ rfl zK),H.pick []⟩))
      have c:=zU n c
      refine yC ?_
      refine yC ?_
      refine zF (zY (v:= .bool false) rfl rfl) ?_
      obtain rfl:=gI c
      exact zQ (zG (meet ⟨(zJ rfl zK),H.pick []⟩))
     rintro ρ be H
     have c:=ak
     refine yR (b:=A) rfl rfl rfl (fun o=>?_) (fun o=>?_)
     ·have c:=zT o c
      refine yC ?_
      refine yC ?_
      refine zF (yD (v:= .bool true) rfl rfl)<| zF (yD (v:= .bool true) rfl rfl)<| zF (zY (v:= .bool true) rfl rfl)<| zF (xX (p:=true) rfl) ?_
      obtain rfl:=gI c
      exact (zQ (zG (meet ⟨(),(zJ rfl zK),H.pick []⟩)))
     have c:=zU o c
     refine zH (.int .u8 f) ?_
     obtain ⟨i,an,c⟩:=zC c
     refine zF (zL (xW (a:=f) (b:=45) rfl rfl) an)<| zF (zY (v:= .bool i) rfl rfl)<| zF (yD (v:= .bool i) rfl rfl)<| zF (zY (v:= .bool i) rfl rfl) ?_
     obtain ⟨bf,ao,c⟩:=zC c
     refine zF (zL (xX (p:=i) rfl) ao) ?_
     obtain rfl:=gI c
     exact (zQ (zG (meet ⟨(),(zJ rfl zK),H.pick []⟩)))
    have c:=zU m c
    refine yC ?_
    refine yC ?_
    refine yC ?_
    refine yC ?_
    refine yC ?_
    refine yC ?_
    refine yC ?_
    refine yC ?_
    refine yC ?_
    refine yC ?_
    refine zF (zY (v:= .bool false) rfl rfl)<| zF (zY (v:= .bool false) rfl rfl)<| zF (xX (p:=false) rfl) ?_
    obtain rfl:=gI c
    exact (zQ (zG (meet ⟨(),(zJ rfl zK),H.pick []⟩)))
   rintro _ ρ bg H
   have c:=aa
   refine yB (b:=y) rfl (fun s=>?_) (fun s=>?_)
   ·have c:=zT s c
    refine zB fun bh ap=>zA<| zI (.bool false)<| RN ap ?_
    obtain rfl:=gI c
    refine (zW (yJ (zV (zV (yJ (zV (gZ (v1:= .bool false) rfl rfl ?_)))))))
    exact ⟨rfl,H.pick []⟩
   have c:=zU s c
   refine (zS (yV (zG (X _ _ ?_))))
   refine zA ?_
   refine zH (i6 h) ?_
   obtain ⟨B,aq,c⟩:=zC c
   refine zF (xN (a:=h) (b:=1) rfl rfl aq)<| zI (i6 B) ?_
   exact (zQ (zG (meet ⟨(N,B),(zJ rfl zK),⟨H.pick [],c⟩,Nat.lt_succ_self _⟩)))
  have c:=zU j c
  exact (xH (yI (yI (yU (zG (meet ⟨(),zK,⟨H.pick [],c⟩⟩))))))
 rintro _ ρ bi ⟨H,c⟩
 have c:=xR J c
 obtain ⟨C,c,ar⟩:=zD c
 refine yL [2,37,38,39,40,41,42,43,44,45,46,47,48] (fun (g:Unit)=>[(2,.bool C)]) (fun g wl=>Hd O w wl S []) ?_ ?_
 ·skip
  refine zA ?_
  refine zH (sb d) ?_
  obtain ⟨au,av,c⟩:=zC c
  refine zF (zL (aEf (s1:=d) (s2:=[]) rfl rfl) av) ?_
  obtain ⟨D,c,aw⟩:=zD c
  refine eF 5 [39,40,41,42,43] [(43,.bool D)] (fun wl=>Hd O w wl S []) ?_ ?_
  ·skip
   refine yR (b:=au) rfl rfl rfl (fun t=>?_) (fun t=>?_)
   ·have c:=zT t c
    refine zH (sb d) ?_
    obtain ⟨ax,ay,c⟩:=zC c
    refine zF (yK (bM (s1:=d) u9 rfl) (congrArg (Value.int .i64) ay)) ?_
    obtain ⟨az,a0,c⟩:=zC c
    refine zF (zL (aB (a:=ax) (b:=30) rfl rfl) a0)<| zF (yD (v:= .bool az) rfl rfl) ?_
    obtain rfl:=gI c
    exact zQ (zG (meet ⟨(zJ rfl zK),H.pick []⟩))
   have c:=zU t c
   refine yC ?_
   refine yC ?_
   refine yC ?_
   refine zF (zY (v:= .bool false) rfl rfl) ?_
   obtain rfl:=gI c
   exact zQ (zG (meet ⟨(zJ rfl zK),H.pick []⟩))
  rintro ρ bj H
  have c:=aw
  refine yR (b:=D) rfl rfl rfl (fun u=>?_) (fun u=>?_)
  ·have c:=zT u c
   refine zH (sb d) ?_
   have a1:=H
   obtain ⟨a2,a3,c⟩:=zD c
   refine zO rfl rfl (zM en71 rfl) (Fa6w d _ a3 _ _ _ (H.enter [] [])) ?_
   rintro _ bk ⟨rfl,a4⟩
   have H:=a1.step (a4.only:Only [] _ _)
   refine ⟨_,rfl,?_⟩
   obtain ⟨E,a5,c⟩:=zC c
   refine zF (zL (xX (p:=a2) rfl) a5)<| zF (yD (v:= .bool E) rfl rfl)<| zI (.bool E) ?_
   obtain rfl:=gI c
   exact (zQ (zG (meet ⟨(),(zJ rfl zK),H.pick []⟩)))
  have c:=zU u c
  refine yC ?_
  refine yC ?_
  refine yC ?_
  refine zF (zY (v:= .bool false) rfl rfl)<| zI (.bool false) ?_
  obtain rfl:=gI c
  exact (zQ (zG (meet ⟨(),(zJ rfl zK),H.pick []⟩)))
 rintro _ ρ bl H
 have c:=ar
 obtain rfl:=gI c
 refine (zW (gZ (v1:= .bool C) rfl rfl ?_))
 exact ⟨rfl,H.pick []⟩
theorem Fafw (d:Int)(f:Int)(h:Int)(r:Bool)(c:Faf d f h=some r)(O S:List Nat)(w:World)(H:Hd O w w S []):
  Cl 98 [i6 d,i6 f,i6 h] w fun e l=>e= .returned (.bool r)∧Hd O w l S []:=by
 unfold Faf at c
 refine CW 15 Tryz.func98 ?_
 refine zB fun s m=>zA<| zI (.bool false)<| RN m ?_
 obtain ⟨j,c,n⟩:=zD c
 refine yL [6,7,8,9,10,11,12,13,14] (fun (g:Unit)=>[(6,.bool j)]) (fun g wl=>Hd O w wl S []) ?_ ?_
 ·skip
  refine zA ?_
  refine zH (i6 d)<| zH (i6 f) ?_
  obtain ⟨o,p,c⟩:=zC c
  refine zF (zL (xC (a:=d) (b:=f) rfl rfl) p)<| yR (b:=o) rfl rfl rfl (fun i=>?_) (fun i=>?_)
  ·have c:=zT i c
   refine yC ?_
   refine yC ?_
   refine yC ?_
   refine zF (yD (v:= .bool true) rfl rfl)<| zI (.bool true) ?_
   obtain rfl:=gI c
   exact (zQ (zG (meet ⟨(),(zJ rfl zK),H.pick []⟩)))
  have c:=zU i c
  refine zH (i6 d)<| zH (i6 h) ?_
  obtain ⟨k,q,c⟩:=zC c
  refine zF (zL (eQ (a:=d) (b:=h) rfl rfl) q)<| zF (zY (v:= .bool k) rfl rfl)<| zI (.bool k) ?_
  obtain rfl:=gI c
  exact (zQ (zG (meet ⟨(),(zJ rfl zK),H.pick []⟩)))
 rintro _ ρ t H
 have c:=n
 obtain rfl:=gI c
 refine (zW (gZ (v1:= .bool j) rfl rfl ?_))
 exact ⟨rfl,H.pick []⟩
theorem Fchw (c:Int)(r:Bool)(d:Fch c=some r)(O S:List Nat)(w:World)(H:Hd O w w S []):
  Cl 131 [i6 c] w fun e g=>e= .returned (.bool r)∧Hd O w g S []:=by
 unfold Fch at d
 refine CW 5 Tryz.func131 ?_
 refine zB fun k h=>zA<| zI (.bool false)<| RN h<| zB fun l i=>zA<| zH (i6 c) ?_
 obtain ⟨f,j,d⟩:=zC d
 refine zF (zL (bK (a:=c) (b:=2) rfl rfl) j)<| zI (.bool f)<| RN i ?_
 obtain rfl:=gI d
 refine (zW (gZ (v1:= .bool f) rfl rfl ?_))
 exact ⟨rfl,H.pick []⟩
theorem Fbiw (d:fF)(r:Int)(c:Fbi d=some r)(O S:List Nat)(w:World)(H:Hd O w w S []):
  Cl 99 [.agg [i6 d.At,i6 d.N,i6 d.Mark].toArray] w fun e q=>e= .returned (i6 r)∧Hd O w q S []:=by
 unfold Fbi at c
 refine CW 25 Tryz.func99 ?_
 refine zB fun K1 s=>zA<| yQ rfl rfl (xQ (cs:=[i6 d.At,i6 d.N,i6 d.Mark]) rfl H) ?_
 rintro _ w4 ⟨l,rfl,H⟩
 refine zI (i6 0)<| RN s<| zB fun ae t=>?_
 obtain ⟨m,c,u⟩:=zD c
 refine yL [3,4,5,6,7,8,9,10,11,12,13,14,15] (fun (g:Unit)=>[(15,.bool m)]) (fun g wl=>Hd O w wl S [.blk l [i6 d.At,i6 d.N,i6 d.Mark] 46]) ?_ ?_
 ·skip
  refine zA ?_
  refine zF (jB rfl)<| Ld fK H 0 0 rfl rfl ?_
  have x:=H
  obtain ⟨y,z,c⟩:=zD c
  refine zO rfl rfl (zM en98 rfl) (Fafw d.At 0 1099511627776 _ z _ _ _ (H.enter [] [])) ?_
  rintro _ af ⟨rfl,A⟩
  have H:=x.step (A.only:Only [] _ _)
  refine ⟨_,rfl,?_⟩
  obtain ⟨n,c,B⟩:=zD c
  refine eF 5 [6,7,8,9,10] [(10,.bool n)] (fun wl=>Hd O w wl S [.blk l [i6 d.At,i6 d.N,i6 d.Mark] 46]) ?_ ?_
  ·skip
   refine yR (b:=y) rfl rfl rfl (fun f=>?_) (fun f=>?_)
   ·have c:=zT f c
    refine yC ?_
    refine yC ?_
    refine yC ?_
    refine zF (yD (v:= .bool true) rfl rfl) ?_
    obtain rfl:=gI c
    exact zQ (zG (meet ⟨(zJ rfl zK),H.pick [0]⟩))
   have c:=zU f c
   refine zF (qA rfl)<| Ld fK H 0 1 rfl rfl ?_
   have C:=H
   obtain ⟨D,E,c⟩:=zD c
   refine zO rfl rfl (zM en98 rfl) (Fafw d.N (-1125899906842624) 1125899906842624 _ E _ _ _ (H.enter [] [])) ?_
   rintro _ ag ⟨rfl,F⟩
   have H:=C.step (F.only:Only [] _ _)
   refine ⟨_,rfl,?_⟩
   refine zF (zY (v:= .bool D) rfl rfl) ?_
   obtain rfl:=gI c
   exact zQ (zG (meet ⟨(zJ rfl zK),H.pick [0]⟩))
  rintro ρ ah H
  have c:=B
  refine yR (b:=n) rfl rfl rfl (fun h=>?_) (fun h=>?_)
  ·have c:=zT h c
   refine yC ?_
   refine yC ?_
   refine yC ?_
   refine zF (yD (v:= .bool true) rfl rfl) ?_
   obtain rfl:=gI c
   exact (zQ (zG (meet ⟨(),(zJ rfl zK),H.pick [0]⟩)))
  have c:=zU h c
  refine zF (rX rfl)<| Ld fK H 0 2 rfl rfl ?_
  have G:=H
  obtain ⟨I,J,c⟩:=zD c
  refine zO rfl rfl (zM en98 rfl) (Fafw d.Mark 0 4 _ J _ _ _ (H.enter [] [])) ?_
  rintro _ ai ⟨rfl,K⟩
  have H:=G.step (K.only:Only [] _ _)
  refine ⟨_,rfl,?_⟩
  refine zF (zY (v:= .bool I) rfl rfl) ?_
  obtain rfl:=gI c
  exact (zQ (zG (meet ⟨(),(zJ rfl zK),H.pick [0]⟩)))
 rintro _ ρ aj H
 have c:=u
 refine yB (b:=m) rfl (fun i=>?_) (fun i=>?_)
 ·have c:=zT i c
  refine zB fun ak L=>zA<| zI (i6 9)<| RN L ?_
  obtain rfl:=gI c
  refine (zW (zV (gZ (v1:=i6 9) rfl rfl ?_)))
  exact ⟨rfl,H.pick []⟩
 have c:=zU i c
 refine zS (zG (t _ _ ?_))
 refine zB fun al M=>?_
 obtain ⟨o,c,P⟩:=zD c
 refine yL [16,17,18,19,20,21,22,23,24] (fun (g:Unit)=>[(24,.bool o)]) (fun g wl=>Hd O w wl S []) ?_ ?_
 ·skip
  refine zA ?_
  refine zF (qA rfl)<| Ld fK H 0 1 rfl rfl ?_
  obtain ⟨Q,R,c⟩:=zC c
  refine zF (zL (dJ (a:=d.N) (b:=0) rfl rfl) R)<| yR (b:=Q) rfl rfl rfl (fun j=>?_) (fun j=>?_)
  ·have c:=zT j c
   refine zF (rX rfl)<| Ld fK H 0 2 rfl rfl ?_
   have T:=H
   obtain ⟨U,V,c⟩:=zD c
   refine zO rfl rfl (zM en131 rfl) (Fchw d.Mark _ V _ _ _ (H.enter [] [])) ?_
   rintro _ am ⟨rfl,X⟩
   have H:=T.step (X.only:Only [] _ _)
   refine ⟨_,rfl,?_⟩
   obtain ⟨Y,Z,c⟩:=zC c
   refine zF (zL (xX (p:=U) rfl) Z)<| zF (yD (v:= .bool Y) rfl rfl) ?_
   obtain rfl:=gI c
   exact (zQ (zG (meet ⟨(),(zJ rfl zK),H.pick []⟩)))
  have c:=zU j c
  refine yC ?_
  refine yC ?_
  refine yC ?_
  refine yC ?_
  refine zF (zY (v:= .bool false) rfl rfl) ?_
  obtain rfl:=gI c
  exact (zQ (zG (meet ⟨(),(zJ rfl zK),H.pick []⟩)))
 rintro _ ρ an H
 have c:=P
 refine yB (b:=o) rfl (fun k=>?_) (fun k=>?_)
 ·have c:=zT k c
  refine zB fun ao aa=>zA<| zI (i6 2)<| RN aa ?_
  obtain rfl:=gI c
  refine (zW (zV (gZ (v1:=i6 2) rfl rfl ?_)))
  exact ⟨rfl,H.pick []⟩
 have c:=zU k c
 refine zS (zG (M _ _ ?_))
 refine zB fun ap ab=>zA<| zI (i6 0)<| RN ab ?_
 obtain rfl:=gI c
 refine (zW (gZ (v1:=i6 0) rfl rfl ?_))
 exact ⟨rfl,H.pick []⟩
set_option maxRecDepth 100000 in
theorem Fbew (f:Series)(v1:Value)(r:Int×Int)(c:Fbe f=some r)(O S:List Nat)(w:World)(H:Hd O w w S [f1 gY v1 f.Samples]):
  Cl 72 [.agg [i6 f.Den,v1].toArray] w fun e k=>e= .returned (.tuple #[i6 r.1,i6 r.2])∧Hd O w k S []:=by
 unfold Fbe at c
 refine CW 49 Tryz.func72 ?_
 refine zB fun K3 D=>zA<| yQ rfl rfl (xQ (cs:=[i6 f.Den,v1]) rfl H) ?_
 rintro _ w6 ⟨y,rfl,H⟩
 refine zI (i6 0)<| zI (i6 0)<| RN D<| zB fun bx E=>zB fun bz F=>zA<| zF (nC rfl)<| Ld fK H 1 0 rfl rfl ?_
 have G:=H
 obtain ⟨I,J,c⟩:=zD c
 refine zO rfl rfl (zM en98 rfl) (Fafw f.Den 1 1000000 _ J _ _ _ (H.enter [] [])) ?_
 rintro _ b0 ⟨rfl,K⟩
 have H:=G.step (K.only:Only [] _ _)
 refine ⟨_,rfl,?_⟩
 refine RN F<| yB (b:=I) rfl (fun l=>?_) (fun l=>?_)
 ·have c:=zT l c
  refine zB fun b1 L=>zA<| zI (i6 (-1))<| zI (i6 9)<| RN L ?_
  obtain rfl:=gI c
  refine (zW (zV (cZ (v1:=i6 (-1)) (v2:=i6 9) rfl rfl rfl ?_)))
  exact ⟨rfl,H.pick []⟩
 have c:=zU l c
 refine zS (zG (E _ _ ?_))
 refine zB fun b2 M=>?_
 refine zB fun b3 P=>zA<| zF (aA rfl)<| Ld kS H 1 1 rfl rfl ?_
 obtain ⟨Q,R,c⟩:=zC c
 obtain ⟨b4,b5,T⟩:=SlF.len ((H.item (i:=0) rfl))
 refine zF (yK (xI u37 T) (congrArg (Value.int .i64) R)) ?_
 obtain ⟨U,V,c⟩:=zC c
 refine zF (zL (eQ (a:=Q) (b:=20000) rfl rfl) V)<| RN P<| yB (b:=U) rfl (fun m=>?_) (fun m=>?_)
 ·have c:=zT m c
  refine zB fun b6 X=>zA<| zI (i6 (-1))<| zI (i6 3)<| RN X ?_
  obtain rfl:=gI c
  refine (zW (zV (cZ (v1:=i6 (-1)) (v2:=i6 3) rfl rfl rfl ?_)))
  exact ⟨rfl,H.pick []⟩
 have c:=zU m c
 refine zS (zG (M _ _ ?_))
 obtain ⟨Y,Z,c⟩:=xM c
 refine yL [2,3,4,5,13,14,15,16,17,18,19,20,21,22,23,24,25,26,27,28,29,30,31,32,33,34,35,36,37,38,39,40,41,42,43,44,45,46,47,48] (fun (g:Unit)=>[]) (fun g wl=>Hd O w wl S []∧Y ()=some r) ?_ ?_
 ·skip
  refine zB fun b7 aa=>zA<| zI (i6 0)<| RN aa<| yA ?_
  unfold Fcf at c
  obtain ⟨ab,z,ac,c⟩:=yM c
  refine xA [2,3,4,5,13,14,15,16,17,18,19,20,21,22,23,24,25,26,27,28,29,30,31,32,33,34,35,36,37,38,39,40,41,42,43,44,45,46,47,48] (fun (g:Nat×Int)=>[(4,i6 g.2)]) (fun g wl=>Hd O w wl S [f1 gY v1 f.Samples,.blk y [i6 f.Den,v1] 39]∧fJ ab g.1 g.2=some r) (fun g=>g.1) (z,0) (zJ rfl zK) ⟨H.pick [0,1],c⟩ ?_
  clear H c
  rintro ⟨z,d⟩ ρ b8 ⟨H,c⟩
  obtain ⟨ad,rfl,c⟩:=yS c
  have c:=yT ac c
  refine zB fun b9 ae=>?_
  refine zB fun ca af=>zA<| zH (i6 d)<| zF (aA rfl)<| Ld kS H 1 1 rfl rfl ?_
  obtain ⟨ag,ah,c⟩:=zC c
  obtain ⟨cb,cc,ai⟩:=SlF.len ((H.item (i:=0) rfl))
  refine zF (yK (xI u37 ai) (congrArg (Value.int .i64) ah)) ?_
  obtain ⟨aj,ak,c⟩:=zC c
  refine zF (zL (xC (a:=d) (b:=ag) rfl rfl) ak)<| RN af<| yB (b:=aj) rfl (fun n=>?_) (fun n=>?_)
  ·have c:=zT n c
   refine zS (zG (ae _ _ ?_))
   refine zB fun cd al=>?_
   refine yA ?_
   refine zB fun ce am=>?_
   refine zB fun cf an=>zA<| zF (aA rfl)<| Ld kS H 1 1 rfl rfl<| zH (i6 d) ?_
   obtain ⟨j,o,c⟩:=zD c
   obtain ⟨ao,ap,cg,ch,aq,ar,au,av,aw⟩:=fQ (H.item (i:=0) rfl) o
   obtain rfl:=eG ar
   have H:=H.fz (.at ao (ap+d.toNat * 3) _) ⟨au,av,aw⟩
   refine zF (xG u37 bF aq rfl (zZ o).1 (zZ o).2.1 rfl rfl)<| zF (yK (yH (cs:=[i6 j.At,i6 j.N,i6 j.Mark]) kW rfl bF rfl (H.item (i:=2) rfl).2.2) rfl) ?_
   have ax:=H
   obtain ⟨h,ay,c⟩:=zD c
   refine zO rfl rfl (zM en99 rfl) (Fbiw j _ ay _ _ _ (H.enter [] [])) ?_
   rintro _ ci ⟨rfl,az⟩
   have H:=ax.step (az.only:Only [] _ _)
   refine ⟨_,rfl,?_⟩
   refine zI (i6 h)<| RN an<| zB fun cj a0=>zA<| zH (i6 h) ?_
   obtain ⟨a1,a2,c⟩:=zC c
   refine zF (zL (dJ (a:=h) (b:=0) rfl rfl) a2)<| RN a0<| yB (b:=a1) rfl (fun p=>?_) (fun p=>?_)
   ·have c:=zT p c
    refine zB fun ck a3=>zA<| zH (i6 d)<| zH (i6 h)<| zI (i6 d)<| zI (i6 h)<| RN a3 ?_
    obtain rfl:=gI c
    refine (zW (zV (yJ (zV (zV (yJ (zV (cZ (v1:=i6 d) (v2:=i6 h) rfl rfl rfl ?_))))))))
    exact ⟨rfl,H.pick []⟩
   have c:=zU p c
   refine zS (zG (am _ _ ?_))
   obtain ⟨A,c,a4⟩:=zD c
   refine yL [30,31,32,33,34,35,36,37,38,39,40,41,42,43,44,45,46,47] (fun (g:Unit)=>[(47,.bool A)]) (fun g wl=>Hd O w wl S [f1 gY v1 f.Samples,.blk y [i6 f.Den,v1] 39]) ?_ ?_
   ·skip
    have B:=H
    have H:=H.rebase
    have cl:=H
    refine WP_mix0 H [0,1,2,3,4,5,6,7,8,9,10,11,12,13,14,15,16,17] (kz [0,0,0,0,1,0,0,0,1,0,1,0,0,0,0,1,0,0]) mixed ?_
    refine XM (i6 d) ?_
    obtain ⟨a5,a6,c⟩:=zC c
    refine XP (fun _ _=>zL (eQ (a:=d) (b:=0) rfl rfl) a6)<| MxM.XL_splitb (b:=a5) rfl rfl rfl rfl (fun q=>?_) (fun q=>?_)
    ·have c:=zT q c
     refine XP (fun _ _=>aA rfl)<| XR kS H 1 1 rfl rfl<| XM (i6 d) ?_
     obtain ⟨a7,s,c⟩:=zD c
     obtain ⟨a8,a9,cm,cn,ba,bb,bc,bd,be⟩:=fQ (H.item (i:=0) rfl) s
     obtain rfl:=eG bb
     have H:=H.fz (.at a8 (a9+d.toNat * 3) _) ⟨bc,bd,be⟩
     refine XP (fun _ _=>xG u37 bF ba rfl (zZ s).1 (zZ s).2.1 rfl rfl)<| XP (fun _ _=>jB rfl)<| MxM.XL_read oS rfl rfl rfl (fun k t=>xO fK rfl (Cells.get ((H.sees t).item (i:=3) rfl).2.2 (i:=0) rfl))<| XP (fun _ _=>aA rfl)<| XR kS H 1 1 rfl rfl<| XM (i6 d) ?_
     obtain ⟨bf,bg,c⟩:=zC c
     refine XP (fun _ _=>bI (a:=d) (b:=1) rfl rfl bg) ?_
     obtain ⟨bh,u,c⟩:=zD c
     obtain ⟨bi,bj,co,cp,bk,bl,bm,bn,bo⟩:=fQ (H.item (i:=0) rfl) u
     obtain rfl:=eG bl
     have H:=H.fz (.at bi (bj+bf.toNat * 3) _) ⟨bm,bn,bo⟩
     refine XP (fun _ _=>xG u37 bF bk rfl (zZ u).1 (zZ u).2.1 rfl rfl)<| XP (fun _ _=>jB rfl)<| MxM.XL_read oS rfl rfl rfl (fun k t=>xO fK rfl (Cells.get ((H.sees t).item (i:=4) rfl).2.2 (i:=0) rfl)) ?_
     obtain ⟨bp,bq,c⟩:=zC c
     refine XP (fun _ _=>zL (aB (a:=a7.At) (b:=bh.At) rfl rfl) bq)<| XP (fun _ _=>yD (v:= .bool bp) rfl rfl)<| MxM.XL_nil fun cq hS=>?_
     have H:=H.sees hS
     have H:=B.rejoin H
     obtain rfl:=gI c
     exact (zG (meet ⟨(),(zJ rfl zK),H.pick [0,1]⟩))
    have c:=zU q c
    refine XO<| MxM.XL_offr oS rfl rfl rfl ?_
    refine XO<| XO<| XO<| MxM.XL_offr oS rfl rfl rfl ?_
    refine XO<| MxM.XL_offr oS rfl rfl rfl ?_
    refine XO<| XO<| XO<| XO<| MxM.XL_offr oS rfl rfl rfl ?_
    refine XO<| XP (fun _ _=>zY (v:= .bool false) rfl rfl)<| MxM.XL_nil fun cr hS=>?_
    have H:=H.sees hS
    have H:=B.rejoin H
    obtain rfl:=gI c
    exact (zG (meet ⟨(),(zJ rfl zK),H.pick [0,1]⟩))
   rintro _ ρ ct H
   have c:=a4
   refine yB (b:=A) rfl (fun x=>?_) (fun x=>?_)
   ·have c:=zT x c
    refine zB fun cu br=>zA<| zH (i6 d)<| zI (i6 d)<| zI (i6 10)<| RN br ?_
    obtain rfl:=gI c
    refine (zW (yJ (zV (zV (yJ (zV (cZ (v1:=i6 d) (v2:=i6 10) rfl rfl rfl ?_)))))))
    exact ⟨rfl,H.pick []⟩
   have c:=zU x c
   refine (zS (yV (zG (al _ _ ?_))))
   refine zA ?_
   refine zH (i6 d) ?_
   obtain ⟨C,bt,c⟩:=zC c
   refine zF (xN (a:=d) (b:=1) rfl rfl bt)<| zI (i6 C) ?_
   exact (zQ (zG (meet ⟨(ad,C),(zJ rfl zK),⟨H.pick [0,1],c⟩,Nat.lt_succ_self _⟩)))
  have c:=zU n c
  exact (xH (yI (yI (yU (zG (meet ⟨(),zK,⟨H.pick [],c⟩⟩))))))
 rintro _ ρ cv ⟨H,c⟩
 have c:=xR Z c
 refine zB fun cw bu=>zA<| zI (i6 (-1))<| zI (i6 0)<| RN bu ?_
 obtain rfl:=gI c
 refine (zW (cZ (v1:=i6 (-1)) (v2:=i6 0) rfl rfl rfl ?_))
 exact ⟨rfl,H.pick []⟩
theorem Fbhw (a:Series)(v1:Value)(r:Int)(c:Fbh a=some r)(O S:List Nat)(w:World)(H:Hd O w w S [f1 gY v1 a.Samples]):
  Cl 50 [.agg [i6 a.Den,v1].toArray] w fun e f=>e= .returned (i6 r)∧Hd O w f S []:=by
 unfold Fbh at c
 refine CW 11 Tryz.func50 ?_
 refine zB fun m g=>zA<| yQ rfl rfl (xQ (cs:=[i6 a.Den,v1]) rfl H) ?_
 rintro _ n ⟨o,rfl,H⟩
 refine zI (i6 0)<| RN g<| zB fun p h=>zA<| zF (yK (yH (cs:=[i6 a.Den,v1]) qB rfl wZ rfl (Hbc H 1 rfl)) rfl) ?_
 have i:=H
 obtain ⟨⟨d,b⟩,j,c⟩:=zD c
 refine zO rfl rfl (zM en72 rfl) (Fbew a v1 _ j _ _ _ (H.enter [] [0])) ?_
 rintro _ q ⟨rfl,k⟩
 have H:=i.step (k.only:Only [] _ _)
 refine ⟨_,rfl,?_⟩
 refine zH (.tuple #[i6 d,i6 b])<| zF (yP (v:=i6 d) rfl rfl)<| zF (yP (v:=i6 b) rfl rfl)<| zI (i6 d)<| zI (i6 b)<| RN h<| zB fun s l=>zA<| zH (i6 b)<| zI (i6 b)<| RN l ?_
 obtain rfl:=gI c
 refine (zW (gZ (v1:=i6 b) rfl rfl ?_))
 exact ⟨rfl,H.pick []⟩
theorem Fbtw (d:Int)(f:Int)(h:Int)(r:Bool)(c:Fbt d f h=some r)(O S:List Nat)(w:World)(H:Hd O w w S []):
  Cl 36 [i6 d,i6 f,i6 h] w fun e l=>e= .returned (.bool r)∧Hd O w l S []:=by
 unfold Fbt at c
 refine CW 15 Tryz.func36 ?_
 refine zB fun s m=>zA<| zI (.bool false)<| RN m ?_
 obtain ⟨j,c,n⟩:=zD c
 refine yL [6,7,8,9,10,11,12,13,14] (fun (g:Unit)=>[(6,.bool j)]) (fun g wl=>Hd O w wl S []) ?_ ?_
 ·skip
  refine zA ?_
  refine zH (i6 d)<| zH (i6 f) ?_
  obtain ⟨o,p,c⟩:=zC c
  refine zF (zL (xC (a:=d) (b:=f) rfl rfl) p)<| yR (b:=o) rfl rfl rfl (fun i=>?_) (fun i=>?_)
  ·have c:=zT i c
   refine yC ?_
   refine yC ?_
   refine yC ?_
   refine zF (yD (v:= .bool true) rfl rfl)<| zI (.bool true) ?_
   obtain rfl:=gI c
   exact (zQ (zG (meet ⟨(),(zJ rfl zK),H.pick []⟩)))
  have c:=zU i c
  refine zH (i6 d)<| zH (i6 h) ?_
  obtain ⟨k,q,c⟩:=zC c
  refine zF (zL (eQ (a:=d) (b:=h) rfl rfl) q)<| zF (zY (v:= .bool k) rfl rfl)<| zI (.bool k) ?_
  obtain rfl:=gI c
  exact (zQ (zG (meet ⟨(),(zJ rfl zK),H.pick []⟩)))
 rintro _ ρ t H
 have c:=n
 obtain rfl:=gI c
 refine (zW (gZ (v1:= .bool j) rfl rfl ?_))
 exact ⟨rfl,H.pick []⟩
set_option maxRecDepth 100000 in
theorem Fa4w (f:List gW)(v1:Value)(r:Int)(c:Fa4 f=some r)(O S:List Nat)(w:World)(H:Hd O w w S [f1 fH v1 f]):
  Cl 22 [v1] w fun e k=>e= .returned (i6 r)∧Hd O w k S []:=by
 unfold Fa4 at c
 refine CW 53 Tryz.func22 ?_
 refine zB fun K3 M=>zA<| zI (i6 0)<| RN M<| zB fun c8 N=>zB fun c9 P=>zA<| zH v1 ?_
 obtain ⟨Q,R,c⟩:=zC c
 obtain ⟨da,db,T⟩:=SlF.len ((H.item (i:=0) rfl))
 refine zF (yK (xI u22 T) (congrArg (Value.int .i64) R)) ?_
 obtain ⟨U,V,c⟩:=zC c
 refine zF (zL (eQ (a:=Q) (b:=50) rfl rfl) V)<| RN P<| yB (b:=U) rfl (fun l=>?_) (fun l=>?_)
 ·have c:=zT l c
  refine zB fun dc X=>zA<| zI (i6 3)<| RN X ?_
  obtain rfl:=gI c
  refine (zW (zV (gZ (v1:=i6 3) rfl rfl ?_)))
  exact ⟨rfl,H.pick []⟩
 have c:=zU l c
 refine zS (zG (N _ _ ?_))
 obtain ⟨Y,Z,c⟩:=xM c
 refine yL [2,3,4,5,9,10,11,12,13,14,15,16,17,18,19,20,21,22,23,24,25,26,27,28,29,30,31,32,33,34,35,36,37,38,39,40,41,42,43,44,45,46,47,48,49,50,51,52] (fun (g:Unit)=>[]) (fun g wl=>Hd O w wl S []∧Y ()=some r) ?_ ?_
 ·skip
  refine zB fun dd aa=>zA<| zI (i6 0)<| RN aa<| yA ?_
  unfold Fdc at c
  obtain ⟨ab,D,ac,c⟩:=yM c
  refine xA [2,3,4,5,9,10,11,12,13,14,15,16,17,18,19,20,21,22,23,24,25,26,27,28,29,30,31,32,33,34,35,36,37,38,39,40,41,42,43,44,45,46,47,48,49,50,51,52] (fun (g:Nat×Int)=>[(3,i6 g.2)]) (fun g wl=>Hd O w wl S [f1 fH v1 f]∧fJ ab g.1 g.2=some r) (fun g=>g.1) (D,0) (zJ rfl zK) ⟨H.pick [0],c⟩ ?_
  clear H c
  rintro ⟨D,d⟩ ρ de ⟨H,c⟩
  obtain ⟨ad,rfl,c⟩:=yS c
  have c:=yT ac c
  refine zB fun df ae=>?_
  refine zB fun dg af=>zA<| zH (i6 d)<| zH v1 ?_
  obtain ⟨ag,ah,c⟩:=zC c
  obtain ⟨dh,di,ai⟩:=SlF.len ((H.item (i:=0) rfl))
  refine zF (yK (xI u22 ai) (congrArg (Value.int .i64) ah)) ?_
  obtain ⟨aj,ak,c⟩:=zC c
  refine zF (zL (xC (a:=d) (b:=ag) rfl rfl) ak)<| RN af<| yB (b:=aj) rfl (fun m=>?_) (fun m=>?_)
  ·have c:=zT m c
   refine zS (zG (ae _ _ ?_))
   obtain ⟨al,am,c⟩:=xM c
   refine yL [2,4,5,15,16,17,18,19,20,21,22,23,24,25,26,27,28,29,30,31,32,33,34,35,36,37,38,39,40,41,42,43,44,45,46,47,48,49,50,51,52] (fun (g:Unit)=>[]) (fun g wl=>Hd O w wl S [f1 fH v1 f]∧al ()=some r) ?_ ?_
   ·skip
    refine yA ?_
    refine zB fun dj an=>?_
    refine zB fun dk ao=>zA<| zH v1<| zH (i6 d) ?_
    obtain ⟨E,n,c⟩:=zD c
    obtain ⟨ap,aq,dl,dm,ar,au,av,aw,ax⟩:=fQ (H.item (i:=0) rfl) n
    obtain ⟨ay,rfl,az⟩:=fZ au
    have H:=H.fzs [.at ap (aq+d.toNat * 4) _,.sl gY ay E.Series.Samples] ⟨⟨av,aw,ax⟩,az,trivial⟩
    refine zF (xG u22 bQ ar rfl (zZ n).1 (zZ n).2.1 rfl rfl)<| zF (mV rfl)<| zF (xO dW rfl (Cells.get (H.item (i:=1) rfl).2.2 (i:=0) rfl)) ?_
    have a0:=H
    obtain ⟨a1,a2,c⟩:=zD c
    refine zO rfl rfl (zM en49 rfl) (Fa9w E.Name _ a2 _ _ _ (H.enter [] [])) ?_
    rintro _ dn ⟨rfl,a3⟩
    have H:=a0.step (a3.only:Only [] _ _)
    refine ⟨_,rfl,?_⟩
    obtain ⟨a4,a5,c⟩:=zC c
    refine zF (zL (xX (p:=a1) rfl) a5)<| RN ao<| yB (b:=a4) rfl (fun o=>?_) (fun o=>?_)
    ·have c:=zT o c
     refine zB fun dp a6=>zA<| zI (i6 8)<| RN a6 ?_
     obtain rfl:=gI c
     refine (zW (zV (yJ (zV (zV (yJ (zV (gZ (v1:=i6 8) rfl rfl ?_))))))))
     exact ⟨rfl,H.pick []⟩
    have c:=zU o c
    refine zS (zG (an _ _ ?_))
    obtain ⟨a7,a8,c⟩:=xM c
    refine yL [2,4,22,23,24,25,26,27,28,29,30,31,32,33,34,35,36,37] (fun (g:Unit)=>[]) (fun g wl=>Hd O w wl S [f1 fH v1 f]∧a7 ()=some r) ?_ ?_
    ·skip
     refine zB fun dq a9=>zA<| zI (i6 0)<| RN a9<| yA ?_
     unfold Fci at c
     obtain ⟨ba,F,bb,c⟩:=yM c
     refine xA [2,4,22,23,24,25,26,27,28,29,30,31,32,33,34,35,36,37] (fun (g:Nat×Int)=>[(4,i6 g.2)]) (fun g wl=>Hd O w wl S [f1 fH v1 f]∧fJ ba g.1 g.2=some r) (fun g=>g.1) (F,0) (zJ rfl zK) ⟨H.pick [0],c⟩ ?_
     clear H c
     rintro ⟨F,h⟩ ρ dr ⟨H,c⟩
     obtain ⟨bc,rfl,c⟩:=yS c
     have c:=yT bb c
     refine zB fun ds bd=>?_
     refine zB fun dt be=>zA<| zH (i6 h)<| zH (i6 d) ?_
     obtain ⟨bf,bg,c⟩:=zC c
     refine zF (zL (xC (a:=h) (b:=d) rfl rfl) bg)<| RN be<| yB (b:=bf) rfl (fun q=>?_) (fun q=>?_)
     ·have c:=zT q c
      refine zS (zG (bd _ _ ?_))
      refine zB fun du bh=>?_
      refine yA ?_
      refine zB fun dv bi=>?_
      have bj:=H
      have H:=H.rebase
      have dw:=H
      refine WP_mix0 H [0,1,2,3,4,5,6,7,8,9,10] (kz [0,0,0,0,1,0,0,0,0,1,0]) mixed ?_
      refine XM v1<| XM (i6 h) ?_
      obtain ⟨G,s,c⟩:=zD c
      obtain ⟨bk,bl,dx,dy,bm,bn,bo,bp,bq⟩:=fQ (H.item (i:=0) rfl) s
      obtain ⟨br,rfl,bt⟩:=fZ bn
      have H:=H.fzs [.at bk (bl+h.toNat * 4) _,.sl gY br G.Series.Samples] ⟨⟨bo,bp,bq⟩,bt,trivial⟩
      refine XP (fun _ _=>xG u22 bQ bm rfl (zZ s).1 (zZ s).2.1 rfl rfl)<| XP (fun _ _=>mV rfl)<| MxM.XL_read oS rfl rfl rfl (fun k t=>xO dW rfl (Cells.get ((H.sees t).item (i:=1) rfl).2.2 (i:=0) rfl))<| XM v1<| XM (i6 d) ?_
      obtain ⟨I,u,c⟩:=zD c
      obtain ⟨bu,bv,dz,d0,bw,bx,bz,b0,b1⟩:=fQ (H.item (i:=0) rfl) u
      obtain ⟨b2,rfl,b3⟩:=fZ bx
      have H:=H.fzs [.at bu (bv+d.toNat * 4) _,.sl gY b2 I.Series.Samples] ⟨⟨bz,b0,b1⟩,b3,trivial⟩
      refine XP (fun _ _=>xG u22 bQ bw rfl (zZ u).1 (zZ u).2.1 rfl rfl)<| XP (fun _ _=>mV rfl)<| MxM.XL_read oS rfl rfl rfl (fun k t=>xO dW rfl (Cells.get ((H.sees t).item (i:=3) rfl).2.2 (i:=0) rfl)) ?_
      obtain ⟨b4,b5,c⟩:=zC c
      refine XP (fun _ _=>zL (fU (s1:=G.Name) (s2:=I.Name) rfl rfl) b5)<| MxM.XL_nil fun d1 hS=>?_
      have H:=H.sees hS
      have H:=bj.rejoin H
      refine (zG (bi _ _ ?_))
      refine yB (b:=b4) rfl (fun v=>?_) (fun v=>?_)
      ·have c:=zT v c
       refine zB fun d2 b6=>zA<| zI (i6 5)<| RN b6 ?_
       obtain rfl:=gI c
       refine (zW (yJ (zV (zV (yJ (zV (yJ (zV (zV (yJ (zV (gZ (v1:=i6 5) rfl rfl ?_))))))))))))
       exact ⟨rfl,H.pick []⟩
      have c:=zU v c
      refine (zS (yV (zG (bh _ _ ?_))))
      refine zA ?_
      refine zH (i6 h) ?_
      obtain ⟨J,b7,c⟩:=zC c
      refine zF (xN (a:=h) (b:=1) rfl rfl b7)<| zI (i6 J) ?_
      exact (zQ (zG (meet ⟨(bc,J),(zJ rfl zK),⟨H.pick [0],c⟩,Nat.lt_succ_self _⟩)))
     have c:=zU q c
     exact (xH (yI (yI (yU (zG (meet ⟨(),zK,⟨H.pick [0],c⟩⟩))))))
    rintro _ ρ d3 ⟨H,c⟩
    have c:=xR a8 c
    refine zB fun d4 b8=>?_
    refine zB fun d5 b9=>zA<| zH v1<| zH (i6 d) ?_
    obtain ⟨x,y,c⟩:=zD c
    obtain ⟨ca,cb,d6,d7,cc,cd,ce,cf,cg⟩:=fQ (H.item (i:=0) rfl) y
    obtain ⟨z,rfl,ch⟩:=fZ cd
    have H:=H.fzs [.at ca (cb+d.toNat * 4) _,.sl gY z x.Series.Samples] ⟨⟨ce,cf,cg⟩,ch,trivial⟩
    refine zF (xG u22 bQ cc rfl (zZ y).1 (zZ y).2.1 rfl rfl)<| zF (kV rfl)<| zF (yK (yH (cs:=[i6 x.Series.Den,z]) qB rfl wZ rfl (Cells.drop (H.item (i:=1) rfl).2.2 1 2)) rfl) ?_
    have ci:=H
    obtain ⟨j,cj,c⟩:=zD c
    refine zO rfl rfl (zM en50 rfl) (Fbhw x.Series z _ cj _ _ _ (H.enter [] [2])) ?_
    rintro _ d8 ⟨rfl,ck⟩
    have H:=ci.step (ck.only:Only [] _ _)
    refine ⟨_,rfl,?_⟩
    refine zI (i6 j)<| RN b9<| zB fun d9 cl=>zA<| zH (i6 j) ?_
    obtain ⟨cm,cn,c⟩:=zC c
    refine zF (zL (dJ (a:=j) (b:=0) rfl rfl) cn)<| RN cl<| yB (b:=cm) rfl (fun A=>?_) (fun A=>?_)
    ·have c:=zT A c
     refine zB fun ea co=>zA<| zH (i6 j)<| zI (i6 j)<| RN co ?_
     obtain rfl:=gI c
     refine (zW (zV (yJ (zV (zV (yJ (zV (gZ (v1:=i6 j) rfl rfl ?_))))))))
     exact ⟨rfl,H.pick []⟩
    have c:=zU A c
    refine zS (zG (b8 _ _ ?_))
    refine zB fun eb cp=>zA<| zH v1<| zH (i6 d) ?_
    obtain ⟨K,B,c⟩:=zD c
    obtain ⟨cq,cr,ec,ed,ct,cu,cv,cw,cx⟩:=fQ (H.item (i:=0) rfl) B
    obtain ⟨cy,rfl,cz⟩:=fZ cu
    have H:=H.fzs [.at cq (cr+d.toNat * 4) _,.sl gY cy K.Series.Samples] ⟨⟨cv,cw,cx⟩,cz,trivial⟩
    refine zF (xG u22 bQ ct rfl (zZ B).1 (zZ B).2.1 rfl rfl)<| zF (vF rfl)<| zF (xO fK rfl (Cells.get (H.item (i:=3) rfl).2.2 (i:=3) rfl)) ?_
    have c0:=H
    obtain ⟨c1,c2,c⟩:=zD c
    refine zO rfl rfl (zM en36 rfl) (Fbtw K.Long 0 1099511627776 _ c2 _ _ _ (H.enter [] [])) ?_
    rintro _ ee ⟨rfl,c3⟩
    have H:=c0.step (c3.only:Only [] _ _)
    refine ⟨_,rfl,?_⟩
    refine RN cp<| yB (b:=c1) rfl (fun C=>?_) (fun C=>?_)
    ·have c:=zT C c
     refine zB fun ef c4=>zA<| zI (i6 9)<| RN c4 ?_
     obtain rfl:=gI c
     refine (zW (yJ (zV (zV (yJ (zV (gZ (v1:=i6 9) rfl rfl ?_)))))))
     exact ⟨rfl,H.pick []⟩
    have c:=zU C c
    exact (zS (yV (zG (meet ⟨(),zK,⟨H.pick [0],c⟩⟩))))
   rintro _ ρ eg ⟨H,c⟩
   have c:=xR am c
   refine zA ?_
   refine zH (i6 d) ?_
   obtain ⟨L,c5,c⟩:=zC c
   refine zF (xN (a:=d) (b:=1) rfl rfl c5)<| zI (i6 L) ?_
   exact (zQ (zG (meet ⟨(ad,L),(zJ rfl zK),⟨H.pick [0],c⟩,Nat.lt_succ_self _⟩)))
  have c:=zU m c
  exact (xH (yI (yI (yU (zG (meet ⟨(),zK,⟨H.pick [],c⟩⟩))))))
 rintro _ ρ eh ⟨H,c⟩
 have c:=xR Z c
 refine zB fun ei c6=>zA<| zI (i6 0)<| RN c6 ?_
 obtain rfl:=gI c
 refine (zW (gZ (v1:=i6 0) rfl rfl ?_))
 exact ⟨rfl,H.pick []⟩
theorem Falw (h:List gW)(f:Str)(v1:Value)(r:Int)(c:Fal h f=some r)(O S:List Nat)(w:World)(H:Hd O w w S [f1 fH v1 h]):
  Cl 23 [v1,sb f] w fun e p=>e= .returned (i6 r)∧Hd O w p S []:=by
 unfold Fal at c
 refine CW 20 Tryz.func23 ?_
 refine zB fun K3 q=>zA<| zI (i6 0)<| RN q ?_
 obtain ⟨s,t,c⟩:=xM c
 refine yL [4,5,6,7,8,9,10,11,12,13,14,15,16,17,18,19] (fun (g:Unit)=>[]) (fun g wl=>Hd O w wl S []∧s ()=some r) ?_ ?_
 ·skip
  refine zB fun ab u=>zA<| zI (i6 0)<| RN u<| yA ?_
  unfold Fcq at c
  obtain ⟨v,m,x,c⟩:=yM c
  refine xA [4,5,6,7,8,9,10,11,12,13,14,15,16,17,18,19] (fun (g:Nat×Int)=>[(5,i6 g.2)]) (fun g wl=>Hd O w wl S [f1 fH v1 h]∧fJ v g.1 g.2=some r) (fun g=>g.1) (m,0) (zJ rfl zK) ⟨H.pick [0],c⟩ ?_
  clear H c
  rintro ⟨m,d⟩ ρ ac ⟨H,c⟩
  obtain ⟨y,rfl,c⟩:=yS c
  have c:=yT x c
  refine zB fun ad z=>?_
  refine zB fun ae A=>zA<| zH (i6 d)<| zH v1 ?_
  obtain ⟨B,C,c⟩:=zC c
  obtain ⟨af,ag,D⟩:=SlF.len ((H.item (i:=0) rfl))
  refine zF (yK (xI u22 D) (congrArg (Value.int .i64) C)) ?_
  obtain ⟨E,F,c⟩:=zC c
  refine zF (zL (xC (a:=d) (b:=B) rfl rfl) F)<| RN A<| yB (b:=E) rfl (fun j=>?_) (fun j=>?_)
  ·have c:=zT j c
   refine zS (zG (z _ _ ?_))
   refine zB fun ah G=>?_
   refine yA ?_
   refine zB fun ai I=>zA<| zH v1<| zH (i6 d) ?_
   obtain ⟨n,k,c⟩:=zD c
   obtain ⟨J,K,aj,ak,L,M,N,P,Q⟩:=fQ (H.item (i:=0) rfl) k
   obtain ⟨R,rfl,T⟩:=fZ M
   have H:=H.fzs [.at J (K+d.toNat * 4) _,.sl gY R n.Series.Samples] ⟨⟨N,P,Q⟩,T,trivial⟩
   refine zF (xG u22 bQ L rfl (zZ k).1 (zZ k).2.1 rfl rfl)<| zF (mV rfl)<| zF (xO dW rfl (Cells.get (H.item (i:=1) rfl).2.2 (i:=0) rfl))<| zH (sb f) ?_
   obtain ⟨U,V,c⟩:=zC c
   refine zF (zL (fU (s1:=n.Name) (s2:=f) rfl rfl) V)<| RN I<| yB (b:=U) rfl (fun l=>?_) (fun l=>?_)
   ·have c:=zT l c
    refine zB fun al X=>zA<| zH (i6 d)<| zI (i6 d)<| RN X ?_
    obtain rfl:=gI c
    refine (zW (yJ (zV (zV (yJ (zV (gZ (v1:=i6 d) rfl rfl ?_)))))))
    exact ⟨rfl,H.pick []⟩
   have c:=zU l c
   refine (zS (yV (zG (G _ _ ?_))))
   refine zA ?_
   refine zH (i6 d) ?_
   obtain ⟨o,Y,c⟩:=zC c
   refine zF (xN (a:=d) (b:=1) rfl rfl Y)<| zI (i6 o) ?_
   exact (zQ (zG (meet ⟨(y,o),(zJ rfl zK),⟨H.pick [0],c⟩,Nat.lt_succ_self _⟩)))
  have c:=zU j c
  exact (xH (yI (yI (yU (zG (meet ⟨(),zK,⟨H.pick [],c⟩⟩))))))
 rintro _ ρ am ⟨H,c⟩
 have c:=xR t c
 refine zB fun an Z=>zA<| zI (i6 (-1))<| RN Z ?_
 obtain rfl:=gI c
 refine (zW (gZ (v1:=i6 (-1)) rfl rfl ?_))
 exact ⟨rfl,H.pick []⟩
theorem Fbow (d:Int)(f:Int)(h:Int)(r:Bool)(c:Fbo d f h=some r)(O S:List Nat)(w:World)(H:Hd O w w S []):
  Cl 24 [i6 d,i6 f,i6 h] w fun e l=>e= .returned (.bool r)∧Hd O w l S []:=by
 unfold Fbo at c
 refine CW 15 Tryz.func24 ?_
 refine zB fun s m=>zA<| zI (.bool false)<| RN m ?_
 obtain ⟨j,c,n⟩:=zD c
 refine yL [6,7,8,9,10,11,12,13,14] (fun (g:Unit)=>[(6,.bool j)]) (fun g wl=>Hd O w wl S []) ?_ ?_
 ·skip
  refine zA ?_
  refine zH (i6 d)<| zH (i6 f) ?_
  obtain ⟨o,p,c⟩:=zC c
  refine zF (zL (xC (a:=d) (b:=f) rfl rfl) p)<| yR (b:=o) rfl rfl rfl (fun i=>?_) (fun i=>?_)
  ·have c:=zT i c
   refine yC ?_
   refine yC ?_
   refine yC ?_
   refine zF (yD (v:= .bool true) rfl rfl)<| zI (.bool true) ?_
   obtain rfl:=gI c
   exact (zQ (zG (meet ⟨(),(zJ rfl zK),H.pick []⟩)))
  have c:=zU i c
  refine zH (i6 d)<| zH (i6 h) ?_
  obtain ⟨k,q,c⟩:=zC c
  refine zF (zL (eQ (a:=d) (b:=h) rfl rfl) q)<| zF (zY (v:= .bool k) rfl rfl)<| zI (.bool k) ?_
  obtain rfl:=gI c
  exact (zQ (zG (meet ⟨(),(zJ rfl zK),H.pick []⟩)))
 rintro _ ρ t H
 have c:=n
 obtain rfl:=gI c
 refine (zW (gZ (v1:= .bool j) rfl rfl ?_))
 exact ⟨rfl,H.pick []⟩
end Go.Proofs.YtgmikmoapfmedaaGreatDoor.L
