/- Walks: what each function computes, for every argument; no condition but those that stand in the statements. -/
import Derived.Test.YtgmikmoapfmedaaGreatDoorVV0
namespace Go.Proofs.YtgmikmoapfmedaaGreatDoor.L
open Go.RowKit Go.OB Go.Lf
set_option maxHeartbeats 4000000
theorem Fdhw (d:gB)(f:Nat)(h:Value)(i:Value)(j:Value)(r:gB)(c:Fdh d=some r)(O S:List Nat)(w:World)(H:Hd O w w S [.own Rp.str h 9 d.r.Phases,.own gX i 129 d.r.Moves,.own fB j 132 d.r.Rules,.blk f [sb d.text,i6 d.at_,i6 d.now.kind,i6 d.now.at_,i6 d.now.n,sb d.now.text,h,i,j] 107]):
  Cl 101 [fA f] w fun e A=> ∃u9 s t,e= .returned (.tuple #[])∧Hd O w A S [.own Rp.str u9 9 r.r.Phases,.own gX s 129 r.r.Moves,.own fB t 132 r.r.Rules,.blk f [sb r.text,i6 r.at_,i6 r.now.kind,i6 r.now.at_,i6 r.now.n,sb r.now.text,u9,s,t] 107]:=by
 unfold Fdh at c
 refine CW 66 Tryz.func101 ?_
 refine yA ?_
 unfold Few at c
 obtain ⟨B,u,C,c⟩:=yM c
 refine xA [2,3,4,5,6,7,8,9,10,11,12,13,14,15,16,17,18,19,20,21,22,23,24,25,26,27,28,29,30,31,32,33,34,35,36,37,38,39,40,41,42,43,44,45,46,47,48,49,50,51,52,53,54,55,56,57,58,59,60,61,62,63,64,65] (fun (g:Nat×Int)=>[]) (fun g wl=>Hd O w wl S [.own Rp.str h 9 d.r.Phases,.own gX i 129 d.r.Moves,.own fB j 132 d.r.Rules,.blk f [sb d.text,i6 g.2,i6 d.now.kind,i6 d.now.at_,i6 d.now.n,sb d.now.text,h,i,j] 107]∧fJ B g.1 g.2=some r) (fun g=>g.1) (u,d.at_) zK ⟨H.pick [0,1,2,3],c⟩ ?_
 clear H c
 rintro ⟨u,l⟩ ρ ak ⟨H,c⟩
 obtain ⟨D,rfl,c⟩:=yS c
 have c:=yT C c
 refine zB fun al E=>?_
 refine zB fun am F=>?_
 have G:=H
 have H:=H.rebase
 have an:=H
 refine WP_mix0 H [0,1,2,3,4,5,6,7,8,9] (kz [0,0,0,1,0,0,0,1,0,0]) mixed ?_
 refine XM (fA f)<| XP (fun _ _=>yE rfl)<| XP (fun _ _=>bZ rfl)<| XR fK H 3 1 rfl rfl<| XM (fA f)<| XP (fun _ _=>yE rfl)<| XP (fun _ _=>mF rfl)<| XR dW H 3 0 rfl rfl ?_
 obtain ⟨I,J,c⟩:=zC c
 refine XP (fun _ _=>yK (bM (s1:=d.text) u9 rfl) (congrArg (Value.int .i64) J)) ?_
 obtain ⟨K,L,c⟩:=zC c
 refine XP (fun _ _=>zL (xC (a:=l) (b:=I) rfl rfl) L)<| MxM.XL_nil fun ao hS=>?_
 have H:=H.sees hS
 have H:=G.rejoin H
 refine (zG (F _ _ ?_))
 refine yB (b:=K) rfl (fun m=>?_) (fun m=>?_)
 ·have c:=zT m c
  refine zS (zG (E _ _ ?_))
  refine yA ?_
  refine zB fun ap M=>?_
  have N:=H
  have H:=H.rebase
  have aq:=H
  refine WP_mix0 H [0,1,2,3,4,5,6,7,8] (kz [0,0,0,1,0,0,0,1,0]) mixed ?_
  refine XM (fA f)<| XP (fun _ _=>yE rfl)<| XP (fun _ _=>mF rfl)<| XR dW H 3 0 rfl rfl<| XM (fA f)<| XP (fun _ _=>yE rfl)<| XP (fun _ _=>bZ rfl)<| XR fK H 3 1 rfl rfl ?_
  obtain ⟨k,P,c⟩:=zD c
  refine XP (fun _ _=>nT (s1:=d.text) (q:=l) u9 rfl rfl P)<| MxM.XL_nil fun ar hS=>?_
  have H:=H.sees hS
  have H:=N.rejoin H
  refine (zG (M _ _ ?_))
  refine yA ?_
  obtain ⟨x,c,Q⟩:=zD c
  refine yL [22,23,24,25,26] (fun (g:Unit)=>[(22,.bool x)]) (fun g wl=>Hd O w wl S [.own Rp.str h 9 d.r.Phases,.own gX i 129 d.r.Moves,.own fB j 132 d.r.Rules,.blk f [sb d.text,i6 l,i6 d.now.kind,i6 d.now.at_,i6 d.now.n,sb d.now.text,h,i,j] 107]) ?_ ?_
  ·skip
   refine zB fun au R=>zA ?_
   obtain ⟨y,T,c⟩:=zC c
   refine zF (zL (xW (a:=k) (b:=32) rfl rfl) T)<| zI (.bool y)<| RN R<| yB (b:=y) rfl (fun o=>?_) (fun o=>?_)
   ·have c:=zT o c
    obtain rfl:=gI c
    exact (zS (zG (meet ⟨(),(zJ rfl zK),H.pick [0,1,2,3]⟩)))
   have c:=zU o c
   refine zB fun av U=>zA ?_
   obtain ⟨V,X,c⟩:=zC c
   refine zF (zL (xW (a:=k) (b:=9) rfl rfl) X)<| zI (.bool V)<| RN U ?_
   obtain ⟨Y,c⟩:=yO c
   refine xJ Y ?_
   refine zB fun aw Z=>zA ?_
   obtain ⟨aa,ab,c⟩:=zC c
   refine zF (zL (xW (a:=k) (b:=10) rfl rfl) ab)<| zI (.bool aa)<| RN Z ?_
   obtain ⟨ac,c⟩:=yO c
   refine xJ ac ?_
   refine zA ?_
   obtain ⟨ad,ae,c⟩:=zC c
   refine zF (zL (xW (a:=k) (b:=13) rfl rfl) ae)<| zI (.bool ad) ?_
   obtain rfl:=gI c
   exact (zQ (zG (meet ⟨(),(zJ rfl zK),H.pick [0,1,2,3]⟩)))
  rintro _ ρ ax H
  have c:=Q
  refine yB (b:=x) rfl (fun p=>?_) (fun p=>?_)
  ·have c:=zT p c
   refine zA ?_
   refine zH (fA f)<| zF (yE rfl)<| zF (bZ rfl)<| Ld fK H 3 1 rfl rfl ?_
   obtain ⟨z,af,c⟩:=zC c
   refine zF (xN (a:=l) (b:=1) rfl rfl af)<| zF (yE rfl)<| zF (bZ rfl)<| yZ rfl (xP H 3 rfl sz3 rfl (v:=i6 z) rfl rfl rfl) ?_
   rintro ay H
   exact (zQ (yV (yV (zG (meet ⟨(D,z),zK,⟨H.pick [0,1,2,3],c⟩,Nat.lt_succ_self _⟩)))))
  have c:=zU p c
  refine zB fun az ag=>zA ?_
  obtain ⟨ah,ai,c⟩:=zC c
  refine zF (zL (xW (a:=k) (b:=35) rfl rfl) ai)<| zI (.bool ah)<| RN ag ?_
  obtain ⟨aj,c⟩:=yO c
  refine xJ aj ?_
  obtain rfl:=gI c
  refine (zW (yJ (yJ (zV (yJ (aEp rfl ?_))))))
  exact ⟨h,i,j,rfl,H.pick [0,1,2,3]⟩
 have c:=zU m c
 obtain rfl:=gI c
 refine (xH (yI (yI (yU (kP rfl ?_)))))
 exact ⟨h,i,j,rfl,H.pick [0,1,2,3]⟩
theorem Fb3w (f:Str)(d:Str)(r:Bool)(c:Fb3 f d=some r)(O S:List Nat)(w:World)(H:Hd O w w S []):
  Cl 140 [sb f,sb d] w fun e h=>e= .returned (.bool r)∧Hd O w h S []:=by
 unfold Fb3 at c
 refine CW 18 Tryz.func140 ?_
 refine zB fun x i=>zA<| zI (.bool false)<| RN i<| zB fun y j=>zA<| zH (sb f) ?_
 obtain ⟨k,l,c⟩:=zC c
 refine zF (yK (bM (s1:=f) u9 rfl) (congrArg (Value.int .i64) l))<| zH (sb d) ?_
 obtain ⟨m,n,c⟩:=zC c
 refine zF (yK (bM (s1:=d) u9 rfl) (congrArg (Value.int .i64) n)) ?_
 obtain ⟨z,o,c⟩:=zC c
 refine zF (zL (bK (a:=k) (b:=m) rfl rfl) o) ?_
 obtain ⟨p,c⟩:=eX c
 refine dI true p ?_
 refine zH (sb f)<| zH (sb d) ?_
 obtain ⟨A,q,c⟩:=zC c
 refine zF (yK (bM (s1:=d) u9 rfl) (congrArg (Value.int .i64) q)) ?_
 obtain ⟨s,t,c⟩:=zD c
 refine zF (Do_cut_h (s1:=f) u9 rfl rfl t)<| zH (sb d) ?_
 obtain ⟨g,u,c⟩:=zC c
 refine zF (zL (fU (s1:=s) (s2:=d) rfl rfl) u)<| zF (yD (v:= .bool g) rfl rfl)<| zI (.bool g)<| RN j ?_
 obtain rfl:=gI c
 refine (zW (gZ (v1:= .bool g) rfl rfl ?_))
 exact ⟨rfl,H.pick []⟩
theorem Fdiw (a:Str)(c:Str)(r:Str)(b:Fdi a c=some r)(O S:List Nat)(w:World)(H:Hd O w w S []):
  Cl 167 [sb a,sb c] w fun e d=>e= .returned (sb r)∧Hd O w d S []:=by
 unfold Fdi at b
 refine CW 13 Tryz.func167 ?_
 refine zB fun n f=>zA<| zI (.string (bs []))<| RN f<| zB fun o g=>zB fun p h=>zA<| zH (sb a)<| zH (sb c) ?_
 have i:=H
 obtain ⟨q,j,b⟩:=zD b
 refine zO rfl rfl (zM en140 rfl) (Fb3w a c _ j _ _ _ (H.enter [] [])) ?_
 rintro _ s ⟨rfl,k⟩
 have H:=i.step (k.only:Only [] _ _)
 refine ⟨_,rfl,?_⟩
 refine RN h ?_
 obtain ⟨l,b⟩:=yO b
 refine xJ l ?_
 refine zS (zG (g _ _ ?_))
 refine zB fun t m=>zA<| zH (sb a)<| zI (sb a)<| RN m ?_
 obtain rfl:=gI b
 refine (zW (gZ (v1:=sb a) rfl rfl ?_))
 exact ⟨rfl,H.pick []⟩
theorem Fd0w (a:Str)(b:Str)(r:Str)(c:Fd0 a b=some r)(O S:List Nat)(w:World)(H:Hd O w w S []):
  Cl 139 [sb a,sb b] w fun e f=>e= .returned (sb r)∧Hd O w f S []:=by
 unfold Fd0 at c
 refine CW 8 Tryz.func139 ?_
 refine zB fun l g=>zA<| zI (.string (bs []))<| RN g<| zB fun m h=>zA<| zH (sb a)<| zH (sb b) ?_
 have i:=H
 obtain ⟨d,j,c⟩:=zD c
 refine zO rfl rfl (zM en167 rfl) (Fdiw a b _ j _ _ _ (H.enter [] [])) ?_
 rintro _ n ⟨rfl,k⟩
 have H:=i.step (k.only:Only [] _ _)
 refine ⟨_,rfl,?_⟩
 refine zI (sb d)<| RN h ?_
 obtain rfl:=gI c
 refine (zW (gZ (v1:=sb d) rfl rfl ?_))
 exact ⟨rfl,H.pick []⟩
theorem Fdlw (d:gB)(f:Nat)(g:Value)(h:Value)(j:Value)(r:gB)(c:Fdl d=some r)(O S:List Nat)(w:World)(H:Hd O w w S [.own Rp.str g 9 d.r.Phases,.own gX h 129 d.r.Moves,.own fB j 132 d.r.Rules,.blk f [sb d.text,i6 d.at_,i6 d.now.kind,i6 d.now.at_,i6 d.now.n,sb d.now.text,g,h,j] 107,.fz (.gi 5)]):
  Cl 102 [fA f] w fun e y=> ∃p q s,e= .returned (.tuple #[])∧Hd O w y S [.own Rp.str p 9 r.r.Phases,.own gX q 129 r.r.Moves,.own fB s 132 r.r.Rules,.blk f [sb r.text,i6 r.at_,i6 r.now.kind,i6 r.now.at_,i6 r.now.n,sb r.now.text,p,q,s] 107]:=by
 unfold Fdl at c
 refine CW 55 Tryz.func102 ?_
 refine zB fun al z=>zA<| zH (fA f)<| zF (yE rfl)<| zF (dF rfl)<| zF (qG rfl)<| Ld dW H 3 5 rfl rfl<| zI (sb d.now.text)<| RN z<| zB fun am A=>zA<| zH (sb d.now.text) ?_
 obtain ⟨⟨k,B⟩,C,c⟩:=zD c
 refine zO rfl rfl (zM en137 rfl) (E.Fc2w d.now.text _ C _ _ _ (H.enter [] [4])) ?_
 rintro _ an ⟨l,rfl,D⟩
 have H:=H.back1 [4] rfl D
 refine ⟨_,rfl,?_⟩
 refine zH (.tuple #[i6 k,l])<| zF (yP (v:=i6 k) rfl rfl)<| zF (yP (v:=l) rfl rfl)<| zI (i6 k)<| zI l<| RN A<| yA<| zB fun ao F=>zA<| zH (sb d.now.text) ?_
 have G:=H
 obtain ⟨t,I,c⟩:=zD c
 refine zO rfl rfl (zM en67 rfl) (Fayw d.now.text _ I _ _ _ (H.enter [] [])) ?_
 rintro _ ap ⟨rfl,J⟩
 have H:=G.step (J.only:Only [] _ _)
 refine ⟨_,rfl,?_⟩
 refine zI (.bool t)<| RN F<| yB (b:=t) rfl (fun m=>?_) (fun m=>?_)
 ·have c:=zT m c
  refine zA ?_
  refine zH (fA f)<| zF (yE rfl)<| zF (dF rfl)<| zF (bW rfl)<| yZ rfl (xP H 3 rfl sz3 rfl (v:=i6 1) rfl rfl rfl) ?_
  rintro aq H
  obtain rfl:=gI c
  refine (zQ (yV (kP rfl ?_)))
  exact ⟨g,h,j,rfl,H.pick [0,1,2,3]⟩
 have c:=zU m c
 refine zB fun ar K=>zA<| zH (sb d.now.text) ?_
 have L:=H
 obtain ⟨u,M,c⟩:=zD c
 refine zO rfl rfl (zM en41 rfl) (Fagw d.now.text _ M _ _ _ (H.enter [] [])) ?_
 rintro _ au ⟨rfl,N⟩
 have H:=L.step (N.only:Only [] _ _)
 refine ⟨_,rfl,?_⟩
 refine zI (.bool u)<| RN K<| yB (b:=u) rfl (fun o=>?_) (fun o=>?_)
 ·have c:=zT o c
  refine zA ?_
  refine zH (fA f)<| zF (yE rfl)<| zF (dF rfl)<| zF (bW rfl)<| yZ rfl (xP H 3 rfl sz3 rfl (v:=i6 2) rfl rfl rfl) ?_
  rintro av H
  obtain rfl:=gI c
  refine (zQ (yV (kP rfl ?_)))
  exact ⟨g,h,j,rfl,H.pick [0,1,2,3]⟩
 have c:=zU o c
 refine zB fun aw P=>zA<| zH l ?_
 obtain ⟨ax,Q,c⟩:=zC c
 refine zF (zL (Do_eqlif ui178 (H.item (i:=5) rfl) rfl) Q) ?_
 obtain ⟨R,c,T⟩:=zD c
 refine eF 6 [34,35,36,37,38,39] [(39,.bool R)] (fun wl=>Hd O w wl S [.own Rp.str g 9 d.r.Phases,.own gX h 129 d.r.Moves,.own fB j 132 d.r.Rules,.blk f [sb d.text,i6 d.at_,i6 d.now.kind,i6 d.now.at_,i6 d.now.n,sb d.now.text,g,h,j] 107,.fz (.gi 5),.fz (.ic l B)]) ?_ ?_
 ·skip
  obtain ⟨U,c⟩:=eX c
  refine dI true U ?_
  refine zH (i6 k) ?_
  have V:=H
  obtain ⟨X,Y,c⟩:=zD c
  refine zO rfl rfl (zM en138 rfl) (E.Fc7w k _ Y _ _ _ (H.enter [] [])) ?_
  rintro _ ay ⟨rfl,Z⟩
  have H:=V.step (Z.only:Only [] _ _)
  refine ⟨_,rfl,?_⟩
  refine zH (sb d.now.text) ?_
  obtain ⟨aa,ab,c⟩:=zC c
  refine zF (zL (fU (s1:=X) (s2:=d.now.text) rfl rfl) ab)<| zF (yD (v:= .bool aa) rfl rfl) ?_
  obtain rfl:=gI c
  exact zQ (zG (meet ⟨(zJ rfl zK),H.pick [0,1,2,3,4,5]⟩))
 rintro ρ az H
 have c:=T
 obtain ⟨ac,c⟩:=eX c
 refine dI true ac ?_
 refine zH (sb d.now.text) ?_
 have ad:=H
 obtain ⟨ae,af,c⟩:=zD c
 refine zO rfl rfl (zM en139 rfl) (Fd0w d.now.text [45] _ af _ _ _ (H.enter [] [])) ?_
 rintro _ a0 ⟨rfl,ag⟩
 have H:=ad.step (ag.only:Only [] _ _)
 refine ⟨_,rfl,?_⟩
 obtain ⟨ah,ai,c⟩:=zC c
 refine zF (yK (bM (s1:=ae) u9 rfl) (congrArg (Value.int .i64) ai)) ?_
 obtain ⟨x,aj,c⟩:=zC c
 refine zF (zL (aB (a:=ah) (b:=16) rfl rfl) aj)<| zF (yD (v:= .bool x) rfl rfl)<| zI (.bool x)<| RN P ?_
 obtain ⟨ak,c⟩:=eX c
 refine kF ak ?_
 refine zA ?_
 refine zH (fA f)<| zH (fA f)<| zH (i6 k)<| zF (yE rfl)<| zF (dF rfl)<| zF (bW rfl)<| yZ rfl (xP H 3 rfl sz3 rfl (v:=i6 3) rfl rfl rfl) ?_
 rintro a1 H
 refine zF (yE rfl)<| zF (dF rfl)<| zF (fa105_2 rfl)<| yZ rfl (xP H 3 rfl sz3 rfl (v:=i6 k) rfl rfl rfl) ?_
 rintro a2 H
 obtain rfl:=gI c
 refine (zQ (yV (kP rfl ?_)))
 exact ⟨g,h,j,rfl,H.pick [0,1,2,3]⟩
theorem Fcsw (a:Str)(b:Str)(r:Bool)(c:Fcs a b=some r)(O S:List Nat)(w:World)(H:Hd O w w S []):
  Cl 103 [sb a,sb b] w fun e f=>e= .returned (.bool r)∧Hd O w f S []:=by
 unfold Fcs at c
 refine CW 8 Tryz.func103 ?_
 refine zB fun l g=>zA<| zI (.bool false)<| RN g<| zB fun m h=>zA<| zH (sb a)<| zH (sb b) ?_
 have i:=H
 obtain ⟨d,j,c⟩:=zD c
 refine zO rfl rfl (zM en140 rfl) (Fb3w a b _ j _ _ _ (H.enter [] [])) ?_
 rintro _ n ⟨rfl,k⟩
 have H:=i.step (k.only:Only [] _ _)
 refine ⟨_,rfl,?_⟩
 refine zI (.bool d)<| RN h ?_
 obtain rfl:=gI c
 refine (zW (gZ (v1:= .bool d) rfl rfl ?_))
 exact ⟨rfl,H.pick []⟩
theorem Fasw (h:gB)(f:Nat)(u:Value)(x:Value)(y:Value)(r:gB)(c:Fas h=some r)(O S:List Nat)(w:World)(H:Hd O w w S [.own Rp.str u 9 h.r.Phases,.own gX x 129 h.r.Moves,.own fB y 132 h.r.Rules,.blk f [sb h.text,i6 h.at_,i6 h.now.kind,i6 h.now.at_,i6 h.now.n,sb h.now.text,u,x,y] 107,.fz (.gi 5)]):
  Cl 78 [fA f] w fun e o=> ∃F G I,e= .returned (.tuple #[])∧Hd O w o S [.own Rp.str F 9 r.r.Phases,.own gX G 129 r.r.Moves,.own fB I 132 r.r.Rules,.blk f [sb r.text,i6 r.at_,i6 r.now.kind,i6 r.now.at_,i6 r.now.n,sb r.now.text,F,G,I] 107]:=by
 unfold Fas at c
 refine CW 107 Tryz.func78 ?_
 refine zB fun b8 U=>zA<| zH (fA f) ?_
 obtain ⟨d,V,c⟩:=zD c
 refine zO rfl rfl (zM en101 rfl) (Fdhw (gB.mk h.text h.at_ (gU.mk h.now.kind h.now.at_ h.now.n h.now.text) (Rules.mk h.r.Phases h.r.Moves h.r.Rules)) f u x y _ V _ _ _ (H.enter [0,1,2,3] [])) ?_
 rintro _ b9 ⟨j,k,l,rfl,X⟩
 have H:Hd _ _ _ _ [_,_,_,_,_]:=H.back [0,1,2,3] [] rfl X
 refine ⟨_,rfl,?_⟩
 refine RN U<| zB fun ca Y=>zA<| zH (fA f)<| zF (yE rfl)<| zF (bZ rfl)<| Ld fK H 4 1 rfl rfl<| zI (i6 d.at_)<| RN Y<| zB fun cb Z=>zA<| zH (fA f)<| zH (i6 d.at_)<| zF (dB (cs:=[i6 0,i6 d.at_,i6 0,.string (bs [])]) (bt105_0_1 _ _))<| zF (yE rfl)<| zF (dF rfl)<| yZ rfl (yN (vs:=[i6 0,i6 d.at_,i6 0,.string (bs [])]) H 4 rfl wL rfl rfl rfl ⟨rfl,rfl,rfl,rfl,trivial⟩ rfl) ?_
 rintro cc H
 refine RN Z<| zB fun cd aa=>zB fun ce ab=>zA<| zH (i6 d.at_)<| zH (fA f)<| zF (yE rfl)<| zF (mF rfl)<| Ld dW H 4 0 rfl rfl ?_
 obtain ⟨ac,ad,c⟩:=zC c
 refine zF (yK (bM (s1:=d.text) u9 rfl) (congrArg (Value.int .i64) ad)) ?_
 obtain ⟨ae,af,c⟩:=zC c
 refine zF (zL (xW (a:=d.at_) (b:=ac) rfl rfl) af)<| RN ab<| yB (b:=ae) rfl (fun z=>?_) (fun z=>?_)
 ·have c:=zT z c
  obtain rfl:=gI c
  refine (zW (zV (aEp rfl ?_)))
  exact ⟨j,k,l,rfl,H.pick [1,2,3,4]⟩
 have c:=zU z c
 refine zS (zG (aa _ _ ?_))
 obtain ⟨p,c,ag⟩:=zD c
 refine yL [23,24,25,26,27,28,29,30,31,32,33,34,35,36,37,38,39,40,41,42,43,44,45,46,47,48,49,50,51] (fun (g:Unit)=>[]) (fun g wl=>Hd O w wl S [.fz (.gi 5),.own Rp.str j 9 d.r.Phases,.own gX k 129 d.r.Moves,.own fB l 132 d.r.Rules,.blk f [sb d.text,i6 p,i6 0,i6 d.at_,i6 0,.string (bs []),j,k,l] 107]) ?_ ?_
 ·skip
  refine yA ?_
  unfold Fel at c
  obtain ⟨ah,J,ai,c⟩:=yM c
  refine xA [23,24,25,26,27,28,29,30,31,32,33,34,35,36,37,38,39,40,41,42,43,44,45,46,47,48,49,50,51] (fun (g:Nat×Int)=>[]) (fun g wl=>Hd O w wl S [.fz (.gi 5),.own Rp.str j 9 d.r.Phases,.own gX k 129 d.r.Moves,.own fB l 132 d.r.Rules,.blk f [sb d.text,i6 g.2,i6 0,i6 d.at_,i6 0,.string (bs []),j,k,l] 107]∧fJ ah g.1 g.2=some p) (fun g=>g.1) (J,d.at_) zK ⟨H.pick [0,1,2,3,4],c⟩ ?_
  clear H c
  rintro ⟨J,s⟩ ρ cf ⟨H,c⟩
  obtain ⟨aj,rfl,c⟩:=yS c
  have c:=yT ai c
  refine zB fun cg ak=>?_
  obtain ⟨K,c,al⟩:=zD c
  refine yL [23,24,25,26,27,28,29,30,31,32,33,34,35,36,37,38,39,40,41,42,43,44] (fun (g:Unit)=>[(44,.bool K)]) (fun g wl=>Hd O w wl S [.fz (.gi 5),.own Rp.str j 9 d.r.Phases,.own gX k 129 d.r.Moves,.own fB l 132 d.r.Rules,.blk f [sb d.text,i6 s,i6 0,i6 d.at_,i6 0,.string (bs []),j,k,l] 107]) ?_ ?_
  ·skip
   have L:=H
   have H:=H.rebase
   have ch:=H
   refine WP_mix0 H [0,1,2,3,4,5,6,7,8,9,10,11,12,13,14,15,16,17,18,19,20,21] (kz [0,0,0,1,0,0,0,1,0,0,0,0,0,0,1,0,0,0,1,0,4,0]) mixed ?_
   refine XM (fA f)<| XP (fun _ _=>yE rfl)<| XP (fun _ _=>bZ rfl)<| XR fK H 4 1 rfl rfl<| XM (fA f)<| XP (fun _ _=>yE rfl)<| XP (fun _ _=>mF rfl)<| XR dW H 4 0 rfl rfl ?_
   obtain ⟨am,an,c⟩:=zC c
   refine XP (fun _ _=>yK (bM (s1:=d.text) u9 rfl) (congrArg (Value.int .i64) an)) ?_
   obtain ⟨ao,ap,c⟩:=zC c
   refine XP (fun _ _=>zL (xC (a:=s) (b:=am) rfl rfl) ap)<| MxM.XL_splitb (b:=ao) rfl rfl rfl rfl (fun A=>?_) (fun A=>?_)
   ·have c:=zT A c
    refine XM (fA f)<| XP (fun _ _=>yE rfl)<| XP (fun _ _=>mF rfl)<| XR dW H 4 0 rfl rfl<| XM (fA f)<| XP (fun _ _=>yE rfl)<| XP (fun _ _=>bZ rfl)<| XR fK H 4 1 rfl rfl ?_
    obtain ⟨aq,ar,c⟩:=zD c
    refine XP (fun _ _=>nT (s1:=d.text) (q:=s) u9 rfl rfl ar) ?_
    have au:=H
    obtain ⟨M,av,c⟩:=zD c
    refine MxM.XL_fcall oS rfl rfl rfl (v:= .bool M) (fun o t=>zM en68 rfl) (fun o t=>aU (Favw aq _ av _ _ _ (Hd.fresh0 o))) ?_
    have H:=au
    refine XP (fun _ _=>yD (v:= .bool M) rfl rfl)<| MxM.XL_nil fun ci hS=>?_
    have H:=H.sees hS
    have H:=L.rejoin H
    obtain rfl:=gI c
    exact (zG (meet ⟨(),(zJ rfl zK),H.pick [0,1,2,3,4]⟩))
   have c:=zU A c
   refine XO<| XO<| XO<| MxM.XL_offr oS rfl rfl rfl ?_
   refine XO<| XO<| XO<| MxM.XL_offr oS rfl rfl rfl ?_
   refine XO<| MxM.XL_offf oS rfl rfl rfl ?_
   refine XP (fun _ _=>zY (v:= .bool false) rfl rfl)<| MxM.XL_nil fun cj hS=>?_
   have H:=H.sees hS
   have H:=L.rejoin H
   obtain rfl:=gI c
   exact (zG (meet ⟨(),(zJ rfl zK),H.pick [0,1,2,3,4]⟩))
  rintro _ ρ ck H
  have c:=al
  refine yB (b:=K) rfl (fun B=>?_) (fun B=>?_)
  ·have c:=zT B c
   refine zS (zG (ak _ _ ?_))
   refine yA ?_
   refine zA ?_
   refine zH (fA f)<| zF (yE rfl)<| zF (bZ rfl)<| Ld fK H 4 1 rfl rfl ?_
   obtain ⟨N,aw,c⟩:=zC c
   refine zF (xN (a:=s) (b:=1) rfl rfl aw)<| zF (yE rfl)<| zF (bZ rfl)<| yZ rfl (xP H 4 rfl sz3 rfl (v:=i6 N) rfl rfl rfl) ?_
   rintro cl H
   exact (zQ (yV (zG (meet ⟨(aj,N),zK,⟨H.pick [0,1,2,3,4],c⟩,Nat.lt_succ_self _⟩))))
  have c:=zU B c
  obtain rfl:=gI c
  exact (xH (yI (yI (yU (zG (meet ⟨(),zK,H.pick [0,1,2,3,4]⟩))))))
 rintro _ ρ cm H
 have c:=ag
 refine zB fun cn ax=>?_
 refine zB fun co ay=>zA<| zH (fA f)<| zF (yE rfl)<| zF (bZ rfl)<| Ld fK H 4 1 rfl rfl<| zH (i6 d.at_) ?_
 obtain ⟨az,a0,c⟩:=zC c
 refine zF (zL (eQ (a:=p) (b:=d.at_) rfl rfl) a0)<| RN ay<| yB (b:=az) rfl (fun C=>?_) (fun C=>?_)
 ·have c:=zT C c
  refine zB fun cp a1=>?_
  have a2:=H
  have H:=H.rebase
  have cq:=H
  refine WP_mix0 H [0,1,2,3,4,5,6,7,8,9,10,11,12,13,14] (kz [0,0,0,0,1,0,0,0,0,1,0,0,0,0,3]) mixed ?_
  refine XM (fA f)<| XM (fA f)<| XP (fun _ _=>yE rfl)<| XP (fun _ _=>mF rfl)<| XR dW H 4 0 rfl rfl<| XM (i6 d.at_)<| XM (fA f)<| XP (fun _ _=>yE rfl)<| XP (fun _ _=>bZ rfl)<| XR fK H 4 1 rfl rfl ?_
  obtain ⟨P,a3,c⟩:=zD c
  refine XP (fun _ _=>Do_cut_lh (s1:=d.text) u9 rfl rfl rfl a3)<| XP (fun _ _=>yE rfl)<| XP (fun _ _=>dF rfl)<| XP (fun _ _=>qG rfl)<| MxM.XL_exU oS rfl rfl (fun o t=>xP (H.sees t) 4 rfl sz9 rfl (v:=sb P) rfl rfl rfl) ?_
  rintro o cr t H
  refine ⟨H.only,?_⟩
  refine MxM.XL_nil fun ct hS=>?_
  have H:=H.sees hS
  have H:=a2.rejoin H
  refine (zG (a1 _ _ ?_))
  refine zB fun cu a4=>zA<| zH (fA f) ?_
  obtain ⟨cv,a5,c⟩:=zD c
  refine zO rfl rfl (zM en102 rfl) (Fdlw (gB.mk d.text p (gU.mk 0 d.at_ 0 P) (Rules.mk d.r.Phases d.r.Moves d.r.Rules)) f j k l _ a5 _ _ _ (H.enter [1,2,3,4] [0])) ?_
  rintro _ cw ⟨a6,a7,a8,rfl,a9⟩
  have H:Hd _ _ _ _ [_,_,_,_,_]:=H.back [1,2,3,4] [0] rfl a9
  refine ⟨_,rfl,?_⟩
  refine RN a4 ?_
  obtain rfl:=gI c
  refine (zW (zV (aEp rfl ?_)))
  exact ⟨a6,a7,a8,rfl,H.pick [1,2,3,4]⟩
 have c:=zU C c
 refine zS (zG (ax _ _ ?_))
 refine zB fun cx cy=>?_
 refine zB fun cz ba=>zA ?_
 obtain ⟨c0,bb,c⟩:=zC c
 subst bb
 refine yQ rfl rfl (kX (r:=Rp.str) (xl:=[[60,61],[33,61],[62,61],[60],[61],[62],[40],[41]]) (cs:=[.string (bs [60,61]),.string (bs [33,61]),.string (bs [62,61]),.string (bs [60]),.string (bs [61]),.string (bs [62]),.string (bs [40]),.string (bs [41])]) u36 el9 (by decide) (by decide) rfl (xU (vs:=[.string (bs [60,61]),.string (bs [33,61]),.string (bs [62,61]),.string (bs [60]),.string (bs [61]),.string (bs [62]),.string (bs [40]),.string (bs [41])]) (by decide) rfl rfl ⟨rfl,rfl,rfl,rfl,rfl,rfl,rfl,rfl,trivial⟩ rfl) H ⟨[.string (bs [60,61])],[.string (bs [33,61]),.string (bs [62,61]),.string (bs [60]),.string (bs [61]),.string (bs [62]),.string (bs [40]),.string (bs [41])],rfl,rfl,⟨[.string (bs [33,61])],[.string (bs [62,61]),.string (bs [60]),.string (bs [61]),.string (bs [62]),.string (bs [40]),.string (bs [41])],rfl,rfl,⟨[.string (bs [62,61])],[.string (bs [60]),.string (bs [61]),.string (bs [62]),.string (bs [40]),.string (bs [41])],rfl,rfl,⟨[.string (bs [60])],[.string (bs [61]),.string (bs [62]),.string (bs [40]),.string (bs [41])],rfl,rfl,⟨[.string (bs [61])],[.string (bs [62]),.string (bs [40]),.string (bs [41])],rfl,rfl,⟨[.string (bs [62])],[.string (bs [40]),.string (bs [41])],rfl,rfl,⟨[.string (bs [40])],[.string (bs [41])],rfl,rfl,⟨[.string (bs [41])],[],rfl,rfl,rfl⟩⟩⟩⟩⟩⟩⟩⟩) ?_
 rintro bc c1 H
 obtain ⟨bd,be,c⟩:=zC c
 obtain ⟨c2,c3,bf⟩:=Sr.len (Sr.of_own (H.item (i:=5) rfl))
 refine zF (yK (xI u36 bf) (congrArg (Value.int .i64) be))<| zH (i6 0)<| RN ba<| yA ?_
 unfold Fep at c
 obtain ⟨bg,Q,bh,c⟩:=yM c
 refine xA [4,76,77,78,79,80,81,82,83,84,85,86,87,88,89,90,91,92,93,94,95,96,97,98,99,100,101,102,103,104] (fun (g:Nat×Int)=>[(76,i6 g.2)]) (fun g wl=>Hd O w wl S [.fz (.gi 5),.own Rp.str j 9 d.r.Phases,.own gX k 129 d.r.Moves,.own fB l 132 d.r.Rules,.blk f [sb d.text,i6 p,i6 0,i6 d.at_,i6 0,.string (bs []),j,k,l] 107,.own Rp.str bc 9 ([[60,61],[33,61],[62,61],[60],[61],[62],[40],[41]]:List Str)]∧fJ bg g.1 g.2=some r) (fun g=>g.1) (Q,0) (zJ rfl zK) ⟨H.pick [0,1,2,3,4,5],c⟩ ?_
 clear H c
 rintro ⟨Q,R⟩ ρ c4 ⟨H,c⟩
 obtain ⟨bi,rfl,c⟩:=yS c
 have c:=yT bh c
 refine zB fun c5 bj=>zA ?_
 obtain ⟨c6,bk,c⟩:=zC c
 refine zF (zL (xC (a:=R) (b:=bd) rfl rfl) bk)<| RN bj<| zB fun c7 bl=>?_
 obtain ⟨bm,c⟩:=eX c
 refine kF bm ?_
 refine zS (zG (bl _ _ ?_))
 refine zB fun c8 bn=>?_
 refine yA ?_
 refine zB fun c9 bo=>zA ?_
 obtain ⟨m,D,c⟩:=zD c
 obtain ⟨da,db,bp,bq,br,bt⟩:=pK (H.item (i:=5) rfl) D
 obtain rfl:bp= [sb m]:=br
 refine zF (xG u36 sz9 bq rfl (zZ D).1 (zZ D).2.1 rfl rfl)<| zF (xO dW rfl (Cells.get bt (i:=0) rfl))<| zI (sb m)<| RN bo<| zB fun dc bu=>zA<| zH (fA f)<| zF (yE rfl)<| zF (mF rfl)<| Ld dW H 4 0 rfl rfl<| zH (i6 d.at_) ?_
 obtain ⟨bv,bw,c⟩:=zD c
 refine zF (Do_cut_l (s1:=d.text) u9 rfl rfl bw)<| zH (sb m) ?_
 have bx:=H
 obtain ⟨bz,b0,c⟩:=zD c
 refine zO rfl rfl (zM en103 rfl) (Fcsw bv m _ b0 _ _ _ (H.enter [] [])) ?_
 rintro _ dd ⟨rfl,b1⟩
 have H:=bx.step (b1.only:Only [] _ _)
 refine ⟨_,rfl,?_⟩
 refine RN bu<| yB (b:=bz) rfl (fun E=>?_) (fun E=>?_)
 ·have c:=zT E c
  refine zB fun de b2=>zA<| zH (fA f)<| zH (fA f)<| zH (fA f)<| zH (sb m)<| zH (i6 d.at_)<| zH (sb m) ?_
  obtain ⟨b3,b4,c⟩:=zC c
  refine zF (yK (bM (s1:=m) u9 rfl) (congrArg (Value.int .i64) b4)) ?_
  obtain ⟨b5,b6,c⟩:=zC c
  refine zF (xN (a:=d.at_) (b:=b3) rfl rfl b6)<| zF (yE rfl)<| zF (dF rfl)<| zF (bW rfl)<| yZ rfl (xP H 4 rfl sz3 rfl (v:=i6 4) rfl rfl rfl) ?_
  rintro df H
  refine zF (yE rfl)<| zF (dF rfl)<| zF (qG rfl)<| yZ rfl (xP H 4 rfl sz9 rfl (v:=sb m) rfl rfl rfl) ?_
  rintro dg H
  refine zF (yE rfl)<| zF (bZ rfl)<| yZ rfl (xP H 4 rfl sz3 rfl (v:=i6 b5) rfl rfl rfl) ?_
  rintro dh H
  refine RN b2 ?_
  obtain rfl:=gI c
  refine (zW (yJ (zV (zV (yJ (zV (aEp rfl ?_)))))))
  exact ⟨j,k,l,rfl,H.pick [1,2,3,4]⟩
 have c:=zU E c
 refine (zS (yV (zG (bn _ _ ?_))))
 refine zA ?_
 obtain ⟨T,b7,c⟩:=zC c
 refine zF (xN (a:=R) (b:=1) rfl rfl b7)<| zH (i6 T) ?_
 exact (zQ (zG (meet ⟨(bi,T),(zJ rfl zK),⟨H.pick [0,1,2,3,4,5],c⟩,Nat.lt_succ_self _⟩)))
theorem Famw (k:Option gB)(f:Str)(v1:Option Addr)(r:Bool)(c:Fam k f=some r)(O S:List Nat)(w:World)(H:Hd O w w S [.fz (.pt eH v1 k)]):
  Cl 79 [.pointer v1,sb f] w fun e D=>e= .returned (.bool r)∧Hd O w D S []:=by
 unfold Fam at c
 refine CW 28 Tryz.func79 ?_
 refine zB fun K3 E=>zA<| zI (.bool false)<| RN E ?_
 obtain ⟨u,c,F⟩:=zD c
 refine yL [4,5,6,7,8,9,10,11,12,13,14,15,16,17,18,19,20,21,22,23,24,25,26,27] (fun (g:Unit)=>[(4,.bool u)]) (fun g wl=>Hd O w wl S []) ?_ ?_
 ·skip
  refine zA ?_
  refine zH (.pointer v1) ?_
  obtain ⟨d,G,c⟩:=zD c
  obtain ⟨l,m,a1,I,J,K,L,M⟩:=nM ((H.item (i:=0) rfl):PtF _ _ _ _ _) G
  obtain ⟨o,p,q,rfl,N,P,Q⟩:=bG L
  have H:=H.fzs [.at l m _,.sl Rp.str o d.r.Phases,.sl gX p d.r.Moves,.sl fB q d.r.Rules] ⟨⟨J,K,M⟩,N,P,Q,trivial⟩
  refine zF (yE (ad:=⟨l,m,none⟩) (congrArg Value.pointer I))<| zF (dF rfl)<| zF (bW rfl)<| zF (xO fK rfl (Cells.get (H.item (i:=1) rfl).2.2 (i:=2) rfl)) ?_
  obtain ⟨R,T,c⟩:=zC c
  refine zF (zL (xW (a:=d.now.kind) (b:=1) rfl rfl) T) ?_
  obtain ⟨x,c,U⟩:=zD c
  refine eF 8 [11,12,13,14,15,16,17,18] [(18,.bool x)] (fun wl=>Hd O w wl S [.fz (.pt eH v1 k),.fz (.at l m [sb d.text,i6 d.at_,i6 d.now.kind,i6 d.now.at_,i6 d.now.n,sb d.now.text,o,p,q]),f1 Rp.str o d.r.Phases,f1 gX p d.r.Moves,f1 fB q d.r.Rules]) ?_ ?_
  ·skip
   refine yR (b:=R) rfl rfl rfl (fun s=>?_) (fun s=>?_)
   ·have c:=zT s c
    refine yC ?_
    refine yC ?_
    refine yC ?_
    refine yC ?_
    refine yC ?_
    refine yC ?_
    refine zF (yD (v:= .bool true) rfl rfl) ?_
    obtain rfl:=gI c
    exact zQ (zG (meet ⟨(zJ rfl zK),H.pick [0,1,2,3,4]⟩))
   have c:=zU s c
   refine zH (.pointer v1) ?_
   obtain ⟨h,V,c⟩:=zD c
   obtain ⟨y,z,a2,X,Y,Z,aa,ab⟩:=nM ((H.item (i:=0) rfl):PtF _ _ _ _ _) V
   obtain ⟨ac,ae,af,rfl,ag,ah,ai⟩:=bG aa
   have H:=H.fzs [.at y z _,.sl Rp.str ac h.r.Phases,.sl gX ae h.r.Moves,.sl fB af h.r.Rules] ⟨⟨Y,Z,ab⟩,ag,ah,ai,trivial⟩
   refine zF (yE (ad:=⟨y,z,none⟩) (congrArg Value.pointer X))<| zF (dF rfl)<| zF (bW rfl)<| zF (xO fK rfl (Cells.get (H.item (i:=5) rfl).2.2 (i:=2) rfl)) ?_
   obtain ⟨aj,ak,c⟩:=zC c
   refine zF (zL (xW (a:=h.now.kind) (b:=4) rfl rfl) ak)<| zF (zY (v:= .bool aj) rfl rfl) ?_
   obtain rfl:=gI c
   exact zQ (zG (meet ⟨(zJ rfl zK),H.pick [0,1,2,3,4]⟩))
  rintro ρ a3 H
  have c:=U
  refine yR (b:=x) rfl rfl rfl (fun t=>?_) (fun t=>?_)
  ·have c:=zT t c
   refine zH (.pointer v1) ?_
   obtain ⟨j,al,c⟩:=zD c
   obtain ⟨A,B,a4,am,an,ao,ap,aq⟩:=nM ((H.item (i:=0) rfl):PtF _ _ _ _ _) al
   obtain ⟨ar,au,av,rfl,aw,ax,ay⟩:=bG ap
   have H:=H.fzs [.at A B _,.sl Rp.str ar j.r.Phases,.sl gX au j.r.Moves,.sl fB av j.r.Rules] ⟨⟨an,ao,aq⟩,aw,ax,ay,trivial⟩
   refine zF (yE (ad:=⟨A,B,none⟩) (congrArg Value.pointer am))<| zF (dF rfl)<| zF (qG rfl)<| zF (xO dW rfl (Cells.get (H.item (i:=5) rfl).2.2 (i:=5) rfl))<| zH (sb f) ?_
   obtain ⟨C,az,c⟩:=zC c
   refine zF (zL (fU (s1:=j.now.text) (s2:=f) rfl rfl) az)<| zF (yD (v:= .bool C) rfl rfl)<| zI (.bool C) ?_
   obtain rfl:=gI c
   exact (zQ (zG (meet ⟨(),(zJ rfl zK),H.pick []⟩)))
  have c:=zU t c
  refine yC ?_
  refine yC ?_
  refine yC ?_
  refine yC ?_
  refine yC ?_
  refine yC ?_
  refine yC ?_
  refine zF (zY (v:= .bool false) rfl rfl)<| zI (.bool false) ?_
  obtain rfl:=gI c
  exact (zQ (zG (meet ⟨(),(zJ rfl zK),H.pick []⟩)))
 rintro _ ρ a5 H
 have c:=F
 obtain rfl:=gI c
 refine (zW (gZ (v1:= .bool u) rfl rfl ?_))
 exact ⟨rfl,H.pick []⟩
theorem Fcjw (c:gB)(g:Int)(f:Nat)(h:Value)(i:Value)(j:Value)(r:gU×gB)(d:Fcj c g=some r)(O S:List Nat)(w:World)(H:Hd O w w S [.own Rp.str h 9 c.r.Phases,.own gX i 129 c.r.Moves,.own fB j 132 c.r.Rules,.blk f [sb c.text,i6 c.at_,i6 c.now.kind,i6 c.now.at_,i6 c.now.n,sb c.now.text,h,i,j] 107,.fz (.gi 5)]):
  Cl 104 [fA f,i6 g] w fun e o=> ∃k l m,e= .returned (.agg [i6 r.1.kind,i6 r.1.at_,i6 r.1.n,sb r.1.text].toArray)∧Hd O w o S [.own Rp.str k 9 r.2.r.Phases,.own gX l 129 r.2.r.Moves,.own fB m 132 r.2.r.Rules,.blk f [sb r.2.text,i6 r.2.at_,i6 r.2.now.kind,i6 r.2.now.at_,i6 r.2.now.n,sb r.2.now.text,k,l,m] 107]:=by
 unfold Fcj at d
 refine CW 22 Tryz.func104 ?_
 refine zB fun E p=>zA<| yQ rfl rfl (xB aEb H) ?_
 rintro _ F ⟨G,rfl,H⟩
 refine RN p<| zB fun I q=>zB fun J s=>zA<| zH (fA f)<| zF (yE rfl)<| zF (dF rfl)<| zF (bW rfl)<| Ld fK H 3 2 rfl rfl<| zH (i6 g) ?_
 obtain ⟨K,t,d⟩:=zC d
 refine zF (zL (dJ (a:=c.now.kind) (b:=g) rfl rfl) t)<| RN s ?_
 obtain ⟨u,d⟩:=yO d
 refine xJ u ?_
 refine zS (zG (q _ _ ?_))
 refine zB fun L v=>zA<| zH (fA f)<| zF (yE rfl)<| zF (dF rfl)<| zF (yK (yH (cs:=[i6 c.now.kind,i6 c.now.at_,i6 c.now.n,sb c.now.text]) aCq rfl wL rfl (Cells.drop (Hbc H 3 rfl) 2 4)) rfl)<| yQ rfl rfl (xB aEb H) ?_
 rintro _ M ⟨N,rfl,H⟩
 refine yZ rfl (yN (vs:=[i6 c.now.kind,i6 c.now.at_,i6 c.now.n,sb c.now.text]) H 6 rfl wL rfl rfl rfl ⟨rfl,rfl,rfl,rfl,trivial⟩ rfl) ?_
 rintro P H
 refine RN v<| zB fun Q x=>zA<| zH (fA f) ?_
 obtain ⟨R,y,d⟩:=zD d
 refine zO rfl rfl (zM en78 rfl) (Fasw (gB.mk c.text c.at_ (gU.mk c.now.kind c.now.at_ c.now.n c.now.text) (Rules.mk c.r.Phases c.r.Moves c.r.Rules)) f h i j _ y _ _ _ (H.enter [0,1,2,3] [4])) ?_
 rintro _ T ⟨z,A,B,rfl,C⟩
 have H:Hd _ _ _ _ [_,_,_,_,_,_,_]:=H.back [0,1,2,3] [4] rfl C
 refine ⟨_,rfl,?_⟩
 refine RN x<| zB fun U D=>zA<| zF (yK (yH (cs:=[i6 c.now.kind,i6 c.now.at_,i6 c.now.n,sb c.now.text]) aCq rfl wL rfl (Hbc H 2 rfl)) rfl)<| yZ rfl (yN (vs:=[i6 c.now.kind,i6 c.now.at_,i6 c.now.n,sb c.now.text]) H 1 rfl wL rfl rfl rfl ⟨rfl,rfl,rfl,rfl,trivial⟩ rfl) ?_
 rintro V H
 refine RN D ?_
 obtain rfl:=gI d
 refine (zW (jL rfl rfl (yX aCq wL rfl (Hbc H 1 rfl)) ?_))
 exact ⟨z,A,B,rfl,H.pick [3,4,5,6]⟩
theorem Fb0w (a:gB)(b:Nat)(d:Value)(f:Value)(g:Value)(r:Str×gB)(c:Fb0 a=some r)(O S:List Nat)(w:World)(H:Hd O w w S [.own Rp.str d 9 a.r.Phases,.own gX f 129 a.r.Moves,.own fB g 132 a.r.Rules,.blk b [sb a.text,i6 a.at_,i6 a.now.kind,i6 a.now.at_,i6 a.now.n,sb a.now.text,d,f,g] 107,.fz (.gi 5)]):
  Cl 80 [fA b] w fun e l=> ∃i j k,e= .returned (sb r.1)∧Hd O w l S [.own Rp.str i 9 r.2.r.Phases,.own gX j 129 r.2.r.Moves,.own fB k 132 r.2.r.Rules,.blk b [sb r.2.text,i6 r.2.at_,i6 r.2.now.kind,i6 r.2.now.at_,i6 r.2.now.n,sb r.2.now.text,i,j,k] 107]:=by
 unfold Fb0 at c
 refine CW 6 Tryz.func80 ?_
 refine zB fun x m=>zA<| zI (.string (bs []))<| RN m<| zB fun y o=>zA<| zH (fA b) ?_
 obtain ⟨⟨h,z⟩,p,c⟩:=zD c
 refine zO rfl rfl (zM en104 rfl) (Fcjw (gB.mk a.text a.at_ (gU.mk a.now.kind a.now.at_ a.now.n a.now.text) (Rules.mk a.r.Phases a.r.Moves a.r.Rules)) 2 b d f g _ p _ _ _ (H.enter [0,1,2,3] [4])) ?_
 rintro _ A ⟨q,s,t,rfl,u⟩
 have H:Hd _ _ _ _ [_,_,_,_,_]:=H.back [0,1,2,3] [4] rfl u
 refine ⟨_,rfl,?_⟩
 refine zF (vY (v:=sb h.text) fo105_3 dW rfl rfl)<| zI (sb h.text)<| RN o ?_
 obtain rfl:=gI c
 refine (zW (gZ (v1:=sb h.text) rfl rfl ?_))
 exact ⟨q,s,t,rfl,H.pick [1,2,3,4]⟩
theorem Fdsw (a:gB)(d:Str)(c:Nat)(f:Value)(g:Value)(h:Value)(r:gB)(b:Fds a d=some r)(O S:List Nat)(w:World)(H:Hd O w w S [.own Rp.str f 9 a.r.Phases,.own gX g 129 a.r.Moves,.own fB h 132 a.r.Rules,.blk c [sb a.text,i6 a.at_,i6 a.now.kind,i6 a.now.at_,i6 a.now.n,sb a.now.text,f,g,h] 107,.fz (.gi 5)]):
  Cl 81 [fA c,sb d] w fun e m=> ∃j k l,e= .returned (.tuple #[])∧Hd O w m S [.own Rp.str j 9 r.r.Phases,.own gX k 129 r.r.Moves,.own fB l 132 r.r.Rules,.blk c [sb r.text,i6 r.at_,i6 r.now.kind,i6 r.now.at_,i6 r.now.n,sb r.now.text,j,k,l] 107]:=by
 unfold Fds at b
 refine CW 12 Tryz.func81 ?_
 refine zB fun F o=>?_
 refine zB fun G q=>zA<| zH (fA c)<| zH (sb d) ?_
 have s:=H
 have H:=H.freezeB (i:=3) rfl
 have H:=H.freeze (i:=0) rfl
 have H:=H.freeze (i:=1) rfl
 have H:=H.freeze (i:=2) rfl
 have H:=H.fz (.pt eH (some ⟨c,0,none⟩) (some a)) ⟨_,_,_,rfl,(H.item (i:=3) rfl).1,(H.item (i:=3) rfl).2.1,(dG (x:=a) (H.item (i:=0) rfl) (H.item (i:=1) rfl) (H.item (i:=2) rfl)),(H.item (i:=3) rfl).2.2⟩
 obtain ⟨t,u,b⟩:=zD b
 refine zO rfl rfl (zM en79 rfl) (Famw (some a) d (some ⟨c,0,none⟩) _ u _ _ _ (H.enter [] [5])) ?_
 rintro _ I ⟨rfl,v⟩
 have H:=s.step (v.only:Only [] _ _)
 refine ⟨_,rfl,?_⟩
 obtain ⟨J,y,b⟩:=zC b
 refine zF (zL (xX (p:=t) rfl) y)<| RN q ?_
 obtain ⟨z,b⟩:=yO b
 refine xJ z ?_
 refine zS (zG (o _ _ ?_))
 refine zA ?_
 refine zH (fA c) ?_
 obtain ⟨K,A,b⟩:=zD b
 refine zO rfl rfl (zM en78 rfl) (Fasw (gB.mk a.text a.at_ (gU.mk a.now.kind a.now.at_ a.now.n a.now.text) (Rules.mk a.r.Phases a.r.Moves a.r.Rules)) c f g h _ A _ _ _ (H.enter [0,1,2,3] [4])) ?_
 rintro _ L ⟨B,C,D,rfl,E⟩
 have H:Hd _ _ _ _ [_,_,_,_,_]:=H.back [0,1,2,3] [4] rfl E
 refine ⟨_,rfl,?_⟩
 obtain rfl:=gI b
 refine (zQ (kP rfl ?_))
 exact ⟨B,C,D,rfl,H.pick [1,2,3,4]⟩
theorem Fc0w (f:Option gB)(v1:Option Addr)(r:Bool)(c:Fc0 f=some r)(O S:List Nat)(w:World)(H:Hd O w w S [.fz (.pt eH v1 f)]):
  Cl 141 [.pointer v1] w fun e j=>e= .returned (.bool r)∧Hd O w j S []:=by
 unfold Fc0 at c
 refine CW 21 Tryz.func141 ?_
 refine zB fun F k=>zA<| zI (.bool false)<| RN k<| zB fun G I=>zB fun J l=>zA<| zH (.pointer v1) ?_
 obtain ⟨d,m,c⟩:=zD c
 obtain ⟨g,h,K,n,o,p,q,s⟩:=nM ((H.item (i:=0) rfl):PtF _ _ _ _ _) m
 obtain ⟨t,u,v,rfl,x,y,z⟩:=bG q
 have H:=H.fzs [.at g h _,.sl Rp.str t d.r.Phases,.sl gX u d.r.Moves,.sl fB v d.r.Rules] ⟨⟨o,p,s⟩,x,y,z,trivial⟩
 refine zF (yE (ad:=⟨g,h,none⟩) (congrArg Value.pointer n))<| zF (dF rfl)<| zF (bW rfl)<| zF (xO fK rfl (Cells.get (H.item (i:=1) rfl).2.2 (i:=2) rfl))<| RN l<| yA<| zB fun L A=>zA ?_
 obtain ⟨B,C,c⟩:=zC c
 refine zF (zL (xW (a:=d.now.kind) (b:=2) rfl rfl) C)<| zI (.bool B)<| RN A ?_
 obtain ⟨D,c⟩:=eX c
 refine kF D ?_
 refine zB fun M E=>zA<| zI (.bool true)<| RN E ?_
 obtain rfl:=gI c
 refine (zW (yJ (zV (gZ (v1:= .bool true) rfl rfl ?_))))
 exact ⟨rfl,H.pick []⟩
theorem Fc1w (h:List Str)(f:Str)(v1:Value)(r:Int)(c:Fc1 h f=some r)(O S:List Nat)(w:World)(H:Hd O w w S [f1 Rp.str v1 h]):
  Cl 90 [v1,sb f] w fun e p=>e= .returned (i6 r)∧Hd O w p S []:=by
 unfold Fc1 at c
 refine CW 19 Tryz.func90 ?_
 refine zB fun K3 q=>zA<| zI (i6 0)<| RN q ?_
 obtain ⟨s,t,c⟩:=xM c
 refine yL [4,5,6,7,8,9,10,11,12,13,14,15,16,17,18] (fun (g:Unit)=>[]) (fun g wl=>Hd O w wl S []∧s ()=some r) ?_ ?_
 ·skip
  refine zB fun ab u=>zA<| zH v1 ?_
  obtain ⟨v,x,c⟩:=zC c
  obtain ⟨ac,ad,y⟩:=SlF.len ((H.item (i:=0) rfl))
  refine zF (yK (xI u36 y) (congrArg (Value.int .i64) x))<| zH (i6 0)<| RN u<| yA ?_
  unfold Fed at c
  obtain ⟨z,m,A,c⟩:=yM c
  refine xA [4,5,8,9,10,11,12,13,14,15,16,17,18] (fun (g:Nat×Int)=>[(8,i6 g.2)]) (fun g wl=>Hd O w wl S [f1 Rp.str v1 h]∧fJ z g.1 g.2=some r) (fun g=>g.1) (m,0) (zJ rfl zK) ⟨H.pick [0],c⟩ ?_
  clear H c
  rintro ⟨m,d⟩ ρ ae ⟨H,c⟩
  obtain ⟨B,rfl,c⟩:=yS c
  have c:=yT A c
  refine zB fun af C=>zA ?_
  obtain ⟨D,E,c⟩:=zC c
  refine zF (zL (xC (a:=d) (b:=v) rfl rfl) E)<| RN C<| zB fun ag F=>yB (b:=D) rfl (fun j=>?_) (fun j=>?_)
  ·have c:=zT j c
   refine zS (zG (F _ _ ?_))
   refine zB fun ah G=>?_
   refine yA ?_
   refine zB fun ai I=>zA<| zH (i6 d)<| zI (i6 d)<| RN I<| zB fun aj J=>zA<| zH (sb f)<| zH v1<| zH (i6 d) ?_
   obtain ⟨n,k,c⟩:=zD c
   obtain ⟨K,L,ak,M,N,P,Q,R,T⟩:=fQ (H.item (i:=0) rfl) k
   obtain rfl:M= [sb n]:=P
   have H:=H.fz (.at K (L+d.toNat * 1) _) ⟨Q,R,T⟩
   refine zF (xG u36 sz9 N rfl (zZ k).1 (zZ k).2.1 rfl rfl)<| zF (xO dW rfl (Cells.get (H.item (i:=1) rfl).2.2 (i:=0) rfl)) ?_
   obtain ⟨U,V,c⟩:=zC c
   refine zF (zL (fU (s1:=f) (s2:=n) rfl rfl) V)<| RN J<| yB (b:=U) rfl (fun l=>?_) (fun l=>?_)
   ·have c:=zT l c
    refine zB fun al X=>zA<| zH (i6 d)<| zI (i6 d)<| RN X ?_
    obtain rfl:=gI c
    refine (zW (yJ (zV (zV (yJ (zV (gZ (v1:=i6 d) rfl rfl ?_)))))))
    exact ⟨rfl,H.pick []⟩
   have c:=zU l c
   refine (zS (yV (zG (G _ _ ?_))))
   refine zA ?_
   obtain ⟨o,Y,c⟩:=zC c
   refine zF (xN (a:=d) (b:=1) rfl rfl Y)<| zH (i6 o) ?_
   exact (zQ (zG (meet ⟨(B,o),(zJ rfl zK),⟨H.pick [0],c⟩,Nat.lt_succ_self _⟩)))
  have c:=zU j c
  exact (xH (yI (yI (yU (zG (meet ⟨(),zK,⟨H.pick [],c⟩⟩))))))
 rintro _ ρ am ⟨H,c⟩
 have c:=xR t c
 refine zB fun an Z=>zA<| zI (i6 (-1))<| RN Z ?_
 obtain rfl:=gI c
 refine (zW (gZ (v1:=i6 (-1)) rfl rfl ?_))
 exact ⟨rfl,H.pick []⟩
theorem Fcxw (a:gB)(b:Nat)(d:Value)(f:Value)(g:Value)(r:Int×gB)(c:Fcx a=some r)(O S:List Nat)(w:World)(H:Hd O w w S [.own Rp.str d 9 a.r.Phases,.own gX f 129 a.r.Moves,.own fB g 132 a.r.Rules,.blk b [sb a.text,i6 a.at_,i6 a.now.kind,i6 a.now.at_,i6 a.now.n,sb a.now.text,d,f,g] 107,.fz (.gi 5)]):
  Cl 144 [fA b] w fun e l=> ∃i j k,e= .returned (i6 r.1)∧Hd O w l S [.own Rp.str i 9 r.2.r.Phases,.own gX j 129 r.2.r.Moves,.own fB k 132 r.2.r.Rules,.blk b [sb r.2.text,i6 r.2.at_,i6 r.2.now.kind,i6 r.2.now.at_,i6 r.2.now.n,sb r.2.now.text,i,j,k] 107]:=by
 unfold Fcx at c
 refine CW 6 Tryz.func144 ?_
 refine zB fun x m=>zA<| zI (i6 0)<| RN m<| zB fun y o=>zA<| zH (fA b) ?_
 obtain ⟨⟨h,z⟩,p,c⟩:=zD c
 refine zO rfl rfl (zM en104 rfl) (Fcjw (gB.mk a.text a.at_ (gU.mk a.now.kind a.now.at_ a.now.n a.now.text) (Rules.mk a.r.Phases a.r.Moves a.r.Rules)) 3 b d f g _ p _ _ _ (H.enter [0,1,2,3] [4])) ?_
 rintro _ A ⟨q,s,t,rfl,u⟩
 have H:Hd _ _ _ _ [_,_,_,_,_]:=H.back [0,1,2,3] [4] rfl u
 refine ⟨_,rfl,?_⟩
 refine zF (vY (v:=i6 h.n) fo105_2 fK rfl rfl)<| zI (i6 h.n)<| RN o ?_
 obtain rfl:=gI c
 refine (zW (gZ (v1:=i6 h.n) rfl rfl ?_))
 exact ⟨q,s,t,rfl,H.pick [1,2,3,4]⟩
theorem Fduw (d:gB)(g:Nat)(q:Value)(s:Value)(t:Value)(r:Cond×gB)(c:Fdu d=some r)(O S:List Nat)(w:World)(H:Hd O w w S [.own Rp.str q 9 d.r.Phases,.own gX s 129 d.r.Moves,.own fB t 132 d.r.Rules,.blk g [sb d.text,i6 d.at_,i6 d.now.kind,i6 d.now.at_,i6 d.now.n,sb d.now.text,q,s,t] 107,.fz (.at 1 0 ((Fl.arr 7 Fl.str).f yG)),.fz (.gi 5)]):
  Cl 142 [fA g] w fun e k=> ∃x y z A,e= .returned (.agg [i6 r.1.Kind,sb r.1.Name,sb r.1.Other,i6 r.1.Op,i6 r.1.N,i6 r.1.Frames,x].toArray)∧Hd O w k S [f1 fM x r.1.Kids,.own Rp.str y 9 r.2.r.Phases,.own gX z 129 r.2.r.Moves,.own fB A 132 r.2.r.Rules,.blk g [sb r.2.text,i6 r.2.at_,i6 r.2.now.kind,i6 r.2.now.at_,i6 r.2.now.n,sb r.2.now.text,y,z,A] 107]:=by
 unfold Fdu at c
 refine CW 45 Tryz.func142 ?_
 refine zB fun au C=>zA<| yQ rfl rfl (xB kZ H) ?_
 rintro _ av ⟨aw,rfl,H⟩
 refine RN C<| zB fun ax D=>zA<| zH (fA g) ?_
 obtain ⟨⟨p,h⟩,E,c⟩:=zD c
 refine zO rfl rfl (zM en80 rfl) (Fb0w (gB.mk d.text d.at_ (gU.mk d.now.kind d.now.at_ d.now.n d.now.text) (Rules.mk d.r.Phases d.r.Moves d.r.Rules)) g q s t _ E _ _ _ (H.enter [0,1,2,3] [5])) ?_
 rintro _ ay ⟨F,G,I,rfl,J⟩
 have H:Hd _ _ _ _ [_,_,_,_,_,_,_]:=H.back [0,1,2,3] [5] rfl J
 refine ⟨_,rfl,?_⟩
 refine zF (dB (cs:=[i6 3,sb p,.string (bs []),i6 0,i6 0,i6 0,.slice none 0 0]) (bt127_0_1 _ _))<| yQ rfl rfl (xB kZ H) ?_
 rintro _ az ⟨a0,rfl,H⟩
 refine yZ rfl (yN (vs:=[i6 3,sb p,.string (bs []),i6 0,i6 0,i6 0,.slice none 0 0]) H 7 rfl dM rfl rfl rfl ⟨rfl,rfl,rfl,rfl,rfl,rfl,rfl,trivial⟩ rfl) ?_
 rintro a1 H
 refine RN D<| zB fun a2 K=>?_
 have L:=H
 have H:=H.rebase
 have a3:=H
 refine WP_mix0 H [0,1,2,3,4,5,6,7,8] (kz [0,0,0,0,0,1,1,0,3]) mixed ?_
 refine MxM.XL_exP rfl rfl rfl (aDh (e:=Fl.str) (X:=yG) (r:=Rp.str) (fun _ _ _ _=>Iff.rfl) rfl u201 sz9 (H.item (i:=0) rfl).1 (H.item (i:=0) rfl).2.1 (H.item (i:=0) rfl).2.2 rfl (by decide)) ?_
 rintro B M
 have H:=H.fz (.sl Rp.str B yG.l) M
 refine XM (fA g)<| XP (fun _ _=>yE rfl)<| XP (fun _ _=>dF rfl)<| XP (fun _ _=>qG rfl)<| XR dW H 6 5 rfl rfl ?_
 have P:=H
 obtain ⟨m,Q,c⟩:=zD c
 refine MxM.XL_call oS rfl rfl rfl (v:=i6 m) (fun k o=>zM en90 rfl) (fun k o=>aU (Fc1w yG.l h.now.text B _ Q _ _ _ ((H.sees o).enter [] [8]))) ?_
 have H:=P
 refine XP (fun _ _=>aAi rfl)<| MxM.XL_exU oS rfl rfl (fun k o=>xP (H.sees o) 7 rfl sz3 rfl (v:=i6 m) rfl rfl rfl) ?_
 rintro k a4 o H
 refine ⟨H.only,?_⟩
 refine MxM.XL_nil fun a5 hS=>?_
 have H:=H.sees hS
 have H:=L.rejoin H
 refine (zG (K _ _ ?_))
 refine zB fun a6 R=>?_
 refine zB fun a7 T=>zA<| zH (fA g)<| zF (yE rfl)<| zF (dF rfl)<| zF (bW rfl)<| Ld fK H 6 2 rfl rfl ?_
 obtain ⟨a8,U,c⟩:=zC c
 refine zF (zL (dJ (a:=h.now.kind) (b:=4) rfl rfl) U) ?_
 obtain ⟨V,c⟩:=yO c
 refine dI false V ?_
 refine zF (aAi rfl)<| Ld fK H 7 3 rfl rfl ?_
 obtain ⟨Y,Z,c⟩:=zC c
 refine zF (zL (xC (a:=m) (b:=1) rfl rfl) Z)<| zF (zY (v:= .bool Y) rfl rfl)<| RN T ?_
 obtain ⟨aa,c⟩:=yO c
 refine xJ aa ?_
 refine zS (zG (R _ _ ?_))
 refine zB fun a9 ab=>zA<| zH (fA g) ?_
 obtain ⟨j,ac,c⟩:=zD c
 refine zO rfl rfl (zM en78 rfl) (Fasw (gB.mk h.text h.at_ (gU.mk h.now.kind h.now.at_ h.now.n h.now.text) (Rules.mk h.r.Phases h.r.Moves h.r.Rules)) g F G I _ ac _ _ _ (H.enter [3,4,5,6] [1])) ?_
 rintro _ ba ⟨ad,ae,af,rfl,ag⟩
 have H:Hd _ _ _ _ [_,_,_,_,_,_,_,_,_]:=H.back [3,4,5,6] [1] rfl ag
 refine ⟨_,rfl,?_⟩
 refine RN ab<| zB fun bb ah=>zB fun bc ai=>zA<| zH (fA g)<| zF (yE rfl)<| zF (dF rfl)<| zF (bW rfl)<| Ld fK H 8 2 rfl rfl ?_
 obtain ⟨bd,aj,c⟩:=zC c
 refine zF (zL (xW (a:=j.now.kind) (b:=2) rfl rfl) aj)<| RN ai ?_
 obtain ⟨ak,c⟩:=yO c
 refine xJ ak ?_
 refine zS (zG (ah _ _ ?_))
 refine zB fun be al=>zA<| zH (fA g) ?_
 obtain ⟨⟨u,bf⟩,am,c⟩:=zD c
 refine zO rfl rfl (zM en144 rfl) (Fcxw (gB.mk j.text j.at_ (gU.mk j.now.kind j.now.at_ j.now.n j.now.text) (Rules.mk j.r.Phases j.r.Moves j.r.Rules)) g ad ae af _ am _ _ _ (H.enter [5,6,7,8] [1])) ?_
 rintro _ bg ⟨an,ao,ap,rfl,aq⟩
 have H:Hd _ _ _ _ [_,_,_,_,_,_,_,_,_]:=H.back [5,6,7,8] [1] rfl aq
 refine ⟨_,rfl,?_⟩
 refine zF (aEm rfl)<| yZ rfl (xP H 3 rfl sz3 rfl (v:=i6 u) rfl rfl rfl) ?_
 rintro bh H
 refine RN al<| zB fun bi ar=>zA<| zF (yK (yH (cs:=[i6 3,sb p,.string (bs []),i6 m,i6 u,i6 0,.slice none 0 0]) dV rfl dM rfl (Hbc H 3 rfl)) rfl)<| yZ rfl (yN (vs:=[i6 3,sb p,.string (bs []),i6 m,i6 u,i6 0,.slice none 0 0]) H 2 rfl dM rfl rfl rfl ⟨rfl,rfl,rfl,rfl,rfl,rfl,rfl,trivial⟩ rfl) ?_
 rintro bj H
 refine RN ar ?_
 have H:=H.fz (.sl fM (.slice none 0 0) []) SlF.nil
 obtain rfl:=gI c
 refine (zW (jL rfl rfl (yX dV dM rfl (Hbc H 2 rfl)) ?_))
 exact ⟨.slice none 0 0,an,ao,ap,rfl,H.pick [9,5,6,7,8]⟩
theorem Fdpw (c:gB)(j:Int)(g:Nat)(k:Value)(l:Value)(m:Value)(r:Cond×gB)(d:Fdp c j=some r)(O S:List Nat)(w:World)(H:Hd O w w S [.own Rp.str k 9 c.r.Phases,.own gX l 129 c.r.Moves,.own fB m 132 c.r.Rules,.blk g [sb c.text,i6 c.at_,i6 c.now.kind,i6 c.now.at_,i6 c.now.n,sb c.now.text,k,l,m] 107,.fz (.at 1 0 ((Fl.arr 7 Fl.str).f yG)),.fz (.gi 5)]):
  Cl 108 [fA g,i6 j] w fun e v=> ∃o q s t,e= .returned (.agg [i6 r.1.Kind,sb r.1.Name,sb r.1.Other,i6 r.1.Op,i6 r.1.N,i6 r.1.Frames,o].toArray)∧Hd O w v S [f1 fM o r.1.Kids,.own Rp.str q 9 r.2.r.Phases,.own gX s 129 r.2.r.Moves,.own fB t 132 r.2.r.Rules,.blk g [sb r.2.text,i6 r.2.at_,i6 r.2.now.kind,i6 r.2.now.at_,i6 r.2.now.n,sb r.2.now.text,q,s,t] 107]:=by
 unfold Fdp at d
 refine CW 110 Tryz.func108 ?_
 refine zB fun Z y=>zA<| yQ rfl rfl (jA rfl rfl H) ?_
 rintro _ aa ⟨ab,rfl,H⟩
 refine yQ rfl rfl (jA rfl rfl H) ?_
 rintro _ ac ⟨ad,rfl,H⟩
 refine yQ rfl rfl (xB kZ H) ?_
 rintro _ ae ⟨af,rfl,H⟩
 refine RN y<| zB fun ag z=>zB fun ah A=>zA<| Ld rG H 6 0 rfl rfl ?_
 have B:=H
 have H:=H.freezeB (i:=3) rfl
 have H:=H.freeze (i:=0) rfl
 have H:=H.freeze (i:=1) rfl
 have H:=H.freeze (i:=2) rfl
 have H:=H.fz (.pt eH (some ⟨g,0,none⟩) (some c)) ⟨_,_,_,rfl,(H.item (i:=3) rfl).1,(H.item (i:=3) rfl).2.1,(dG (x:=c) (H.item (i:=0) rfl) (H.item (i:=1) rfl) (H.item (i:=2) rfl)),(H.item (i:=3) rfl).2.2⟩
 obtain ⟨C,D,d⟩:=zD d
 refine zO rfl rfl (zM en141 rfl) (Fc0w (some c) (some ⟨g,0,none⟩) _ D _ _ _ (H.enter [] [9])) ?_
 rintro _ ai ⟨rfl,E⟩
 have H:=B.step (E.only:Only [] _ _)
 refine ⟨_,rfl,?_⟩
 obtain ⟨aj,F,d⟩:=zC d
 refine zF (zL (xX (p:=C) rfl) F)<| RN A ?_
 obtain ⟨G,d⟩:=yO d
 refine xJ G ?_
 refine zS (zG (z _ _ ?_))
 refine zB fun ak I=>?_
 refine zB fun al J=>zA<| Ld fK H 7 0 rfl rfl ?_
 obtain ⟨am,K,d⟩:=zC d
 refine zF (zL (bK (a:=j) (b:=60) rfl rfl) K)<| RN J ?_
 obtain ⟨L,d⟩:=yO d
 refine xJ L ?_
 refine zS (zG (I _ _ ?_))
 refine zB fun an ao=>?_
 refine zB fun ap M=>zA<| Ld rG H 6 0 rfl rfl<| zF (yE rfl)<| zF (dF rfl)<| zF (bW rfl)<| Ld fK H 3 2 rfl rfl ?_
 obtain ⟨aq,P,d⟩:=zC d
 refine zF (zL (xW (a:=c.now.kind) (b:=2) rfl rfl) P)<| RN M ?_
 obtain ⟨Q,d⟩:=eX d
 refine kF Q ?_
 refine zB fun ar R=>zA<| Ld rG H 6 0 rfl rfl ?_
 obtain ⟨⟨h,au⟩,T,d⟩:=zD d
 refine zO rfl rfl (zM en142 rfl) (Fduw (gB.mk c.text c.at_ (gU.mk c.now.kind c.now.at_ c.now.n c.now.text) (Rules.mk c.r.Phases c.r.Moves c.r.Rules)) g k l m _ T _ _ _ (H.enter [0,1,2,3] [4,5])) ?_
 rintro _ av ⟨u,U,V,X,rfl,Y⟩
 have H:Hd _ _ _ _ [_,_,_,_,_,_,_,_,_,_]:=H.back [0,1,2,3] [4,5] rfl Y
 refine ⟨_,rfl,?_⟩
 refine yZ rfl (yN (vs:=[i6 h.Kind,sb h.Name,sb h.Other,i6 h.Op,i6 h.N,i6 h.Frames,u]) H 4 rfl dM rfl rfl rfl ⟨rfl,rfl,rfl,rfl,rfl,rfl,(dK (H.item (i:=5) rfl)),trivial⟩ rfl) ?_
 rintro aw H
 refine RN R ?_
 obtain rfl:=gI d
 refine (zW (zV (jL rfl rfl (yX dV dM rfl (Hbc H 4 rfl)) ?_)))
 exact ⟨u,U,V,X,rfl,H.pick [5,6,7,8,9]⟩
theorem Fdbw (a:gB)(d:Int)(h:Nat)(c:Nat)(j:Value)(k:Value)(l:Value)(m:Nat)(r:Cond×gB)(g:Fdb a d=some r)(O S:List Nat)(w:World)(H:Hd O w w S [.own Rp.str j 9 a.r.Phases,.own gX k 129 a.r.Moves,.own fB l 132 a.r.Rules,.blk c [sb a.text,i6 a.at_,i6 a.now.kind,i6 a.now.at_,i6 a.now.n,sb a.now.text,j,k,l] 107,.blk h [fA c] 103,.blk m [i6 d] 3,.fz (.at 1 0 ((Fl.arr 7 Fl.str).f yG)),.fz (.gi 5)]):
  Cl 107 [fA h,fA m] w fun e u=> ∃o p q s,e= .returned (.agg [i6 r.1.Kind,sb r.1.Name,sb r.1.Other,i6 r.1.Op,i6 r.1.N,i6 r.1.Frames,o].toArray)∧Hd O w u S [f1 fM o r.1.Kids,.own Rp.str p 9 r.2.r.Phases,.own gX q 129 r.2.r.Moves,.own fB s 132 r.2.r.Rules,.blk c [sb r.2.text,i6 r.2.at_,i6 r.2.now.kind,i6 r.2.now.at_,i6 r.2.now.n,sb r.2.now.text,p,q,s] 107,.blk h [fA c] 103,.blk m [i6 d] 3]:=by
 unfold Fdb at g
 refine CW 6 Tryz.func107 ?_
 refine zB fun D v=>zA<| yQ rfl rfl (xB kZ H) ?_
 rintro _ E ⟨F,rfl,H⟩
 refine RN v<| zB fun G x=>zA<| Ld rG H 4 0 rfl rfl<| Ld fK H 5 0 rfl rfl ?_
 obtain ⟨⟨b,I⟩,y,g⟩:=zD g
 refine zO rfl rfl (zM en108 rfl) (Fdpw (gB.mk a.text a.at_ (gU.mk a.now.kind a.now.at_ a.now.n a.now.text) (Rules.mk a.r.Phases a.r.Moves a.r.Rules)) d c j k l _ y _ _ _ (H.enter [0,1,2,3] [6,7])) ?_
 rintro _ J ⟨t,z,A,B,rfl,C⟩
 have H:Hd _ _ _ _ [_,_,_,_,_,_,_,_,_,_]:=H.back [0,1,2,3] [6,7] rfl C
 refine ⟨_,rfl,?_⟩
 refine yZ rfl (yN (vs:=[i6 b.Kind,sb b.Name,sb b.Other,i6 b.Op,i6 b.N,i6 b.Frames,t]) H 4 rfl dM rfl rfl rfl ⟨rfl,rfl,rfl,rfl,rfl,rfl,(dK (H.item (i:=5) rfl)),trivial⟩ rfl) ?_
 rintro K H
 refine RN x ?_
 obtain rfl:=gI g
 refine (zW (jL rfl rfl (yX dV dM rfl (Hbc H 4 rfl)) ?_))
 exact ⟨t,z,A,B,rfl,H.pick [5,6,7,8,9,0,1]⟩
theorem Fcyw (l:gB)(u:Str)(D:Int)(p3c1:Int)(j:Nat)(y:Value)(z:Value)(A:Value)(m:Nat)(o:Nat)(r:Cond×gB)(c:Fcy l u D p3c1=some r)(O S:List Nat)(w:World)(H:Hd O w w S [.own Rp.str y 9 l.r.Phases,.own gX z 129 l.r.Moves,.own fB A 132 l.r.Rules,.blk j [sb l.text,i6 l.at_,i6 l.now.kind,i6 l.now.at_,i6 l.now.n,sb l.now.text,y,z,A] 107,.blk m [fA j] 103,.blk o [i6 p3c1] 3,.fz (.at 1 0 ((Fl.arr 7 Fl.str).f yG)),.fz (.gi 5)]):
  Cl 105 [fA j,sb u,i6 D,.func (.func 107) #[] #[fA m,fA o]] w fun e L=> ∃E F G I,e= .returned (.agg [i6 r.1.Kind,sb r.1.Name,sb r.1.Other,i6 r.1.Op,i6 r.1.N,i6 r.1.Frames,E].toArray)∧Hd O w L S [f1 fM E r.1.Kids,.own Rp.str F 9 r.2.r.Phases,.own gX G 129 r.2.r.Moves,.own fB I 132 r.2.r.Rules,.blk j [sb r.2.text,i6 r.2.at_,i6 r.2.now.kind,i6 r.2.now.at_,i6 r.2.now.n,sb r.2.now.text,F,G,I] 107,.blk m [fA j] 103,.blk o [i6 p3c1] 3]:=by
 unfold Fcy at c
 refine CW 32 Tryz.func105 ?_
 refine zB fun ap M=>zA<| yQ rfl rfl (xB kZ H) ?_
 rintro _ aq ⟨J,rfl,H⟩
 refine RN M<| zB fun ar P=>zA<| zH (.func (.func 107) #[] #[fA m,fA o]) ?_
 obtain ⟨⟨d,h⟩,Q,c⟩:=zD c
 refine zO rfl rfl (bY en107 rfl rfl) (Fdbw l p3c1 m j y z A o _ Q _ _ _ (H.enter [0,1,2,3,4,5] [6,7])) ?_
 rintro _ au ⟨B,q,s,t,rfl,R⟩
 have H:Hd _ _ _ _ [_,_,_,_,_,_,_,_,_,_]:=H.back [0,1,2,3,4,5] [6,7] rfl R
 refine ⟨_,rfl,?_⟩
 obtain ⟨av,T,c⟩:=zC c
 subst T
 refine yQ rfl rfl (kX (r:=fM) (xl:=[d]) (cs:=[i6 d.Kind,sb d.Name,sb d.Other,i6 d.Op,i6 d.N,i6 d.Frames,B]) sO el127 (by decide) (by decide) rfl (xU (vs:=[.agg [i6 d.Kind,sb d.Name,sb d.Other,i6 d.Op,i6 d.N,i6 d.Frames,B].toArray]) (by decide) rfl rfl ⟨rfl,trivial⟩ rfl) H ⟨[i6 d.Kind,sb d.Name,sb d.Other,i6 d.Op,i6 d.N,i6 d.Frames,B],[],rfl,(vC (x:=d) (H.item (i:=3) rfl)),rfl⟩) ?_
 rintro p aw H
 refine zI p<| RN P ?_
 obtain ⟨U,c,V⟩:=zD c
 refine yL [9,13,14,15,16,17,18,19,20,21,22] (fun (g:Unit)=>[(9,p)]) (fun g wl=>Hd O w wl S [.own fM p 127 ([d]:List Cond),.fz (.at 1 0 ((Fl.arr 7 Fl.str).f yG)),.fz (.gi 5),.blk J [i6 0,.string (bs []),.string (bs []),i6 0,i6 0,i6 0,.slice none 0 0] 127,.own Rp.str q 9 h.r.Phases,.own gX s 129 h.r.Moves,.own fB t 132 h.r.Rules,.blk j [sb h.text,i6 h.at_,i6 h.now.kind,i6 h.now.at_,i6 h.now.n,sb h.now.text,q,s,t] 107,.blk m [fA j] 103,.blk o [i6 p3c1] 3]) ?_ ?_
 ·skip
  refine yA ?_
  unfold Fec at c
  obtain ⟨X,K,Y,c⟩:=yM c
  refine xA [9,13,14,15,16,17,18,19,20,21,22] (fun (g:Nat)=>[(9,p)]) (fun g wl=>Hd O w wl S [.own fM p 127 ([d]:List Cond),.fz (.at 1 0 ((Fl.arr 7 Fl.str).f yG)),.fz (.gi 5),.blk J [i6 0,.string (bs []),.string (bs []),i6 0,i6 0,i6 0,.slice none 0 0] 127,.own Rp.str q 9 h.r.Phases,.own gX s 129 h.r.Moves,.own fB t 132 h.r.Rules,.blk j [sb h.text,i6 h.at_,i6 h.now.kind,i6 h.now.at_,i6 h.now.n,sb h.now.text,q,s,t] 107,.blk m [fA j] 103,.blk o [i6 p3c1] 3]∧fJ X g ()=some U) (fun g=>g) K (zJ rfl zK) ⟨H.pick [10,0,1,2,4,5,6,7,8,9],c⟩ ?_
  clear H c
  rintro K ρ ax ⟨H,c⟩
  obtain ⟨ay,rfl,c⟩:=yS c
  have c:=yT Y c
  refine zB fun az a0=>?_
  refine zB fun a1 Z=>zA<| zH (fA j)<| zH (sb u) ?_
  have aa:=H
  have H:=H.freezeB (i:=7) rfl
  have H:=H.freeze (i:=4) rfl
  have H:=H.freeze (i:=5) rfl
  have H:=H.freeze (i:=6) rfl
  have H:=H.fz (.pt eH (some ⟨j,0,none⟩) (some h)) ⟨_,_,_,rfl,(H.item (i:=7) rfl).1,(H.item (i:=7) rfl).2.1,(dG (x:=h) (H.item (i:=4) rfl) (H.item (i:=5) rfl) (H.item (i:=6) rfl)),(H.item (i:=7) rfl).2.2⟩
  obtain ⟨a2,ab,c⟩:=zD c
  refine zO rfl rfl (zM en79 rfl) (Famw (some h) u (some ⟨j,0,none⟩) _ ab _ _ _ (H.enter [] [10])) ?_
  rintro _ a3 ⟨rfl,ac⟩
  have H:=aa.step (ac.only:Only [] _ _)
  refine ⟨_,rfl,?_⟩
  refine RN Z ?_
  obtain ⟨ad,c⟩:=yO c
  refine xJ ad ?_
  obtain rfl:=gI c
  exact (xH (yI (yI (yU (zG (meet ⟨(),(zJ rfl zK),H.pick [0,1,2,3,4,5,6,7,8,9]⟩))))))
 rintro _ ρ a4 H
 have c:=V
 refine zB fun a5 a6=>?_
 refine zB fun a7 ae=>zA<| zH p ?_
 obtain ⟨af,ag,c⟩:=zC c
 obtain ⟨a8,a9,ah⟩:=Sr.len (Sr.of_own (H.item (i:=0) rfl))
 refine zF (yK (xI sO ah) (congrArg (Value.int .i64) ag)) ?_
 obtain ⟨ba,ai,c⟩:=zC c
 refine zF (zL (xW (a:=af) (b:=1) rfl rfl) ai)<| RN ae ?_
 obtain ⟨aj,c⟩:=eX c
 refine kF aj ?_
 refine zB fun bb ak=>zA<| zH p ?_
 obtain ⟨k,C,c⟩:=zD c
 obtain ⟨bc,bd,be,al,am,an⟩:=pK (H.item (i:=0) rfl) C
 obtain ⟨v,rfl,ao⟩:=pR am
 have H:=H.fzs [.sl fM v k.Kids] ⟨ao,trivial⟩
 refine zF (xG sO dM al rfl (zZ C).1 (zZ C).2.1 rfl rfl)<| zF (yK (yH (cs:=[i6 k.Kind,sb k.Name,sb k.Other,i6 k.Op,i6 k.N,i6 k.Frames,v]) dV rfl dM rfl an) rfl)<| yZ rfl (yN (vs:=[i6 k.Kind,sb k.Name,sb k.Other,i6 k.Op,i6 k.N,i6 k.Frames,v]) H 3 rfl dM rfl rfl rfl ⟨rfl,rfl,rfl,rfl,rfl,rfl,(dK (H.item (i:=10) rfl)),trivial⟩ rfl) ?_
 rintro bf H
 refine RN ak ?_
 obtain rfl:=gI c
 refine (zW (zV (jL rfl rfl (yX dV dM rfl (Hbc H 3 rfl)) ?_)))
 exact ⟨v,q,s,t,rfl,H.pick [10,4,5,6,7,8,9]⟩
theorem Fc3w (a:gB)(d:Int)(g:Nat)(c:Nat)(k:Value)(l:Value)(m:Value)(h:Nat)(r:Cond×gB)(j:Fc3 a d=some r)(O S:List Nat)(w:World)(H:Hd O w w S [.own Rp.str k 9 a.r.Phases,.own gX l 129 a.r.Moves,.own fB m 132 a.r.Rules,.blk c [sb a.text,i6 a.at_,i6 a.now.kind,i6 a.now.at_,i6 a.now.n,sb a.now.text,k,l,m] 107,.blk g [fA c] 103,.blk h [i6 d] 3,.fz (.at 1 0 ((Fl.arr 7 Fl.str).f yG)),.fz (.gi 5)]):
  Cl 106 [fA g,fA h] w fun e u=> ∃o p q s,e= .returned (.agg [i6 r.1.Kind,sb r.1.Name,sb r.1.Other,i6 r.1.Op,i6 r.1.N,i6 r.1.Frames,o].toArray)∧Hd O w u S [f1 fM o r.1.Kids,.own Rp.str p 9 r.2.r.Phases,.own gX q 129 r.2.r.Moves,.own fB s 132 r.2.r.Rules,.blk c [sb r.2.text,i6 r.2.at_,i6 r.2.now.kind,i6 r.2.now.at_,i6 r.2.now.n,sb r.2.now.text,p,q,s] 107,.blk g [fA c] 103,.blk h [i6 d] 3]:=by
 unfold Fc3 at j
 refine CW 6 Tryz.func106 ?_
 refine zB fun D v=>zA<| yQ rfl rfl (xB kZ H) ?_
 rintro _ E ⟨F,rfl,H⟩
 refine RN v<| zB fun G x=>zA<| Ld rG H 4 0 rfl rfl<| zF (dC rfl) ?_
 obtain ⟨⟨b,I⟩,y,j⟩:=zD j
 refine zO rfl rfl (zM en105 rfl) (Fcyw (gB.mk a.text a.at_ (gU.mk a.now.kind a.now.at_ a.now.n a.now.text) (Rules.mk a.r.Phases a.r.Moves a.r.Rules)) [97,110,100] 9 d c k l m g h _ y _ _ _ (H.enter [0,1,2,3,4,5] [6,7])) ?_
 rintro _ J ⟨t,z,A,B,rfl,C⟩
 have H:Hd _ _ _ _ [_,_,_,_,_,_,_,_,_,_]:=H.back [0,1,2,3,4,5] [6,7] rfl C
 refine ⟨_,rfl,?_⟩
 refine yZ rfl (yN (vs:=[i6 b.Kind,sb b.Name,sb b.Other,i6 b.Op,i6 b.N,i6 b.Frames,t]) H 2 rfl dM rfl rfl rfl ⟨rfl,rfl,rfl,rfl,rfl,rfl,(dK (H.item (i:=3) rfl)),trivial⟩ rfl) ?_
 rintro K H
 refine RN x ?_
 obtain rfl:=gI j
 refine (zW (jL rfl rfl (yX dV dM rfl (Hbc H 2 rfl)) ?_))
 exact ⟨t,z,A,B,rfl,H.pick [3,4,5,6,7,8,9]⟩
theorem Fdnw (l:gB)(u:Str)(D:Int)(p3c1:Int)(j:Nat)(y:Value)(z:Value)(A:Value)(m:Nat)(o:Nat)(r:Cond×gB)(c:Fdn l u D p3c1=some r)(O S:List Nat)(w:World)(H:Hd O w w S [.own Rp.str y 9 l.r.Phases,.own gX z 129 l.r.Moves,.own fB A 132 l.r.Rules,.blk j [sb l.text,i6 l.at_,i6 l.now.kind,i6 l.now.at_,i6 l.now.n,sb l.now.text,y,z,A] 107,.blk m [fA j] 103,.blk o [i6 p3c1] 3,.fz (.at 1 0 ((Fl.arr 7 Fl.str).f yG)),.fz (.gi 5)]):
  Cl 105 [fA j,sb u,i6 D,.func (.func 106) #[] #[fA m,fA o]] w fun e L=> ∃E F G I,e= .returned (.agg [i6 r.1.Kind,sb r.1.Name,sb r.1.Other,i6 r.1.Op,i6 r.1.N,i6 r.1.Frames,E].toArray)∧Hd O w L S [f1 fM E r.1.Kids,.own Rp.str F 9 r.2.r.Phases,.own gX G 129 r.2.r.Moves,.own fB I 132 r.2.r.Rules,.blk j [sb r.2.text,i6 r.2.at_,i6 r.2.now.kind,i6 r.2.now.at_,i6 r.2.now.n,sb r.2.now.text,F,G,I] 107,.blk m [fA j] 103,.blk o [i6 p3c1] 3]:=by
 unfold Fdn at c
 refine CW 32 Tryz.func105 ?_
 refine zB fun ap M=>zA<| yQ rfl rfl (xB kZ H) ?_
 rintro _ aq ⟨J,rfl,H⟩
 refine RN M<| zB fun ar P=>zA<| zH (.func (.func 106) #[] #[fA m,fA o]) ?_
 obtain ⟨⟨d,h⟩,Q,c⟩:=zD c
 refine zO rfl rfl (bY en106 rfl rfl) (Fc3w l p3c1 m j y z A o _ Q _ _ _ (H.enter [0,1,2,3,4,5] [6,7])) ?_
 rintro _ au ⟨B,q,s,t,rfl,R⟩
 have H:Hd _ _ _ _ [_,_,_,_,_,_,_,_,_,_]:=H.back [0,1,2,3,4,5] [6,7] rfl R
 refine ⟨_,rfl,?_⟩
 obtain ⟨av,T,c⟩:=zC c
 subst T
 refine yQ rfl rfl (kX (r:=fM) (xl:=[d]) (cs:=[i6 d.Kind,sb d.Name,sb d.Other,i6 d.Op,i6 d.N,i6 d.Frames,B]) sO el127 (by decide) (by decide) rfl (xU (vs:=[.agg [i6 d.Kind,sb d.Name,sb d.Other,i6 d.Op,i6 d.N,i6 d.Frames,B].toArray]) (by decide) rfl rfl ⟨rfl,trivial⟩ rfl) H ⟨[i6 d.Kind,sb d.Name,sb d.Other,i6 d.Op,i6 d.N,i6 d.Frames,B],[],rfl,(vC (x:=d) (H.item (i:=3) rfl)),rfl⟩) ?_
 rintro p aw H
 refine zI p<| RN P ?_
 obtain ⟨U,c,V⟩:=zD c
 refine yL [9,13,14,15,16,17,18,19,20,21,22] (fun (g:Unit)=>[(9,p)]) (fun g wl=>Hd O w wl S [.own fM p 127 ([d]:List Cond),.fz (.at 1 0 ((Fl.arr 7 Fl.str).f yG)),.fz (.gi 5),.blk J [i6 0,.string (bs []),.string (bs []),i6 0,i6 0,i6 0,.slice none 0 0] 127,.own Rp.str q 9 h.r.Phases,.own gX s 129 h.r.Moves,.own fB t 132 h.r.Rules,.blk j [sb h.text,i6 h.at_,i6 h.now.kind,i6 h.now.at_,i6 h.now.n,sb h.now.text,q,s,t] 107,.blk m [fA j] 103,.blk o [i6 p3c1] 3]) ?_ ?_
 ·skip
  refine yA ?_
  unfold Fd8 at c
  obtain ⟨X,K,Y,c⟩:=yM c
  refine xA [9,13,14,15,16,17,18,19,20,21,22] (fun (g:Nat)=>[(9,p)]) (fun g wl=>Hd O w wl S [.own fM p 127 ([d]:List Cond),.fz (.at 1 0 ((Fl.arr 7 Fl.str).f yG)),.fz (.gi 5),.blk J [i6 0,.string (bs []),.string (bs []),i6 0,i6 0,i6 0,.slice none 0 0] 127,.own Rp.str q 9 h.r.Phases,.own gX s 129 h.r.Moves,.own fB t 132 h.r.Rules,.blk j [sb h.text,i6 h.at_,i6 h.now.kind,i6 h.now.at_,i6 h.now.n,sb h.now.text,q,s,t] 107,.blk m [fA j] 103,.blk o [i6 p3c1] 3]∧fJ X g ()=some U) (fun g=>g) K (zJ rfl zK) ⟨H.pick [10,0,1,2,4,5,6,7,8,9],c⟩ ?_
  clear H c
  rintro K ρ ax ⟨H,c⟩
  obtain ⟨ay,rfl,c⟩:=yS c
  have c:=yT Y c
  refine zB fun az a0=>?_
  refine zB fun a1 Z=>zA<| zH (fA j)<| zH (sb u) ?_
  have aa:=H
  have H:=H.freezeB (i:=7) rfl
  have H:=H.freeze (i:=4) rfl
  have H:=H.freeze (i:=5) rfl
  have H:=H.freeze (i:=6) rfl
  have H:=H.fz (.pt eH (some ⟨j,0,none⟩) (some h)) ⟨_,_,_,rfl,(H.item (i:=7) rfl).1,(H.item (i:=7) rfl).2.1,(dG (x:=h) (H.item (i:=4) rfl) (H.item (i:=5) rfl) (H.item (i:=6) rfl)),(H.item (i:=7) rfl).2.2⟩
  obtain ⟨a2,ab,c⟩:=zD c
  refine zO rfl rfl (zM en79 rfl) (Famw (some h) u (some ⟨j,0,none⟩) _ ab _ _ _ (H.enter [] [10])) ?_
  rintro _ a3 ⟨rfl,ac⟩
  have H:=aa.step (ac.only:Only [] _ _)
  refine ⟨_,rfl,?_⟩
  refine RN Z ?_
  obtain ⟨ad,c⟩:=yO c
  refine xJ ad ?_
  obtain rfl:=gI c
  exact (xH (yI (yI (yU (zG (meet ⟨(),(zJ rfl zK),H.pick [0,1,2,3,4,5,6,7,8,9]⟩))))))
 rintro _ ρ a4 H
 have c:=V
 refine zB fun a5 a6=>?_
 refine zB fun a7 ae=>zA<| zH p ?_
 obtain ⟨af,ag,c⟩:=zC c
 obtain ⟨a8,a9,ah⟩:=Sr.len (Sr.of_own (H.item (i:=0) rfl))
 refine zF (yK (xI sO ah) (congrArg (Value.int .i64) ag)) ?_
 obtain ⟨ba,ai,c⟩:=zC c
 refine zF (zL (xW (a:=af) (b:=1) rfl rfl) ai)<| RN ae ?_
 obtain ⟨aj,c⟩:=eX c
 refine kF aj ?_
 refine zB fun bb ak=>zA<| zH p ?_
 obtain ⟨k,C,c⟩:=zD c
 obtain ⟨bc,bd,be,al,am,an⟩:=pK (H.item (i:=0) rfl) C
 obtain ⟨v,rfl,ao⟩:=pR am
 have H:=H.fzs [.sl fM v k.Kids] ⟨ao,trivial⟩
 refine zF (xG sO dM al rfl (zZ C).1 (zZ C).2.1 rfl rfl)<| zF (yK (yH (cs:=[i6 k.Kind,sb k.Name,sb k.Other,i6 k.Op,i6 k.N,i6 k.Frames,v]) dV rfl dM rfl an) rfl)<| yZ rfl (yN (vs:=[i6 k.Kind,sb k.Name,sb k.Other,i6 k.Op,i6 k.N,i6 k.Frames,v]) H 3 rfl dM rfl rfl rfl ⟨rfl,rfl,rfl,rfl,rfl,rfl,(dK (H.item (i:=10) rfl)),trivial⟩ rfl) ?_
 rintro bf H
 refine RN ak ?_
 obtain rfl:=gI c
 refine (zW (zV (jL rfl rfl (yX dV dM rfl (Hbc H 3 rfl)) ?_)))
 exact ⟨v,q,s,t,rfl,H.pick [10,4,5,6,7,8,9]⟩
theorem Fd3w (a:gB)(g:Int)(c:Nat)(h:Value)(j:Value)(k:Value)(r:Cond×gB)(d:Fd3 a g=some r)(O S:List Nat)(w:World)(H:Hd O w w S [.own Rp.str h 9 a.r.Phases,.own gX j 129 a.r.Moves,.own fB k 132 a.r.Rules,.blk c [sb a.text,i6 a.at_,i6 a.now.kind,i6 a.now.at_,i6 a.now.n,sb a.now.text,h,j,k] 107,.fz (.at 1 0 ((Fl.arr 7 Fl.str).f yG)),.fz (.gi 5)]):
  Cl 82 [fA c,i6 g] w fun e s=> ∃l m o p,e= .returned (.agg [i6 r.1.Kind,sb r.1.Name,sb r.1.Other,i6 r.1.Op,i6 r.1.N,i6 r.1.Frames,l].toArray)∧Hd O w s S [f1 fM l r.1.Kids,.own Rp.str m 9 r.2.r.Phases,.own gX o 129 r.2.r.Moves,.own fB p 132 r.2.r.Rules,.blk c [sb r.2.text,i6 r.2.at_,i6 r.2.now.kind,i6 r.2.now.at_,i6 r.2.now.n,sb r.2.now.text,m,o,p] 107]:=by
 unfold Fd3 at d
 refine CW 8 Tryz.func82 ?_
 refine zB fun D t=>zA<| yQ rfl rfl (jA rfl rfl H) ?_
 rintro _ E ⟨u,rfl,H⟩
 refine yQ rfl rfl (jA rfl rfl H) ?_
 rintro _ F ⟨v,rfl,H⟩
 refine yQ rfl rfl (xB kZ H) ?_
 rintro _ G ⟨I,rfl,H⟩
 refine RN t<| zB fun J x=>zA<| Ld rG H 6 0 rfl rfl<| zF (dC rfl) ?_
 obtain ⟨⟨b,K⟩,y,d⟩:=zD d
 refine zO rfl rfl (zM en105 rfl) (Fdnw (gB.mk a.text a.at_ (gU.mk a.now.kind a.now.at_ a.now.n a.now.text) (Rules.mk a.r.Phases a.r.Moves a.r.Rules)) [111,114] 10 g c h j k u v _ y _ _ _ (H.enter [0,1,2,3,6,7] [4,5])) ?_
 rintro _ L ⟨q,z,A,B,rfl,C⟩
 have H:Hd _ _ _ _ [_,_,_,_,_,_,_,_,_,_]:=H.back [0,1,2,3,6,7] [4,5] rfl C
 refine ⟨_,rfl,?_⟩
 refine yZ rfl (yN (vs:=[i6 b.Kind,sb b.Name,sb b.Other,i6 b.Op,i6 b.N,i6 b.Frames,q]) H 2 rfl dM rfl rfl rfl ⟨rfl,rfl,rfl,rfl,rfl,rfl,(dK (H.item (i:=3) rfl)),trivial⟩ rfl) ?_
 rintro M H
 refine RN x ?_
 obtain rfl:=gI d
 refine (zW (jL rfl rfl (yX dV dM rfl (Hbc H 2 rfl)) ?_))
 exact ⟨q,z,A,B,rfl,H.pick [3,4,5,6,7]⟩
end Go.Proofs.YtgmikmoapfmedaaGreatDoor.L
