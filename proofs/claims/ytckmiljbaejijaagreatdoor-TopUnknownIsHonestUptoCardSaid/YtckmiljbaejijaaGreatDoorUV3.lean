/- Walks: what each function computes, for every argument; no condition but those that stand in the statements. -/
import Derived.Test.YtckmiljbaejijaaGreatDoorUV0
import Derived.Test.YtckmiljbaejijaaGreatDoorUV2
import Derived.Test.YtckmiljbaejijaaGreatDoorUV1
namespace Go.Proofs.YtckmiljbaejijaaGreatDoor.L
open Go.RowKit Go.OB Go.Lf
set_option maxHeartbeats 4000000
theorem Fb8w (rfF:Cond→Rules→Int→Option Int)(rhF:Fer rfF)(f:Cond)(p1c0:Rules)(p1c1f1:Int)(v1:Value)(h:Nat)(k:Value)(l:Value)(m:Value)(n:Nat)(j:Nat)(r:Int)(c:Fb8 rfF f p1c0 p1c1f1=some r)(O S:List Nat)(w:World)(H:Hd O w w S [.blk h [k,l,m] 26,.blk j [i6 p1c1f1] 3,.blk n [.func (.func 147) #[] #[gW h,gW j]] 48,f1 fA v1 f.Kids,f1 Rp.str k p1c0.Phases,f1 fD l p1c0.Moves,f1 fF m p1c0.Rules]):
  Calls Tryz.prog 81 ([.agg [i6 f.Kind,sb f.Name,sb f.Other,i6 f.Op,i6 f.N,i6 f.Frames,v1].toArray,.func (.func 150) #[] #[gW h,gW n]]:List Value).toArray w fun e C=>e= .returned (i6 r)∧Hd O w C S [.blk h [k,l,m] 26,.blk j [i6 p1c1f1] 3,.blk n [.func (.func 147) #[] #[gW h,gW j]] 48]:=by
 unfold Fb8 at c
 refine zZ 29 Tryz.func81 rfl rfl rfl ?_
 refine zC fun a1 D=>zB<| yY rfl rfl (xR (cs:=[i6 f.Kind,sb f.Name,sb f.Other,i6 f.Op,i6 f.N,i6 f.Frames,v1]) rfl H) ?_
 rintro _ a2 ⟨E,rfl,H⟩
 refine zK (i6 0)<| zG (zA (D _ _ ?_))
 refine zC fun a3 F=>?_
 refine zC fun a4 G=>zB<| zJ (.func (.func 150) #[] #[gW h,gW n])<| zH (yO (yN (cs:=[i6 f.Kind,sb f.Name,sb f.Other,i6 f.Op,i6 f.N,i6 f.Frames,v1]) bD rfl bK rfl (Hbc H 7 rfl)) rfl) ?_
 obtain ⟨p,I,c⟩:=zF c
 refine yG rfl rfl (aH en150 rfl rfl) (Fb0w f p1c0 p1c1f1 v1 h k l m n j _ I _ _ _ (H.enter [0,1,2] [3,4,5,6] (by decide) rfl)) ?_
 rintro _ J ⟨rfl,K⟩
 have H:Hd _ _ J _ [f1 fA v1 f.Kids,f1 Rp.str k p1c0.Phases,f1 fD l p1c0.Moves,f1 fF m p1c0.Rules,.blk E [i6 f.Kind,sb f.Name,sb f.Other,i6 f.Op,i6 f.N,i6 f.Frames,v1] 70,.blk h [k,l,m] 26,.blk j [i6 p1c1f1] 3,.blk n [.func (.func 147) #[] #[gW h,gW j]] 48]:=H.back [0,1,2] [3,4,5,6] rfl K
 refine ⟨_,rfl,?_⟩
 refine zK (i6 p)<| zG (zA (G _ _ ?_))
 refine zC fun a5 L=>zB<| zJ (i6 p) ?_
 obtain ⟨M,P,c⟩:=zD c
 refine zH (zM (wL (a:=p) (b:=0) rfl rfl) P)<| zG (zA (L _ _ ?_))
 refine zW (b:=M) rfl (fun t=>?_) (fun t=>?_)
 ·have c:=zN t c
  refine zC fun a6 Q=>zB<| zJ (i6 p)<| zK (i6 p)<| zG (zA (Q _ _ ?_))
  obtain rfl:=gI c
  refine (zY (zT (gX (v1:=i6 p) rfl rfl ?_)))
  exact ⟨rfl,H.pick [5,6,7] (by decide)⟩
 have c:=zO t c
 refine zX (zA (F _ _ ?_))
 obtain ⟨R,T,c⟩:=xU c
 refine yH [4,7,8,15,16,17,18,19,20,21,22,23,24,25,26,27,28] (fun (g:Unit)=>[]) (fun g wl=>Hd O w wl S [f1 Rp.str k p1c0.Phases,f1 fD l p1c0.Moves,f1 fF m p1c0.Rules,.blk h [k,l,m] 26,.blk j [i6 p1c1f1] 3,.blk n [.func (.func 147) #[] #[gW h,gW j]] 48]∧R ()=some r) ?_ ?_
 ·skip
  refine zC fun a7 U=>zB<| zH (fa70_6 rfl)<| Ld one68 H 4 6 rfl rfl ?_
  obtain ⟨V,X,c⟩:=zD c
  obtain ⟨a8,a9,Y⟩:=SlF.len ((H.item (i:=0) rfl))
  refine zH (yO (xI u68 Y) (congrArg (Value.int .i64) X))<| zJ (i6 0)<| zG (zA (U _ _ ?_))
  refine yC ?_
  unfold Fdx at c
  obtain ⟨Z,y,aa,c⟩:=yR c
  refine xA [4,7,8,18,19,20,21,22,23,24,25,26,27,28] (fun (g:Nat×Int)=>[(18,i6 g.2)]) (fun g wl=>Hd O w wl S [f1 fA v1 f.Kids,f1 Rp.str k p1c0.Phases,f1 fD l p1c0.Moves,f1 fF m p1c0.Rules,.blk h [k,l,m] 26,.blk j [i6 p1c1f1] 3,.blk n [.func (.func 147) #[] #[gW h,gW j]] 48]∧fV Z g.1 g.2=some r) (fun g=>g.1) (y,0) (zI rfl zL) ⟨H.pick [0,1,2,3,5,6,7] (by decide),c⟩ ?_
  clear H c
  rintro ⟨y,s⟩ ρ ba ⟨H,c⟩
  obtain ⟨ab,rfl,c⟩:=yV c
  have c:=yU aa c
  refine zC fun bb ac=>zB ?_
  obtain ⟨ad,ae,c⟩:=zD c
  refine zH (zM (xK (a:=s) (b:=V) rfl rfl) ae)<| zG (zA (ac _ _ ?_))
  refine zC fun bc af=>?_
  refine zW (b:=ad) rfl (fun u=>?_) (fun u=>?_)
  ·have c:=zN u c
   refine zX (zA (af _ _ ?_))
   refine zC fun bd ag=>?_
   refine yC ?_
   refine zC fun be ah=>zB ?_
   obtain ⟨d,v,c⟩:=zF c
   obtain ⟨z,A,bf,bg,ai,aj,ak,al,am⟩:=wH (H.item (i:=0) rfl) v
   obtain ⟨o,rfl,an⟩:=aF aj
   have H:=H.fzs [.at z (A+s.toNat * 7) _,.sl fA o d.Kids] ⟨⟨ak,al,am⟩,an,trivial⟩
   refine zH (yT u68 bK ai rfl (zS v).1 (zS v).2.1 rfl rfl)<| zH (yO (yN (cs:=[i6 d.Kind,sb d.Name,sb d.Other,i6 d.Op,i6 d.N,i6 d.Frames,o]) bD rfl bK rfl (H.item (i:=7) rfl).2.2) rfl)<| yY rfl rfl (xN zero70 H) ?_
   rintro _ bh ⟨ao,rfl,H⟩
   refine xB rfl (xC (vs:=[i6 d.Kind,sb d.Name,sb d.Other,i6 d.Op,i6 d.N,i6 d.Frames,o]) H 9 rfl bK rfl rfl rfl ⟨rfl,rfl,rfl,rfl,rfl,rfl,(dU (H.item (i:=8) rfl)),trivial⟩ rfl) ?_
   rintro bi H
   refine zG (zA (ah _ _ ?_))
   refine zC fun bj ap=>zB<| zH (yO (yN (cs:=[i6 d.Kind,sb d.Name,sb d.Other,i6 d.Op,i6 d.N,i6 d.Frames,o]) bD rfl bK rfl (Hbc H 9 rfl)) rfl)<| zJ (.func (.func 150) #[] #[gW h,gW n]) ?_
   obtain ⟨q,aq,c⟩:=zF c
   refine yG rfl rfl (yB en81 rfl) (rhF d p1c0 p1c1f1 o h k l m n j _ aq _ _ _ (H.enter [4,5,6] [8,1,2,3] (by decide) rfl)) ?_
   rintro _ ar ⟨rfl,au⟩
   have H:Hd _ _ ar _ [f1 fA v1 f.Kids,f1 Rp.str k p1c0.Phases,f1 fD l p1c0.Moves,f1 fF m p1c0.Rules,.fz (.at z (A+s.toNat * 7) [i6 d.Kind,sb d.Name,sb d.Other,i6 d.Op,i6 d.N,i6 d.Frames,o]),f1 fA o d.Kids,.blk ao [i6 d.Kind,sb d.Name,sb d.Other,i6 d.Op,i6 d.N,i6 d.Frames,o] 70,.blk h [k,l,m] 26,.blk j [i6 p1c1f1] 3,.blk n [.func (.func 147) #[] #[gW h,gW j]] 48]:=H.back [4,5,6] [8,1,2,3] rfl au
   refine ⟨_,rfl,?_⟩
   refine zK (i6 q)<| zG (zA (ap _ _ ?_))
   refine zC fun bk av=>zB<| zJ (i6 q) ?_
   obtain ⟨aw,ax,c⟩:=zD c
   refine zH (zM (wL (a:=q) (b:=0) rfl rfl) ax)<| zG (zA (av _ _ ?_))
   refine zW (b:=aw) rfl (fun x=>?_) (fun x=>?_)
   ·have c:=zN x c
    refine zC fun bl ay=>zB<| zJ (i6 q)<| zK (i6 q)<| zG (zA (ay _ _ ?_))
    obtain rfl:=gI c
    refine (zY (yD (zT (zT (yD (zT (gX (v1:=i6 q) rfl rfl ?_)))))))
    exact ⟨rfl,H.pick [7,8,9] (by decide)⟩
   have c:=zO x c
   refine (zX (yK (zA (ag _ _ ?_))))
   refine zB ?_
   obtain ⟨B,az,c⟩:=zD c
   refine zH (xJ (a:=s) (b:=1) rfl rfl az)<| zJ (i6 B) ?_
   exact (zG (zA (meet ⟨(ab,B),(zI rfl zL),⟨H.pick [0,1,2,3,7,8,9] (by decide),c⟩,Nat.lt_succ_self _⟩)))
  have c:=zO u c
  exact (xH (yL (yL (yS (zA (meet ⟨(),zL,⟨H.pick [1,2,3,4,5,6] (by decide),c⟩⟩))))))
 rintro _ ρ bm ⟨H,c⟩
 have c:=wE T c
 refine zC fun bn a0=>zB<| zK (i6 0)<| zG (zA (a0 _ _ ?_))
 obtain rfl:=gI c
 refine (zY (gX (v1:=i6 0) rfl rfl ?_))
 exact ⟨rfl,H.pick [3,4,5] (by decide)⟩
theorem Fey:Fer (Fd5):=by
 have h: ∀n,Fer (Fa5 n):=by
  intro n
  induction n with
  | zero=>intro b p1c0 p1c1f1 c d e f i j k r a; cases a
  | succ n ih=>intro b p1c0 p1c1f1 c d e f i j k r a; exact Fb8w (Fa5 n) ih b p1c0 p1c1f1 c d e f i j k r a
 exact h FU
theorem Fcdw (h:Rules)(j:Int)(v1:Value)(k:Value)(l:Value)(r:Int)(d:Fcd h j=some r)(O S:List Nat)(w:World)(H:Hd O w w S [f1 Rp.str v1 h.Phases,f1 fD k h.Moves,f1 fF l h.Rules]):
  Calls Tryz.prog 89 ([.agg [v1,k,l].toArray,i6 j]:List Value).toArray w fun e E=>e= .returned (i6 r)∧Hd O w E S []:=by
 unfold Fcd at d
 refine zZ 34 Tryz.func89 rfl rfl rfl ?_
 refine zC fun K7 F=>zB<| yY rfl rfl (xR (cs:=[v1,k,l]) rfl H) ?_
 rintro _ aw ⟨m,rfl,H⟩
 refine yY rfl rfl (Lx_box1 rfl rfl H) ?_
 rintro _ ax ⟨n,rfl,H⟩
 refine zK (i6 0)<| zG (zA (F _ _ ?_))
 refine zC fun ay G=>zB<| zH (fa26_2 rfl)<| Ld one24 H 3 2 rfl rfl<| Ld fU H 4 0 rfl rfl ?_
 obtain ⟨c,q,d⟩:=zF d
 obtain ⟨s,t,az,a0,I,J,K,L,M⟩:=wH (H.item (i:=2) rfl) q
 obtain ⟨f,rfl,P⟩:=rRule_open J
 have H:=H.fzs [.at s (t+j.toNat * 8) _,.sl fA f c.When.Kids] ⟨⟨K,L,M⟩,P,trivial⟩
 refine zH (yT u24 sz95 I rfl (zS q).1 (zS q).2.1 rfl rfl)<| zH (yO (yN (cs:=[sb c.Name,i6 c.When.Kind,sb c.When.Name,sb c.When.Other,i6 c.When.Op,i6 c.When.N,i6 c.When.Frames,f]) agg95 rfl sz95 rfl (H.item (i:=5) rfl).2.2) rfl)<| yY rfl rfl (xN zero95 H) ?_
 rintro _ a1 ⟨A,rfl,H⟩
 refine xB rfl (xC (vs:=[sb c.Name,i6 c.When.Kind,sb c.When.Name,sb c.When.Other,i6 c.When.Op,i6 c.When.N,i6 c.When.Frames,f]) H 7 rfl sz95 rfl rfl rfl ⟨rfl,rfl,rfl,rfl,rfl,rfl,rfl,(dU (H.item (i:=6) rfl)),trivial⟩ rfl) ?_
 rintro a2 H
 refine zG (zA (G _ _ ?_))
 refine zC fun a3 Q=>zB<| zH (bG rfl)<| yY rfl rfl (xN zero48 H) ?_
 rintro _ a4 ⟨u,rfl,H⟩
 refine xB rfl (wI H 8 rfl sz48 rfl (v:= .func (.func 147) #[] #[gW m,gW n]) rfl rfl rfl) ?_
 rintro a5 H
 refine zG (zA (Q _ _ ?_))
 refine zC fun a6 R=>?_
 refine yC ?_
 refine zC fun a7 T=>zB<| zH (fa95_0 rfl)<| Ld bW H 7 0 rfl rfl ?_
 have U:=H
 obtain ⟨V,X,d⟩:=zF d
 refine yG rfl rfl (yB en86 rfl) (Famw c.Name _ X _ _ _ (H.enter [] [] (by decide) rfl)) ?_
 rintro _ a8 ⟨rfl,Y⟩
 have H:=U.step (Y.only:Only [] _ _)
 refine ⟨_,rfl,?_⟩
 obtain ⟨B,Z,d⟩:=zD d
 refine zH (zM (wJ (p:=V) rfl) Z)<| zK (.bool B)<| zG (zA (T _ _ ?_))
 refine zW (b:=B) rfl (fun x=>?_) (fun x=>?_)
 ·have d:=zN x d
  refine zC fun a9 aa=>zB<| zK (i6 8)<| zG (zA (aa _ _ ?_))
  obtain rfl:=gI d
  refine (zY (yD (zT (gX (v1:=i6 8) rfl rfl ?_))))
  exact ⟨rfl,H.pick [] (by decide)⟩
 have d:=zO x d
 refine zC fun ba ab=>zB<| Ld one48 H 8 0 rfl rfl<| zH (fa95_0 rfl)<| Ld bW H 7 0 rfl rfl ?_
 obtain ⟨C,ac,d⟩:=zF d
 refine yG rfl rfl (aH en147 rfl rfl) (Fbmw c.Name h j m v1 k l n _ ac _ _ _ (H.enter [3,4] [0,1,2] (by decide) rfl)) ?_
 rintro _ ad ⟨rfl,ae⟩
 have H:Hd _ _ ad _ [f1 Rp.str v1 h.Phases,f1 fD k h.Moves,f1 fF l h.Rules,.fz (.at s (t+j.toNat * 8) [sb c.Name,i6 c.When.Kind,sb c.When.Name,sb c.When.Other,i6 c.When.Op,i6 c.When.N,i6 c.When.Frames,f]),f1 fA f c.When.Kids,.blk A [sb c.Name,i6 c.When.Kind,sb c.When.Name,sb c.When.Other,i6 c.When.Op,i6 c.When.N,i6 c.When.Frames,f] 95,.blk u [.func (.func 147) #[] #[gW m,gW n]] 48,.blk m [v1,k,l] 26,.blk n [i6 j] 3]:=H.back [3,4] [0,1,2] rfl ae
 refine ⟨_,rfl,?_⟩
 refine zK (.bool C)<| zG (zA (ab _ _ ?_))
 refine zW (b:=C) rfl (fun y=>?_) (fun y=>?_)
 ·have d:=zN y d
  refine zC fun bb af=>zB<| zK (i6 5)<| zG (zA (af _ _ ?_))
  obtain rfl:=gI d
  refine (zY (yD (zT (gX (v1:=i6 5) rfl rfl ?_))))
  exact ⟨rfl,H.pick [] (by decide)⟩
 have d:=zO y d
 refine (zX (yK (zA (R _ _ ?_))))
 refine zC fun bc ag=>?_
 refine zC fun bd ah=>zB<| zH (fa95_1 rfl)<| zH (yO (yN (cs:=[i6 c.When.Kind,sb c.When.Name,sb c.When.Other,i6 c.When.Op,i6 c.When.N,i6 c.When.Frames,f]) bD rfl bK rfl (Cells.drop (Hbc H 5 rfl) 1 7)) rfl) ?_
 have ai:=H
 obtain ⟨o,aj,d⟩:=zF d
 refine yG rfl rfl (yB en29 rfl) (Fbcw c.When f _ aj _ _ _ (H.enter [] [4] (by decide) rfl)) ?_
 rintro _ be ⟨rfl,ak⟩
 have H:=ai.step (ak.only:Only [] _ _)
 refine ⟨_,rfl,?_⟩
 refine zK (i6 o)<| zG (zA (ah _ _ ?_))
 refine zC fun bf al=>zB<| zJ (i6 o) ?_
 obtain ⟨am,an,d⟩:=zD d
 refine zH (zM (wL (a:=o) (b:=0) rfl rfl) an)<| zG (zA (al _ _ ?_))
 refine zW (b:=am) rfl (fun z=>?_) (fun z=>?_)
 ·have d:=zN z d
  refine zC fun bg ao=>zB<| zJ (i6 o)<| zK (i6 o)<| zG (zA (ao _ _ ?_))
  obtain rfl:=gI d
  refine (zY (zT (gX (v1:=i6 o) rfl rfl ?_)))
  exact ⟨rfl,H.pick [] (by decide)⟩
 have d:=zO z d
 refine zX (zA (ag _ _ ?_))
 refine zC fun bh ap=>zB<| zH (fa95_1 rfl)<| zH (yO (yN (cs:=[i6 c.When.Kind,sb c.When.Name,sb c.When.Other,i6 c.When.Op,i6 c.When.N,i6 c.When.Frames,f]) bD rfl bK rfl (Cells.drop (Hbc H 5 rfl) 1 7)) rfl)<| zH (bG rfl) ?_
 obtain ⟨D,aq,d⟩:=zF d
 refine yG rfl rfl (yB en81 rfl) (Fey c.When h j f m v1 k l u n _ aq _ _ _ (H.enter [7,8,6] [4,0,1,2] (by decide) rfl)) ?_
 rintro _ ar ⟨rfl,au⟩
 have H:Hd _ _ ar _ [f1 Rp.str v1 h.Phases,f1 fD k h.Moves,f1 fF l h.Rules,.fz (.at s (t+j.toNat * 8) [sb c.Name,i6 c.When.Kind,sb c.When.Name,sb c.When.Other,i6 c.When.Op,i6 c.When.N,i6 c.When.Frames,f]),f1 fA f c.When.Kids,.blk A [sb c.Name,i6 c.When.Kind,sb c.When.Name,sb c.When.Other,i6 c.When.Op,i6 c.When.N,i6 c.When.Frames,f] 95,.blk m [v1,k,l] 26,.blk n [i6 j] 3,.blk u [.func (.func 147) #[] #[gW m,gW n]] 48]:=H.back [7,8,6] [4,0,1,2] rfl au
 refine ⟨_,rfl,?_⟩
 refine zK (i6 D)<| zG (zA (ap _ _ ?_))
 obtain rfl:=gI d
 refine (zY (gX (v1:=i6 D) rfl rfl ?_))
 exact ⟨rfl,H.pick [] (by decide)⟩
set_option maxRecDepth 100000 in
theorem Fbyw (d:Rules)(v1:Value)(h:Value)(j:Value)(r:Int)(c:Fby d=some r)(O S:List Nat)(w:World)(H:Hd O w w S [f1 Rp.str v1 d.Phases,f1 fD h d.Moves,f1 fF j d.Rules]):
  Calls Tryz.prog 31 ([.agg [v1,h,j].toArray]:List Value).toArray w fun e X=>e= .returned (i6 r)∧Hd O w X S []:=by
 unfold Fby at c
 refine zZ 71 Tryz.func31 rfl rfl rfl ?_
 refine zC fun K7 Y=>zB<| yY rfl rfl (xR (cs:=[v1,h,j]) rfl H) ?_
 rintro _ dp ⟨k,rfl,H⟩
 refine zK (i6 0)<| zG (zA (Y _ _ ?_))
 refine zC fun dq Z=>?_
 obtain ⟨J,c,aa⟩:=zF c
 refine yH [10,11,12,13,14,15,16,17,18,19,20,21,22,23,24,25] (fun (g:Unit)=>[(25,.bool J)]) (fun g wl=>Hd O w wl S [f1 Rp.str v1 d.Phases,f1 fD h d.Moves,f1 fF j d.Rules,.blk k [v1,h,j] 26]) ?_ ?_
 ·skip
  refine zB ?_
  refine zH (fa26_0 rfl)<| Ld aN H 3 0 rfl rfl ?_
  obtain ⟨ab,ac,c⟩:=zD c
  obtain ⟨dr,ds,ad⟩:=SlF.len ((H.item (i:=0) rfl))
  refine zH (yO (xI u22 ad) (congrArg (Value.int .i64) ac)) ?_
  obtain ⟨ae,af,c⟩:=zD c
  refine zH (zM (bM (a:=ab) (b:=20) rfl rfl) af) ?_
  obtain ⟨K,c,ag⟩:=zF c
  refine dF 6 [14,15,16,17,18,19] [(19,.bool K)] (fun wl=>Hd O w wl S [f1 Rp.str v1 d.Phases,f1 fD h d.Moves,f1 fF j d.Rules,.blk k [v1,h,j] 26]) ?_ ?_
  ·skip
   refine yM (b:=ae) rfl rfl rfl (fun t=>?_) (fun t=>?_)
   ·have c:=zN t c
    refine yE ?_
    refine yE ?_
    refine yE ?_
    refine yE ?_
    refine zH (yI (v:= .bool true) rfl rfl) ?_
    obtain rfl:=gI c
    exact zG (zA (meet ⟨(zI rfl zL),H.pick [0,1,2,3] (by decide)⟩))
   have c:=zO t c
   refine zH (fa26_1 rfl)<| Ld one23 H 3 1 rfl rfl ?_
   obtain ⟨ah,ai,c⟩:=zD c
   obtain ⟨dt,du,aj⟩:=SlF.len ((H.item (i:=1) rfl))
   refine zH (yO (xI u23 aj) (congrArg (Value.int .i64) ai)) ?_
   obtain ⟨ak,al,c⟩:=zD c
   refine zH (zM (bM (a:=ah) (b:=60) rfl rfl) al)<| zH (yF (v:= .bool ak) rfl rfl) ?_
   obtain rfl:=gI c
   exact zG (zA (meet ⟨(zI rfl zL),H.pick [0,1,2,3] (by decide)⟩))
  rintro ρ dv H
  have c:=ag
  refine yM (b:=K) rfl rfl rfl (fun u=>?_) (fun u=>?_)
  ·have c:=zN u c
   refine yE ?_
   refine yE ?_
   refine yE ?_
   refine yE ?_
   refine zH (yI (v:= .bool true) rfl rfl) ?_
   obtain rfl:=gI c
   exact (zG (zA (meet ⟨(),(zI rfl zL),H.pick [0,1,2,3] (by decide)⟩)))
  have c:=zO u c
  refine zH (fa26_2 rfl)<| Ld one24 H 3 2 rfl rfl ?_
  obtain ⟨am,an,c⟩:=zD c
  obtain ⟨dw,dx,ao⟩:=SlF.len ((H.item (i:=2) rfl))
  refine zH (yO (xI u24 ao) (congrArg (Value.int .i64) an)) ?_
  obtain ⟨ap,aq,c⟩:=zD c
  refine zH (zM (bM (a:=am) (b:=60) rfl rfl) aq)<| zH (yF (v:= .bool ap) rfl rfl) ?_
  obtain rfl:=gI c
  exact (zG (zA (meet ⟨(),(zI rfl zL),H.pick [0,1,2,3] (by decide)⟩)))
 rintro _ ρ dy H
 have c:=aa
 refine zW (b:=J) rfl (fun x=>?_) (fun x=>?_)
 ·have c:=zN x c
  refine zC fun dz ar=>zB<| zK (i6 3)<| zG (zA (ar _ _ ?_))
  obtain rfl:=gI c
  refine (zY (zT (gX (v1:=i6 3) rfl rfl ?_)))
  exact ⟨rfl,H.pick [] (by decide)⟩
 have c:=zO x c
 refine zX (zA (Z _ _ ?_))
 obtain ⟨au,av,c⟩:=xU c
 refine yH [2,3,4,26,27,28,29,30,31,32,33,34,35,36,37,38,39,40,41,42,43] (fun (g:Unit)=>[]) (fun g wl=>Hd O w wl S [f1 Rp.str v1 d.Phases,f1 fD h d.Moves,f1 fF j d.Rules,.blk k [v1,h,j] 26]∧au ()=some r) ?_ ?_
 ·skip
  refine zC fun d0 aw=>zB<| zH (fa26_0 rfl)<| Ld aN H 3 0 rfl rfl ?_
  obtain ⟨ax,ay,c⟩:=zD c
  obtain ⟨d1,d2,az⟩:=SlF.len ((H.item (i:=0) rfl))
  refine zH (yO (xI u22 az) (congrArg (Value.int .i64) ay))<| zJ (i6 0)<| zG (zA (aw _ _ ?_))
  refine yC ?_
  unfold Fea at c
  obtain ⟨a0,L,a1,c⟩:=yR c
  refine xA [2,3,4,29,30,31,32,33,34,35,36,37,38,39,40,41,42,43] (fun (g:Nat×Int)=>[(29,i6 g.2)]) (fun g wl=>Hd O w wl S [f1 Rp.str v1 d.Phases,f1 fD h d.Moves,f1 fF j d.Rules,.blk k [v1,h,j] 26]∧fV a0 g.1 g.2=some r) (fun g=>g.1) (L,0) (zI rfl zL) ⟨H.pick [0,1,2,3] (by decide),c⟩ ?_
  clear H c
  rintro ⟨L,l⟩ ρ d3 ⟨H,c⟩
  obtain ⟨a2,rfl,c⟩:=yV c
  have c:=yU a1 c
  refine zC fun d4 a3=>zB ?_
  obtain ⟨a4,a5,c⟩:=zD c
  refine zH (zM (xK (a:=l) (b:=ax) rfl rfl) a5)<| zG (zA (a3 _ _ ?_))
  refine zC fun d5 a6=>?_
  refine zW (b:=a4) rfl (fun y=>?_) (fun y=>?_)
  ·have c:=zN y c
   refine zX (zA (a6 _ _ ?_))
   refine zC fun d6 a7=>?_
   refine yC ?_
   refine zC fun d7 a8=>zB<| zJ (i6 l) ?_
   obtain ⟨m,z,c⟩:=zF c
   obtain ⟨a9,ba,d8,bb,bc,bd,be,bf,bg⟩:=wH (H.item (i:=0) rfl) z
   obtain rfl:bb= [sb m]:=bd
   have H:=H.fz (.at a9 (ba+l.toNat * 1) _) ⟨be,bf,bg⟩
   refine zH (yT u22 sz9 bc rfl (zS z).1 (zS z).2.1 rfl rfl)<| zH (yX bW rfl (Cells.get (H.item (i:=4) rfl).2.2 (i:=0) rfl))<| zK (i6 l)<| zK (sb m)<| zG (zA (a8 _ _ ?_))
   refine zC fun d9 bh=>?_
   refine zC fun ea bi=>zB<| zJ (sb m) ?_
   have bj:=H
   obtain ⟨bk,bl,c⟩:=zF c
   refine yG rfl rfl (yB en86 rfl) (Famw m _ bl _ _ _ (H.enter [] [] (by decide) rfl)) ?_
   rintro _ eb ⟨rfl,bm⟩
   have H:=bj.step (bm.only:Only [] _ _)
   refine ⟨_,rfl,?_⟩
   obtain ⟨bn,bo,c⟩:=zD c
   refine zH (zM (wJ (p:=bk) rfl) bo)<| zG (zA (bi _ _ ?_))
   refine zW (b:=bn) rfl (fun A=>?_) (fun A=>?_)
   ·have c:=zN A c
    refine zC fun ec bp=>zB<| zK (i6 8)<| zG (zA (bp _ _ ?_))
    obtain rfl:=gI c
    refine (zY (zT (yD (zT (zT (yD (zT (gX (v1:=i6 8) rfl rfl ?_))))))))
    exact ⟨rfl,H.pick [] (by decide)⟩
   have c:=zO A c
   refine zX (zA (bh _ _ ?_))
   refine zC fun ed bq=>zB<| zH (fa26_0 rfl)<| Ld aN H 3 0 rfl rfl<| zJ (i6 l) ?_
   obtain ⟨M,br,c⟩:=zF c
   refine RL_exP rfl rfl (Lx_slice_h u22 sz9 (H.item (i:=0) rfl) rfl rfl br) ?_
   rintro P bt
   have H:=H.fz (.sl Rp.str P M) bt
   refine zJ (sb m) ?_
   have bu:=H
   obtain ⟨bv,bw,c⟩:=zF c
   refine yG rfl rfl (yB en87 rfl) (Fa0w M m P _ bw _ _ _ (H.enter [] [5] (by decide) rfl)) ?_
   rintro _ ee ⟨rfl,bx⟩
   have H:=bu.step (bx.only:Only [] _ _)
   refine ⟨_,rfl,?_⟩
   refine zG (zA (bq _ _ ?_))
   refine zW (b:=bv) rfl (fun B=>?_) (fun B=>?_)
   ·have c:=zN B c
    refine zC fun ef bz=>zB<| zK (i6 5)<| zG (zA (bz _ _ ?_))
    obtain rfl:=gI c
    refine (zY (yD (zT (zT (yD (zT (gX (v1:=i6 5) rfl rfl ?_)))))))
    exact ⟨rfl,H.pick [] (by decide)⟩
   have c:=zO B c
   refine (zX (yK (zA (a7 _ _ ?_))))
   refine zB ?_
   obtain ⟨Q,b0,c⟩:=zD c
   refine zH (xJ (a:=l) (b:=1) rfl rfl b0)<| zJ (i6 Q) ?_
   exact (zG (zA (meet ⟨(a2,Q),(zI rfl zL),⟨H.pick [0,1,2,3] (by decide),c⟩,Nat.lt_succ_self _⟩)))
  have c:=zO y c
  exact (xH (yL (yL (yS (zA (meet ⟨(),zL,⟨H.pick [0,1,2,3] (by decide),c⟩⟩))))))
 rintro _ ρ eg ⟨H,c⟩
 have c:=wE av c
 obtain ⟨b1,b2,c⟩:=xU c
 refine yH [2,6,7,44,45,46,47,48,49,50,51,52,53,54,55,56,57] (fun (g:Unit)=>[]) (fun g wl=>Hd O w wl S [f1 Rp.str v1 d.Phases,f1 fD h d.Moves,f1 fF j d.Rules,.blk k [v1,h,j] 26]∧b1 ()=some r) ?_ ?_
 ·skip
  refine zC fun eh b3=>zB<| zH (fa26_1 rfl)<| Ld one23 H 3 1 rfl rfl ?_
  obtain ⟨b4,b5,c⟩:=zD c
  obtain ⟨ei,ej,b6⟩:=SlF.len ((H.item (i:=1) rfl))
  refine zH (yO (xI u23 b6) (congrArg (Value.int .i64) b5))<| zJ (i6 0)<| zG (zA (b3 _ _ ?_))
  refine yC ?_
  unfold Fdq at c
  obtain ⟨b7,R,b8,c⟩:=yR c
  refine xA [2,6,7,47,48,49,50,51,52,53,54,55,56,57] (fun (g:Nat×Int)=>[(47,i6 g.2)]) (fun g wl=>Hd O w wl S [f1 Rp.str v1 d.Phases,f1 fD h d.Moves,f1 fF j d.Rules,.blk k [v1,h,j] 26]∧fV b7 g.1 g.2=some r) (fun g=>g.1) (R,0) (zI rfl zL) ⟨H.pick [0,1,2,3] (by decide),c⟩ ?_
  clear H c
  rintro ⟨R,C⟩ ρ ek ⟨H,c⟩
  obtain ⟨b9,rfl,c⟩:=yV c
  have c:=yU b8 c
  refine zC fun el ca=>zB ?_
  obtain ⟨cb,cc,c⟩:=zD c
  refine zH (zM (xK (a:=C) (b:=b4) rfl rfl) cc)<| zG (zA (ca _ _ ?_))
  refine zC fun em cd=>?_
  refine zW (b:=cb) rfl (fun D=>?_) (fun D=>?_)
  ·have c:=zN D c
   refine zX (zA (cd _ _ ?_))
   refine zC fun en ce=>?_
   refine yC ?_
   refine zC fun eo cf=>zB ?_
   obtain ⟨f,E,c⟩:=zF c
   obtain ⟨cg,ch,ep,er,ci,cj,ck,cl,cm⟩:=wH (H.item (i:=1) rfl) E
   obtain ⟨s,rfl,cn⟩:=rMoveT_open cj
   have H:=H.fzs [.at cg (ch+C.toNat * 9) _,.sl fA s f.When.Kids] ⟨⟨ck,cl,cm⟩,cn,trivial⟩
   refine zH (yT u23 sz122 ci rfl (zS E).1 (zS E).2.1 rfl rfl)<| zH (yO (yN (cs:=[sb f.From,sb f.To,i6 f.When.Kind,sb f.When.Name,sb f.When.Other,i6 f.When.Op,i6 f.When.N,i6 f.When.Frames,s]) agg122 rfl sz122 rfl (H.item (i:=4) rfl).2.2) rfl)<| yY rfl rfl (xN zero122 H) ?_
   rintro _ es ⟨et,rfl,H⟩
   refine xB rfl (xC (vs:=[sb f.From,sb f.To,i6 f.When.Kind,sb f.When.Name,sb f.When.Other,i6 f.When.Op,i6 f.When.N,i6 f.When.Frames,s]) H 6 rfl sz122 rfl rfl rfl ⟨rfl,rfl,rfl,rfl,rfl,rfl,rfl,rfl,(dU (H.item (i:=5) rfl)),trivial⟩ rfl) ?_
   rintro eu H
   refine zG (zA (cf _ _ ?_))
   refine zC fun ew co=>zB<| zH (yO (yN (cs:=[v1,h,j]) agg26 rfl sz26 rfl (Hbc H 3 rfl)) rfl)<| zH (yO (yN (cs:=[sb f.From,sb f.To,i6 f.When.Kind,sb f.When.Name,sb f.When.Other,i6 f.When.Op,i6 f.When.N,i6 f.When.Frames,s]) agg122 rfl sz122 rfl (Hbc H 6 rfl)) rfl) ?_
   have cp:=H
   obtain ⟨n,cq,c⟩:=zF c
   refine yG rfl rfl (yB en88 rfl) (Fcgw d f v1 h j s _ cq _ _ _ (H.enter [] [0,1,2,5] (by decide) rfl)) ?_
   rintro _ ex ⟨rfl,cr⟩
   have H:=cp.step (cr.only:Only [] _ _)
   refine ⟨_,rfl,?_⟩
   refine zK (i6 n)<| zG (zA (co _ _ ?_))
   refine zC fun ey ct=>zB<| zJ (i6 n) ?_
   obtain ⟨cu,cv,c⟩:=zD c
   refine zH (zM (wL (a:=n) (b:=0) rfl rfl) cv)<| zG (zA (ct _ _ ?_))
   refine zW (b:=cu) rfl (fun F=>?_) (fun F=>?_)
   ·have c:=zN F c
    refine zC fun ez cw=>zB<| zJ (i6 n)<| zK (i6 n)<| zG (zA (cw _ _ ?_))
    obtain rfl:=gI c
    refine (zY (yD (zT (zT (yD (zT (gX (v1:=i6 n) rfl rfl ?_)))))))
    exact ⟨rfl,H.pick [] (by decide)⟩
   have c:=zO F c
   refine (zX (yK (zA (ce _ _ ?_))))
   refine zB ?_
   obtain ⟨T,cx,c⟩:=zD c
   refine zH (xJ (a:=C) (b:=1) rfl rfl cx)<| zJ (i6 T) ?_
   exact (zG (zA (meet ⟨(b9,T),(zI rfl zL),⟨H.pick [0,1,2,3] (by decide),c⟩,Nat.lt_succ_self _⟩)))
  have c:=zO D c
  exact (xH (yL (yL (yS (zA (meet ⟨(),zL,⟨H.pick [0,1,2,3] (by decide),c⟩⟩))))))
 rintro _ ρ e0 ⟨H,c⟩
 have c:=wE b2 c
 obtain ⟨cy,cz,c⟩:=xU c
 refine yH [2,8,9,58,59,60,61,62,63,64,65,66,67,68,69,70] (fun (g:Unit)=>[]) (fun g wl=>Hd O w wl S []∧cy ()=some r) ?_ ?_
 ·skip
  refine zC fun e1 c0=>zB<| zH (fa26_2 rfl)<| Ld one24 H 3 2 rfl rfl ?_
  obtain ⟨c1,c2,c⟩:=zD c
  obtain ⟨e2,e3,c3⟩:=SlF.len ((H.item (i:=2) rfl))
  refine zH (yO (xI u24 c3) (congrArg (Value.int .i64) c2))<| zJ (i6 0)<| zG (zA (c0 _ _ ?_))
  refine yC ?_
  unfold Fep at c
  obtain ⟨c4,U,c5,c⟩:=yR c
  refine xA [2,8,9,61,62,63,64,65,66,67,68,69,70] (fun (g:Nat×Int)=>[(61,i6 g.2)]) (fun g wl=>Hd O w wl S [f1 Rp.str v1 d.Phases,f1 fD h d.Moves,f1 fF j d.Rules,.blk k [v1,h,j] 26]∧fV c4 g.1 g.2=some r) (fun g=>g.1) (U,0) (zI rfl zL) ⟨H.pick [0,1,2,3] (by decide),c⟩ ?_
  clear H c
  rintro ⟨U,o⟩ ρ e4 ⟨H,c⟩
  obtain ⟨c6,rfl,c⟩:=yV c
  have c:=yU c5 c
  refine zC fun e5 c7=>zB ?_
  obtain ⟨c8,c9,c⟩:=zD c
  refine zH (zM (xK (a:=o) (b:=c1) rfl rfl) c9)<| zG (zA (c7 _ _ ?_))
  refine zC fun e6 da=>?_
  refine zW (b:=c8) rfl (fun G=>?_) (fun G=>?_)
  ·have c:=zN G c
   refine zX (zA (da _ _ ?_))
   refine zC fun e7 db=>?_
   refine yC ?_
   refine zC fun e8 dc=>zB<| zJ (i6 o)<| zK (i6 o)<| zG (zA (dc _ _ ?_))
   refine zC fun e9 dd=>zB<| zH (yO (yN (cs:=[v1,h,j]) agg26 rfl sz26 rfl (Hbc H 3 rfl)) rfl)<| zJ (i6 o) ?_
   have de:=H
   obtain ⟨q,df,c⟩:=zF c
   refine yG rfl rfl (yB en89 rfl) (Fcdw d o v1 h j _ df _ _ _ (H.enter [] [0,1,2] (by decide) rfl)) ?_
   rintro _ fa ⟨rfl,dg⟩
   have H:=de.step (dg.only:Only [] _ _)
   refine ⟨_,rfl,?_⟩
   refine zK (i6 q)<| zG (zA (dd _ _ ?_))
   refine zC fun fb dh=>zB<| zJ (i6 q) ?_
   obtain ⟨di,dj,c⟩:=zD c
   refine zH (zM (wL (a:=q) (b:=0) rfl rfl) dj)<| zG (zA (dh _ _ ?_))
   refine zW (b:=di) rfl (fun I=>?_) (fun I=>?_)
   ·have c:=zN I c
    refine zC fun fc dk=>zB<| zJ (i6 q)<| zK (i6 q)<| zG (zA (dk _ _ ?_))
    obtain rfl:=gI c
    refine (zY (yD (zT (zT (yD (zT (gX (v1:=i6 q) rfl rfl ?_)))))))
    exact ⟨rfl,H.pick [] (by decide)⟩
   have c:=zO I c
   refine (zX (yK (zA (db _ _ ?_))))
   refine zB ?_
   obtain ⟨V,dl,c⟩:=zD c
   refine zH (xJ (a:=o) (b:=1) rfl rfl dl)<| zJ (i6 V) ?_
   exact (zG (zA (meet ⟨(c6,V),(zI rfl zL),⟨H.pick [0,1,2,3] (by decide),c⟩,Nat.lt_succ_self _⟩)))
  have c:=zO G c
  exact (xH (yL (yL (yS (zA (meet ⟨(),zL,⟨H.pick [] (by decide),c⟩⟩))))))
 rintro _ ρ fd ⟨H,c⟩
 have c:=wE cz c
 refine zC fun fe dm=>zB<| zK (i6 0)<| zG (zA (dm _ _ ?_))
 obtain rfl:=gI c
 refine (zY (gX (v1:=i6 0) rfl rfl ?_))
 exact ⟨rfl,H.pick [] (by decide)⟩
theorem Fc0w (a:gZ)(b:gZ)(v1:Value)(d:Nat)(f:Value)(r:Bool)(c:Fc0 a b=some r)(O S:List Nat)(w:World)(H:Hd O w w S [.blk d [sb b.Name,i6 b.Series.Den,f,i6 b.Long] 37,f1 fP v1 a.Series.Samples,f1 fP f b.Series.Samples]):
  Calls Tryz.prog 138 ([.agg [sb a.Name,i6 a.Series.Den,v1,i6 a.Long].toArray,gW d]:List Value).toArray w fun e i=>e= .returned (.bool r)∧Hd O w i S [.blk d [sb b.Name,i6 b.Series.Den,f,i6 b.Long] 37]:=by
 unfold Fc0 at c
 refine zZ 9 Tryz.func138 rfl rfl rfl ?_
 refine zC fun m j=>zB<| yY rfl rfl (xR (cs:=[sb a.Name,i6 a.Series.Den,v1,i6 a.Long]) rfl H) ?_
 rintro _ n ⟨o,rfl,H⟩
 refine zK (.bool false)<| zG (zA (j _ _ ?_))
 refine zC fun p k=>zB<| zH (fa37_0 rfl)<| Ld bW H 3 0 rfl rfl<| zH (fa37_0 rfl)<| Ld bW H 0 0 rfl rfl ?_
 obtain ⟨h,l,c⟩:=zD c
 refine zH (zM (dL (s1:=a.Name) (s2:=b.Name) rfl rfl) l)<| zK (.bool h)<| zG (zA (k _ _ ?_))
 obtain rfl:=gI c
 refine (zY (gX (v1:= .bool h) rfl rfl ?_))
 exact ⟨rfl,H.pick [0] (by decide)⟩
theorem Fb5w (l:List gZ)(p1c0:gZ)(v1:Value)(j:Nat)(d:Value)(r:Int)(c:Fb5 l p1c0=some r)(O S:List Nat)(w:World)(H:Hd O w w S [.blk j [sb p1c0.Name,i6 p1c0.Series.Den,d,i6 p1c0.Long] 37,f1 fG v1 l,f1 fP d p1c0.Series.Samples]):
  Calls Tryz.prog 189 ([v1,.func (.func 138) #[] #[gW j]]:List Value).toArray w fun e u=>e= .returned (i6 r)∧Hd O w u S [.blk j [sb p1c0.Name,i6 p1c0.Series.Den,d,i6 p1c0.Long] 37]:=by
 unfold Fb5 at c
 refine zZ 19 Tryz.func189 rfl rfl rfl ?_
 refine zC fun K7 v=>zB<| zK (i6 0)<| zG (zA (v _ _ ?_))
 obtain ⟨x,y,c⟩:=xU c
 refine yH [4,5,6,7,8,9,10,11,12,13,14,15,16,17,18] (fun (g:Unit)=>[]) (fun g wl=>Hd O w wl S [.blk j [sb p1c0.Name,i6 p1c0.Series.Den,d,i6 p1c0.Long] 37,f1 fP d p1c0.Series.Samples]∧x ()=some r) ?_ ?_
 ·skip
  refine zC fun af z=>zB<| zJ v1 ?_
  obtain ⟨A,B,c⟩:=zD c
  obtain ⟨ag,ah,C⟩:=SlF.len ((H.item (i:=1) rfl))
  refine zH (yO (xI u27 C) (congrArg (Value.int .i64) B))<| zJ (i6 0)<| zG (zA (z _ _ ?_))
  refine yC ?_
  unfold Fd8 at c
  obtain ⟨D,p,E,c⟩:=yR c
  refine xA [4,5,8,9,10,11,12,13,14,15,16,17,18] (fun (g:Nat×Int)=>[(8,i6 g.2)]) (fun g wl=>Hd O w wl S [.blk j [sb p1c0.Name,i6 p1c0.Series.Den,d,i6 p1c0.Long] 37,f1 fP d p1c0.Series.Samples,f1 fG v1 l]∧fV D g.1 g.2=some r) (fun g=>g.1) (p,0) (zI rfl zL) ⟨H.pick [0,2,1] (by decide),c⟩ ?_
  clear H c
  rintro ⟨p,f⟩ ρ ai ⟨H,c⟩
  obtain ⟨F,rfl,c⟩:=yV c
  have c:=yU E c
  refine zC fun aj G=>zB ?_
  obtain ⟨I,J,c⟩:=zD c
  refine zH (zM (xK (a:=f) (b:=A) rfl rfl) J)<| zG (zA (G _ _ ?_))
  refine zC fun ak K=>?_
  refine zW (b:=I) rfl (fun m=>?_) (fun m=>?_)
  ·have c:=zN m c
   refine zX (zA (K _ _ ?_))
   refine zC fun al L=>?_
   refine yC ?_
   refine zC fun am M=>zB<| zJ (i6 f)<| zK (i6 f)<| zG (zA (M _ _ ?_))
   refine zC fun an N=>zB<| zJ (.func (.func 138) #[] #[gW j])<| zJ v1<| zJ (i6 f) ?_
   obtain ⟨h,n,c⟩:=zF c
   obtain ⟨q,s,ao,ap,P,Q,R,T,U⟩:=wH (H.item (i:=2) rfl) n
   obtain ⟨k,rfl,V⟩:=kK Q
   have H:=H.fzs [.at q (s+f.toNat * 4) _,.sl fP k h.Series.Samples] ⟨⟨R,T,U⟩,V,trivial⟩
   refine zH (yT u27 sz37 P rfl (zS n).1 (zS n).2.1 rfl rfl)<| zH (yO (yN (cs:=[sb h.Name,i6 h.Series.Den,k,i6 h.Long]) agg37 rfl sz37 rfl (H.item (i:=3) rfl).2.2) rfl) ?_
   obtain ⟨X,Y,c⟩:=zF c
   refine yG rfl rfl (aH en138 rfl rfl) (Fc0w h p1c0 k j d _ Y _ _ _ (H.enter [0] [4,1] (by decide) rfl)) ?_
   rintro _ Z ⟨rfl,aa⟩
   have H:Hd _ _ Z _ [f1 fP d p1c0.Series.Samples,f1 fG v1 l,.fz (.at q (s+f.toNat * 4) [sb h.Name,i6 h.Series.Den,k,i6 h.Long]),f1 fP k h.Series.Samples,.blk j [sb p1c0.Name,i6 p1c0.Series.Den,d,i6 p1c0.Long] 37]:=H.back [0] [4,1] rfl aa
   refine ⟨_,rfl,?_⟩
   refine zG (zA (N _ _ ?_))
   refine zW (b:=X) rfl (fun o=>?_) (fun o=>?_)
   ·have c:=zN o c
    refine zC fun aq ab=>zB<| zJ (i6 f)<| zK (i6 f)<| zG (zA (ab _ _ ?_))
    obtain rfl:=gI c
    refine (zY (yD (zT (zT (yD (zT (gX (v1:=i6 f) rfl rfl ?_)))))))
    exact ⟨rfl,H.pick [4] (by decide)⟩
   have c:=zO o c
   refine (zX (yK (zA (L _ _ ?_))))
   refine zB ?_
   obtain ⟨t,ac,c⟩:=zD c
   refine zH (xJ (a:=f) (b:=1) rfl rfl ac)<| zJ (i6 t) ?_
   exact (zG (zA (meet ⟨(F,t),(zI rfl zL),⟨H.pick [4,0,1] (by decide),c⟩,Nat.lt_succ_self _⟩)))
  have c:=zO m c
  exact (xH (yL (yL (yS (zA (meet ⟨(),zL,⟨H.pick [0,1] (by decide),c⟩⟩))))))
 rintro _ ρ ar ⟨H,c⟩
 have c:=wE y c
 refine zC fun au ad=>zB<| zK (i6 (-1))<| zG (zA (ad _ _ ?_))
 obtain rfl:=gI c
 refine (zY (gX (v1:=i6 (-1)) rfl rfl ?_))
 exact ⟨rfl,H.pick [0] (by decide)⟩
theorem Fb9w (h:List gZ)(p1c0:gZ)(v1:Value)(c:Nat)(d:Value)(r:Bool)(f:Fb9 h p1c0=some r)(O S:List Nat)(w:World)(H:Hd O w w S [.blk c [sb p1c0.Name,i6 p1c0.Series.Den,d,i6 p1c0.Long] 37,f1 fG v1 h,f1 fP d p1c0.Series.Samples]):
  Calls Tryz.prog 134 ([v1,.func (.func 138) #[] #[gW c]]:List Value).toArray w fun e j=>e= .returned (.bool r)∧Hd O w j S [.blk c [sb p1c0.Name,i6 p1c0.Series.Den,d,i6 p1c0.Long] 37]:=by
 unfold Fb9 at f
 refine zZ 9 Tryz.func134 rfl rfl rfl ?_
 refine zC fun s k=>zB<| zK (.bool false)<| zG (zA (k _ _ ?_))
 refine zC fun t l=>zB<| zJ v1<| zJ (.func (.func 138) #[] #[gW c]) ?_
 obtain ⟨m,n,f⟩:=zF f
 refine yG rfl rfl (yB en189 rfl) (Fb5w h p1c0 v1 c d _ n _ _ _ (H.enter [0] [1,2] (by decide) rfl)) ?_
 rintro _ o ⟨rfl,p⟩
 have H:Hd _ _ o _ [f1 fG v1 h,f1 fP d p1c0.Series.Samples,.blk c [sb p1c0.Name,i6 p1c0.Series.Den,d,i6 p1c0.Long] 37]:=H.back [0] [1,2] rfl p
 refine ⟨_,rfl,?_⟩
 obtain ⟨i,q,f⟩:=zD f
 refine zH (zM (aJ (a:=m) (b:=0) rfl rfl) q)<| zK (.bool i)<| zG (zA (l _ _ ?_))
 obtain rfl:=gI f
 refine (zY (gX (v1:= .bool i) rfl rfl ?_))
 exact ⟨rfl,H.pick [2] (by decide)⟩
theorem Fauw (d:Int)(f:Int)(h:Int)(r:Bool)(c:Fau d f h=some r)(O S:List Nat)(w:World)(H:Hd O w w S []):
  Calls Tryz.prog 226 ([i6 d,i6 f,i6 h]:List Value).toArray w fun e l=>e= .returned (.bool r)∧Hd O w l S []:=by
 unfold Fau at c
 refine zZ 15 Tryz.func226 rfl rfl rfl ?_
 refine zC fun s m=>zB<| zK (.bool false)<| zG (zA (m _ _ ?_))
 obtain ⟨j,c,n⟩:=zF c
 refine yH [6,7,8,9,10,11,12,13,14] (fun (g:Unit)=>[(6,.bool j)]) (fun g wl=>Hd O w wl S []) ?_ ?_
 ·skip
  refine zB ?_
  refine zJ (i6 d)<| zJ (i6 f) ?_
  obtain ⟨o,p,c⟩:=zD c
  refine zH (zM (aJ (a:=d) (b:=f) rfl rfl) p)<| yM (b:=o) rfl rfl rfl (fun i=>?_) (fun i=>?_)
  ·have c:=zN i c
   refine zJ (i6 d)<| zJ (i6 h) ?_
   obtain ⟨k,q,c⟩:=zD c
   refine zH (zM (Do_leq (a:=d) (b:=h) rfl rfl) q)<| zH (yI (v:= .bool k) rfl rfl)<| zK (.bool k) ?_
   obtain rfl:=gI c
   exact (zG (zA (meet ⟨(),(zI rfl zL),H.pick [] (by decide)⟩)))
  have c:=zO i c
  refine yE ?_
  refine yE ?_
  refine yE ?_
  refine zH (yF (v:= .bool false) rfl rfl)<| zK (.bool false) ?_
  obtain rfl:=gI c
  exact (zG (zA (meet ⟨(),(zI rfl zL),H.pick [] (by decide)⟩)))
 rintro _ ρ t H
 have c:=n
 obtain rfl:=gI c
 refine (zY (gX (v1:= .bool j) rfl rfl ?_))
 exact ⟨rfl,H.pick [] (by decide)⟩
set_option maxRecDepth 100000 in
theorem Fbvw (h:Series)(v1:Value)(r:Int×Int)(c:Fbv h=some r)(O S:List Nat)(w:World)(H:Hd O w w S [f1 fP v1 h.Samples]):
  Calls Tryz.prog 191 ([.agg [i6 h.Den,v1].toArray]:List Value).toArray w fun e B=>e= .returned (.tuple #[i6 r.1,i6 r.2])∧Hd O w B S []:=by
 unfold Fbv at c
 refine zZ 67 Tryz.func191 rfl rfl rfl ?_
 refine zC fun K3 R=>zB<| yY rfl rfl (xR (cs:=[i6 h.Den,v1]) rfl H) ?_
 rintro _ w6 ⟨j,rfl,H⟩
 refine zK (i6 0)<| zK (i6 0)<| zG (zA (R _ _ ?_))
 refine zC fun ci T=>?_
 refine zC fun cj U=>zB<| zH (fa35_0 rfl)<| Ld fU H 1 0 rfl rfl ?_
 have V:=H
 obtain ⟨X,Y,c⟩:=zF c
 refine yG rfl rfl (yB en226 rfl) (Fauw h.Den 1 1000000 _ Y _ _ _ (H.enter [] [] (by decide) rfl)) ?_
 rintro _ ck ⟨rfl,Z⟩
 have H:=V.step (Z.only:Only [] _ _)
 refine ⟨_,rfl,?_⟩
 obtain ⟨aa,ab,c⟩:=zD c
 refine zH (zM (wJ (p:=X) rfl) ab)<| zG (zA (U _ _ ?_))
 refine zW (b:=aa) rfl (fun k=>?_) (fun k=>?_)
 ·have c:=zN k c
  refine zC fun cl ac=>zB<| zK (i6 (-1))<| zK (i6 9)<| zG (zA (ac _ _ ?_))
  obtain rfl:=gI c
  refine (zY (zT (post2 (v1:=i6 (-1)) (v2:=i6 9) rfl rfl rfl ?_)))
  exact ⟨rfl,H.pick [] (by decide)⟩
 have c:=zO k c
 refine zX (zA (T _ _ ?_))
 refine zC fun cm ad=>?_
 refine zC fun cn ae=>zB<| zH (fa35_1 rfl)<| Ld one33 H 1 1 rfl rfl ?_
 obtain ⟨af,ag,c⟩:=zD c
 obtain ⟨co,cp,ah⟩:=SlF.len ((H.item (i:=0) rfl))
 refine zH (yO (xI u33 ah) (congrArg (Value.int .i64) ag)) ?_
 obtain ⟨ai,aj,c⟩:=zD c
 refine zH (zM (bM (a:=af) (b:=20000) rfl rfl) aj)<| zG (zA (ae _ _ ?_))
 refine zW (b:=ai) rfl (fun l=>?_) (fun l=>?_)
 ·have c:=zN l c
  refine zC fun cq ak=>zB<| zK (i6 (-1))<| zK (i6 3)<| zG (zA (ak _ _ ?_))
  obtain rfl:=gI c
  refine (zY (zT (post2 (v1:=i6 (-1)) (v2:=i6 3) rfl rfl rfl ?_)))
  exact ⟨rfl,H.pick [] (by decide)⟩
 have c:=zO l c
 refine zX (zA (ad _ _ ?_))
 obtain ⟨al,am,c⟩:=xU c
 refine yH [2,3,4,5,14,15,16,17,18,19,20,21,22,23,24,25,26,27,28,29,30,31,32,33,34,35,36,37,38,39,40,41,42,43,44,45,46,47,48,49,50,51,52,53,54,55,56,57,58,59,60,61,62,63,64,65,66] (fun (g:Unit)=>[]) (fun g wl=>Hd O w wl S []∧al ()=some r) ?_ ?_
 ·skip
  refine zC fun cr an=>zB<| zH (fa35_1 rfl)<| Ld one33 H 1 1 rfl rfl ?_
  obtain ⟨ao,ap,c⟩:=zD c
  obtain ⟨ct,cu,aq⟩:=SlF.len ((H.item (i:=0) rfl))
  refine zH (yO (xI u33 aq) (congrArg (Value.int .i64) ap))<| zJ (i6 0)<| zG (zA (an _ _ ?_))
  refine yC ?_
  unfold Fcn at c
  obtain ⟨ar,C,au,c⟩:=yR c
  refine xA [2,3,4,5,17,18,19,20,21,22,23,24,25,26,27,28,29,30,31,32,33,34,35,36,37,38,39,40,41,42,43,44,45,46,47,48,49,50,51,52,53,54,55,56,57,58,59,60,61,62,63,64,65,66] (fun (g:Nat×Int)=>[(17,i6 g.2)]) (fun g wl=>Hd O w wl S [f1 fP v1 h.Samples,.blk j [i6 h.Den,v1] 35]∧fV ar g.1 g.2=some r) (fun g=>g.1) (C,0) (zI rfl zL) ⟨H.pick [0,1] (by decide),c⟩ ?_
  clear H c
  rintro ⟨C,f⟩ ρ cv ⟨H,c⟩
  obtain ⟨av,rfl,c⟩:=yV c
  have c:=yU au c
  refine zC fun cw aw=>zB ?_
  obtain ⟨ax,ay,c⟩:=zD c
  refine zH (zM (xK (a:=f) (b:=ao) rfl rfl) ay)<| zG (zA (aw _ _ ?_))
  refine zC fun cx az=>?_
  refine zW (b:=ax) rfl (fun m=>?_) (fun m=>?_)
  ·have c:=zN m c
   refine zX (zA (az _ _ ?_))
   refine zC fun cy a0=>?_
   refine yC ?_
   refine zC fun cz a1=>zB<| zJ (i6 f) ?_
   obtain ⟨d,n,c⟩:=zF c
   obtain ⟨D,E,c0,c1,a2,a3,a4,a5,a6⟩:=wH (H.item (i:=0) rfl) n
   obtain rfl:=dQ a3
   have H:=H.fz (.at D (E+f.toNat * 3) _) ⟨a4,a5,a6⟩
   refine zH (yT u33 sz40 a2 rfl (zS n).1 (zS n).2.1 rfl rfl)<| zH (yO (yN (cs:=[i6 d.At,i6 d.N,i6 d.Mark]) agg40 rfl sz40 rfl (H.item (i:=2) rfl).2.2) rfl)<| yY rfl rfl (xN zero40 H) ?_
   rintro _ c2 ⟨o,rfl,H⟩
   refine zK (i6 f)<| xB rfl (xC (vs:=[i6 d.At,i6 d.N,i6 d.Mark]) H 3 rfl sz40 rfl rfl rfl ⟨rfl,rfl,rfl,trivial⟩ rfl) ?_
   rintro c3 H
   refine zG (zA (a1 _ _ ?_))
   refine yC ?_
   obtain ⟨F,c,a7⟩:=zF c
   refine yH [22,23,24,25,26,27,28,29,30,31,32,33,34,35,36,37,38] (fun (g:Unit)=>[(22,.bool F)]) (fun g wl=>Hd O w wl S [f1 fP v1 h.Samples,.blk j [i6 h.Den,v1] 35,.blk o [i6 d.At,i6 d.N,i6 d.Mark] 40]) ?_ ?_
   ·skip
    refine zB ?_
    refine zH (fa40_0 rfl)<| Ld fU H 3 0 rfl rfl ?_
    have a8:=H
    obtain ⟨a9,ba,c⟩:=zF c
    refine yG rfl rfl (yB en226 rfl) (Fauw d.At 0 1099511627776 _ ba _ _ _ (H.enter [] [] (by decide) rfl)) ?_
    rintro _ c4 ⟨rfl,bb⟩
    have H:=a8.step (bb.only:Only [] _ _)
    refine ⟨_,rfl,?_⟩
    obtain ⟨bc,bd,c⟩:=zD c
    refine zH (zM (wJ (p:=a9) rfl) bd) ?_
    obtain ⟨G,c,be⟩:=zF c
    refine dF 6 [27,28,29,30,31,32] [(32,.bool G)] (fun wl=>Hd O w wl S [f1 fP v1 h.Samples,.blk j [i6 h.Den,v1] 35,.fz (.at D (E+f.toNat * 3) [i6 d.At,i6 d.N,i6 d.Mark]),.blk o [i6 d.At,i6 d.N,i6 d.Mark] 40]) ?_ ?_
    ·skip
     refine yM (b:=bc) rfl rfl rfl (fun q=>?_) (fun q=>?_)
     ·have c:=zN q c
      refine yE ?_
      refine yE ?_
      refine yE ?_
      refine yE ?_
      refine zH (yI (v:= .bool true) rfl rfl) ?_
      obtain rfl:=gI c
      exact zG (zA (meet ⟨(zI rfl zL),H.pick [0,1,2,3] (by decide)⟩))
     have c:=zO q c
     refine zH (fa40_1 rfl)<| Ld fU H 3 1 rfl rfl ?_
     have bf:=H
     obtain ⟨bg,bh,c⟩:=zF c
     refine yG rfl rfl (yB en226 rfl) (Fauw d.N (-1125899906842624) 1125899906842624 _ bh _ _ _ (H.enter [] [] (by decide) rfl)) ?_
     rintro _ c5 ⟨rfl,bi⟩
     have H:=bf.step (bi.only:Only [] _ _)
     refine ⟨_,rfl,?_⟩
     obtain ⟨bj,bk,c⟩:=zD c
     refine zH (zM (wJ (p:=bg) rfl) bk)<| zH (yF (v:= .bool bj) rfl rfl) ?_
     obtain rfl:=gI c
     exact zG (zA (meet ⟨(zI rfl zL),H.pick [0,1,2,3] (by decide)⟩))
    rintro ρ c6 H
    have c:=be
    refine yM (b:=G) rfl rfl rfl (fun s=>?_) (fun s=>?_)
    ·have c:=zN s c
     refine yE ?_
     refine yE ?_
     refine yE ?_
     refine yE ?_
     refine zH (yI (v:= .bool true) rfl rfl)<| zK (.bool true) ?_
     obtain rfl:=gI c
     exact (zG (zA (meet ⟨(),(zI rfl zL),H.pick [0,1,3] (by decide)⟩)))
    have c:=zO s c
    refine zH (fa40_2 rfl)<| Ld fU H 3 2 rfl rfl ?_
    have bl:=H
    obtain ⟨bm,bn,c⟩:=zF c
    refine yG rfl rfl (yB en226 rfl) (Fauw d.Mark 0 4 _ bn _ _ _ (H.enter [] [] (by decide) rfl)) ?_
    rintro _ c7 ⟨rfl,bo⟩
    have H:=bl.step (bo.only:Only [] _ _)
    refine ⟨_,rfl,?_⟩
    obtain ⟨I,bp,c⟩:=zD c
    refine zH (zM (wJ (p:=bm) rfl) bp)<| zH (yF (v:= .bool I) rfl rfl)<| zK (.bool I) ?_
    obtain rfl:=gI c
    exact (zG (zA (meet ⟨(),(zI rfl zL),H.pick [0,1,3] (by decide)⟩)))
   rintro _ ρ c8 H
   have c:=a7
   refine zW (b:=F) rfl (fun t=>?_) (fun t=>?_)
   ·have c:=zN t c
    refine zC fun c9 bq=>zB<| zJ (i6 f)<| zK (i6 f)<| zK (i6 9)<| zG (zA (bq _ _ ?_))
    obtain rfl:=gI c
    refine (zY (yD (yD (zT (zT (yD (zT (post2 (v1:=i6 f) (v2:=i6 9) rfl rfl rfl ?_))))))))
    exact ⟨rfl,H.pick [] (by decide)⟩
   have c:=zO t c
   obtain ⟨J,c,br⟩:=zF c
   refine yH [40,41,42,43,44,45,46,47,48] (fun (g:Unit)=>[(40,.bool J)]) (fun g wl=>Hd O w wl S [f1 fP v1 h.Samples,.blk j [i6 h.Den,v1] 35,.blk o [i6 d.At,i6 d.N,i6 d.Mark] 40]) ?_ ?_
   ·skip
    refine zB ?_
    refine zH (fa40_1 rfl)<| Ld fU H 2 1 rfl rfl ?_
    obtain ⟨bt,bu,c⟩:=zD c
    refine zH (zM (wL (a:=d.N) (b:=0) rfl rfl) bu)<| yM (b:=bt) rfl rfl rfl (fun u=>?_) (fun u=>?_)
    ·have c:=zN u c
     refine zH (fa40_2 rfl)<| Ld fU H 2 2 rfl rfl ?_
     obtain ⟨K,bv,c⟩:=zD c
     refine zH (zM (Do_leq (a:=d.Mark) (b:=1) rfl rfl) bv)<| zH (yI (v:= .bool K) rfl rfl)<| zK (.bool K) ?_
     obtain rfl:=gI c
     exact (zG (zA (meet ⟨(),(zI rfl zL),H.pick [0,1,2] (by decide)⟩)))
    have c:=zO u c
    refine yE ?_
    refine yE ?_
    refine yE ?_
    refine zH (yF (v:= .bool false) rfl rfl)<| zK (.bool false) ?_
    obtain rfl:=gI c
    exact (zG (zA (meet ⟨(),(zI rfl zL),H.pick [0,1,2] (by decide)⟩)))
   rintro _ ρ da H
   have c:=br
   refine zW (b:=J) rfl (fun x=>?_) (fun x=>?_)
   ·have c:=zN x c
    refine zC fun db bw=>zB<| zJ (i6 f)<| zK (i6 f)<| zK (i6 2)<| zG (zA (bw _ _ ?_))
    obtain rfl:=gI c
    refine (zY (yD (yD (zT (zT (yD (zT (post2 (v1:=i6 f) (v2:=i6 2) rfl rfl rfl ?_))))))))
    exact ⟨rfl,H.pick [] (by decide)⟩
   have c:=zO x c
   obtain ⟨L,c,bx⟩:=zF c
   refine yH [50,51,52,53,54,55,56,57,58,59,60,61,62,63,64] (fun (g:Unit)=>[(50,.bool L)]) (fun g wl=>Hd O w wl S [f1 fP v1 h.Samples,.blk j [i6 h.Den,v1] 35]) ?_ ?_
   ·skip
    have M:=H
    have H:=H.rebase
    have dc:=H
    refine xX H [0,1,2,3,4,5,6,7,8,9,10,11,12,13,14] (kz [0,0,0,0,1,0,1,0,0,0,0,1,0,0,0]) mixed ?_
    refine XM (i6 f) ?_
    obtain ⟨bz,b0,c⟩:=zD c
    refine XP (fun _ _=>zM (bM (a:=f) (b:=0) rfl rfl) b0)<| MxM.XL_splitb (b:=bz) rfl rfl rfl rfl (fun y=>?_) (fun y=>?_)
    ·have c:=zN y c
     refine XP (fun _ _=>fa40_0 rfl)<| XR fU H 2 0 rfl rfl<| XP (fun _ _=>fa35_1 rfl)<| XR one33 H 1 1 rfl rfl<| XM (i6 f) ?_
     obtain ⟨b1,b2,c⟩:=zD c
     refine XP (fun _ _=>aZ (a:=f) (b:=1) rfl rfl b2) ?_
     obtain ⟨b3,z,c⟩:=zF c
     obtain ⟨b4,b5,dd,de,b6,b7,b8,b9,ca⟩:=wH (H.item (i:=0) rfl) z
     obtain rfl:=dQ b7
     have H:=H.fz (.at b4 (b5+b1.toNat * 3) _) ⟨b8,b9,ca⟩
     refine XP (fun _ _=>yT u33 sz40 b6 rfl (zS z).1 (zS z).2.1 rfl rfl)<| XP (fun _ _=>fa40_0 rfl)<| MxM.xP oS rfl rfl rfl (fun B cb=>yX fU rfl (Cells.get ((H.sees cb).item (i:=3) rfl).2.2 (i:=0) rfl)) ?_
     obtain ⟨P,cc,c⟩:=zD c
     refine XP (fun _ _=>zM (Do_leq (a:=d.At) (b:=b3.At) rfl rfl) cc)<| XP (fun _ _=>yI (v:= .bool P) rfl rfl)<| XP (fun _ _=>xM (v:= .bool P) rfl)<| MxM.xE fun df hS=>?_
     have H:=H.sees hS
     have H:=M.rejoin H
     obtain rfl:=gI c
     exact (zA (meet ⟨(),(zI rfl zL),H.pick [0,1] (by decide)⟩))
    have c:=zO y c
    refine XO<| MxM.XL_offr oS rfl rfl rfl ?_
    refine XO<| MxM.XL_offr oS rfl rfl rfl ?_
    refine XO<| XO<| XO<| XO<| MxM.XL_offr oS rfl rfl rfl ?_
    refine XO<| XP (fun _ _=>yF (v:= .bool false) rfl rfl)<| XP (fun _ _=>xM (v:= .bool false) rfl)<| MxM.xE fun dg hS=>?_
    have H:=H.sees hS
    have H:=M.rejoin H
    obtain rfl:=gI c
    exact (zA (meet ⟨(),(zI rfl zL),H.pick [0,1] (by decide)⟩))
   rintro _ ρ dh H
   have c:=bx
   refine zW (b:=L) rfl (fun A=>?_) (fun A=>?_)
   ·have c:=zN A c
    refine zC fun di cd=>zB<| zJ (i6 f)<| zK (i6 f)<| zK (i6 10)<| zG (zA (cd _ _ ?_))
    obtain rfl:=gI c
    refine (zY (yD (yD (zT (zT (yD (zT (post2 (v1:=i6 f) (v2:=i6 10) rfl rfl rfl ?_))))))))
    exact ⟨rfl,H.pick [] (by decide)⟩
   have c:=zO A c
   refine (zX (yK (yK (zA (a0 _ _ ?_)))))
   refine zB ?_
   obtain ⟨Q,ce,c⟩:=zD c
   refine zH (xJ (a:=f) (b:=1) rfl rfl ce)<| zJ (i6 Q) ?_
   exact (zG (zA (meet ⟨(av,Q),(zI rfl zL),⟨H.pick [0,1] (by decide),c⟩,Nat.lt_succ_self _⟩)))
  have c:=zO m c
  exact (xH (yL (yL (yS (zA (meet ⟨(),zL,⟨H.pick [] (by decide),c⟩⟩))))))
 rintro _ ρ dj ⟨H,c⟩
 have c:=wE am c
 refine zC fun dk cf=>zB<| zK (i6 (-1))<| zK (i6 0)<| zG (zA (cf _ _ ?_))
 obtain rfl:=gI c
 refine (zY (post2 (v1:=i6 (-1)) (v2:=i6 0) rfl rfl rfl ?_))
 exact ⟨rfl,H.pick [] (by decide)⟩
theorem Fb2w (a:Series)(v1:Value)(r:Int)(c:Fb2 a=some r)(O S:List Nat)(w:World)(H:Hd O w w S [f1 fP v1 a.Samples]):
  Calls Tryz.prog 139 ([.agg [i6 a.Den,v1].toArray]:List Value).toArray w fun e f=>e= .returned (i6 r)∧Hd O w f S []:=by
 unfold Fb2 at c
 refine zZ 11 Tryz.func139 rfl rfl rfl ?_
 refine zC fun n h=>zB<| yY rfl rfl (xR (cs:=[i6 a.Den,v1]) rfl H) ?_
 rintro _ o ⟨p,rfl,H⟩
 refine zK (i6 0)<| zG (zA (h _ _ ?_))
 refine zC fun q i=>zB<| zH (yO (yN (cs:=[i6 a.Den,v1]) agg35 rfl sz35 rfl (Hbc H 1 rfl)) rfl) ?_
 have j:=H
 obtain ⟨⟨d,b⟩,k,c⟩:=zF c
 refine yG rfl rfl (yB en191 rfl) (Fbvw a v1 _ k _ _ _ (H.enter [] [0] (by decide) rfl)) ?_
 rintro _ s ⟨rfl,l⟩
 have H:=j.step (l.only:Only [] _ _)
 refine ⟨_,rfl,?_⟩
 refine zJ (.tuple #[i6 d,i6 b])<| zH (xW (v:=i6 d) rfl rfl)<| zH (xW (v:=i6 b) rfl rfl)<| zK (i6 d)<| zK (i6 b)<| zG (zA (i _ _ ?_))
 refine zC fun t m=>zB<| zJ (i6 b)<| zK (i6 b)<| zG (zA (m _ _ ?_))
 obtain rfl:=gI c
 refine (zY (gX (v1:=i6 b) rfl rfl ?_))
 exact ⟨rfl,H.pick [] (by decide)⟩
set_option maxRecDepth 100000 in
theorem Fbww (k:List gZ)(v1:Value)(r:Int)(c:Fbw k=some r)(O S:List Nat)(w:World)(H:Hd O w w S [f1 fG v1 k]):
  Calls Tryz.prog 75 ([v1]:List Value).toArray w fun e C=>e= .returned (i6 r)∧Hd O w C S []:=by
 unfold Fbw at c
 refine zZ 36 Tryz.func75 rfl rfl rfl ?_
 refine zC fun K3 D=>zB<| zK (i6 0)<| zG (zA (D _ _ ?_))
 refine zC fun bp E=>?_
 refine zC fun bq F=>zB<| zJ v1 ?_
 obtain ⟨G,I,c⟩:=zD c
 obtain ⟨br,bt,J⟩:=SlF.len ((H.item (i:=0) rfl))
 refine zH (yO (xI u27 J) (congrArg (Value.int .i64) I)) ?_
 obtain ⟨K,L,c⟩:=zD c
 refine zH (zM (bM (a:=G) (b:=50) rfl rfl) L)<| zG (zA (F _ _ ?_))
 refine zW (b:=K) rfl (fun l=>?_) (fun l=>?_)
 ·have c:=zN l c
  refine zC fun bu M=>zB<| zK (i6 3)<| zG (zA (M _ _ ?_))
  obtain rfl:=gI c
  refine (zY (zT (gX (v1:=i6 3) rfl rfl ?_)))
  exact ⟨rfl,H.pick [] (by decide)⟩
 have c:=zO l c
 refine zX (zA (E _ _ ?_))
 obtain ⟨N,P,c⟩:=xU c
 refine yH [2,3,4,5,9,10,11,12,13,14,15,16,17,18,19,20,21,22,23,24,25,26,27,28,29,30,31,32,33,34,35] (fun (g:Unit)=>[]) (fun g wl=>Hd O w wl S []∧N ()=some r) ?_ ?_
 ·skip
  refine zC fun bv Q=>zB<| zJ v1 ?_
  obtain ⟨R,T,c⟩:=zD c
  obtain ⟨bw,bx,U⟩:=SlF.len ((H.item (i:=0) rfl))
  refine zH (yO (xI u27 U) (congrArg (Value.int .i64) T))<| zJ (i6 0)<| zG (zA (Q _ _ ?_))
  refine yC ?_
  unfold Fem at c
  obtain ⟨V,x,X,c⟩:=yR c
  refine xA [2,3,4,5,11,12,13,14,15,16,17,18,19,20,21,22,23,24,25,26,27,28,29,30,31,32,33,34,35] (fun (g:Nat×Int)=>[(11,i6 g.2)]) (fun g wl=>Hd O w wl S [f1 fG v1 k]∧fV V g.1 g.2=some r) (fun g=>g.1) (x,0) (zI rfl zL) ⟨H.pick [0] (by decide),c⟩ ?_
  clear H c
  rintro ⟨x,h⟩ ρ bz ⟨H,c⟩
  obtain ⟨Y,rfl,c⟩:=yV c
  have c:=yU X c
  refine zC fun b0 Z=>zB ?_
  obtain ⟨aa,ab,c⟩:=zD c
  refine zH (zM (xK (a:=h) (b:=R) rfl rfl) ab)<| zG (zA (Z _ _ ?_))
  refine zC fun b1 ac=>?_
  refine zW (b:=aa) rfl (fun m=>?_) (fun m=>?_)
  ·have c:=zN m c
   refine zX (zA (ac _ _ ?_))
   refine zC fun b2 ad=>?_
   refine yC ?_
   refine zC fun b3 ae=>zB<| zJ (i6 h) ?_
   obtain ⟨d,n,c⟩:=zF c
   obtain ⟨y,z,b4,b5,af,ag,ah,ai,aj⟩:=wH (H.item (i:=0) rfl) n
   obtain ⟨f,rfl,ak⟩:=kK ag
   have H:=H.fzs [.at y (z+h.toNat * 4) _,.sl fP f d.Series.Samples] ⟨⟨ah,ai,aj⟩,ak,trivial⟩
   refine zH (yT u27 sz37 af rfl (zS n).1 (zS n).2.1 rfl rfl)<| zH (yO (yN (cs:=[sb d.Name,i6 d.Series.Den,f,i6 d.Long]) agg37 rfl sz37 rfl (H.item (i:=1) rfl).2.2) rfl)<| yY rfl rfl (xN zero37 H) ?_
   rintro _ b6 ⟨A,rfl,H⟩
   refine zK (i6 h)<| xB rfl (xC (vs:=[sb d.Name,i6 d.Series.Den,f,i6 d.Long]) H 3 rfl sz37 rfl rfl rfl ⟨rfl,rfl,(dU (H.item (i:=2) rfl)),rfl,trivial⟩ rfl) ?_
   rintro b7 H
   refine zG (zA (ae _ _ ?_))
   refine zC fun b8 al=>?_
   refine zC fun b9 am=>zB<| zH (fa37_0 rfl)<| Ld bW H 3 0 rfl rfl ?_
   have an:=H
   obtain ⟨ao,ap,c⟩:=zF c
   refine yG rfl rfl (yB en86 rfl) (Famw d.Name _ ap _ _ _ (H.enter [] [] (by decide) rfl)) ?_
   rintro _ ca ⟨rfl,aq⟩
   have H:=an.step (aq.only:Only [] _ _)
   refine ⟨_,rfl,?_⟩
   obtain ⟨ar,au,c⟩:=zD c
   refine zH (zM (wJ (p:=ao) rfl) au)<| zG (zA (am _ _ ?_))
   refine zW (b:=ar) rfl (fun o=>?_) (fun o=>?_)
   ·have c:=zN o c
    refine zC fun cb av=>zB<| zK (i6 8)<| zG (zA (av _ _ ?_))
    obtain rfl:=gI c
    refine (zY (zT (yD (zT (zT (yD (zT (gX (v1:=i6 8) rfl rfl ?_))))))))
    exact ⟨rfl,H.pick [] (by decide)⟩
   have c:=zO o c
   refine zX (zA (al _ _ ?_))
   refine zC fun cc aw=>?_
   refine zC fun cd ax=>zB<| zJ v1<| zJ (i6 h) ?_
   obtain ⟨q,ay,c⟩:=zF c
   refine RL_exP rfl rfl (Lx_slice_h u27 sz37 (H.item (i:=0) rfl) rfl rfl ay) ?_
   rintro s az
   have H:=H.fz (.sl fG s q) az
   refine zH (bG rfl) ?_
   obtain ⟨a0,a1,c⟩:=zF c
   refine yG rfl rfl (yB en134 rfl) (Fb9w q d s A f _ a1 _ _ _ (H.enter [3] [4,2] (by decide) rfl)) ?_
   rintro _ a2 ⟨rfl,a3⟩
   have H:Hd _ _ a2 _ [f1 fG v1 k,.fz (.at y (z+h.toNat * 4) [sb d.Name,i6 d.Series.Den,f,i6 d.Long]),f1 fP f d.Series.Samples,f1 fG s q,.blk A [sb d.Name,i6 d.Series.Den,f,i6 d.Long] 37]:=H.back [3] [4,2] rfl a3
   refine ⟨_,rfl,?_⟩
   refine zG (zA (ax _ _ ?_))
   refine zW (b:=a0) rfl (fun t=>?_) (fun t=>?_)
   ·have c:=zN t c
    refine zC fun ce a4=>zB<| zK (i6 5)<| zG (zA (a4 _ _ ?_))
    obtain rfl:=gI c
    refine (zY (zT (yD (zT (zT (yD (zT (gX (v1:=i6 5) rfl rfl ?_))))))))
    exact ⟨rfl,H.pick [] (by decide)⟩
   have c:=zO t c
   refine zX (zA (aw _ _ ?_))
   refine zC fun cf a5=>?_
   refine zC fun cg a6=>zB<| zH (fa37_1 rfl)<| zH (yO (yN (cs:=[i6 d.Series.Den,f]) agg35 rfl sz35 rfl (Cells.drop (Hbc H 4 rfl) 1 2)) rfl) ?_
   have a7:=H
   obtain ⟨j,a8,c⟩:=zF c
   refine yG rfl rfl (yB en139 rfl) (Fb2w d.Series f _ a8 _ _ _ (H.enter [] [2] (by decide) rfl)) ?_
   rintro _ ch ⟨rfl,a9⟩
   have H:=a7.step (a9.only:Only [] _ _)
   refine ⟨_,rfl,?_⟩
   refine zK (i6 j)<| zG (zA (a6 _ _ ?_))
   refine zC fun ci ba=>zB<| zJ (i6 j) ?_
   obtain ⟨bb,bc,c⟩:=zD c
   refine zH (zM (wL (a:=j) (b:=0) rfl rfl) bc)<| zG (zA (ba _ _ ?_))
   refine zW (b:=bb) rfl (fun u=>?_) (fun u=>?_)
   ·have c:=zN u c
    refine zC fun cj bd=>zB<| zJ (i6 j)<| zK (i6 j)<| zG (zA (bd _ _ ?_))
    obtain rfl:=gI c
    refine (zY (zT (yD (zT (zT (yD (zT (gX (v1:=i6 j) rfl rfl ?_))))))))
    exact ⟨rfl,H.pick [] (by decide)⟩
   have c:=zO u c
   refine zX (zA (a5 _ _ ?_))
   refine zC fun ck be=>zB<| zH (fa37_2 rfl)<| Ld fU H 4 3 rfl rfl ?_
   have bf:=H
   obtain ⟨bg,bh,c⟩:=zF c
   refine yG rfl rfl (yB en76 rfl) (Fafw d.Long 0 1099511627776 _ bh _ _ _ (H.enter [] [] (by decide) rfl)) ?_
   rintro _ cl ⟨rfl,bi⟩
   have H:=bf.step (bi.only:Only [] _ _)
   refine ⟨_,rfl,?_⟩
   obtain ⟨bj,bk,c⟩:=zD c
   refine zH (zM (wJ (p:=bg) rfl) bk)<| zG (zA (be _ _ ?_))
   refine zW (b:=bj) rfl (fun v=>?_) (fun v=>?_)
   ·have c:=zN v c
    refine zC fun cm bl=>zB<| zK (i6 9)<| zG (zA (bl _ _ ?_))
    obtain rfl:=gI c
    refine (zY (yD (zT (zT (yD (zT (gX (v1:=i6 9) rfl rfl ?_)))))))
    exact ⟨rfl,H.pick [] (by decide)⟩
   have c:=zO v c
   refine (zX (yK (zA (ad _ _ ?_))))
   refine zB ?_
   obtain ⟨B,bm,c⟩:=zD c
   refine zH (xJ (a:=h) (b:=1) rfl rfl bm)<| zJ (i6 B) ?_
   exact (zG (zA (meet ⟨(Y,B),(zI rfl zL),⟨H.pick [0] (by decide),c⟩,Nat.lt_succ_self _⟩)))
  have c:=zO m c
  exact (xH (yL (yL (yS (zA (meet ⟨(),zL,⟨H.pick [] (by decide),c⟩⟩))))))
 rintro _ ρ cn ⟨H,c⟩
 have c:=wE P c
 refine zC fun co bn=>zB<| zK (i6 0)<| zG (zA (bn _ _ ?_))
 obtain rfl:=gI c
 refine (zY (gX (v1:=i6 0) rfl rfl ?_))
 exact ⟨rfl,H.pick [] (by decide)⟩
theorem Fclw (d:Cond)(j:List Str)(v1:Value)(f:Nat)(h:Value)(r:Int×(List Str))(c:Fcl d j=some r)(O S:List Nat)(w:World)(H:Hd O w w S [.own Rp.str h 9 j,.blk f [h] 22,f1 fA v1 d.Kids]):
  Calls Tryz.prog 196 ([.agg [i6 d.Kind,sb d.Name,sb d.Other,i6 d.Op,i6 d.N,i6 d.Frames,v1].toArray,gW f]:List Value).toArray w fun e u=> ∃n,e= .returned (i6 r.1)∧Hd O w u S [.own Rp.str n 9 r.2,.blk f [n] 22]:=by
 unfold Fcl at c
 refine zZ 23 Tryz.func196 rfl rfl rfl ?_
 refine zC fun T x=>zB<| yY rfl rfl (xR (cs:=[i6 d.Kind,sb d.Name,sb d.Other,i6 d.Op,i6 d.N,i6 d.Frames,v1]) rfl H) ?_
 rintro _ U ⟨y,rfl,H⟩
 refine zK (i6 0)<| zG (zA (x _ _ ?_))
 obtain ⟨z,c,A⟩:=zF c
 refine yH [4,5,6,7,8,9,10,11,12,13,14,15,16,17,18,19,20,21,22] (fun (g:Value)=>[]) (fun g wl=>Hd O w wl S [.own Rp.str g 9 z,.blk f [g] 22]) ?_ ?_
 ·skip
  refine zC fun V B=>zB<| zH (fa70_0 rfl)<| Ld fU H 3 0 rfl rfl<| zG (zA (B _ _ ?_))
  refine yC ?_
  obtain ⟨o,c,C⟩:=zF c
  refine yH [6,7,8] (fun (g:Unit)=>[(6,.bool o)]) (fun g wl=>Hd O w wl S [.own Rp.str h 9 j,.blk f [h] 22,f1 fA v1 d.Kids,.blk y [i6 d.Kind,sb d.Name,sb d.Other,i6 d.Op,i6 d.N,i6 d.Frames,v1] 70]) ?_ ?_
  ·skip
   refine zC fun X D=>zB ?_
   obtain ⟨p,E,c⟩:=zD c
   refine zH (zM (yZ (a:=d.Kind) (b:=3) rfl rfl) E)<| zK (.bool p)<| zG (zA (D _ _ ?_))
   refine zW (b:=p) rfl (fun k=>?_) (fun k=>?_)
   ·have c:=zN k c
    obtain rfl:=gI c
    exact (zX (zA (meet ⟨(),(zI rfl zL),H.pick [0,1,2,3] (by decide)⟩)))
   have c:=zO k c
   refine zB ?_
   obtain ⟨F,G,c⟩:=zD c
   refine zH (zM (yZ (a:=d.Kind) (b:=5) rfl rfl) G)<| zK (.bool F) ?_
   obtain rfl:=gI c
   exact (zG (zA (meet ⟨(),(zI rfl zL),H.pick [0,1,2,3] (by decide)⟩)))
  rintro _ ρ Y H
  have c:=C
  refine zW (b:=o) rfl (fun l=>?_) (fun l=>?_)
  ·have c:=zN l c
   refine zB ?_
   refine Ld aN H 1 0 rfl rfl<| zH (fa70_1 rfl)<| Ld bW H 3 1 rfl rfl ?_
   obtain ⟨Z,I,c⟩:=zD c
   subst I
   refine yY rfl rfl (Lx_bs (r:=Rp.str) (xl:=[d.Name]) (cs:=[sb d.Name]) u22 el9 (by decide) (by decide) rfl (wG (vs:=[sb d.Name]) (by decide) rfl rfl ⟨rfl,trivial⟩ rfl) H ⟨[sb d.Name],[],rfl,rfl,rfl⟩) ?_
   rintro aa ab H
   obtain ⟨ac,J,c⟩:=zF c
   refine yY rfl rfl (Lx_app H (i:=0) rfl u22 el9 rfl rfl (Sr.of_own (H.item (i:=4) rfl)) J) ?_
   rintro q ad H
   refine xB rfl (wI H 1 rfl sz22 rfl (v:=q) rfl (own_one (H.item (i:=0) rfl)) rfl) ?_
   rintro ae H
   obtain rfl:=gI c
   exact (zG (yK (zA (meet ⟨q,zL,H.pick [0,1] (by decide)⟩))))
  have c:=zO l c
  refine zC fun af K=>zB ?_
  obtain ⟨s,L,c⟩:=zD c
  refine zH (zM (yZ (a:=d.Kind) (b:=4) rfl rfl) L)<| zK (.bool s)<| zG (zA (K _ _ ?_))
  refine zW (b:=s) rfl (fun m=>?_) (fun m=>?_)
  ·have c:=zN m c
   refine zB ?_
   refine Ld aN H 1 0 rfl rfl<| zH (fa70_1 rfl)<| Ld bW H 3 1 rfl rfl<| zH (fa70_2 rfl)<| Ld bW H 3 2 rfl rfl ?_
   obtain ⟨ag,M,c⟩:=zD c
   subst M
   refine yY rfl rfl (Lx_bs (r:=Rp.str) (xl:=[d.Name,d.Other]) (cs:=[sb d.Name,sb d.Other]) u22 el9 (by decide) (by decide) rfl (wG (vs:=[sb d.Name,sb d.Other]) (by decide) rfl rfl ⟨rfl,rfl,trivial⟩ rfl) H ⟨[sb d.Name],[sb d.Other],rfl,rfl,⟨[sb d.Other],[],rfl,rfl,rfl⟩⟩) ?_
   rintro ah ai H
   obtain ⟨aj,P,c⟩:=zF c
   refine yY rfl rfl (Lx_app H (i:=0) rfl u22 el9 rfl rfl (Sr.of_own (H.item (i:=4) rfl)) P) ?_
   rintro t ak H
   refine xB rfl (wI H 1 rfl sz22 rfl (v:=t) rfl (own_one (H.item (i:=0) rfl)) rfl) ?_
   rintro al H
   obtain rfl:=gI c
   exact (zG (yK (zA (meet ⟨t,zL,H.pick [0,1] (by decide)⟩))))
  have c:=zO m c
  obtain rfl:=gI c
  exact (zX (yK (zA (meet ⟨h,zL,H.pick [0,1] (by decide)⟩))))
 rintro Q ρ am H
 have c:=A
 refine zC fun an R=>zB<| zK (i6 0)<| zG (zA (R _ _ ?_))
 obtain rfl:=gI c
 refine (zY (gX (v1:=i6 0) rfl rfl ?_))
 exact ⟨Q,rfl,H.pick [0,1] (by decide)⟩
abbrev Fd2 (f:Cond→(List Str)→Option (Int×(List Str))):Prop:= ∀(p0:Cond) (p1c0:List Str) (v1:Value) (b3:Nat) (v4:Value) (r:Int×(List Str)) (_:f p0 p1c0=some r) (O S:List Nat) (w:World) (_:Hd O w w S [.own Rp.str v4 9 p1c0,.blk b3 [v4] 22,f1 fA v1 p0.Kids]),
  Calls Tryz.prog 81 ([.agg [i6 p0.Kind,sb p0.Name,sb p0.Other,i6 p0.Op,i6 p0.N,i6 p0.Frames,v1].toArray,.func (.func 196) #[] #[gW b3]]:List Value).toArray w fun e w'=> ∃u7,e= .returned (i6 r.1)∧Hd O w w' S [.own Rp.str u7 9 r.2,.blk b3 [u7] 22]
end Go.Proofs.YtckmiljbaejijaaGreatDoor.L
