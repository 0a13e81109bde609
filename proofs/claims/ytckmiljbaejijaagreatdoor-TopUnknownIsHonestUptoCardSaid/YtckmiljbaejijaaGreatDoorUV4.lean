/- Walks: what each function computes, for every argument; no condition but those that stand in the statements. -/
import Derived.Test.YtckmiljbaejijaaGreatDoorUV0
import Derived.Test.YtckmiljbaejijaaGreatDoorUV3
namespace Go.Proofs.YtckmiljbaejijaaGreatDoor.L
open Go.RowKit Go.OB Go.Lf
set_option maxHeartbeats 4000000
theorem Fbsw (rfG:Cond→(List Str)→Option (Int×(List Str)))(rhG:Fd2 rfG)(f:Cond)(p1c0:List Str)(v1:Value)(h:Nat)(p:Value)(r:Int×(List Str))(c:Fbs rfG f p1c0=some r)(O S:List Nat)(w:World)(H:Hd O w w S [.own Rp.str p 9 p1c0,.blk h [p] 22,f1 fA v1 f.Kids]):
  Calls Tryz.prog 81 ([.agg [i6 f.Kind,sb f.Name,sb f.Other,i6 f.Op,i6 f.N,i6 f.Frames,v1].toArray,.func (.func 196) #[] #[gW h]]:List Value).toArray w fun e F=> ∃v,e= .returned (i6 r.1)∧Hd O w F S [.own Rp.str v 9 r.2,.blk h [v] 22]:=by
 unfold Fbs at c
 refine zZ 29 Tryz.func81 rfl rfl rfl ?_
 refine zC fun K8 G=>zB<| yY rfl rfl (xR (cs:=[i6 f.Kind,sb f.Name,sb f.Other,i6 f.Op,i6 f.N,i6 f.Frames,v1]) rfl H) ?_
 rintro _ a6 ⟨I,rfl,H⟩
 refine zK (i6 0)<| zG (zA (G _ _ ?_))
 refine zC fun a7 J=>?_
 refine zC fun a8 K=>zB<| zJ (.func (.func 196) #[] #[gW h])<| zH (yO (yN (cs:=[i6 f.Kind,sb f.Name,sb f.Other,i6 f.Op,i6 f.N,i6 f.Frames,v1]) bD rfl bK rfl (Hbc H 3 rfl)) rfl) ?_
 obtain ⟨⟨k,x⟩,L,c⟩:=zF c
 refine yG rfl rfl (aH en196 rfl rfl) (Fclw f p1c0 v1 h p _ L _ _ _ (H.enter [0,1] [2] (by decide) rfl)) ?_
 rintro _ M ⟨m,rfl,P⟩
 have H:Hd _ _ M _ [f1 fA v1 f.Kids,.blk I [i6 f.Kind,sb f.Name,sb f.Other,i6 f.Op,i6 f.N,i6 f.Frames,v1] 70,.own Rp.str m 9 x,.blk h [m] 22]:=H.back [0,1] [2] rfl P
 refine ⟨_,rfl,?_⟩
 refine zK (i6 k)<| zG (zA (K _ _ ?_))
 refine zC fun a9 Q=>zB<| zJ (i6 k) ?_
 obtain ⟨R,T,c⟩:=zD c
 refine zH (zM (wL (a:=k) (b:=0) rfl rfl) T)<| zG (zA (Q _ _ ?_))
 refine zW (b:=R) rfl (fun q=>?_) (fun q=>?_)
 ·have c:=zN q c
  refine zC fun ba U=>zB<| zJ (i6 k)<| zK (i6 k)<| zG (zA (U _ _ ?_))
  obtain rfl:=gI c
  refine (zY (zT (gX (v1:=i6 k) rfl rfl ?_)))
  exact ⟨m,rfl,H.pick [2,3] (by decide)⟩
 have c:=zO q c
 refine zX (zA (J _ _ ?_))
 obtain ⟨V,X,c⟩:=xU c
 refine yH [4,7,8,15,16,17,18,19,20,21,22,23,24,25,26,27,28] (fun (g:(List Str)×Value)=>[]) (fun g wl=>Hd O w wl S [.blk h [g.2] 22,.own Rp.str g.2 9 g.1]∧V g.1=some r) ?_ ?_
 ·skip
  refine zC fun bb Y=>zB<| zH (fa70_6 rfl)<| Ld one68 H 1 6 rfl rfl ?_
  obtain ⟨Z,aa,c⟩:=zD c
  obtain ⟨bc,bd,ab⟩:=SlF.len ((H.item (i:=0) rfl))
  refine zH (yO (xI u68 ab) (congrArg (Value.int .i64) aa))<| zJ (i6 0)<| zG (zA (Y _ _ ?_))
  refine yC ?_
  unfold Fd3 at c
  obtain ⟨ac,y,ad,c⟩:=yR c
  refine xA [4,7,8,18,19,20,21,22,23,24,25,26,27,28] (fun (g:Nat×Int×(List Str)×Value)=>[(18,i6 g.2.1)]) (fun g wl=>Hd O w wl S [f1 fA v1 f.Kids,.blk h [g.2.2.2] 22,.own Rp.str g.2.2.2 9 g.2.2.1]∧fV ac g.1 (g.2.1,g.2.2.1)=some r) (fun g=>g.1) (y,0,x,m) (zI rfl zL) ⟨H.pick [0,3,2] (by decide),c⟩ ?_
  clear H c
  rintro ⟨y,n,z,A⟩ ρ be ⟨H,c⟩
  obtain ⟨ae,rfl,c⟩:=yV c
  have c:=yU ad c
  refine zC fun bf af=>zB ?_
  obtain ⟨ag,ah,c⟩:=zD c
  refine zH (zM (xK (a:=n) (b:=Z) rfl rfl) ah)<| zG (zA (af _ _ ?_))
  refine zC fun bg ai=>?_
  refine zW (b:=ag) rfl (fun s=>?_) (fun s=>?_)
  ·have c:=zN s c
   refine zX (zA (ai _ _ ?_))
   refine zC fun bh aj=>?_
   refine yC ?_
   refine zC fun bi ak=>zB ?_
   obtain ⟨d,t,c⟩:=zF c
   obtain ⟨B,C,bj,bk,al,am,an,ao,ap⟩:=wH (H.item (i:=0) rfl) t
   obtain ⟨j,rfl,aq⟩:=aF am
   have H:=H.fzs [.at B (C+n.toNat * 7) _,.sl fA j d.Kids] ⟨⟨an,ao,ap⟩,aq,trivial⟩
   refine zH (yT u68 bK al rfl (zS t).1 (zS t).2.1 rfl rfl)<| zH (yO (yN (cs:=[i6 d.Kind,sb d.Name,sb d.Other,i6 d.Op,i6 d.N,i6 d.Frames,j]) bD rfl bK rfl (H.item (i:=3) rfl).2.2) rfl)<| yY rfl rfl (xN zero70 H) ?_
   rintro _ bl ⟨ar,rfl,H⟩
   refine xB rfl (xC (vs:=[i6 d.Kind,sb d.Name,sb d.Other,i6 d.Op,i6 d.N,i6 d.Frames,j]) H 5 rfl bK rfl rfl rfl ⟨rfl,rfl,rfl,rfl,rfl,rfl,(dU (H.item (i:=4) rfl)),trivial⟩ rfl) ?_
   rintro bm H
   refine zG (zA (ak _ _ ?_))
   refine zC fun bn au=>zB<| zH (yO (yN (cs:=[i6 d.Kind,sb d.Name,sb d.Other,i6 d.Op,i6 d.N,i6 d.Frames,j]) bD rfl bK rfl (Hbc H 5 rfl)) rfl)<| zJ (.func (.func 196) #[] #[gW h]) ?_
   obtain ⟨⟨l,D⟩,av,c⟩:=zF c
   refine yG rfl rfl (yB en81 rfl) (rhG d z j h A _ av _ _ _ (H.enter [2,1] [4] (by decide) rfl)) ?_
   rintro _ aw ⟨o,rfl,ax⟩
   have H:Hd _ _ aw _ [f1 fA v1 f.Kids,.fz (.at B (C+n.toNat * 7) [i6 d.Kind,sb d.Name,sb d.Other,i6 d.Op,i6 d.N,i6 d.Frames,j]),f1 fA j d.Kids,.blk ar [i6 d.Kind,sb d.Name,sb d.Other,i6 d.Op,i6 d.N,i6 d.Frames,j] 70,.own Rp.str o 9 D,.blk h [o] 22]:=H.back [2,1] [4] rfl ax
   refine ⟨_,rfl,?_⟩
   refine zK (i6 l)<| zG (zA (au _ _ ?_))
   refine zC fun bo ay=>zB<| zJ (i6 l) ?_
   obtain ⟨az,a0,c⟩:=zD c
   refine zH (zM (wL (a:=l) (b:=0) rfl rfl) a0)<| zG (zA (ay _ _ ?_))
   refine zW (b:=az) rfl (fun u=>?_) (fun u=>?_)
   ·have c:=zN u c
    refine zC fun bp a1=>zB<| zJ (i6 l)<| zK (i6 l)<| zG (zA (a1 _ _ ?_))
    obtain rfl:=gI c
    refine (zY (yD (zT (zT (yD (zT (gX (v1:=i6 l) rfl rfl ?_)))))))
    exact ⟨o,rfl,H.pick [4,5] (by decide)⟩
   have c:=zO u c
   refine (zX (yK (zA (aj _ _ ?_))))
   refine zB ?_
   obtain ⟨E,a2,c⟩:=zD c
   refine zH (xJ (a:=n) (b:=1) rfl rfl a2)<| zJ (i6 E) ?_
   exact (zG (zA (meet ⟨(ae,E,D,o),(zI rfl zL),⟨H.pick [0,5,4] (by decide),c⟩,Nat.lt_succ_self _⟩)))
  have c:=zO s c
  exact (xH (yL (yL (yS (zA (meet ⟨(z,A),zL,⟨H.pick [1,2] (by decide),c⟩⟩))))))
 rintro ⟨bq,a3⟩ ρ br ⟨H,c⟩
 have c:=wE X c
 refine zC fun bt a4=>zB<| zK (i6 0)<| zG (zA (a4 _ _ ?_))
 obtain rfl:=gI c
 refine (zY (gX (v1:=i6 0) rfl rfl ?_))
 exact ⟨a3,rfl,H.pick [1,0] (by decide)⟩
theorem Fe1:Fd2 (Fec):=by
 have h: ∀n,Fd2 (Fa2 n):=by
  intro n
  induction n with
  | zero=>intro b p1c0 c d e r a; cases a
  | succ n ih=>intro b p1c0 c d e r a; exact Fbsw (Fa2 n) ih b p1c0 c d e r a
 exact h FU
theorem Fbpw (a:Cond)(v1:Value)(r:(List Str))(c:Fbp a=some r)(O S:List Nat)(w:World)(H:Hd O w w S [f1 fA v1 a.Kids]):
  Calls Tryz.prog 152 ([.agg [i6 a.Kind,sb a.Name,sb a.Other,i6 a.Op,i6 a.N,i6 a.Frames,v1].toArray]:List Value).toArray w fun e f=> ∃u3,e= .returned (u3)∧Hd O w f S [.own Rp.str u3 9 r]:=by
 unfold Fbp at c
 refine zZ 8 Tryz.func152 rfl rfl rfl ?_
 refine zC fun q h=>zB<| yY rfl rfl (xR (cs:=[i6 a.Kind,sb a.Name,sb a.Other,i6 a.Op,i6 a.N,i6 a.Frames,v1]) rfl H) ?_
 rintro _ s ⟨i,rfl,H⟩
 refine zK (.slice none 0 0)<| zG (zA (h _ _ ?_))
 refine zC fun t j=>zB<| yY rfl rfl (xN zero22 H) ?_
 rintro _ u ⟨d,rfl,H⟩
 refine zG (zA (j _ _ ?_))
 refine zC fun v k=>zB<| zH (yO (yN (cs:=[i6 a.Kind,sb a.Name,sb a.Other,i6 a.Op,i6 a.N,i6 a.Frames,v1]) bD rfl bK rfl (Hbc H 1 rfl)) rfl)<| zH (bG rfl) ?_
 have H:=aU H Rp.str 9
 obtain ⟨⟨x,l⟩,m,c⟩:=zF c
 refine yG rfl rfl (yB en81 rfl) (Fe1 a [] v1 d (.slice none 0 0) _ m _ _ _ (H.enter [3,2] [0] (by decide) rfl)) ?_
 rintro _ n ⟨b,rfl,o⟩
 have H:Hd _ _ n _ [f1 fA v1 a.Kids,.blk i [i6 a.Kind,sb a.Name,sb a.Other,i6 a.Op,i6 a.N,i6 a.Frames,v1] 70,.own Rp.str b 9 l,.blk d [b] 22]:=H.back [3,2] [0] rfl o
 refine ⟨_,rfl,?_⟩
 refine zG (zA (k _ _ ?_))
 refine zC fun y p=>zB<| Ld aN H 3 0 rfl rfl<| zK b<| zG (zA (p _ _ ?_))
 obtain rfl:=gI c
 refine (zY (gX (v1:=b) rfl rfl ?_))
 exact ⟨b,rfl,H.pick [2] (by decide)⟩
theorem Fbnw (h:Rules)(v1:Value)(k:Value)(j:Value)(r:(List Str))(c:Fbn h=some r)(O S:List Nat)(w:World)(H:Hd O w w S [f1 Rp.str v1 h.Phases,f1 fD k h.Moves,f1 fF j h.Rules]):
  Calls Tryz.prog 95 ([.agg [v1,k,j].toArray]:List Value).toArray w fun e M=> ∃z,e= .returned (z)∧Hd O w M S [.own Rp.str z 9 r]:=by
 unfold Fbn at c
 refine zZ 38 Tryz.func95 rfl rfl rfl ?_
 refine zC fun K8 P=>zB<| yY rfl rfl (xR (cs:=[v1,k,j]) rfl H) ?_
 rintro _ b0 ⟨A,rfl,H⟩
 refine zK (.slice none 0 0)<| zG (zA (P _ _ ?_))
 refine zC fun b1 Q=>zB<| zK (.slice none 0 0)<| zG (zA (Q _ _ ?_))
 obtain ⟨p,c,R⟩:=zF c
 refine yH [3,5,8,9,10,11,12,13,14,15,16,17,18,19,20] (fun (g:Value)=>[(3,g)]) (fun g wl=>Hd O w wl S [.own Rp.str g 9 p,f1 Rp.str v1 h.Phases,f1 fD k h.Moves,f1 fF j h.Rules,.blk A [v1,k,j] 26]) ?_ ?_
 ·skip
  refine zC fun b2 T=>zB<| zH (fa26_1 rfl)<| Ld one23 H 3 1 rfl rfl ?_
  obtain ⟨U,V,c⟩:=zD c
  obtain ⟨b3,b4,X⟩:=SlF.len ((H.item (i:=1) rfl))
  refine zH (yO (xI u23 X) (congrArg (Value.int .i64) V))<| zJ (i6 0)<| zG (zA (T _ _ ?_))
  refine yC ?_
  have H:=aU H Rp.str 9
  unfold Fcc at c
  obtain ⟨Y,B,Z,c⟩:=yR c
  refine xA [3,5,11,12,13,14,15,16,17,18,19,20] (fun (g:Nat×(List Str)×Int×Value)=>[(3,g.2.2.2),(11,i6 g.2.2.1)]) (fun g wl=>Hd O w wl S [.own Rp.str g.2.2.2 9 g.2.1,f1 Rp.str v1 h.Phases,f1 fD k h.Moves,f1 fF j h.Rules,.blk A [v1,k,j] 26]∧fV Y g.1 (g.2.1,g.2.2.1)=some p) (fun g=>g.1) (B,[],0,.slice none 0 0) (zI rfl (zI rfl zL)) ⟨H.pick [4,0,1,2,3] (by decide),c⟩ ?_
  clear H c
  rintro ⟨B,b5,q,C⟩ ρ b6 ⟨H,c⟩
  obtain ⟨aa,rfl,c⟩:=yV c
  have c:=yU Z c
  refine zC fun b7 ab=>zB ?_
  obtain ⟨ac,ad,c⟩:=zD c
  refine zH (zM (xK (a:=q) (b:=U) rfl rfl) ad)<| zG (zA (ab _ _ ?_))
  refine zC fun b8 ae=>?_
  refine zW (b:=ac) rfl (fun s=>?_) (fun s=>?_)
  ·have c:=zN s c
   refine zX (zA (ae _ _ ?_))
   refine zC fun b9 af=>?_
   refine yC ?_
   refine zC fun ca ag=>zB ?_
   obtain ⟨d,t,c⟩:=zF c
   obtain ⟨ah,ai,cb,cc,aj,ak,al,am,an⟩:=wH (H.item (i:=2) rfl) t
   obtain ⟨l,rfl,ao⟩:=rMoveT_open ak
   have H:=H.fzs [.at ah (ai+q.toNat * 9) _,.sl fA l d.When.Kids] ⟨⟨al,am,an⟩,ao,trivial⟩
   refine zH (yT u23 sz122 aj rfl (zS t).1 (zS t).2.1 rfl rfl)<| zH (yO (yN (cs:=[sb d.From,sb d.To,i6 d.When.Kind,sb d.When.Name,sb d.When.Other,i6 d.When.Op,i6 d.When.N,i6 d.When.Frames,l]) agg122 rfl sz122 rfl (H.item (i:=5) rfl).2.2) rfl)<| yY rfl rfl (xN zero122 H) ?_
   rintro _ cd ⟨ce,rfl,H⟩
   refine xB rfl (xC (vs:=[sb d.From,sb d.To,i6 d.When.Kind,sb d.When.Name,sb d.When.Other,i6 d.When.Op,i6 d.When.N,i6 d.When.Frames,l]) H 7 rfl sz122 rfl rfl rfl ⟨rfl,rfl,rfl,rfl,rfl,rfl,rfl,rfl,(dU (H.item (i:=6) rfl)),trivial⟩ rfl) ?_
   rintro cf H
   refine zG (zA (ag _ _ ?_))
   refine zB ?_
   refine zJ C<| zH (fa122_2 rfl)<| zH (yO (yN (cs:=[i6 d.When.Kind,sb d.When.Name,sb d.When.Other,i6 d.When.Op,i6 d.When.N,i6 d.When.Frames,l]) bD rfl bK rfl (Cells.drop (Hbc H 7 rfl) 2 7)) rfl) ?_
   obtain ⟨cg,ap,c⟩:=zF c
   refine yG rfl rfl (yB en152 rfl) (Fbpw d.When l _ ap _ _ _ (H.enter [] [6] (by decide) rfl)) ?_
   rintro _ ch ⟨ci,rfl,aq⟩
   have H:=H.back1 [6] rfl aq
   refine ⟨_,rfl,?_⟩
   obtain ⟨ar,au,c⟩:=zF c
   refine yY rfl rfl (Lx_app H (i:=0) rfl u22 el9 rfl rfl (Sr.of_own (H.item (i:=8) rfl)) au) ?_
   rintro D cj H
   refine zK D<| (zG (yK (zA (af _ _ ?_))))
   refine zB ?_
   obtain ⟨F,av,c⟩:=zD c
   refine zH (xJ (a:=q) (b:=1) rfl rfl av)<| zJ (i6 F) ?_
   exact (zG (zA (meet ⟨(aa,ar,F,D),(zI rfl (zI rfl zL)),⟨H.pick [0,1,2,3,4] (by decide),c⟩,Nat.lt_succ_self _⟩)))
  have c:=zO s c
  obtain rfl:=gI c
  exact (xH (yL (yL (yS (zA (meet ⟨C,(zI rfl zL),H.pick [0,1,2,3,4] (by decide)⟩))))))
 rintro aw ρ ck H
 have c:=R
 obtain ⟨u,c,ax⟩:=zF c
 refine yH [3,7,21,22,23,24,25,26,27,28,29,30,31,32,33] (fun (g:Value)=>[(3,g)]) (fun g wl=>Hd O w wl S [.own Rp.str g 9 u]) ?_ ?_
 ·skip
  refine zC fun cl ay=>zB<| zH (fa26_2 rfl)<| Ld one24 H 4 2 rfl rfl ?_
  obtain ⟨az,a0,c⟩:=zD c
  obtain ⟨cm,cn,a1⟩:=SlF.len ((H.item (i:=3) rfl))
  refine zH (yO (xI u24 a1) (congrArg (Value.int .i64) a0))<| zJ (i6 0)<| zG (zA (ay _ _ ?_))
  refine yC ?_
  unfold Fci at c
  obtain ⟨a2,G,a3,c⟩:=yR c
  refine xA [3,7,24,25,26,27,28,29,30,31,32,33] (fun (g:Nat×(List Str)×Int×Value)=>[(3,g.2.2.2),(24,i6 g.2.2.1)]) (fun g wl=>Hd O w wl S [.own Rp.str g.2.2.2 9 g.2.1,f1 fF j h.Rules]∧fV a2 g.1 (g.2.1,g.2.2.1)=some u) (fun g=>g.1) (G,p,0,aw) (zI rfl (zI rfl zL)) ⟨H.pick [0,3] (by decide),c⟩ ?_
  clear H c
  rintro ⟨G,co,v,I⟩ ρ cp ⟨H,c⟩
  obtain ⟨a4,rfl,c⟩:=yV c
  have c:=yU a3 c
  refine zC fun cq a5=>zB ?_
  obtain ⟨a6,a7,c⟩:=zD c
  refine zH (zM (xK (a:=v) (b:=az) rfl rfl) a7)<| zG (zA (a5 _ _ ?_))
  refine zC fun cr a8=>?_
  refine zW (b:=a6) rfl (fun x=>?_) (fun x=>?_)
  ·have c:=zN x c
   refine zX (zA (a8 _ _ ?_))
   refine zC fun ct a9=>?_
   refine yC ?_
   refine zC fun cu ba=>zB ?_
   obtain ⟨f,y,c⟩:=zF c
   obtain ⟨bb,bc,cv,cw,bd,be,bf,bg,bh⟩:=wH (H.item (i:=1) rfl) y
   obtain ⟨m,rfl,bi⟩:=rRule_open be
   have H:=H.fzs [.at bb (bc+v.toNat * 8) _,.sl fA m f.When.Kids] ⟨⟨bf,bg,bh⟩,bi,trivial⟩
   refine zH (yT u24 sz95 bd rfl (zS y).1 (zS y).2.1 rfl rfl)<| zH (yO (yN (cs:=[sb f.Name,i6 f.When.Kind,sb f.When.Name,sb f.When.Other,i6 f.When.Op,i6 f.When.N,i6 f.When.Frames,m]) agg95 rfl sz95 rfl (H.item (i:=2) rfl).2.2) rfl)<| yY rfl rfl (xN zero95 H) ?_
   rintro _ cx ⟨cy,rfl,H⟩
   refine xB rfl (xC (vs:=[sb f.Name,i6 f.When.Kind,sb f.When.Name,sb f.When.Other,i6 f.When.Op,i6 f.When.N,i6 f.When.Frames,m]) H 4 rfl sz95 rfl rfl rfl ⟨rfl,rfl,rfl,rfl,rfl,rfl,rfl,(dU (H.item (i:=3) rfl)),trivial⟩ rfl) ?_
   rintro cz H
   refine zG (zA (ba _ _ ?_))
   refine zB ?_
   refine zJ I<| zH (fa95_1 rfl)<| zH (yO (yN (cs:=[i6 f.When.Kind,sb f.When.Name,sb f.When.Other,i6 f.When.Op,i6 f.When.N,i6 f.When.Frames,m]) bD rfl bK rfl (Cells.drop (Hbc H 4 rfl) 1 7)) rfl) ?_
   obtain ⟨c0,bj,c⟩:=zF c
   refine yG rfl rfl (yB en152 rfl) (Fbpw f.When m _ bj _ _ _ (H.enter [] [3] (by decide) rfl)) ?_
   rintro _ c1 ⟨c2,rfl,bk⟩
   have H:=H.back1 [3] rfl bk
   refine ⟨_,rfl,?_⟩
   obtain ⟨bl,bm,c⟩:=zF c
   refine yY rfl rfl (Lx_app H (i:=0) rfl u22 el9 rfl rfl (Sr.of_own (H.item (i:=5) rfl)) bm) ?_
   rintro J c3 H
   refine zK J<| (zG (yK (zA (a9 _ _ ?_))))
   refine zB ?_
   obtain ⟨K,bn,c⟩:=zD c
   refine zH (xJ (a:=v) (b:=1) rfl rfl bn)<| zJ (i6 K) ?_
   exact (zG (zA (meet ⟨(a4,bl,K,J),(zI rfl (zI rfl zL)),⟨H.pick [0,1] (by decide),c⟩,Nat.lt_succ_self _⟩)))
  have c:=zO x c
  obtain rfl:=gI c
  exact (xH (yL (yL (yS (zA (meet ⟨I,(zI rfl zL),H.pick [0] (by decide)⟩))))))
 rintro n ρ c4 H
 have c:=ax
 refine zC fun c5 bo=>zB<| zJ n ?_
 obtain ⟨L,bp,c⟩:=zF c
 refine yG rfl rfl (yB en153 rfl) (E.Fczw u n _ bp _ _ _ (H.enter [0] [] (by decide) rfl)) ?_
 rintro _ bq ⟨rfl,br⟩
 have H:Hd _ _ bq _ [.own Rp.str n 9 L]:=H.back [0] [] rfl br
 refine ⟨_,rfl,?_⟩
 refine zG (zA (bo _ _ ?_))
 refine zC fun c6 bt=>zB<| zJ n ?_
 obtain ⟨bu,bv,c⟩:=zF c
 refine yG rfl rfl (yB en155 rfl) (E.Fdfw L n _ bv _ _ _ (H.enter [0] [] (by decide) rfl)) ?_
 rintro _ bw ⟨o,rfl,bx⟩
 have H:Hd _ _ bw _ [.own Rp.str o 9 bu]:=H.back [0] [] rfl bx
 refine ⟨_,rfl,?_⟩
 refine zK o<| zG (zA (bt _ _ ?_))
 obtain rfl:=gI c
 refine (zY (gX (v1:=o) rfl rfl ?_))
 exact ⟨o,rfl,H.pick [0] (by decide)⟩
theorem Fcyw (a:gZ)(b:Str)(v1:Value)(d:Nat)(r:Bool)(c:Fcy a b=some r)(O S:List Nat)(w:World)(H:Hd O w w S [.blk d [sb b] 9,f1 fP v1 a.Series.Samples]):
  Calls Tryz.prog 135 ([.agg [sb a.Name,i6 a.Series.Den,v1,i6 a.Long].toArray,gW d]:List Value).toArray w fun e h=>e= .returned (.bool r)∧Hd O w h S [.blk d [sb b] 9]:=by
 unfold Fcy at c
 refine zZ 8 Tryz.func135 rfl rfl rfl ?_
 refine zC fun l i=>zB<| yY rfl rfl (xR (cs:=[sb a.Name,i6 a.Series.Den,v1,i6 a.Long]) rfl H) ?_
 rintro _ m ⟨n,rfl,H⟩
 refine zK (.bool false)<| zG (zA (i _ _ ?_))
 refine zC fun o j=>zB<| zH (fa37_0 rfl)<| Ld bW H 2 0 rfl rfl<| Ld bW H 0 0 rfl rfl ?_
 obtain ⟨f,k,c⟩:=zD c
 refine zH (zM (dL (s1:=a.Name) (s2:=b) rfl rfl) k)<| zK (.bool f)<| zG (zA (j _ _ ?_))
 obtain rfl:=gI c
 refine (zY (gX (v1:= .bool f) rfl rfl ?_))
 exact ⟨rfl,H.pick [0] (by decide)⟩
theorem Fbzw (k:List gZ)(p1c0:Str)(v1:Value)(h:Nat)(r:Int)(c:Fbz k p1c0=some r)(O S:List Nat)(w:World)(H:Hd O w w S [.blk h [sb p1c0] 9,f1 fG v1 k]):
  Calls Tryz.prog 189 ([v1,.func (.func 135) #[] #[gW h]]:List Value).toArray w fun e t=>e= .returned (i6 r)∧Hd O w t S [.blk h [sb p1c0] 9]:=by
 unfold Fbz at c
 refine zZ 19 Tryz.func189 rfl rfl rfl ?_
 refine zC fun K5 u=>zB<| zK (i6 0)<| zG (zA (u _ _ ?_))
 obtain ⟨v,x,c⟩:=xU c
 refine yH [4,5,6,7,8,9,10,11,12,13,14,15,16,17,18] (fun (g:Unit)=>[]) (fun g wl=>Hd O w wl S [.blk h [sb p1c0] 9]∧v ()=some r) ?_ ?_
 ·skip
  refine zC fun ae y=>zB<| zJ v1 ?_
  obtain ⟨z,A,c⟩:=zD c
  obtain ⟨af,ag,B⟩:=SlF.len ((H.item (i:=1) rfl))
  refine zH (yO (xI u27 B) (congrArg (Value.int .i64) A))<| zJ (i6 0)<| zG (zA (y _ _ ?_))
  refine yC ?_
  unfold Fdm at c
  obtain ⟨C,o,D,c⟩:=yR c
  refine xA [4,5,8,9,10,11,12,13,14,15,16,17,18] (fun (g:Nat×Int)=>[(8,i6 g.2)]) (fun g wl=>Hd O w wl S [.blk h [sb p1c0] 9,f1 fG v1 k]∧fV C g.1 g.2=some r) (fun g=>g.1) (o,0) (zI rfl zL) ⟨H.pick [0,1] (by decide),c⟩ ?_
  clear H c
  rintro ⟨o,d⟩ ρ ah ⟨H,c⟩
  obtain ⟨E,rfl,c⟩:=yV c
  have c:=yU D c
  refine zC fun ai F=>zB ?_
  obtain ⟨G,I,c⟩:=zD c
  refine zH (zM (xK (a:=d) (b:=z) rfl rfl) I)<| zG (zA (F _ _ ?_))
  refine zC fun aj J=>?_
  refine zW (b:=G) rfl (fun l=>?_) (fun l=>?_)
  ·have c:=zN l c
   refine zX (zA (J _ _ ?_))
   refine zC fun ak K=>?_
   refine yC ?_
   refine zC fun al L=>zB<| zJ (i6 d)<| zK (i6 d)<| zG (zA (L _ _ ?_))
   refine zC fun am M=>zB<| zJ (.func (.func 135) #[] #[gW h])<| zJ v1<| zJ (i6 d) ?_
   obtain ⟨f,m,c⟩:=zF c
   obtain ⟨p,q,an,ao,N,P,Q,R,T⟩:=wH (H.item (i:=1) rfl) m
   obtain ⟨j,rfl,U⟩:=kK P
   have H:=H.fzs [.at p (q+d.toNat * 4) _,.sl fP j f.Series.Samples] ⟨⟨Q,R,T⟩,U,trivial⟩
   refine zH (yT u27 sz37 N rfl (zS m).1 (zS m).2.1 rfl rfl)<| zH (yO (yN (cs:=[sb f.Name,i6 f.Series.Den,j,i6 f.Long]) agg37 rfl sz37 rfl (H.item (i:=2) rfl).2.2) rfl) ?_
   obtain ⟨V,X,c⟩:=zF c
   refine yG rfl rfl (aH en135 rfl rfl) (Fcyw f p1c0 j h _ X _ _ _ (H.enter [0] [3] (by decide) rfl)) ?_
   rintro _ Y ⟨rfl,Z⟩
   have H:Hd _ _ Y _ [f1 fG v1 k,.fz (.at p (q+d.toNat * 4) [sb f.Name,i6 f.Series.Den,j,i6 f.Long]),f1 fP j f.Series.Samples,.blk h [sb p1c0] 9]:=H.back [0] [3] rfl Z
   refine ⟨_,rfl,?_⟩
   refine zG (zA (M _ _ ?_))
   refine zW (b:=V) rfl (fun n=>?_) (fun n=>?_)
   ·have c:=zN n c
    refine zC fun ap aa=>zB<| zJ (i6 d)<| zK (i6 d)<| zG (zA (aa _ _ ?_))
    obtain rfl:=gI c
    refine (zY (yD (zT (zT (yD (zT (gX (v1:=i6 d) rfl rfl ?_)))))))
    exact ⟨rfl,H.pick [3] (by decide)⟩
   have c:=zO n c
   refine (zX (yK (zA (K _ _ ?_))))
   refine zB ?_
   obtain ⟨s,ab,c⟩:=zD c
   refine zH (xJ (a:=d) (b:=1) rfl rfl ab)<| zJ (i6 s) ?_
   exact (zG (zA (meet ⟨(E,s),(zI rfl zL),⟨H.pick [3,0] (by decide),c⟩,Nat.lt_succ_self _⟩)))
  have c:=zO l c
  exact (xH (yL (yL (yS (zA (meet ⟨(),zL,⟨H.pick [0] (by decide),c⟩⟩))))))
 rintro _ ρ aq ⟨H,c⟩
 have c:=wE x c
 refine zC fun ar ac=>zB<| zK (i6 (-1))<| zG (zA (ac _ _ ?_))
 obtain rfl:=gI c
 refine (zY (gX (v1:=i6 (-1)) rfl rfl ?_))
 exact ⟨rfl,H.pick [0] (by decide)⟩
theorem Fcmw (f:List gZ)(p1c0:Str)(v1:Value)(c:Nat)(r:Bool)(d:Fcm f p1c0=some r)(O S:List Nat)(w:World)(H:Hd O w w S [.blk c [sb p1c0] 9,f1 fG v1 f]):
  Calls Tryz.prog 134 ([v1,.func (.func 135) #[] #[gW c]]:List Value).toArray w fun e i=>e= .returned (.bool r)∧Hd O w i S [.blk c [sb p1c0] 9]:=by
 unfold Fcm at d
 refine zZ 9 Tryz.func134 rfl rfl rfl ?_
 refine zC fun q j=>zB<| zK (.bool false)<| zG (zA (j _ _ ?_))
 refine zC fun s k=>zB<| zJ v1<| zJ (.func (.func 135) #[] #[gW c]) ?_
 obtain ⟨l,m,d⟩:=zF d
 refine yG rfl rfl (yB en189 rfl) (Fbzw f p1c0 v1 c _ m _ _ _ (H.enter [0] [1] (by decide) rfl)) ?_
 rintro _ n ⟨rfl,o⟩
 have H:Hd _ _ n _ [f1 fG v1 f,.blk c [sb p1c0] 9]:=H.back [0] [1] rfl o
 refine ⟨_,rfl,?_⟩
 obtain ⟨h,p,d⟩:=zD d
 refine zH (zM (aJ (a:=l) (b:=0) rfl rfl) p)<| zK (.bool h)<| zG (zA (k _ _ ?_))
 obtain rfl:=gI d
 refine (zY (gX (v1:= .bool h) rfl rfl ?_))
 exact ⟨rfl,H.pick [1] (by decide)⟩
set_option maxRecDepth 100000 in
theorem Fbbw (j:Rules)(k:List gZ)(v1:Value)(f:Value)(h:Value)(d:Value)(r:Int)(c:Fbb j k=some r)(O S:List Nat)(w:World)(H:Hd O w w S [f1 Rp.str v1 j.Phases,f1 fD f j.Moves,f1 fF h j.Rules,f1 fG d k]):
  Calls Tryz.prog 73 ([.agg [v1,f,h].toArray,d]:List Value).toArray w fun e D=>e= .returned (i6 r)∧Hd O w D S []:=by
 unfold Fbb at c
 refine zZ 31 Tryz.func73 rfl rfl rfl ?_
 refine zC fun K9 E=>zB<| yY rfl rfl (xR (cs:=[v1,f,h]) rfl H) ?_
 rintro _ a9 ⟨ba,rfl,H⟩
 refine zK (i6 0)<| zG (zA (E _ _ ?_))
 refine zC fun bb F=>?_
 refine zC fun bc G=>zB<| zH (yO (yN (cs:=[v1,f,h]) agg26 rfl sz26 rfl (Hbc H 4 rfl)) rfl) ?_
 have I:=H
 obtain ⟨l,J,c⟩:=zF c
 refine yG rfl rfl (yB en31 rfl) (Fbyw j v1 f h _ J _ _ _ (H.enter [] [0,1,2] (by decide) rfl)) ?_
 rintro _ bd ⟨rfl,K⟩
 have H:=I.step (K.only:Only [] _ _)
 refine ⟨_,rfl,?_⟩
 refine zK (i6 l)<| zG (zA (G _ _ ?_))
 refine zC fun be L=>zB<| zJ (i6 l) ?_
 obtain ⟨M,N,c⟩:=zD c
 refine zH (zM (wL (a:=l) (b:=0) rfl rfl) N)<| zG (zA (L _ _ ?_))
 refine zW (b:=M) rfl (fun o=>?_) (fun o=>?_)
 ·have c:=zN o c
  refine zC fun bf P=>zB<| zJ (i6 l)<| zK (i6 l)<| zG (zA (P _ _ ?_))
  obtain rfl:=gI c
  refine (zY (zT (gX (v1:=i6 l) rfl rfl ?_)))
  exact ⟨rfl,H.pick [] (by decide)⟩
 have c:=zO o c
 refine zX (zA (F _ _ ?_))
 refine zC fun bg Q=>?_
 refine zC fun bh R=>zB<| zJ d ?_
 have T:=H
 obtain ⟨m,U,c⟩:=zF c
 refine yG rfl rfl (yB en75 rfl) (Fbww k d _ U _ _ _ (H.enter [] [3] (by decide) rfl)) ?_
 rintro _ bi ⟨rfl,V⟩
 have H:=T.step (V.only:Only [] _ _)
 refine ⟨_,rfl,?_⟩
 refine zK (i6 m)<| zG (zA (R _ _ ?_))
 refine zC fun bj X=>zB<| zJ (i6 m) ?_
 obtain ⟨Y,Z,c⟩:=zD c
 refine zH (zM (wL (a:=m) (b:=0) rfl rfl) Z)<| zG (zA (X _ _ ?_))
 refine zW (b:=Y) rfl (fun q=>?_) (fun q=>?_)
 ·have c:=zN q c
  refine zC fun bk aa=>zB<| zJ (i6 m)<| zK (i6 m)<| zG (zA (aa _ _ ?_))
  obtain rfl:=gI c
  refine (zY (zT (gX (v1:=i6 m) rfl rfl ?_)))
  exact ⟨rfl,H.pick [] (by decide)⟩
 have c:=zO q c
 refine zX (zA (Q _ _ ?_))
 obtain ⟨ab,ac,c⟩:=xU c
 refine yH [4,8,19,20,21,22,23,24,25,26,27,28,29,30] (fun (g:Unit)=>[]) (fun g wl=>Hd O w wl S []∧ab ()=some r) ?_ ?_
 ·skip
  refine zC fun bl ad=>zB<| zH (yO (yN (cs:=[v1,f,h]) agg26 rfl sz26 rfl (Hbc H 4 rfl)) rfl) ?_
  obtain ⟨x,ae,c⟩:=zF c
  refine yG rfl rfl (yB en95 rfl) (Fbnw j v1 f h _ ae _ _ _ (H.enter [] [0,1,2] (by decide) rfl)) ?_
  rintro _ bm ⟨y,rfl,af⟩
  have H:=H.back1 [0,1,2] rfl af
  refine ⟨_,rfl,?_⟩
  obtain ⟨ag,ah,c⟩:=zD c
  obtain ⟨bn,bo,ai⟩:=Sr.len (Sr.of_own (H.item (i:=5) rfl))
  refine zH (yO (xI u22 ai) (congrArg (Value.int .i64) ah))<| zJ (i6 0)<| zG (zA (ad _ _ ?_))
  refine yC ?_
  unfold Fdo at c
  obtain ⟨aj,z,ak,c⟩:=yR c
  refine xA [4,8,22,23,24,25,26,27,28,29,30] (fun (g:Nat×Int)=>[(22,i6 g.2)]) (fun g wl=>Hd O w wl S [f1 fG d k,.own Rp.str y 9 x]∧fV aj g.1 g.2=some r) (fun g=>g.1) (z,0) (zI rfl zL) ⟨H.pick [3,5] (by decide),c⟩ ?_
  clear H c
  rintro ⟨z,A⟩ ρ bp ⟨H,c⟩
  obtain ⟨al,rfl,c⟩:=yV c
  have c:=yU ak c
  refine zC fun bq am=>zB ?_
  obtain ⟨an,ao,c⟩:=zD c
  refine zH (zM (xK (a:=A) (b:=ag) rfl rfl) ao)<| zG (zA (am _ _ ?_))
  refine zC fun br ap=>?_
  refine zW (b:=an) rfl (fun s=>?_) (fun s=>?_)
  ·have c:=zN s c
   refine zX (zA (ap _ _ ?_))
   refine zC fun bt aq=>?_
   refine yC ?_
   refine zC fun bu ar=>zB ?_
   obtain ⟨n,t,c⟩:=zF c
   obtain ⟨bv,bw,au,av,aw,ax⟩:=bH (H.item (i:=1) rfl) t
   obtain rfl:au= [sb n]:=aw
   refine zH (yT u22 sz9 av rfl (zS t).1 (zS t).2.1 rfl rfl)<| zH (yX bW rfl (Cells.get ax (i:=0) rfl))<| yY rfl rfl (xN zero9 H) ?_
   rintro _ bx ⟨B,rfl,H⟩
   refine xB rfl (wI H 2 rfl sz9 rfl (v:=sb n) rfl rfl rfl) ?_
   rintro bz H
   refine zG (zA (ar _ _ ?_))
   refine zC fun b0 ay=>zB<| zJ d<| zH (bG rfl) ?_
   obtain ⟨az,a0,c⟩:=zF c
   refine yG rfl rfl (yB en134 rfl) (Fcmw k n d B _ a0 _ _ _ (H.enter [2] [0] (by decide) rfl)) ?_
   rintro _ a1 ⟨rfl,a2⟩
   have H:Hd _ _ a1 _ [f1 fG d k,.own Rp.str y 9 x,.blk B [sb n] 9]:=H.back [2] [0] rfl a2
   refine ⟨_,rfl,?_⟩
   obtain ⟨a3,a4,c⟩:=zD c
   refine zH (zM (wJ (p:=az) rfl) a4)<| zG (zA (ay _ _ ?_))
   refine zW (b:=a3) rfl (fun u=>?_) (fun u=>?_)
   ·have c:=zN u c
    refine zC fun b1 a5=>zB<| zK (i6 4)<| zG (zA (a5 _ _ ?_))
    obtain rfl:=gI c
    refine (zY (yD (zT (zT (yD (zT (gX (v1:=i6 4) rfl rfl ?_)))))))
    exact ⟨rfl,H.pick [] (by decide)⟩
   have c:=zO u c
   refine (zX (yK (zA (aq _ _ ?_))))
   refine zB ?_
   obtain ⟨C,a6,c⟩:=zD c
   refine zH (xJ (a:=A) (b:=1) rfl rfl a6)<| zJ (i6 C) ?_
   exact (zG (zA (meet ⟨(al,C),(zI rfl zL),⟨H.pick [0,1] (by decide),c⟩,Nat.lt_succ_self _⟩)))
  have c:=zO s c
  exact (xH (yL (yL (yS (zA (meet ⟨(),zL,⟨H.pick [] (by decide),c⟩⟩))))))
 rintro _ ρ b2 ⟨H,c⟩
 have c:=wE ac c
 refine zC fun b3 a7=>zB<| zK (i6 0)<| zG (zA (a7 _ _ ?_))
 obtain rfl:=gI c
 refine (zY (gX (v1:=i6 0) rfl rfl ?_))
 exact ⟨rfl,H.pick [] (by decide)⟩
theorem Fckw (f:List Str)(v1:Value)(r:(List Str))(a:Fck f=some r)(O S:List Nat)(w:World)(H:Hd O w w S [f1 Rp.str v1 f]):
  Calls Tryz.prog 100 ([v1]:List Value).toArray w fun e h=> ∃u3,e= .returned (u3)∧Hd O w h S [.own Rp.str u3 9 r]:=by
 unfold Fck at a
 refine zZ 8 Tryz.func100 rfl rfl rfl ?_
 refine zC fun u j=>zB<| zK (.slice none 0 0)<| zG (zA (j _ _ ?_))
 refine zC fun v k=>?_
 refine zC fun x l=>zB<| zJ v1 ?_
 obtain ⟨y,z,m,n⟩:=slf_nilq (H.item (i:=0) rfl)
 obtain ⟨o,p,a⟩:=nilO_some a n
 refine zH (yO (Do_eqlnils u22 m rfl) (congrArg Value.bool p))<| zG (zA (l _ _ ?_))
 refine zW (b:=o) rfl (fun c=>?_) (fun c=>?_)
 ·have a:=zN c a
  refine zC fun A q=>zB<| zK (.slice none 0 0)<| zG (zA (q _ _ ?_))
  have H:=aU H Rp.str 9
  obtain rfl:=gI a
  refine (zY (zT (gX (v1:= .slice none 0 0) rfl rfl ?_)))
  exact ⟨.slice none 0 0,rfl,H.pick [1] (by decide)⟩
 have a:=zO c a
 refine zX (zA (k _ _ ?_))
 refine zC fun B s=>zB<| yY rfl rfl (Lx_bs0 (r:=Rp.str) u22 el9 H) ?_
 rintro C D H
 refine zJ v1 ?_
 obtain ⟨E,t,a⟩:=zF a
 refine yY rfl rfl (Lx_app H (i:=1) rfl u22 el9 rfl rfl (Sr.of_rd (H.item (i:=0) rfl)) t) ?_
 rintro d F H
 refine zK d<| zG (zA (s _ _ ?_))
 obtain rfl:=gI a
 refine (zY (gX (v1:=d) rfl rfl ?_))
 exact ⟨d,rfl,H.pick [1] (by decide)⟩
abbrev Fct (f:fQ→Cond→Option Nd):Prop:= ∀(p0:fQ) (p1:Cond) (b1:Nat) (b2:Nat) (v3:Value) (v4:Value) (b5:Nat) (v11:Value) (r:Nd) (_:f p0 p1=some r) (O S:List Nat) (w:World) (_:Hd O w w S [.mp b2 (gU Ky.str (fun v=>Value.int .i64 v) p0.tracks),.own (Rp.int .i64) v3 3 p0.dens,.mp b5 (gU Ky.str (fun v=>Value.int .i64 v) p0.rules),.blk b1 [.map (some b2),v3,v4,.map (some b5)] 215,f1 Rp.str v4 p0.phases,f1 fA v11 p1.Kids]),
  Calls Tryz.prog 137 ([gW b1,.agg [i6 p1.Kind,sb p1.Name,sb p1.Other,i6 p1.Op,i6 p1.N,i6 p1.Frames,v11].toArray]:List Value).toArray w fun e w'=> ∃u13 u14,e= .returned (u13)∧Hd O w w' S [.tr fC [u13] u14 r,.mp b2 (gU Ky.str (fun v=>Value.int .i64 v) p0.tracks),.own (Rp.int .i64) v3 3 p0.dens,.mp b5 (gU Ky.str (fun v=>Value.int .i64 v) p0.rules),.blk b1 [.map (some b2),v3,v4,.map (some b5)] 215]
theorem Fbew (rfH:fQ→Cond→Option Nd)(rhH:Fct rfH)(f:fQ)(p:List Cond)(n:Nat)(h:Nat)(j:Value)(l:Value)(k:Nat)(o:Value)(r:(List Nd))(d:Fbe rfH f p=some r)(O S:List Nat)(w:World)(H:Hd O w w S [.mp h (gU Ky.str (fun v=>Value.int .i64 v) f.tracks),.own (Rp.int .i64) j 3 f.dens,.mp k (gU Ky.str (fun v=>Value.int .i64 v) f.rules),.blk n [.map (some h),j,l,.map (some k)] 215,f1 Rp.str l f.phases,f1 fA o p]):
  Calls Tryz.prog 190 ([gW n,o]:List Value).toArray w fun e M=> ∃D P,e= .returned (D)∧Hd O w M S [.tr fK [D] P r,.mp h (gU Ky.str (fun v=>Value.int .i64 v) f.tracks),.own (Rp.int .i64) j 3 f.dens,.mp k (gU Ky.str (fun v=>Value.int .i64 v) f.rules),.blk n [.map (some h),j,l,.map (some k)] 215]:=by
 unfold Fbe at d
 refine zZ 22 Tryz.func190 rfl rfl rfl ?_
 refine zC fun a1 Q=>zB<| zK (.slice none 0 0)<| zG (zA (Q _ _ ?_))
 refine zC fun a2 R=>zB<| zK (.slice none 0 0)<| zG (zA (R _ _ ?_))
 obtain ⟨E,d,T⟩:=zF d
 refine yH [5,7,8,9,10,11,12,13,14,15,16,17,18,19,20] (fun (g:Value×(List Nat))=>[(5,g.1)]) (fun g wl=>Hd O w wl S [.tr fK [g.1] g.2 E,.mp h (gU Ky.str (fun v=>Value.int .i64 v) f.tracks),.own (Rp.int .i64) j 3 f.dens,.mp k (gU Ky.str (fun v=>Value.int .i64 v) f.rules),.blk n [.map (some h),j,l,.map (some k)] 215,f1 Rp.str l f.phases]) ?_ ?_
 ·skip
  refine zC fun a3 U=>zB<| zJ o ?_
  obtain ⟨V,X,d⟩:=zD d
  obtain ⟨a4,a5,Y⟩:=SlF.len ((H.item (i:=5) rfl))
  refine zH (yO (xI u68 Y) (congrArg (Value.int .i64) X))<| zJ (i6 0)<| zG (zA (U _ _ ?_))
  refine yC ?_
  have H:=row_nil H fC 170
  unfold Fds at d
  obtain ⟨Z,F,aa,d⟩:=yR d
  refine xA [5,7,10,11,12,13,14,15,16,17,18,19,20] (fun (g:Nat×(List Nd)×Int×Value×(List Nat))=>[(5,g.2.2.2.1),(10,i6 g.2.2.1)]) (fun g wl=>Hd O w wl S [.tr fK [g.2.2.2.1] g.2.2.2.2 g.2.1,.mp h (gU Ky.str (fun v=>Value.int .i64 v) f.tracks),.own (Rp.int .i64) j 3 f.dens,.mp k (gU Ky.str (fun v=>Value.int .i64 v) f.rules),.blk n [.map (some h),j,l,.map (some k)] 215,f1 Rp.str l f.phases,f1 fA o p]∧fV Z g.1 (g.2.1,g.2.2.1)=some E) (fun g=>g.1) (F,[],0,.slice none 0 0,[]) (zI rfl (zI rfl zL)) ⟨H.pick [6,0,1,2,3,4,5] (by decide),d⟩ ?_
  clear H d
  rintro ⟨F,G,q,s,y⟩ ρ a6 ⟨H,d⟩
  obtain ⟨ab,rfl,d⟩:=yV d
  have d:=yU aa d
  refine zC fun a7 ac=>zB ?_
  obtain ⟨ad,ae,d⟩:=zD d
  refine zH (zM (xK (a:=q) (b:=V) rfl rfl) ae)<| zG (zA (ac _ _ ?_))
  refine zC fun a8 af=>?_
  refine zW (b:=ad) rfl (fun z=>?_) (fun z=>?_)
  ·have d:=zN z d
   refine zX (zA (af _ _ ?_))
   refine zC fun a9 ag=>?_
   refine yC ?_
   refine zC fun ba ah=>zB ?_
   obtain ⟨c,A,d⟩:=zF d
   obtain ⟨t,u,bb,bc,ai,aj,ak,al,am⟩:=wH (H.item (i:=6) rfl) A
   obtain ⟨m,rfl,an⟩:=aF aj
   have H:=H.fzs [.at t (u+q.toNat * 7) _,.sl fA m c.Kids] ⟨⟨ak,al,am⟩,an,trivial⟩
   refine zH (yT u68 bK ai rfl (zS A).1 (zS A).2.1 rfl rfl)<| zH (yO (yN (cs:=[i6 c.Kind,sb c.Name,sb c.Other,i6 c.Op,i6 c.N,i6 c.Frames,m]) bD rfl bK rfl (H.item (i:=7) rfl).2.2) rfl)<| yY rfl rfl (xN zero70 H) ?_
   rintro _ bd ⟨B,rfl,H⟩
   refine xB rfl (xC (vs:=[i6 c.Kind,sb c.Name,sb c.Other,i6 c.Op,i6 c.N,i6 c.Frames,m]) H 9 rfl bK rfl rfl rfl ⟨rfl,rfl,rfl,rfl,rfl,rfl,(dU (H.item (i:=8) rfl)),trivial⟩ rfl) ?_
   rintro be H
   refine zG (zA (ah _ _ ?_))
   refine zB ?_
   refine zJ s<| zJ (gW n)<| zH (yO (yN (cs:=[i6 c.Kind,sb c.Name,sb c.Other,i6 c.Op,i6 c.N,i6 c.Frames,m]) bD rfl bK rfl (Hbc H 9 rfl)) rfl) ?_
   obtain ⟨I,ao,d⟩:=zF d
   refine yG rfl rfl (yB en137 rfl) (rhH (fQ.mk f.tracks f.dens f.phases f.rules) c n h j l k m _ ao _ _ _ (H.enter [1,2,3,4] [5,8] (by decide) rfl)) ?_
   rintro _ ap ⟨aq,ar,rfl,au⟩
   have H:Hd _ _ ap _ [.tr fK [s] y G,f1 Rp.str l f.phases,f1 fA o p,.fz (.at t (u+q.toNat * 7) [i6 c.Kind,sb c.Name,sb c.Other,i6 c.Op,i6 c.N,i6 c.Frames,m]),f1 fA m c.Kids,.blk B [i6 c.Kind,sb c.Name,sb c.Other,i6 c.Op,i6 c.N,i6 c.Frames,m] 70,.tr fC [aq] ar I,.mp h (gU Ky.str (fun v=>Value.int .i64 v) f.tracks),.own (Rp.int .i64) j 3 f.dens,.mp k (gU Ky.str (fun v=>Value.int .i64 v) f.rules),.blk n [.map (some h),j,l,.map (some k)] 215]:=H.back [1,2,3,4] [5,8] rfl au
   refine ⟨_,rfl,?_⟩
   refine yY rfl rfl (Lx_bsT1 H 6 rfl u143 el170 (by decide) (by decide) (fillB_ones rfl rfl ⟨(tr_one (H.item (i:=6) rfl)),trivial⟩)) ?_
   rintro av bf ⟨aw,H⟩
   have H:Hd _ _ _ _ [.tr fK [s] y G,f1 Rp.str l f.phases,f1 fA o p,.fz (.at t (u+q.toNat * 7) [i6 c.Kind,sb c.Name,sb c.Other,i6 c.Op,i6 c.N,i6 c.Frames,m]),f1 fA m c.Kids,.blk B [i6 c.Kind,sb c.Name,sb c.Other,i6 c.Op,i6 c.N,i6 c.Frames,m] 70,.mp h (gU Ky.str (fun v=>Value.int .i64 v) f.tracks),.own (Rp.int .i64) j 3 f.dens,.mp k (gU Ky.str (fun v=>Value.int .i64 v) f.rules),.blk n [.map (some h),j,l,.map (some k)] 215,.tr fK [av] aw [I]]:=H
   obtain ⟨J,ax,d⟩:=zF d
   refine yY rfl rfl (Lx_appT H 0 10 rfl rfl (by decide) u143 el170 rfl rfl ax) ?_
   rintro C bg ⟨K,H⟩
   have H:Hd _ _ _ _ [f1 Rp.str l f.phases,f1 fA o p,.fz (.at t (u+q.toNat * 7) [i6 c.Kind,sb c.Name,sb c.Other,i6 c.Op,i6 c.N,i6 c.Frames,m]),f1 fA m c.Kids,.blk B [i6 c.Kind,sb c.Name,sb c.Other,i6 c.Op,i6 c.N,i6 c.Frames,m] 70,.mp h (gU Ky.str (fun v=>Value.int .i64 v) f.tracks),.own (Rp.int .i64) j 3 f.dens,.mp k (gU Ky.str (fun v=>Value.int .i64 v) f.rules),.blk n [.map (some h),j,l,.map (some k)] 215,.tr fK [C] K J]:=H
   refine zK C<| (zG (yK (zA (ag _ _ ?_))))
   refine zB ?_
   obtain ⟨L,ay,d⟩:=zD d
   refine zH (xJ (a:=q) (b:=1) rfl rfl ay)<| zJ (i6 L) ?_
   exact (zG (zA (meet ⟨(ab,J,L,C,K),(zI rfl (zI rfl zL)),⟨H.pick [9,5,6,7,8,0,1] (by decide),d⟩,Nat.lt_succ_self _⟩)))
  have d:=zO z d
  obtain rfl:=gI d
  exact (xH (yL (yL (yS (zA (meet ⟨(s,y),(zI rfl zL),H.pick [0,1,2,3,4,5] (by decide)⟩))))))
 rintro ⟨x,az⟩ ρ bh H
 have d:=T
 refine zC fun bi a0=>zB<| zJ x<| zK x<| zG (zA (a0 _ _ ?_))
 obtain rfl:=gI d
 refine (zY (gX (v1:=x) rfl rfl ?_))
 exact ⟨x,az,rfl,H.pick [0,1,2,3,4] (by decide)⟩
end Go.Proofs.YtckmiljbaejijaaGreatDoor.L
