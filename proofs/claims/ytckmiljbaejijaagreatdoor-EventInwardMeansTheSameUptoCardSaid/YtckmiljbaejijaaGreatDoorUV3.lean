/- Walks: what each function computes, for every argument; no condition but those that stand in the statements. -/
import Derived.Test.YtckmiljbaejijaaGreatDoorUV0
import Derived.Test.YtckmiljbaejijaaGreatDoorUV2
namespace Go.Proofs.YtckmiljbaejijaaGreatDoor.L
open Go.RowKit Go.OB Go.Lf
set_option maxHeartbeats 4000000
theorem Fb4w (rfG:Cond→(List Str)→Option (Int×(List Str)))(rhG:Fer rfG)(f:Cond)(p1c0:List Str)(v1:Value)(h:Nat)(p:Value)(r:Int×(List Str))(c:Fb4 rfG f p1c0=some r)(O S:List Nat)(w:World)(H:Hd O w w S [.own Rp.str p 9 p1c0,.blk h [p] 22,f1 fA v1 f.Kids]):
  Cl 81 [.agg [i6 f.Kind,sb f.Name,sb f.Other,i6 f.Op,i6 f.N,i6 f.Frames,v1].toArray,.func (.func 196) #[] #[gV h]] w fun e F=> ∃v,e= .returned (i6 r.1)∧Hd O w F S [.own Rp.str v 9 r.2,.blk h [v] 22]:=by
 unfold Fb4 at c
 refine CW 29 Tryz.func81 ?_
 refine zB fun K8 G=>zA<| yQ rfl rfl (xR (cs:=[i6 f.Kind,sb f.Name,sb f.Other,i6 f.Op,i6 f.N,i6 f.Frames,v1]) rfl H) ?_
 rintro _ a6 ⟨I,rfl,H⟩
 refine zI (i6 0)<| RN G<| zB fun a7 J=>zB fun a8 K=>zA<| zH (.func (.func 196) #[] #[gV h])<| zG (yJ (yF (cs:=[i6 f.Kind,sb f.Name,sb f.Other,i6 f.Op,i6 f.N,i6 f.Frames,v1]) eG rfl fZ rfl (Hbc H 3 rfl)) rfl) ?_
 obtain ⟨⟨k,x⟩,L,c⟩:=zC c
 refine zZ rfl rfl (bQ en196 rfl rfl) (Fcxw f p1c0 v1 h p _ L _ _ _ (H.enter [0,1] [2])) ?_
 rintro _ M ⟨m,rfl,P⟩
 have H:Hd _ _ M _ [f1 fA v1 f.Kids,.blk I [i6 f.Kind,sb f.Name,sb f.Other,i6 f.Op,i6 f.N,i6 f.Frames,v1] 70,.own Rp.str m 9 x,.blk h [m] 22]:=H.back [0,1] [2] rfl P
 refine ⟨_,rfl,?_⟩
 refine zI (i6 k)<| RN K<| zB fun a9 Q=>zA<| zH (i6 k) ?_
 obtain ⟨R,T,c⟩:=zD c
 refine zG (zL (dC (a:=k) (b:=0) rfl rfl) T)<| RN Q<| zY (b:=R) rfl (fun q=>?_) (fun q=>?_)
 ·have c:=zO q c
  refine zB fun ba U=>zA<| zH (i6 k)<| zI (i6 k)<| RN U ?_
  obtain rfl:=gI c
  refine (zW (zV (fC (v1:=i6 k) rfl rfl ?_)))
  exact ⟨m,rfl,H.pick [2,3]⟩
 have c:=zQ q c
 refine zX (zF (J _ _ ?_))
 obtain ⟨V,X,c⟩:=wI c
 refine yK [4,7,8,15,16,17,18,19,20,21,22,23,24,25,26,27,28] (fun (g:(List Str)×Value)=>[]) (fun g wl=>Hd O w wl S [.blk h [g.2] 22,.own Rp.str g.2 9 g.1]∧V g.1=some r) ?_ ?_
 ·skip
  refine zB fun bb Y=>zA<| zG (jJ rfl)<| Ld tJ H 1 6 rfl rfl ?_
  obtain ⟨Z,aa,c⟩:=zD c
  obtain ⟨bc,bd,ab⟩:=SlF.len ((H.item (i:=0) rfl))
  refine zG (yJ (xO u68 ab) (congrArg (Value.int .i64) aa))<| zH (i6 0)<| RN Y<| yD ?_
  unfold Ffo at c
  obtain ⟨ac,y,ad,c⟩:=yT c
  refine xB [4,7,8,18,19,20,21,22,23,24,25,26,27,28] (fun (g:Nat×Int×(List Str)×Value)=>[(18,i6 g.2.1)]) (fun g wl=>Hd O w wl S [f1 fA v1 f.Kids,.blk h [g.2.2.2] 22,.own Rp.str g.2.2.2 9 g.2.2.1]∧fV ac g.1 (g.2.1,g.2.2.1)=some r) (fun g=>g.1) (y,0,x,m) (zJ rfl zK) ⟨H.pick [0,3,2],c⟩ ?_
  clear H c
  rintro ⟨y,n,z,A⟩ ρ be ⟨H,c⟩
  obtain ⟨ae,rfl,c⟩:=yZ c
  have c:=yY ad c
  refine zB fun bf af=>zA ?_
  obtain ⟨ag,ah,c⟩:=zD c
  refine zG (zL (xP (a:=n) (b:=Z) rfl rfl) ah)<| RN af<| zB fun bg ai=>zY (b:=ag) rfl (fun s=>?_) (fun s=>?_)
  ·have c:=zO s c
   refine zX (zF (ai _ _ ?_))
   refine zB fun bh aj=>?_
   refine yD ?_
   refine zB fun bi ak=>zA ?_
   obtain ⟨d,t,c⟩:=zC c
   obtain ⟨B,C,bj,bk,al,am,an,ao,ap⟩:=dI (H.item (i:=0) rfl) t
   obtain ⟨j,rfl,aq⟩:=cO am
   have H:=H.fzs [.at B (C+n.toNat * 7) _,.sl fA j d.Kids] ⟨⟨an,ao,ap⟩,aq,trivial⟩
   refine zG (xC u68 fZ al rfl (yC t).1 (yC t).2.1 rfl rfl)<| zG (yJ (yF (cs:=[i6 d.Kind,sb d.Name,sb d.Other,i6 d.Op,i6 d.N,i6 d.Frames,j]) eG rfl fZ rfl (H.item (i:=3) rfl).2.2) rfl)<| yQ rfl rfl (xA aB H) ?_
   rintro _ bl ⟨ar,rfl,H⟩
   refine yP rfl (yL (vs:=[i6 d.Kind,sb d.Name,sb d.Other,i6 d.Op,i6 d.N,i6 d.Frames,j]) H 5 rfl fZ rfl rfl rfl ⟨rfl,rfl,rfl,rfl,rfl,rfl,(xY (H.item (i:=4) rfl)),trivial⟩ rfl) ?_
   rintro bm H
   refine RN ak<| zB fun bn au=>zA<| zG (yJ (yF (cs:=[i6 d.Kind,sb d.Name,sb d.Other,i6 d.Op,i6 d.N,i6 d.Frames,j]) eG rfl fZ rfl (Hbc H 5 rfl)) rfl)<| zH (.func (.func 196) #[] #[gV h]) ?_
   obtain ⟨⟨l,D⟩,av,c⟩:=zC c
   refine zZ rfl rfl (zS aNh rfl) (rhG d z j h A _ av _ _ _ (H.enter [2,1] [4])) ?_
   rintro _ aw ⟨o,rfl,ax⟩
   have H:Hd _ _ aw _ [f1 fA v1 f.Kids,.fz (.at B (C+n.toNat * 7) [i6 d.Kind,sb d.Name,sb d.Other,i6 d.Op,i6 d.N,i6 d.Frames,j]),f1 fA j d.Kids,.blk ar [i6 d.Kind,sb d.Name,sb d.Other,i6 d.Op,i6 d.N,i6 d.Frames,j] 70,.own Rp.str o 9 D,.blk h [o] 22]:=H.back [2,1] [4] rfl ax
   refine ⟨_,rfl,?_⟩
   refine zI (i6 l)<| RN au<| zB fun bo ay=>zA<| zH (i6 l) ?_
   obtain ⟨az,a0,c⟩:=zD c
   refine zG (zL (dC (a:=l) (b:=0) rfl rfl) a0)<| RN ay<| zY (b:=az) rfl (fun u=>?_) (fun u=>?_)
   ·have c:=zO u c
    refine zB fun bp a1=>zA<| zH (i6 l)<| zI (i6 l)<| RN a1 ?_
    obtain rfl:=gI c
    refine (zW (yE (zV (zV (yE (zV (fC (v1:=i6 l) rfl rfl ?_)))))))
    exact ⟨o,rfl,H.pick [4,5]⟩
   have c:=zQ u c
   refine (zX (yH (zF (aj _ _ ?_))))
   refine zA ?_
   obtain ⟨E,a2,c⟩:=zD c
   refine zG (xM (a:=n) (b:=1) rfl rfl a2)<| zH (i6 E) ?_
   exact (yA (zF (meet ⟨(ae,E,D,o),(zJ rfl zK),⟨H.pick [0,5,4],c⟩,Nat.lt_succ_self _⟩)))
  have c:=zQ s c
  exact (xI (yI (yI (yV (zF (meet ⟨(z,A),zK,⟨H.pick [1,2],c⟩⟩))))))
 rintro ⟨bq,a3⟩ ρ br ⟨H,c⟩
 have c:=dF X c
 refine zB fun bt a4=>zA<| zI (i6 0)<| RN a4 ?_
 obtain rfl:=gI c
 refine (zW (fC (v1:=i6 0) rfl rfl ?_))
 exact ⟨a3,rfl,H.pick [1,0]⟩
theorem Fgj:Fer (Fd9):=by
 have h: ∀n,Fer (Faz n):=by
  intro n
  induction n with
  | zero=>intro b p1c0 c d e r a; cases a
  | succ n ih=>intro b p1c0 c d e r a; exact Fb4w (Faz n) ih b p1c0 c d e r a
 exact h FU
theorem Fbjw (a:Cond)(v1:Value)(r:(List Str))(c:Fbj a=some r)(O S:List Nat)(w:World)(H:Hd O w w S [f1 fA v1 a.Kids]):
  Cl 152 [.agg [i6 a.Kind,sb a.Name,sb a.Other,i6 a.Op,i6 a.N,i6 a.Frames,v1].toArray] w fun e f=> ∃u3,e= .returned (u3)∧Hd O w f S [.own Rp.str u3 9 r]:=by
 unfold Fbj at c
 refine CW 8 Tryz.func152 ?_
 refine zB fun q h=>zA<| yQ rfl rfl (xR (cs:=[i6 a.Kind,sb a.Name,sb a.Other,i6 a.Op,i6 a.N,i6 a.Frames,v1]) rfl H) ?_
 rintro _ s ⟨i,rfl,H⟩
 refine zI (.slice none 0 0)<| RN h<| zB fun t j=>zA<| yQ rfl rfl (xA zero22 H) ?_
 rintro _ u ⟨d,rfl,H⟩
 refine RN j<| zB fun v k=>zA<| zG (yJ (yF (cs:=[i6 a.Kind,sb a.Name,sb a.Other,i6 a.Op,i6 a.N,i6 a.Frames,v1]) eG rfl fZ rfl (Hbc H 1 rfl)) rfl)<| zG (dV rfl) ?_
 have H:=bY H Rp.str 9
 obtain ⟨⟨x,l⟩,m,c⟩:=zC c
 refine zZ rfl rfl (zS aNh rfl) (Fgj a [] v1 d (.slice none 0 0) _ m _ _ _ (H.enter [3,2] [0])) ?_
 rintro _ n ⟨b,rfl,o⟩
 have H:Hd _ _ n _ [f1 fA v1 a.Kids,.blk i [i6 a.Kind,sb a.Name,sb a.Other,i6 a.Op,i6 a.N,i6 a.Frames,v1] 70,.own Rp.str b 9 l,.blk d [b] 22]:=H.back [3,2] [0] rfl o
 refine ⟨_,rfl,?_⟩
 refine RN k<| zB fun y p=>zA<| Ld jS H 3 0 rfl rfl<| zI b<| RN p ?_
 obtain rfl:=gI c
 refine (zW (fC (v1:=b) rfl rfl ?_))
 exact ⟨b,rfl,H.pick [2]⟩
theorem Fbhw (h:Rules)(v1:Value)(k:Value)(j:Value)(r:(List Str))(c:Fbh h=some r)(O S:List Nat)(w:World)(H:Hd O w w S [f1 Rp.str v1 h.Phases,f1 gX k h.Moves,f1 fB j h.Rules]):
  Cl 95 [.agg [v1,k,j].toArray] w fun e M=> ∃z,e= .returned (z)∧Hd O w M S [.own Rp.str z 9 r]:=by
 unfold Fbh at c
 refine CW 38 Tryz.func95 ?_
 refine zB fun K8 P=>zA<| yQ rfl rfl (xR (cs:=[v1,k,j]) rfl H) ?_
 rintro _ b0 ⟨A,rfl,H⟩
 refine zI (.slice none 0 0)<| RN P<| zB fun b1 Q=>zA<| zI (.slice none 0 0)<| RN Q ?_
 obtain ⟨p,c,R⟩:=zC c
 refine yK [3,5,8,9,10,11,12,13,14,15,16,17,18,19,20] (fun (g:Value)=>[(3,g)]) (fun g wl=>Hd O w wl S [.own Rp.str g 9 p,f1 Rp.str v1 h.Phases,f1 gX k h.Moves,f1 fB j h.Rules,.blk A [v1,k,j] 26]) ?_ ?_
 ·skip
  refine zB fun b2 T=>zA<| zG (aBu rfl)<| Ld aHz H 3 1 rfl rfl ?_
  obtain ⟨U,V,c⟩:=zD c
  obtain ⟨b3,b4,X⟩:=SlF.len ((H.item (i:=1) rfl))
  refine zG (yJ (xO u23 X) (congrArg (Value.int .i64) V))<| zH (i6 0)<| RN T<| yD ?_
  have H:=bY H Rp.str 9
  unfold Fc1 at c
  obtain ⟨Y,B,Z,c⟩:=yT c
  refine xB [3,5,11,12,13,14,15,16,17,18,19,20] (fun (g:Nat×(List Str)×Int×Value)=>[(3,g.2.2.2),(11,i6 g.2.2.1)]) (fun g wl=>Hd O w wl S [.own Rp.str g.2.2.2 9 g.2.1,f1 Rp.str v1 h.Phases,f1 gX k h.Moves,f1 fB j h.Rules,.blk A [v1,k,j] 26]∧fV Y g.1 (g.2.1,g.2.2.1)=some p) (fun g=>g.1) (B,[],0,.slice none 0 0) (zJ rfl (zJ rfl zK)) ⟨H.pick [4,0,1,2,3],c⟩ ?_
  clear H c
  rintro ⟨B,b5,q,C⟩ ρ b6 ⟨H,c⟩
  obtain ⟨aa,rfl,c⟩:=yZ c
  have c:=yY Z c
  refine zB fun b7 ab=>zA ?_
  obtain ⟨ac,ad,c⟩:=zD c
  refine zG (zL (xP (a:=q) (b:=U) rfl rfl) ad)<| RN ab<| zB fun b8 ae=>zY (b:=ac) rfl (fun s=>?_) (fun s=>?_)
  ·have c:=zO s c
   refine zX (zF (ae _ _ ?_))
   refine zB fun b9 af=>?_
   refine yD ?_
   refine zB fun ca ag=>zA ?_
   obtain ⟨d,t,c⟩:=zC c
   obtain ⟨ah,ai,cb,cc,aj,ak,al,am,an⟩:=dI (H.item (i:=2) rfl) t
   obtain ⟨l,rfl,ao⟩:=uU ak
   have H:=H.fzs [.at ah (ai+q.toNat * 9) _,.sl fA l d.When.Kids] ⟨⟨al,am,an⟩,ao,trivial⟩
   refine zG (xC u23 vO aj rfl (yC t).1 (yC t).2.1 rfl rfl)<| zG (yJ (yF (cs:=[sb d.From,sb d.To,i6 d.When.Kind,sb d.When.Name,sb d.When.Other,i6 d.When.Op,i6 d.When.N,i6 d.When.Frames,l]) aJs rfl vO rfl (H.item (i:=5) rfl).2.2) rfl)<| yQ rfl rfl (xA aJi H) ?_
   rintro _ cd ⟨ce,rfl,H⟩
   refine yP rfl (yL (vs:=[sb d.From,sb d.To,i6 d.When.Kind,sb d.When.Name,sb d.When.Other,i6 d.When.Op,i6 d.When.N,i6 d.When.Frames,l]) H 7 rfl vO rfl rfl rfl ⟨rfl,rfl,rfl,rfl,rfl,rfl,rfl,rfl,(xY (H.item (i:=6) rfl)),trivial⟩ rfl) ?_
   rintro cf H
   refine RN ag<| zA<| zH C<| zG (aDb rfl)<| zG (yJ (yF (cs:=[i6 d.When.Kind,sb d.When.Name,sb d.When.Other,i6 d.When.Op,i6 d.When.N,i6 d.When.Frames,l]) eG rfl fZ rfl (Cells.drop (Hbc H 7 rfl) 2 7)) rfl) ?_
   obtain ⟨cg,ap,c⟩:=zC c
   refine zZ rfl rfl (zS en152 rfl) (Fbjw d.When l _ ap _ _ _ (H.enter [] [6])) ?_
   rintro _ ch ⟨ci,rfl,aq⟩
   have H:=H.back1 [6] rfl aq
   refine ⟨_,rfl,?_⟩
   obtain ⟨ar,au,c⟩:=zC c
   refine yQ rfl rfl (aJ H (i:=0) rfl u22 el9 rfl rfl (Sr.of_own (H.item (i:=8) rfl)) au) ?_
   rintro D cj H
   refine zI D<| (yA (yH (zF (af _ _ ?_))))
   refine zA ?_
   obtain ⟨F,av,c⟩:=zD c
   refine zG (xM (a:=q) (b:=1) rfl rfl av)<| zH (i6 F) ?_
   exact (yA (zF (meet ⟨(aa,ar,F,D),(zJ rfl (zJ rfl zK)),⟨H.pick [0,1,2,3,4],c⟩,Nat.lt_succ_self _⟩)))
  have c:=zQ s c
  obtain rfl:=gI c
  exact (xI (yI (yI (yV (zF (meet ⟨C,(zJ rfl zK),H.pick [0,1,2,3,4]⟩))))))
 rintro aw ρ ck H
 have c:=R
 obtain ⟨u,c,ax⟩:=zC c
 refine yK [3,7,21,22,23,24,25,26,27,28,29,30,31,32,33] (fun (g:Value)=>[(3,g)]) (fun g wl=>Hd O w wl S [.own Rp.str g 9 u]) ?_ ?_
 ·skip
  refine zB fun cl ay=>zA<| zG (kY rfl)<| Ld rJ H 4 2 rfl rfl ?_
  obtain ⟨az,a0,c⟩:=zD c
  obtain ⟨cm,cn,a1⟩:=SlF.len ((H.item (i:=3) rfl))
  refine zG (yJ (xO u24 a1) (congrArg (Value.int .i64) a0))<| zH (i6 0)<| RN ay<| yD ?_
  unfold Fcy at c
  obtain ⟨a2,G,a3,c⟩:=yT c
  refine xB [3,7,24,25,26,27,28,29,30,31,32,33] (fun (g:Nat×(List Str)×Int×Value)=>[(3,g.2.2.2),(24,i6 g.2.2.1)]) (fun g wl=>Hd O w wl S [.own Rp.str g.2.2.2 9 g.2.1,f1 fB j h.Rules]∧fV a2 g.1 (g.2.1,g.2.2.1)=some u) (fun g=>g.1) (G,p,0,aw) (zJ rfl (zJ rfl zK)) ⟨H.pick [0,3],c⟩ ?_
  clear H c
  rintro ⟨G,co,v,I⟩ ρ cp ⟨H,c⟩
  obtain ⟨a4,rfl,c⟩:=yZ c
  have c:=yY a3 c
  refine zB fun cq a5=>zA ?_
  obtain ⟨a6,a7,c⟩:=zD c
  refine zG (zL (xP (a:=v) (b:=az) rfl rfl) a7)<| RN a5<| zB fun cr a8=>zY (b:=a6) rfl (fun x=>?_) (fun x=>?_)
  ·have c:=zO x c
   refine zX (zF (a8 _ _ ?_))
   refine zB fun ct a9=>?_
   refine yD ?_
   refine zB fun cu ba=>zA ?_
   obtain ⟨f,y,c⟩:=zC c
   obtain ⟨bb,bc,cv,cw,bd,be,bf,bg,bh⟩:=dI (H.item (i:=1) rfl) y
   obtain ⟨m,rfl,bi⟩:=jE be
   have H:=H.fzs [.at bb (bc+v.toNat * 8) _,.sl fA m f.When.Kids] ⟨⟨bf,bg,bh⟩,bi,trivial⟩
   refine zG (xC u24 rZ bd rfl (yC y).1 (yC y).2.1 rfl rfl)<| zG (yJ (yF (cs:=[sb f.Name,i6 f.When.Kind,sb f.When.Name,sb f.When.Other,i6 f.When.Op,i6 f.When.N,i6 f.When.Frames,m]) aHe rfl rZ rfl (H.item (i:=2) rfl).2.2) rfl)<| yQ rfl rfl (xA aFb H) ?_
   rintro _ cx ⟨cy,rfl,H⟩
   refine yP rfl (yL (vs:=[sb f.Name,i6 f.When.Kind,sb f.When.Name,sb f.When.Other,i6 f.When.Op,i6 f.When.N,i6 f.When.Frames,m]) H 4 rfl rZ rfl rfl rfl ⟨rfl,rfl,rfl,rfl,rfl,rfl,rfl,(xY (H.item (i:=3) rfl)),trivial⟩ rfl) ?_
   rintro cz H
   refine RN ba<| zA<| zH I<| zG (vY rfl)<| zG (yJ (yF (cs:=[i6 f.When.Kind,sb f.When.Name,sb f.When.Other,i6 f.When.Op,i6 f.When.N,i6 f.When.Frames,m]) eG rfl fZ rfl (Cells.drop (Hbc H 4 rfl) 1 7)) rfl) ?_
   obtain ⟨c0,bj,c⟩:=zC c
   refine zZ rfl rfl (zS en152 rfl) (Fbjw f.When m _ bj _ _ _ (H.enter [] [3])) ?_
   rintro _ c1 ⟨c2,rfl,bk⟩
   have H:=H.back1 [3] rfl bk
   refine ⟨_,rfl,?_⟩
   obtain ⟨bl,bm,c⟩:=zC c
   refine yQ rfl rfl (aJ H (i:=0) rfl u22 el9 rfl rfl (Sr.of_own (H.item (i:=5) rfl)) bm) ?_
   rintro J c3 H
   refine zI J<| (yA (yH (zF (a9 _ _ ?_))))
   refine zA ?_
   obtain ⟨K,bn,c⟩:=zD c
   refine zG (xM (a:=v) (b:=1) rfl rfl bn)<| zH (i6 K) ?_
   exact (yA (zF (meet ⟨(a4,bl,K,J),(zJ rfl (zJ rfl zK)),⟨H.pick [0,1],c⟩,Nat.lt_succ_self _⟩)))
  have c:=zQ x c
  obtain rfl:=gI c
  exact (xI (yI (yI (yV (zF (meet ⟨I,(zJ rfl zK),H.pick [0]⟩))))))
 rintro n ρ c4 H
 have c:=ax
 refine zB fun c5 bo=>zA<| zH n ?_
 obtain ⟨L,bp,c⟩:=zC c
 refine zZ rfl rfl (zS en153 rfl) (E.Fdtw u n _ bp _ _ _ (H.enter [0] [])) ?_
 rintro _ bq ⟨rfl,br⟩
 have H:Hd _ _ bq _ [.own Rp.str n 9 L]:=H.back [0] [] rfl br
 refine ⟨_,rfl,?_⟩
 refine RN bo<| zB fun c6 bt=>zA<| zH n ?_
 obtain ⟨bu,bv,c⟩:=zC c
 refine zZ rfl rfl (zS en155 rfl) (E.Fc8w L n _ bv _ _ _ (H.enter [0] [])) ?_
 rintro _ bw ⟨o,rfl,bx⟩
 have H:Hd _ _ bw _ [.own Rp.str o 9 bu]:=H.back [0] [] rfl bx
 refine ⟨_,rfl,?_⟩
 refine zI o<| RN bt ?_
 obtain rfl:=gI c
 refine (zW (fC (v1:=o) rfl rfl ?_))
 exact ⟨o,rfl,H.pick [0]⟩
theorem Fd6w (a:fH)(b:Str)(v1:Value)(d:Nat)(r:Bool)(c:Fd6 a b=some r)(O S:List Nat)(w:World)(H:Hd O w w S [.blk d [sb b] 9,f1 eU v1 a.Series.Samples]):
  Cl 135 [.agg [sb a.Name,i6 a.Series.Den,v1,i6 a.Long].toArray,gV d] w fun e h=>e= .returned (.bool r)∧Hd O w h S [.blk d [sb b] 9]:=by
 unfold Fd6 at c
 refine CW 8 Tryz.func135 ?_
 refine zB fun l i=>zA<| yQ rfl rfl (xR (cs:=[sb a.Name,i6 a.Series.Den,v1,i6 a.Long]) rfl H) ?_
 rintro _ m ⟨n,rfl,H⟩
 refine zI (.bool false)<| RN i<| zB fun o j=>zA<| zG (aFo rfl)<| Ld bF H 2 0 rfl rfl<| Ld bF H 0 0 rfl rfl ?_
 obtain ⟨f,k,c⟩:=zD c
 refine zG (zL (wB (s1:=a.Name) (s2:=b) rfl rfl) k)<| zI (.bool f)<| RN j ?_
 obtain rfl:=gI c
 refine (zW (fC (v1:= .bool f) rfl rfl ?_))
 exact ⟨rfl,H.pick [0]⟩
theorem Fb2w (k:List fH)(p1c0:Str)(v1:Value)(h:Nat)(r:Int)(c:Fb2 k p1c0=some r)(O S:List Nat)(w:World)(H:Hd O w w S [.blk h [sb p1c0] 9,f1 eF v1 k]):
  Cl 189 [v1,.func (.func 135) #[] #[gV h]] w fun e t=>e= .returned (i6 r)∧Hd O w t S [.blk h [sb p1c0] 9]:=by
 unfold Fb2 at c
 refine CW 19 Tryz.func189 ?_
 refine zB fun K5 u=>zA<| zI (i6 0)<| RN u ?_
 obtain ⟨v,x,c⟩:=wI c
 refine yK [4,5,6,7,8,9,10,11,12,13,14,15,16,17,18] (fun (g:Unit)=>[]) (fun g wl=>Hd O w wl S [.blk h [sb p1c0] 9]∧v ()=some r) ?_ ?_
 ·skip
  refine zB fun ae y=>zA<| zH v1 ?_
  obtain ⟨z,A,c⟩:=zD c
  obtain ⟨af,ag,B⟩:=SlF.len ((H.item (i:=1) rfl))
  refine zG (yJ (xO u27 B) (congrArg (Value.int .i64) A))<| zH (i6 0)<| RN y<| yD ?_
  unfold Feq at c
  obtain ⟨C,o,D,c⟩:=yT c
  refine xB [4,5,8,9,10,11,12,13,14,15,16,17,18] (fun (g:Nat×Int)=>[(8,i6 g.2)]) (fun g wl=>Hd O w wl S [.blk h [sb p1c0] 9,f1 eF v1 k]∧fV C g.1 g.2=some r) (fun g=>g.1) (o,0) (zJ rfl zK) ⟨H.pick [0,1],c⟩ ?_
  clear H c
  rintro ⟨o,d⟩ ρ ah ⟨H,c⟩
  obtain ⟨E,rfl,c⟩:=yZ c
  have c:=yY D c
  refine zB fun ai F=>zA ?_
  obtain ⟨G,I,c⟩:=zD c
  refine zG (zL (xP (a:=d) (b:=z) rfl rfl) I)<| RN F<| zB fun aj J=>zY (b:=G) rfl (fun l=>?_) (fun l=>?_)
  ·have c:=zO l c
   refine zX (zF (J _ _ ?_))
   refine zB fun ak K=>?_
   refine yD ?_
   refine zB fun al L=>zA<| zH (i6 d)<| zI (i6 d)<| RN L<| zB fun am M=>zA<| zH (.func (.func 135) #[] #[gV h])<| zH v1<| zH (i6 d) ?_
   obtain ⟨f,m,c⟩:=zC c
   obtain ⟨p,q,an,ao,N,P,Q,R,T⟩:=dI (H.item (i:=1) rfl) m
   obtain ⟨j,rfl,U⟩:=mZ P
   have H:=H.fzs [.at p (q+d.toNat * 4) _,.sl eU j f.Series.Samples] ⟨⟨Q,R,T⟩,U,trivial⟩
   refine zG (xC u27 aAd N rfl (yC m).1 (yC m).2.1 rfl rfl)<| zG (yJ (yF (cs:=[sb f.Name,i6 f.Series.Den,j,i6 f.Long]) aLx rfl aAd rfl (H.item (i:=2) rfl).2.2) rfl) ?_
   obtain ⟨V,X,c⟩:=zC c
   refine zZ rfl rfl (bQ en135 rfl rfl) (Fd6w f p1c0 j h _ X _ _ _ (H.enter [0] [3])) ?_
   rintro _ Y ⟨rfl,Z⟩
   have H:Hd _ _ Y _ [f1 eF v1 k,.fz (.at p (q+d.toNat * 4) [sb f.Name,i6 f.Series.Den,j,i6 f.Long]),f1 eU j f.Series.Samples,.blk h [sb p1c0] 9]:=H.back [0] [3] rfl Z
   refine ⟨_,rfl,?_⟩
   refine RN M<| zY (b:=V) rfl (fun n=>?_) (fun n=>?_)
   ·have c:=zO n c
    refine zB fun ap aa=>zA<| zH (i6 d)<| zI (i6 d)<| RN aa ?_
    obtain rfl:=gI c
    refine (zW (yE (zV (zV (yE (zV (fC (v1:=i6 d) rfl rfl ?_)))))))
    exact ⟨rfl,H.pick [3]⟩
   have c:=zQ n c
   refine (zX (yH (zF (K _ _ ?_))))
   refine zA ?_
   obtain ⟨s,ab,c⟩:=zD c
   refine zG (xM (a:=d) (b:=1) rfl rfl ab)<| zH (i6 s) ?_
   exact (yA (zF (meet ⟨(E,s),(zJ rfl zK),⟨H.pick [3,0],c⟩,Nat.lt_succ_self _⟩)))
  have c:=zQ l c
  exact (xI (yI (yI (yV (zF (meet ⟨(),zK,⟨H.pick [0],c⟩⟩))))))
 rintro _ ρ aq ⟨H,c⟩
 have c:=dF x c
 refine zB fun ar ac=>zA<| zI (i6 (-1))<| RN ac ?_
 obtain rfl:=gI c
 refine (zW (fC (v1:=i6 (-1)) rfl rfl ?_))
 exact ⟨rfl,H.pick [0]⟩
theorem Fb0w (f:List fH)(p1c0:Str)(v1:Value)(c:Nat)(r:Bool)(d:Fb0 f p1c0=some r)(O S:List Nat)(w:World)(H:Hd O w w S [.blk c [sb p1c0] 9,f1 eF v1 f]):
  Cl 134 [v1,.func (.func 135) #[] #[gV c]] w fun e i=>e= .returned (.bool r)∧Hd O w i S [.blk c [sb p1c0] 9]:=by
 unfold Fb0 at d
 refine CW 9 Tryz.func134 ?_
 refine zB fun q j=>zA<| zI (.bool false)<| RN j<| zB fun s k=>zA<| zH v1<| zH (.func (.func 135) #[] #[gV c]) ?_
 obtain ⟨l,m,d⟩:=zC d
 refine zZ rfl rfl (zS en189 rfl) (Fb2w f p1c0 v1 c _ m _ _ _ (H.enter [0] [1])) ?_
 rintro _ n ⟨rfl,o⟩
 have H:Hd _ _ n _ [f1 eF v1 f,.blk c [sb p1c0] 9]:=H.back [0] [1] rfl o
 refine ⟨_,rfl,?_⟩
 obtain ⟨h,p,d⟩:=zD d
 refine zG (zL (kZ (a:=l) (b:=0) rfl rfl) p)<| zI (.bool h)<| RN k ?_
 obtain rfl:=gI d
 refine (zW (fC (v1:= .bool h) rfl rfl ?_))
 exact ⟨rfl,H.pick [1]⟩
set_option maxRecDepth 100000 in
theorem Fb3w (j:Rules)(k:List fH)(v1:Value)(f:Value)(h:Value)(d:Value)(r:Int)(c:Fb3 j k=some r)(O S:List Nat)(w:World)(H:Hd O w w S [f1 Rp.str v1 j.Phases,f1 gX f j.Moves,f1 fB h j.Rules,f1 eF d k]):
  Cl 73 [.agg [v1,f,h].toArray,d] w fun e D=>e= .returned (i6 r)∧Hd O w D S []:=by
 unfold Fb3 at c
 refine CW 31 Tryz.func73 ?_
 refine zB fun K9 E=>zA<| yQ rfl rfl (xR (cs:=[v1,f,h]) rfl H) ?_
 rintro _ a9 ⟨ba,rfl,H⟩
 refine zI (i6 0)<| RN E<| zB fun bb F=>zB fun bc G=>zA<| zG (yJ (yF (cs:=[v1,f,h]) qM rfl uV rfl (Hbc H 4 rfl)) rfl) ?_
 have I:=H
 obtain ⟨l,J,c⟩:=zC c
 refine zZ rfl rfl (zS en31 rfl) (Fa6w j v1 f h _ J _ _ _ (H.enter [] [0,1,2])) ?_
 rintro _ bd ⟨rfl,K⟩
 have H:=I.step (K.only:Only [] _ _)
 refine ⟨_,rfl,?_⟩
 refine zI (i6 l)<| RN G<| zB fun be L=>zA<| zH (i6 l) ?_
 obtain ⟨M,N,c⟩:=zD c
 refine zG (zL (dC (a:=l) (b:=0) rfl rfl) N)<| RN L<| zY (b:=M) rfl (fun o=>?_) (fun o=>?_)
 ·have c:=zO o c
  refine zB fun bf P=>zA<| zH (i6 l)<| zI (i6 l)<| RN P ?_
  obtain rfl:=gI c
  refine (zW (zV (fC (v1:=i6 l) rfl rfl ?_)))
  exact ⟨rfl,H.pick []⟩
 have c:=zQ o c
 refine zX (zF (F _ _ ?_))
 refine zB fun bg Q=>?_
 refine zB fun bh R=>zA<| zH d ?_
 have T:=H
 obtain ⟨m,U,c⟩:=zC c
 refine zZ rfl rfl (zS en75 rfl) (Fb7w k d _ U _ _ _ (H.enter [] [3])) ?_
 rintro _ bi ⟨rfl,V⟩
 have H:=T.step (V.only:Only [] _ _)
 refine ⟨_,rfl,?_⟩
 refine zI (i6 m)<| RN R<| zB fun bj X=>zA<| zH (i6 m) ?_
 obtain ⟨Y,Z,c⟩:=zD c
 refine zG (zL (dC (a:=m) (b:=0) rfl rfl) Z)<| RN X<| zY (b:=Y) rfl (fun q=>?_) (fun q=>?_)
 ·have c:=zO q c
  refine zB fun bk aa=>zA<| zH (i6 m)<| zI (i6 m)<| RN aa ?_
  obtain rfl:=gI c
  refine (zW (zV (fC (v1:=i6 m) rfl rfl ?_)))
  exact ⟨rfl,H.pick []⟩
 have c:=zQ q c
 refine zX (zF (Q _ _ ?_))
 obtain ⟨ab,ac,c⟩:=wI c
 refine yK [4,8,19,20,21,22,23,24,25,26,27,28,29,30] (fun (g:Unit)=>[]) (fun g wl=>Hd O w wl S []∧ab ()=some r) ?_ ?_
 ·skip
  refine zB fun bl ad=>zA<| zG (yJ (yF (cs:=[v1,f,h]) qM rfl uV rfl (Hbc H 4 rfl)) rfl) ?_
  obtain ⟨x,ae,c⟩:=zC c
  refine zZ rfl rfl (zS en95 rfl) (Fbhw j v1 f h _ ae _ _ _ (H.enter [] [0,1,2])) ?_
  rintro _ bm ⟨y,rfl,af⟩
  have H:=H.back1 [0,1,2] rfl af
  refine ⟨_,rfl,?_⟩
  obtain ⟨ag,ah,c⟩:=zD c
  obtain ⟨bn,bo,ai⟩:=Sr.len (Sr.of_own (H.item (i:=5) rfl))
  refine zG (yJ (xO u22 ai) (congrArg (Value.int .i64) ah))<| zH (i6 0)<| RN ad<| yD ?_
  unfold Ffd at c
  obtain ⟨aj,z,ak,c⟩:=yT c
  refine xB [4,8,22,23,24,25,26,27,28,29,30] (fun (g:Nat×Int)=>[(22,i6 g.2)]) (fun g wl=>Hd O w wl S [f1 eF d k,.own Rp.str y 9 x]∧fV aj g.1 g.2=some r) (fun g=>g.1) (z,0) (zJ rfl zK) ⟨H.pick [3,5],c⟩ ?_
  clear H c
  rintro ⟨z,A⟩ ρ bp ⟨H,c⟩
  obtain ⟨al,rfl,c⟩:=yZ c
  have c:=yY ak c
  refine zB fun bq am=>zA ?_
  obtain ⟨an,ao,c⟩:=zD c
  refine zG (zL (xP (a:=A) (b:=ag) rfl rfl) ao)<| RN am<| zB fun br ap=>zY (b:=an) rfl (fun s=>?_) (fun s=>?_)
  ·have c:=zO s c
   refine zX (zF (ap _ _ ?_))
   refine zB fun bt aq=>?_
   refine yD ?_
   refine zB fun bu ar=>zA ?_
   obtain ⟨n,t,c⟩:=zC c
   obtain ⟨bv,bw,au,av,aw,ax⟩:=jD (H.item (i:=1) rfl) t
   obtain rfl:au= [sb n]:=aw
   refine zG (xC u22 sz9 av rfl (yC t).1 (yC t).2.1 rfl rfl)<| zG (xG bF rfl (Cells.get ax (i:=0) rfl))<| yQ rfl rfl (xA zero9 H) ?_
   rintro _ bx ⟨B,rfl,H⟩
   refine yP rfl (xE H 2 rfl sz9 rfl (v:=sb n) rfl rfl rfl) ?_
   rintro bz H
   refine RN ar<| zB fun b0 ay=>zA<| zH d<| zG (dV rfl) ?_
   obtain ⟨az,a0,c⟩:=zC c
   refine zZ rfl rfl (zS en134 rfl) (Fb0w k n d B _ a0 _ _ _ (H.enter [2] [0])) ?_
   rintro _ a1 ⟨rfl,a2⟩
   have H:Hd _ _ a1 _ [f1 eF d k,.own Rp.str y 9 x,.blk B [sb n] 9]:=H.back [2] [0] rfl a2
   refine ⟨_,rfl,?_⟩
   obtain ⟨a3,a4,c⟩:=zD c
   refine zG (zL (wH (p:=az) rfl) a4)<| RN ay<| zY (b:=a3) rfl (fun u=>?_) (fun u=>?_)
   ·have c:=zO u c
    refine zB fun b1 a5=>zA<| zI (i6 4)<| RN a5 ?_
    obtain rfl:=gI c
    refine (zW (yE (zV (zV (yE (zV (fC (v1:=i6 4) rfl rfl ?_)))))))
    exact ⟨rfl,H.pick []⟩
   have c:=zQ u c
   refine (zX (yH (zF (aq _ _ ?_))))
   refine zA ?_
   obtain ⟨C,a6,c⟩:=zD c
   refine zG (xM (a:=A) (b:=1) rfl rfl a6)<| zH (i6 C) ?_
   exact (yA (zF (meet ⟨(al,C),(zJ rfl zK),⟨H.pick [0,1],c⟩,Nat.lt_succ_self _⟩)))
  have c:=zQ s c
  exact (xI (yI (yI (yV (zF (meet ⟨(),zK,⟨H.pick [],c⟩⟩))))))
 rintro _ ρ b2 ⟨H,c⟩
 have c:=dF ac c
 refine zB fun b3 a7=>zA<| zI (i6 0)<| RN a7 ?_
 obtain rfl:=gI c
 refine (zW (fC (v1:=i6 0) rfl rfl ?_))
 exact ⟨rfl,H.pick []⟩
theorem Fcmw (f:List Str)(v1:Value)(r:(List Str))(a:Fcm f=some r)(O S:List Nat)(w:World)(H:Hd O w w S [f1 Rp.str v1 f]):
  Cl 100 [v1] w fun e h=> ∃u3,e= .returned (u3)∧Hd O w h S [.own Rp.str u3 9 r]:=by
 unfold Fcm at a
 refine CW 8 Tryz.func100 ?_
 refine zB fun u j=>zA<| zI (.slice none 0 0)<| RN j<| zB fun v k=>zB fun x l=>zA<| zH v1 ?_
 obtain ⟨y,z,m,n⟩:=slf_nilq (H.item (i:=0) rfl)
 obtain ⟨o,p,a⟩:=nilO_some a n
 refine zG (yJ (aPl u22 m rfl) (congrArg Value.bool p))<| RN l<| zY (b:=o) rfl (fun c=>?_) (fun c=>?_)
 ·have a:=zO c a
  refine zB fun A q=>zA<| zI (.slice none 0 0)<| RN q ?_
  have H:=bY H Rp.str 9
  obtain rfl:=gI a
  refine (zW (zV (fC (v1:= .slice none 0 0) rfl rfl ?_)))
  exact ⟨.slice none 0 0,rfl,H.pick [1]⟩
 have a:=zQ c a
 refine zX (zF (k _ _ ?_))
 refine zB fun B s=>zA<| yQ rfl rfl (Lx_bs0 (r:=Rp.str) u22 el9 H) ?_
 rintro C D H
 refine zH v1 ?_
 obtain ⟨E,t,a⟩:=zC a
 refine yQ rfl rfl (aJ H (i:=1) rfl u22 el9 rfl rfl (Sr.of_rd (H.item (i:=0) rfl)) t) ?_
 rintro d F H
 refine zI d<| RN s ?_
 obtain rfl:=gI a
 refine (zW (fC (v1:=d) rfl rfl ?_))
 exact ⟨d,rfl,H.pick [1]⟩
abbrev Fdv (f:fU→Cond→Option Nd):Prop:= ∀(p0:fU) (p1:Cond) (b1:Nat) (b2:Nat) (v3:Value) (v4:Value) (b5:Nat) (v11:Value) (r:Nd) (_:f p0 p1=some r) (O S:List Nat) (w:World) (_:Hd O w w S [.mp b2 (gZ Ky.str (fun v=>Value.int .i64 v) p0.tracks),.own (Rp.int .i64) v3 3 p0.dens,.mp b5 (gZ Ky.str (fun v=>Value.int .i64 v) p0.rules),.blk b1 [.map (some b2),v3,v4,.map (some b5)] 215,f1 Rp.str v4 p0.phases,f1 fA v11 p1.Kids]),
  Cl 137 [gV b1,.agg [i6 p1.Kind,sb p1.Name,sb p1.Other,i6 p1.Op,i6 p1.N,i6 p1.Frames,v11].toArray] w fun e w'=> ∃u13 u14,e= .returned (u13)∧Hd O w w' S [.tr fG [u13] u14 r,.mp b2 (gZ Ky.str (fun v=>Value.int .i64 v) p0.tracks),.own (Rp.int .i64) v3 3 p0.dens,.mp b5 (gZ Ky.str (fun v=>Value.int .i64 v) p0.rules),.blk b1 [.map (some b2),v3,v4,.map (some b5)] 215]
theorem Fa8w (rfH:fU→Cond→Option Nd)(rhH:Fdv rfH)(f:fU)(p:List Cond)(n:Nat)(h:Nat)(j:Value)(l:Value)(k:Nat)(o:Value)(r:(List Nd))(d:Fa8 rfH f p=some r)(O S:List Nat)(w:World)(H:Hd O w w S [.mp h (gZ Ky.str (fun v=>Value.int .i64 v) f.tracks),.own (Rp.int .i64) j 3 f.dens,.mp k (gZ Ky.str (fun v=>Value.int .i64 v) f.rules),.blk n [.map (some h),j,l,.map (some k)] 215,f1 Rp.str l f.phases,f1 fA o p]):
  Cl 190 [gV n,o] w fun e M=> ∃D P,e= .returned (D)∧Hd O w M S [.tr fO [D] P r,.mp h (gZ Ky.str (fun v=>Value.int .i64 v) f.tracks),.own (Rp.int .i64) j 3 f.dens,.mp k (gZ Ky.str (fun v=>Value.int .i64 v) f.rules),.blk n [.map (some h),j,l,.map (some k)] 215]:=by
 unfold Fa8 at d
 refine CW 22 Tryz.func190 ?_
 refine zB fun a1 Q=>zA<| zI (.slice none 0 0)<| RN Q<| zB fun a2 R=>zA<| zI (.slice none 0 0)<| RN R ?_
 obtain ⟨E,d,T⟩:=zC d
 refine yK [5,7,8,9,10,11,12,13,14,15,16,17,18,19,20] (fun (g:Value×(List Nat))=>[(5,g.1)]) (fun g wl=>Hd O w wl S [.tr fO [g.1] g.2 E,.mp h (gZ Ky.str (fun v=>Value.int .i64 v) f.tracks),.own (Rp.int .i64) j 3 f.dens,.mp k (gZ Ky.str (fun v=>Value.int .i64 v) f.rules),.blk n [.map (some h),j,l,.map (some k)] 215,f1 Rp.str l f.phases]) ?_ ?_
 ·skip
  refine zB fun a3 U=>zA<| zH o ?_
  obtain ⟨V,X,d⟩:=zD d
  obtain ⟨a4,a5,Y⟩:=SlF.len ((H.item (i:=5) rfl))
  refine zG (yJ (xO u68 Y) (congrArg (Value.int .i64) X))<| zH (i6 0)<| RN U<| yD ?_
  have H:=sG H fG 170
  unfold Fe5 at d
  obtain ⟨Z,F,aa,d⟩:=yT d
  refine xB [5,7,10,11,12,13,14,15,16,17,18,19,20] (fun (g:Nat×(List Nd)×Int×Value×(List Nat))=>[(5,g.2.2.2.1),(10,i6 g.2.2.1)]) (fun g wl=>Hd O w wl S [.tr fO [g.2.2.2.1] g.2.2.2.2 g.2.1,.mp h (gZ Ky.str (fun v=>Value.int .i64 v) f.tracks),.own (Rp.int .i64) j 3 f.dens,.mp k (gZ Ky.str (fun v=>Value.int .i64 v) f.rules),.blk n [.map (some h),j,l,.map (some k)] 215,f1 Rp.str l f.phases,f1 fA o p]∧fV Z g.1 (g.2.1,g.2.2.1)=some E) (fun g=>g.1) (F,[],0,.slice none 0 0,[]) (zJ rfl (zJ rfl zK)) ⟨H.pick [6,0,1,2,3,4,5],d⟩ ?_
  clear H d
  rintro ⟨F,G,q,s,y⟩ ρ a6 ⟨H,d⟩
  obtain ⟨ab,rfl,d⟩:=yZ d
  have d:=yY aa d
  refine zB fun a7 ac=>zA ?_
  obtain ⟨ad,ae,d⟩:=zD d
  refine zG (zL (xP (a:=q) (b:=V) rfl rfl) ae)<| RN ac<| zB fun a8 af=>zY (b:=ad) rfl (fun z=>?_) (fun z=>?_)
  ·have d:=zO z d
   refine zX (zF (af _ _ ?_))
   refine zB fun a9 ag=>?_
   refine yD ?_
   refine zB fun ba ah=>zA ?_
   obtain ⟨c,A,d⟩:=zC d
   obtain ⟨t,u,bb,bc,ai,aj,ak,al,am⟩:=dI (H.item (i:=6) rfl) A
   obtain ⟨m,rfl,an⟩:=cO aj
   have H:=H.fzs [.at t (u+q.toNat * 7) _,.sl fA m c.Kids] ⟨⟨ak,al,am⟩,an,trivial⟩
   refine zG (xC u68 fZ ai rfl (yC A).1 (yC A).2.1 rfl rfl)<| zG (yJ (yF (cs:=[i6 c.Kind,sb c.Name,sb c.Other,i6 c.Op,i6 c.N,i6 c.Frames,m]) eG rfl fZ rfl (H.item (i:=7) rfl).2.2) rfl)<| yQ rfl rfl (xA aB H) ?_
   rintro _ bd ⟨B,rfl,H⟩
   refine yP rfl (yL (vs:=[i6 c.Kind,sb c.Name,sb c.Other,i6 c.Op,i6 c.N,i6 c.Frames,m]) H 9 rfl fZ rfl rfl rfl ⟨rfl,rfl,rfl,rfl,rfl,rfl,(xY (H.item (i:=8) rfl)),trivial⟩ rfl) ?_
   rintro be H
   refine RN ah<| zA<| zH s<| zH (gV n)<| zG (yJ (yF (cs:=[i6 c.Kind,sb c.Name,sb c.Other,i6 c.Op,i6 c.N,i6 c.Frames,m]) eG rfl fZ rfl (Hbc H 9 rfl)) rfl) ?_
   obtain ⟨I,ao,d⟩:=zC d
   refine zZ rfl rfl (zS en137 rfl) (rhH (fU.mk f.tracks f.dens f.phases f.rules) c n h j l k m _ ao _ _ _ (H.enter [1,2,3,4] [5,8])) ?_
   rintro _ ap ⟨aq,ar,rfl,au⟩
   have H:Hd _ _ ap _ [.tr fO [s] y G,f1 Rp.str l f.phases,f1 fA o p,.fz (.at t (u+q.toNat * 7) [i6 c.Kind,sb c.Name,sb c.Other,i6 c.Op,i6 c.N,i6 c.Frames,m]),f1 fA m c.Kids,.blk B [i6 c.Kind,sb c.Name,sb c.Other,i6 c.Op,i6 c.N,i6 c.Frames,m] 70,.tr fG [aq] ar I,.mp h (gZ Ky.str (fun v=>Value.int .i64 v) f.tracks),.own (Rp.int .i64) j 3 f.dens,.mp k (gZ Ky.str (fun v=>Value.int .i64 v) f.rules),.blk n [.map (some h),j,l,.map (some k)] 215]:=H.back [1,2,3,4] [5,8] rfl au
   refine ⟨_,rfl,?_⟩
   refine yQ rfl rfl (aIm H 6 rfl vJ aMu (by decide) (by decide) (aGd rfl rfl ⟨(nI (H.item (i:=6) rfl)),trivial⟩)) ?_
   rintro av bf ⟨aw,H⟩
   have H:Hd _ _ _ _ [.tr fO [s] y G,f1 Rp.str l f.phases,f1 fA o p,.fz (.at t (u+q.toNat * 7) [i6 c.Kind,sb c.Name,sb c.Other,i6 c.Op,i6 c.N,i6 c.Frames,m]),f1 fA m c.Kids,.blk B [i6 c.Kind,sb c.Name,sb c.Other,i6 c.Op,i6 c.N,i6 c.Frames,m] 70,.mp h (gZ Ky.str (fun v=>Value.int .i64 v) f.tracks),.own (Rp.int .i64) j 3 f.dens,.mp k (gZ Ky.str (fun v=>Value.int .i64 v) f.rules),.blk n [.map (some h),j,l,.map (some k)] 215,.tr fO [av] aw [I]]:=H
   obtain ⟨J,ax,d⟩:=zC d
   refine yQ rfl rfl (aBi H 0 10 rfl rfl (by decide) vJ aMu rfl rfl ax) ?_
   rintro C bg ⟨K,H⟩
   have H:Hd _ _ _ _ [f1 Rp.str l f.phases,f1 fA o p,.fz (.at t (u+q.toNat * 7) [i6 c.Kind,sb c.Name,sb c.Other,i6 c.Op,i6 c.N,i6 c.Frames,m]),f1 fA m c.Kids,.blk B [i6 c.Kind,sb c.Name,sb c.Other,i6 c.Op,i6 c.N,i6 c.Frames,m] 70,.mp h (gZ Ky.str (fun v=>Value.int .i64 v) f.tracks),.own (Rp.int .i64) j 3 f.dens,.mp k (gZ Ky.str (fun v=>Value.int .i64 v) f.rules),.blk n [.map (some h),j,l,.map (some k)] 215,.tr fO [C] K J]:=H
   refine zI C<| (yA (yH (zF (ag _ _ ?_))))
   refine zA ?_
   obtain ⟨L,ay,d⟩:=zD d
   refine zG (xM (a:=q) (b:=1) rfl rfl ay)<| zH (i6 L) ?_
   exact (yA (zF (meet ⟨(ab,J,L,C,K),(zJ rfl (zJ rfl zK)),⟨H.pick [9,5,6,7,8,0,1],d⟩,Nat.lt_succ_self _⟩)))
  have d:=zQ z d
  obtain rfl:=gI d
  exact (xI (yI (yI (yV (zF (meet ⟨(s,y),(zJ rfl zK),H.pick [0,1,2,3,4,5]⟩))))))
 rintro ⟨x,az⟩ ρ bh H
 have d:=T
 refine zB fun bi a0=>zA<| zH x<| zI x<| RN a0 ?_
 obtain rfl:=gI d
 refine (zW (fC (v1:=x) rfl rfl ?_))
 exact ⟨x,az,rfl,H.pick [0,1,2,3,4]⟩
set_option maxRecDepth 100000 in
theorem Fcfw (rfH:fU→Cond→Option Nd)(rhH:Fdv rfH)(j:fU)(d:Cond)(u:Nat)(o:Nat)(p:Value)(q:Value)(s:Nat)(t:Value)(r:Nd)(h:Fcf rfH j d=some r)(O S:List Nat)(w:World)(H:Hd O w w S [.mp o (gZ Ky.str (fun v=>Value.int .i64 v) j.tracks),.own (Rp.int .i64) p 3 j.dens,.mp s (gZ Ky.str (fun v=>Value.int .i64 v) j.rules),.blk u [.map (some o),p,q,.map (some s)] 215,f1 Rp.str q j.phases,f1 fA t d.Kids]):
  Cl 137 [gV u,.agg [i6 d.Kind,sb d.Name,sb d.Other,i6 d.Op,i6 d.N,i6 d.Frames,t].toArray] w fun e x=> ∃be cg,e= .returned (be)∧Hd O w x S [.tr fG [be] cg r,.mp o (gZ Ky.str (fun v=>Value.int .i64 v) j.tracks),.own (Rp.int .i64) p 3 j.dens,.mp s (gZ Ky.str (fun v=>Value.int .i64 v) j.rules),.blk u [.map (some o),p,q,.map (some s)] 215]:=by
 unfold Fcf at h
 refine CW 180 Tryz.func137 ?_
 refine zB fun fm ch=>zA<| yQ rfl rfl (xR (cs:=[i6 d.Kind,sb d.Name,sb d.Other,i6 d.Op,i6 d.N,i6 d.Frames,t]) rfl H) ?_
 rintro _ fn ⟨z,rfl,H⟩
 refine zI .nilIface<| RN ch<| zB fun fo ci=>zA<| zH (gV u)<| zG (jJ rfl)<| Ld tJ H 6 6 rfl rfl ?_
 obtain ⟨A,cj,h⟩:=zC h
 refine zZ rfl rfl (zS en190 rfl) (Fa8w rfH rhH (fU.mk j.tracks j.dens j.phases j.rules) d.Kids u o p q s t _ cj _ _ _ (H.enter [0,1,2,3] [4,5])) ?_
 rintro _ ck ⟨y,am,rfl,cl⟩
 have H:Hd _ _ ck _ [f1 Rp.str q j.phases,f1 fA t d.Kids,.blk z [i6 d.Kind,sb d.Name,sb d.Other,i6 d.Op,i6 d.N,i6 d.Frames,t] 70,.tr fO [y] am A,.mp o (gZ Ky.str (fun v=>Value.int .i64 v) j.tracks),.own (Rp.int .i64) p 3 j.dens,.mp s (gZ Ky.str (fun v=>Value.int .i64 v) j.rules),.blk u [.map (some o),p,q,.map (some s)] 215]:=H.back [0,1,2,3] [4,5] rfl cl
 refine ⟨_,rfl,?_⟩
 refine zI y<| RN ci<| zB fun fp cm=>zB fun fq cn=>zA<| zG (jB rfl)<| Ld fM H 2 0 rfl rfl<| RN cn<| yD<| zB fun fr co=>zA ?_
 obtain ⟨bf,cp,h⟩:=zD h
 refine zG (zL (yR (a:=d.Kind) (b:=1) rfl rfl) cp)<| zI (.bool bf)<| RN co<| zY (b:=bf) rfl (fun an=>?_) (fun an=>?_)
 ·have h:=zO an h
  refine zB fun fs cq=>zA<| zG (xJ (cs:=[i6 2]) (aQx _)) ?_
  have H:=uI (truth:=2) H
  refine zG (jL (by kernel_rfl) rfl)<| zI (.iface 277 (.agg ([i6 2]:List Value).toArray))<| RN cq ?_
  obtain rfl:=gI h
  refine (zW (yE (zV (fC (v1:=(.iface 277 (.agg ([i6 2]:List Value).toArray))) rfl rfl ?_))))
  exact ⟨(.iface 277 (.agg ([i6 2]:List Value).toArray)),[],rfl,H.pick [8,4,5,6,7]⟩
 have h:=zQ an h
 refine zB fun ft cr=>zA ?_
 obtain ⟨bg,ct,h⟩:=zD h
 refine zG (zL (yR (a:=d.Kind) (b:=2) rfl rfl) ct)<| zI (.bool bg)<| RN cr<| zY (b:=bg) rfl (fun ao=>?_) (fun ao=>?_)
 ·have h:=zO ao h
  refine zB fun fu cu=>zA<| zG (xJ (cs:=[i6 1]) (aQx _)) ?_
  have H:=uI (truth:=1) H
  refine zG (jL (by kernel_rfl) rfl)<| zI (.iface 277 (.agg ([i6 1]:List Value).toArray))<| RN cu ?_
  obtain rfl:=gI h
  refine (zW (yE (zV (fC (v1:=(.iface 277 (.agg ([i6 1]:List Value).toArray))) rfl rfl ?_))))
  exact ⟨(.iface 277 (.agg ([i6 1]:List Value).toArray)),[],rfl,H.pick [8,4,5,6,7]⟩
 have h:=zQ ao h
 refine zB fun fv cv=>zA ?_
 obtain ⟨bh,cw,h⟩:=zD h
 refine zG (zL (yR (a:=d.Kind) (b:=3) rfl rfl) cw)<| zI (.bool bh)<| RN cv<| zY (b:=bh) rfl (fun ap=>?_) (fun ap=>?_)
 ·have h:=zO ap h
  refine zB fun fw cx=>?_
  have cy:=H
  have H:=H.rebase
  have fx:=H
  refine xU H [0,1,2,3,4,5,6,7,8,9,10,11,12,13] (kz [0,0,0,1,0,1,1,0,1,0,1,0,0,0]) mixed ?_
  refine XM (gV u)<| XP (fun _ _=>zN rfl)<| XP (fun _ _=>aAq rfl)<| XR wW H 7 0 rfl rfl<| XP (fun _ _=>nK rfl)<| XR bF H 2 1 rfl rfl ?_
  obtain ⟨Q,cz,h⟩:=zD h
  refine MxM.wJ oS rfl rfl rfl (fun x l=>yJ (nY (K:=Ky.str) (G:=(fun v=>Value.int .i64 v)) (m:=j.tracks) (k:=d.Name) (zv:=0) ((H.sees l).item (i:=4) rfl) aPe u9 rfl rfl (Tryz.zeroValue3 x)) (congrArg (fun v=>Value.int .i64 v) cz)) ?_
  refine XP (fun _ _=>rY rfl)<| XR fM H 2 3 rfl rfl<| XP (fun _ _=>pM rfl)<| XR fM H 2 4 rfl rfl<| XP (fun _ _=>xJ (cs:=[i6 Q,i6 d.Op,i6 d.N]) (aNp _ _ _)) ?_
  have H:=aKe (track:=Q) (op:=d.Op) (n:=d.N) H
  refine XP (fun _ _=>jL (by kernel_rfl) rfl)<| XP (fun _ _=>xN (v:=(.iface 279 (.agg ([i6 Q,i6 d.Op,i6 d.N]:List Value).toArray))) rfl)<| MxM.xK fun fy hS=>?_
  have H:=H.sees hS
  have H:=cy.rejoin H
  refine (zF (cx _ _ ?_))
  obtain rfl:=gI h
  refine (zW (yE (zV (fC (v1:=(.iface 279 (.agg ([i6 Q,i6 d.Op,i6 d.N]:List Value).toArray))) rfl rfl ?_))))
  exact ⟨(.iface 279 (.agg ([i6 Q,i6 d.Op,i6 d.N]:List Value).toArray)),[],rfl,H.pick [8,4,5,6,7]⟩
 have h:=zQ ap h
 refine zB fun f0 c0=>zA ?_
 obtain ⟨bi,c1,h⟩:=zD h
 refine zG (zL (yR (a:=d.Kind) (b:=4) rfl rfl) c1)<| zI (.bool bi)<| RN c0<| zY (b:=bi) rfl (fun aq=>?_) (fun aq=>?_)
 ·have h:=zO aq h
  refine zB fun f4 c2=>?_
  have c3:=H
  have H:=H.rebase
  have f5:=H
  refine xU H [0,1,2,3,4,5,6,7,8,9,10,11,12,13,14,15] (kz [0,0,0,1,0,1,1,0,0,0,1,0,1,1,0,0]) mixed ?_
  refine XM (gV u)<| XP (fun _ _=>zN rfl)<| XP (fun _ _=>aAq rfl)<| XR wW H 7 0 rfl rfl<| XP (fun _ _=>nK rfl)<| XR bF H 2 1 rfl rfl ?_
  obtain ⟨B,c4,h⟩:=zD h
  refine MxM.wJ oS rfl rfl rfl (fun x l=>yJ (nY (K:=Ky.str) (G:=(fun v=>Value.int .i64 v)) (m:=j.tracks) (k:=d.Name) (zv:=0) ((H.sees l).item (i:=4) rfl) aPe u9 rfl rfl (Tryz.zeroValue3 x)) (congrArg (fun v=>Value.int .i64 v) c4)) ?_
  refine XM (gV u)<| XP (fun _ _=>zN rfl)<| XP (fun _ _=>aAq rfl)<| XR wW H 7 0 rfl rfl<| XP (fun _ _=>aIt rfl)<| XR bF H 2 2 rfl rfl ?_
  obtain ⟨C,c5,h⟩:=zD h
  refine MxM.wJ oS rfl rfl rfl (fun x l=>yJ (nY (K:=Ky.str) (G:=(fun v=>Value.int .i64 v)) (m:=j.tracks) (k:=d.Other) (zv:=0) ((H.sees l).item (i:=4) rfl) aPe u9 rfl rfl (Tryz.zeroValue3 x)) (congrArg (fun v=>Value.int .i64 v) c5)) ?_
  refine XP (fun _ _=>xN (v:=i6 B) rfl)<| XP (fun _ _=>xN (v:=i6 C) rfl)<| MxM.xK fun f6 hS=>?_
  have H:=H.sees hS
  have H:=c3.rejoin H
  refine (zF (c2 _ _ ?_))
  refine zB fun f7 c6=>?_
  have c7:=H
  have H:=H.rebase
  have f8:=H
  refine xU H [0,1,2,3,4,5,6,7,8,9,10,11,12,13,14,15,16,17,18,19,20] (kz [0,0,0,0,0,1,0,0,1,0,0,0,1,0,0,1,0,1,0,0,0]) mixed ?_
  refine XM (i6 B)<| XM (i6 C)<| XM (gV u)<| XP (fun _ _=>zN rfl)<| XP (fun _ _=>aDk rfl)<| XR rO H 7 1 rfl rfl<| XM (i6 B) ?_
  obtain ⟨E,ar,h⟩:=zC h
  obtain ⟨f9,ga,c8,c9,da,db⟩:=jD (H.item (i:=5) rfl) ar
  obtain rfl:c8= [i6 E]:=da
  refine XP (fun _ _=>xC u38 sz3 c9 rfl (yC ar).1 (yC ar).2.1 rfl rfl)<| MxM.wJ oS rfl rfl rfl (fun x l=>xG fM rfl (Cells.get (db.sees l) (i:=0) rfl))<| XM (gV u)<| XP (fun _ _=>zN rfl)<| XP (fun _ _=>aDk rfl)<| XR rO H 7 1 rfl rfl<| XM (i6 C) ?_
  obtain ⟨F,au,h⟩:=zC h
  obtain ⟨gb,gc,dc,dd,de,df⟩:=jD (H.item (i:=5) rfl) au
  obtain rfl:dc= [i6 F]:=de
  refine XP (fun _ _=>xC u38 sz3 dd rfl (yC au).1 (yC au).2.1 rfl rfl)<| MxM.wJ oS rfl rfl rfl (fun x l=>xG fM rfl (Cells.get (df.sees l) (i:=0) rfl))<| XP (fun _ _=>rY rfl)<| XR fM H 2 3 rfl rfl<| XP (fun _ _=>xJ (cs:=[i6 B,i6 C,i6 E,i6 F,i6 d.Op]) (aCt _ _ _ _ _)) ?_
  have H:=aPn (a:=B) (b:=C) (denA:=E) (denB:=F) (op:=d.Op) H
  refine XP (fun _ _=>jL (by kernel_rfl) rfl)<| XP (fun _ _=>xN (v:=(.iface 281 (.agg ([i6 B,i6 C,i6 E,i6 F,i6 d.Op]:List Value).toArray))) rfl)<| MxM.xK fun gd hS=>?_
  have H:=H.sees hS
  have H:=c7.rejoin H
  refine (zF (c6 _ _ ?_))
  obtain rfl:=gI h
  refine (zW (yE (zV (fC (v1:=(.iface 281 (.agg ([i6 B,i6 C,i6 E,i6 F,i6 d.Op]:List Value).toArray))) rfl rfl ?_))))
  exact ⟨(.iface 281 (.agg ([i6 B,i6 C,i6 E,i6 F,i6 d.Op]:List Value).toArray)),[],rfl,H.pick [8,4,5,6,7]⟩
 have h:=zQ aq h
 refine zB fun ge dg=>zA ?_
 obtain ⟨bj,dh,h⟩:=zD h
 refine zG (zL (yR (a:=d.Kind) (b:=5) rfl rfl) dh)<| zI (.bool bj)<| RN dg<| zY (b:=bj) rfl (fun av=>?_) (fun av=>?_)
 ·have h:=zO av h
  refine zB fun gf di=>?_
  have dj:=H
  have H:=H.rebase
  have gg:=H
  refine xU H [0,1,2,3,4,5,6,7,8,9,10,11,12,13,14] (kz [0,0,0,1,0,1,1,0,1,0,1,0,2,0,0]) mixed ?_
  refine XM (gV u)<| XP (fun _ _=>zN rfl)<| XP (fun _ _=>aAq rfl)<| XR wW H 7 0 rfl rfl<| XP (fun _ _=>nK rfl)<| XR bF H 2 1 rfl rfl ?_
  obtain ⟨ad,dk,h⟩:=zD h
  refine MxM.wJ oS rfl rfl rfl (fun x l=>yJ (nY (K:=Ky.str) (G:=(fun v=>Value.int .i64 v)) (m:=j.tracks) (k:=d.Name) (zv:=0) ((H.sees l).item (i:=4) rfl) aPe u9 rfl rfl (Tryz.zeroValue3 x)) (congrArg (fun v=>Value.int .i64 v) dk)) ?_
  refine XP (fun _ _=>pM rfl)<| XR fM H 2 4 rfl rfl<| XP (fun _ _=>sQ rfl)<| XR fM H 2 5 rfl rfl<| XP (fun _ _=>xJ (cs:=[i6 ad,i6 d.N,i6 d.Frames,.slice none 0 0]) (aNt _ _ _))<| MxM.XL_exN oS rfl rfl rfl (fun x l=>pY (xR (cs:=[i6 ad,i6 d.N,i6 d.Frames,.slice none 0 0]) rfl (H.sees l)) (aCa (cs:=[i6 ad,i6 d.N,i6 d.Frames,.slice none 0 0]) rfl)) ?_
  rintro x _ gh l ⟨ae,rfl,H⟩
  have H:=sG H (Rt.of gY) 148
  obtain ⟨bk,H⟩:=aAu H 9 8 rfl rfl (by decide)
  have H:Hd _ _ _ _ [f1 Rp.str q j.phases,f1 fA t d.Kids,.blk z [i6 d.Kind,sb d.Name,sb d.Other,i6 d.Op,i6 d.N,i6 d.Frames,t] 70,.tr fO [y] am A,.mp o (gZ Ky.str (fun v=>Value.int .i64 v) j.tracks),.own (Rp.int .i64) p 3 j.dens,.mp s (gZ Ky.str (fun v=>Value.int .i64 v) j.rules),.blk u [.map (some o),p,q,.map (some s)] 215,.tr fG [(.iface 239 (gV ae))] bk (.steady ad d.N d.Frames []:Nd)]:=H
  refine XP (fun _ _=>jL (by kernel_rfl) rfl)<| XP (fun _ _=>xN (v:=(.iface 239 (gV ae))) rfl)<| MxM.xK fun gj hS=>?_
  have H:=H.sees hS
  have H:=dj.rejoin H
  refine (zF (di _ _ ?_))
  obtain rfl:=gI h
  refine (zW (yE (zV (fC (v1:=(.iface 239 (gV ae))) rfl rfl ?_))))
  exact ⟨(.iface 239 (gV ae)),bk,rfl,H.pick [8,4,5,6,7]⟩
 have h:=zQ av h
 refine zB fun gl dl=>zA ?_
 obtain ⟨bl,dm,h⟩:=zD h
 refine zG (zL (yR (a:=d.Kind) (b:=6) rfl rfl) dm)<| zI (.bool bl)<| RN dl<| zY (b:=bl) rfl (fun aw=>?_) (fun aw=>?_)
 ·have h:=zO aw h
  refine zB fun gm dn=>?_
  have dp:=H
  have H:=H.rebase
  have gn:=H
  refine xU H [0,1,2,3,4,5,6,7,8,9] (kz [0,0,0,1,0,1,1,0,0,0]) mixed ?_
  refine XM (gV u)<| XP (fun _ _=>zN rfl)<| XP (fun _ _=>fa215_2 rfl)<| XR jS H 7 2 rfl rfl<| XP (fun _ _=>nK rfl)<| XR bF H 2 1 rfl rfl ?_
  have dq:=H
  obtain ⟨I,dr,h⟩:=zC h
  refine MxM.XL_call oS rfl rfl rfl (v:=i6 I) (fun x l=>zS aMx rfl) (fun x l=>bU (Faew j.phases d.Name q _ dr _ _ _ ((H.sees l).enter [] [0]))) ?_
  have H:=dq
  refine XP (fun _ _=>xJ (cs:=[i6 I]) (bt283_0 _)) ?_
  have H:=aKr (phase:=I) H
  refine XP (fun _ _=>jL (by kernel_rfl) rfl)<| XP (fun _ _=>xN (v:=(.iface 283 (.agg ([i6 I]:List Value).toArray))) rfl)<| MxM.xK fun go hS=>?_
  have H:=H.sees hS
  have H:=dp.rejoin H
  refine (zF (dn _ _ ?_))
  obtain rfl:=gI h
  refine (zW (yE (zV (fC (v1:=(.iface 283 (.agg ([i6 I]:List Value).toArray))) rfl rfl ?_))))
  exact ⟨(.iface 283 (.agg ([i6 I]:List Value).toArray)),[],rfl,H.pick [8,4,5,6,7]⟩
 have h:=zQ aw h
 refine zB fun gp ds=>zA ?_
 obtain ⟨bm,dt,h⟩:=zD h
 refine zG (zL (yR (a:=d.Kind) (b:=7) rfl rfl) dt)<| zI (.bool bm)<| RN ds<| zY (b:=bm) rfl (fun ax=>?_) (fun ax=>?_)
 ·have h:=zO ax h
  refine zB fun gq du=>?_
  have dv:=H
  have H:=H.rebase
  have gr:=H
  refine xU H [0,1,2,3,4,5,6,7,8,9] (kz [0,0,0,1,0,1,1,0,0,0]) mixed ?_
  refine XM (gV u)<| XP (fun _ _=>zN rfl)<| XP (fun _ _=>aRh rfl)<| XR wW H 7 3 rfl rfl<| XP (fun _ _=>nK rfl)<| XR bF H 2 1 rfl rfl ?_
  obtain ⟨R,dw,h⟩:=zD h
  refine MxM.wJ oS rfl rfl rfl (fun x l=>yJ (nY (K:=Ky.str) (G:=(fun v=>Value.int .i64 v)) (m:=j.rules) (k:=d.Name) (zv:=0) ((H.sees l).item (i:=6) rfl) aPe u9 rfl rfl (Tryz.zeroValue3 x)) (congrArg (fun v=>Value.int .i64 v) dw)) ?_
  refine XP (fun _ _=>xJ (cs:=[i6 R]) (bt285_0 _)) ?_
  have H:=aOb (rule:=R) H
  refine XP (fun _ _=>jL (by kernel_rfl) rfl)<| XP (fun _ _=>xN (v:=(.iface 285 (.agg ([i6 R]:List Value).toArray))) rfl)<| MxM.xK fun gs hS=>?_
  have H:=H.sees hS
  have H:=dv.rejoin H
  refine (zF (du _ _ ?_))
  obtain rfl:=gI h
  refine (zW (yE (zV (fC (v1:=(.iface 285 (.agg ([i6 R]:List Value).toArray))) rfl rfl ?_))))
  exact ⟨(.iface 285 (.agg ([i6 R]:List Value).toArray)),[],rfl,H.pick [8,4,5,6,7]⟩
 have h:=zQ ax h
 refine zB fun gt dx=>zA ?_
 obtain ⟨bn,dy,h⟩:=zD h
 refine zG (zL (yR (a:=d.Kind) (b:=8) rfl rfl) dy)<| zI (.bool bn)<| RN dx<| zY (b:=bn) rfl (fun ay=>?_) (fun ay=>?_)
 ·have h:=zO ay h
  refine zB fun gu dz=>zA<| zH y ?_
  obtain ⟨bo,T,h⟩:=zC h
  obtain ⟨gv,gw,gx,az⟩:=jC (H.item (i:=3) rfl) T
  refine zG (xC vJ aAm az rfl (yC T).1 (yC T).2.1 rfl rfl) ?_
  obtain ⟨gy,bp,d0,H⟩:=H.focusV 3 rfl az T rfl
  obtain ⟨U,rfl⟩:=mX rfl (H.item (i:=8) rfl)
  have H:Hd _ _ _ _ [f1 Rp.str q j.phases,f1 fA t d.Kids,.blk z [i6 d.Kind,sb d.Name,sb d.Other,i6 d.Op,i6 d.N,i6 d.Frames,t] 70,.mp o (gZ Ky.str (fun v=>Value.int .i64 v) j.tracks),.own (Rp.int .i64) p 3 j.dens,.mp s (gZ Ky.str (fun v=>Value.int .i64 v) j.rules),.blk u [.map (some o),p,q,.map (some s)] 215,.tr (Rt.row fG 170 [((0:Int).toNat,[U])]) [y] bp A,.tr fG [U] d0 bo]:=H
  refine zG (xG kV rfl (Cells.get (H.holeW 7 rfl az T rfl dG) (i:=0) rfl)) ?_
  obtain ⟨d1,d2,d3⟩:=aCf (H.item (i:=8) rfl)
  refine zG (xJ (cs:=[U]) (by rw [d3]; exact bt248_0 d1 d2))<| yQ rfl rfl (xR (cs:=[U]) rfl H) ?_
  rintro _ gz ⟨af,rfl,H⟩
  obtain ⟨bq,H⟩:=aHj H 8 9 rfl rfl (by decide)
  have H:Hd _ _ _ _ [f1 Rp.str q j.phases,f1 fA t d.Kids,.blk z [i6 d.Kind,sb d.Name,sb d.Other,i6 d.Op,i6 d.N,i6 d.Frames,t] 70,.mp o (gZ Ky.str (fun v=>Value.int .i64 v) j.tracks),.own (Rp.int .i64) p 3 j.dens,.mp s (gZ Ky.str (fun v=>Value.int .i64 v) j.rules),.blk u [.map (some o),p,q,.map (some s)] 215,.tr (Rt.row fG 170 [((0:Int).toNat,[U])]) [y] bp A,.tr fG [(.iface 246 (gV af))] bq (.not bo:Nd)]:=H
  refine zG (jL (by kernel_rfl) rfl)<| zI (.iface 246 (gV af))<| RN dz ?_
  obtain rfl:=gI h
  refine (zW (yE (zV (fC (v1:=(.iface 246 (gV af))) rfl rfl ?_))))
  exact ⟨(.iface 246 (gV af)),bq,rfl,H.pick [8,3,4,5,6]⟩
 have h:=zQ ay h
 obtain ⟨br,h,d4⟩:=zC h
 refine yK [119,120,121] (fun (g:Unit)=>[(119,.bool br)]) (fun g wl=>Hd O w wl S [f1 Rp.str q j.phases,f1 fA t d.Kids,.blk z [i6 d.Kind,sb d.Name,sb d.Other,i6 d.Op,i6 d.N,i6 d.Frames,t] 70,.tr fO [y] am A,.mp o (gZ Ky.str (fun v=>Value.int .i64 v) j.tracks),.own (Rp.int .i64) p 3 j.dens,.mp s (gZ Ky.str (fun v=>Value.int .i64 v) j.rules),.blk u [.map (some o),p,q,.map (some s)] 215]) ?_ ?_
 ·skip
  refine zB fun g0 d5=>zA ?_
  obtain ⟨bt,d6,h⟩:=zD h
  refine zG (zL (yR (a:=d.Kind) (b:=9) rfl rfl) d6)<| zI (.bool bt)<| RN d5<| zY (b:=bt) rfl (fun a0=>?_) (fun a0=>?_)
  ·have h:=zO a0 h
   obtain rfl:=gI h
   exact (zX (zF (meet ⟨(),(zJ rfl zK),H.pick [0,1,2,3,4,5,6,7]⟩)))
  have h:=zQ a0 h
  refine zA ?_
  obtain ⟨d7,d8,h⟩:=zD h
  refine zG (zL (yR (a:=d.Kind) (b:=10) rfl rfl) d8)<| zI (.bool d7) ?_
  obtain rfl:=gI h
  exact (yA (zF (meet ⟨(),(zJ rfl zK),H.pick [0,1,2,3,4,5,6,7]⟩)))
 rintro _ ρ g1 H
 have h:=d4
 refine zY (b:=br) rfl (fun a1=>?_) (fun a1=>?_)
 ·have h:=zO a1 h
  refine zB fun g2 d9=>zA<| zH y<| zG (jB rfl)<| Ld fM H 2 0 rfl rfl ?_
  obtain ⟨a2,ea,h⟩:=zD h
  refine zG (zL (yR (a:=d.Kind) (b:=10) rfl rfl) ea) ?_
  obtain ⟨eb,ec,ed⟩: ∃a c,y= .slice a _ c:=nV ((H.item (i:=3) rfl))
  refine zG (xJ (cs:=[y,.bool a2]) (by rw [ed]; exact bt251_0_1 eb _ ec _))<| yQ rfl rfl (xR (cs:=[y,.bool a2]) rfl H) ?_
  rintro _ g3 ⟨ag,rfl,H⟩
  obtain ⟨bu,H⟩:=aCi H 3 8 rfl rfl (by decide)
  have H:Hd _ _ _ _ [f1 Rp.str q j.phases,f1 fA t d.Kids,.blk z [i6 d.Kind,sb d.Name,sb d.Other,i6 d.Op,i6 d.N,i6 d.Frames,t] 70,.mp o (gZ Ky.str (fun v=>Value.int .i64 v) j.tracks),.own (Rp.int .i64) p 3 j.dens,.mp s (gZ Ky.str (fun v=>Value.int .i64 v) j.rules),.blk u [.map (some o),p,q,.map (some s)] 215,.tr fG [(.iface 249 (gV ag))] bu (.group A a2:Nd)]:=H
  refine zG (jL (by kernel_rfl) rfl)<| zI (.iface 249 (gV ag))<| RN d9 ?_
  obtain rfl:=gI h
  refine (zW (yE (zV (fC (v1:=(.iface 249 (gV ag))) rfl rfl ?_))))
  exact ⟨(.iface 249 (gV ag)),bu,rfl,H.pick [7,3,4,5,6]⟩
 have h:=zQ a1 h
 refine zB fun g4 ee=>zA ?_
 obtain ⟨bv,ef,h⟩:=zD h
 refine zG (zL (yR (a:=d.Kind) (b:=11) rfl rfl) ef)<| zI (.bool bv)<| RN ee<| zY (b:=bv) rfl (fun a3=>?_) (fun a3=>?_)
 ·have h:=zO a3 h
  refine zB fun g5 eg=>?_
  have eh:=H
  have H:=H.rebase
  have g6:=H
  refine xU H [0,1,2,3,4,5,6,7,8,9,10] (kz [0,0,1,0,1,0,1,0,2,0,0]) mixed ?_
  refine XM y ?_
  obtain ⟨bw,V,h⟩:=zC h
  obtain ⟨g7,g8,g9,a4⟩:=jC (H.item (i:=3) rfl) V
  refine XP (fun _ _=>xC vJ aAm a4 rfl (yC V).1 (yC V).2.1 rfl rfl) ?_
  obtain ⟨ha,bx,ei,H⟩:=H.focusV 3 rfl a4 V rfl
  obtain ⟨J,rfl⟩:=mX rfl (H.item (i:=8) rfl)
  have H:Hd _ _ _ _ [f1 Rp.str q j.phases,f1 fA t d.Kids,.blk z [i6 d.Kind,sb d.Name,sb d.Other,i6 d.Op,i6 d.N,i6 d.Frames,t] 70,.mp o (gZ Ky.str (fun v=>Value.int .i64 v) j.tracks),.own (Rp.int .i64) p 3 j.dens,.mp s (gZ Ky.str (fun v=>Value.int .i64 v) j.rules),.blk u [.map (some o),p,q,.map (some s)] 215,.tr (Rt.row fG 170 [((0:Int).toNat,[J])]) [y] bx A,.tr fG [J] ei bw]:=H
  refine MxM.wJ oS rfl rfl rfl (fun x l=>xG kV rfl (Cells.get ((H.sees l).holeW 7 rfl a4 V rfl dG) (i:=0) rfl)) ?_
  refine XP (fun _ _=>sQ rfl)<| XR fM H 2 5 rfl rfl<| XP (fun _ _=>sQ rfl)<| XR fM H 2 5 rfl rfl ?_
  obtain ⟨ej,ek,el⟩:=aCf (H.item (i:=8) rfl)
  refine XP (fun _ _=>xJ (cs:=[J,i6 d.Frames,i6 d.Frames,.slice none 0 0]++((Fl.arr 3 (Fl.int .i64)).f (Arr.rep 3 0:Arr 3 Int))) (by rw [el]; exact uN ej ek _ _))<| MxM.XL_exN oS rfl rfl rfl (fun x l=>pY (xR (cs:=[J,i6 d.Frames,i6 d.Frames,.slice none 0 0]++((Fl.arr 3 (Fl.int .i64)).f (Arr.rep 3 0:Arr 3 Int))) rfl (H.sees l)) (aCa (cs:=[J,i6 d.Frames,i6 d.Frames,.slice none 0 0]++((Fl.arr 3 (Fl.int .i64)).f (Arr.rep 3 0:Arr 3 Int))) rfl)) ?_
  rintro x _ hb l ⟨ah,rfl,H⟩
  have H:=sG H (Rt.of (Rp.int .i64)) 3
  obtain ⟨bz,H⟩:=qL H 8 10 9 rfl rfl rfl (by decide)
  have H:Hd _ _ _ _ [f1 Rp.str q j.phases,f1 fA t d.Kids,.blk z [i6 d.Kind,sb d.Name,sb d.Other,i6 d.Op,i6 d.N,i6 d.Frames,t] 70,.mp o (gZ Ky.str (fun v=>Value.int .i64 v) j.tracks),.own (Rp.int .i64) p 3 j.dens,.mp s (gZ Ky.str (fun v=>Value.int .i64 v) j.rules),.blk u [.map (some o),p,q,.map (some s)] 215,.tr (Rt.row fG 170 [((0:Int).toNat,[J])]) [y] bx A,.tr fG [(.iface 242 (gV ah))] bz (.count bw d.Frames d.Frames [] (Arr.rep 3 0:Arr 3 Int):Nd)]:=H
  refine XP (fun _ _=>jL (by kernel_rfl) rfl)<| XP (fun _ _=>xN (v:=(.iface 242 (gV ah))) rfl)<| MxM.xK fun hc hS=>?_
  have H:=H.sees hS
  have H:=eh.rejoin H
  refine (zF (eg _ _ ?_))
  obtain rfl:=gI h
  refine (zW (yE (zV (fC (v1:=(.iface 242 (gV ah))) rfl rfl ?_))))
  exact ⟨(.iface 242 (gV ah)),bz,rfl,H.pick [8,3,4,5,6]⟩
 have h:=zQ a3 h
 refine zB fun he em=>zA ?_
 obtain ⟨b0,en,h⟩:=zD h
 refine zG (zL (yR (a:=d.Kind) (b:=12) rfl rfl) en)<| zI (.bool b0)<| RN em<| zY (b:=b0) rfl (fun a5=>?_) (fun a5=>?_)
 ·have h:=zO a5 h
  refine zB fun hf eo=>?_
  have ep:=H
  have H:=H.rebase
  have hg:=H
  refine xU H [0,1,2,3,4,5,6,7,8] (kz [0,0,1,0,1,0,2,0,0]) mixed ?_
  refine XM y ?_
  obtain ⟨b1,X,h⟩:=zC h
  obtain ⟨hh,hi,hj,a6⟩:=jC (H.item (i:=3) rfl) X
  refine XP (fun _ _=>xC vJ aAm a6 rfl (yC X).1 (yC X).2.1 rfl rfl) ?_
  obtain ⟨hk,b2,er,H⟩:=H.focusV 3 rfl a6 X rfl
  obtain ⟨L,rfl⟩:=mX rfl (H.item (i:=8) rfl)
  have H:Hd _ _ _ _ [f1 Rp.str q j.phases,f1 fA t d.Kids,.blk z [i6 d.Kind,sb d.Name,sb d.Other,i6 d.Op,i6 d.N,i6 d.Frames,t] 70,.mp o (gZ Ky.str (fun v=>Value.int .i64 v) j.tracks),.own (Rp.int .i64) p 3 j.dens,.mp s (gZ Ky.str (fun v=>Value.int .i64 v) j.rules),.blk u [.map (some o),p,q,.map (some s)] 215,.tr (Rt.row fG 170 [((0:Int).toNat,[L])]) [y] b2 A,.tr fG [L] er b1]:=H
  refine MxM.wJ oS rfl rfl rfl (fun x l=>xG kV rfl (Cells.get ((H.sees l).holeW 7 rfl a6 X rfl dG) (i:=0) rfl)) ?_
  refine XP (fun _ _=>sQ rfl)<| XR fM H 2 5 rfl rfl ?_
  obtain ⟨es,et,eu⟩:=aCf (H.item (i:=8) rfl)
  refine XP (fun _ _=>xJ (cs:=[L,i6 1,i6 d.Frames,.slice none 0 0]++((Fl.arr 3 (Fl.int .i64)).f (Arr.rep 3 0:Arr 3 Int))) (by rw [eu]; exact uN es et _ _))<| MxM.XL_exN oS rfl rfl rfl (fun x l=>pY (xR (cs:=[L,i6 1,i6 d.Frames,.slice none 0 0]++((Fl.arr 3 (Fl.int .i64)).f (Arr.rep 3 0:Arr 3 Int))) rfl (H.sees l)) (aCa (cs:=[L,i6 1,i6 d.Frames,.slice none 0 0]++((Fl.arr 3 (Fl.int .i64)).f (Arr.rep 3 0:Arr 3 Int))) rfl)) ?_
  rintro x _ hl l ⟨ai,rfl,H⟩
  have H:=sG H (Rt.of (Rp.int .i64)) 3
  obtain ⟨b3,H⟩:=qL H 8 10 9 rfl rfl rfl (by decide)
  have H:Hd _ _ _ _ [f1 Rp.str q j.phases,f1 fA t d.Kids,.blk z [i6 d.Kind,sb d.Name,sb d.Other,i6 d.Op,i6 d.N,i6 d.Frames,t] 70,.mp o (gZ Ky.str (fun v=>Value.int .i64 v) j.tracks),.own (Rp.int .i64) p 3 j.dens,.mp s (gZ Ky.str (fun v=>Value.int .i64 v) j.rules),.blk u [.map (some o),p,q,.map (some s)] 215,.tr (Rt.row fG 170 [((0:Int).toNat,[L])]) [y] b2 A,.tr fG [(.iface 242 (gV ai))] b3 (.count b1 1 d.Frames [] (Arr.rep 3 0:Arr 3 Int):Nd)]:=H
  refine XP (fun _ _=>jL (by kernel_rfl) rfl)<| XP (fun _ _=>xN (v:=(.iface 242 (gV ai))) rfl)<| MxM.xK fun hn hS=>?_
  have H:=H.sees hS
  have H:=ep.rejoin H
  refine (zF (eo _ _ ?_))
  obtain rfl:=gI h
  refine (zW (yE (zV (fC (v1:=(.iface 242 (gV ai))) rfl rfl ?_))))
  exact ⟨(.iface 242 (gV ai)),b3,rfl,H.pick [8,3,4,5,6]⟩
 have h:=zQ a5 h
 refine zB fun ho ew=>zA ?_
 obtain ⟨b4,ex,h⟩:=zD h
 refine zG (zL (yR (a:=d.Kind) (b:=13) rfl rfl) ex)<| zI (.bool b4)<| RN ew<| zY (b:=b4) rfl (fun a7=>?_) (fun a7=>?_)
 ·have h:=zO a7 h
  refine zB fun hp ey=>?_
  have ez:=H
  have H:=H.rebase
  have hq:=H
  refine xU H [0,1,2,3,4,5,6,7,8,9,10] (kz [0,0,1,0,1,0,1,0,2,0,0]) mixed ?_
  refine XM y ?_
  obtain ⟨b5,Y,h⟩:=zC h
  obtain ⟨hr,hs,ht,a8⟩:=jC (H.item (i:=3) rfl) Y
  refine XP (fun _ _=>xC vJ aAm a8 rfl (yC Y).1 (yC Y).2.1 rfl rfl) ?_
  obtain ⟨hu,b6,e0,H⟩:=H.focusV 3 rfl a8 Y rfl
  obtain ⟨M,rfl⟩:=mX rfl (H.item (i:=8) rfl)
  have H:Hd _ _ _ _ [f1 Rp.str q j.phases,f1 fA t d.Kids,.blk z [i6 d.Kind,sb d.Name,sb d.Other,i6 d.Op,i6 d.N,i6 d.Frames,t] 70,.mp o (gZ Ky.str (fun v=>Value.int .i64 v) j.tracks),.own (Rp.int .i64) p 3 j.dens,.mp s (gZ Ky.str (fun v=>Value.int .i64 v) j.rules),.blk u [.map (some o),p,q,.map (some s)] 215,.tr (Rt.row fG 170 [((0:Int).toNat,[M])]) [y] b6 A,.tr fG [M] e0 b5]:=H
  refine MxM.wJ oS rfl rfl rfl (fun x l=>xG kV rfl (Cells.get ((H.sees l).holeW 7 rfl a8 Y rfl dG) (i:=0) rfl)) ?_
  refine XP (fun _ _=>pM rfl)<| XR fM H 2 4 rfl rfl<| XP (fun _ _=>sQ rfl)<| XR fM H 2 5 rfl rfl ?_
  obtain ⟨e1,e2,e3⟩:=aCf (H.item (i:=8) rfl)
  refine XP (fun _ _=>xJ (cs:=[M,i6 d.N,i6 d.Frames,.slice none 0 0]++((Fl.arr 3 (Fl.int .i64)).f (Arr.rep 3 0:Arr 3 Int))) (by rw [e3]; exact uN e1 e2 _ _))<| MxM.XL_exN oS rfl rfl rfl (fun x l=>pY (xR (cs:=[M,i6 d.N,i6 d.Frames,.slice none 0 0]++((Fl.arr 3 (Fl.int .i64)).f (Arr.rep 3 0:Arr 3 Int))) rfl (H.sees l)) (aCa (cs:=[M,i6 d.N,i6 d.Frames,.slice none 0 0]++((Fl.arr 3 (Fl.int .i64)).f (Arr.rep 3 0:Arr 3 Int))) rfl)) ?_
  rintro x _ hv l ⟨aj,rfl,H⟩
  have H:=sG H (Rt.of (Rp.int .i64)) 3
  obtain ⟨b7,H⟩:=qL H 8 10 9 rfl rfl rfl (by decide)
  have H:Hd _ _ _ _ [f1 Rp.str q j.phases,f1 fA t d.Kids,.blk z [i6 d.Kind,sb d.Name,sb d.Other,i6 d.Op,i6 d.N,i6 d.Frames,t] 70,.mp o (gZ Ky.str (fun v=>Value.int .i64 v) j.tracks),.own (Rp.int .i64) p 3 j.dens,.mp s (gZ Ky.str (fun v=>Value.int .i64 v) j.rules),.blk u [.map (some o),p,q,.map (some s)] 215,.tr (Rt.row fG 170 [((0:Int).toNat,[M])]) [y] b6 A,.tr fG [(.iface 242 (gV aj))] b7 (.count b5 d.N d.Frames [] (Arr.rep 3 0:Arr 3 Int):Nd)]:=H
  refine XP (fun _ _=>jL (by kernel_rfl) rfl)<| XP (fun _ _=>xN (v:=(.iface 242 (gV aj))) rfl)<| MxM.xK fun hw hS=>?_
  have H:=H.sees hS
  have H:=ez.rejoin H
  refine (zF (ey _ _ ?_))
  obtain rfl:=gI h
  refine (zW (yE (zV (fC (v1:=(.iface 242 (gV aj))) rfl rfl ?_))))
  exact ⟨(.iface 242 (gV aj)),b7,rfl,H.pick [8,3,4,5,6]⟩
 have h:=zQ a7 h
 refine zB fun hx e4=>zA ?_
 obtain ⟨b8,e5,h⟩:=zD h
 refine zG (zL (yR (a:=d.Kind) (b:=14) rfl rfl) e5)<| zI (.bool b8)<| RN e4<| zY (b:=b8) rfl (fun a9=>?_) (fun a9=>?_)
 ·have h:=zO a9 h
  refine zB fun hy e6=>?_
  have e7:=H
  have H:=H.rebase
  have hz:=H
  refine xU H [0,1,2,3,4,5,6,7,8,9] (kz [0,0,1,0,0,1,0,2,0,0]) mixed ?_
  refine XM y ?_
  obtain ⟨ba,Z,h⟩:=zC h
  obtain ⟨h0,h1,h2,bb⟩:=jC (H.item (i:=3) rfl) Z
  refine XP (fun _ _=>xC vJ aAm bb rfl (yC Z).1 (yC Z).2.1 rfl rfl) ?_
  obtain ⟨h3,e8,b9,H⟩:=H.focusV 3 rfl bb Z rfl
  obtain ⟨D,rfl⟩:=mX rfl (H.item (i:=8) rfl)
  have H:Hd _ _ _ _ [f1 Rp.str q j.phases,f1 fA t d.Kids,.blk z [i6 d.Kind,sb d.Name,sb d.Other,i6 d.Op,i6 d.N,i6 d.Frames,t] 70,.mp o (gZ Ky.str (fun v=>Value.int .i64 v) j.tracks),.own (Rp.int .i64) p 3 j.dens,.mp s (gZ Ky.str (fun v=>Value.int .i64 v) j.rules),.blk u [.map (some o),p,q,.map (some s)] 215,.tr (Rt.row fG 170 [((0:Int).toNat,[D])]) [y] e8 A,.tr fG [D] b9 ba]:=H
  refine MxM.wJ oS rfl rfl rfl (fun x l=>xG kV rfl (Cells.get ((H.sees l).holeW 7 rfl bb Z rfl dG) (i:=0) rfl)) ?_
  refine XM y ?_
  obtain ⟨ca,aa,h⟩:=zC h
  obtain ⟨h4,h5,h6,bc⟩:=jC (H.item (i:=7) rfl) aa
  refine XP (fun _ _=>xC vJ aAm bc rfl (yC aa).1 (yC aa).2.1 rfl rfl) ?_
  obtain ⟨h7,cb,e9,H⟩:=H.focusV 7 rfl bc aa rfl
  obtain ⟨P,rfl⟩:=mX rfl (H.item (i:=9) rfl)
  have H:Hd _ _ _ _ [f1 Rp.str q j.phases,f1 fA t d.Kids,.blk z [i6 d.Kind,sb d.Name,sb d.Other,i6 d.Op,i6 d.N,i6 d.Frames,t] 70,.mp o (gZ Ky.str (fun v=>Value.int .i64 v) j.tracks),.own (Rp.int .i64) p 3 j.dens,.mp s (gZ Ky.str (fun v=>Value.int .i64 v) j.rules),.blk u [.map (some o),p,q,.map (some s)] 215,.tr fG [D] b9 ba,.tr (Rt.row fG 170 [((1:Int).toNat,[P]),((0:Int).toNat,[D])]) [y] cb A,.tr fG [P] e9 ca]:=H
  refine MxM.wJ oS rfl rfl rfl (fun x l=>xG kV rfl (Cells.get ((H.sees l).holeW 8 rfl bc aa rfl dG) (i:=0) rfl)) ?_
  obtain ⟨fa,fb,fc⟩:=aCf (H.item (i:=7) rfl)
  obtain ⟨fd,fe,ff⟩:=aCf (H.item (i:=9) rfl)
  refine XP (fun _ _=>xJ (cs:=[D,P,i6 0,.bool false]) (by rw [fc,ff]; exact bt255_0_1 fa fb fd fe))<| MxM.XL_exN oS rfl rfl rfl (fun x l=>pY (xR (cs:=[D,P,i6 0,.bool false]) rfl (H.sees l)) (aCa (cs:=[D,P,i6 0,.bool false]) rfl)) ?_
  rintro x _ h8 l ⟨ak,rfl,H⟩
  obtain ⟨cc,H⟩:=aCh H 7 9 10 rfl rfl rfl (by decide)
  have H:Hd _ _ _ _ [f1 Rp.str q j.phases,f1 fA t d.Kids,.blk z [i6 d.Kind,sb d.Name,sb d.Other,i6 d.Op,i6 d.N,i6 d.Frames,t] 70,.mp o (gZ Ky.str (fun v=>Value.int .i64 v) j.tracks),.own (Rp.int .i64) p 3 j.dens,.mp s (gZ Ky.str (fun v=>Value.int .i64 v) j.rules),.blk u [.map (some o),p,q,.map (some s)] 215,.tr (Rt.row fG 170 [((1:Int).toNat,[P]),((0:Int).toNat,[D])]) [y] cb A,.tr fG [(.iface 252 (gV ak))] cc (.since ba ca 0 false:Nd)]:=H
  refine XP (fun _ _=>jL (by kernel_rfl) rfl)<| XP (fun _ _=>xN (v:=(.iface 252 (gV ak))) rfl)<| MxM.xK fun h9 hS=>?_
  have H:=H.sees hS
  have H:=e7.rejoin H
  refine (zF (e6 _ _ ?_))
  obtain rfl:=gI h
  refine (zW (yE (zV (fC (v1:=(.iface 252 (gV ak))) rfl rfl ?_))))
  exact ⟨(.iface 252 (gV ak)),cc,rfl,H.pick [8,3,4,5,6]⟩
 have h:=zQ a9 h
 refine (zX (yH (zF (cm _ _ ?_))))
 refine zB fun ia fg=>zA<| zH y ?_
 obtain ⟨cd,ab,h⟩:=zC h
 obtain ⟨ib,id,ie,bd⟩:=jC (H.item (i:=3) rfl) ab
 refine zG (xC vJ aAm bd rfl (yC ab).1 (yC ab).2.1 rfl rfl) ?_
 obtain ⟨ig,ce,fh,H⟩:=H.focusV 3 rfl bd ab rfl
 obtain ⟨ac,rfl⟩:=mX rfl (H.item (i:=8) rfl)
 have H:Hd _ _ _ _ [f1 Rp.str q j.phases,f1 fA t d.Kids,.blk z [i6 d.Kind,sb d.Name,sb d.Other,i6 d.Op,i6 d.N,i6 d.Frames,t] 70,.mp o (gZ Ky.str (fun v=>Value.int .i64 v) j.tracks),.own (Rp.int .i64) p 3 j.dens,.mp s (gZ Ky.str (fun v=>Value.int .i64 v) j.rules),.blk u [.map (some o),p,q,.map (some s)] 215,.tr (Rt.row fG 170 [((0:Int).toNat,[ac])]) [y] ce A,.tr fG [ac] fh cd]:=H
 refine zG (xG kV rfl (Cells.get (H.holeW 7 rfl bd ab rfl dG) (i:=0) rfl)) ?_
 obtain ⟨fi,fj,fk⟩:=aCf (H.item (i:=8) rfl)
 refine zG (xJ (cs:=[ac,i6 0,.bool false]) (by rw [fk]; exact bt258_0 fi fj))<| yQ rfl rfl (xR (cs:=[ac,i6 0,.bool false]) rfl H) ?_
 rintro _ ih ⟨al,rfl,H⟩
 obtain ⟨cf,H⟩:=aCr H 8 9 rfl rfl (by decide)
 have H:Hd _ _ _ _ [f1 Rp.str q j.phases,f1 fA t d.Kids,.blk z [i6 d.Kind,sb d.Name,sb d.Other,i6 d.Op,i6 d.N,i6 d.Frames,t] 70,.mp o (gZ Ky.str (fun v=>Value.int .i64 v) j.tracks),.own (Rp.int .i64) p 3 j.dens,.mp s (gZ Ky.str (fun v=>Value.int .i64 v) j.rules),.blk u [.map (some o),p,q,.map (some s)] 215,.tr (Rt.row fG 170 [((0:Int).toNat,[ac])]) [y] ce A,.tr fG [(.iface 256 (gV al))] cf (.rises cd 0 false:Nd)]:=H
 refine zG (jL (by kernel_rfl) rfl)<| zI (.iface 256 (gV al))<| RN fg ?_
 obtain rfl:=gI h
 refine (zW (fC (v1:=(.iface 256 (gV al))) rfl rfl ?_))
 exact ⟨(.iface 256 (gV al)),cf,rfl,H.pick [8,3,4,5,6]⟩
theorem Fge:Fdv (Fbo):=by
 have h: ∀n,Fdv (Faq n):=by
  intro n
  induction n with
  | zero=>intro b c d e f i j k r a; cases a
  | succ n ih=>intro b c d e f i j k r a; exact Fcfw (Faq n) ih b c d e f i j k r a
 exact h FU
end Go.Proofs.YtckmiljbaejijaaGreatDoor.L
