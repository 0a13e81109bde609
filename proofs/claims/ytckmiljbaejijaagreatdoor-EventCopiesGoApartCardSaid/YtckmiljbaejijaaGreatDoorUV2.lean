/- Walks: what each function computes, for every argument; no condition but those that stand in the statements. -/
import Derived.Test.YtckmiljbaejijaaGreatDoorUV0
import Derived.Test.YtckmiljbaejijaaGreatDoorUV1
namespace Go.Proofs.YtckmiljbaejijaaGreatDoor.L
open Go.RowKit Go.OB Go.Lf
set_option maxHeartbeats 4000000
theorem Fctw (h:Rules)(c:aF)(v1:Value)(k:Value)(l:Value)(f:Value)(r:Int)(d:Fct h c=some r)(O S:List Nat)(w:World)(H:Hd O w w S [f1 Rp.str v1 h.Phases,f1 fA k h.Moves,f1 fC l h.Rules,f1 fD f c.When.Kids]):
  Cl 88 [.agg [v1,k,l].toArray,.agg [sb c.From,sb c.To,i6 c.When.Kind,sb c.When.Name,sb c.When.Other,i6 c.When.Op,i6 c.When.N,i6 c.When.Frames,f].toArray] w fun e z=>e= .returned (i6 r)∧Hd O w z S []:=by
 unfold Fct at d
 refine zS 33 Tryz.func88 rfl rfl rfl ?_
 refine zC fun K9 A=>zA<| yP rfl rfl (xW (cs:=[v1,k,l]) rfl H) ?_
 rintro _ a1 ⟨B,rfl,H⟩
 refine yP rfl rfl (xW (cs:=[sb c.From,sb c.To,i6 c.When.Kind,sb c.When.Name,sb c.When.Other,i6 c.When.Op,i6 c.When.N,i6 c.When.Frames,f]) rfl H) ?_
 rintro _ a2 ⟨t,rfl,H⟩
 refine zK (i6 0)<| zF (zB (A _ _ ?_))
 obtain ⟨C,D,d⟩:=wJ d
 refine yL [4,6,8,9,10,11,12,13,14,15,16,17,18,19,20,21,22,23] (fun (g:Unit)=>[]) (fun g wl=>Hd O w wl S [f1 fD f c.When.Kids,.blk t [sb c.From,sb c.To,i6 c.When.Kind,sb c.When.Name,sb c.When.Other,i6 c.When.Op,i6 c.When.N,i6 c.When.Frames,f] 122]∧C ()=some r) ?_ ?_
 ·skip
  refine zC fun a3 E=>zA<| zH (fa122_0 rfl)<| Ld bC H 5 0 rfl rfl<| zH (fa122_1 rfl)<| Ld bC H 5 1 rfl rfl ?_
  obtain ⟨a4,F,d⟩:=zG d
  subst F
  refine yP rfl rfl (kM (r:=Rp.str) (xl:=[c.From,c.To]) (cs:=[sb c.From,sb c.To]) u22 el9 (by decide) (by decide) rfl (xP (vs:=[sb c.From,sb c.To]) (by decide) rfl rfl ⟨rfl,rfl,trivial⟩ rfl) H ⟨[sb c.From],[sb c.To],rfl,rfl,⟨[sb c.To],[],rfl,rfl,rfl⟩⟩) ?_
  rintro G a5 H
  obtain ⟨I,J,d⟩:=zG d
  obtain ⟨a6,a7,K⟩:=Sr.len (Sr.of_own (H.item (i:=6) rfl))
  refine zH (yJ (xN u22 K) (congrArg (Value.int .i64) J))<| zI (i6 0)<| zF (zB (E _ _ ?_))
  refine yF ?_
  unfold Fff at d
  obtain ⟨L,u,M,d⟩:=yR d
  refine xG [4,6,14,15,16,17,18,19,20,21,22,23] (fun (g:Nat×Int)=>[(14,i6 g.2)]) (fun g wl=>Hd O w wl S [f1 Rp.str v1 h.Phases,f1 fA k h.Moves,f1 fC l h.Rules,f1 fD f c.When.Kids,.blk B [v1,k,l] 26,.blk t [sb c.From,sb c.To,i6 c.When.Kind,sb c.When.Name,sb c.When.Other,i6 c.When.Op,i6 c.When.N,i6 c.When.Frames,f] 122,.own Rp.str G 9 ([c.From,c.To]:List Str)]∧eF L g.1 g.2=some r) (fun g=>g.1) (u,0) (zL rfl zO) ⟨H.pick [0,1,2,3,4,5,6] (by decide),d⟩ ?_
  clear H d
  rintro ⟨u,v⟩ ρ a8 ⟨H,d⟩
  obtain ⟨P,rfl,d⟩:=yX d
  have d:=yY M d
  refine zC fun a9 Q=>zA ?_
  obtain ⟨R,T,d⟩:=zG d
  refine zH (zQ (xR (a:=v) (b:=I) rfl rfl) T)<| zF (zB (Q _ _ ?_))
  refine zC fun ba U=>?_
  refine yC (b:=R) rfl (fun n=>?_) (fun n=>?_)
  ·have d:=zT n d
   refine yB (zB (U _ _ ?_))
   refine zC fun bb V=>?_
   refine yF ?_
   refine zC fun bc X=>zA ?_
   obtain ⟨m,o,d⟩:=zD d
   obtain ⟨bd,be,Y,Z,aa,ab⟩:=kT (H.item (i:=6) rfl) o
   obtain rfl:Y= [sb m]:=aa
   refine zH (xJ u22 sz9 Z rfl (yE o).1 (yE o).2.1 rfl rfl)<| zH (xA bC rfl (Cells.get ab (i:=0) rfl))<| zK (sb m)<| zF (zB (X _ _ ?_))
   refine zC fun bf ac=>zA<| zH (fa26_0 rfl)<| Ld one22 H 4 0 rfl rfl<| zI (sb m) ?_
   have ad:=H
   obtain ⟨ae,af,d⟩:=zD d
   refine yA rfl rfl (zV en87 rfl) (Faxw h.Phases m v1 _ af _ _ _ (H.enter [] [0] (by decide) rfl)) ?_
   rintro _ bg ⟨rfl,ag⟩
   have H:=ad.step (ag.only:Only [] _ _)
   refine ⟨_,rfl,?_⟩
   obtain ⟨ah,ai,d⟩:=zG d
   refine zH (zQ (wL (p:=ae) rfl) ai)<| zF (zB (ac _ _ ?_))
   refine yC (b:=ah) rfl (fun q=>?_) (fun q=>?_)
   ·have d:=zT q d
    refine zC fun bh aj=>zA<| zK (i6 4)<| zF (zB (aj _ _ ?_))
    obtain rfl:=gI d
    refine (zY (yG (zZ (zZ (yG (zZ (fF (v1:=i6 4) rfl rfl ?_)))))))
    exact ⟨rfl,H.pick [] (by decide)⟩
   have d:=zU q d
   refine (yB (yK (zB (V _ _ ?_))))
   refine zA ?_
   obtain ⟨x,ak,d⟩:=zG d
   refine zH (xQ (a:=v) (b:=1) rfl rfl ak)<| zI (i6 x) ?_
   exact (zF (zB (meet ⟨(P,x),(zL rfl zO),⟨H.pick [0,1,2,3,4,5,6] (by decide),d⟩,Nat.lt_succ_self _⟩)))
  have d:=zU n d
  exact (xK (yH (yH (yU (zB (meet ⟨(),zO,⟨H.pick [3,5] (by decide),d⟩⟩))))))
 rintro _ ρ bi ⟨H,d⟩
 have d:=dE D d
 refine zC fun bj al=>?_
 refine zC fun bk am=>zA<| zH (fa122_2 rfl)<| zH (yJ (yM (cs:=[i6 c.When.Kind,sb c.When.Name,sb c.When.Other,i6 c.When.Op,i6 c.When.N,i6 c.When.Frames,f]) dI rfl dB rfl (Cells.drop (Hbc H 1 rfl) 2 7)) rfl) ?_
 have an:=H
 obtain ⟨j,ao,d⟩:=zD d
 refine yA rfl rfl (zV en29 rfl) (Fbtw c.When f _ ao _ _ _ (H.enter [] [0] (by decide) rfl)) ?_
 rintro _ bl ⟨rfl,ap⟩
 have H:=an.step (ap.only:Only [] _ _)
 refine ⟨_,rfl,?_⟩
 refine zK (i6 j)<| zF (zB (am _ _ ?_))
 refine zC fun bm aq=>zA<| zI (i6 j) ?_
 obtain ⟨ar,au,d⟩:=zG d
 refine zH (zQ (dH (a:=j) (b:=0) rfl rfl) au)<| zF (zB (aq _ _ ?_))
 refine yC (b:=ar) rfl (fun s=>?_) (fun s=>?_)
 ·have d:=zT s d
  refine zC fun bn av=>zA<| zI (i6 j)<| zK (i6 j)<| zF (zB (av _ _ ?_))
  obtain rfl:=gI d
  refine (zY (zZ (fF (v1:=i6 j) rfl rfl ?_)))
  exact ⟨rfl,H.pick [] (by decide)⟩
 have d:=zU s d
 refine yB (zB (al _ _ ?_))
 refine zC fun bo aw=>zA<| zH (fa122_2 rfl)<| zH (yJ (yM (cs:=[i6 c.When.Kind,sb c.When.Name,sb c.When.Other,i6 c.When.Op,i6 c.When.N,i6 c.When.Frames,f]) dI rfl dB rfl (Cells.drop (Hbc H 1 rfl) 2 7)) rfl) ?_
 have ax:=H
 obtain ⟨y,ay,d⟩:=zD d
 refine yA rfl rfl (zV en81 rfl) (Fgv c.When f _ ay _ _ _ (H.enter [] [0] (by decide) rfl)) ?_
 rintro _ bp ⟨rfl,az⟩
 have H:=ax.step (az.only:Only [] _ _)
 refine ⟨_,rfl,?_⟩
 refine zK (i6 y)<| zF (zB (aw _ _ ?_))
 obtain rfl:=gI d
 refine (zY (fF (v1:=i6 y) rfl rfl ?_))
 exact ⟨rfl,H.pick [] (by decide)⟩
theorem Fdlw (a:bJ)(b:Str)(v1:Value)(d:Nat)(r:Bool)(c:Fdl a b=some r)(O S:List Nat)(w:World)(H:Hd O w w S [.blk d [sb b] 9,f1 fD v1 a.When.Kids]):
  Cl 149 [.agg [sb a.Name,i6 a.When.Kind,sb a.When.Name,sb a.When.Other,i6 a.When.Op,i6 a.When.N,i6 a.When.Frames,v1].toArray,gU d] w fun e h=>e= .returned (.bool r)∧Hd O w h S [.blk d [sb b] 9]:=by
 unfold Fdl at c
 refine zS 8 Tryz.func149 rfl rfl rfl ?_
 refine zC fun l i=>zA<| yP rfl rfl (xW (cs:=[sb a.Name,i6 a.When.Kind,sb a.When.Name,sb a.When.Other,i6 a.When.Op,i6 a.When.N,i6 a.When.Frames,v1]) rfl H) ?_
 rintro _ m ⟨n,rfl,H⟩
 refine zK (.bool false)<| zF (zB (i _ _ ?_))
 refine zC fun o j=>zA<| zH (fa95_0 rfl)<| Ld bC H 2 0 rfl rfl<| Ld bC H 0 0 rfl rfl ?_
 obtain ⟨f,k,c⟩:=zG c
 refine zH (zQ (wE (s1:=a.Name) (s2:=b) rfl rfl) k)<| zK (.bool f)<| zF (zB (j _ _ ?_))
 obtain rfl:=gI c
 refine (zY (fF (v1:= .bool f) rfl rfl ?_))
 exact ⟨rfl,H.pick [0] (by decide)⟩
theorem Fdvw (k:List bJ)(p1c0:Str)(v1:Value)(h:Nat)(r:Int)(c:Fdv k p1c0=some r)(O S:List Nat)(w:World)(H:Hd O w w S [.blk h [sb p1c0] 9,f1 fC v1 k]):
  Cl 194 [v1,.func (.func 149) #[] #[gU h]] w fun e t=>e= .returned (i6 r)∧Hd O w t S [.blk h [sb p1c0] 9]:=by
 unfold Fdv at c
 refine zS 19 Tryz.func194 rfl rfl rfl ?_
 refine zC fun K5 u=>zA<| zK (i6 0)<| zF (zB (u _ _ ?_))
 obtain ⟨v,x,c⟩:=wJ c
 refine yL [4,5,6,7,8,9,10,11,12,13,14,15,16,17,18] (fun (g:Unit)=>[]) (fun g wl=>Hd O w wl S [.blk h [sb p1c0] 9]∧v ()=some r) ?_ ?_
 ·skip
  refine zC fun af y=>zA<| zI v1 ?_
  obtain ⟨z,A,c⟩:=zG c
  obtain ⟨ag,ah,B⟩:=SlF.len ((H.item (i:=1) rfl))
  refine zH (yJ (xN u24 B) (congrArg (Value.int .i64) A))<| zI (i6 0)<| zF (zB (y _ _ ?_))
  refine yF ?_
  unfold Fev at c
  obtain ⟨C,o,D,c⟩:=yR c
  refine xG [4,5,8,9,10,11,12,13,14,15,16,17,18] (fun (g:Nat×Int)=>[(8,i6 g.2)]) (fun g wl=>Hd O w wl S [.blk h [sb p1c0] 9,f1 fC v1 k]∧eF C g.1 g.2=some r) (fun g=>g.1) (o,0) (zL rfl zO) ⟨H.pick [0,1] (by decide),c⟩ ?_
  clear H c
  rintro ⟨o,f⟩ ρ ai ⟨H,c⟩
  obtain ⟨E,rfl,c⟩:=yX c
  have c:=yY D c
  refine zC fun aj F=>zA ?_
  obtain ⟨G,I,c⟩:=zG c
  refine zH (zQ (xR (a:=f) (b:=z) rfl rfl) I)<| zF (zB (F _ _ ?_))
  refine zC fun ak J=>?_
  refine yC (b:=G) rfl (fun l=>?_) (fun l=>?_)
  ·have c:=zT l c
   refine yB (zB (J _ _ ?_))
   refine zC fun al K=>?_
   refine yF ?_
   refine zC fun am L=>zA<| zI (i6 f)<| zK (i6 f)<| zF (zB (L _ _ ?_))
   refine zC fun an M=>zA<| zI (.func (.func 149) #[] #[gU h])<| zI v1<| zI (i6 f) ?_
   obtain ⟨d,m,c⟩:=zD c
   obtain ⟨p,q,ao,ap,P,Q,R,T,U⟩:=dQ (H.item (i:=1) rfl) m
   obtain ⟨j,rfl,V⟩:=rRule_open Q
   have H:=H.fzs [.at p (q+f.toNat * 8) _,.sl fD j d.When.Kids] ⟨⟨R,T,U⟩,V,trivial⟩
   refine zH (xJ u24 sz95 P rfl (yE m).1 (yE m).2.1 rfl rfl)<| zH (yJ (yM (cs:=[sb d.Name,i6 d.When.Kind,sb d.When.Name,sb d.When.Other,i6 d.When.Op,i6 d.When.N,i6 d.When.Frames,j]) agg95 rfl sz95 rfl (H.item (i:=2) rfl).2.2) rfl) ?_
   obtain ⟨X,Y,c⟩:=zD c
   refine yA rfl rfl (aP en149 rfl rfl) (Fdlw d p1c0 j h _ Y _ _ _ (H.enter [0] [3] (by decide) rfl)) ?_
   rintro _ Z ⟨rfl,aa⟩
   have H:Hd _ _ Z _ [f1 fC v1 k,.fz (.at p (q+f.toNat * 8) [sb d.Name,i6 d.When.Kind,sb d.When.Name,sb d.When.Other,i6 d.When.Op,i6 d.When.N,i6 d.When.Frames,j]),f1 fD j d.When.Kids,.blk h [sb p1c0] 9]:=H.back [0] [3] rfl aa
   refine ⟨_,rfl,?_⟩
   refine zF (zB (M _ _ ?_))
   refine yC (b:=X) rfl (fun n=>?_) (fun n=>?_)
   ·have c:=zT n c
    refine zC fun aq ab=>zA<| zI (i6 f)<| zK (i6 f)<| zF (zB (ab _ _ ?_))
    obtain rfl:=gI c
    refine (zY (yG (zZ (zZ (yG (zZ (fF (v1:=i6 f) rfl rfl ?_)))))))
    exact ⟨rfl,H.pick [3] (by decide)⟩
   have c:=zU n c
   refine (yB (yK (zB (K _ _ ?_))))
   refine zA ?_
   obtain ⟨s,ac,c⟩:=zG c
   refine zH (xQ (a:=f) (b:=1) rfl rfl ac)<| zI (i6 s) ?_
   exact (zF (zB (meet ⟨(E,s),(zL rfl zO),⟨H.pick [3,0] (by decide),c⟩,Nat.lt_succ_self _⟩)))
  have c:=zU l c
  exact (xK (yH (yH (yU (zB (meet ⟨(),zO,⟨H.pick [0] (by decide),c⟩⟩))))))
 rintro _ ρ ar ⟨H,c⟩
 have c:=dE x c
 refine zC fun au ad=>zA<| zK (i6 (-1))<| zF (zB (ad _ _ ?_))
 obtain rfl:=gI c
 refine (zY (fF (v1:=i6 (-1)) rfl rfl ?_))
 exact ⟨rfl,H.pick [0] (by decide)⟩
theorem Fc8w (f:List bJ)(p1c0:Str)(v1:Value)(c:Nat)(r:Bool)(d:Fc8 f p1c0=some r)(O S:List Nat)(w:World)(H:Hd O w w S [.blk c [sb p1c0] 9,f1 fC v1 f]):
  Cl 148 [v1,.func (.func 149) #[] #[gU c]] w fun e i=>e= .returned (.bool r)∧Hd O w i S [.blk c [sb p1c0] 9]:=by
 unfold Fc8 at d
 refine zS 9 Tryz.func148 rfl rfl rfl ?_
 refine zC fun q j=>zA<| zK (.bool false)<| zF (zB (j _ _ ?_))
 refine zC fun s k=>zA<| zI v1<| zI (.func (.func 149) #[] #[gU c]) ?_
 obtain ⟨l,m,d⟩:=zD d
 refine yA rfl rfl (zV en194 rfl) (Fdvw f p1c0 v1 c _ m _ _ _ (H.enter [0] [1] (by decide) rfl)) ?_
 rintro _ n ⟨rfl,o⟩
 have H:Hd _ _ n _ [f1 fC v1 f,.blk c [sb p1c0] 9]:=H.back [0] [1] rfl o
 refine ⟨_,rfl,?_⟩
 obtain ⟨h,p,d⟩:=zG d
 refine zH (zQ (Do_geq (a:=l) (b:=0) rfl rfl) p)<| zK (.bool h)<| zF (zB (k _ _ ?_))
 obtain rfl:=gI d
 refine (zY (fF (v1:= .bool h) rfl rfl ?_))
 exact ⟨rfl,H.pick [1] (by decide)⟩
theorem Fbsw (h:Str)(a:Rules)(j:Int)(k:Nat)(c:Value)(d:Value)(f:Value)(l:Nat)(r:Bool)(b:Fbs h a j=some r)(O S:List Nat)(w:World)(H:Hd O w w S [.blk k [c,d,f] 26,.blk l [i6 j] 3,f1 Rp.str c a.Phases,f1 fA d a.Moves,f1 fC f a.Rules]):
  Cl 147 [sb h,gU k,gU l] w fun e q=>e= .returned (.bool r)∧Hd O w q S [.blk k [c,d,f] 26,.blk l [i6 j] 3]:=by
 unfold Fbs at b
 refine zS 11 Tryz.func147 rfl rfl rfl ?_
 refine zC fun A s=>zA<| yP rfl rfl (Lx_box1 rfl rfl H) ?_
 rintro _ B ⟨o,rfl,H⟩
 refine zK (.bool false)<| zF (zB (s _ _ ?_))
 refine zC fun C t=>zA<| zH (fa26_2 rfl)<| Ld one24 H 0 2 rfl rfl<| Ld fU H 1 0 rfl rfl ?_
 obtain ⟨m,u,b⟩:=zD b
 refine RL_exP rfl rfl (Lx_slice_h u24 sz95 (H.item (i:=4) rfl) rfl rfl u) ?_
 rintro n v
 have H:=H.fz (.sl fC n m) v
 refine zH (cZ rfl) ?_
 obtain ⟨p,x,b⟩:=zD b
 refine yA rfl rfl (zV en148 rfl) (Fc8w m h n o _ x _ _ _ (H.enter [5] [6] (by decide) rfl)) ?_
 rintro _ y ⟨rfl,z⟩
 have H:Hd _ _ y _ [.blk k [c,d,f] 26,.blk l [i6 j] 3,f1 Rp.str c a.Phases,f1 fA d a.Moves,f1 fC f a.Rules,f1 fC n m,.blk o [sb h] 9]:=H.back [5] [6] rfl z
 refine ⟨_,rfl,?_⟩
 refine zK (.bool p)<| zF (zB (t _ _ ?_))
 obtain rfl:=gI b
 refine (zY (fF (v1:= .bool p) rfl rfl ?_))
 exact ⟨rfl,H.pick [0,1] (by decide)⟩
theorem Fc0w (d:Cond)(f:Rules)(c1f1:Int)(v1:Value)(h:Nat)(i:Value)(k:Value)(l:Value)(m:Nat)(j:Nat)(r:Int)(c:Fc0 d f c1f1=some r)(O S:List Nat)(w:World)(H:Hd O w w S [.blk h [i,k,l] 26,.blk j [i6 c1f1] 3,.blk m [.func (.func 147) #[] #[gU h,gU j]] 48,f1 fD v1 d.Kids,f1 Rp.str i f.Phases,f1 fA k f.Moves,f1 fC l f.Rules]):
  Cl 150 [.agg [i6 d.Kind,sb d.Name,sb d.Other,i6 d.Op,i6 d.N,i6 d.Frames,v1].toArray,gU h,gU m] w fun e z=>e= .returned (i6 r)∧Hd O w z S [.blk h [i,k,l] 26,.blk j [i6 c1f1] 3,.blk m [.func (.func 147) #[] #[gU h,gU j]] 48]:=by
 unfold Fc0 at c
 refine zS 28 Tryz.func150 rfl rfl rfl ?_
 refine zC fun aa A=>zA<| yP rfl rfl (xW (cs:=[i6 d.Kind,sb d.Name,sb d.Other,i6 d.Op,i6 d.N,i6 d.Frames,v1]) rfl H) ?_
 rintro _ ab ⟨t,rfl,H⟩
 refine zK (i6 0)<| zF (zB (A _ _ ?_))
 refine zC fun ac B=>?_
 obtain ⟨u,c,C⟩:=zD c
 refine yL [5,6,7,8,9,10,11,12,13,14,15,16,17,18,19,20,21,22,23,24,25,26,27] (fun (g:Unit)=>[(27,.bool u)]) (fun g wl=>Hd O w wl S [.blk h [i,k,l] 26,f1 Rp.str i f.Phases,f1 fA k f.Moves,f1 fC l f.Rules,.blk j [i6 c1f1] 3,.blk m [.func (.func 147) #[] #[gU h,gU j]] 48]) ?_ ?_
 ·skip
  refine zA ?_
  refine zH (fa70_0 rfl)<| Ld fU H 7 0 rfl rfl ?_
  obtain ⟨D,E,c⟩:=zG c
  refine zH (zQ (yT (a:=d.Kind) (b:=6) rfl rfl) E) ?_
  obtain ⟨x,c,F⟩:=zD c
  refine bW 8 [8,9,10,11,12,13,14,15] [(15,.bool x)] (fun wl=>Hd O w wl S [.blk h [i,k,l] 26,.blk j [i6 c1f1] 3,.blk m [.func (.func 147) #[] #[gU h,gU j]] 48,f1 fD v1 d.Kids,f1 Rp.str i f.Phases,f1 fA k f.Moves,f1 fC l f.Rules,.blk t [i6 d.Kind,sb d.Name,sb d.Other,i6 d.Op,i6 d.N,i6 d.Frames,v1] 70]) ?_ ?_
  ·skip
   refine yS (b:=D) rfl rfl rfl (fun n=>?_) (fun n=>?_)
   ·have c:=zT n c
    refine zH (fa26_0 rfl)<| Ld one22 H 0 0 rfl rfl<| zH (fa70_1 rfl)<| Ld bC H 7 1 rfl rfl ?_
    have G:=H
    obtain ⟨I,J,c⟩:=zD c
    refine yA rfl rfl (zV en87 rfl) (Faxw f.Phases d.Name i _ J _ _ _ (H.enter [] [4] (by decide) rfl)) ?_
    rintro _ ad ⟨rfl,K⟩
    have H:=G.step (K.only:Only [] _ _)
    refine ⟨_,rfl,?_⟩
    obtain ⟨L,M,c⟩:=zG c
    refine zH (zQ (wL (p:=I) rfl) M)<| zH (yO (v:= .bool L) rfl rfl) ?_
    obtain rfl:=gI c
    exact zF (zB (meet ⟨(zL rfl zO),H.pick [0,1,2,3,4,5,6,7] (by decide)⟩))
   have c:=zU n c
   refine yI ?_
   refine yI ?_
   refine yI ?_
   refine yI ?_
   refine yI ?_
   refine yI ?_
   refine zH (yN (v:= .bool false) rfl rfl) ?_
   obtain rfl:=gI c
   exact zF (zB (meet ⟨(zL rfl zO),H.pick [0,1,2,3,4,5,6,7] (by decide)⟩))
  rintro ρ ae H
  have c:=F
  refine yS (b:=x) rfl rfl rfl (fun o=>?_) (fun o=>?_)
  ·have c:=zT o c
   refine yI ?_
   refine yI ?_
   refine yI ?_
   refine yI ?_
   refine yI ?_
   refine yI ?_
   refine yI ?_
   refine yI ?_
   refine yI ?_
   refine yI ?_
   refine zH (yO (v:= .bool true) rfl rfl) ?_
   obtain rfl:=gI c
   exact (zF (zB (meet ⟨(),(zL rfl zO),H.pick [0,4,5,6,1,2] (by decide)⟩)))
  have c:=zU o c
  refine zH (fa70_0 rfl)<| Ld fU H 7 0 rfl rfl ?_
  obtain ⟨P,Q,c⟩:=zG c
  refine zH (zQ (yT (a:=d.Kind) (b:=7) rfl rfl) Q)<| yS (b:=P) rfl rfl rfl (fun q=>?_) (fun q=>?_)
  ·have c:=zT q c
   refine Ld one48 H 2 0 rfl rfl<| zH (fa70_1 rfl)<| Ld bC H 7 1 rfl rfl ?_
   obtain ⟨R,T,c⟩:=zD c
   refine yA rfl rfl (aP en147 rfl rfl) (Fbsw d.Name f c1f1 h i k l j _ T _ _ _ (H.enter [0,1] [4,5,6] (by decide) rfl)) ?_
   rintro _ U ⟨rfl,V⟩
   have H:Hd _ _ U _ [.blk m [.func (.func 147) #[] #[gU h,gU j]] 48,f1 fD v1 d.Kids,f1 Rp.str i f.Phases,f1 fA k f.Moves,f1 fC l f.Rules,.blk t [i6 d.Kind,sb d.Name,sb d.Other,i6 d.Op,i6 d.N,i6 d.Frames,v1] 70,.blk h [i,k,l] 26,.blk j [i6 c1f1] 3]:=H.back [0,1] [4,5,6] rfl V
   refine ⟨_,rfl,?_⟩
   obtain ⟨y,X,c⟩:=zG c
   refine zH (zQ (wL (p:=R) rfl) X)<| zH (yO (v:= .bool y) rfl rfl)<| zH (yN (v:= .bool y) rfl rfl) ?_
   obtain rfl:=gI c
   exact (zF (zB (meet ⟨(),(zL rfl zO),H.pick [6,2,3,4,7,0] (by decide)⟩)))
  have c:=zU q c
  refine yI ?_
  refine yI ?_
  refine yI ?_
  refine yI ?_
  refine yI ?_
  refine zH (yN (v:= .bool false) rfl rfl)<| zH (yN (v:= .bool false) rfl rfl) ?_
  obtain rfl:=gI c
  exact (zF (zB (meet ⟨(),(zL rfl zO),H.pick [0,4,5,6,1,2] (by decide)⟩)))
 rintro _ ρ af H
 have c:=C
 refine yC (b:=u) rfl (fun s=>?_) (fun s=>?_)
 ·have c:=zT s c
  refine zC fun ag Y=>zA<| zK (i6 4)<| zF (zB (Y _ _ ?_))
  obtain rfl:=gI c
  refine (zY (zZ (fF (v1:=i6 4) rfl rfl ?_)))
  exact ⟨rfl,H.pick [0,4,5] (by decide)⟩
 have c:=zU s c
 refine yB (zB (B _ _ ?_))
 refine zC fun ah Z=>zA<| zK (i6 0)<| zF (zB (Z _ _ ?_))
 obtain rfl:=gI c
 refine (zY (fF (v1:=i6 0) rfl rfl ?_))
 exact ⟨rfl,H.pick [0,4,5] (by decide)⟩
abbrev Ff5 (f:Cond→Rules→Int→Option Int):Prop:= ∀(p0:Cond) (p1c0:Rules) (p1c1f1:Int) (v1:Value) (b3:Nat) (v4:Value) (v5:Value) (v6:Value) (b11:Nat) (b13:Nat) (r:Int) (_:f p0 p1c0 p1c1f1=some r) (O S:List Nat) (w:World) (_:Hd O w w S [.blk b3 [v4,v5,v6] 26,.blk b13 [i6 p1c1f1] 3,.blk b11 [.func (.func 147) #[] #[gU b3,gU b13]] 48,f1 fD v1 p0.Kids,f1 Rp.str v4 p1c0.Phases,f1 fA v5 p1c0.Moves,f1 fC v6 p1c0.Rules]),
  Cl 81 [.agg [i6 p0.Kind,sb p0.Name,sb p0.Other,i6 p0.Op,i6 p0.N,i6 p0.Frames,v1].toArray,.func (.func 150) #[] #[gU b3,gU b11]] w fun e w'=>e= .returned (i6 r)∧Hd O w w' S [.blk b3 [v4,v5,v6] 26,.blk b13 [i6 p1c1f1] 3,.blk b11 [.func (.func 147) #[] #[gU b3,gU b13]] 48]
theorem Fcsw (rfF:Cond→Rules→Int→Option Int)(rhF:Ff5 rfF)(f:Cond)(p1c0:Rules)(p1c1f1:Int)(v1:Value)(h:Nat)(k:Value)(l:Value)(m:Value)(n:Nat)(j:Nat)(r:Int)(c:Fcs rfF f p1c0 p1c1f1=some r)(O S:List Nat)(w:World)(H:Hd O w w S [.blk h [k,l,m] 26,.blk j [i6 p1c1f1] 3,.blk n [.func (.func 147) #[] #[gU h,gU j]] 48,f1 fD v1 f.Kids,f1 Rp.str k p1c0.Phases,f1 fA l p1c0.Moves,f1 fC m p1c0.Rules]):
  Cl 81 [.agg [i6 f.Kind,sb f.Name,sb f.Other,i6 f.Op,i6 f.N,i6 f.Frames,v1].toArray,.func (.func 150) #[] #[gU h,gU n]] w fun e C=>e= .returned (i6 r)∧Hd O w C S [.blk h [k,l,m] 26,.blk j [i6 p1c1f1] 3,.blk n [.func (.func 147) #[] #[gU h,gU j]] 48]:=by
 unfold Fcs at c
 refine zS 29 Tryz.func81 rfl rfl rfl ?_
 refine zC fun a1 D=>zA<| yP rfl rfl (xW (cs:=[i6 f.Kind,sb f.Name,sb f.Other,i6 f.Op,i6 f.N,i6 f.Frames,v1]) rfl H) ?_
 rintro _ a2 ⟨E,rfl,H⟩
 refine zK (i6 0)<| zF (zB (D _ _ ?_))
 refine zC fun a3 F=>?_
 refine zC fun a4 G=>zA<| zI (.func (.func 150) #[] #[gU h,gU n])<| zH (yJ (yM (cs:=[i6 f.Kind,sb f.Name,sb f.Other,i6 f.Op,i6 f.N,i6 f.Frames,v1]) dI rfl dB rfl (Hbc H 7 rfl)) rfl) ?_
 obtain ⟨p,I,c⟩:=zD c
 refine yA rfl rfl (aP en150 rfl rfl) (Fc0w f p1c0 p1c1f1 v1 h k l m n j _ I _ _ _ (H.enter [0,1,2] [3,4,5,6] (by decide) rfl)) ?_
 rintro _ J ⟨rfl,K⟩
 have H:Hd _ _ J _ [f1 fD v1 f.Kids,f1 Rp.str k p1c0.Phases,f1 fA l p1c0.Moves,f1 fC m p1c0.Rules,.blk E [i6 f.Kind,sb f.Name,sb f.Other,i6 f.Op,i6 f.N,i6 f.Frames,v1] 70,.blk h [k,l,m] 26,.blk j [i6 p1c1f1] 3,.blk n [.func (.func 147) #[] #[gU h,gU j]] 48]:=H.back [0,1,2] [3,4,5,6] rfl K
 refine ⟨_,rfl,?_⟩
 refine zK (i6 p)<| zF (zB (G _ _ ?_))
 refine zC fun a5 L=>zA<| zI (i6 p) ?_
 obtain ⟨M,P,c⟩:=zG c
 refine zH (zQ (dH (a:=p) (b:=0) rfl rfl) P)<| zF (zB (L _ _ ?_))
 refine yC (b:=M) rfl (fun t=>?_) (fun t=>?_)
 ·have c:=zT t c
  refine zC fun a6 Q=>zA<| zI (i6 p)<| zK (i6 p)<| zF (zB (Q _ _ ?_))
  obtain rfl:=gI c
  refine (zY (zZ (fF (v1:=i6 p) rfl rfl ?_)))
  exact ⟨rfl,H.pick [5,6,7] (by decide)⟩
 have c:=zU t c
 refine yB (zB (F _ _ ?_))
 obtain ⟨R,T,c⟩:=wJ c
 refine yL [4,7,8,15,16,17,18,19,20,21,22,23,24,25,26,27,28] (fun (g:Unit)=>[]) (fun g wl=>Hd O w wl S [f1 Rp.str k p1c0.Phases,f1 fA l p1c0.Moves,f1 fC m p1c0.Rules,.blk h [k,l,m] 26,.blk j [i6 p1c1f1] 3,.blk n [.func (.func 147) #[] #[gU h,gU j]] 48]∧R ()=some r) ?_ ?_
 ·skip
  refine zC fun a7 U=>zA<| zH (fa70_6 rfl)<| Ld one68 H 4 6 rfl rfl ?_
  obtain ⟨V,X,c⟩:=zG c
  obtain ⟨a8,a9,Y⟩:=SlF.len ((H.item (i:=0) rfl))
  refine zH (yJ (xN u68 Y) (congrArg (Value.int .i64) X))<| zI (i6 0)<| zF (zB (U _ _ ?_))
  refine yF ?_
  unfold Fft at c
  obtain ⟨Z,y,aa,c⟩:=yR c
  refine xG [4,7,8,18,19,20,21,22,23,24,25,26,27,28] (fun (g:Nat×Int)=>[(18,i6 g.2)]) (fun g wl=>Hd O w wl S [f1 fD v1 f.Kids,f1 Rp.str k p1c0.Phases,f1 fA l p1c0.Moves,f1 fC m p1c0.Rules,.blk h [k,l,m] 26,.blk j [i6 p1c1f1] 3,.blk n [.func (.func 147) #[] #[gU h,gU j]] 48]∧eF Z g.1 g.2=some r) (fun g=>g.1) (y,0) (zL rfl zO) ⟨H.pick [0,1,2,3,5,6,7] (by decide),c⟩ ?_
  clear H c
  rintro ⟨y,s⟩ ρ ba ⟨H,c⟩
  obtain ⟨ab,rfl,c⟩:=yX c
  have c:=yY aa c
  refine zC fun bb ac=>zA ?_
  obtain ⟨ad,ae,c⟩:=zG c
  refine zH (zQ (xR (a:=s) (b:=V) rfl rfl) ae)<| zF (zB (ac _ _ ?_))
  refine zC fun bc af=>?_
  refine yC (b:=ad) rfl (fun u=>?_) (fun u=>?_)
  ·have c:=zT u c
   refine yB (zB (af _ _ ?_))
   refine zC fun bd ag=>?_
   refine yF ?_
   refine zC fun be ah=>zA ?_
   obtain ⟨d,v,c⟩:=zD c
   obtain ⟨z,A,bf,bg,ai,aj,ak,al,am⟩:=dQ (H.item (i:=0) rfl) v
   obtain ⟨o,rfl,an⟩:=bQ aj
   have H:=H.fzs [.at z (A+s.toNat * 7) _,.sl fD o d.Kids] ⟨⟨ak,al,am⟩,an,trivial⟩
   refine zH (xJ u68 dB ai rfl (yE v).1 (yE v).2.1 rfl rfl)<| zH (yJ (yM (cs:=[i6 d.Kind,sb d.Name,sb d.Other,i6 d.Op,i6 d.N,i6 d.Frames,o]) dI rfl dB rfl (H.item (i:=7) rfl).2.2) rfl)<| yP rfl rfl (xH kF H) ?_
   rintro _ bh ⟨ao,rfl,H⟩
   refine yV rfl (yQ (vs:=[i6 d.Kind,sb d.Name,sb d.Other,i6 d.Op,i6 d.N,i6 d.Frames,o]) H 9 rfl dB rfl rfl rfl ⟨rfl,rfl,rfl,rfl,rfl,rfl,(wH (H.item (i:=8) rfl)),trivial⟩ rfl) ?_
   rintro bi H
   refine zF (zB (ah _ _ ?_))
   refine zC fun bj ap=>zA<| zH (yJ (yM (cs:=[i6 d.Kind,sb d.Name,sb d.Other,i6 d.Op,i6 d.N,i6 d.Frames,o]) dI rfl dB rfl (Hbc H 9 rfl)) rfl)<| zI (.func (.func 150) #[] #[gU h,gU n]) ?_
   obtain ⟨q,aq,c⟩:=zD c
   refine yA rfl rfl (zV en81 rfl) (rhF d p1c0 p1c1f1 o h k l m n j _ aq _ _ _ (H.enter [4,5,6] [8,1,2,3] (by decide) rfl)) ?_
   rintro _ ar ⟨rfl,au⟩
   have H:Hd _ _ ar _ [f1 fD v1 f.Kids,f1 Rp.str k p1c0.Phases,f1 fA l p1c0.Moves,f1 fC m p1c0.Rules,.fz (.at z (A+s.toNat * 7) [i6 d.Kind,sb d.Name,sb d.Other,i6 d.Op,i6 d.N,i6 d.Frames,o]),f1 fD o d.Kids,.blk ao [i6 d.Kind,sb d.Name,sb d.Other,i6 d.Op,i6 d.N,i6 d.Frames,o] 70,.blk h [k,l,m] 26,.blk j [i6 p1c1f1] 3,.blk n [.func (.func 147) #[] #[gU h,gU j]] 48]:=H.back [4,5,6] [8,1,2,3] rfl au
   refine ⟨_,rfl,?_⟩
   refine zK (i6 q)<| zF (zB (ap _ _ ?_))
   refine zC fun bk av=>zA<| zI (i6 q) ?_
   obtain ⟨aw,ax,c⟩:=zG c
   refine zH (zQ (dH (a:=q) (b:=0) rfl rfl) ax)<| zF (zB (av _ _ ?_))
   refine yC (b:=aw) rfl (fun x=>?_) (fun x=>?_)
   ·have c:=zT x c
    refine zC fun bl ay=>zA<| zI (i6 q)<| zK (i6 q)<| zF (zB (ay _ _ ?_))
    obtain rfl:=gI c
    refine (zY (yG (zZ (zZ (yG (zZ (fF (v1:=i6 q) rfl rfl ?_)))))))
    exact ⟨rfl,H.pick [7,8,9] (by decide)⟩
   have c:=zU x c
   refine (yB (yK (zB (ag _ _ ?_))))
   refine zA ?_
   obtain ⟨B,az,c⟩:=zG c
   refine zH (xQ (a:=s) (b:=1) rfl rfl az)<| zI (i6 B) ?_
   exact (zF (zB (meet ⟨(ab,B),(zL rfl zO),⟨H.pick [0,1,2,3,7,8,9] (by decide),c⟩,Nat.lt_succ_self _⟩)))
  have c:=zU u c
  exact (xK (yH (yH (yU (zB (meet ⟨(),zO,⟨H.pick [1,2,3,4,5,6] (by decide),c⟩⟩))))))
 rintro _ ρ bm ⟨H,c⟩
 have c:=dE T c
 refine zC fun bn a0=>zA<| zK (i6 0)<| zF (zB (a0 _ _ ?_))
 obtain rfl:=gI c
 refine (zY (fF (v1:=i6 0) rfl rfl ?_))
 exact ⟨rfl,H.pick [3,4,5] (by decide)⟩
theorem Fgy:Ff5 (Feq):=by
 have h: ∀n,Ff5 (Fbc n):=by
  intro n
  induction n with
  | zero=>intro b p1c0 p1c1f1 c d e f i j k r a; cases a
  | succ n ih=>intro b p1c0 p1c1f1 c d e f i j k r a; exact Fcsw (Fbc n) ih b p1c0 p1c1f1 c d e f i j k r a
 exact h FU
theorem Fcpw (h:Rules)(j:Int)(v1:Value)(k:Value)(l:Value)(r:Int)(d:Fcp h j=some r)(O S:List Nat)(w:World)(H:Hd O w w S [f1 Rp.str v1 h.Phases,f1 fA k h.Moves,f1 fC l h.Rules]):
  Cl 89 [.agg [v1,k,l].toArray,i6 j] w fun e E=>e= .returned (i6 r)∧Hd O w E S []:=by
 unfold Fcp at d
 refine zS 34 Tryz.func89 rfl rfl rfl ?_
 refine zC fun K7 F=>zA<| yP rfl rfl (xW (cs:=[v1,k,l]) rfl H) ?_
 rintro _ aw ⟨m,rfl,H⟩
 refine yP rfl rfl (Lx_box1 rfl rfl H) ?_
 rintro _ ax ⟨n,rfl,H⟩
 refine zK (i6 0)<| zF (zB (F _ _ ?_))
 refine zC fun ay G=>zA<| zH (fa26_2 rfl)<| Ld one24 H 3 2 rfl rfl<| Ld fU H 4 0 rfl rfl ?_
 obtain ⟨c,q,d⟩:=zD d
 obtain ⟨s,t,az,a0,I,J,K,L,M⟩:=dQ (H.item (i:=2) rfl) q
 obtain ⟨f,rfl,P⟩:=rRule_open J
 have H:=H.fzs [.at s (t+j.toNat * 8) _,.sl fD f c.When.Kids] ⟨⟨K,L,M⟩,P,trivial⟩
 refine zH (xJ u24 sz95 I rfl (yE q).1 (yE q).2.1 rfl rfl)<| zH (yJ (yM (cs:=[sb c.Name,i6 c.When.Kind,sb c.When.Name,sb c.When.Other,i6 c.When.Op,i6 c.When.N,i6 c.When.Frames,f]) agg95 rfl sz95 rfl (H.item (i:=5) rfl).2.2) rfl)<| yP rfl rfl (xH zero95 H) ?_
 rintro _ a1 ⟨A,rfl,H⟩
 refine yV rfl (yQ (vs:=[sb c.Name,i6 c.When.Kind,sb c.When.Name,sb c.When.Other,i6 c.When.Op,i6 c.When.N,i6 c.When.Frames,f]) H 7 rfl sz95 rfl rfl rfl ⟨rfl,rfl,rfl,rfl,rfl,rfl,rfl,(wH (H.item (i:=6) rfl)),trivial⟩ rfl) ?_
 rintro a2 H
 refine zF (zB (G _ _ ?_))
 refine zC fun a3 Q=>zA<| zH (cZ rfl)<| yP rfl rfl (xH zero48 H) ?_
 rintro _ a4 ⟨u,rfl,H⟩
 refine yV rfl (xE H 8 rfl sz48 rfl (v:= .func (.func 147) #[] #[gU m,gU n]) rfl rfl rfl) ?_
 rintro a5 H
 refine zF (zB (Q _ _ ?_))
 refine zC fun a6 R=>?_
 refine yF ?_
 refine zC fun a7 T=>zA<| zH (fa95_0 rfl)<| Ld bC H 7 0 rfl rfl ?_
 have U:=H
 obtain ⟨V,X,d⟩:=zD d
 refine yA rfl rfl (zV en86 rfl) (Fahw c.Name _ X _ _ _ (H.enter [] [] (by decide) rfl)) ?_
 rintro _ a8 ⟨rfl,Y⟩
 have H:=U.step (Y.only:Only [] _ _)
 refine ⟨_,rfl,?_⟩
 obtain ⟨B,Z,d⟩:=zG d
 refine zH (zQ (wL (p:=V) rfl) Z)<| zK (.bool B)<| zF (zB (T _ _ ?_))
 refine yC (b:=B) rfl (fun x=>?_) (fun x=>?_)
 ·have d:=zT x d
  refine zC fun a9 aa=>zA<| zK (i6 8)<| zF (zB (aa _ _ ?_))
  obtain rfl:=gI d
  refine (zY (yG (zZ (fF (v1:=i6 8) rfl rfl ?_))))
  exact ⟨rfl,H.pick [] (by decide)⟩
 have d:=zU x d
 refine zC fun ba ab=>zA<| Ld one48 H 8 0 rfl rfl<| zH (fa95_0 rfl)<| Ld bC H 7 0 rfl rfl ?_
 obtain ⟨C,ac,d⟩:=zD d
 refine yA rfl rfl (aP en147 rfl rfl) (Fbsw c.Name h j m v1 k l n _ ac _ _ _ (H.enter [3,4] [0,1,2] (by decide) rfl)) ?_
 rintro _ ad ⟨rfl,ae⟩
 have H:Hd _ _ ad _ [f1 Rp.str v1 h.Phases,f1 fA k h.Moves,f1 fC l h.Rules,.fz (.at s (t+j.toNat * 8) [sb c.Name,i6 c.When.Kind,sb c.When.Name,sb c.When.Other,i6 c.When.Op,i6 c.When.N,i6 c.When.Frames,f]),f1 fD f c.When.Kids,.blk A [sb c.Name,i6 c.When.Kind,sb c.When.Name,sb c.When.Other,i6 c.When.Op,i6 c.When.N,i6 c.When.Frames,f] 95,.blk u [.func (.func 147) #[] #[gU m,gU n]] 48,.blk m [v1,k,l] 26,.blk n [i6 j] 3]:=H.back [3,4] [0,1,2] rfl ae
 refine ⟨_,rfl,?_⟩
 refine zK (.bool C)<| zF (zB (ab _ _ ?_))
 refine yC (b:=C) rfl (fun y=>?_) (fun y=>?_)
 ·have d:=zT y d
  refine zC fun bb af=>zA<| zK (i6 5)<| zF (zB (af _ _ ?_))
  obtain rfl:=gI d
  refine (zY (yG (zZ (fF (v1:=i6 5) rfl rfl ?_))))
  exact ⟨rfl,H.pick [] (by decide)⟩
 have d:=zU y d
 refine (yB (yK (zB (R _ _ ?_))))
 refine zC fun bc ag=>?_
 refine zC fun bd ah=>zA<| zH (fa95_1 rfl)<| zH (yJ (yM (cs:=[i6 c.When.Kind,sb c.When.Name,sb c.When.Other,i6 c.When.Op,i6 c.When.N,i6 c.When.Frames,f]) dI rfl dB rfl (Cells.drop (Hbc H 5 rfl) 1 7)) rfl) ?_
 have ai:=H
 obtain ⟨o,aj,d⟩:=zD d
 refine yA rfl rfl (zV en29 rfl) (Fbtw c.When f _ aj _ _ _ (H.enter [] [4] (by decide) rfl)) ?_
 rintro _ be ⟨rfl,ak⟩
 have H:=ai.step (ak.only:Only [] _ _)
 refine ⟨_,rfl,?_⟩
 refine zK (i6 o)<| zF (zB (ah _ _ ?_))
 refine zC fun bf al=>zA<| zI (i6 o) ?_
 obtain ⟨am,an,d⟩:=zG d
 refine zH (zQ (dH (a:=o) (b:=0) rfl rfl) an)<| zF (zB (al _ _ ?_))
 refine yC (b:=am) rfl (fun z=>?_) (fun z=>?_)
 ·have d:=zT z d
  refine zC fun bg ao=>zA<| zI (i6 o)<| zK (i6 o)<| zF (zB (ao _ _ ?_))
  obtain rfl:=gI d
  refine (zY (zZ (fF (v1:=i6 o) rfl rfl ?_)))
  exact ⟨rfl,H.pick [] (by decide)⟩
 have d:=zU z d
 refine yB (zB (ag _ _ ?_))
 refine zC fun bh ap=>zA<| zH (fa95_1 rfl)<| zH (yJ (yM (cs:=[i6 c.When.Kind,sb c.When.Name,sb c.When.Other,i6 c.When.Op,i6 c.When.N,i6 c.When.Frames,f]) dI rfl dB rfl (Cells.drop (Hbc H 5 rfl) 1 7)) rfl)<| zH (cZ rfl) ?_
 obtain ⟨D,aq,d⟩:=zD d
 refine yA rfl rfl (zV en81 rfl) (Fgy c.When h j f m v1 k l u n _ aq _ _ _ (H.enter [7,8,6] [4,0,1,2] (by decide) rfl)) ?_
 rintro _ ar ⟨rfl,au⟩
 have H:Hd _ _ ar _ [f1 Rp.str v1 h.Phases,f1 fA k h.Moves,f1 fC l h.Rules,.fz (.at s (t+j.toNat * 8) [sb c.Name,i6 c.When.Kind,sb c.When.Name,sb c.When.Other,i6 c.When.Op,i6 c.When.N,i6 c.When.Frames,f]),f1 fD f c.When.Kids,.blk A [sb c.Name,i6 c.When.Kind,sb c.When.Name,sb c.When.Other,i6 c.When.Op,i6 c.When.N,i6 c.When.Frames,f] 95,.blk m [v1,k,l] 26,.blk n [i6 j] 3,.blk u [.func (.func 147) #[] #[gU m,gU n]] 48]:=H.back [7,8,6] [4,0,1,2] rfl au
 refine ⟨_,rfl,?_⟩
 refine zK (i6 D)<| zF (zB (ap _ _ ?_))
 obtain rfl:=gI d
 refine (zY (fF (v1:=i6 D) rfl rfl ?_))
 exact ⟨rfl,H.pick [] (by decide)⟩
set_option maxRecDepth 100000 in
theorem Fa1w (d:Rules)(v1:Value)(h:Value)(j:Value)(r:Int)(c:Fa1 d=some r)(O S:List Nat)(w:World)(H:Hd O w w S [f1 Rp.str v1 d.Phases,f1 fA h d.Moves,f1 fC j d.Rules]):
  Cl 31 [.agg [v1,h,j].toArray] w fun e X=>e= .returned (i6 r)∧Hd O w X S []:=by
 unfold Fa1 at c
 refine zS 71 Tryz.func31 rfl rfl rfl ?_
 refine zC fun K7 Y=>zA<| yP rfl rfl (xW (cs:=[v1,h,j]) rfl H) ?_
 rintro _ dp ⟨k,rfl,H⟩
 refine zK (i6 0)<| zF (zB (Y _ _ ?_))
 refine zC fun dq Z=>?_
 obtain ⟨J,c,aa⟩:=zD c
 refine yL [10,11,12,13,14,15,16,17,18,19,20,21,22,23,24,25] (fun (g:Unit)=>[(25,.bool J)]) (fun g wl=>Hd O w wl S [f1 Rp.str v1 d.Phases,f1 fA h d.Moves,f1 fC j d.Rules,.blk k [v1,h,j] 26]) ?_ ?_
 ·skip
  refine zA ?_
  refine zH (fa26_0 rfl)<| Ld one22 H 3 0 rfl rfl ?_
  obtain ⟨ab,ac,c⟩:=zG c
  obtain ⟨dr,ds,ad⟩:=SlF.len ((H.item (i:=0) rfl))
  refine zH (yJ (xN u22 ad) (congrArg (Value.int .i64) ac)) ?_
  obtain ⟨ae,af,c⟩:=zG c
  refine zH (zQ (kH (a:=ab) (b:=20) rfl rfl) af) ?_
  obtain ⟨K,c,ag⟩:=zD c
  refine bW 6 [14,15,16,17,18,19] [(19,.bool K)] (fun wl=>Hd O w wl S [f1 Rp.str v1 d.Phases,f1 fA h d.Moves,f1 fC j d.Rules,.blk k [v1,h,j] 26]) ?_ ?_
  ·skip
   refine yS (b:=ae) rfl rfl rfl (fun t=>?_) (fun t=>?_)
   ·have c:=zT t c
    refine yI ?_
    refine yI ?_
    refine yI ?_
    refine yI ?_
    refine zH (yO (v:= .bool true) rfl rfl) ?_
    obtain rfl:=gI c
    exact zF (zB (meet ⟨(zL rfl zO),H.pick [0,1,2,3] (by decide)⟩))
   have c:=zU t c
   refine zH (fa26_1 rfl)<| Ld one23 H 3 1 rfl rfl ?_
   obtain ⟨ah,ai,c⟩:=zG c
   obtain ⟨dt,du,aj⟩:=SlF.len ((H.item (i:=1) rfl))
   refine zH (yJ (xN u23 aj) (congrArg (Value.int .i64) ai)) ?_
   obtain ⟨ak,al,c⟩:=zG c
   refine zH (zQ (kH (a:=ah) (b:=60) rfl rfl) al)<| zH (yN (v:= .bool ak) rfl rfl) ?_
   obtain rfl:=gI c
   exact zF (zB (meet ⟨(zL rfl zO),H.pick [0,1,2,3] (by decide)⟩))
  rintro ρ dv H
  have c:=ag
  refine yS (b:=K) rfl rfl rfl (fun u=>?_) (fun u=>?_)
  ·have c:=zT u c
   refine yI ?_
   refine yI ?_
   refine yI ?_
   refine yI ?_
   refine zH (yO (v:= .bool true) rfl rfl) ?_
   obtain rfl:=gI c
   exact (zF (zB (meet ⟨(),(zL rfl zO),H.pick [0,1,2,3] (by decide)⟩)))
  have c:=zU u c
  refine zH (fa26_2 rfl)<| Ld one24 H 3 2 rfl rfl ?_
  obtain ⟨am,an,c⟩:=zG c
  obtain ⟨dw,dx,ao⟩:=SlF.len ((H.item (i:=2) rfl))
  refine zH (yJ (xN u24 ao) (congrArg (Value.int .i64) an)) ?_
  obtain ⟨ap,aq,c⟩:=zG c
  refine zH (zQ (kH (a:=am) (b:=60) rfl rfl) aq)<| zH (yN (v:= .bool ap) rfl rfl) ?_
  obtain rfl:=gI c
  exact (zF (zB (meet ⟨(),(zL rfl zO),H.pick [0,1,2,3] (by decide)⟩)))
 rintro _ ρ dy H
 have c:=aa
 refine yC (b:=J) rfl (fun x=>?_) (fun x=>?_)
 ·have c:=zT x c
  refine zC fun dz ar=>zA<| zK (i6 3)<| zF (zB (ar _ _ ?_))
  obtain rfl:=gI c
  refine (zY (zZ (fF (v1:=i6 3) rfl rfl ?_)))
  exact ⟨rfl,H.pick [] (by decide)⟩
 have c:=zU x c
 refine yB (zB (Z _ _ ?_))
 obtain ⟨au,av,c⟩:=wJ c
 refine yL [2,3,4,26,27,28,29,30,31,32,33,34,35,36,37,38,39,40,41,42,43] (fun (g:Unit)=>[]) (fun g wl=>Hd O w wl S [f1 Rp.str v1 d.Phases,f1 fA h d.Moves,f1 fC j d.Rules,.blk k [v1,h,j] 26]∧au ()=some r) ?_ ?_
 ·skip
  refine zC fun d0 aw=>zA<| zH (fa26_0 rfl)<| Ld one22 H 3 0 rfl rfl ?_
  obtain ⟨ax,ay,c⟩:=zG c
  obtain ⟨d1,d2,az⟩:=SlF.len ((H.item (i:=0) rfl))
  refine zH (yJ (xN u22 az) (congrArg (Value.int .i64) ay))<| zI (i6 0)<| zF (zB (aw _ _ ?_))
  refine yF ?_
  unfold Ffg at c
  obtain ⟨a0,L,a1,c⟩:=yR c
  refine xG [2,3,4,29,30,31,32,33,34,35,36,37,38,39,40,41,42,43] (fun (g:Nat×Int)=>[(29,i6 g.2)]) (fun g wl=>Hd O w wl S [f1 Rp.str v1 d.Phases,f1 fA h d.Moves,f1 fC j d.Rules,.blk k [v1,h,j] 26]∧eF a0 g.1 g.2=some r) (fun g=>g.1) (L,0) (zL rfl zO) ⟨H.pick [0,1,2,3] (by decide),c⟩ ?_
  clear H c
  rintro ⟨L,l⟩ ρ d3 ⟨H,c⟩
  obtain ⟨a2,rfl,c⟩:=yX c
  have c:=yY a1 c
  refine zC fun d4 a3=>zA ?_
  obtain ⟨a4,a5,c⟩:=zG c
  refine zH (zQ (xR (a:=l) (b:=ax) rfl rfl) a5)<| zF (zB (a3 _ _ ?_))
  refine zC fun d5 a6=>?_
  refine yC (b:=a4) rfl (fun y=>?_) (fun y=>?_)
  ·have c:=zT y c
   refine yB (zB (a6 _ _ ?_))
   refine zC fun d6 a7=>?_
   refine yF ?_
   refine zC fun d7 a8=>zA<| zI (i6 l) ?_
   obtain ⟨m,z,c⟩:=zD c
   obtain ⟨a9,ba,d8,bb,bc,bd,be,bf,bg⟩:=dQ (H.item (i:=0) rfl) z
   obtain rfl:bb= [sb m]:=bd
   have H:=H.fz (.at a9 (ba+l.toNat * 1) _) ⟨be,bf,bg⟩
   refine zH (xJ u22 sz9 bc rfl (yE z).1 (yE z).2.1 rfl rfl)<| zH (xA bC rfl (Cells.get (H.item (i:=4) rfl).2.2 (i:=0) rfl))<| zK (i6 l)<| zK (sb m)<| zF (zB (a8 _ _ ?_))
   refine zC fun d9 bh=>?_
   refine zC fun ea bi=>zA<| zI (sb m) ?_
   have bj:=H
   obtain ⟨bk,bl,c⟩:=zD c
   refine yA rfl rfl (zV en86 rfl) (Fahw m _ bl _ _ _ (H.enter [] [] (by decide) rfl)) ?_
   rintro _ eb ⟨rfl,bm⟩
   have H:=bj.step (bm.only:Only [] _ _)
   refine ⟨_,rfl,?_⟩
   obtain ⟨bn,bo,c⟩:=zG c
   refine zH (zQ (wL (p:=bk) rfl) bo)<| zF (zB (bi _ _ ?_))
   refine yC (b:=bn) rfl (fun A=>?_) (fun A=>?_)
   ·have c:=zT A c
    refine zC fun ec bp=>zA<| zK (i6 8)<| zF (zB (bp _ _ ?_))
    obtain rfl:=gI c
    refine (zY (zZ (yG (zZ (zZ (yG (zZ (fF (v1:=i6 8) rfl rfl ?_))))))))
    exact ⟨rfl,H.pick [] (by decide)⟩
   have c:=zU A c
   refine yB (zB (bh _ _ ?_))
   refine zC fun ed bq=>zA<| zH (fa26_0 rfl)<| Ld one22 H 3 0 rfl rfl<| zI (i6 l) ?_
   obtain ⟨M,br,c⟩:=zD c
   refine RL_exP rfl rfl (Lx_slice_h u22 sz9 (H.item (i:=0) rfl) rfl rfl br) ?_
   rintro P bt
   have H:=H.fz (.sl Rp.str P M) bt
   refine zI (sb m) ?_
   have bu:=H
   obtain ⟨bv,bw,c⟩:=zD c
   refine yA rfl rfl (zV en87 rfl) (Faxw M m P _ bw _ _ _ (H.enter [] [5] (by decide) rfl)) ?_
   rintro _ ee ⟨rfl,bx⟩
   have H:=bu.step (bx.only:Only [] _ _)
   refine ⟨_,rfl,?_⟩
   refine zF (zB (bq _ _ ?_))
   refine yC (b:=bv) rfl (fun B=>?_) (fun B=>?_)
   ·have c:=zT B c
    refine zC fun ef bz=>zA<| zK (i6 5)<| zF (zB (bz _ _ ?_))
    obtain rfl:=gI c
    refine (zY (yG (zZ (zZ (yG (zZ (fF (v1:=i6 5) rfl rfl ?_)))))))
    exact ⟨rfl,H.pick [] (by decide)⟩
   have c:=zU B c
   refine (yB (yK (zB (a7 _ _ ?_))))
   refine zA ?_
   obtain ⟨Q,b0,c⟩:=zG c
   refine zH (xQ (a:=l) (b:=1) rfl rfl b0)<| zI (i6 Q) ?_
   exact (zF (zB (meet ⟨(a2,Q),(zL rfl zO),⟨H.pick [0,1,2,3] (by decide),c⟩,Nat.lt_succ_self _⟩)))
  have c:=zU y c
  exact (xK (yH (yH (yU (zB (meet ⟨(),zO,⟨H.pick [0,1,2,3] (by decide),c⟩⟩))))))
 rintro _ ρ eg ⟨H,c⟩
 have c:=dE av c
 obtain ⟨b1,b2,c⟩:=wJ c
 refine yL [2,6,7,44,45,46,47,48,49,50,51,52,53,54,55,56,57] (fun (g:Unit)=>[]) (fun g wl=>Hd O w wl S [f1 Rp.str v1 d.Phases,f1 fA h d.Moves,f1 fC j d.Rules,.blk k [v1,h,j] 26]∧b1 ()=some r) ?_ ?_
 ·skip
  refine zC fun eh b3=>zA<| zH (fa26_1 rfl)<| Ld one23 H 3 1 rfl rfl ?_
  obtain ⟨b4,b5,c⟩:=zG c
  obtain ⟨ei,ej,b6⟩:=SlF.len ((H.item (i:=1) rfl))
  refine zH (yJ (xN u23 b6) (congrArg (Value.int .i64) b5))<| zI (i6 0)<| zF (zB (b3 _ _ ?_))
  refine yF ?_
  unfold Feb at c
  obtain ⟨b7,R,b8,c⟩:=yR c
  refine xG [2,6,7,47,48,49,50,51,52,53,54,55,56,57] (fun (g:Nat×Int)=>[(47,i6 g.2)]) (fun g wl=>Hd O w wl S [f1 Rp.str v1 d.Phases,f1 fA h d.Moves,f1 fC j d.Rules,.blk k [v1,h,j] 26]∧eF b7 g.1 g.2=some r) (fun g=>g.1) (R,0) (zL rfl zO) ⟨H.pick [0,1,2,3] (by decide),c⟩ ?_
  clear H c
  rintro ⟨R,C⟩ ρ ek ⟨H,c⟩
  obtain ⟨b9,rfl,c⟩:=yX c
  have c:=yY b8 c
  refine zC fun el ca=>zA ?_
  obtain ⟨cb,cc,c⟩:=zG c
  refine zH (zQ (xR (a:=C) (b:=b4) rfl rfl) cc)<| zF (zB (ca _ _ ?_))
  refine zC fun em cd=>?_
  refine yC (b:=cb) rfl (fun D=>?_) (fun D=>?_)
  ·have c:=zT D c
   refine yB (zB (cd _ _ ?_))
   refine zC fun en ce=>?_
   refine yF ?_
   refine zC fun eo cf=>zA ?_
   obtain ⟨f,E,c⟩:=zD c
   obtain ⟨cg,ch,ep,er,ci,cj,ck,cl,cm⟩:=dQ (H.item (i:=1) rfl) E
   obtain ⟨s,rfl,cn⟩:=rMoveT_open cj
   have H:=H.fzs [.at cg (ch+C.toNat * 9) _,.sl fD s f.When.Kids] ⟨⟨ck,cl,cm⟩,cn,trivial⟩
   refine zH (xJ u23 sz122 ci rfl (yE E).1 (yE E).2.1 rfl rfl)<| zH (yJ (yM (cs:=[sb f.From,sb f.To,i6 f.When.Kind,sb f.When.Name,sb f.When.Other,i6 f.When.Op,i6 f.When.N,i6 f.When.Frames,s]) agg122 rfl sz122 rfl (H.item (i:=4) rfl).2.2) rfl)<| yP rfl rfl (xH zero122 H) ?_
   rintro _ es ⟨et,rfl,H⟩
   refine yV rfl (yQ (vs:=[sb f.From,sb f.To,i6 f.When.Kind,sb f.When.Name,sb f.When.Other,i6 f.When.Op,i6 f.When.N,i6 f.When.Frames,s]) H 6 rfl sz122 rfl rfl rfl ⟨rfl,rfl,rfl,rfl,rfl,rfl,rfl,rfl,(wH (H.item (i:=5) rfl)),trivial⟩ rfl) ?_
   rintro eu H
   refine zF (zB (cf _ _ ?_))
   refine zC fun ew co=>zA<| zH (yJ (yM (cs:=[v1,h,j]) agg26 rfl sz26 rfl (Hbc H 3 rfl)) rfl)<| zH (yJ (yM (cs:=[sb f.From,sb f.To,i6 f.When.Kind,sb f.When.Name,sb f.When.Other,i6 f.When.Op,i6 f.When.N,i6 f.When.Frames,s]) agg122 rfl sz122 rfl (Hbc H 6 rfl)) rfl) ?_
   have cp:=H
   obtain ⟨n,cq,c⟩:=zD c
   refine yA rfl rfl (zV en88 rfl) (Fctw d f v1 h j s _ cq _ _ _ (H.enter [] [0,1,2,5] (by decide) rfl)) ?_
   rintro _ ex ⟨rfl,cr⟩
   have H:=cp.step (cr.only:Only [] _ _)
   refine ⟨_,rfl,?_⟩
   refine zK (i6 n)<| zF (zB (co _ _ ?_))
   refine zC fun ey ct=>zA<| zI (i6 n) ?_
   obtain ⟨cu,cv,c⟩:=zG c
   refine zH (zQ (dH (a:=n) (b:=0) rfl rfl) cv)<| zF (zB (ct _ _ ?_))
   refine yC (b:=cu) rfl (fun F=>?_) (fun F=>?_)
   ·have c:=zT F c
    refine zC fun ez cw=>zA<| zI (i6 n)<| zK (i6 n)<| zF (zB (cw _ _ ?_))
    obtain rfl:=gI c
    refine (zY (yG (zZ (zZ (yG (zZ (fF (v1:=i6 n) rfl rfl ?_)))))))
    exact ⟨rfl,H.pick [] (by decide)⟩
   have c:=zU F c
   refine (yB (yK (zB (ce _ _ ?_))))
   refine zA ?_
   obtain ⟨T,cx,c⟩:=zG c
   refine zH (xQ (a:=C) (b:=1) rfl rfl cx)<| zI (i6 T) ?_
   exact (zF (zB (meet ⟨(b9,T),(zL rfl zO),⟨H.pick [0,1,2,3] (by decide),c⟩,Nat.lt_succ_self _⟩)))
  have c:=zU D c
  exact (xK (yH (yH (yU (zB (meet ⟨(),zO,⟨H.pick [0,1,2,3] (by decide),c⟩⟩))))))
 rintro _ ρ e0 ⟨H,c⟩
 have c:=dE b2 c
 obtain ⟨cy,cz,c⟩:=wJ c
 refine yL [2,8,9,58,59,60,61,62,63,64,65,66,67,68,69,70] (fun (g:Unit)=>[]) (fun g wl=>Hd O w wl S []∧cy ()=some r) ?_ ?_
 ·skip
  refine zC fun e1 c0=>zA<| zH (fa26_2 rfl)<| Ld one24 H 3 2 rfl rfl ?_
  obtain ⟨c1,c2,c⟩:=zG c
  obtain ⟨e2,e3,c3⟩:=SlF.len ((H.item (i:=2) rfl))
  refine zH (yJ (xN u24 c3) (congrArg (Value.int .i64) c2))<| zI (i6 0)<| zF (zB (c0 _ _ ?_))
  refine yF ?_
  unfold Ff7 at c
  obtain ⟨c4,U,c5,c⟩:=yR c
  refine xG [2,8,9,61,62,63,64,65,66,67,68,69,70] (fun (g:Nat×Int)=>[(61,i6 g.2)]) (fun g wl=>Hd O w wl S [f1 Rp.str v1 d.Phases,f1 fA h d.Moves,f1 fC j d.Rules,.blk k [v1,h,j] 26]∧eF c4 g.1 g.2=some r) (fun g=>g.1) (U,0) (zL rfl zO) ⟨H.pick [0,1,2,3] (by decide),c⟩ ?_
  clear H c
  rintro ⟨U,o⟩ ρ e4 ⟨H,c⟩
  obtain ⟨c6,rfl,c⟩:=yX c
  have c:=yY c5 c
  refine zC fun e5 c7=>zA ?_
  obtain ⟨c8,c9,c⟩:=zG c
  refine zH (zQ (xR (a:=o) (b:=c1) rfl rfl) c9)<| zF (zB (c7 _ _ ?_))
  refine zC fun e6 da=>?_
  refine yC (b:=c8) rfl (fun G=>?_) (fun G=>?_)
  ·have c:=zT G c
   refine yB (zB (da _ _ ?_))
   refine zC fun e7 db=>?_
   refine yF ?_
   refine zC fun e8 dc=>zA<| zI (i6 o)<| zK (i6 o)<| zF (zB (dc _ _ ?_))
   refine zC fun e9 dd=>zA<| zH (yJ (yM (cs:=[v1,h,j]) agg26 rfl sz26 rfl (Hbc H 3 rfl)) rfl)<| zI (i6 o) ?_
   have de:=H
   obtain ⟨q,df,c⟩:=zD c
   refine yA rfl rfl (zV en89 rfl) (Fcpw d o v1 h j _ df _ _ _ (H.enter [] [0,1,2] (by decide) rfl)) ?_
   rintro _ fa ⟨rfl,dg⟩
   have H:=de.step (dg.only:Only [] _ _)
   refine ⟨_,rfl,?_⟩
   refine zK (i6 q)<| zF (zB (dd _ _ ?_))
   refine zC fun fb dh=>zA<| zI (i6 q) ?_
   obtain ⟨di,dj,c⟩:=zG c
   refine zH (zQ (dH (a:=q) (b:=0) rfl rfl) dj)<| zF (zB (dh _ _ ?_))
   refine yC (b:=di) rfl (fun I=>?_) (fun I=>?_)
   ·have c:=zT I c
    refine zC fun fc dk=>zA<| zI (i6 q)<| zK (i6 q)<| zF (zB (dk _ _ ?_))
    obtain rfl:=gI c
    refine (zY (yG (zZ (zZ (yG (zZ (fF (v1:=i6 q) rfl rfl ?_)))))))
    exact ⟨rfl,H.pick [] (by decide)⟩
   have c:=zU I c
   refine (yB (yK (zB (db _ _ ?_))))
   refine zA ?_
   obtain ⟨V,dl,c⟩:=zG c
   refine zH (xQ (a:=o) (b:=1) rfl rfl dl)<| zI (i6 V) ?_
   exact (zF (zB (meet ⟨(c6,V),(zL rfl zO),⟨H.pick [0,1,2,3] (by decide),c⟩,Nat.lt_succ_self _⟩)))
  have c:=zU G c
  exact (xK (yH (yH (yU (zB (meet ⟨(),zO,⟨H.pick [] (by decide),c⟩⟩))))))
 rintro _ ρ fd ⟨H,c⟩
 have c:=dE cz c
 refine zC fun fe dm=>zA<| zK (i6 0)<| zF (zB (dm _ _ ?_))
 obtain rfl:=gI c
 refine (zY (fF (v1:=i6 0) rfl rfl ?_))
 exact ⟨rfl,H.pick [] (by decide)⟩
theorem Fd5w (a:fP)(b:fP)(v1:Value)(d:Nat)(f:Value)(r:Bool)(c:Fd5 a b=some r)(O S:List Nat)(w:World)(H:Hd O w w S [.blk d [sb b.Name,i6 b.Series.Den,f,i6 b.Long] 37,f1 dC v1 a.Series.Samples,f1 dC f b.Series.Samples]):
  Cl 138 [.agg [sb a.Name,i6 a.Series.Den,v1,i6 a.Long].toArray,gU d] w fun e i=>e= .returned (.bool r)∧Hd O w i S [.blk d [sb b.Name,i6 b.Series.Den,f,i6 b.Long] 37]:=by
 unfold Fd5 at c
 refine zS 9 Tryz.func138 rfl rfl rfl ?_
 refine zC fun m j=>zA<| yP rfl rfl (xW (cs:=[sb a.Name,i6 a.Series.Den,v1,i6 a.Long]) rfl H) ?_
 rintro _ n ⟨o,rfl,H⟩
 refine zK (.bool false)<| zF (zB (j _ _ ?_))
 refine zC fun p k=>zA<| zH (fa37_0 rfl)<| Ld bC H 3 0 rfl rfl<| zH (fa37_0 rfl)<| Ld bC H 0 0 rfl rfl ?_
 obtain ⟨h,l,c⟩:=zG c
 refine zH (zQ (wE (s1:=a.Name) (s2:=b.Name) rfl rfl) l)<| zK (.bool h)<| zF (zB (k _ _ ?_))
 obtain rfl:=gI c
 refine (zY (fF (v1:= .bool h) rfl rfl ?_))
 exact ⟨rfl,H.pick [0] (by decide)⟩
theorem Fb6w (l:List fP)(p1c0:fP)(v1:Value)(j:Nat)(d:Value)(r:Int)(c:Fb6 l p1c0=some r)(O S:List Nat)(w:World)(H:Hd O w w S [.blk j [sb p1c0.Name,i6 p1c0.Series.Den,d,i6 p1c0.Long] 37,f1 eU v1 l,f1 dC d p1c0.Series.Samples]):
  Cl 189 [v1,.func (.func 138) #[] #[gU j]] w fun e u=>e= .returned (i6 r)∧Hd O w u S [.blk j [sb p1c0.Name,i6 p1c0.Series.Den,d,i6 p1c0.Long] 37]:=by
 unfold Fb6 at c
 refine zS 19 Tryz.func189 rfl rfl rfl ?_
 refine zC fun K7 v=>zA<| zK (i6 0)<| zF (zB (v _ _ ?_))
 obtain ⟨x,y,c⟩:=wJ c
 refine yL [4,5,6,7,8,9,10,11,12,13,14,15,16,17,18] (fun (g:Unit)=>[]) (fun g wl=>Hd O w wl S [.blk j [sb p1c0.Name,i6 p1c0.Series.Den,d,i6 p1c0.Long] 37,f1 dC d p1c0.Series.Samples]∧x ()=some r) ?_ ?_
 ·skip
  refine zC fun af z=>zA<| zI v1 ?_
  obtain ⟨A,B,c⟩:=zG c
  obtain ⟨ag,ah,C⟩:=SlF.len ((H.item (i:=1) rfl))
  refine zH (yJ (xN u27 C) (congrArg (Value.int .i64) B))<| zI (i6 0)<| zF (zB (z _ _ ?_))
  refine yF ?_
  unfold Fe5 at c
  obtain ⟨D,p,E,c⟩:=yR c
  refine xG [4,5,8,9,10,11,12,13,14,15,16,17,18] (fun (g:Nat×Int)=>[(8,i6 g.2)]) (fun g wl=>Hd O w wl S [.blk j [sb p1c0.Name,i6 p1c0.Series.Den,d,i6 p1c0.Long] 37,f1 dC d p1c0.Series.Samples,f1 eU v1 l]∧eF D g.1 g.2=some r) (fun g=>g.1) (p,0) (zL rfl zO) ⟨H.pick [0,2,1] (by decide),c⟩ ?_
  clear H c
  rintro ⟨p,f⟩ ρ ai ⟨H,c⟩
  obtain ⟨F,rfl,c⟩:=yX c
  have c:=yY E c
  refine zC fun aj G=>zA ?_
  obtain ⟨I,J,c⟩:=zG c
  refine zH (zQ (xR (a:=f) (b:=A) rfl rfl) J)<| zF (zB (G _ _ ?_))
  refine zC fun ak K=>?_
  refine yC (b:=I) rfl (fun m=>?_) (fun m=>?_)
  ·have c:=zT m c
   refine yB (zB (K _ _ ?_))
   refine zC fun al L=>?_
   refine yF ?_
   refine zC fun am M=>zA<| zI (i6 f)<| zK (i6 f)<| zF (zB (M _ _ ?_))
   refine zC fun an N=>zA<| zI (.func (.func 138) #[] #[gU j])<| zI v1<| zI (i6 f) ?_
   obtain ⟨h,n,c⟩:=zD c
   obtain ⟨q,s,ao,ap,P,Q,R,T,U⟩:=dQ (H.item (i:=2) rfl) n
   obtain ⟨k,rfl,V⟩:=rTrack_open Q
   have H:=H.fzs [.at q (s+f.toNat * 4) _,.sl dC k h.Series.Samples] ⟨⟨R,T,U⟩,V,trivial⟩
   refine zH (xJ u27 sz37 P rfl (yE n).1 (yE n).2.1 rfl rfl)<| zH (yJ (yM (cs:=[sb h.Name,i6 h.Series.Den,k,i6 h.Long]) agg37 rfl sz37 rfl (H.item (i:=3) rfl).2.2) rfl) ?_
   obtain ⟨X,Y,c⟩:=zD c
   refine yA rfl rfl (aP en138 rfl rfl) (Fd5w h p1c0 k j d _ Y _ _ _ (H.enter [0] [4,1] (by decide) rfl)) ?_
   rintro _ Z ⟨rfl,aa⟩
   have H:Hd _ _ Z _ [f1 dC d p1c0.Series.Samples,f1 eU v1 l,.fz (.at q (s+f.toNat * 4) [sb h.Name,i6 h.Series.Den,k,i6 h.Long]),f1 dC k h.Series.Samples,.blk j [sb p1c0.Name,i6 p1c0.Series.Den,d,i6 p1c0.Long] 37]:=H.back [0] [4,1] rfl aa
   refine ⟨_,rfl,?_⟩
   refine zF (zB (N _ _ ?_))
   refine yC (b:=X) rfl (fun o=>?_) (fun o=>?_)
   ·have c:=zT o c
    refine zC fun aq ab=>zA<| zI (i6 f)<| zK (i6 f)<| zF (zB (ab _ _ ?_))
    obtain rfl:=gI c
    refine (zY (yG (zZ (zZ (yG (zZ (fF (v1:=i6 f) rfl rfl ?_)))))))
    exact ⟨rfl,H.pick [4] (by decide)⟩
   have c:=zU o c
   refine (yB (yK (zB (L _ _ ?_))))
   refine zA ?_
   obtain ⟨t,ac,c⟩:=zG c
   refine zH (xQ (a:=f) (b:=1) rfl rfl ac)<| zI (i6 t) ?_
   exact (zF (zB (meet ⟨(F,t),(zL rfl zO),⟨H.pick [4,0,1] (by decide),c⟩,Nat.lt_succ_self _⟩)))
  have c:=zU m c
  exact (xK (yH (yH (yU (zB (meet ⟨(),zO,⟨H.pick [0,1] (by decide),c⟩⟩))))))
 rintro _ ρ ar ⟨H,c⟩
 have c:=dE y c
 refine zC fun au ad=>zA<| zK (i6 (-1))<| zF (zB (ad _ _ ?_))
 obtain rfl:=gI c
 refine (zY (fF (v1:=i6 (-1)) rfl rfl ?_))
 exact ⟨rfl,H.pick [0] (by decide)⟩
theorem Fc1w (h:List fP)(p1c0:fP)(v1:Value)(c:Nat)(d:Value)(r:Bool)(f:Fc1 h p1c0=some r)(O S:List Nat)(w:World)(H:Hd O w w S [.blk c [sb p1c0.Name,i6 p1c0.Series.Den,d,i6 p1c0.Long] 37,f1 eU v1 h,f1 dC d p1c0.Series.Samples]):
  Cl 134 [v1,.func (.func 138) #[] #[gU c]] w fun e j=>e= .returned (.bool r)∧Hd O w j S [.blk c [sb p1c0.Name,i6 p1c0.Series.Den,d,i6 p1c0.Long] 37]:=by
 unfold Fc1 at f
 refine zS 9 Tryz.func134 rfl rfl rfl ?_
 refine zC fun s k=>zA<| zK (.bool false)<| zF (zB (k _ _ ?_))
 refine zC fun t l=>zA<| zI v1<| zI (.func (.func 138) #[] #[gU c]) ?_
 obtain ⟨m,n,f⟩:=zD f
 refine yA rfl rfl (zV en189 rfl) (Fb6w h p1c0 v1 c d _ n _ _ _ (H.enter [0] [1,2] (by decide) rfl)) ?_
 rintro _ o ⟨rfl,p⟩
 have H:Hd _ _ o _ [f1 eU v1 h,f1 dC d p1c0.Series.Samples,.blk c [sb p1c0.Name,i6 p1c0.Series.Den,d,i6 p1c0.Long] 37]:=H.back [0] [1,2] rfl p
 refine ⟨_,rfl,?_⟩
 obtain ⟨i,q,f⟩:=zG f
 refine zH (zQ (Do_geq (a:=m) (b:=0) rfl rfl) q)<| zK (.bool i)<| zF (zB (l _ _ ?_))
 obtain rfl:=gI f
 refine (zY (fF (v1:= .bool i) rfl rfl ?_))
 exact ⟨rfl,H.pick [2] (by decide)⟩
theorem Favw (d:Int)(f:Int)(h:Int)(r:Bool)(c:Fav d f h=some r)(O S:List Nat)(w:World)(H:Hd O w w S []):
  Cl 226 [i6 d,i6 f,i6 h] w fun e l=>e= .returned (.bool r)∧Hd O w l S []:=by
 unfold Fav at c
 refine zS 15 Tryz.func226 rfl rfl rfl ?_
 refine zC fun s m=>zA<| zK (.bool false)<| zF (zB (m _ _ ?_))
 obtain ⟨j,c,n⟩:=zD c
 refine yL [6,7,8,9,10,11,12,13,14] (fun (g:Unit)=>[(6,.bool j)]) (fun g wl=>Hd O w wl S []) ?_ ?_
 ·skip
  refine zA ?_
  refine zI (i6 d)<| zI (i6 f) ?_
  obtain ⟨o,p,c⟩:=zG c
  refine zH (zQ (Do_geq (a:=d) (b:=f) rfl rfl) p)<| yS (b:=o) rfl rfl rfl (fun i=>?_) (fun i=>?_)
  ·have c:=zT i c
   refine zI (i6 d)<| zI (i6 h) ?_
   obtain ⟨k,q,c⟩:=zG c
   refine zH (zQ (Do_leq (a:=d) (b:=h) rfl rfl) q)<| zH (yO (v:= .bool k) rfl rfl)<| zK (.bool k) ?_
   obtain rfl:=gI c
   exact (zF (zB (meet ⟨(),(zL rfl zO),H.pick [] (by decide)⟩)))
  have c:=zU i c
  refine yI ?_
  refine yI ?_
  refine yI ?_
  refine zH (yN (v:= .bool false) rfl rfl)<| zK (.bool false) ?_
  obtain rfl:=gI c
  exact (zF (zB (meet ⟨(),(zL rfl zO),H.pick [] (by decide)⟩)))
 rintro _ ρ t H
 have c:=n
 obtain rfl:=gI c
 refine (zY (fF (v1:= .bool j) rfl rfl ?_))
 exact ⟨rfl,H.pick [] (by decide)⟩
set_option maxRecDepth 100000 in
theorem Fcfw (h:Series)(v1:Value)(r:Int×Int)(c:Fcf h=some r)(O S:List Nat)(w:World)(H:Hd O w w S [f1 dC v1 h.Samples]):
  Cl 191 [.agg [i6 h.Den,v1].toArray] w fun e B=>e= .returned (.tuple #[i6 r.1,i6 r.2])∧Hd O w B S []:=by
 unfold Fcf at c
 refine zS 67 Tryz.func191 rfl rfl rfl ?_
 refine zC fun K3 R=>zA<| yP rfl rfl (xW (cs:=[i6 h.Den,v1]) rfl H) ?_
 rintro _ w6 ⟨j,rfl,H⟩
 refine zK (i6 0)<| zK (i6 0)<| zF (zB (R _ _ ?_))
 refine zC fun ci T=>?_
 refine zC fun cj U=>zA<| zH (fa35_0 rfl)<| Ld fU H 1 0 rfl rfl ?_
 have V:=H
 obtain ⟨X,Y,c⟩:=zD c
 refine yA rfl rfl (zV en226 rfl) (Favw h.Den 1 1000000 _ Y _ _ _ (H.enter [] [] (by decide) rfl)) ?_
 rintro _ ck ⟨rfl,Z⟩
 have H:=V.step (Z.only:Only [] _ _)
 refine ⟨_,rfl,?_⟩
 obtain ⟨aa,ab,c⟩:=zG c
 refine zH (zQ (wL (p:=X) rfl) ab)<| zF (zB (U _ _ ?_))
 refine yC (b:=aa) rfl (fun k=>?_) (fun k=>?_)
 ·have c:=zT k c
  refine zC fun cl ac=>zA<| zK (i6 (-1))<| zK (i6 9)<| zF (zB (ac _ _ ?_))
  obtain rfl:=gI c
  refine (zY (zZ (post2 (v1:=i6 (-1)) (v2:=i6 9) rfl rfl rfl ?_)))
  exact ⟨rfl,H.pick [] (by decide)⟩
 have c:=zU k c
 refine yB (zB (T _ _ ?_))
 refine zC fun cm ad=>?_
 refine zC fun cn ae=>zA<| zH (fa35_1 rfl)<| Ld one33 H 1 1 rfl rfl ?_
 obtain ⟨af,ag,c⟩:=zG c
 obtain ⟨co,cp,ah⟩:=SlF.len ((H.item (i:=0) rfl))
 refine zH (yJ (xN u33 ah) (congrArg (Value.int .i64) ag)) ?_
 obtain ⟨ai,aj,c⟩:=zG c
 refine zH (zQ (kH (a:=af) (b:=20000) rfl rfl) aj)<| zF (zB (ae _ _ ?_))
 refine yC (b:=ai) rfl (fun l=>?_) (fun l=>?_)
 ·have c:=zT l c
  refine zC fun cq ak=>zA<| zK (i6 (-1))<| zK (i6 3)<| zF (zB (ak _ _ ?_))
  obtain rfl:=gI c
  refine (zY (zZ (post2 (v1:=i6 (-1)) (v2:=i6 3) rfl rfl rfl ?_)))
  exact ⟨rfl,H.pick [] (by decide)⟩
 have c:=zU l c
 refine yB (zB (ad _ _ ?_))
 obtain ⟨al,am,c⟩:=wJ c
 refine yL [2,3,4,5,14,15,16,17,18,19,20,21,22,23,24,25,26,27,28,29,30,31,32,33,34,35,36,37,38,39,40,41,42,43,44,45,46,47,48,49,50,51,52,53,54,55,56,57,58,59,60,61,62,63,64,65,66] (fun (g:Unit)=>[]) (fun g wl=>Hd O w wl S []∧al ()=some r) ?_ ?_
 ·skip
  refine zC fun cr an=>zA<| zH (fa35_1 rfl)<| Ld one33 H 1 1 rfl rfl ?_
  obtain ⟨ao,ap,c⟩:=zG c
  obtain ⟨ct,cu,aq⟩:=SlF.len ((H.item (i:=0) rfl))
  refine zH (yJ (xN u33 aq) (congrArg (Value.int .i64) ap))<| zI (i6 0)<| zF (zB (an _ _ ?_))
  refine yF ?_
  unfold Fdh at c
  obtain ⟨ar,C,au,c⟩:=yR c
  refine xG [2,3,4,5,17,18,19,20,21,22,23,24,25,26,27,28,29,30,31,32,33,34,35,36,37,38,39,40,41,42,43,44,45,46,47,48,49,50,51,52,53,54,55,56,57,58,59,60,61,62,63,64,65,66] (fun (g:Nat×Int)=>[(17,i6 g.2)]) (fun g wl=>Hd O w wl S [f1 dC v1 h.Samples,.blk j [i6 h.Den,v1] 35]∧eF ar g.1 g.2=some r) (fun g=>g.1) (C,0) (zL rfl zO) ⟨H.pick [0,1] (by decide),c⟩ ?_
  clear H c
  rintro ⟨C,f⟩ ρ cv ⟨H,c⟩
  obtain ⟨av,rfl,c⟩:=yX c
  have c:=yY au c
  refine zC fun cw aw=>zA ?_
  obtain ⟨ax,ay,c⟩:=zG c
  refine zH (zQ (xR (a:=f) (b:=ao) rfl rfl) ay)<| zF (zB (aw _ _ ?_))
  refine zC fun cx az=>?_
  refine yC (b:=ax) rfl (fun m=>?_) (fun m=>?_)
  ·have c:=zT m c
   refine yB (zB (az _ _ ?_))
   refine zC fun cy a0=>?_
   refine yF ?_
   refine zC fun cz a1=>zA<| zI (i6 f) ?_
   obtain ⟨d,n,c⟩:=zD c
   obtain ⟨D,E,c0,c1,a2,a3,a4,a5,a6⟩:=dQ (H.item (i:=0) rfl) n
   obtain rfl:=rSample_open a3
   have H:=H.fz (.at D (E+f.toNat * 3) _) ⟨a4,a5,a6⟩
   refine zH (xJ u33 sz40 a2 rfl (yE n).1 (yE n).2.1 rfl rfl)<| zH (yJ (yM (cs:=[i6 d.At,i6 d.N,i6 d.Mark]) agg40 rfl sz40 rfl (H.item (i:=2) rfl).2.2) rfl)<| yP rfl rfl (xH zero40 H) ?_
   rintro _ c2 ⟨o,rfl,H⟩
   refine zK (i6 f)<| yV rfl (yQ (vs:=[i6 d.At,i6 d.N,i6 d.Mark]) H 3 rfl sz40 rfl rfl rfl ⟨rfl,rfl,rfl,trivial⟩ rfl) ?_
   rintro c3 H
   refine zF (zB (a1 _ _ ?_))
   refine yF ?_
   obtain ⟨F,c,a7⟩:=zD c
   refine yL [22,23,24,25,26,27,28,29,30,31,32,33,34,35,36,37,38] (fun (g:Unit)=>[(22,.bool F)]) (fun g wl=>Hd O w wl S [f1 dC v1 h.Samples,.blk j [i6 h.Den,v1] 35,.blk o [i6 d.At,i6 d.N,i6 d.Mark] 40]) ?_ ?_
   ·skip
    refine zA ?_
    refine zH (fa40_0 rfl)<| Ld fU H 3 0 rfl rfl ?_
    have a8:=H
    obtain ⟨a9,ba,c⟩:=zD c
    refine yA rfl rfl (zV en226 rfl) (Favw d.At 0 1099511627776 _ ba _ _ _ (H.enter [] [] (by decide) rfl)) ?_
    rintro _ c4 ⟨rfl,bb⟩
    have H:=a8.step (bb.only:Only [] _ _)
    refine ⟨_,rfl,?_⟩
    obtain ⟨bc,bd,c⟩:=zG c
    refine zH (zQ (wL (p:=a9) rfl) bd) ?_
    obtain ⟨G,c,be⟩:=zD c
    refine bW 6 [27,28,29,30,31,32] [(32,.bool G)] (fun wl=>Hd O w wl S [f1 dC v1 h.Samples,.blk j [i6 h.Den,v1] 35,.fz (.at D (E+f.toNat * 3) [i6 d.At,i6 d.N,i6 d.Mark]),.blk o [i6 d.At,i6 d.N,i6 d.Mark] 40]) ?_ ?_
    ·skip
     refine yS (b:=bc) rfl rfl rfl (fun q=>?_) (fun q=>?_)
     ·have c:=zT q c
      refine yI ?_
      refine yI ?_
      refine yI ?_
      refine yI ?_
      refine zH (yO (v:= .bool true) rfl rfl) ?_
      obtain rfl:=gI c
      exact zF (zB (meet ⟨(zL rfl zO),H.pick [0,1,2,3] (by decide)⟩))
     have c:=zU q c
     refine zH (fa40_1 rfl)<| Ld fU H 3 1 rfl rfl ?_
     have bf:=H
     obtain ⟨bg,bh,c⟩:=zD c
     refine yA rfl rfl (zV en226 rfl) (Favw d.N (-1125899906842624) 1125899906842624 _ bh _ _ _ (H.enter [] [] (by decide) rfl)) ?_
     rintro _ c5 ⟨rfl,bi⟩
     have H:=bf.step (bi.only:Only [] _ _)
     refine ⟨_,rfl,?_⟩
     obtain ⟨bj,bk,c⟩:=zG c
     refine zH (zQ (wL (p:=bg) rfl) bk)<| zH (yN (v:= .bool bj) rfl rfl) ?_
     obtain rfl:=gI c
     exact zF (zB (meet ⟨(zL rfl zO),H.pick [0,1,2,3] (by decide)⟩))
    rintro ρ c6 H
    have c:=be
    refine yS (b:=G) rfl rfl rfl (fun s=>?_) (fun s=>?_)
    ·have c:=zT s c
     refine yI ?_
     refine yI ?_
     refine yI ?_
     refine yI ?_
     refine zH (yO (v:= .bool true) rfl rfl)<| zK (.bool true) ?_
     obtain rfl:=gI c
     exact (zF (zB (meet ⟨(),(zL rfl zO),H.pick [0,1,3] (by decide)⟩)))
    have c:=zU s c
    refine zH (fa40_2 rfl)<| Ld fU H 3 2 rfl rfl ?_
    have bl:=H
    obtain ⟨bm,bn,c⟩:=zD c
    refine yA rfl rfl (zV en226 rfl) (Favw d.Mark 0 4 _ bn _ _ _ (H.enter [] [] (by decide) rfl)) ?_
    rintro _ c7 ⟨rfl,bo⟩
    have H:=bl.step (bo.only:Only [] _ _)
    refine ⟨_,rfl,?_⟩
    obtain ⟨I,bp,c⟩:=zG c
    refine zH (zQ (wL (p:=bm) rfl) bp)<| zH (yN (v:= .bool I) rfl rfl)<| zK (.bool I) ?_
    obtain rfl:=gI c
    exact (zF (zB (meet ⟨(),(zL rfl zO),H.pick [0,1,3] (by decide)⟩)))
   rintro _ ρ c8 H
   have c:=a7
   refine yC (b:=F) rfl (fun t=>?_) (fun t=>?_)
   ·have c:=zT t c
    refine zC fun c9 bq=>zA<| zI (i6 f)<| zK (i6 f)<| zK (i6 9)<| zF (zB (bq _ _ ?_))
    obtain rfl:=gI c
    refine (zY (yG (yG (zZ (zZ (yG (zZ (post2 (v1:=i6 f) (v2:=i6 9) rfl rfl rfl ?_))))))))
    exact ⟨rfl,H.pick [] (by decide)⟩
   have c:=zU t c
   obtain ⟨J,c,br⟩:=zD c
   refine yL [40,41,42,43,44,45,46,47,48] (fun (g:Unit)=>[(40,.bool J)]) (fun g wl=>Hd O w wl S [f1 dC v1 h.Samples,.blk j [i6 h.Den,v1] 35,.blk o [i6 d.At,i6 d.N,i6 d.Mark] 40]) ?_ ?_
   ·skip
    refine zA ?_
    refine zH (fa40_1 rfl)<| Ld fU H 2 1 rfl rfl ?_
    obtain ⟨bt,bu,c⟩:=zG c
    refine zH (zQ (dH (a:=d.N) (b:=0) rfl rfl) bu)<| yS (b:=bt) rfl rfl rfl (fun u=>?_) (fun u=>?_)
    ·have c:=zT u c
     refine zH (fa40_2 rfl)<| Ld fU H 2 2 rfl rfl ?_
     obtain ⟨K,bv,c⟩:=zG c
     refine zH (zQ (Do_leq (a:=d.Mark) (b:=1) rfl rfl) bv)<| zH (yO (v:= .bool K) rfl rfl)<| zK (.bool K) ?_
     obtain rfl:=gI c
     exact (zF (zB (meet ⟨(),(zL rfl zO),H.pick [0,1,2] (by decide)⟩)))
    have c:=zU u c
    refine yI ?_
    refine yI ?_
    refine yI ?_
    refine zH (yN (v:= .bool false) rfl rfl)<| zK (.bool false) ?_
    obtain rfl:=gI c
    exact (zF (zB (meet ⟨(),(zL rfl zO),H.pick [0,1,2] (by decide)⟩)))
   rintro _ ρ da H
   have c:=br
   refine yC (b:=J) rfl (fun x=>?_) (fun x=>?_)
   ·have c:=zT x c
    refine zC fun db bw=>zA<| zI (i6 f)<| zK (i6 f)<| zK (i6 2)<| zF (zB (bw _ _ ?_))
    obtain rfl:=gI c
    refine (zY (yG (yG (zZ (zZ (yG (zZ (post2 (v1:=i6 f) (v2:=i6 2) rfl rfl rfl ?_))))))))
    exact ⟨rfl,H.pick [] (by decide)⟩
   have c:=zU x c
   obtain ⟨L,c,bx⟩:=zD c
   refine yL [50,51,52,53,54,55,56,57,58,59,60,61,62,63,64] (fun (g:Unit)=>[(50,.bool L)]) (fun g wl=>Hd O w wl S [f1 dC v1 h.Samples,.blk j [i6 h.Den,v1] 35]) ?_ ?_
   ·skip
    have M:=H
    have H:=H.rebase
    have dc:=H
    refine wB H [0,1,2,3,4,5,6,7,8,9,10,11,12,13,14] (kz [0,0,0,0,1,0,1,0,0,0,0,1,0,0,0]) mixed ?_
    refine XM (i6 f) ?_
    obtain ⟨bz,b0,c⟩:=zG c
    refine XP (fun _ _=>zQ (kH (a:=f) (b:=0) rfl rfl) b0)<| MxM.XL_splitb (b:=bz) rfl rfl rfl rfl (fun y=>?_) (fun y=>?_)
    ·have c:=zT y c
     refine XP (fun _ _=>fa40_0 rfl)<| XR fU H 2 0 rfl rfl<| XP (fun _ _=>fa35_1 rfl)<| XR one33 H 1 1 rfl rfl<| XM (i6 f) ?_
     obtain ⟨b1,b2,c⟩:=zG c
     refine XP (fun _ _=>Do_sub (a:=f) (b:=1) rfl rfl b2) ?_
     obtain ⟨b3,z,c⟩:=zD c
     obtain ⟨b4,b5,dd,de,b6,b7,b8,b9,ca⟩:=dQ (H.item (i:=0) rfl) z
     obtain rfl:=rSample_open b7
     have H:=H.fz (.at b4 (b5+b1.toNat * 3) _) ⟨b8,b9,ca⟩
     refine XP (fun _ _=>xJ u33 sz40 b6 rfl (yE z).1 (yE z).2.1 rfl rfl)<| XP (fun _ _=>fa40_0 rfl)<| MxM.XL_read oS rfl rfl rfl (fun B cb=>xA fU rfl (Cells.get ((H.sees cb).item (i:=3) rfl).2.2 (i:=0) rfl)) ?_
     obtain ⟨P,cc,c⟩:=zG c
     refine XP (fun _ _=>zQ (Do_leq (a:=d.At) (b:=b3.At) rfl rfl) cc)<| XP (fun _ _=>yO (v:= .bool P) rfl rfl)<| XP (fun _ _=>xO (v:= .bool P) rfl)<| MxM.xI fun df hS=>?_
     have H:=H.sees hS
     have H:=M.rejoin H
     obtain rfl:=gI c
     exact (zB (meet ⟨(),(zL rfl zO),H.pick [0,1] (by decide)⟩))
    have c:=zU y c
    refine XO<| MxM.XL_offr oS rfl rfl rfl ?_
    refine XO<| MxM.XL_offr oS rfl rfl rfl ?_
    refine XO<| XO<| XO<| XO<| MxM.XL_offr oS rfl rfl rfl ?_
    refine XO<| XP (fun _ _=>yN (v:= .bool false) rfl rfl)<| XP (fun _ _=>xO (v:= .bool false) rfl)<| MxM.xI fun dg hS=>?_
    have H:=H.sees hS
    have H:=M.rejoin H
    obtain rfl:=gI c
    exact (zB (meet ⟨(),(zL rfl zO),H.pick [0,1] (by decide)⟩))
   rintro _ ρ dh H
   have c:=bx
   refine yC (b:=L) rfl (fun A=>?_) (fun A=>?_)
   ·have c:=zT A c
    refine zC fun di cd=>zA<| zI (i6 f)<| zK (i6 f)<| zK (i6 10)<| zF (zB (cd _ _ ?_))
    obtain rfl:=gI c
    refine (zY (yG (yG (zZ (zZ (yG (zZ (post2 (v1:=i6 f) (v2:=i6 10) rfl rfl rfl ?_))))))))
    exact ⟨rfl,H.pick [] (by decide)⟩
   have c:=zU A c
   refine (yB (yK (yK (zB (a0 _ _ ?_)))))
   refine zA ?_
   obtain ⟨Q,ce,c⟩:=zG c
   refine zH (xQ (a:=f) (b:=1) rfl rfl ce)<| zI (i6 Q) ?_
   exact (zF (zB (meet ⟨(av,Q),(zL rfl zO),⟨H.pick [0,1] (by decide),c⟩,Nat.lt_succ_self _⟩)))
  have c:=zU m c
  exact (xK (yH (yH (yU (zB (meet ⟨(),zO,⟨H.pick [] (by decide),c⟩⟩))))))
 rintro _ ρ dj ⟨H,c⟩
 have c:=dE am c
 refine zC fun dk cf=>zA<| zK (i6 (-1))<| zK (i6 0)<| zF (zB (cf _ _ ?_))
 obtain rfl:=gI c
 refine (zY (post2 (v1:=i6 (-1)) (v2:=i6 0) rfl rfl rfl ?_))
 exact ⟨rfl,H.pick [] (by decide)⟩
end Go.Proofs.YtckmiljbaejijaaGreatDoor.L
