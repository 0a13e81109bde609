/- Walks: what each function computes, for every argument; no condition but those that stand in the statements. -/
import Derived.Test.YtckmiljbaejijaaGreatDoorUV0
import Derived.Test.YtckmiljbaejijaaGreatDoorUV6
namespace Go.Proofs.YtckmiljbaejijaaGreatDoor.L
open Go.RowKit Go.OB Go.Lf
set_option maxHeartbeats 4000000
theorem Fdqw (d:Series)(h:Int)(k:Int)(v1:Value)(r:Sample×Bool)(c:Fdq d h k=some r)(O S:List Nat)(w:World)(H:Hd O w w S [.fz (.sl rSample v1 d.Samples)]):
  Calls Tryz.prog 192 ([.agg [.int .i64 d.Den,v1].toArray,.int .i64 h,.int .i64 k]:List Value).toArray w fun e w'=>e= .returned (.tuple #[.agg [.int .i64 r.1.At,.int .i64 r.1.N,.int .i64 r.1.Mark].toArray,.bool r.2])∧Hd O w w' S []:=by
 unfold Fdq at c
 refine zW 41 Tryz.func192 rfl rfl rfl ?_
 refine zC fun K3 A=>zB ?_
 refine yY rfl rfl (xX (cs:=[.int .i64 d.Den,v1]) rfl H) ?_
 rintro _ w6 ⟨u,rfl,H⟩
 refine yY rfl rfl (xQ zero40 H) ?_
 rintro _ w9 ⟨x,rfl,H⟩
 refine zK (.bool false)<| (zG (zA (A _ _ ?_)))
 refine zC fun a2 B=>zB ?_
 refine zH (yS (yR (cs:=[.int .i64 d.Den,v1]) agg35 rfl sz35 rfl (Blk.cells (H.item (i:=1) rfl))) rfl)<| zJ (.int .i64 h) ?_
 have C:=H
 obtain ⟨f,D,c⟩:=zF c
 refine yG rfl rfl (yC en227 rfl) (Fb9w d h v1 _ D _ _ _ (H.enter [] [0] (by decide) rfl)) ?_
 rintro _ a3 ⟨rfl,E⟩
 have H:=C.step (E.only:Only [] _ _)
 refine ⟨_,rfl,?_⟩
 refine zK (.int .i64 f)<| (zG (zA (B _ _ ?_)))
 refine zC fun a4 F=>?_
 obtain ⟨y,c,G⟩:=zF c
 refine yK [12,13,14,15,16,17,18,19,20,21,22,23,24,25,26,27,28,29,30,31,32,33,34] (fun (g:Unit)=>[(34,.bool y)]) (fun g wl=>Hd O w wl S [.fz (.sl rSample v1 d.Samples),.blk u [.int .i64 d.Den,v1] 35,.blk x [.int .i64 0,.int .i64 0,.int .i64 0] 40]) ?_ ?_
 ·skip
  refine zB ?_
  refine zJ (.int .i64 f) ?_
  obtain ⟨I,J,c⟩:=zD c
  refine zH (zQ (xR (a:=f) (b:=0) rfl rfl) J) ?_
  obtain ⟨z,c,K⟩:=zF c
  refine RL_cutS 9 [14,15,16,17,18,19,20,21,22] [(22,.bool z)] (fun wl=>Hd O w wl S [.fz (.sl rSample v1 d.Samples),.blk u [.int .i64 d.Den,v1] 35,.blk x [.int .i64 0,.int .i64 0,.int .i64 0] 40]) ?_ ?_
  ·skip
   refine yN (b:=I) rfl rfl rfl (fun m=>?_) (fun m=>?_)
   ·have c:=zS m c
    refine yI ?_
    refine yI ?_
    refine yI ?_
    refine yI ?_
    refine yI ?_
    refine yI ?_
    refine yI ?_
    refine zH (yL (v:= .bool true) rfl rfl) ?_
    obtain rfl:=someI c
    exact zG (zA (meet ⟨(zL rfl zM),H.pick [0,1,2] (by decide)⟩))
   have c:=zT m c
   refine zH (fa35_1 rfl)<| zH (zN one33 rfl (Cells.get (Blk.cells (H.item (i:=1) rfl)) (i:=1) rfl))<| zJ (.int .i64 f) ?_
   obtain ⟨l,n,c⟩:=zF c
   obtain ⟨L,M,a5,a6,P,Q,R,T,U⟩:=rd_at (H.item (i:=0) rfl) n
   obtain rfl:=rSample_open Q
   have H:=H.fz (.at L (M+f.toNat * 3) _) ⟨R,T,U⟩
   refine zH (xE u33 sz40 P rfl (yE n).1 (yE n).2.1 rfl rfl)<| zH (yS (yR (cs:=[.int .i64 l.At,.int .i64 l.N,.int .i64 l.Mark]) agg40 rfl sz40 rfl (H.item (i:=3) rfl).2.2) rfl) ?_
   have V:=H
   obtain ⟨X,Y,c⟩:=zF c
   refine yG rfl rfl (yC en228 rfl) (Fdiw l _ Y _ _ _ (H.enter [] [] (by decide) rfl)) ?_
   rintro _ a7 ⟨rfl,Z⟩
   have H:=V.step (Z.only:Only [] _ _)
   refine ⟨_,rfl,?_⟩
   obtain ⟨aa,ab,c⟩:=zD c
   refine zH (zQ (wI (p:=X) rfl) ab)<| zH (yJ (v:= .bool aa) rfl rfl) ?_
   obtain rfl:=someI c
   exact zG (zA (meet ⟨(zL rfl zM),H.pick [0,1,2] (by decide)⟩))
  rintro ρ a8 H
  have c:=K
  refine yN (b:=z) rfl rfl rfl (fun o=>?_) (fun o=>?_)
  ·have c:=zS o c
   refine yI ?_
   refine yI ?_
   refine yI ?_
   refine yI ?_
   refine yI ?_
   refine yI ?_
   refine yI ?_
   refine yI ?_
   refine yI ?_
   refine yI ?_
   refine zH (yL (v:= .bool true) rfl rfl) ?_
   obtain rfl:=someI c
   exact (zG (zA (meet ⟨(),(zL rfl zM),H.pick [0,1,2] (by decide)⟩)))
  have c:=zT o c
  refine zJ (.int .i64 h)<| zH (fa35_1 rfl)<| zH (zN one33 rfl (Cells.get (Blk.cells (H.item (i:=1) rfl)) (i:=1) rfl))<| zJ (.int .i64 f) ?_
  obtain ⟨ac,q,c⟩:=zF c
  obtain ⟨ad,ae,a9,ba,af,ag,ah,ai,aj⟩:=rd_at (H.item (i:=0) rfl) q
  obtain rfl:=rSample_open ag
  have H:=H.fz (.at ad (ae+f.toNat * 3) _) ⟨ah,ai,aj⟩
  refine zH (xE u33 sz40 af rfl (yE q).1 (yE q).2.1 rfl rfl)<| zH (fa40_0 rfl)<| zH (zN one3 rfl (Cells.get (H.item (i:=3) rfl).2.2 (i:=0) rfl)) ?_
  obtain ⟨ak,al,c⟩:=zD c
  refine zH (Do_sub (a:=h) (b:=ac.At) rfl rfl al)<| zJ (.int .i64 k) ?_
  obtain ⟨am,an,c⟩:=zD c
  refine zH (zQ (Do_gtr (a:=ak) (b:=k) rfl rfl) an)<| zH (yJ (v:= .bool am) rfl rfl) ?_
  obtain rfl:=someI c
  exact (zG (zA (meet ⟨(),(zL rfl zM),H.pick [0,1,2] (by decide)⟩)))
 rintro _ ρ bb H
 have c:=G
 refine zZ (b:=y) rfl (fun s=>?_) (fun s=>?_)
 ·have c:=zS s c
  refine zC fun bc ao=>zB ?_
  refine zH (xW (cs:=[.int .i64 0,.int .i64 0,.int .i64 0]) bz40)<| xG rfl (xH (vs:=[.int .i64 0,.int .i64 0,.int .i64 0]) H 2 rfl sz40 rfl rfl rfl ⟨rfl,rfl,rfl,trivial⟩ rfl) ?_
  rintro bd H
  refine zK (.bool false)<| (zG (zA (ao _ _ ?_)))
  obtain rfl:=someI c
  refine (zY (zV (postc1 (v1:= .bool false) rfl rfl (xJ agg40 sz40 rfl (Blk.cells (H.item (i:=2) rfl))) rfl ?_)))
  exact ⟨rfl,H.pick [] (by decide)⟩
 have c:=zT s c
 refine (yA (zA (F _ _ ?_)))
 refine zC fun be ap=>zB ?_
 refine zH (fa35_1 rfl)<| zH (zN one33 rfl (Cells.get (Blk.cells (H.item (i:=1) rfl)) (i:=1) rfl))<| zJ (.int .i64 f) ?_
 obtain ⟨j,t,c⟩:=zF c
 obtain ⟨aq,ar,bf,bg,au,av,aw,ax,ay⟩:=rd_at (H.item (i:=0) rfl) t
 obtain rfl:=rSample_open av
 have H:=H.fz (.at aq (ar+f.toNat * 3) _) ⟨aw,ax,ay⟩
 refine zH (xE u33 sz40 au rfl (yE t).1 (yE t).2.1 rfl rfl)<| zH (yS (yR (cs:=[.int .i64 j.At,.int .i64 j.N,.int .i64 j.Mark]) agg40 rfl sz40 rfl (H.item (i:=3) rfl).2.2) rfl)<| xG rfl (xH (vs:=[.int .i64 j.At,.int .i64 j.N,.int .i64 j.Mark]) H 2 rfl sz40 rfl rfl rfl ⟨rfl,rfl,rfl,trivial⟩ rfl) ?_
 rintro bh H
 refine zK (.bool true)<| (zG (zA (ap _ _ ?_)))
 obtain rfl:=someI c
 refine (zY (postc1 (v1:= .bool true) rfl rfl (xJ agg40 sz40 rfl (Blk.cells (H.item (i:=2) rfl))) rfl ?_))
 exact ⟨rfl,H.pick [] (by decide)⟩
theorem Fcfw (a:Series)(c:Int)(d:Int)(v1:Value)(r:Sample×Bool)(f:Fcf a c d=some r)(O S:List Nat)(w:World)(H:Hd O w w S [.fz (.sl rSample v1 a.Samples)]):
  Calls Tryz.prog 140 ([.agg [.int .i64 a.Den,v1].toArray,.int .i64 c,.int .i64 d]:List Value).toArray w fun e w'=>e= .returned (.tuple #[.agg [.int .i64 r.1.At,.int .i64 r.1.N,.int .i64 r.1.Mark].toArray,.bool r.2])∧Hd O w w' S []:=by
 unfold Fcf at f
 refine zW 14 Tryz.func140 rfl rfl rfl ?_
 refine zC fun o j=>zB ?_
 refine yY rfl rfl (xX (cs:=[.int .i64 a.Den,v1]) rfl H) ?_
 rintro _ p ⟨q,rfl,H⟩
 refine yY rfl rfl (xQ zero40 H) ?_
 rintro _ s ⟨t,rfl,H⟩
 refine zK (.bool false)<| (zG (zA (j _ _ ?_)))
 refine zC fun u k=>zB ?_
 refine zH (yS (yR (cs:=[.int .i64 a.Den,v1]) agg35 rfl sz35 rfl (Blk.cells (H.item (i:=1) rfl))) rfl)<| zJ (.int .i64 c)<| zJ (.int .i64 d) ?_
 have l:=H
 obtain ⟨⟨b,h⟩,m,f⟩:=zF f
 refine yG rfl rfl (yC en192 rfl) (Fdqw a c d v1 _ m _ _ _ (H.enter [] [0] (by decide) rfl)) ?_
 rintro _ x ⟨rfl,n⟩
 have H:=l.step (n.only:Only [] _ _)
 refine ⟨_,rfl,?_⟩
 refine zH (xY (v:= .agg [.int .i64 b.At,.int .i64 b.N,.int .i64 b.Mark].toArray) rfl rfl)<| zH (xY (v:= .bool h) rfl rfl)<| xG rfl (xH (vs:=[.int .i64 b.At,.int .i64 b.N,.int .i64 b.Mark]) H 2 rfl sz40 rfl rfl rfl ⟨rfl,rfl,rfl,trivial⟩ rfl) ?_
 rintro y H
 refine zK (.bool h)<| (zG (zA (k _ _ ?_)))
 obtain rfl:=someI f
 refine (zY (postc1 (v1:= .bool h) rfl rfl (xJ agg40 sz40 rfl (Blk.cells (H.item (i:=2) rfl))) rfl ?_))
 exact ⟨rfl,H.pick [] (by decide)⟩
theorem Faiw (m:List Track)(k:Int)(v1:Value)(r:(List ToldT))(c:Fai m k=some r)(O S:List Nat)(w:World)(H:Hd O w w S [.fz (.sl rTrack v1 m)]):
  Calls Tryz.prog 77 ([v1,.int .i64 k]:List Value).toArray w fun e w'=> ∃u3,e= .returned (u3)∧Hd O w w' S [.own rToldT u3 148 r]:=by
 unfold Fai at c
 refine zW 37 Tryz.func77 rfl rfl rfl ?_
 refine zC fun K4 z=>zB ?_
 refine zK (.slice none 0 0)<| (zG (zA (z _ _ ?_)))
 refine zC fun K5 A=>zB ?_
 refine zK (.slice none 0 0)<| (zG (zA (A _ _ ?_)))
 obtain ⟨q,c,B⟩:=zF c
 refine yK [5,7,8,9,10,11,12,13,14,15,16,17,18,19,20,21,22,23,24,25,26,27,28,29,30,31,32,33,34,35] (fun (g:Value)=>[(5,g)]) (fun g wl=>Hd O w wl S [.own rToldT g 148 q]) ?_ ?_
 ·skip
  refine zC fun av C=>zB ?_
  refine zJ v1 ?_
  obtain ⟨D,E,c⟩:=zD c
  obtain ⟨aw,ax,F⟩:=SlF.len ((H.item (i:=0) rfl))
  refine zH (yS (xP u27 F) (congrArg (Value.int .i64) E))<| zJ (.int .i64 0)<| (zG (zA (C _ _ ?_)))
  refine yH ?_
  have H:=own_nil H rToldT 148
  unfold Feu at c
  obtain ⟨G,s,I,c⟩:=yX c
  refine xI [5,7,8,9,12,13,14,15,16,17,18,19,20,21,22,23,24,25,26,27,28,29,30,31,32,33,34,35] (fun (g:Nat×(List ToldT)×Int×Value)=>[(5,g.2.2.2),(12,.int .i64 g.2.2.1)]) (fun g wl=>Hd O w wl S [.own rToldT g.2.2.2 148 g.2.1,.fz (.sl rTrack v1 m)]∧loopN G g.1 (g.2.1,g.2.2.1)=some q) (fun g=>g.1) (s,[],0,.slice none 0 0) (zL rfl (zL rfl zM)) ⟨H.pick [1,0] (by decide),c⟩ ?_
  clear H c
  rintro ⟨s,ay,n,t⟩ ρ az ⟨H,c⟩
  obtain ⟨J,rfl,c⟩:=xC c
  have c:=xB I c
  refine zC fun a0 K=>zB ?_
  obtain ⟨L,M,c⟩:=zD c
  refine zH (zQ (xR (a:=n) (b:=D) rfl rfl) M)<| (zG (zA (K _ _ ?_)))
  refine zC fun a1 P=>?_
  refine zZ (b:=L) rfl (fun o=>?_) (fun o=>?_)
  ·have c:=zS o c
   refine (yA (zA (P _ _ ?_)))
   refine zC fun a2 Q=>?_
   refine yH ?_
   refine zC fun a3 R=>zB ?_
   obtain ⟨f,p,c⟩:=zF c
   obtain ⟨T,U,a4,a5,V,X,Y,Z,aa⟩:=rd_at (H.item (i:=1) rfl) p
   obtain ⟨j,rfl,ab⟩:=rTrack_open X
   have H:=H.fzs [.at T (U+n.toNat * 4) _,.sl rSample j f.Series.Samples] ⟨⟨Y,Z,aa⟩,ab,trivial⟩
   refine zH (xE u27 sz37 V rfl (yE p).1 (yE p).2.1 rfl rfl)<| zH (yS (yR (cs:=[.string (bs f.Name),.int .i64 f.Series.Den,j,.int .i64 f.Long]) agg37 rfl sz37 rfl (H.item (i:=2) rfl).2.2) rfl)<| yY rfl rfl (xQ zero37 H) ?_
   rintro _ a6 ⟨a7,rfl,H⟩
   refine xG rfl (xH (vs:=[.string (bs f.Name),.int .i64 f.Series.Den,j,.int .i64 f.Long]) H 4 rfl sz37 rfl rfl rfl ⟨rfl,rfl,(slf_one (H.item (i:=3) rfl)),rfl,trivial⟩ rfl) ?_
   rintro a8 H
   refine (zG (zA (R _ _ ?_)))
   refine zC fun a9 ac=>zB ?_
   refine zH (fa37_1 rfl)<| zH (yS (yR (cs:=[.int .i64 f.Series.Den,j]) agg35 rfl sz35 rfl (Cells.drop (Blk.cells (H.item (i:=4) rfl)) 1 2)) rfl)<| zJ (.int .i64 k) ?_
   obtain ⟨ad,ae,c⟩:=zD c
   refine zH (Do_mul (a:=64) (b:=k) rfl rfl ae) ?_
   obtain ⟨af,ag,c⟩:=zD c
   refine zH (xM (a:=ad) (b:=64) rfl rfl ag) ?_
   obtain ⟨ah,ai,c⟩:=zD c
   refine zH (Do_sub (a:=af) (b:=1) rfl rfl ai)<| zH (fa37_2 rfl)<| zH (zN one3 rfl (Cells.get (Blk.cells (H.item (i:=4) rfl)) (i:=3) rfl)) ?_
   have aj:=H
   obtain ⟨⟨d,h⟩,ak,c⟩:=zF c
   refine yG rfl rfl (yC en140 rfl) (Fcfw f.Series ah f.Long j _ ak _ _ _ (H.enter [] [3] (by decide) rfl)) ?_
   rintro _ ba ⟨rfl,al⟩
   have H:=aj.step (al.only:Only [] _ _)
   refine ⟨_,rfl,?_⟩
   refine zJ (.tuple #[.agg [.int .i64 d.At,.int .i64 d.N,.int .i64 d.Mark].toArray,.bool h])<| zH (xY (v:= .agg [.int .i64 d.At,.int .i64 d.N,.int .i64 d.Mark].toArray) rfl rfl)<| zH (xY (v:= .bool h) rfl rfl)<| yY rfl rfl (xQ zero40 H) ?_
   rintro _ bb ⟨bc,rfl,H⟩
   refine xG rfl (xH (vs:=[.int .i64 d.At,.int .i64 d.N,.int .i64 d.Mark]) H 5 rfl sz40 rfl rfl rfl ⟨rfl,rfl,rfl,trivial⟩ rfl) ?_
   rintro bd H
   refine zK (.bool h)<| (zG (zA (ac _ _ ?_)))
   refine zB ?_
   refine zJ t<| zH (fa40_1 rfl)<| zH (zN one3 rfl (Cells.get (Blk.cells (H.item (i:=5) rfl)) (i:=1) rfl))<| zJ (.bool h)<| zH (xW (cs:=[.int .i64 d.N,.bool h]) (bt148_0_1 _ _)) ?_
   obtain ⟨be,am,c⟩:=zD c
   subst am
   refine yY rfl rfl (Lx_bs (r:=rToldT) (xl:=[ToldT.mk d.N h]) (cs:=[.int .i64 d.N,.bool h]) u55 el148 (by decide) (by decide) rfl (wC (vs:=[.agg [.int .i64 d.N,.bool h].toArray]) (by decide) rfl rfl ⟨rfl,trivial⟩ rfl) H ⟨[.int .i64 d.N,.bool h],[],rfl,(rToldT_mk (x:=ToldT.mk d.N h)),rfl⟩) ?_
   rintro bf bg H
   obtain ⟨an,ao,c⟩:=zF c
   refine yY rfl rfl (Lx_app H (i:=0) rfl u55 el148 rfl rfl (Sr.of_own (H.item (i:=6) rfl)) ao) ?_
   rintro u bh H
   refine zK u<| (zG (yP (zA (Q _ _ ?_))))
   refine zB ?_
   obtain ⟨y,ap,c⟩:=zD c
   refine zH (xM (a:=n) (b:=1) rfl rfl ap)<| zJ (.int .i64 y) ?_
   exact (zG (zA (meet ⟨(J,an,y,u),(zL rfl (zL rfl zM)),⟨H.pick [0,1] (by decide),c⟩,Nat.lt_succ_self _⟩)))
  have c:=zT o c
  obtain rfl:=someI c
  exact (xO (yQ (yQ (yZ (zA (meet ⟨t,(zL rfl zM),H.pick [0] (by decide)⟩))))))
 rintro l ρ bi H
 have c:=B
 refine zC fun bj aq=>zB ?_
 refine zJ l<| zK l<| (zG (zA (aq _ _ ?_)))
 obtain rfl:=someI c
 refine (zY (post1 (v1:=l) rfl rfl ?_))
 exact ⟨l,rfl,H.pick [0] (by decide)⟩
theorem Fam {F:Nat→Prop}{w:World}{v:Value}{bs:List Nat}{x:Nd}(h:(Th.tr rtNd [v] bs x).holds F w): ∃f r,MethodOf Tryz.prog "orangebox/event.step" v f r:=by
 obtain ⟨u,e,h⟩:=h
 obtain rfl:v=u:=by simpa using e
 cases h
 ·exact ⟨_,_,meth_ok (f:=325) (p:=false) (by kernel_rfl) (by kernel_rfl) en325⟩
 ·exact ⟨_,_,meth_ok (f:=327) (p:=false) (by kernel_rfl) (by kernel_rfl) en327⟩
 ·exact ⟨_,_,meth_ok (f:=332) (p:=false) (by kernel_rfl) (by kernel_rfl) en332⟩
 ·exact ⟨_,_,meth_ok (f:=310) (p:=true) (by kernel_rfl) (by kernel_rfl) en310⟩
 ·exact ⟨_,_,meth_ok (f:=335) (p:=false) (by kernel_rfl) (by kernel_rfl) en335⟩
 ·exact ⟨_,_,meth_ok (f:=337) (p:=false) (by kernel_rfl) (by kernel_rfl) en337⟩
 ·exact ⟨_,_,meth_ok (f:=316) (p:=true) (by kernel_rfl) (by kernel_rfl) en316⟩
 ·exact ⟨_,_,meth_ok (f:=319) (p:=true) (by kernel_rfl) (by kernel_rfl) en319⟩
 ·exact ⟨_,_,meth_ok (f:=313) (p:=true) (by kernel_rfl) (by kernel_rfl) en313⟩
 ·exact ⟨_,_,meth_ok (f:=321) (p:=true) (by kernel_rfl) (by kernel_rfl) en321⟩
 exact ⟨_,_,meth_ok (f:=323) (p:=true) (by kernel_rfl) (by kernel_rfl) en323⟩
abbrev Fap (f:Nd→EventMoment→Option (Int×Nd)):Prop:= ∀(p0:Nd) (p1:EventMoment) (v1:Value) (bs1:List Nat) (b1:Nat) (v52:Value) (v53:Value) (v54:Value) (fid:FuncId) (rv:Value) (hm:MethodOf Tryz.prog "orangebox/event.step" v1 fid rv) (r:Int×Nd) (_:f p0 p1=some r) (O S:List Nat) (w:World) (_:Hd O w w S [.tr rtNd [v1] bs1 p0,.own (Rp.int .i64) v54 3 p1.rules,.blk b1 [v52,v53,v54] 222,.fz (.sl rToldT v52 p1.told),.fz (.sl Rp.bool v53 p1.possible)]),
  Calls Tryz.prog fid ([rv,ptr0 b1]:List Value).toArray w fun e w'=> ∃bs',e= .returned (.int .i64 r.1)∧Hd O w w' S [.tr rtNd [v1] bs' r.2,.own (Rp.int .i64) v54 3 p1.rules,.blk b1 [v52,v53,v54] 222]
theorem Feqw (a:EventConstant)(b:EventMoment)(d:Nat)(f:Value)(h:Value)(c:Value)(r:Int)(j:Feq a b=some r)(O S:List Nat)(w:World)(H:Hd O w w S [.own (Rp.int .i64) c 3 b.rules,.blk d [f,h,c] 222,.fz (.sl rToldT f b.told),.fz (.sl Rp.bool h b.possible)]):
  Calls Tryz.prog 325 ([.agg [.int .i64 a.truth].toArray,ptr0 d]:List Value).toArray w fun e w'=>e= .returned (.int .i64 r)∧Hd O w w' S [.own (Rp.int .i64) c 3 b.rules,.blk d [f,h,c] 222]:=by
 unfold Feq at j
 refine zW 7 Tryz.func325 rfl rfl rfl ?_
 refine zC fun m k=>zB ?_
 refine yY rfl rfl (xX (cs:=[.int .i64 a.truth]) rfl H) ?_
 rintro _ n ⟨o,rfl,H⟩
 refine zK (.int .i64 0)<| (zG (zA (k _ _ ?_)))
 refine zC fun p l=>zB ?_
 refine zH (fa277_0 rfl)<| zH (zN one3 rfl (Cells.get (Blk.cells (H.item (i:=4) rfl)) (i:=0) rfl))<| zK (.int .i64 a.truth)<| (zG (zA (l _ _ ?_)))
 obtain rfl:=someI j
 refine (zY (post1 (v1:= .int .i64 a.truth) rfl rfl ?_))
 exact ⟨rfl,H.pick [0,1] (by decide)⟩
theorem Falw (d:Int)(r:Int)(c:Fal d=some r)(O S:List Nat)(w:World)(H:Hd O w w S []):
  Calls Tryz.prog 330 ([.int .i64 d]:List Value).toArray w fun e w'=>e= .returned (.int .i64 r)∧Hd O w w' S []:=by
 unfold Fal at c
 refine zW 9 Tryz.func330 rfl rfl rfl ?_
 refine zC fun u k=>zB ?_
 refine zK (.int .i64 0)<| (zG (zA (k _ _ ?_)))
 refine zC fun v l=>?_
 refine yH ?_
 refine zC fun x m=>zB ?_
 refine zJ (.int .i64 d) ?_
 obtain ⟨i,n,c⟩:=zD c
 refine zH (zQ (xR (a:=d) (b:=0) rfl rfl) n)<| zK (.bool i)<| (zG (zA (m _ _ ?_)))
 refine zZ (b:=i) rfl (fun f=>?_) (fun f=>?_)
 ·have c:=zS f c
  refine zC fun y o=>zB ?_
  refine zK (.int .i64 (-1))<| (zG (zA (o _ _ ?_)))
  obtain rfl:=someI c
  refine (zY (yF (zV (post1 (v1:= .int .i64 (-1)) rfl rfl ?_))))
  exact ⟨rfl,H.pick [] (by decide)⟩
 have c:=zT f c
 refine zC fun z p=>zB ?_
 refine zJ (.int .i64 d) ?_
 obtain ⟨j,q,c⟩:=zD c
 refine zH (zQ (Do_gtr (a:=d) (b:=0) rfl rfl) q)<| zK (.bool j)<| (zG (zA (p _ _ ?_)))
 refine zZ (b:=j) rfl (fun h=>?_) (fun h=>?_)
 ·have c:=zS h c
  refine zC fun A s=>zB ?_
  refine zK (.int .i64 1)<| (zG (zA (s _ _ ?_)))
  obtain rfl:=someI c
  refine (zY (yF (zV (post1 (v1:= .int .i64 1) rfl rfl ?_))))
  exact ⟨rfl,H.pick [] (by decide)⟩
 have c:=zT h c
 refine (yA (yP (zA (l _ _ ?_))))
 refine zC fun B t=>zB ?_
 refine zK (.int .i64 0)<| (zG (zA (t _ _ ?_)))
 obtain rfl:=someI c
 refine (zY (post1 (v1:= .int .i64 0) rfl rfl ?_))
 exact ⟨rfl,H.pick [] (by decide)⟩
set_option maxRecDepth 100000 in
theorem Fa9w (f:Int)(d:Int)(r:Bool)(c:Fa9 f d=some r)(O S:List Nat)(w:World)(H:Hd O w w S []):
  Calls Tryz.prog 329 ([.int .i64 f,.int .i64 d]:List Value).toArray w fun e w'=>e= .returned (.bool r)∧Hd O w w' S []:=by
 unfold Fa9 at c
 refine zW 28 Tryz.func329 rfl rfl rfl ?_
 refine zC fun K1 z=>zB ?_
 refine zK (.bool false)<| (zG (zA (z _ _ ?_)))
 refine zC fun ad A=>?_
 refine zC fun ae B=>zB ?_
 refine zJ (.int .i64 f)<| (zG (zA (B _ _ ?_)))
 refine yH ?_
 refine zC fun af C=>zB ?_
 obtain ⟨m,D,c⟩:=zD c
 refine zH (zQ (xA (a:=f) (b:=1) rfl rfl) D)<| zK (.bool m)<| (zG (zA (C _ _ ?_)))
 refine zZ (b:=m) rfl (fun h=>?_) (fun h=>?_)
 ·have c:=zS h c
  refine zC fun ag E=>zB ?_
  refine zJ (.int .i64 d) ?_
  obtain ⟨n,F,c⟩:=zD c
  refine zH (zQ (xR (a:=d) (b:=0) rfl rfl) F)<| zK (.bool n)<| (zG (zA (E _ _ ?_)))
  obtain rfl:=someI c
  refine (zY (yF (zV (post1 (v1:= .bool n) rfl rfl ?_))))
  exact ⟨rfl,H.pick [] (by decide)⟩
 have c:=zT h c
 refine zC fun ah G=>zB ?_
 obtain ⟨o,I,c⟩:=zD c
 refine zH (zQ (xA (a:=f) (b:=2) rfl rfl) I)<| zK (.bool o)<| (zG (zA (G _ _ ?_)))
 refine zZ (b:=o) rfl (fun i=>?_) (fun i=>?_)
 ·have c:=zS i c
  refine zC fun ai J=>zB ?_
  refine zJ (.int .i64 d) ?_
  obtain ⟨p,K,c⟩:=zD c
  refine zH (zQ (Do_leq (a:=d) (b:=0) rfl rfl) K)<| zK (.bool p)<| (zG (zA (J _ _ ?_)))
  obtain rfl:=someI c
  refine (zY (yF (zV (post1 (v1:= .bool p) rfl rfl ?_))))
  exact ⟨rfl,H.pick [] (by decide)⟩
 have c:=zT i c
 refine zC fun aj L=>zB ?_
 obtain ⟨q,M,c⟩:=zD c
 refine zH (zQ (xA (a:=f) (b:=3) rfl rfl) M)<| zK (.bool q)<| (zG (zA (L _ _ ?_)))
 refine zZ (b:=q) rfl (fun j=>?_) (fun j=>?_)
 ·have c:=zS j c
  refine zC fun ak N=>zB ?_
  refine zJ (.int .i64 d) ?_
  obtain ⟨s,P,c⟩:=zD c
  refine zH (zQ (xA (a:=d) (b:=0) rfl rfl) P)<| zK (.bool s)<| (zG (zA (N _ _ ?_)))
  obtain rfl:=someI c
  refine (zY (yF (zV (post1 (v1:= .bool s) rfl rfl ?_))))
  exact ⟨rfl,H.pick [] (by decide)⟩
 have c:=zT j c
 refine zC fun al Q=>zB ?_
 obtain ⟨t,R,c⟩:=zD c
 refine zH (zQ (xA (a:=f) (b:=4) rfl rfl) R)<| zK (.bool t)<| (zG (zA (Q _ _ ?_)))
 refine zZ (b:=t) rfl (fun k=>?_) (fun k=>?_)
 ·have c:=zS k c
  refine zC fun am T=>zB ?_
  refine zJ (.int .i64 d) ?_
  obtain ⟨u,U,c⟩:=zD c
  refine zH (zQ (wH (a:=d) (b:=0) rfl rfl) U)<| zK (.bool u)<| (zG (zA (T _ _ ?_)))
  obtain rfl:=someI c
  refine (zY (yF (zV (post1 (v1:= .bool u) rfl rfl ?_))))
  exact ⟨rfl,H.pick [] (by decide)⟩
 have c:=zT k c
 refine zC fun an V=>zB ?_
 obtain ⟨v,X,c⟩:=zD c
 refine zH (zQ (xA (a:=f) (b:=5) rfl rfl) X)<| zK (.bool v)<| (zG (zA (V _ _ ?_)))
 refine zZ (b:=v) rfl (fun l=>?_) (fun l=>?_)
 ·have c:=zS l c
  refine zC fun ao Y=>zB ?_
  refine zJ (.int .i64 d) ?_
  obtain ⟨x,Z,c⟩:=zD c
  refine zH (zQ (Do_geq (a:=d) (b:=0) rfl rfl) Z)<| zK (.bool x)<| (zG (zA (Y _ _ ?_)))
  obtain rfl:=someI c
  refine (zY (yF (zV (post1 (v1:= .bool x) rfl rfl ?_))))
  exact ⟨rfl,H.pick [] (by decide)⟩
 have c:=zT l c
 refine (yA (yP (zA (A _ _ ?_))))
 refine zC fun ap aa=>zB ?_
 refine zJ (.int .i64 d) ?_
 obtain ⟨y,ab,c⟩:=zD c
 refine zH (zQ (Do_gtr (a:=d) (b:=0) rfl rfl) ab)<| zK (.bool y)<| (zG (zA (aa _ _ ?_)))
 obtain rfl:=someI c
 refine (zY (post1 (v1:= .bool y) rfl rfl ?_))
 exact ⟨rfl,H.pick [] (by decide)⟩
theorem Fctw (c:Bool)(r:Int)(a:Fct c=some r)(O S:List Nat)(w:World)(H:Hd O w w S []):
  Calls Tryz.prog 328 ([.bool c]:List Value).toArray w fun e w'=>e= .returned (.int .i64 r)∧Hd O w w' S []:=by
 unfold Fct at a
 refine zW 4 Tryz.func328 rfl rfl rfl ?_
 refine zC fun l f=>zB ?_
 refine zK (.int .i64 0)<| (zG (zA (f _ _ ?_)))
 refine zC fun m h=>?_
 refine zC fun n i=>zB ?_
 refine zJ (.bool c)<| (zG (zA (i _ _ ?_)))
 refine zZ (b:=c) rfl (fun d=>?_) (fun d=>?_)
 ·have a:=zS d a
  refine zC fun o j=>zB ?_
  refine zK (.int .i64 2)<| (zG (zA (j _ _ ?_)))
  obtain rfl:=someI a
  refine (zY (zV (post1 (v1:= .int .i64 2) rfl rfl ?_)))
  exact ⟨rfl,H.pick [] (by decide)⟩
 have a:=zT d a
 refine (yA (zA (h _ _ ?_)))
 refine zC fun p k=>zB ?_
 refine zK (.int .i64 1)<| (zG (zA (k _ _ ?_)))
 obtain rfl:=someI a
 refine (zY (post1 (v1:= .int .i64 1) rfl rfl ?_))
 exact ⟨rfl,H.pick [] (by decide)⟩
theorem Fa5w (d:EventNumber)(h:EventMoment)(j:Nat)(l:Value)(m:Value)(k:Value)(r:Int)(c:Fa5 d h=some r)(O S:List Nat)(w:World)(H:Hd O w w S [.own (Rp.int .i64) k 3 h.rules,.blk j [l,m,k] 222,.fz (.sl rToldT l h.told),.fz (.sl Rp.bool m h.possible)]):
  Calls Tryz.prog 327 ([.agg [.int .i64 d.track,.int .i64 d.op,.int .i64 d.n].toArray,ptr0 j]:List Value).toArray w fun e w'=>e= .returned (.int .i64 r)∧Hd O w w' S [.own (Rp.int .i64) k 3 h.rules,.blk j [l,m,k] 222]:=by
 unfold Fa5 at c
 refine zW 27 Tryz.func327 rfl rfl rfl ?_
 refine zC fun K9 x=>zB ?_
 refine yY rfl rfl (xX (cs:=[.int .i64 d.track,.int .i64 d.op,.int .i64 d.n]) rfl H) ?_
 rintro _ ac ⟨ad,rfl,H⟩
 refine zK (.int .i64 0)<| (zG (zA (x _ _ ?_)))
 refine zC fun ae y=>?_
 have z:=H
 have H:=H.rebase
 have af:=H
 refine wF H [0,1,2,3,4,5,6,7,8,9] [.pure,.pure,.pure,.read,.pure,.read,.pure,.read,.new,.eff] mixed (by kernel_rfl) (by kernel_rfl) (by kernel_rfl) rfl ?_
 refine Mx.zI rfl rfl rfl (fun w' hw'=>yM (v:=ptr0 j) rfl) ?_
 refine Mx.zI rfl rfl rfl (fun w' hw'=>yB rfl) ?_
 refine Mx.zI rfl rfl rfl (fun w' hw'=>fa222_0 rfl) ?_
 refine Mx.yO oS rfl rfl rfl (fun w' hw'=>zN one55 rfl (Cells.get (Blk.cells ((H.sees hw').item (i:=1) rfl)) (i:=0) rfl)) ?_
 refine Mx.zI rfl rfl rfl (fun w' hw'=>fa279_0 rfl) ?_
 refine Mx.yO oS rfl rfl rfl (fun w' hw'=>zN one3 rfl (Cells.get (Blk.cells ((H.sees hw').item (i:=4) rfl)) (i:=0) rfl)) ?_
 obtain ⟨f,o,c⟩:=zF c
 obtain ⟨A,B,ag,ah,C,D,E,F,G⟩:=rd_at (H.item (i:=2) rfl) o
 obtain rfl:=rToldT_open D
 have H:=H.fz (.at A (B+d.track.toNat * 2) _) ⟨E,F,G⟩
 refine Mx.zI rfl rfl rfl (fun w' hw'=>xE u55 sz148 C rfl (yE o).1 (yE o).2.1 rfl rfl) ?_
 refine Mx.yO oS rfl rfl rfl (fun w' hw'=>yS (yR (cs:=[.int .i64 f.N,.bool f.Known]) agg148 rfl sz148 rfl ((H.sees hw').item (i:=5) rfl).2.2) rfl) ?_
 refine Mx.XL_exN oS rfl rfl rfl (fun w' hw'=>Ls_of (xQ zero148 (H.sees hw')) (Ys_alloc zero148)) ?_
 rintro w' _ ai hw' ⟨aj,rfl,H⟩
 refine Mx.XL_exU oS rfl rfl (fun w' hw'=>xH (vs:=[.int .i64 f.N,.bool f.Known]) (H.sees hw') 6 rfl sz148 rfl rfl rfl ⟨rfl,rfl,trivial⟩ rfl) ?_
 rintro w' ak hw' H
 refine ⟨H.only,?_⟩
 refine Mx.xK fun al hS=>?_
 have H:=H.sees hS
 have H:=z.rejoin H
 refine (zA (y _ _ ?_))
 refine zC fun am I=>?_
 refine zC fun an J=>zB ?_
 refine zH (fa148_1 rfl)<| zH (zN one4 rfl (Cells.get (Blk.cells (H.item (i:=6) rfl)) (i:=1) rfl)) ?_
 obtain ⟨K,L,c⟩:=zD c
 refine zH (zQ (wI (p:=f.Known) rfl) L)<| (zG (zA (J _ _ ?_)))
 refine zZ (b:=K) rfl (fun q=>?_) (fun q=>?_)
 ·have c:=zS q c
  refine zC fun ao M=>zB ?_
  refine zK (.int .i64 0)<| (zG (zA (M _ _ ?_)))
  obtain rfl:=someI c
  refine (zY (zV (post1 (v1:= .int .i64 0) rfl rfl ?_)))
  exact ⟨rfl,H.pick [0,1] (by decide)⟩
 have c:=zT q c
 refine (yA (zA (I _ _ ?_)))
 refine zC fun ap P=>?_
 have Q:=H
 have H:=H.rebase
 have aq:=H
 refine wF H [0,1,2,3,4,5,6,7,8,9,10] [.pure,.read,.pure,.read,.pure,.read,.pure,.fcall,.fcall,.fcall,.pure] mixed (by kernel_rfl) (by kernel_rfl) (by kernel_rfl) rfl ?_
 refine Mx.zI rfl rfl rfl (fun w' hw'=>fa279_1 rfl) ?_
 refine Mx.yO oS rfl rfl rfl (fun w' hw'=>zN one3 rfl (Cells.get (Blk.cells ((H.sees hw').item (i:=4) rfl)) (i:=1) rfl)) ?_
 refine Mx.zI rfl rfl rfl (fun w' hw'=>fa148_0 rfl) ?_
 refine Mx.yO oS rfl rfl rfl (fun w' hw'=>zN one3 rfl (Cells.get (Blk.cells ((H.sees hw').item (i:=6) rfl)) (i:=0) rfl)) ?_
 refine Mx.zI rfl rfl rfl (fun w' hw'=>fa279_2 rfl) ?_
 refine Mx.yO oS rfl rfl rfl (fun w' hw'=>zN one3 rfl (Cells.get (Blk.cells ((H.sees hw').item (i:=4) rfl)) (i:=2) rfl)) ?_
 obtain ⟨R,T,c⟩:=zD c
 refine Mx.zI rfl rfl rfl (fun w' hw'=>Do_sub (a:=f.N) (b:=d.n) rfl rfl T) ?_
 have U:=H
 obtain ⟨t,V,c⟩:=zF c
 refine Mx.XL_fcall oS rfl rfl rfl (v:= .int .i64 t) (fun w' hw'=>yC en330 rfl) (fun w' hw'=>call_read (Falw R _ V _ _ _ (Hd.fresh0 w'))) ?_
 have H:=U
 have X:=H
 obtain ⟨u,Y,c⟩:=zF c
 refine Mx.XL_fcall oS rfl rfl rfl (v:= .bool u) (fun w' hw'=>yC en329 rfl) (fun w' hw'=>call_read (Fa9w d.op t _ Y _ _ _ (Hd.fresh0 w'))) ?_
 have H:=X
 have Z:=H
 obtain ⟨s,aa,c⟩:=zF c
 refine Mx.XL_fcall oS rfl rfl rfl (v:= .int .i64 s) (fun w' hw'=>yC en328 rfl) (fun w' hw'=>call_read (Fctw u _ aa _ _ _ (Hd.fresh0 w'))) ?_
 have H:=Z
 refine Mx.zI rfl rfl rfl (fun w' hw'=>xN (v:= .int .i64 s) rfl) ?_
 refine Mx.xK fun ar hS=>?_
 have H:=H.sees hS
 have H:=Q.rejoin H
 refine (zA (P _ _ ?_))
 obtain rfl:=someI c
 refine (zY (post1 (v1:= .int .i64 s) rfl rfl ?_))
 exact ⟨rfl,H.pick [0,1] (by decide)⟩
theorem Fbew (d:Int)(f:Int)(r:Int×Int)(c:Fbe d f=some r)(O S:List Nat)(w:World)(H:Hd O w w S []):
  Calls Tryz.prog 270 ([.int .u64 d,.int .u64 f]:List Value).toArray w fun e w'=>e= .returned (.tuple #[.int .u64 r.1,.int .u64 r.2])∧Hd O w w' S []:=by
 unfold Fbe at c
 refine zW 51 Tryz.func270 rfl rfl rfl ?_
 refine zC fun K1 v=>zB ?_
 refine zK (.int .u64 0)<| zK (.int .u64 0)<| (zG (zA (v _ _ ?_)))
 refine zC fun K2 x=>zB ?_
 refine zJ (.int .u64 d) ?_
 obtain ⟨h,y,c⟩:=zD c
 refine zH (Do_and (a:=d) (b:=4294967295) rfl rfl y)<| zK (.int .u64 h)<| (zG (zA (x _ _ ?_)))
 refine zC fun K5 z=>zB ?_
 refine zJ (.int .u64 d) ?_
 obtain ⟨i,A,c⟩:=zF c
 refine zH (Do_shr' (j:=d) (q:=32) rfl rfl A)<| zK (.int .u64 i)<| (zG (zA (z _ _ ?_)))
 refine zC fun K8 B=>zB ?_
 refine zJ (.int .u64 f) ?_
 obtain ⟨k,C,c⟩:=zD c
 refine zH (Do_and (a:=f) (b:=4294967295) rfl rfl C)<| zK (.int .u64 k)<| (zG (zA (B _ _ ?_)))
 refine zC fun an D=>zB ?_
 refine zJ (.int .u64 f) ?_
 obtain ⟨l,E,c⟩:=zF c
 refine zH (Do_shr' (j:=f) (q:=32) rfl rfl E)<| zK (.int .u64 l)<| (zG (zA (D _ _ ?_)))
 refine zC fun ao F=>zB ?_
 refine zJ (.int .u64 h)<| zJ (.int .u64 k) ?_
 obtain ⟨n,G,c⟩:=zD c
 refine zH (Do_mul (a:=h) (b:=k) rfl rfl G)<| zK (.int .u64 n)<| (zG (zA (F _ _ ?_)))
 refine zC fun ap I=>zB ?_
 refine zJ (.int .u64 i)<| zJ (.int .u64 k) ?_
 obtain ⟨J,K,c⟩:=zD c
 refine zH (Do_mul (a:=i) (b:=k) rfl rfl K)<| zJ (.int .u64 n) ?_
 obtain ⟨L,M,c⟩:=zF c
 refine zH (Do_shr' (j:=n) (q:=32) rfl rfl M) ?_
 obtain ⟨m,N,c⟩:=zD c
 refine zH (xM (a:=J) (b:=L) rfl rfl N)<| zK (.int .u64 m)<| (zG (zA (I _ _ ?_)))
 refine zC fun aq P=>zB ?_
 refine zJ (.int .u64 m) ?_
 obtain ⟨o,Q,c⟩:=zD c
 refine zH (Do_and (a:=m) (b:=4294967295) rfl rfl Q)<| zK (.int .u64 o)<| (zG (zA (P _ _ ?_)))
 refine zC fun ar R=>zB ?_
 refine zJ (.int .u64 m) ?_
 obtain ⟨p,T,c⟩:=zF c
 refine zH (Do_shr' (j:=m) (q:=32) rfl rfl T)<| zK (.int .u64 p)<| (zG (zA (R _ _ ?_)))
 refine zC fun au U=>zB ?_
 refine zJ (.int .u64 o)<| zJ (.int .u64 h)<| zJ (.int .u64 l) ?_
 obtain ⟨V,X,c⟩:=zD c
 refine zH (Do_mul (a:=h) (b:=l) rfl rfl X) ?_
 obtain ⟨s,Y,c⟩:=zD c
 refine zH (xM (a:=o) (b:=V) rfl rfl Y)<| zK (.int .u64 s)<| (zG (zA (U _ _ ?_)))
 refine zC fun av Z=>zB ?_
 refine zJ (.int .u64 i)<| zJ (.int .u64 l) ?_
 obtain ⟨aa,ab,c⟩:=zD c
 refine zH (Do_mul (a:=i) (b:=l) rfl rfl ab)<| zJ (.int .u64 p) ?_
 obtain ⟨ac,ad,c⟩:=zD c
 refine zH (xM (a:=aa) (b:=p) rfl rfl ad)<| zJ (.int .u64 s) ?_
 obtain ⟨ae,af,c⟩:=zF c
 refine zH (Do_shr' (j:=s) (q:=32) rfl rfl af) ?_
 obtain ⟨t,ag,c⟩:=zD c
 refine zH (xM (a:=ac) (b:=ae) rfl rfl ag)<| zK (.int .u64 t)<| (zG (zA (Z _ _ ?_)))
 refine zC fun aw ah=>zB ?_
 refine zJ (.int .u64 d)<| zJ (.int .u64 f) ?_
 obtain ⟨u,ai,c⟩:=zD c
 refine zH (Do_mul (a:=d) (b:=f) rfl rfl ai)<| zK (.int .u64 u)<| (zG (zA (ah _ _ ?_)))
 obtain rfl:=someI c
 refine (zY (post2 (v1:= .int .u64 t) (v2:= .int .u64 u) rfl rfl rfl ?_))
 exact ⟨rfl,H.pick [] (by decide)⟩
set_option maxRecDepth 100000 in
theorem Fbuw (i:Int)(o:Int)(l:Int)(p:Int)(r:Int)(c:Fbu i o l p=some r)(O S:List Nat)(w:World)(H:Hd O w w S []):
  Calls Tryz.prog 333 ([.int .i64 i,.int .i64 o,.int .i64 l,.int .i64 p]:List Value).toArray w fun e w'=>e= .returned (.int .i64 r)∧Hd O w w' S []:=by
 unfold Fbu at c
 refine zW 75 Tryz.func333 rfl rfl rfl ?_
 refine zC fun K1 F=>zB ?_
 refine zK (.int .i64 0)<| (zG (zA (F _ _ ?_)))
 refine zC fun bf G=>?_
 refine zC fun bg I=>zB ?_
 refine zJ (.int .i64 i) ?_
 have J:=H
 obtain ⟨m,K,c⟩:=zF c
 refine yG rfl rfl (yC en330 rfl) (Falw i _ K _ _ _ (H.enter [] [] (by decide) rfl)) ?_
 rintro _ bh ⟨rfl,L⟩
 have H:=J.step (L.only:Only [] _ _)
 refine ⟨_,rfl,?_⟩
 refine zJ (.int .i64 l) ?_
 have M:=H
 obtain ⟨n,N,c⟩:=zF c
 refine yG rfl rfl (yC en330 rfl) (Falw l _ N _ _ _ (H.enter [] [] (by decide) rfl)) ?_
 rintro _ bi ⟨rfl,P⟩
 have H:=M.step (P.only:Only [] _ _)
 refine ⟨_,rfl,?_⟩
 refine zK (.int .i64 m)<| zK (.int .i64 n)<| (zG (zA (I _ _ ?_)))
 refine zC fun bj Q=>zB ?_
 refine zJ (.int .i64 m)<| zJ (.int .i64 n) ?_
 obtain ⟨R,T,c⟩:=zD c
 refine zH (zQ (wH (a:=m) (b:=n) rfl rfl) T)<| (zG (zA (Q _ _ ?_)))
 refine zZ (b:=R) rfl (fun q=>?_) (fun q=>?_)
 ·have c:=zS q c
  refine zC fun bk U=>zB ?_
  refine zJ (.int .i64 m)<| zJ (.int .i64 n) ?_
  obtain ⟨V,X,c⟩:=zD c
  refine zH (Do_sub (a:=m) (b:=n) rfl rfl X) ?_
  have Y:=H
  obtain ⟨A,Z,c⟩:=zF c
  refine yG rfl rfl (yC en330 rfl) (Falw V _ Z _ _ _ (H.enter [] [] (by decide) rfl)) ?_
  rintro _ bl ⟨rfl,aa⟩
  have H:=Y.step (aa.only:Only [] _ _)
  refine ⟨_,rfl,?_⟩
  refine zK (.int .i64 A)<| (zG (zA (U _ _ ?_)))
  obtain rfl:=someI c
  refine (zY (zV (post1 (v1:= .int .i64 A) rfl rfl ?_)))
  exact ⟨rfl,H.pick [] (by decide)⟩
 have c:=zT q c
 refine (yA (zA (G _ _ ?_)))
 refine zC fun bm ab=>zB ?_
 refine zJ (.int .i64 i) ?_
 have ac:=H
 obtain ⟨d,ad,c⟩:=zF c
 refine yG rfl rfl (yC en330 rfl) (Falw i _ ad _ _ _ (H.enter [] [] (by decide) rfl)) ?_
 rintro _ bn ⟨rfl,ae⟩
 have H:=ac.step (ae.only:Only [] _ _)
 refine ⟨_,rfl,?_⟩
 refine zK (.int .i64 d)<| (zG (zA (ab _ _ ?_)))
 refine zC fun bo af=>zB ?_
 refine zJ (.int .i64 i)<| zJ (.int .i64 d) ?_
 obtain ⟨bp,ag,c⟩:=zD c
 refine zH (Do_mul (a:=i) (b:=d) rfl rfl ag) ?_
 obtain ⟨ah,ai,c⟩:=zD c
 refine zH (Do_conv u3 u297 rfl ai)<| zJ (.int .i64 p) ?_
 obtain ⟨aj,ak,c⟩:=zD c
 refine zH (Do_conv u3 u297 rfl ak) ?_
 have al:=H
 obtain ⟨⟨f,j⟩,am,c⟩:=zF c
 refine yG rfl rfl (yC en270 rfl) (Fbew ah aj _ am _ _ _ (H.enter [] [] (by decide) rfl)) ?_
 rintro _ bq ⟨rfl,an⟩
 have H:=al.step (an.only:Only [] _ _)
 refine ⟨_,rfl,?_⟩
 refine zJ (.tuple #[.int .u64 f,.int .u64 j])<| zH (xY (v:= .int .u64 f) rfl rfl)<| zH (xY (v:= .int .u64 j) rfl rfl)<| zK (.int .u64 f)<| zK (.int .u64 j)<| (zG (zA (af _ _ ?_)))
 refine zC fun br ao=>zB ?_
 refine zJ (.int .i64 l)<| zJ (.int .i64 d) ?_
 obtain ⟨bt,ap,c⟩:=zD c
 refine zH (Do_mul (a:=l) (b:=d) rfl rfl ap) ?_
 obtain ⟨aq,ar,c⟩:=zD c
 refine zH (Do_conv u3 u297 rfl ar)<| zJ (.int .i64 o) ?_
 obtain ⟨au,av,c⟩:=zD c
 refine zH (Do_conv u3 u297 rfl av) ?_
 have aw:=H
 obtain ⟨⟨h,k⟩,ax,c⟩:=zF c
 refine yG rfl rfl (yC en270 rfl) (Fbew aq au _ ax _ _ _ (H.enter [] [] (by decide) rfl)) ?_
 rintro _ bu ⟨rfl,ay⟩
 have H:=aw.step (ay.only:Only [] _ _)
 refine ⟨_,rfl,?_⟩
 refine zJ (.tuple #[.int .u64 h,.int .u64 k])<| zH (xY (v:= .int .u64 h) rfl rfl)<| zH (xY (v:= .int .u64 k) rfl rfl)<| zK (.int .u64 h)<| zK (.int .u64 k)<| (zG (zA (ao _ _ ?_)))
 refine zC fun bv az=>?_
 refine yH ?_
 obtain ⟨B,c,a0⟩:=zF c
 refine yK [49,50,51,52,53,54,55,56,57,58,59,60,61,62] (fun (g:Unit)=>[(49,.bool B)]) (fun g wl=>Hd O w wl S []) ?_ ?_
 ·skip
  refine zB ?_
  refine zJ (.int .u64 f)<| zJ (.int .u64 h) ?_
  obtain ⟨a1,a2,c⟩:=zD c
  refine zH (zQ (xR (a:=f) (b:=h) rfl rfl) a2)<| yN (b:=a1) rfl rfl rfl (fun s=>?_) (fun s=>?_)
  ·have c:=zS s c
   refine yI ?_
   refine yI ?_
   refine yI ?_
   refine yI ?_
   refine yI ?_
   refine yI ?_
   refine yI ?_
   refine yI ?_
   refine zH (yL (v:= .bool true) rfl rfl)<| zK (.bool true) ?_
   obtain rfl:=someI c
   exact (zG (zA (meet ⟨(),(zL rfl zM),H.pick [] (by decide)⟩)))
  have c:=zT s c
  refine zJ (.int .u64 f)<| zJ (.int .u64 h) ?_
  obtain ⟨a3,a4,c⟩:=zD c
  refine zH (zQ (xA (a:=f) (b:=h) rfl rfl) a4)<| yN (b:=a3) rfl rfl rfl (fun t=>?_) (fun t=>?_)
  ·have c:=zS t c
   refine zJ (.int .u64 j)<| zJ (.int .u64 k) ?_
   obtain ⟨u,a5,c⟩:=zD c
   refine zH (zQ (xR (a:=j) (b:=k) rfl rfl) a5)<| zH (yL (v:= .bool u) rfl rfl)<| zH (yJ (v:= .bool u) rfl rfl)<| zK (.bool u) ?_
   obtain rfl:=someI c
   exact (zG (zA (meet ⟨(),(zL rfl zM),H.pick [] (by decide)⟩)))
  have c:=zT t c
  refine yI ?_
  refine yI ?_
  refine yI ?_
  refine zH (yJ (v:= .bool false) rfl rfl)<| zH (yJ (v:= .bool false) rfl rfl)<| zK (.bool false) ?_
  obtain rfl:=someI c
  exact (zG (zA (meet ⟨(),(zL rfl zM),H.pick [] (by decide)⟩)))
 rintro _ ρ bw H
 have c:=a0
 refine zZ (b:=B) rfl (fun x=>?_) (fun x=>?_)
 ·have c:=zS x c
  refine zC fun bx a6=>zB ?_
  refine zJ (.int .i64 d) ?_
  obtain ⟨C,a7,c⟩:=zD c
  refine zH (Do_neg (a:=d) rfl a7)<| zK (.int .i64 C)<| (zG (zA (a6 _ _ ?_)))
  obtain rfl:=someI c
  refine (zY (yF (zV (post1 (v1:= .int .i64 C) rfl rfl ?_))))
  exact ⟨rfl,H.pick [] (by decide)⟩
 have c:=zT x c
 obtain ⟨D,c,a8⟩:=zF c
 refine yK [65,66,67,68,69,70,71,72,73] (fun (g:Unit)=>[(65,.bool D)]) (fun g wl=>Hd O w wl S []) ?_ ?_
 ·skip
  refine zB ?_
  refine zJ (.int .u64 f)<| zJ (.int .u64 h) ?_
  obtain ⟨a9,ba,c⟩:=zD c
  refine zH (zQ (xA (a:=f) (b:=h) rfl rfl) ba)<| yN (b:=a9) rfl rfl rfl (fun y=>?_) (fun y=>?_)
  ·have c:=zS y c
   refine zJ (.int .u64 j)<| zJ (.int .u64 k) ?_
   obtain ⟨E,bb,c⟩:=zD c
   refine zH (zQ (xA (a:=j) (b:=k) rfl rfl) bb)<| zH (yL (v:= .bool E) rfl rfl)<| zK (.bool E) ?_
   obtain rfl:=someI c
   exact (zG (zA (meet ⟨(),(zL rfl zM),H.pick [] (by decide)⟩)))
  have c:=zT y c
  refine yI ?_
  refine yI ?_
  refine yI ?_
  refine zH (yJ (v:= .bool false) rfl rfl)<| zK (.bool false) ?_
  obtain rfl:=someI c
  exact (zG (zA (meet ⟨(),(zL rfl zM),H.pick [] (by decide)⟩)))
 rintro _ ρ bz H
 have c:=a8
 refine zZ (b:=D) rfl (fun z=>?_) (fun z=>?_)
 ·have c:=zS z c
  refine zC fun b0 bc=>zB ?_
  refine zK (.int .i64 0)<| (zG (zA (bc _ _ ?_)))
  obtain rfl:=someI c
  refine (zY (yF (zV (post1 (v1:= .int .i64 0) rfl rfl ?_))))
  exact ⟨rfl,H.pick [] (by decide)⟩
 have c:=zT z c
 refine (yA (yP (zA (az _ _ ?_))))
 refine zC fun b1 bd=>zB ?_
 refine zJ (.int .i64 d)<| zK (.int .i64 d)<| (zG (zA (bd _ _ ?_)))
 obtain rfl:=someI c
 refine (zY (post1 (v1:= .int .i64 d) rfl rfl ?_))
 exact ⟨rfl,H.pick [] (by decide)⟩
theorem Favw (c:EventPair)(f:EventMoment)(n:Nat)(h:Value)(j:Value)(k:Value)(r:Int)(d:Fav c f=some r)(O S:List Nat)(w:World)(H:Hd O w w S [.own (Rp.int .i64) k 3 f.rules,.blk n [h,j,k] 222,.fz (.sl rToldT h f.told),.fz (.sl Rp.bool j f.possible)]):
  Calls Tryz.prog 332 ([.agg [.int .i64 c.a,.int .i64 c.b,.int .i64 c.denA,.int .i64 c.denB,.int .i64 c.op].toArray,ptr0 n]:List Value).toArray w fun e w'=>e= .returned (.int .i64 r)∧Hd O w w' S [.own (Rp.int .i64) k 3 f.rules,.blk n [h,j,k] 222]:=by
 unfold Fav at d
 refine zW 44 Tryz.func332 rfl rfl rfl ?_
 refine zC fun K9 K=>zB ?_
 refine yY rfl rfl (xX (cs:=[.int .i64 c.a,.int .i64 c.b,.int .i64 c.denA,.int .i64 c.denB,.int .i64 c.op]) rfl H) ?_
 rintro _ q ⟨o,rfl,H⟩
 refine zK (.int .i64 0)<| (zG (zA (K _ _ ?_)))
 refine zC fun aw L=>?_
 have M:=H
 have H:=H.rebase
 have P:=H
 have s:Hd (O++bks (rest [0] [.own (Rp.int .i64) k 3 f.rules,.blk n [h,j,k] 222,.fz (.sl rToldT h f.told),.fz (.sl Rp.bool j f.possible),.blk o [.int .i64 c.a,.int .i64 c.b,.int .i64 c.denA,.int .i64 c.denB,.int .i64 c.op] 281])) q q (bks (Go.Lf.pick ([0]++ [2,3]) [.own (Rp.int .i64) k 3 f.rules,.blk n [h,j,k] 222,.fz (.sl rToldT h f.told),.fz (.sl Rp.bool j f.possible),.blk o [.int .i64 c.a,.int .i64 c.b,.int .i64 c.denA,.int .i64 c.denB,.int .i64 c.op] 281])) [.own (Rp.int .i64) k 3 f.rules,.fz (.sl rToldT h f.told),.fz (.sl Rp.bool j f.possible)]:=H.enter [0] [2,3] (by decide) rfl
 have E:=H.firmB s (i:=1) rfl (List.mem_append_right _ List.mem_cons_self)
 have F:=H.firmB s (i:=4) rfl (List.mem_append_right _ (List.mem_cons_of_mem _ List.mem_cons_self))
 have H:=s
 have ax:=H.firm (i:=1) rfl
 refine WP_mixM H [0,1,2,3,4,5,6,7,8,9,10,11,12,13,14,15,16,17,18,19] [.pure,.pure,.pure,.pure,.pure,.pure,.pure,.read,.pure,.pure,.pure,.pure,.pure,.pure,.pure,.pure,.mk (World.heap q).size,.mk (World.heap q).size,.eff,.eff] ⟨trivial,trivial,trivial,trivial,trivial,trivial,trivial,trivial,trivial,trivial,trivial,trivial,trivial,trivial,trivial,trivial,rfl,rfl,trivial,trivial,trivial⟩ mixed (by kernel_rfl) (by kernel_rfl) (by kernel_rfl) (by decide) ?_
 have H:=H.hm
 refine MxM.zI rfl rfl rfl (fun w' hw'=>yM (v:=ptr0 n) rfl) ?_
 refine MxM.zI rfl rfl rfl (fun w' hw'=>yB rfl) ?_
 refine MxM.zI rfl rfl rfl (fun w' hw'=>fa222_0 rfl) ?_
 refine MxM.zI rfl rfl rfl (fun w' hw'=>zN one55 rfl (Cells.get (Blk.cells (E w' hw')) (i:=0) rfl)) ?_
 refine MxM.zI rfl rfl rfl (fun w' hw'=>fa281_0 rfl) ?_
 refine MxM.zI rfl rfl rfl (fun w' hw'=>zN one3 rfl (Cells.get (Blk.cells (F w' hw')) (i:=0) rfl)) ?_
 obtain ⟨l,t,d⟩:=zF d
 obtain ⟨u,o23,ay,az,Q,R,T,U,V⟩:=rd_at (H.item (i:=1) rfl) t
 obtain rfl:=rToldT_open R
 have H:=H.fz (.at u (o23+c.a.toNat * 2) _) ⟨T,U,V⟩
 refine MxM.zI rfl rfl rfl (fun w' hw'=>xE u55 sz148 Q rfl (yE t).1 (yE t).2.1 rfl rfl) ?_
 refine MxM.yO oS rfl rfl rfl (fun w' hw'=>yS (yR (cs:=[.int .i64 l.N,.bool l.Known]) agg148 rfl sz148 rfl ((H.sees hw').item (i:=3) rfl).2.2) rfl) ?_
 refine MxM.zI rfl rfl rfl (fun w' hw'=>yM (v:=ptr0 n) rfl) ?_
 refine MxM.zI rfl rfl rfl (fun w' hw'=>yB rfl) ?_
 refine MxM.zI rfl rfl rfl (fun w' hw'=>fa222_0 rfl) ?_
 refine MxM.zI rfl rfl rfl (fun w' hw'=>zN one55 rfl (Cells.get (Blk.cells (E w' hw')) (i:=0) rfl)) ?_
 refine MxM.zI rfl rfl rfl (fun w' hw'=>fa281_1 rfl) ?_
 refine MxM.zI rfl rfl rfl (fun w' hw'=>zN one3 rfl (Cells.get (Blk.cells (F w' hw')) (i:=1) rfl)) ?_
 obtain ⟨m,x,d⟩:=zF d
 obtain ⟨y,o35,a0,a1,X,Y,Z,aa,ab⟩:=rd_at (H.item (i:=1) rfl) x
 obtain rfl:=rToldT_open Y
 have H:=H.fz (.at y (o35+c.b.toNat * 2) _) ⟨Z,aa,ab⟩
 refine MxM.zI rfl rfl rfl (fun w' hw'=>xE u55 sz148 X rfl (yE x).1 (yE x).2.1 rfl rfl) ?_
 have ac:=s.firmC (H.item (i:=4) rfl).1.1 (H.item (i:=4) rfl).2.1 (H.item (i:=4) rfl).2.2
 refine MxM.zI rfl rfl rfl (fun w' hw'=>yS (yR (cs:=[.int .i64 m.N,.bool m.Known]) agg148 rfl sz148 rfl (ac w' hw')) rfl) ?_
 refine H.alloc_rule rfl rfl rfl rfl zero148 ?_
 rintro z a2 H
 refine H.alloc_rule rfl rfl rfl rfl zero148 ?_
 rintro A a3 H
 have H:=H.hd
 refine MxM.XL_exU oS rfl rfl (fun w' hw'=>xH (vs:=[.int .i64 l.N,.bool l.Known]) (H.sees hw') 5 rfl sz148 rfl rfl rfl ⟨rfl,rfl,trivial⟩ rfl) ?_
 rintro w' a4 hw' H
 refine ⟨H.only,?_⟩
 refine MxM.XL_exU oS rfl rfl (fun w' hw'=>xH (vs:=[.int .i64 m.N,.bool m.Known]) (H.sees hw') 6 rfl sz148 rfl rfl rfl ⟨rfl,rfl,trivial⟩ rfl) ?_
 rintro w' a5 hw' H
 refine ⟨H.only,?_⟩
 refine MxM.xK fun ad hS=>?_
 have H:=H.sees hS
 have H:=P.back [0] [2,3] rfl H
 have H:Hd _ _ _ _ [.blk n [h,j,k] 222,.fz (.sl rToldT h f.told),.fz (.sl Rp.bool j f.possible),.blk o [.int .i64 c.a,.int .i64 c.b,.int .i64 c.denA,.int .i64 c.denB,.int .i64 c.op] 281,.own (Rp.int .i64) k 3 f.rules,.fz (.sl rToldT h f.told),.fz (.sl Rp.bool j f.possible),.fz (.at u (o23+c.a.toNat * 2) [.int .i64 l.N,.bool l.Known]),.fz (.at y (o35+c.b.toNat * 2) [.int .i64 m.N,.bool m.Known]),.blk z [.int .i64 l.N,.bool l.Known] 148,.blk A [.int .i64 m.N,.bool m.Known] 148]:=H
 have H:Hd O q ad (bks [.own (Rp.int .i64) k 3 f.rules,.blk n [h,j,k] 222,.fz (.sl rToldT h f.told),.fz (.sl Rp.bool j f.possible),.blk o [.int .i64 c.a,.int .i64 c.b,.int .i64 c.denA,.int .i64 c.denB,.int .i64 c.op] 281]) [.blk n [h,j,k] 222,.blk o [.int .i64 c.a,.int .i64 c.b,.int .i64 c.denA,.int .i64 c.denB,.int .i64 c.op] 281,.own (Rp.int .i64) k 3 f.rules,.fz (.sl rToldT h f.told),.fz (.sl Rp.bool j f.possible),.fz (.at u (o23+c.a.toNat * 2) [.int .i64 l.N,.bool l.Known]),.fz (.at y (o35+c.b.toNat * 2) [.int .i64 m.N,.bool m.Known]),.blk z [.int .i64 l.N,.bool l.Known] 148,.blk A [.int .i64 m.N,.bool m.Known] 148]:=H.pick [0,3,4,5,6,7,8,9,10] (by decide)
 have H:=M.rejoin H
 refine (zA (L _ _ ?_))
 refine zC fun a6 ae=>?_
 obtain ⟨G,d,af⟩:=zF d
 refine yK [23,24,25,26,27,28,29,30] (fun (g:Unit)=>[(30,.bool G)]) (fun g wl=>Hd O w wl S [.blk n [h,j,k] 222,.fz (.sl rToldT h f.told),.fz (.sl Rp.bool j f.possible),.own (Rp.int .i64) k 3 f.rules,.blk o [.int .i64 c.a,.int .i64 c.b,.int .i64 c.denA,.int .i64 c.denB,.int .i64 c.op] 281,.blk z [.int .i64 l.N,.bool l.Known] 148,.blk A [.int .i64 m.N,.bool m.Known] 148]) ?_ ?_
 ·skip
  refine zB ?_
  refine zH (fa148_1 rfl)<| zH (zN one4 rfl (Cells.get (Blk.cells (H.item (i:=7) rfl)) (i:=1) rfl)) ?_
  obtain ⟨ag,ah,d⟩:=zD d
  refine zH (zQ (wI (p:=l.Known) rfl) ah)<| yN (b:=ag) rfl rfl rfl (fun B=>?_) (fun B=>?_)
  ·have d:=zS B d
   refine yI ?_
   refine yI ?_
   refine yI ?_
   refine zH (yL (v:= .bool true) rfl rfl) ?_
   obtain rfl:=someI d
   exact (zG (zA (meet ⟨(),(zL rfl zM),H.pick [0,3,4,2,1,7,8] (by decide)⟩)))
  have d:=zT B d
  refine zH (fa148_1 rfl)<| zH (zN one4 rfl (Cells.get (Blk.cells (H.item (i:=8) rfl)) (i:=1) rfl)) ?_
  obtain ⟨ai,aj,d⟩:=zD d
  refine zH (zQ (wI (p:=m.Known) rfl) aj)<| zH (yJ (v:= .bool ai) rfl rfl) ?_
  obtain rfl:=someI d
  exact (zG (zA (meet ⟨(),(zL rfl zM),H.pick [0,3,4,2,1,7,8] (by decide)⟩)))
 rintro _ ρ a7 H
 have d:=af
 refine zZ (b:=G) rfl (fun C=>?_) (fun C=>?_)
 ·have d:=zS C d
  refine zC fun a8 ak=>zB ?_
  refine zK (.int .i64 0)<| (zG (zA (ak _ _ ?_)))
  obtain rfl:=someI d
  refine (zY (zV (post1 (v1:= .int .i64 0) rfl rfl ?_)))
  exact ⟨rfl,H.pick [3,0] (by decide)⟩
 have d:=zT C d
 refine (yA (zA (ae _ _ ?_)))
 refine zC fun a9 al=>?_
 have am:=H
 have H:=H.rebase
 have ba:=H
 refine wF H [0,1,2,3,4,5,6,7,8,9,10,11,12,13] [.pure,.read,.pure,.read,.pure,.read,.pure,.read,.pure,.read,.fcall,.fcall,.fcall,.pure] mixed (by kernel_rfl) (by kernel_rfl) (by kernel_rfl) rfl ?_
 refine Mx.zI rfl rfl rfl (fun w' hw'=>fa281_4 rfl) ?_
 refine Mx.yO oS rfl rfl rfl (fun w' hw'=>zN one3 rfl (Cells.get (Blk.cells ((H.sees hw').item (i:=4) rfl)) (i:=4) rfl)) ?_
 refine Mx.zI rfl rfl rfl (fun w' hw'=>fa148_0 rfl) ?_
 refine Mx.yO oS rfl rfl rfl (fun w' hw'=>zN one3 rfl (Cells.get (Blk.cells ((H.sees hw').item (i:=5) rfl)) (i:=0) rfl)) ?_
 refine Mx.zI rfl rfl rfl (fun w' hw'=>fa281_2 rfl) ?_
 refine Mx.yO oS rfl rfl rfl (fun w' hw'=>zN one3 rfl (Cells.get (Blk.cells ((H.sees hw').item (i:=4) rfl)) (i:=2) rfl)) ?_
 refine Mx.zI rfl rfl rfl (fun w' hw'=>fa148_0 rfl) ?_
 refine Mx.yO oS rfl rfl rfl (fun w' hw'=>zN one3 rfl (Cells.get (Blk.cells ((H.sees hw').item (i:=6) rfl)) (i:=0) rfl)) ?_
 refine Mx.zI rfl rfl rfl (fun w' hw'=>fa281_3 rfl) ?_
 refine Mx.yO oS rfl rfl rfl (fun w' hw'=>zN one3 rfl (Cells.get (Blk.cells ((H.sees hw').item (i:=4) rfl)) (i:=3) rfl)) ?_
 have an:=H
 obtain ⟨I,ao,d⟩:=zF d
 refine Mx.XL_fcall oS rfl rfl rfl (v:= .int .i64 I) (fun w' hw'=>yC en333 rfl) (fun w' hw'=>call_read (Fbuw l.N c.denA m.N c.denB _ ao _ _ _ (Hd.fresh0 w'))) ?_
 have H:=an
 have ap:=H
 obtain ⟨J,aq,d⟩:=zF d
 refine Mx.XL_fcall oS rfl rfl rfl (v:= .bool J) (fun w' hw'=>yC en329 rfl) (fun w' hw'=>call_read (Fa9w c.op I _ aq _ _ _ (Hd.fresh0 w'))) ?_
 have H:=ap
 have ar:=H
 obtain ⟨D,au,d⟩:=zF d
 refine Mx.XL_fcall oS rfl rfl rfl (v:= .int .i64 D) (fun w' hw'=>yC en328 rfl) (fun w' hw'=>call_read (Fctw J _ au _ _ _ (Hd.fresh0 w'))) ?_
 have H:=ar
 refine Mx.zI rfl rfl rfl (fun w' hw'=>xN (v:= .int .i64 D) rfl) ?_
 refine Mx.xK fun bb hS=>?_
 have H:=H.sees hS
 have H:=am.rejoin H
 refine (zA (al _ _ ?_))
 obtain rfl:=someI d
 refine (zY (post1 (v1:= .int .i64 D) rfl rfl ?_))
 exact ⟨rfl,H.pick [3,0] (by decide)⟩
set_option maxRecDepth 100000 in
theorem Fazw (d:EventSteady)(h:EventMoment)(o:Nat)(y:Value)(al:List Nat)(t:Nat)(l:Value)(m:Value)(k:Value)(r:Int×EventSteady)(c:Faz d h=some r)(O S:List Nat)(w:World)(H:Hd O w w S [.tr (Rt.row (Rt.of rToldT) 148 []) [y] al d.last,.blk o [.int .i64 d.track,.int .i64 d.n,.int .i64 d.frames,y] 241,.own (Rp.int .i64) k 3 h.rules,.blk t [l,m,k] 222,.fz (.sl rToldT l h.told),.fz (.sl Rp.bool m h.possible)]):
  Calls Tryz.prog 310 ([ptr0 o,ptr0 t]:List Value).toArray w fun e w'=> ∃V am,e= .returned (.int .i64 r.1)∧Hd O w w' S [.tr (Rt.row (Rt.of rToldT) 148 []) [V] am r.2.last,.blk o [.int .i64 r.2.track,.int .i64 r.2.n,.int .i64 r.2.frames,V] 241,.own (Rp.int .i64) k 3 h.rules,.blk t [l,m,k] 222]:=by
 unfold Faz at c
 refine zW 83 Tryz.func310 rfl rfl rfl ?_
 refine zC fun cq an=>zB ?_
 refine zK (.int .i64 0)<| (zG (zA (an _ _ ?_)))
 refine zC fun cr ao=>?_
 have ap:=H
 have H:=H.rebase
 have ct:=H
 refine wF H [0,1,2,3,4,5,6,7,8,9,10,11,12,13,14,15,16] [.pure,.pure,.pure,.read,.pure,.pure,.pure,.read,.pure,.pure,.pure,.read,.pure,.read,.new,.eff,.pure] mixed (by kernel_rfl) (by kernel_rfl) (by kernel_rfl) rfl ?_
 refine Mx.zI rfl rfl rfl (fun w' hw'=>yM (v:=ptr0 o) rfl) ?_
 refine Mx.zI rfl rfl rfl (fun w' hw'=>yB rfl) ?_
 refine Mx.zI rfl rfl rfl (fun w' hw'=>fa241_3 rfl) ?_
 refine Mx.yO oS rfl rfl rfl (fun w' hw'=>zN one55 rfl (Cells.get (Blk.cells ((H.sees hw').item (i:=1) rfl)) (i:=3) rfl)) ?_
 refine Mx.zI rfl rfl rfl (fun w' hw'=>yM (v:=ptr0 t) rfl) ?_
 refine Mx.zI rfl rfl rfl (fun w' hw'=>yB rfl) ?_
 refine Mx.zI rfl rfl rfl (fun w' hw'=>fa222_0 rfl) ?_
 refine Mx.yO oS rfl rfl rfl (fun w' hw'=>zN one55 rfl (Cells.get (Blk.cells ((H.sees hw').item (i:=3) rfl)) (i:=0) rfl)) ?_
 refine Mx.zI rfl rfl rfl (fun w' hw'=>yM (v:=ptr0 o) rfl) ?_
 refine Mx.zI rfl rfl rfl (fun w' hw'=>yB rfl) ?_
 refine Mx.zI rfl rfl rfl (fun w' hw'=>fa241_0 rfl) ?_
 refine Mx.yO oS rfl rfl rfl (fun w' hw'=>zN one3 rfl (Cells.get (Blk.cells ((H.sees hw').item (i:=1) rfl)) (i:=0) rfl)) ?_
 obtain ⟨s,J,c⟩:=zF c
 obtain ⟨X,o23,cu,cv,aq,ar,au,av,aw⟩:=rd_at (H.item (i:=4) rfl) J
 obtain rfl:=rToldT_open ar
 have H:=H.fz (.at X (o23+d.track.toNat * 2) _) ⟨au,av,aw⟩
 refine Mx.zI rfl rfl rfl (fun w' hw'=>xE u55 sz148 aq rfl (yE J).1 (yE J).2.1 rfl rfl) ?_
 refine Mx.yO oS rfl rfl rfl (fun w' hw'=>yS (yR (cs:=[.int .i64 s.N,.bool s.Known]) agg148 rfl sz148 rfl ((H.sees hw').item (i:=6) rfl).2.2) rfl) ?_
 obtain ⟨cw,ax,c⟩:=zD c
 subst ax
 refine Mx.XL_exN oS rfl rfl rfl (fun w' hw'=>Ls_of (Lx_bs (r:=rToldT) (xl:=[s]) (cs:=[.int .i64 s.N,.bool s.Known]) u55 el148 (by decide) (by decide) rfl (wC (vs:=[.agg [.int .i64 s.N,.bool s.Known].toArray]) (by decide) rfl rfl ⟨rfl,trivial⟩ rfl) (H.sees hw') ⟨[.int .i64 s.N,.bool s.Known],[],rfl,(rToldT_mk (x:=s)),rfl⟩) (Ys_bs (cs:=[.int .i64 s.N,.bool s.Known]) u55 el148 (by decide) (by decide) (wC (vs:=[.agg [.int .i64 s.N,.bool s.Known].toArray]) (by decide) rfl rfl ⟨rfl,trivial⟩ rfl))) ?_
 rintro w' ay cx hw' H
 obtain ⟨z,az,c⟩:=zF c
 refine Mx.XL_ex oS rfl rfl rfl (fun w' hw'=>Lx_appF (H.sees hw') 0 rfl u55 el148 rfl rfl (Sr.of_own ((H.sees hw').item (i:=7) rfl)) az) ?_
 rintro w' u cy hw' ⟨Y,H⟩
 refine ⟨H.only,?_⟩
 have H:Hd _ _ _ _ [.blk o [.int .i64 d.track,.int .i64 d.n,.int .i64 d.frames,y] 241,.own (Rp.int .i64) k 3 h.rules,.blk t [l,m,k] 222,.fz (.sl rToldT l h.told),.fz (.sl Rp.bool m h.possible),.fz (.at X (o23+d.track.toNat * 2) [.int .i64 s.N,.bool s.Known]),.own rToldT ay 148 ([s]:List ToldT),.tr (Rt.row (Rt.of rToldT) 148 []) [u] Y z]:=H
 refine Mx.zI rfl rfl rfl (fun w' hw'=>xN (v:=u) rfl) ?_
 refine Mx.xK fun cz hS=>?_
 have H:=H.sees hS
 have H:=ap.rejoin H
 refine (zA (ao _ _ ?_))
 refine zC fun c0 a0=>zB ?_
 refine zK (.int .i64 0)<| zK (.int .i64 0)<| zK (.int .i64 0)<| (zG (zA (a0 _ _ ?_)))
 obtain ⟨D,c,a1⟩:=zF c
 refine yK [6,7,8,10,27,28,29,30,31,32,33,34,35,36,37,38,39,40,41,42,43,44,45,46,47,48,49,50,51,52] (fun (g:(List Nat))=>[(6,.int .i64 D.1),(7,.int .i64 D.2.1),(8,.int .i64 D.2.2)]) (fun g wl=>Hd O w wl S [.blk o [.int .i64 d.track,.int .i64 d.n,.int .i64 d.frames,y] 241,.tr (Rt.row (Rt.of rToldT) 148 []) [u] g z,.own (Rp.int .i64) k 3 h.rules,.blk t [l,m,k] 222,.fz (.sl rToldT l h.told),.fz (.sl Rp.bool m h.possible)]) ?_ ?_
 ·skip
  refine zC fun c1 a2=>zB ?_
  refine zJ u ?_
  obtain ⟨a3,a4,c⟩:=zD c
  obtain ⟨c2,c3,a5⟩:=row_len ((H.item (i:=7) rfl))
  refine zH (yS (xP u55 a5) (congrArg (Value.int .i64) a4))<| zJ (.int .i64 0)<| (zG (zA (a2 _ _ ?_)))
  refine yH ?_
  unfold Fep at c
  obtain ⟨a6,Z,a7,c⟩:=yX c
  refine xI [6,7,8,10,29,30,31,32,33,34,35,36,37,38,39,40,41,42,43,44,45,46,47,48,49,50,51,52] (fun (g:Nat×Int×Int×Int×Int×(List Nat))=>[(6,.int .i64 g.2.1),(7,.int .i64 g.2.2.1),(8,.int .i64 g.2.2.2.1),(29,.int .i64 g.2.2.2.2.1)]) (fun g wl=>Hd O w wl S [.blk o [.int .i64 d.track,.int .i64 d.n,.int .i64 d.frames,y] 241,.tr (Rt.row (Rt.of rToldT) 148 []) [u] g.2.2.2.2.2 z,.own (Rp.int .i64) k 3 h.rules,.blk t [l,m,k] 222,.fz (.sl rToldT l h.told),.fz (.sl Rp.bool m h.possible)]∧loopN a6 g.1 (g.2.1,g.2.2.1,g.2.2.2.1,g.2.2.2.2.1)=some D) (fun g=>g.1) (Z,0,0,0,0,Y) (zL rfl (zL rfl (zL rfl (zL rfl zM)))) ⟨H.pick [0,7,1,2,3,4] (by decide),c⟩ ?_
  clear H c
  rintro ⟨Z,E,c4,c5,C,a8⟩ ρ c6 ⟨H,c⟩
  obtain ⟨a9,rfl,c⟩:=xC c
  have c:=xB a7 c
  refine zC fun c7 ba=>zB ?_
  obtain ⟨bb,bc,c⟩:=zD c
  refine zH (zQ (xR (a:=C) (b:=a3) rfl rfl) bc)<| (zG (zA (ba _ _ ?_)))
  refine zC fun c8 bd=>?_
  refine zZ (b:=bb) rfl (fun K=>?_) (fun K=>?_)
  ·have c:=zS K c
   refine (yA (zA (bd _ _ ?_)))
   obtain ⟨F,c,be⟩:=zF c
   refine yK [6,7,8,10,31,32,33,34,35,36,37,38,39,40,41,42,43,44,45,46,47,48,49,50,51] (fun (g:(List Nat))=>[(6,.int .i64 F.1),(7,.int .i64 F.2.1),(8,.int .i64 F.2.2)]) (fun g wl=>Hd O w wl S [.blk o [.int .i64 d.track,.int .i64 d.n,.int .i64 d.frames,y] 241,.tr (Rt.row (Rt.of rToldT) 148 []) [u] g z,.own (Rp.int .i64) k 3 h.rules,.blk t [l,m,k] 222,.fz (.sl rToldT l h.told),.fz (.sl Rp.bool m h.possible)]) ?_ ?_
   ·skip
    refine yH ?_
    refine zC fun c9 bf=>zB ?_
    obtain ⟨f,A,c⟩:=zF c
    obtain ⟨da,db,dc,L⟩:=row_at (H.item (i:=1) rfl) A
    refine zH (xE u55 sz148 L rfl (yE A).1 (yE A).2.1 rfl rfl) ?_
    obtain ⟨dd,G,de,H⟩:=H.focusV 1 rfl L A rfl
    obtain ⟨bg,bh⟩:=trF (H.item (i:=6) rfl)
    subst bg
    obtain rfl:=rToldT_open bh
    have H:Hd _ _ _ _ [.blk o [.int .i64 d.track,.int .i64 d.n,.int .i64 d.frames,y] 241,.own (Rp.int .i64) k 3 h.rules,.blk t [l,m,k] 222,.fz (.sl rToldT l h.told),.fz (.sl Rp.bool m h.possible),.tr (Rt.row (Rt.of rToldT) 148 [(C.toNat,[.int .i64 f.N,.bool f.Known])]) [u] G z,.tr (Rt.of rToldT) [.int .i64 f.N,.bool f.Known] [] f]:=H
    refine zH (yS (yR (cs:=[.int .i64 f.N,.bool f.Known]) agg148 rfl sz148 rfl (H.holeW 5 rfl L A rfl lookup_eq)) rfl)<| yY rfl rfl (xQ zero148 H) ?_
    rintro _ df ⟨B,rfl,H⟩
    refine xG rfl (xH (vs:=[.int .i64 f.N,.bool f.Known]) H 7 rfl sz148 rfl rfl rfl ⟨rfl,rfl,trivial⟩ rfl) ?_
    rintro dg H
    refine (zG (zA (bf _ _ ?_)))
    refine zC fun dh bi=>?_
    refine zC fun di bj=>zB ?_
    refine zH (fa148_1 rfl)<| zH (zN one4 rfl (Cells.get (Blk.cells (H.item (i:=7) rfl)) (i:=1) rfl)) ?_
    obtain ⟨bk,bl,c⟩:=zD c
    refine zH (zQ (wI (p:=f.Known) rfl) bl)<| (zG (zA (bj _ _ ?_)))
    refine zZ (b:=bk) rfl (fun M=>?_) (fun M=>?_)
    ·have c:=zS M c
     have H:Hd _ _ _ _ [.blk o [.int .i64 d.track,.int .i64 d.n,.int .i64 d.frames,y] 241,.own (Rp.int .i64) k 3 h.rules,.blk t [l,m,k] 222,.fz (.sl rToldT l h.told),.fz (.sl Rp.bool m h.possible),.tr (Rt.row (Rt.of rToldT) 148 [(C.toNat,[.int .i64 f.N,.bool f.Known])]) [u] G z,.tr (Rt.of rToldT) [.int .i64 f.N,.bool f.Known] [] f,.blk B [.int .i64 f.N,.bool f.Known] 148]:=H
     obtain ⟨aa,H⟩:=H.unfocus0 5 6 rfl rfl (by decide) rfl rfl A
     have H:Hd _ _ _ _ [.blk o [.int .i64 d.track,.int .i64 d.n,.int .i64 d.frames,y] 241,.own (Rp.int .i64) k 3 h.rules,.blk t [l,m,k] 222,.fz (.sl rToldT l h.told),.fz (.sl Rp.bool m h.possible),.blk B [.int .i64 f.N,.bool f.Known] 148,.tr (Rt.row (Rt.of rToldT) 148 []) [u] aa z]:=H
     obtain rfl:=someI c
     exact (xO (yQ (yZ (zA (meet ⟨aa,(zL rfl (zL rfl (zL rfl zM))),H.pick [0,6,1,2,3,4] (by decide)⟩)))))
    have c:=zT M c
    refine (yA (zA (bi _ _ ?_)))
    obtain ⟨P,c,bm⟩:=zF c
    refine yK [7,8,36,37,38,39,40,41] (fun (g:(List Nat))=>[(7,.int .i64 P.1),(8,.int .i64 P.2)]) (fun g wl=>Hd O w wl S [.blk o [.int .i64 d.track,.int .i64 d.n,.int .i64 d.frames,y] 241,.tr (Rt.row (Rt.of rToldT) 148 []) [u] g z,.own (Rp.int .i64) k 3 h.rules,.blk t [l,m,k] 222,.fz (.sl rToldT l h.told),.fz (.sl Rp.bool m h.possible),.blk B [.int .i64 f.N,.bool f.Known] 148]) ?_ ?_
    ·skip
     refine zC fun dj bn=>zB ?_
     refine zJ (.int .i64 E) ?_
     obtain ⟨bo,bp,c⟩:=zD c
     refine zH (zQ (xA (a:=E) (b:=0) rfl rfl) bp)<| (zG (zA (bn _ _ ?_)))
     refine zZ (b:=bo) rfl (fun Q=>?_) (fun Q=>?_)
     ·have c:=zS Q c
      have bq:=H
      have H:=H.rebase
      have dk:=H
      refine wF H [0,1,2,3,4,5] [.pure,.read,.pure,.read,.pure,.pure] mixed (by kernel_rfl) (by kernel_rfl) (by kernel_rfl) rfl ?_
      refine Mx.zI rfl rfl rfl (fun w' hw'=>fa148_0 rfl) ?_
      refine Mx.yO oS rfl rfl rfl (fun w' hw'=>zN one3 rfl (Cells.get (Blk.cells ((H.sees hw').item (i:=7) rfl)) (i:=0) rfl)) ?_
      refine Mx.zI rfl rfl rfl (fun w' hw'=>fa148_0 rfl) ?_
      refine Mx.yO oS rfl rfl rfl (fun w' hw'=>zN one3 rfl (Cells.get (Blk.cells ((H.sees hw').item (i:=7) rfl)) (i:=0) rfl)) ?_
      refine Mx.zI rfl rfl rfl (fun w' hw'=>xN (v:= .int .i64 f.N) rfl) ?_
      refine Mx.zI rfl rfl rfl (fun w' hw'=>xN (v:= .int .i64 f.N) rfl) ?_
      refine Mx.xK fun dl hS=>?_
      have H:=H.sees hS
      have H:=bq.rejoin H
      have H:Hd _ _ _ _ [.blk o [.int .i64 d.track,.int .i64 d.n,.int .i64 d.frames,y] 241,.own (Rp.int .i64) k 3 h.rules,.blk t [l,m,k] 222,.fz (.sl rToldT l h.told),.fz (.sl Rp.bool m h.possible),.tr (Rt.row (Rt.of rToldT) 148 [(C.toNat,[.int .i64 f.N,.bool f.Known])]) [u] G z,.tr (Rt.of rToldT) [.int .i64 f.N,.bool f.Known] [] f,.blk B [.int .i64 f.N,.bool f.Known] 148]:=H
      obtain ⟨ab,H⟩:=H.unfocus0 5 6 rfl rfl (by decide) rfl rfl A
      have H:Hd _ _ _ _ [.blk o [.int .i64 d.track,.int .i64 d.n,.int .i64 d.frames,y] 241,.own (Rp.int .i64) k 3 h.rules,.blk t [l,m,k] 222,.fz (.sl rToldT l h.told),.fz (.sl Rp.bool m h.possible),.blk B [.int .i64 f.N,.bool f.Known] 148,.tr (Rt.row (Rt.of rToldT) 148 []) [u] ab z]:=H
      obtain rfl:=someI c
      exact (zA (meet ⟨ab,(zL rfl (zL rfl zM)),H.pick [0,6,1,2,3,4,5] (by decide)⟩))
     have c:=zT Q c
     have H:Hd _ _ _ _ [.blk o [.int .i64 d.track,.int .i64 d.n,.int .i64 d.frames,y] 241,.own (Rp.int .i64) k 3 h.rules,.blk t [l,m,k] 222,.fz (.sl rToldT l h.told),.fz (.sl Rp.bool m h.possible),.tr (Rt.row (Rt.of rToldT) 148 [(C.toNat,[.int .i64 f.N,.bool f.Known])]) [u] G z,.tr (Rt.of rToldT) [.int .i64 f.N,.bool f.Known] [] f,.blk B [.int .i64 f.N,.bool f.Known] 148]:=H
     obtain ⟨ac,H⟩:=H.unfocus0 5 6 rfl rfl (by decide) rfl rfl A
     have H:Hd _ _ _ _ [.blk o [.int .i64 d.track,.int .i64 d.n,.int .i64 d.frames,y] 241,.own (Rp.int .i64) k 3 h.rules,.blk t [l,m,k] 222,.fz (.sl rToldT l h.told),.fz (.sl Rp.bool m h.possible),.blk B [.int .i64 f.N,.bool f.Known] 148,.tr (Rt.row (Rt.of rToldT) 148 []) [u] ac z]:=H
     obtain rfl:=someI c
     exact (yA (zA (meet ⟨ac,(zL rfl (zL rfl zM)),H.pick [0,6,1,2,3,4,5] (by decide)⟩)))
    rintro br ρ dm H
    have c:=bm
    obtain ⟨ad,ae⟩:=P
    have bt:=H
    have H:=H.rebase
    have dn:=H
    refine wF H [0,1,2,3,4,5,6,7,8,9,10,11,12] [.pure,.pure,.pure,.pure,.read,.pure,.pure,.pure,.read,.pure,.pure,.pure,.pure] mixed (by kernel_rfl) (by kernel_rfl) (by kernel_rfl) rfl ?_
    refine Mx.zI rfl rfl rfl (fun w' hw'=>yM (v:= .int .i64 E) rfl) ?_
    obtain ⟨bu,bv,c⟩:=zD c
    refine Mx.zI rfl rfl rfl (fun w' hw'=>xM (a:=E) (b:=1) rfl rfl bv) ?_
    refine Mx.zI rfl rfl rfl (fun w' hw'=>yM (v:= .int .i64 ad) rfl) ?_
    refine Mx.zI rfl rfl rfl (fun w' hw'=>fa148_0 rfl) ?_
    refine Mx.yO oS rfl rfl rfl (fun w' hw'=>zN one3 rfl (Cells.get (Blk.cells ((H.sees hw').item (i:=6) rfl)) (i:=0) rfl)) ?_
    obtain ⟨bw,bx,c⟩:=zD c
    refine Mx.zI rfl rfl rfl (fun w' hw'=>Do_min (j:=ad) (q:=f.N) rfl rfl bx) ?_
    refine Mx.zI rfl rfl rfl (fun w' hw'=>yM (v:= .int .i64 ae) rfl) ?_
    refine Mx.zI rfl rfl rfl (fun w' hw'=>fa148_0 rfl) ?_
    refine Mx.yO oS rfl rfl rfl (fun w' hw'=>zN one3 rfl (Cells.get (Blk.cells ((H.sees hw').item (i:=6) rfl)) (i:=0) rfl)) ?_
    obtain ⟨bz,b0,c⟩:=zD c
    refine Mx.zI rfl rfl rfl (fun w' hw'=>Do_max (j:=ae) (q:=f.N) rfl rfl b0) ?_
    refine Mx.zI rfl rfl rfl (fun w' hw'=>xN (v:= .int .i64 bu) rfl) ?_
    refine Mx.zI rfl rfl rfl (fun w' hw'=>xN (v:= .int .i64 bw) rfl) ?_
    refine Mx.zI rfl rfl rfl (fun w' hw'=>xN (v:= .int .i64 bz) rfl) ?_
    refine Mx.xK fun dp hS=>?_
    have H:=H.sees hS
    have H:=bt.rejoin H
    obtain rfl:=someI c
    exact (yP (zA (meet ⟨br,(zL rfl (zL rfl (zL rfl zM))),H.pick [0,1,2,3,4,5] (by decide)⟩)))
   rintro b1 ρ dq H
   have c:=be
   obtain ⟨b2,b3,b4⟩:=F
   refine zB ?_
   obtain ⟨af,b5,c⟩:=zD c
   refine zH (xM (a:=C) (b:=1) rfl rfl b5)<| zJ (.int .i64 af) ?_
   exact (zG (zA (meet ⟨(a9,b2,b3,b4,af,b1),(zL rfl (zL rfl (zL rfl (zL rfl zM)))),⟨H.pick [0,1,2,3,4,5] (by decide),c⟩,Nat.lt_succ_self _⟩)))
  have c:=zT K c
  obtain rfl:=someI c
  exact (xO (yQ (yQ (yZ (zA (meet ⟨a8,(zL rfl (zL rfl (zL rfl zM))),H.pick [0,1,2,3,4,5] (by decide)⟩))))))
 rintro R ρ dr H
 have c:=a1
 obtain ⟨ag,ah,ai⟩:=D
 refine zC fun ds b6=>zB ?_
 refine zJ (ptr0 o)<| zJ u<| zJ u ?_
 obtain ⟨b7,b8,c⟩:=zD c
 obtain ⟨dt,du,b9⟩:=row_len ((H.item (i:=1) rfl))
 refine zH (yS (xP u55 b9) (congrArg (Value.int .i64) b8))<| zJ (ptr0 o)<| zH (yB rfl)<| zH (fa241_2 rfl)<| zH (zN one3 rfl (Cells.get (Blk.cells (H.item (i:=0) rfl)) (i:=2) rfl)) ?_
 obtain ⟨ca,cb,c⟩:=zD c
 refine zH (Do_sub (a:=b7) (b:=d.frames) rfl rfl cb) ?_
 obtain ⟨cc,cd,c⟩:=zD c
 refine zH (xM (a:=ca) (b:=1) rfl rfl cd) ?_
 obtain ⟨dv,ce,c⟩:=zD c
 refine zH (Do_max (j:=0) (q:=cc) rfl rfl ce) ?_
 obtain ⟨dw,cf,c⟩:=zF c
 refine RL_exP rfl rfl (Lx_rpart_l H 1 rfl u55 sz148 rfl rfl cf) ?_
 rintro I H
 refine zH (yB rfl)<| zH (fa241_3 rfl)<| xG rfl (wE H 0 rfl sz55 rfl (v:=I) rfl (tr_one (H.item (i:=1) rfl)) rfl) ?_
 rintro dx H
 refine (zG (zA (b6 _ _ ?_)))
 refine zC fun dy cg=>?_
 refine yH ?_
 refine zC fun dz ch=>zB ?_
 refine zJ (.int .i64 ai)<| zJ (.int .i64 ah) ?_
 obtain ⟨ci,cj,c⟩:=zD c
 refine zH (Do_sub (a:=ai) (b:=ah) rfl rfl cj)<| zJ (ptr0 o)<| zH (yB rfl)<| zH (fa241_1 rfl)<| zH (zN one3 rfl (Cells.get (Blk.cells (H.item (i:=0) rfl)) (i:=1) rfl)) ?_
 obtain ⟨aj,ck,c⟩:=zD c
 refine zH (zQ (Do_gtr (a:=ci) (b:=d.n) rfl rfl) ck)<| zK (.bool aj)<| (zG (zA (ch _ _ ?_)))
 refine zZ (b:=aj) rfl (fun T=>?_) (fun T=>?_)
 ·have c:=zS T c
  refine zC fun d0 cl=>zB ?_
  refine zK (.int .i64 1)<| (zG (zA (cl _ _ ?_)))
  obtain rfl:=someI c
  refine (zY (yF (zV (post1 (v1:= .int .i64 1) rfl rfl ?_))))
  exact ⟨I,R,rfl,H.pick [1,0,2,3] (by decide)⟩
 have c:=zT T c
 refine zC fun d1 cm=>zB ?_
 refine zJ (.int .i64 ag)<| zJ (ptr0 o)<| zH (yB rfl)<| zH (fa241_2 rfl)<| zH (zN one3 rfl (Cells.get (Blk.cells (H.item (i:=0) rfl)) (i:=2) rfl)) ?_
 obtain ⟨ak,cn,c⟩:=zD c
 refine zH (zQ (xA (a:=ag) (b:=d.frames) rfl rfl) cn)<| zK (.bool ak)<| (zG (zA (cm _ _ ?_)))
 refine zZ (b:=ak) rfl (fun U=>?_) (fun U=>?_)
 ·have c:=zS U c
  refine zC fun d2 co=>zB ?_
  refine zK (.int .i64 2)<| (zG (zA (co _ _ ?_)))
  obtain rfl:=someI c
  refine (zY (yF (zV (post1 (v1:= .int .i64 2) rfl rfl ?_))))
  exact ⟨I,R,rfl,H.pick [1,0,2,3] (by decide)⟩
 have c:=zT U c
 refine (yA (yP (zA (cg _ _ ?_))))
 refine zC fun d3 cp=>zB ?_
 refine zK (.int .i64 0)<| (zG (zA (cp _ _ ?_)))
 obtain rfl:=someI c
 refine (zY (post1 (v1:= .int .i64 0) rfl rfl ?_))
 exact ⟨I,R,rfl,H.pick [1,0,2,3] (by decide)⟩
end Go.Proofs.YtckmiljbaejijaaGreatDoor.L
