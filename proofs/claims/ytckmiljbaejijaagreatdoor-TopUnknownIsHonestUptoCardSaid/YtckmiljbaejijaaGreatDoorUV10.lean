/- Walks: what each function computes, for every argument; no condition but those that stand in the statements. -/
import Derived.Test.YtckmiljbaejijaaGreatDoorUV0
import Derived.Test.YtckmiljbaejijaaGreatDoorUV4
import Derived.Test.YtckmiljbaejijaaGreatDoorUV6
import Derived.Test.YtckmiljbaejijaaGreatDoorUV7
import Derived.Test.YtckmiljbaejijaaGreatDoorUV9
import Derived.Test.YtckmiljbaejijaaGreatDoorUV1
namespace Go.Proofs.YtckmiljbaejijaaGreatDoor.L
open Go.RowKit Go.OB Go.Lf
set_option maxHeartbeats 4000000
set_option maxRecDepth 100000 in
theorem Fcew (j:Rules)(k:List gZ)(m:Int)(p:Int)(p4c0:List (List Str))(v1:Value)(n:Value)(o:Value)(f:Value)(h:Nat)(l:Value)(r:Int×(List (List Str)))(c:Fce j k m p p4c0=some r)(O S:List Nat)(w:World)(H:Hd O w w S [.own (Rp.sl Rp.str) l 22 p4c0,.blk h [l] 41,f1 Rp.str v1 j.Phases,f1 fD n j.Moves,f1 fF o j.Rules,f1 fG f k]):
  Calls Tryz.prog 53 ([.agg [v1,n,o].toArray,f,i6 m,i6 p,.func (.func 55) #[] #[gW h]]:List Value).toArray w fun e w'=> ∃ae,e= .returned (i6 r.1)∧Hd O w w' S [.own (Rp.sl Rp.str) ae 22 r.2,.blk h [ae] 41]:=by
 unfold Fce at c
 refine zZ 54 Tryz.func53 rfl rfl rfl ?_
 refine zC fun cn ar=>zB<| yY rfl rfl (xR (cs:=[v1,n,o]) rfl H) ?_
 rintro _ co ⟨af,rfl,H⟩
 refine zK (i6 0)<| zG (zA (ar _ _ ?_))
 refine zC fun cp au=>?_
 refine zC fun cq av=>zB<| zH (yO (yN (cs:=[v1,n,o]) agg26 rfl sz26 rfl (Hbc H 6 rfl)) rfl)<| zJ f ?_
 have aw:=H
 obtain ⟨z,ax,c⟩:=zF c
 refine yG rfl rfl (yB en73 rfl) (Fbbw j k v1 n o f _ ax _ _ _ (H.enter [] [2,3,4,5] (by decide) rfl)) ?_
 rintro _ cr ⟨rfl,ay⟩
 have H:=aw.step (ay.only:Only [] _ _)
 refine ⟨_,rfl,?_⟩
 refine zK (i6 z)<| zG (zA (av _ _ ?_))
 refine zC fun ct az=>zB<| zJ (i6 z) ?_
 obtain ⟨a0,a1,c⟩:=zD c
 refine zH (zM (wL (a:=z) (b:=0) rfl rfl) a1)<| zG (zA (az _ _ ?_))
 refine zW (b:=a0) rfl (fun L=>?_) (fun L=>?_)
 ·have c:=zN L c
  refine zC fun cu a2=>zB<| zJ (i6 z)<| zK (i6 z)<| zG (zA (a2 _ _ ?_))
  obtain rfl:=gI c
  refine (zY (zT (gX (v1:=i6 z) rfl rfl ?_)))
  exact ⟨l,rfl,H.pick [0,1] (by decide)⟩
 have c:=zO L c
 refine zX (zA (au _ _ ?_))
 refine zC fun cv a3=>?_
 obtain ⟨ag,c,a4⟩:=zF c
 refine yH [20,21,22,23,24,25,26,27,28,29,30] (fun (g:Unit)=>[(30,.bool ag)]) (fun g wl=>Hd O w wl S [.own (Rp.sl Rp.str) l 22 p4c0,.blk h [l] 41,f1 Rp.str v1 j.Phases,f1 fD n j.Moves,f1 fF o j.Rules,f1 fG f k,.blk af [v1,n,o] 26]) ?_ ?_
 ·skip
  refine zB ?_
  refine zJ (i6 m) ?_
  obtain ⟨a5,a6,c⟩:=zD c
  refine zH (zM (xK (a:=m) (b:=0) rfl rfl) a6) ?_
  obtain ⟨ah,c,a7⟩:=zF c
  refine dF 5 [22,23,24,25,26] [(26,.bool ah)] (fun wl=>Hd O w wl S [.own (Rp.sl Rp.str) l 22 p4c0,.blk h [l] 41,f1 Rp.str v1 j.Phases,f1 fD n j.Moves,f1 fF o j.Rules,f1 fG f k,.blk af [v1,n,o] 26]) ?_ ?_
  ·skip
   refine yM (b:=a5) rfl rfl rfl (fun M=>?_) (fun M=>?_)
   ·have c:=zN M c
    refine yE ?_
    refine yE ?_
    refine yE ?_
    refine zH (yI (v:= .bool true) rfl rfl) ?_
    obtain rfl:=gI c
    exact zG (zA (meet ⟨(zI rfl zL),H.pick [0,1,2,3,4,5,6] (by decide)⟩))
   have c:=zO M c
   refine zJ (i6 m)<| zJ (i6 p) ?_
   obtain ⟨a8,a9,c⟩:=zD c
   refine zH (zM (bM (a:=m) (b:=p) rfl rfl) a9)<| zH (yF (v:= .bool a8) rfl rfl) ?_
   obtain rfl:=gI c
   exact zG (zA (meet ⟨(zI rfl zL),H.pick [0,1,2,3,4,5,6] (by decide)⟩))
  rintro ρ cw H
  have c:=a7
  refine yM (b:=ah) rfl rfl rfl (fun N=>?_) (fun N=>?_)
  ·have c:=zN N c
   refine yE ?_
   refine yE ?_
   refine zH (yI (v:= .bool true) rfl rfl) ?_
   obtain rfl:=gI c
   exact (zG (zA (meet ⟨(),(zI rfl zL),H.pick [0,1,2,3,4,5,6] (by decide)⟩)))
  have c:=zO N c
  refine zJ (i6 p) ?_
  obtain ⟨ba,bb,c⟩:=zD c
  refine zH (zM (aJ (a:=p) (b:=4194304) rfl rfl) bb)<| zH (yF (v:= .bool ba) rfl rfl) ?_
  obtain rfl:=gI c
  exact (zG (zA (meet ⟨(),(zI rfl zL),H.pick [0,1,2,3,4,5,6] (by decide)⟩)))
 rintro _ ρ cx H
 have c:=a4
 refine zW (b:=ag) rfl (fun P=>?_) (fun P=>?_)
 ·have c:=zN P c
  refine zC fun cy bc=>zB<| zK (i6 9)<| zG (zA (bc _ _ ?_))
  obtain rfl:=gI c
  refine (zY (zT (gX (v1:=i6 9) rfl rfl ?_)))
  exact ⟨l,rfl,H.pick [0,1] (by decide)⟩
 have c:=zO P c
 refine zX (zA (a3 _ _ ?_))
 refine zC fun cz bd=>?_
 refine zC fun c0 be=>zB<| zJ (i6 p)<| zJ (i6 m) ?_
 obtain ⟨bf,bg,c⟩:=zD c
 refine zH (aZ (a:=p) (b:=m) rfl rfl bg) ?_
 obtain ⟨bh,bi,c⟩:=zD c
 refine zH (xJ (a:=bf) (b:=1) rfl rfl bi) ?_
 obtain ⟨bj,bk,c⟩:=zD c
 refine zH (zM (bM (a:=bh) (b:=20000) rfl rfl) bk)<| zG (zA (be _ _ ?_))
 refine zW (b:=bj) rfl (fun Q=>?_) (fun Q=>?_)
 ·have c:=zN Q c
  refine zC fun c1 bl=>zB<| zK (i6 3)<| zG (zA (bl _ _ ?_))
  obtain rfl:=gI c
  refine (zY (zT (gX (v1:=i6 3) rfl rfl ?_)))
  exact ⟨l,rfl,H.pick [0,1] (by decide)⟩
 have c:=zO Q c
 refine zX (zA (bd _ _ ?_))
 refine zC fun c2 bm=>zB<| zH (yO (yN (cs:=[v1,n,o]) agg26 rfl sz26 rfl (Hbc H 6 rfl)) rfl)<| zJ f ?_
 obtain ⟨q,bn,c⟩:=zF c
 refine yG rfl rfl (yB en74 rfl) (Faqw j k v1 n o f _ bn _ _ _ (H.enter [] [2,3,4,5] (by decide) rfl)) ?_
 rintro _ bo ⟨s,R,T,ai,U,aj,V,rfl,bp⟩
 have H:=H.back1 [2,3,4,5] rfl bp
 refine ⟨_,rfl,?_⟩
 refine zK (gW s)<| zG (zA (bm _ _ ?_))
 have H:Hd O w bo S [.own (Rp.sl Rp.str) l 22 p4c0,.blk h [l] 41,f1 fG f k,f1 Rp.str R q.phases,.tr fM [T] ai q.moves,.tr fK [U] aj q.rules,f1 Rp.bool V q.possible,.blk s [R,i6 q.tracks,T,U,V] 146]:=H.pick [0,1,5,7,8,9,10,11] (by decide)
 obtain ⟨ak,c,bq⟩:=zF c
 refine yH [13,39,40,41,42,43,44,45,46,47,48,49,50,51,52,53] (fun (g:Value)=>[]) (fun g wl=>Hd O w wl S [.blk h [g] 41,.own (Rp.sl Rp.str) g 22 ak]) ?_ ?_
 ·skip
  refine zC fun c3 br=>zB<| zJ (i6 m)<| zK (i6 m)<| zG (zA (br _ _ ?_))
  refine yC ?_
  unfold Fdi at c
  obtain ⟨bt,al,bu,c⟩:=yR c
  refine xA [13,40,41,42,43,44,45,46,47,48,49,50,51,52,53] (fun (g:Nat×Int×(List (List Str))×(List Str)×Int×(List fB)×(List Nd)×(List Bool)×Value×Value×Value×(List Nat)×Value×(List Nat)×Value)=>[(13,i6 g.2.1)]) (fun g wl=>Hd O w wl S [.blk h [g.2.2.2.2.2.2.2.2.1] 41,.own (Rp.sl Rp.str) g.2.2.2.2.2.2.2.2.1 22 g.2.2.1,f1 fG f k,.blk s [g.2.2.2.2.2.2.2.2.2.1,i6 g.2.2.2.2.1,g.2.2.2.2.2.2.2.2.2.2.1,g.2.2.2.2.2.2.2.2.2.2.2.2.1,g.2.2.2.2.2.2.2.2.2.2.2.2.2.2] 146,f1 Rp.str g.2.2.2.2.2.2.2.2.2.1 g.2.2.2.1,.tr fM [g.2.2.2.2.2.2.2.2.2.2.1] g.2.2.2.2.2.2.2.2.2.2.2.1 g.2.2.2.2.2.1,.tr fK [g.2.2.2.2.2.2.2.2.2.2.2.2.1] g.2.2.2.2.2.2.2.2.2.2.2.2.2.1 g.2.2.2.2.2.2.1,f1 Rp.bool g.2.2.2.2.2.2.2.2.2.2.2.2.2.2 g.2.2.2.2.2.2.2.1]∧fV bt g.1 (g.2.1,g.2.2.1,g.2.2.2.1,g.2.2.2.2.1,g.2.2.2.2.2.1,g.2.2.2.2.2.2.1,g.2.2.2.2.2.2.2.1)=some ak) (fun g=>g.1) (al,m,p4c0,q.phases,q.tracks,q.moves,q.rules,q.possible,l,R,T,ai,U,aj,V) (zI rfl zL) ⟨H.pick [1,0,2,7,3,4,5,6] (by decide),c⟩ ?_
  clear H c
  rintro ⟨al,A,X,C,bv,bw,bx,D,B,E,bz,b0,b1,b2,F⟩ ρ c4 ⟨H,c⟩
  obtain ⟨b3,rfl,c⟩:=yV c
  have c:=yU bu c
  refine zC fun c5 b4=>?_
  refine zC fun c6 b5=>zB<| zJ (i6 A)<| zJ (i6 p) ?_
  obtain ⟨b6,b7,c⟩:=zD c
  refine zH (zM (Do_leq (a:=A) (b:=p) rfl rfl) b7)<| zG (zA (b5 _ _ ?_))
  refine zW (b:=b6) rfl (fun Y=>?_) (fun Y=>?_)
  ·have c:=zN Y c
   refine zX (zA (b4 _ _ ?_))
   refine zC fun c7 b8=>?_
   refine yC ?_
   refine zB ?_
   refine zJ (.func (.func 55) #[] #[gW h])<| zJ (gW s)<| zJ f<| zJ (i6 A) ?_
   obtain ⟨G,b9,c⟩:=zF c
   refine yG rfl rfl (yB en77 rfl) (Fanw k A f _ b9 _ _ _ (H.enter [] [2] (by decide) rfl)) ?_
   rintro _ c8 ⟨I,rfl,ca⟩
   have H:=H.back1 [2] rfl ca
   refine ⟨_,rfl,?_⟩
   have H:=H.freeze (i:=8) rfl
   obtain ⟨⟨J,d⟩,cb,c⟩:=zF c
   refine yG rfl rfl (yB en78 rfl) (Fagw (gY.mk C bv bw bx D) G s E bz b0 b1 b2 F I _ cb _ _ _ (H.enter [5,6,3] [4,7,8] (by decide) rfl)) ?_
   rintro _ cc ⟨K,t,u,am,x,an,y,rfl,cd⟩
   have H:Hd _ _ cc _ [.blk h [B] 41,.own (Rp.sl Rp.str) B 22 X,f1 fG f k,f1 Rp.str E C,f1 Rp.bool F D,f1 gQ I G,.own (Rp.int .i64) K 3 J,f1 Rp.str t d.phases,.tr fM [u] am d.moves,.tr fK [x] an d.rules,f1 Rp.bool y d.possible,.blk s [t,i6 d.tracks,u,x,y] 146]:=H.back [5,6,3] [4,7,8] rfl cd
   refine ⟨_,rfl,?_⟩
   refine zJ (gW s) ?_
   obtain ⟨Z,ce,c⟩:=zF c
   refine yG rfl rfl (yB en27 rfl) (Fahw (gY.mk d.phases d.tracks d.moves d.rules d.possible) s t u am x an y _ ce _ _ _ (H.enter [8,9,11] [7,10] (by decide) rfl)) ?_
   rintro _ cf ⟨aa,ab,ac,rfl,cg⟩
   have H:Hd _ _ cf _ [.blk h [B] 41,.own (Rp.sl Rp.str) B 22 X,f1 fG f k,f1 Rp.str E C,f1 Rp.bool F D,f1 gQ I G,.own (Rp.int .i64) K 3 J,f1 Rp.str t d.phases,f1 Rp.bool y d.possible,.own Rp.str aa 9 Z,.tr fM [u] ab d.moves,.tr fK [x] ac d.rules,.blk s [t,i6 d.tracks,u,x,y] 146]:=H.back [8,9,11] [7,10] rfl cg
   refine ⟨_,rfl,?_⟩
   have H:=H.freeze (i:=6) rfl
   have H:=H.freeze (i:=9) rfl
   obtain ⟨ao,ch,c⟩:=zF c
   refine yG rfl rfl (aH en55 rfl rfl) (Fa3w J Z X K aa h B _ ch _ _ _ (H.enter [1,0] [6,9] (by decide) rfl)) ?_
   rintro _ ci ⟨ad,rfl,cj⟩
   have H:Hd _ _ ci _ [f1 fG f k,f1 Rp.str E C,f1 Rp.bool F D,f1 gQ I G,f1 (Rp.int .i64) K J,f1 Rp.str t d.phases,f1 Rp.bool y d.possible,f1 Rp.str aa Z,.tr fM [u] ab d.moves,.tr fK [x] ac d.rules,.blk s [t,i6 d.tracks,u,x,y] 146,.own (Rp.sl Rp.str) ad 22 ao,.blk h [ad] 41]:=H.back [1,0] [6,9] rfl cj
   refine ⟨_,rfl,?_⟩
   refine (zG (yK (zA (b8 _ _ ?_))))
   refine zB ?_
   refine zJ (i6 A) ?_
   obtain ⟨ap,ck,c⟩:=zD c
   refine zH (xJ (a:=A) (b:=1) rfl rfl ck)<| zK (i6 ap) ?_
   exact (zG (zA (meet ⟨(b3,ap,ao,d.phases,d.tracks,d.moves,d.rules,d.possible,ad,t,u,ab,x,ac,y),(zI rfl zL),⟨H.pick [12,11,0,10,5,8,9,6] (by decide),c⟩,Nat.lt_succ_self _⟩)))
  have c:=zO Y c
  obtain rfl:=gI c
  exact (xH (yL (yL (yS (zA (meet ⟨B,zL,H.pick [0,1] (by decide)⟩))))))
 rintro cl ρ c9 H
 have c:=bq
 refine zC fun da cm=>zB<| zK (i6 0)<| zG (zA (cm _ _ ?_))
 obtain rfl:=gI c
 refine (zY (gX (v1:=i6 0) rfl rfl ?_))
 exact ⟨cl,rfl,H.pick [1,0] (by decide)⟩
theorem Fa7w (d:Rules)(k:List gZ)(l:Int)(m:Int)(v1:Value)(v2:Value)(f:Value)(i:Value)(r:(List (List Str))×Int)(c:Fa7 d k l m=some r)(O S:List Nat)(w:World)(H:Hd O w w S [f1 Rp.str v1 d.Phases,f1 fD v2 d.Moves,f1 fF f d.Rules,f1 fG i k]):
  Calls Tryz.prog 16 ([.agg [v1,v2,f].toArray,i,i6 l,i6 m]:List Value).toArray w fun e p=> ∃u9,e= .returned (.tuple #[u9,i6 r.2])∧Hd O w p S [.own (Rp.sl Rp.str) u9 22 r.1]:=by
 unfold Fa7 at c
 refine zZ 22 Tryz.func16 rfl rfl rfl ?_
 refine zC fun G q=>zB<| yY rfl rfl (xR (cs:=[v1,v2,f]) rfl H) ?_
 rintro _ I ⟨s,rfl,H⟩
 refine zK (.slice none 0 0)<| zK (i6 0)<| zG (zA (q _ _ ?_))
 refine zC fun J t=>zB<| yY rfl rfl (xN zero41 H) ?_
 rintro _ K ⟨o,rfl,H⟩
 refine zG (zA (t _ _ ?_))
 refine zC fun L u=>zB<| zH (yO (yN (cs:=[v1,v2,f]) agg26 rfl sz26 rfl (Hbc H 4 rfl)) rfl)<| zJ i<| zJ (i6 l)<| zJ (i6 m)<| zH (bG rfl) ?_
 have H:=aU H (Rp.sl Rp.str) 22
 obtain ⟨⟨h,v⟩,x,c⟩:=zF c
 refine yG rfl rfl (yB en53 rfl) (Fcew d k l m [] v1 v2 f i o (.slice none 0 0) _ x _ _ _ (H.enter [6,5] [0,1,2,3] (by decide) rfl)) ?_
 rintro _ y ⟨j,rfl,z⟩
 have H:Hd _ _ y _ [f1 Rp.str v1 d.Phases,f1 fD v2 d.Moves,f1 fF f d.Rules,f1 fG i k,.blk s [v1,v2,f] 26,.own (Rp.sl Rp.str) j 22 v,.blk o [j] 41]:=H.back [6,5] [0,1,2,3] rfl z
 refine ⟨_,rfl,?_⟩
 refine zK (i6 h)<| zG (zA (u _ _ ?_))
 refine zC fun M A=>?_
 refine zC fun N B=>zB<| zJ (i6 h) ?_
 obtain ⟨C,D,c⟩:=zD c
 refine zH (zM (wL (a:=h) (b:=0) rfl rfl) D)<| zG (zA (B _ _ ?_))
 refine zW (b:=C) rfl (fun n=>?_) (fun n=>?_)
 ·have c:=zN n c
  refine zC fun P E=>zB<| zJ (i6 h)<| zK (.slice none 0 0)<| zK (i6 h)<| zG (zA (E _ _ ?_))
  have H:=aU H (Rp.sl Rp.str) 22
  obtain rfl:=gI c
  refine (zY (zT (post2 (v1:= .slice none 0 0) (v2:=i6 h) rfl rfl rfl ?_)))
  exact ⟨.slice none 0 0,rfl,H.pick [7] (by decide)⟩
 have c:=zO n c
 refine zX (zA (A _ _ ?_))
 refine zC fun Q F=>zB<| Ld one41 H 6 0 rfl rfl<| zK j<| zK (i6 0)<| zG (zA (F _ _ ?_))
 obtain rfl:=gI c
 refine (zY (post2 (v1:=j) (v2:=i6 0) rfl rfl rfl ?_))
 exact ⟨j,rfl,H.pick [5] (by decide)⟩
set_option maxRecDepth 100000 in
theorem Fc3w (d:Rules)(u:List gZ)(G:List (List Int))(I:Int)(J:Int)(v1:Value)(j:Value)(k:Value)(q:Value)(D:Value)(r:Bool)(c:Fc3 d u G I J=some r)(O S:List Nat)(w:World)(H:Hd O w w S [f1 Rp.str v1 d.Phases,f1 fD j d.Moves,f1 fF k d.Rules,f1 fG q u,.fz (.sl (Rp.sl (Rp.int .i64)) D G),.fz (.at 1 0 ((Fl.arr 4 (Fl.int .u16)).f yJ))]):
  Calls Tryz.prog 3 ([.agg [v1,j,k].toArray,q,D,i6 I,i6 J]:List Value).toArray w fun e y=>e= .returned (.bool r)∧Hd O w y S []:=by
 unfold Fc3 at c
 refine zZ 249 Tryz.func3 rfl rfl rfl ?_
 refine zC fun nr ct=>zB<| yY rfl rfl (xR (cs:=[v1,j,k]) rfl H) ?_
 rintro _ ns ⟨E,rfl,H⟩
 refine zK (.bool false)<| zG (zA (ct _ _ ?_))
 refine zC fun nt cu=>?_
 refine zC fun nu cv=>zB ?_
 have cw:=H
 obtain ⟨cx,cy,c⟩:=zF c
 refine yG rfl rfl (yB en14 rfl) (Fcsw _ cy _ _ _ (H.enter [] [5] (by decide) rfl)) ?_
 rintro _ nv ⟨rfl,cz⟩
 have H:=cw.step (cz.only:Only [] _ _)
 refine ⟨_,rfl,?_⟩
 obtain ⟨c0,c1,c⟩:=zD c
 refine zH (zM (wJ (p:=cx) rfl) c1)<| zG (zA (cv _ _ ?_))
 refine zW (b:=c0) rfl (fun af=>?_) (fun af=>?_)
 ·have c:=zN af c
  refine zC fun nw c2=>zB<| zK (.bool false)<| zG (zA (c2 _ _ ?_))
  obtain rfl:=gI c
  refine (zY (zT (gX (v1:= .bool false) rfl rfl ?_)))
  exact ⟨rfl,H.pick [] (by decide)⟩
 have c:=zO af c
 refine zX (zA (cu _ _ ?_))
 refine zC fun nx c3=>zB<| zH (yO (yN (cs:=[v1,j,k]) agg26 rfl sz26 rfl (Hbc H 6 rfl)) rfl)<| zJ q<| zJ (i6 I)<| zJ (i6 J) ?_
 obtain ⟨⟨s,Z⟩,c4,c⟩:=zF c
 refine yG rfl rfl (yB en15 rfl) (Fa9w d u I J v1 j k q _ c4 _ _ _ (H.enter [] [0,1,2,3] (by decide) rfl)) ?_
 rintro _ ny ⟨m,rfl,c5⟩
 have H:=H.back1 [0,1,2,3] rfl c5
 refine ⟨_,rfl,?_⟩
 refine zJ (.tuple #[m,i6 Z])<| zH (xW (v:=m) rfl rfl)<| zH (xW (v:=i6 Z) rfl rfl)<| zK m<| zK (i6 Z)<| zG (zA (c3 _ _ ?_))
 refine zC fun nz c6=>?_
 refine zC fun n0 c7=>zB<| zJ (i6 Z) ?_
 obtain ⟨c8,c9,c⟩:=zD c
 refine zH (zM (wL (a:=Z) (b:=0) rfl rfl) c9)<| zG (zA (c7 _ _ ?_))
 refine zW (b:=c8) rfl (fun ag=>?_) (fun ag=>?_)
 ·have c:=zN ag c
  refine zC fun n1 da=>zB<| zK (.bool true)<| zG (zA (da _ _ ?_))
  obtain rfl:=gI c
  refine (zY (zT (gX (v1:= .bool true) rfl rfl ?_)))
  exact ⟨rfl,H.pick [] (by decide)⟩
 have c:=zO ag c
 refine zX (zA (c6 _ _ ?_))
 refine zC fun n2 db=>zB<| zK (.slice none 0 0)<| zG (zA (db _ _ ?_))
 obtain ⟨Q,c,dc⟩:=zF c
 refine yH [13,14,15,16,17,41,42,43,44,45,46,47,48,49,50,51,52,53,54,55,56,57,58,59,60,61,62,63,64,65,66,67,68,69,70,71,72,73,74,75,76,77,78,79,80,81,82,83,84,85,86,87,88,89,90,91,92,93,94,95,96,97,98,99,100,101,102,103,104,105] (fun (g:Value)=>[(13,g)]) (fun g wl=>Hd O w wl S [.own fG g 37 Q,f1 Rp.str v1 d.Phases,f1 fD j d.Moves,f1 fF k d.Rules,f1 fG q u,.fz (.at 1 0 ((Fl.arr 4 (Fl.int .u16)).f yJ)),.blk E [v1,j,k] 26,.fz (.sl (Rp.sl (Rp.int .i64)) m s)]) ?_ ?_
 ·skip
  refine zC fun n3 dd=>zB<| zK (i6 0)<| zG (zA (dd _ _ ?_))
  refine yC ?_
  have H:=aU H fG 37
  unfold Fdk at c
  obtain ⟨de,br,df,c⟩:=yR c
  refine xA [13,14,15,16,17,41,42,43,44,45,46,47,48,49,50,51,52,53,54,55,56,57,58,59,60,61,62,63,64,65,66,67,68,69,70,71,72,73,74,75,76,77,78,79,80,81,82,83,84,85,86,87,88,89,90,91,92,93,94,95,96,97,98,99,100,101,102,103,104,105] (fun (g:Nat×(List gZ)×Int×Value)=>[(13,g.2.2.2),(14,i6 g.2.2.1)]) (fun g wl=>Hd O w wl S [.own fG g.2.2.2 37 g.2.1,f1 Rp.str v1 d.Phases,f1 fD j d.Moves,f1 fF k d.Rules,f1 fG q u,.fz (.sl (Rp.sl (Rp.int .i64)) D G),.fz (.at 1 0 ((Fl.arr 4 (Fl.int .u16)).f yJ)),.blk E [v1,j,k] 26,.fz (.sl (Rp.sl (Rp.int .i64)) m s)]∧fV de g.1 (g.2.1,g.2.2.1)=some Q) (fun g=>g.1) (br,[],0,.slice none 0 0) (zI rfl (zI rfl zL)) ⟨H.pick [8,0,1,2,3,4,5,6,7] (by decide),c⟩ ?_
  clear H c
  rintro ⟨br,T,F,L⟩ ρ n4 ⟨H,c⟩
  obtain ⟨dg,rfl,c⟩:=yV c
  have c:=yU df c
  refine zC fun n5 dh=>?_
  refine zC fun n6 di=>zB<| zJ (i6 F)<| zJ q ?_
  obtain ⟨dj,dk,c⟩:=zD c
  obtain ⟨n7,n8,dl⟩:=SlF.len ((H.item (i:=4) rfl))
  refine zH (yO (xI u27 dl) (congrArg (Value.int .i64) dk)) ?_
  obtain ⟨dm,dn,c⟩:=zD c
  refine zH (zM (xK (a:=F) (b:=dj) rfl rfl) dn)<| zG (zA (di _ _ ?_))
  refine zW (b:=dm) rfl (fun ah=>?_) (fun ah=>?_)
  ·have c:=zN ah c
   refine zX (zA (dh _ _ ?_))
   obtain ⟨bt,c,dp⟩:=zF c
   refine yH [13,15,16,17,47,48,49,50,51,52,53,54,55,56,57,58,59,60,61,62,63,64,65,66,67,68,69,70,71,72,73,74,75,76,77,78,79,80,81,82,83,84,85,86,87,88,89,90,91,92,93,94,95,96,97,98,99,100,101,102,103,104,105] (fun (g:Value)=>[(13,g)]) (fun g wl=>Hd O w wl S [.own fG g 37 bt,f1 Rp.str v1 d.Phases,f1 fD j d.Moves,f1 fF k d.Rules,f1 fG q u,.fz (.sl (Rp.sl (Rp.int .i64)) D G),.fz (.at 1 0 ((Fl.arr 4 (Fl.int .u16)).f yJ)),.blk E [v1,j,k] 26,.fz (.sl (Rp.sl (Rp.int .i64)) m s)]) ?_ ?_
   ·skip
    refine yC ?_
    refine zC fun n9 dq=>zB<| zJ q<| zJ (i6 F) ?_
    obtain ⟨h,ai,c⟩:=zF c
    obtain ⟨dr,ds,oa,oc,dt,du,dv,dw,dx⟩:=wH (H.item (i:=4) rfl) ai
    obtain ⟨aj,rfl,dy⟩:=kK du
    have H:=H.fzs [.at dr (ds+F.toNat * 4) _,.sl fP aj h.Series.Samples] ⟨⟨dv,dw,dx⟩,dy,trivial⟩
    refine zH (yT u27 sz37 dt rfl (zS ai).1 (zS ai).2.1 rfl rfl)<| zH (yO (yN (cs:=[sb h.Name,i6 h.Series.Den,aj,i6 h.Long]) agg37 rfl sz37 rfl (H.item (i:=9) rfl).2.2) rfl)<| yY rfl rfl (xN zero37 H) ?_
    rintro _ od ⟨U,rfl,H⟩
    refine xB rfl (xC (vs:=[sb h.Name,i6 h.Series.Den,aj,i6 h.Long]) H 11 rfl sz37 rfl rfl rfl ⟨rfl,rfl,(dU (H.item (i:=10) rfl)),rfl,trivial⟩ rfl) ?_
    rintro oe H
    refine zG (zA (dq _ _ ?_))
    refine zC fun og dz=>zB<| zH (fa37_1 rfl)<| zH (fa35_1 rfl)<| Ld one33 H 11 2 rfl rfl ?_
    have H:=aU H fP 40
    obtain ⟨d0,d1,c⟩:=zF c
    refine yY rfl rfl (Lx_app H (i:=12) rfl u33 el40 rfl rfl (Sr.of_rd (H.item (i:=10) rfl)) d1) ?_
    rintro t oh H
    refine zH (fa37_1 rfl)<| zH (fa35_1 rfl)<| xB rfl (wI H 11 rfl sz33 rfl (v:=t) rfl (own_one (H.item (i:=12) rfl)) rfl) ?_
    rintro oi H
    refine zG (zA (dz _ _ ?_))
    obtain ⟨ad,c,d2⟩:=zF c
    refine yH [16,17,57,58,59,60,61,62,63,64,65,66,67,68,69,70,71,72,73,74,75,76,77,78,79,80,81,82,83,84,85,86,87,88,89,90,91,92,93,94,95,96,97,98,99,100,101] (fun (g:Unit)=>[]) (fun g wl=>Hd O w wl S [.own fG L 37 T,f1 Rp.str v1 d.Phases,f1 fD j d.Moves,f1 fF k d.Rules,f1 fG q u,.fz (.sl (Rp.sl (Rp.int .i64)) D G),.fz (.at 1 0 ((Fl.arr 4 (Fl.int .u16)).f yJ)),.blk E [v1,j,k] 26,.fz (.sl (Rp.sl (Rp.int .i64)) m s),.blk U [sb h.Name,i6 h.Series.Den,t,i6 h.Long] 37,.own fP t 40 ad]) ?_ ?_
    ·skip
     refine zC fun oj d3=>zB<| zK (i6 0)<| zG (zA (d3 _ _ ?_))
     refine yC ?_
     unfold Fc4 at c
     obtain ⟨d4,bu,d5,c⟩:=yR c
     refine xA [16,17,57,58,59,60,61,62,63,64,65,66,67,68,69,70,71,72,73,74,75,76,77,78,79,80,81,82,83,84,85,86,87,88,89,90,91,92,93,94,95,96,97,98,99,100,101] (fun (g:Nat×Int×(List fJ))=>[(16,i6 g.2.1)]) (fun g wl=>Hd O w wl S [.own fG L 37 T,f1 Rp.str v1 d.Phases,f1 fD j d.Moves,f1 fF k d.Rules,f1 fG q u,.fz (.sl (Rp.sl (Rp.int .i64)) D G),.fz (.at 1 0 ((Fl.arr 4 (Fl.int .u16)).f yJ)),.blk E [v1,j,k] 26,.fz (.sl (Rp.sl (Rp.int .i64)) m s),.blk U [sb h.Name,i6 h.Series.Den,t,i6 h.Long] 37,.own fP t 40 g.2.2]∧fV d4 g.1 (g.2.1,g.2.2)=some ad) (fun g=>g.1) (bu,0,d0) (zI rfl zL) ⟨H.pick [0,1,2,3,4,5,6,7,8,11,12] (by decide),c⟩ ?_
     clear H c
     rintro ⟨bu,V,ak⟩ ρ ok ⟨H,c⟩
     obtain ⟨d6,rfl,c⟩:=yV c
     have c:=yU d5 c
     refine zC fun ol d7=>?_
     obtain ⟨bv,c,d8⟩:=zF c
     refine yH [57,58,59,60,61,62,63,64,65,66,67,68,69] (fun (g:Unit)=>[(69,.bool bv)]) (fun g wl=>Hd O w wl S [.own fG L 37 T,f1 Rp.str v1 d.Phases,f1 fD j d.Moves,f1 fF k d.Rules,f1 fG q u,.fz (.sl (Rp.sl (Rp.int .i64)) D G),.fz (.at 1 0 ((Fl.arr 4 (Fl.int .u16)).f yJ)),.blk E [v1,j,k] 26,.fz (.sl (Rp.sl (Rp.int .i64)) m s),.blk U [sb h.Name,i6 h.Series.Den,t,i6 h.Long] 37,.own fP t 40 ak]) ?_ ?_
     ·skip
      refine zB ?_
      refine zJ (i6 F)<| zJ D ?_
      obtain ⟨d9,ea,c⟩:=zD c
      obtain ⟨om,on,eb⟩:=SlF.len ((H.item (i:=5) rfl))
      refine zH (yO (xI u28 eb) (congrArg (Value.int .i64) ea)) ?_
      obtain ⟨ec,ed,c⟩:=zD c
      refine zH (zM (xK (a:=F) (b:=d9) rfl rfl) ed)<| yM (b:=ec) rfl rfl rfl (fun al=>?_) (fun al=>?_)
      ·have c:=zN al c
       refine zJ (i6 V)<| zJ D<| zJ (i6 F) ?_
       obtain ⟨ee,am,c⟩:=zF c
       obtain ⟨ef,eg,oo,op,eh,ei,ej,ek,el⟩:=wH (H.item (i:=5) rfl) am
       obtain ⟨em,rfl,en⟩:=ei
       have H:=H.fzs [.at ef (eg+F.toNat * 1) _,.sl (Rp.int .i64) em ee] ⟨⟨ej,ek,el⟩,en,trivial⟩
       refine zH (yT u28 sz38 eh rfl (zS am).1 (zS am).2.1 rfl rfl)<| zH (yX kL rfl (Cells.get (H.item (i:=11) rfl).2.2 (i:=0) rfl)) ?_
       obtain ⟨eo,ep,c⟩:=zD c
       obtain ⟨oq,os,er⟩:=SlF.len ((H.item (i:=12) rfl))
       refine zH (yO (xI u38 er) (congrArg (Value.int .i64) ep)) ?_
       obtain ⟨es,et,c⟩:=zD c
       refine zH (zM (xK (a:=V) (b:=eo) rfl rfl) et)<| zH (yI (v:= .bool es) rfl rfl) ?_
       obtain rfl:=gI c
       exact (zG (zA (meet ⟨(),(zI rfl zL),H.pick [0,1,2,3,4,5,6,7,8,9,10] (by decide)⟩)))
      have c:=zO al c
      refine yE ?_
      refine yE ?_
      refine yE ?_
      refine yE ?_
      refine yE ?_
      refine yE ?_
      refine yE ?_
      refine zH (yF (v:= .bool false) rfl rfl) ?_
      obtain rfl:=gI c
      exact (zG (zA (meet ⟨(),(zI rfl zL),H.pick [0,1,2,3,4,5,6,7,8,9,10] (by decide)⟩)))
     rintro _ ρ eu H
     have c:=d8
     refine zW (b:=bv) rfl (fun an=>?_) (fun an=>?_)
     ·have c:=zN an c
      refine zX (zA (d7 _ _ ?_))
      obtain ⟨bw,c,ew⟩:=zF c
      refine yH [17,72,73,74,75,76,77,78,79,80,81,82,83,84,85,86,87,88,89,90,91,92,93,94,95,96,97,98,99,100,101] (fun (g:Unit)=>[]) (fun g wl=>Hd O w wl S [.own fG L 37 T,f1 Rp.str v1 d.Phases,f1 fD j d.Moves,f1 fF k d.Rules,f1 fG q u,.fz (.sl (Rp.sl (Rp.int .i64)) D G),.fz (.at 1 0 ((Fl.arr 4 (Fl.int .u16)).f yJ)),.blk E [v1,j,k] 26,.fz (.sl (Rp.sl (Rp.int .i64)) m s),.blk U [sb h.Name,i6 h.Series.Den,t,i6 h.Long] 37,.own fP t 40 bw]) ?_ ?_
      ·skip
       refine yC ?_
       refine zC fun ot ex=>zB<| zJ D<| zJ (i6 F) ?_
       obtain ⟨ey,ao,c⟩:=zF c
       obtain ⟨ez,e0,ou,ov,e1,e2,e3,e4,e5⟩:=wH (H.item (i:=5) rfl) ao
       obtain ⟨e6,rfl,e7⟩:=e2
       have H:=H.fzs [.at ez (e0+F.toNat * 1) _,.sl (Rp.int .i64) e6 ey] ⟨⟨e3,e4,e5⟩,e7,trivial⟩
       refine zH (yT u28 sz38 e1 rfl (zS ao).1 (zS ao).2.1 rfl rfl)<| zH (yX kL rfl (Cells.get (H.item (i:=11) rfl).2.2 (i:=0) rfl))<| zJ (i6 V) ?_
       obtain ⟨M,ap,c⟩:=zF c
       obtain ⟨e8,e9,ow,fa,fb,fc,fd,fe,ff⟩:=wH (H.item (i:=12) rfl) ap
       obtain rfl:fa= [i6 M]:=fc
       have H:=H.fz (.at e8 (e9+V.toNat * 1) _) ⟨fd,fe,ff⟩
       refine zH (yT u38 sz3 fb rfl (zS ap).1 (zS ap).2.1 rfl rfl)<| zH (yX fU rfl (Cells.get (H.item (i:=13) rfl).2.2 (i:=0) rfl))<| zK (i6 M)<| zG (zA (ex _ _ ?_))
       have H:Hd O w eu S [.own fG L 37 T,f1 Rp.str v1 d.Phases,f1 fD j d.Moves,f1 fF k d.Rules,f1 fG q u,.fz (.sl (Rp.sl (Rp.int .i64)) D G),.fz (.at 1 0 ((Fl.arr 4 (Fl.int .u16)).f yJ)),.blk E [v1,j,k] 26,.fz (.sl (Rp.sl (Rp.int .i64)) m s),.blk U [sb h.Name,i6 h.Series.Den,t,i6 h.Long] 37,.own fP t 40 ak]:=H.pick [0,1,2,3,4,5,6,7,8,9,10] (by decide)
       obtain ⟨bx,c,fg⟩:=zF c
       refine yH [79,80,81,82,83,84,85,86,87,88] (fun (g:Unit)=>[(88,.bool bx)]) (fun g wl=>Hd O w wl S [.own fG L 37 T,f1 Rp.str v1 d.Phases,f1 fD j d.Moves,f1 fF k d.Rules,f1 fG q u,.fz (.sl (Rp.sl (Rp.int .i64)) D G),.fz (.at 1 0 ((Fl.arr 4 (Fl.int .u16)).f yJ)),.blk E [v1,j,k] 26,.fz (.sl (Rp.sl (Rp.int .i64)) m s),.blk U [sb h.Name,i6 h.Series.Den,t,i6 h.Long] 37,.own fP t 40 ak]) ?_ ?_
       ·skip
        refine zB ?_
        refine zJ (i6 M) ?_
        obtain ⟨fh,fi,c⟩:=zD c
        refine zH (zM (aJ (a:=M) (b:=0) rfl rfl) fi)<| yM (b:=fh) rfl rfl rfl (fun aq=>?_) (fun aq=>?_)
        ·have c:=zN aq c
         refine zJ (i6 M)<| zH (fa37_1 rfl)<| zH (fa35_1 rfl)<| Ld one33 H 9 2 rfl rfl ?_
         obtain ⟨fj,fk,c⟩:=zD c
         obtain ⟨ox,oy,fm⟩:=Sr.len (Sr.of_own (H.item (i:=10) rfl))
         refine zH (yO (xI u33 fm) (congrArg (Value.int .i64) fk)) ?_
         obtain ⟨fn,fo,c⟩:=zD c
         refine zH (zM (xK (a:=M) (b:=fj) rfl rfl) fo)<| zH (yI (v:= .bool fn) rfl rfl) ?_
         obtain rfl:=gI c
         exact (zG (zA (meet ⟨(),(zI rfl zL),H.pick [0,1,2,3,4,5,6,7,8,9,10] (by decide)⟩)))
        have c:=zO aq c
        refine yE ?_
        refine yE ?_
        refine yE ?_
        refine yE ?_
        refine yE ?_
        refine yE ?_
        refine zH (yF (v:= .bool false) rfl rfl) ?_
        obtain rfl:=gI c
        exact (zG (zA (meet ⟨(),(zI rfl zL),H.pick [0,1,2,3,4,5,6,7,8,9,10] (by decide)⟩)))
       rintro _ ρ oz H
       have c:=fg
       refine zW (b:=bx) rfl (fun ar=>?_) (fun ar=>?_)
       ·have c:=zN ar c
        have fp:=H
        have H:=H.rebase
        have o0:=H
        refine xX H [0,1,2,3,4,5,6,7,8,9,10,11,12,13] (kz [0,0,1,0,0,0,1,0,0,0,1,0,0,3]) mixed ?_
        refine XP (fun _ _=>fa37_1 rfl)<| XP (fun _ _=>fa35_1 rfl)<| XR one33 H 9 2 rfl rfl<| XM (i6 M)<| XP (fun _ _=>fa37_1 rfl)<| XP (fun _ _=>fa35_1 rfl)<| XR one33 H 9 2 rfl rfl<| XM (i6 M) ?_
        obtain ⟨au,av,c⟩:=zF c
        obtain ⟨o1,o2,o4,fq,fr,fs⟩:=bH (H.item (i:=10) rfl) av
        obtain rfl:=dQ fr
        refine XP (fun _ _=>yT u33 sz40 fq rfl (zS av).1 (zS av).2.1 rfl rfl)<| XP (fun _ _=>fa40_0 rfl)<| MxM.xP oS rfl rfl rfl (fun y l=>yX fU rfl (Cells.get (fs.sees l) (i:=0) rfl))<| XP (fun _ _=>xO (cs:=[i6 au.At,i6 0,i6 0]) (bt40_0 _)) ?_
        obtain ⟨o5,aw,c⟩:=zF c
        obtain ⟨o6,o7,o8,bz,ft,fu⟩:=bH (H.item (i:=10) rfl) aw
        obtain rfl:=dQ ft
        refine XP (fun _ _=>yT u33 sz40 bz rfl (zS aw).1 (zS aw).2.1 rfl rfl) ?_
        obtain ⟨pa,fv,c⟩:=zF c
        refine MxM.XL_exU oS rfl rfl (fun y l=>aI (vs:=[i6 au.At,i6 0,i6 0]) (off:=0) (H.sees l) 10 rfl bz (fu.sees l) rfl sz40 rfl rfl rfl (bJ ⟨rfl,rfl,rfl,trivial⟩) fv (by decide) rfl (rSample_mk (x:=fJ.mk au.At 0 0))) ?_
        rintro y pb l H
        refine ⟨H.only,?_⟩
        refine MxM.xE fun pc hS=>?_
        have H:=H.sees hS
        have H:=fp.rejoin H
        obtain rfl:=gI c
        exact (yK (zA (meet ⟨(),zL,H.pick [0,1,2,3,4,5,6,7,8,9,10] (by decide)⟩)))
       have c:=zO ar c
       obtain rfl:=gI c
       exact (zX (yK (zA (meet ⟨(),zL,H.pick [0,1,2,3,4,5,6,7,8,9,10] (by decide)⟩))))
      rintro _ ρ pd H
      have c:=ew
      refine zB ?_
      refine zJ (i6 V) ?_
      obtain ⟨b0,fw,c⟩:=zD c
      refine zH (xJ (a:=V) (b:=1) rfl rfl fw)<| zK (i6 b0) ?_
      exact (zG (zA (meet ⟨(d6,b0,bw),(zI rfl zL),⟨H.pick [0,1,2,3,4,5,6,7,8,9,10] (by decide),c⟩,Nat.lt_succ_self _⟩)))
     have c:=zO an c
     obtain rfl:=gI c
     exact (xH (yL (yL (yS (zA (meet ⟨(),zL,H.pick [0,1,2,3,4,5,6,7,8,9,10] (by decide)⟩))))))
    rintro _ ρ pe H
    have c:=d2
    refine zB ?_
    refine zJ L<| zH (yO (yN (cs:=[sb h.Name,i6 h.Series.Den,t,i6 h.Long]) agg37 rfl sz37 rfl (Hbc H 9 rfl)) rfl) ?_
    have H:=H.freeze (i:=10) rfl
    obtain ⟨pf,fx,c⟩:=zD c
    subst fx
    refine yY rfl rfl (Lx_bs (r:=fG) (xl:=[gZ.mk h.Name (Series.mk h.Series.Den ad) h.Long]) (cs:=[sb h.Name,i6 h.Series.Den,t,i6 h.Long]) u27 el37 (by decide) (by decide) rfl (wG (vs:=[.agg [sb h.Name,i6 h.Series.Den,t,i6 h.Long].toArray]) (by decide) rfl rfl ⟨rfl,trivial⟩ rfl) H ⟨[sb h.Name,i6 h.Series.Den,t,i6 h.Long],[],rfl,(rTrack_mk (x:=gZ.mk h.Name (Series.mk h.Series.Den ad) h.Long) (H.item (i:=10) rfl)),rfl⟩) ?_
    rintro pg ph H
    obtain ⟨pi,fy,c⟩:=zF c
    refine yY rfl rfl (Lx_app H (i:=0) rfl u27 el37 rfl rfl (Sr.of_own (H.item (i:=11) rfl)) fy) ?_
    rintro b1 pj H
    refine zK b1 ?_
    obtain rfl:=gI c
    exact (zG (yK (zA (meet ⟨b1,(zI rfl zL),H.pick [0,1,2,3,4,5,6,7,8] (by decide)⟩))))
   rintro f0 ρ pk H
   have c:=dp
   refine zB ?_
   refine zJ (i6 F) ?_
   obtain ⟨b2,f4,c⟩:=zD c
   refine zH (xJ (a:=F) (b:=1) rfl rfl f4)<| zK (i6 b2) ?_
   exact (zG (zA (meet ⟨(dg,bt,b2,f0),(zI rfl (zI rfl zL)),⟨H.pick [0,1,2,3,4,5,6,7,8] (by decide),c⟩,Nat.lt_succ_self _⟩)))
  have c:=zO ah c
  obtain rfl:=gI c
  exact (xH (yL (yL (yS (zA (meet ⟨L,(zI rfl zL),H.pick [0,1,2,3,4,6,7,8] (by decide)⟩))))))
 rintro R ρ pl H
 have c:=dc
 refine zC fun pm f5=>zB<| zH (yO (yN (cs:=[v1,j,k]) agg26 rfl sz26 rfl (Hbc H 6 rfl)) rfl)<| zJ R<| zJ (i6 I)<| zJ (i6 J) ?_
 have H:=H.freeze (i:=0) rfl
 obtain ⟨⟨N,aa⟩,f6,c⟩:=zF c
 refine yG rfl rfl (yB en15 rfl) (Fa9w d Q I J v1 j k R _ f6 _ _ _ (H.enter [] [1,2,3,0] (by decide) rfl)) ?_
 rintro _ pn ⟨C,rfl,f7⟩
 have H:=H.back1 [1,2,3,0] rfl f7
 refine ⟨_,rfl,?_⟩
 refine zJ (.tuple #[C,i6 aa])<| zH (xW (v:=C) rfl rfl)<| zH (xW (v:=i6 aa) rfl rfl)<| zK C<| zK (i6 aa)<| zG (zA (f5 _ _ ?_))
 refine zC fun po f8=>zB<| zH (yO (yN (cs:=[v1,j,k]) agg26 rfl sz26 rfl (Hbc H 6 rfl)) rfl)<| zJ q<| zJ (i6 I)<| zJ (i6 J) ?_
 obtain ⟨⟨z,ab⟩,f9,c⟩:=zF c
 refine yG rfl rfl (yB en16 rfl) (Fa7w d u I J v1 j k q _ f9 _ _ _ (H.enter [] [1,2,3,4] (by decide) rfl)) ?_
 rintro _ pp ⟨n,rfl,ga⟩
 have H:=H.back1 [1,2,3,4] rfl ga
 refine ⟨_,rfl,?_⟩
 refine zJ (.tuple #[n,i6 ab])<| zH (xW (v:=n) rfl rfl)<| zH (xW (v:=i6 ab) rfl rfl)<| zK n<| zK (i6 ab)<| zG (zA (f8 _ _ ?_))
 refine zC fun pq gb=>zB<| zH (yO (yN (cs:=[v1,j,k]) agg26 rfl sz26 rfl (Hbc H 6 rfl)) rfl)<| zJ R<| zJ (i6 I)<| zJ (i6 J) ?_
 obtain ⟨⟨A,ac⟩,gc,c⟩:=zF c
 refine yG rfl rfl (yB en16 rfl) (Fa7w d Q I J v1 j k R _ gc _ _ _ (H.enter [] [1,2,3,0] (by decide) rfl)) ?_
 rintro _ pr ⟨o,rfl,gd⟩
 have H:=H.back1 [1,2,3,0] rfl gd
 refine ⟨_,rfl,?_⟩
 refine zJ (.tuple #[o,i6 ac])<| zH (xW (v:=o) rfl rfl)<| zH (xW (v:=i6 ac) rfl rfl)<| zK o<| zK (i6 ac)<| zG (zA (gb _ _ ?_))
 refine zC fun ps ge=>?_
 obtain ⟨b3,c,gf⟩:=zF c
 refine yH [130,131,132,133,134,135,136,137,138,139,140,141,142,143,144,145,146,147,148,149,150,151,152,153] (fun (g:Unit)=>[(153,.bool b3)]) (fun g wl=>Hd O w wl S [.fz (.at 1 0 ((Fl.arr 4 (Fl.int .u16)).f yJ)),.fz (.sl (Rp.sl (Rp.int .i64)) m s),.fz (.sl (Rp.sl (Rp.int .i64)) C N),.own (Rp.sl Rp.str) n 22 z,.own (Rp.sl Rp.str) o 22 A]) ?_ ?_
 ·skip
  refine zB ?_
  refine zJ (i6 aa) ?_
  obtain ⟨gg,gh,c⟩:=zD c
  refine zH (zM (wL (a:=aa) (b:=0) rfl rfl) gh) ?_
  obtain ⟨b4,c,gi⟩:=zF c
  refine dF 4 [132,133,134,135] [(135,.bool b4)] (fun wl=>Hd O w wl S [f1 fG R Q,f1 Rp.str v1 d.Phases,f1 fD j d.Moves,f1 fF k d.Rules,f1 fG q u,.fz (.at 1 0 ((Fl.arr 4 (Fl.int .u16)).f yJ)),.blk E [v1,j,k] 26,.fz (.sl (Rp.sl (Rp.int .i64)) m s),.fz (.sl (Rp.sl (Rp.int .i64)) C N),.own (Rp.sl Rp.str) n 22 z,.own (Rp.sl Rp.str) o 22 A]) ?_ ?_
  ·skip
   refine yM (b:=gg) rfl rfl rfl (fun ax=>?_) (fun ax=>?_)
   ·have c:=zN ax c
    refine yE ?_
    refine yE ?_
    refine zH (yI (v:= .bool true) rfl rfl) ?_
    obtain rfl:=gI c
    exact zG (zA (meet ⟨(zI rfl zL),H.pick [0,1,2,3,4,5,6,7,8,9,10] (by decide)⟩))
   have c:=zO ax c
   refine zJ (i6 ab) ?_
   obtain ⟨gj,gl,c⟩:=zD c
   refine zH (zM (wL (a:=ab) (b:=0) rfl rfl) gl)<| zH (yF (v:= .bool gj) rfl rfl) ?_
   obtain rfl:=gI c
   exact zG (zA (meet ⟨(zI rfl zL),H.pick [0,1,2,3,4,5,6,7,8,9,10] (by decide)⟩))
  rintro ρ pu H
  have c:=gi
  obtain ⟨b5,c,gm⟩:=zF c
  refine dF 4 [136,137,138,139] [(139,.bool b5)] (fun wl=>Hd O w wl S [f1 fG R Q,f1 Rp.str v1 d.Phases,f1 fD j d.Moves,f1 fF k d.Rules,f1 fG q u,.fz (.at 1 0 ((Fl.arr 4 (Fl.int .u16)).f yJ)),.blk E [v1,j,k] 26,.fz (.sl (Rp.sl (Rp.int .i64)) m s),.fz (.sl (Rp.sl (Rp.int .i64)) C N),.own (Rp.sl Rp.str) n 22 z,.own (Rp.sl Rp.str) o 22 A]) ?_ ?_
  ·skip
   refine yM (b:=b4) rfl rfl rfl (fun ay=>?_) (fun ay=>?_)
   ·have c:=zN ay c
    refine yE ?_
    refine yE ?_
    refine zH (yI (v:= .bool true) rfl rfl) ?_
    obtain rfl:=gI c
    exact zG (zA (meet ⟨(zI rfl zL),H.pick [0,1,2,3,4,5,6,7,8,9,10] (by decide)⟩))
   have c:=zO ay c
   refine zJ (i6 ac) ?_
   obtain ⟨gn,go,c⟩:=zD c
   refine zH (zM (wL (a:=ac) (b:=0) rfl rfl) go)<| zH (yF (v:= .bool gn) rfl rfl) ?_
   obtain rfl:=gI c
   exact zG (zA (meet ⟨(zI rfl zL),H.pick [0,1,2,3,4,5,6,7,8,9,10] (by decide)⟩))
  rintro ρ pv H
  have c:=gm
  obtain ⟨b6,c,gp⟩:=zF c
  refine dF 7 [140,141,142,143,144,145,146] [(146,.bool b6)] (fun wl=>Hd O w wl S [f1 fG R Q,f1 Rp.str v1 d.Phases,f1 fD j d.Moves,f1 fF k d.Rules,f1 fG q u,.fz (.at 1 0 ((Fl.arr 4 (Fl.int .u16)).f yJ)),.blk E [v1,j,k] 26,.fz (.sl (Rp.sl (Rp.int .i64)) m s),.fz (.sl (Rp.sl (Rp.int .i64)) C N),.own (Rp.sl Rp.str) n 22 z,.own (Rp.sl Rp.str) o 22 A]) ?_ ?_
  ·skip
   refine yM (b:=b5) rfl rfl rfl (fun az=>?_) (fun az=>?_)
   ·have c:=zN az c
    refine yE ?_
    refine yE ?_
    refine yE ?_
    refine yE ?_
    refine yE ?_
    refine zH (yI (v:= .bool true) rfl rfl) ?_
    obtain rfl:=gI c
    exact zG (zA (meet ⟨(zI rfl zL),H.pick [0,1,2,3,4,5,6,7,8,9,10] (by decide)⟩))
   have c:=zO az c
   refine zJ C ?_
   obtain ⟨gq,gr,c⟩:=zD c
   obtain ⟨px,py,gs⟩:=SlF.len ((H.item (i:=8) rfl))
   refine zH (yO (xI u28 gs) (congrArg (Value.int .i64) gr))<| zJ m ?_
   obtain ⟨gt,gu,c⟩:=zD c
   obtain ⟨pz,p0,gv⟩:=SlF.len ((H.item (i:=7) rfl))
   refine zH (yO (xI u28 gv) (congrArg (Value.int .i64) gu)) ?_
   obtain ⟨gw,gx,c⟩:=zD c
   refine zH (zM (wL (a:=gq) (b:=gt) rfl rfl) gx)<| zH (yF (v:= .bool gw) rfl rfl) ?_
   obtain rfl:=gI c
   exact zG (zA (meet ⟨(zI rfl zL),H.pick [0,1,2,3,4,5,6,7,8,9,10] (by decide)⟩))
  rintro ρ p1 H
  have c:=gp
  refine yM (b:=b6) rfl rfl rfl (fun a0=>?_) (fun a0=>?_)
  ·have c:=zN a0 c
   refine yE ?_
   refine yE ?_
   refine yE ?_
   refine yE ?_
   refine yE ?_
   refine zH (yI (v:= .bool true) rfl rfl) ?_
   obtain rfl:=gI c
   exact (zG (zA (meet ⟨(),(zI rfl zL),H.pick [5,7,8,9,10] (by decide)⟩)))
  have c:=zO a0 c
  refine zJ n ?_
  obtain ⟨gy,gz,c⟩:=zD c
  obtain ⟨p2,p3,g0⟩:=Sr.len (Sr.of_own (H.item (i:=9) rfl))
  refine zH (yO (xI u41 g0) (congrArg (Value.int .i64) gz))<| zJ o ?_
  obtain ⟨g1,g2,c⟩:=zD c
  obtain ⟨p4,p5,g3⟩:=Sr.len (Sr.of_own (H.item (i:=10) rfl))
  refine zH (yO (xI u41 g3) (congrArg (Value.int .i64) g2)) ?_
  obtain ⟨g4,g5,c⟩:=zD c
  refine zH (zM (wL (a:=gy) (b:=g1) rfl rfl) g5)<| zH (yF (v:= .bool g4) rfl rfl) ?_
  obtain rfl:=gI c
  exact (zG (zA (meet ⟨(),(zI rfl zL),H.pick [5,7,8,9,10] (by decide)⟩)))
 rintro _ ρ p6 H
 have c:=gf
 refine zW (b:=b3) rfl (fun a1=>?_) (fun a1=>?_)
 ·have c:=zN a1 c
  refine zC fun p7 g6=>zB<| zK (.bool false)<| zG (zA (g6 _ _ ?_))
  obtain rfl:=gI c
  refine (zY (zT (gX (v1:= .bool false) rfl rfl ?_)))
  exact ⟨rfl,H.pick [] (by decide)⟩
 have c:=zO a1 c
 refine zX (zA (ge _ _ ?_))
 obtain ⟨g7,g8,c⟩:=xU c
 refine yH [10,23,24,154,155,156,157,158,159,160,161,162,163,164,165,166,167,168,169,170,171,172,173,174,175,176,177,178,179,180,181,182,183,184,185,186,187,188,189,190,191,192,193,194,195,196,197,198,199,200,201,202,203,204] (fun (g:Unit)=>[]) (fun g wl=>Hd O w wl S [.fz (.at 1 0 ((Fl.arr 4 (Fl.int .u16)).f yJ)),.own (Rp.sl Rp.str) n 22 z,.own (Rp.sl Rp.str) o 22 A]∧g7 ()=some r) ?_ ?_
 ·skip
  refine zC fun p8 g9=>zB<| zK (i6 0)<| zG (zA (g9 _ _ ?_))
  refine yC ?_
  unfold Fdd at c
  obtain ⟨ha,b7,hb,c⟩:=yR c
  refine xA [10,23,24,154,155,156,157,158,159,160,161,162,163,164,165,166,167,168,169,170,171,172,173,174,175,176,177,178,179,180,181,182,183,184,185,186,187,188,189,190,191,192,193,194,195,196,197,198,199,200,201,202,203,204] (fun (g:Nat×Int)=>[(23,i6 g.2)]) (fun g wl=>Hd O w wl S [.fz (.at 1 0 ((Fl.arr 4 (Fl.int .u16)).f yJ)),.fz (.sl (Rp.sl (Rp.int .i64)) m s),.fz (.sl (Rp.sl (Rp.int .i64)) C N),.own (Rp.sl Rp.str) n 22 z,.own (Rp.sl Rp.str) o 22 A]∧fV ha g.1 g.2=some r) (fun g=>g.1) (b7,0) (zI rfl zL) ⟨H.pick [0,1,2,3,4] (by decide),c⟩ ?_
  clear H c
  rintro ⟨b7,B⟩ ρ p9 ⟨H,c⟩
  obtain ⟨hc,rfl,c⟩:=yV c
  have c:=yU hb c
  refine zC fun qa he=>?_
  refine zC fun qb hf=>zB<| zJ (i6 B)<| zJ m ?_
  obtain ⟨hg,hh,c⟩:=zD c
  obtain ⟨qc,qd,hi⟩:=SlF.len ((H.item (i:=1) rfl))
  refine zH (yO (xI u28 hi) (congrArg (Value.int .i64) hh)) ?_
  obtain ⟨hj,hk,c⟩:=zD c
  refine zH (zM (xK (a:=B) (b:=hg) rfl rfl) hk)<| zG (zA (hf _ _ ?_))
  refine zW (b:=hj) rfl (fun a2=>?_) (fun a2=>?_)
  ·have c:=zN a2 c
   refine zX (zA (he _ _ ?_))
   obtain ⟨hl,hn,c⟩:=xU c
   refine yH [10,24,160,161,162,163,164,165,166,167,168,169,170,171,172,173,174,175,176,177,178,179,180,181,182,183,184,185,186,187,188,189,190,191,192,193,194,195,196,197,198,199,200,201,202,203,204] (fun (g:Unit)=>[]) (fun g wl=>Hd O w wl S [.fz (.at 1 0 ((Fl.arr 4 (Fl.int .u16)).f yJ)),.fz (.sl (Rp.sl (Rp.int .i64)) m s),.fz (.sl (Rp.sl (Rp.int .i64)) C N),.own (Rp.sl Rp.str) n 22 z,.own (Rp.sl Rp.str) o 22 A]∧hl ()=some r) ?_ ?_
   ·skip
    refine yC ?_
    refine zC fun qe ho=>?_
    refine zC fun qf hp=>?_
    have hq:=H
    have H:=H.rebase
    have qg:=H
    refine xX H [0,1,2,3,4,5,6,7,8,9,10] (kz [0,0,0,1,0,0,0,0,1,0,0]) mixed ?_
    refine XM m<| XM (i6 B) ?_
    obtain ⟨hr,a3,c⟩:=zF c
    obtain ⟨hs,ht,qh,qi,hu,hv,hw,hx,hy⟩:=wH (H.item (i:=1) rfl) a3
    obtain ⟨hz,rfl,h0⟩:=hv
    have H:=H.fzs [.at hs (ht+B.toNat * 1) _,.sl (Rp.int .i64) hz hr] ⟨⟨hw,hx,hy⟩,h0,trivial⟩
    refine XP (fun _ _=>yT u28 sz38 hu rfl (zS a3).1 (zS a3).2.1 rfl rfl)<| MxM.xP oS rfl rfl rfl (fun y l=>yX kL rfl (Cells.get ((H.sees l).item (i:=5) rfl).2.2 (i:=0) rfl)) ?_
    obtain ⟨h1,h2,c⟩:=zD c
    obtain ⟨qj,qk,h3⟩:=SlF.len ((H.item (i:=6) rfl))
    refine XP (fun _ _=>yO (xI u38 h3) (congrArg (Value.int .i64) h2))<| XM C<| XM (i6 B) ?_
    obtain ⟨h4,a4,c⟩:=zF c
    obtain ⟨h5,h6,ql,qm,h7,h8,h9,ia,ib⟩:=wH (H.item (i:=2) rfl) a4
    obtain ⟨ic,rfl,id⟩:=h8
    have H:=H.fzs [.at h5 (h6+B.toNat * 1) _,.sl (Rp.int .i64) ic h4] ⟨⟨h9,ia,ib⟩,id,trivial⟩
    refine XP (fun _ _=>yT u28 sz38 h7 rfl (zS a4).1 (zS a4).2.1 rfl rfl)<| MxM.xP oS rfl rfl rfl (fun y l=>yX kL rfl (Cells.get ((H.sees l).item (i:=7) rfl).2.2 (i:=0) rfl)) ?_
    obtain ⟨ie,ig,c⟩:=zD c
    obtain ⟨qn,qo,ih⟩:=SlF.len ((H.item (i:=8) rfl))
    refine XP (fun _ _=>yO (xI u38 ih) (congrArg (Value.int .i64) ig)) ?_
    obtain ⟨ii,ij,c⟩:=zD c
    refine XP (fun _ _=>zM (wL (a:=h1) (b:=ie) rfl rfl) ij)<| MxM.xE fun qp hS=>?_
    have H:=H.sees hS
    have H:=hq.rejoin H
    refine (zA (hp _ _ ?_))
    refine zW (b:=ii) rfl (fun a5=>?_) (fun a5=>?_)
    ·have c:=zN a5 c
     refine zC fun qq ik=>zB<| zK (.bool false)<| zG (zA (ik _ _ ?_))
     obtain rfl:=gI c
     refine (zY (zT (yD (zT (zT (yD (zT (gX (v1:= .bool false) rfl rfl ?_))))))))
     exact ⟨rfl,H.pick [] (by decide)⟩
    have c:=zO a5 c
    refine zX (zA (ho _ _ ?_))
    refine zC fun qr il=>zB<| zK (i6 0)<| zG (zA (il _ _ ?_))
    refine yC ?_
    unfold Fc7 at c
    obtain ⟨im,b8,io,c⟩:=yR c
    refine xA [10,24,171,172,173,174,175,176,177,178,179,180,181,182,183,184,185,186,187,188,189,190,191,192,193,194,195,196,197,198,199,200,201,202,203,204] (fun (g:Nat×Int)=>[(24,i6 g.2)]) (fun g wl=>Hd O w wl S [.fz (.at 1 0 ((Fl.arr 4 (Fl.int .u16)).f yJ)),.fz (.sl (Rp.sl (Rp.int .i64)) m s),.fz (.sl (Rp.sl (Rp.int .i64)) C N),.own (Rp.sl Rp.str) n 22 z,.own (Rp.sl Rp.str) o 22 A]∧fV im g.1 g.2=some r) (fun g=>g.1) (b8,0) (zI rfl zL) ⟨H.pick [0,1,2,3,4] (by decide),c⟩ ?_
    clear H c
    rintro ⟨b8,K⟩ ρ qs ⟨H,c⟩
    obtain ⟨ip,rfl,c⟩:=yV c
    have c:=yU io c
    refine zC fun qt iq=>?_
    refine zC fun qu ir=>zB<| zJ (i6 K)<| zJ m<| zJ (i6 B) ?_
    obtain ⟨it,a6,c⟩:=zF c
    obtain ⟨iu,iv,qv,qw,iw,iy,iz,i1,i2⟩:=wH (H.item (i:=1) rfl) a6
    obtain ⟨i3,rfl,i4⟩:=iy
    have H:=H.fzs [.at iu (iv+B.toNat * 1) _,.sl (Rp.int .i64) i3 it] ⟨⟨iz,i1,i2⟩,i4,trivial⟩
    refine zH (yT u28 sz38 iw rfl (zS a6).1 (zS a6).2.1 rfl rfl)<| zH (yX kL rfl (Cells.get (H.item (i:=5) rfl).2.2 (i:=0) rfl)) ?_
    obtain ⟨i5,i7,c⟩:=zD c
    obtain ⟨qx,qy,i8⟩:=SlF.len ((H.item (i:=6) rfl))
    refine zH (yO (xI u38 i8) (congrArg (Value.int .i64) i7)) ?_
    obtain ⟨i9,ja,c⟩:=zD c
    refine zH (zM (xK (a:=K) (b:=i5) rfl rfl) ja)<| zG (zA (ir _ _ ?_))
    refine zW (b:=i9) rfl (fun a7=>?_) (fun a7=>?_)
    ·have c:=zN a7 c
     refine zX (zA (iq _ _ ?_))
     refine zC fun qz jb=>?_
     refine yC ?_
     obtain ⟨b9,c,jc⟩:=zF c
     refine yH [180,181,182,183,184,185,186,187,188,189,190,191,192,193,194,195,196,197,198,199,200,201,202,203,204] (fun (g:Unit)=>[(204,.bool b9)]) (fun g wl=>Hd O w wl S [.fz (.at 1 0 ((Fl.arr 4 (Fl.int .u16)).f yJ)),.fz (.sl (Rp.sl (Rp.int .i64)) m s),.fz (.sl (Rp.sl (Rp.int .i64)) C N),.own (Rp.sl Rp.str) n 22 z,.own (Rp.sl Rp.str) o 22 A]) ?_ ?_
     ·skip
      have ca:=H
      have H:=H.rebase
      have q0:=H
      refine xX H [0,1,2,3,4,5,6,7,8,9,10,11,12,13,14,15,16,17,18,19,20,21,22,23,24] (kz [0,0,0,1,0,0,1,0,0,0,0,0,1,0,0,1,0,0,0,1,0,0,1,0,0]) mixed ?_
      refine XM C<| XM (i6 B) ?_
      obtain ⟨jd,a8,c⟩:=zF c
      obtain ⟨je,jf,q1,q2,jg,jh,ji,jj,jk⟩:=wH (H.item (i:=2) rfl) a8
      obtain ⟨jl,rfl,jm⟩:=jh
      have H:=H.fzs [.at je (jf+B.toNat * 1) _,.sl (Rp.int .i64) jl jd] ⟨⟨ji,jj,jk⟩,jm,trivial⟩
      refine XP (fun _ _=>yT u28 sz38 jg rfl (zS a8).1 (zS a8).2.1 rfl rfl)<| MxM.xP oS rfl rfl rfl (fun y l=>yX kL rfl (Cells.get ((H.sees l).item (i:=7) rfl).2.2 (i:=0) rfl))<| XM (i6 K) ?_
      obtain ⟨cb,a9,c⟩:=zF c
      obtain ⟨jn,jo,q3,jp,jq,jr,js,jt,ju⟩:=wH (H.item (i:=8) rfl) a9
      obtain rfl:jp= [i6 cb]:=jr
      have H:=H.fz (.at jn (jo+K.toNat * 1) _) ⟨js,jt,ju⟩
      refine XP (fun _ _=>yT u38 sz3 jq rfl (zS a9).1 (zS a9).2.1 rfl rfl)<| MxM.xP oS rfl rfl rfl (fun y l=>yX fU rfl (Cells.get ((H.sees l).item (i:=9) rfl).2.2 (i:=0) rfl)) ?_
      obtain ⟨jv,jw,c⟩:=zD c
      refine XP (fun _ _=>zM (wL (a:=cb) (b:=0) rfl rfl) jw)<| MxM.XL_splitb (b:=jv) rfl rfl rfl rfl (fun ba=>?_) (fun ba=>?_)
      ·have c:=zN ba c
       refine XM C<| XM (i6 B) ?_
       obtain ⟨jx,bb,c⟩:=zF c
       obtain ⟨jy,jz,q4,q5,j0,j1,j2,j3,j4⟩:=wH (H.item (i:=2) rfl) bb
       obtain ⟨j5,rfl,j6⟩:=j1
       have H:=H.fzs [.at jy (jz+B.toNat * 1) _,.sl (Rp.int .i64) j5 jx] ⟨⟨j2,j3,j4⟩,j6,trivial⟩
       refine XP (fun _ _=>yT u28 sz38 j0 rfl (zS bb).1 (zS bb).2.1 rfl rfl)<| MxM.xP oS rfl rfl rfl (fun y l=>yX kL rfl (Cells.get ((H.sees l).item (i:=10) rfl).2.2 (i:=0) rfl))<| XM (i6 K) ?_
       obtain ⟨cc,bc,c⟩:=zF c
       obtain ⟨j7,j8,q6,j9,ka,kb,kc,kd,ke⟩:=wH (H.item (i:=11) rfl) bc
       obtain rfl:j9= [i6 cc]:=kb
       have H:=H.fz (.at j7 (j8+K.toNat * 1) _) ⟨kc,kd,ke⟩
       refine XP (fun _ _=>yT u38 sz3 ka rfl (zS bc).1 (zS bc).2.1 rfl rfl)<| MxM.xP oS rfl rfl rfl (fun y l=>yX fU rfl (Cells.get ((H.sees l).item (i:=12) rfl).2.2 (i:=0) rfl))<| XM m<| XM (i6 B) ?_
       obtain ⟨kf,bd,c⟩:=zF c
       obtain ⟨kg,kh,q7,q8,ki,kj,kk,kl,km⟩:=wH (H.item (i:=1) rfl) bd
       obtain ⟨kn,rfl,ko⟩:=kj
       have H:=H.fzs [.at kg (kh+B.toNat * 1) _,.sl (Rp.int .i64) kn kf] ⟨⟨kk,kl,km⟩,ko,trivial⟩
       refine XP (fun _ _=>yT u28 sz38 ki rfl (zS bd).1 (zS bd).2.1 rfl rfl)<| MxM.xP oS rfl rfl rfl (fun y l=>yX kL rfl (Cells.get ((H.sees l).item (i:=13) rfl).2.2 (i:=0) rfl))<| XM (i6 K) ?_
       obtain ⟨cd,be,c⟩:=zF c
       obtain ⟨kp,kq,q9,kr,ks,kt,ku,kv,kw⟩:=wH (H.item (i:=14) rfl) be
       obtain rfl:kr= [i6 cd]:=kt
       have H:=H.fz (.at kp (kq+K.toNat * 1) _) ⟨ku,kv,kw⟩
       refine XP (fun _ _=>yT u38 sz3 ks rfl (zS be).1 (zS be).2.1 rfl rfl)<| MxM.xP oS rfl rfl rfl (fun y l=>yX fU rfl (Cells.get ((H.sees l).item (i:=15) rfl).2.2 (i:=0) rfl)) ?_
       obtain ⟨kx,ky,c⟩:=zD c
       refine XP (fun _ _=>zM (wL (a:=cc) (b:=cd) rfl rfl) ky)<| XP (fun _ _=>yI (v:= .bool kx) rfl rfl)<| MxM.xE fun ra hS=>?_
       have H:=H.sees hS
       have H:=ca.rejoin H
       obtain rfl:=gI c
       exact (zA (meet ⟨(),(zI rfl zL),H.pick [0,1,2,3,4] (by decide)⟩))
      have c:=zO ba c
      refine XO<| XO<| XO<| MxM.XL_offr oS rfl rfl rfl ?_
      refine XO<| XO<| MxM.XL_offr oS rfl rfl rfl ?_
      refine XO<| XO<| XO<| MxM.XL_offr oS rfl rfl rfl ?_
      refine XO<| XO<| MxM.XL_offr oS rfl rfl rfl ?_
      refine XO<| XP (fun _ _=>yF (v:= .bool false) rfl rfl)<| MxM.xE fun rb hS=>?_
      have H:=H.sees hS
      have H:=ca.rejoin H
      obtain rfl:=gI c
      exact (zA (meet ⟨(),(zI rfl zL),H.pick [0,1,2,3,4] (by decide)⟩))
     rintro _ ρ rc H
     have c:=jc
     refine zW (b:=b9) rfl (fun bf=>?_) (fun bf=>?_)
     ·have c:=zN bf c
      refine zC fun re k0=>zB<| zK (.bool false)<| zG (zA (k0 _ _ ?_))
      obtain rfl:=gI c
      refine (zY (yD (zT (zT (yD (yD (zT (zT (yD (zT (gX (v1:= .bool false) rfl rfl ?_)))))))))))
      exact ⟨rfl,H.pick [] (by decide)⟩
     have c:=zO bf c
     refine (zX (yK (zA (jb _ _ ?_))))
     refine zB ?_
     refine zJ (i6 K) ?_
     obtain ⟨ce,k1,c⟩:=zD c
     refine zH (xJ (a:=K) (b:=1) rfl rfl k1)<| zK (i6 ce) ?_
     exact (zG (zA (meet ⟨(ip,ce),(zI rfl zL),⟨H.pick [0,1,2,3,4] (by decide),c⟩,Nat.lt_succ_self _⟩)))
    have c:=zO a7 c
    exact (xH (yL (yL (yS (yK (zA (meet ⟨(),zL,⟨H.pick [0,1,2,3,4] (by decide),c⟩⟩)))))))
   rintro _ ρ rf ⟨H,c⟩
   have c:=wE hn c
   refine zB ?_
   refine zJ (i6 B) ?_
   obtain ⟨cf,k2,c⟩:=zD c
   refine zH (xJ (a:=B) (b:=1) rfl rfl k2)<| zK (i6 cf) ?_
   exact (zG (zA (meet ⟨(hc,cf),(zI rfl zL),⟨H.pick [0,1,2,3,4] (by decide),c⟩,Nat.lt_succ_self _⟩)))
  have c:=zO a2 c
  exact (xH (yL (yL (yS (zA (meet ⟨(),zL,⟨H.pick [0,3,4] (by decide),c⟩⟩))))))
 rintro _ ρ rg ⟨H,c⟩
 have c:=wE g8 c
 obtain ⟨k3,k4,c⟩:=xU c
 refine yH [10,25,26,27,28,205,206,207,208,209,210,211,212,213,214,215,216,217,218,219,220,221,222,223,224,225,226,227,228,229,230,231,232,233,234,235,236,237,238,239,240,241,242,243,244,245,246,247,248] (fun (g:Unit)=>[]) (fun g wl=>Hd O w wl S [.fz (.at 1 0 ((Fl.arr 4 (Fl.int .u16)).f yJ))]∧k3 ()=some r) ?_ ?_
 ·skip
  refine zC fun rh k5=>zB<| zK (i6 0)<| zG (zA (k5 _ _ ?_))
  refine yC ?_
  unfold Fdb at c
  obtain ⟨k6,cg,k7,c⟩:=yR c
  refine xA [10,25,26,27,28,205,206,207,208,209,210,211,212,213,214,215,216,217,218,219,220,221,222,223,224,225,226,227,228,229,230,231,232,233,234,235,236,237,238,239,240,241,242,243,244,245,246,247,248] (fun (g:Nat×Int)=>[(25,i6 g.2)]) (fun g wl=>Hd O w wl S [.fz (.at 1 0 ((Fl.arr 4 (Fl.int .u16)).f yJ)),.own (Rp.sl Rp.str) n 22 z,.own (Rp.sl Rp.str) o 22 A]∧fV k6 g.1 g.2=some r) (fun g=>g.1) (cg,0) (zI rfl zL) ⟨H.pick [0,1,2] (by decide),c⟩ ?_
  clear H c
  rintro ⟨cg,P⟩ ρ ri ⟨H,c⟩
  obtain ⟨k8,rfl,c⟩:=yV c
  have c:=yU k7 c
  refine zC fun rj k9=>?_
  refine zC fun rk la=>zB<| zJ (i6 P)<| zJ n ?_
  obtain ⟨lb,lc,c⟩:=zD c
  obtain ⟨rl,rm,ld⟩:=Sr.len (Sr.of_own (H.item (i:=1) rfl))
  refine zH (yO (xI u41 ld) (congrArg (Value.int .i64) lc)) ?_
  obtain ⟨lf,lg,c⟩:=zD c
  refine zH (zM (xK (a:=P) (b:=lb) rfl rfl) lg)<| zG (zA (la _ _ ?_))
  refine zW (b:=lf) rfl (fun bg=>?_) (fun bg=>?_)
  ·have c:=zN bg c
   refine zX (zA (k9 _ _ ?_))
   obtain ⟨lh,li,c⟩:=xU c
   refine yH [10,26,27,28,211,212,213,214,215,216,217,218,219,220,221,222,223,224,225,226,227,228,229,230,231,232,233,234,235,236,237,238,239,240,241,242,243,244,245,246,247,248] (fun (g:Unit)=>[]) (fun g wl=>Hd O w wl S [.fz (.at 1 0 ((Fl.arr 4 (Fl.int .u16)).f yJ)),.own (Rp.sl Rp.str) n 22 z,.own (Rp.sl Rp.str) o 22 A]∧lh ()=some r) ?_ ?_
   ·skip
    refine yC ?_
    refine zC fun rn lj=>zB<| zK (i6 0)<| zG (zA (lj _ _ ?_))
    refine yC ?_
    unfold Fc8 at c
    obtain ⟨lk,ch,ll,c⟩:=yR c
    refine xA [10,26,27,28,211,212,213,214,215,216,217,218,219,220,221,222,223,224,225,226,227,228,229,230,231,232,233,234,235,236,237,238,239,240,241,242,243,244,245,246,247,248] (fun (g:Nat×Int)=>[(26,i6 g.2)]) (fun g wl=>Hd O w wl S [.fz (.at 1 0 ((Fl.arr 4 (Fl.int .u16)).f yJ)),.own (Rp.sl Rp.str) n 22 z,.own (Rp.sl Rp.str) o 22 A]∧fV lk g.1 g.2=some r) (fun g=>g.1) (ch,0) (zI rfl zL) ⟨H.pick [0,1,2] (by decide),c⟩ ?_
    clear H c
    rintro ⟨ch,X⟩ ρ ro ⟨H,c⟩
    obtain ⟨lm,rfl,c⟩:=yV c
    have c:=yU ll c
    refine zC fun rp ln=>?_
    refine zC fun rq lo=>zB<| zJ (i6 X)<| zJ n<| zJ (i6 P) ?_
    obtain ⟨lp,bh,c⟩:=zF c
    obtain ⟨rr,rs,rt,lq,lr,ls⟩:=bH (H.item (i:=1) rfl) bh
    obtain ⟨lu,rfl,lv⟩:=lr
    have H:=H.fzs [.sl Rp.str lu lp] ⟨lv,trivial⟩
    refine zH (yT u41 sz22 lq rfl (zS bh).1 (zS bh).2.1 rfl rfl)<| zH (yX aN rfl (Cells.get ls (i:=0) rfl)) ?_
    obtain ⟨lw,lx,c⟩:=zD c
    obtain ⟨ru,rv,ly⟩:=SlF.len ((H.item (i:=3) rfl))
    refine zH (yO (xI u22 ly) (congrArg (Value.int .i64) lx)) ?_
    obtain ⟨lz,l0,c⟩:=zD c
    refine zH (zM (xK (a:=X) (b:=lw) rfl rfl) l0)<| zG (zA (lo _ _ ?_))
    refine zW (b:=lz) rfl (fun bi=>?_) (fun bi=>?_)
    ·have c:=zN bi c
     refine zX (zA (ln _ _ ?_))
     obtain ⟨l1,l2,c⟩:=xU c
     refine yH [10,27,28,220,221,222,223,224,225,226,227,228,229,230,231,232,233,234,235,236,237,238,239,240,241,242,243,244,245,246,247,248] (fun (g:Unit)=>[]) (fun g wl=>Hd O w wl S [.fz (.at 1 0 ((Fl.arr 4 (Fl.int .u16)).f yJ)),.own (Rp.sl Rp.str) n 22 z,.own (Rp.sl Rp.str) o 22 A]∧l1 ()=some r) ?_ ?_
     ·skip
      refine yC ?_
      refine zC fun rx l3=>zB<| zK (.bool false)<| zG (zA (l3 _ _ ?_))
      obtain ⟨ae,c,l4⟩:=zF c
      refine yH [27,28,220,221,222,223,224,225,226,227,228,229,230,231,232,233,234,235,236,237,238,239,240,241,242,243,244,245,246] (fun (g:Unit)=>[(27,.bool ae)]) (fun g wl=>Hd O w wl S [.fz (.at 1 0 ((Fl.arr 4 (Fl.int .u16)).f yJ)),.own (Rp.sl Rp.str) n 22 z,.own (Rp.sl Rp.str) o 22 A]) ?_ ?_
      ·skip
       refine zC fun ry l5=>zB<| zK (i6 0)<| zG (zA (l5 _ _ ?_))
       refine yC ?_
       unfold Fdh at c
       obtain ⟨l6,ci,l7,c⟩:=yR c
       refine xA [27,28,220,221,222,223,224,225,226,227,228,229,230,231,232,233,234,235,236,237,238,239,240,241,242,243,244,245,246] (fun (g:Nat×Bool×Int)=>[(27,.bool g.2.1),(28,i6 g.2.2)]) (fun g wl=>Hd O w wl S [.fz (.at 1 0 ((Fl.arr 4 (Fl.int .u16)).f yJ)),.own (Rp.sl Rp.str) n 22 z,.own (Rp.sl Rp.str) o 22 A]∧fV l6 g.1 (g.2.1,g.2.2)=some ae) (fun g=>g.1) (ci,false,0) (zI rfl (zI rfl zL)) ⟨H.pick [0,1,2] (by decide),c⟩ ?_
       clear H c
       rintro ⟨ci,cj,Y⟩ ρ rz ⟨H,c⟩
       obtain ⟨l8,rfl,c⟩:=yV c
       have c:=yU l7 c
       refine zC fun r0 l9=>?_
       refine zC fun r1 ma=>zB<| zJ (i6 Y)<| zJ o<| zJ (i6 P) ?_
       obtain ⟨mb,bj,c⟩:=zF c
       obtain ⟨r2,r3,r4,mc,md,me⟩:=bH (H.item (i:=2) rfl) bj
       obtain ⟨mf,rfl,mg⟩:=md
       have H:=H.fzs [.sl Rp.str mf mb] ⟨mg,trivial⟩
       refine zH (yT u41 sz22 mc rfl (zS bj).1 (zS bj).2.1 rfl rfl)<| zH (yX aN rfl (Cells.get me (i:=0) rfl)) ?_
       obtain ⟨mh,mi,c⟩:=zD c
       obtain ⟨r5,r6,mj⟩:=SlF.len ((H.item (i:=3) rfl))
       refine zH (yO (xI u22 mj) (congrArg (Value.int .i64) mi)) ?_
       obtain ⟨ml,mm,c⟩:=zD c
       refine zH (zM (xK (a:=Y) (b:=mh) rfl rfl) mm)<| zG (zA (ma _ _ ?_))
       refine zW (b:=ml) rfl (fun bk=>?_) (fun bk=>?_)
       ·have c:=zN bk c
        refine zX (zA (l9 _ _ ?_))
        obtain ⟨ck,c,mn⟩:=zF c
        refine yH [27,229,230,231,232,233,234,235,236,237,238,239,240,241,242,243,244,245,246] (fun (g:Unit)=>[(27,.bool ck)]) (fun g wl=>Hd O w wl S [.fz (.at 1 0 ((Fl.arr 4 (Fl.int .u16)).f yJ)),.own (Rp.sl Rp.str) n 22 z,.own (Rp.sl Rp.str) o 22 A]) ?_ ?_
        ·skip
         refine yC ?_
         have cl:=H
         have H:=H.rebase
         have r7:=H
         refine xX H [0,1,2,3,4,5,6,7,8,9,10,11,12,13,14,15,16,17,18] (kz [0,0,0,0,0,1,0,0,1,0,0,0,1,0,0,1,0,0,0]) mixed ?_
         refine XM (.bool cj)<| MxM.XL_splitb (b:=cj) rfl rfl rfl rfl (fun bl=>?_) (fun bl=>?_)
         ·have c:=zN bl c
          refine XO<| XO<| XO<| MxM.XL_offr oS rfl rfl rfl ?_
          refine XO<| XO<| MxM.XL_offr oS rfl rfl rfl ?_
          refine XO<| XO<| XO<| MxM.XL_offr oS rfl rfl rfl ?_
          refine XO<| XO<| MxM.XL_offr oS rfl rfl rfl ?_
          refine XO<| XP (fun _ _=>yI (v:= .bool true) rfl rfl)<| XP (fun _ _=>xM (v:= .bool true) rfl)<| MxM.xE fun r8 hS=>?_
          have H:=H.sees hS
          have H:=cl.rejoin H
          obtain rfl:=gI c
          exact (yK (zA (meet ⟨(),(zI rfl zL),H.pick [0,1,2] (by decide)⟩)))
         have c:=zO bl c
         refine XM o<| XM (i6 P) ?_
         obtain ⟨mo,bm,c⟩:=zF c
         obtain ⟨r9,sa,sc,mq,mr,ms⟩:=bH (H.item (i:=2) rfl) bm
         obtain ⟨mt,rfl,mu⟩:=mr
         have H:=H.fzs [.sl Rp.str mt mo] ⟨mu,trivial⟩
         refine XP (fun _ _=>yT u41 sz22 mq rfl (zS bm).1 (zS bm).2.1 rfl rfl)<| MxM.xP oS rfl rfl rfl (fun y l=>yX aN rfl (Cells.get (ms.sees l) (i:=0) rfl))<| XM (i6 Y) ?_
         obtain ⟨cm,bn,c⟩:=zF c
         obtain ⟨mv,mw,sd,mx,my,mz,m0,m1,m2⟩:=wH (H.item (i:=4) rfl) bn
         obtain rfl:mx= [sb cm]:=mz
         have H:=H.fz (.at mv (mw+Y.toNat * 1) _) ⟨m0,m1,m2⟩
         refine XP (fun _ _=>yT u22 sz9 my rfl (zS bn).1 (zS bn).2.1 rfl rfl)<| MxM.xP oS rfl rfl rfl (fun y l=>yX bW rfl (Cells.get ((H.sees l).item (i:=5) rfl).2.2 (i:=0) rfl))<| XM n<| XM (i6 P) ?_
         obtain ⟨m3,bo,c⟩:=zF c
         obtain ⟨se,sf,sg,m4,m5,m6⟩:=bH (H.item (i:=1) rfl) bo
         obtain ⟨m7,rfl,m8⟩:=m5
         have H:=H.fzs [.sl Rp.str m7 m3] ⟨m8,trivial⟩
         refine XP (fun _ _=>yT u41 sz22 m4 rfl (zS bo).1 (zS bo).2.1 rfl rfl)<| MxM.xP oS rfl rfl rfl (fun y l=>yX aN rfl (Cells.get (m6.sees l) (i:=0) rfl))<| XM (i6 X) ?_
         obtain ⟨cn,bp,c⟩:=zF c
         obtain ⟨m9,na,sh,nb,nc,nd,ne,nf,ng⟩:=wH (H.item (i:=6) rfl) bp
         obtain rfl:nb= [sb cn]:=nd
         have H:=H.fz (.at m9 (na+X.toNat * 1) _) ⟨ne,nf,ng⟩
         refine XP (fun _ _=>yT u22 sz9 nc rfl (zS bp).1 (zS bp).2.1 rfl rfl)<| MxM.xP oS rfl rfl rfl (fun y l=>yX bW rfl (Cells.get ((H.sees l).item (i:=7) rfl).2.2 (i:=0) rfl)) ?_
         obtain ⟨co,nh,c⟩:=zD c
         refine XP (fun _ _=>zM (dL (s1:=cm) (s2:=cn) rfl rfl) nh)<| XP (fun _ _=>yF (v:= .bool co) rfl rfl)<| XP (fun _ _=>xM (v:= .bool co) rfl)<| MxM.xE fun si hS=>?_
         have H:=H.sees hS
         have H:=cl.rejoin H
         obtain rfl:=gI c
         exact (yK (zA (meet ⟨(),(zI rfl zL),H.pick [0,1,2] (by decide)⟩)))
        rintro _ ρ sj H
        have c:=mn
        refine zB ?_
        refine zJ (i6 Y) ?_
        obtain ⟨cp,ni,c⟩:=zD c
        refine zH (xJ (a:=Y) (b:=1) rfl rfl ni)<| zK (i6 cp) ?_
        exact (zG (zA (meet ⟨(l8,ck,cp),(zI rfl (zI rfl zL)),⟨H.pick [0,1,2] (by decide),c⟩,Nat.lt_succ_self _⟩)))
       have c:=zO bk c
       obtain rfl:=gI c
       exact (xH (yL (yL (yS (zA (meet ⟨(),(zI rfl zL),H.pick [0,1,2] (by decide)⟩))))))
      rintro _ ρ sk H
      have c:=l4
      refine zC fun sm nj=>zB<| zJ (.bool ae) ?_
      obtain ⟨nk,nl,c⟩:=zD c
      refine zH (zM (wJ (p:=ae) rfl) nl)<| zG (zA (nj _ _ ?_))
      refine zW (b:=nk) rfl (fun bq=>?_) (fun bq=>?_)
      ·have c:=zN bq c
       refine zC fun sn nm=>zB<| zK (.bool false)<| zG (zA (nm _ _ ?_))
       obtain rfl:=gI c
       refine (zY (yD (zT (zT (yD (yD (zT (zT (yD (zT (gX (v1:= .bool false) rfl rfl ?_)))))))))))
       exact ⟨rfl,H.pick [] (by decide)⟩
      have c:=zO bq c
      exact (zX (yK (zA (meet ⟨(),zL,⟨H.pick [0,1,2] (by decide),c⟩⟩))))
     rintro _ ρ so ⟨H,c⟩
     have c:=wE l2 c
     refine zB ?_
     refine zJ (i6 X) ?_
     obtain ⟨cq,nn,c⟩:=zD c
     refine zH (xJ (a:=X) (b:=1) rfl rfl nn)<| zK (i6 cq) ?_
     exact (zG (zA (meet ⟨(lm,cq),(zI rfl zL),⟨H.pick [0,1,2] (by decide),c⟩,Nat.lt_succ_self _⟩)))
    have c:=zO bi c
    exact (xH (yL (yL (yS (yK (zA (meet ⟨(),zL,⟨H.pick [0,1,2] (by decide),c⟩⟩)))))))
   rintro _ ρ sp ⟨H,c⟩
   have c:=wE li c
   refine zB ?_
   refine zJ (i6 P) ?_
   obtain ⟨cr,np,c⟩:=zD c
   refine zH (xJ (a:=P) (b:=1) rfl rfl np)<| zK (i6 cr) ?_
   exact (zG (zA (meet ⟨(k8,cr),(zI rfl zL),⟨H.pick [0,1,2] (by decide),c⟩,Nat.lt_succ_self _⟩)))
  have c:=zO bg c
  exact (xH (yL (yL (yS (zA (meet ⟨(),zL,⟨H.pick [0] (by decide),c⟩⟩))))))
 rintro _ ρ sq ⟨H,c⟩
 have c:=wE k4 c
 refine zC fun sr nq=>zB<| zK (.bool true)<| zG (zA (nq _ _ ?_))
 obtain rfl:=gI c
 refine (zY (gX (v1:= .bool true) rfl rfl ?_))
 exact ⟨rfl,H.pick [] (by decide)⟩
end Go.Proofs.YtckmiljbaejijaaGreatDoor.L
