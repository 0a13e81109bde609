/- Walks: what each function computes, for every argument; no condition but those that stand in the statements. -/
import Derived.Test.YtckmiljbaejijaaGreatDoorUV0
import Derived.Test.YtckmiljbaejijaaGreatDoorUV4
import Derived.Test.YtckmiljbaejijaaGreatDoorUV6
import Derived.Test.YtckmiljbaejijaaGreatDoorUV7
import Derived.Test.YtckmiljbaejijaaGreatDoorUV9
import Derived.Test.YtckmiljbaejijaaGreatDoorUV1
namespace Go.Proofs.YtckmiljbaejijaaGreatDoor.L
open Go.RowKit Go.OB Go.Lf
set_option maxHeartbeats 4000000
set_option maxRecDepth 100000 in
theorem Fckw (j:Rules)(k:List Track)(m:Int)(p:Int)(p4c0:List (List Str))(v1:Value)(n:Value)(o:Value)(f:Value)(h:Nat)(l:Value)(r:Int×(List (List Str)))(c:Fck j k m p p4c0=some r)(O S:List Nat)(w:World)(H:Hd O w w S [.own (Rp.sl Rp.str) l 22 p4c0,.blk h [l] 41,.fz (.sl Rp.str v1 j.Phases),.fz (.sl rMoveT n j.Moves),.fz (.sl rRule o j.Rules),.fz (.sl rTrack f k)]):
  Calls Tryz.prog 53 ([.agg [v1,n,o].toArray,f,.int .i64 m,.int .i64 p,.func (.func 55) #[] #[ptr0 h]]:List Value).toArray w fun e w'=> ∃ae,e= .returned (.int .i64 r.1)∧Hd O w w' S [.own (Rp.sl Rp.str) ae 22 r.2,.blk h [ae] 41]:=by
 unfold Fck at c
 refine zW 54 Tryz.func53 rfl rfl rfl ?_
 refine zC fun cm aq=>zB ?_
 refine yY rfl rfl (xX (cs:=[v1,n,o]) rfl H) ?_
 rintro _ cn ⟨af,rfl,H⟩
 refine zK (.int .i64 0)<| (zG (zA (aq _ _ ?_)))
 refine zC fun co ar=>?_
 refine zC fun cp au=>zB ?_
 refine zH (yS (yR (cs:=[v1,n,o]) agg26 rfl sz26 rfl (Blk.cells (H.item (i:=6) rfl))) rfl)<| zJ f ?_
 have av:=H
 obtain ⟨z,aw,c⟩:=zF c
 refine yG rfl rfl (yC en73 rfl) (Faxw j k v1 n o f _ aw _ _ _ (H.enter [] [2,3,4,5] (by decide) rfl)) ?_
 rintro _ cq ⟨rfl,ax⟩
 have H:=av.step (ax.only:Only [] _ _)
 refine ⟨_,rfl,?_⟩
 refine zK (.int .i64 z)<| (zG (zA (au _ _ ?_)))
 refine zC fun cr ay=>zB ?_
 refine zJ (.int .i64 z) ?_
 obtain ⟨az,a0,c⟩:=zD c
 refine zH (zQ (wH (a:=z) (b:=0) rfl rfl) a0)<| (zG (zA (ay _ _ ?_)))
 refine zZ (b:=az) rfl (fun L=>?_) (fun L=>?_)
 ·have c:=zS L c
  refine zC fun ct a1=>zB ?_
  refine zJ (.int .i64 z)<| zK (.int .i64 z)<| (zG (zA (a1 _ _ ?_)))
  obtain rfl:=someI c
  refine (zY (zV (post1 (v1:= .int .i64 z) rfl rfl ?_)))
  exact ⟨l,rfl,H.pick [0,1] (by decide)⟩
 have c:=zT L c
 refine (yA (zA (ar _ _ ?_)))
 refine zC fun cu a2=>?_
 obtain ⟨ag,c,a3⟩:=zF c
 refine yK [20,21,22,23,24,25,26,27,28,29,30] (fun (g:Unit)=>[(30,.bool ag)]) (fun g wl=>Hd O w wl S [.own (Rp.sl Rp.str) l 22 p4c0,.blk h [l] 41,.fz (.sl Rp.str v1 j.Phases),.fz (.sl rMoveT n j.Moves),.fz (.sl rRule o j.Rules),.fz (.sl rTrack f k),.blk af [v1,n,o] 26]) ?_ ?_
 ·skip
  refine zB ?_
  refine zJ (.int .i64 m) ?_
  obtain ⟨a4,a5,c⟩:=zD c
  refine zH (zQ (xR (a:=m) (b:=0) rfl rfl) a5) ?_
  obtain ⟨ah,c,a6⟩:=zF c
  refine RL_cutS 5 [22,23,24,25,26] [(26,.bool ah)] (fun wl=>Hd O w wl S [.own (Rp.sl Rp.str) l 22 p4c0,.blk h [l] 41,.fz (.sl Rp.str v1 j.Phases),.fz (.sl rMoveT n j.Moves),.fz (.sl rRule o j.Rules),.fz (.sl rTrack f k),.blk af [v1,n,o] 26]) ?_ ?_
  ·skip
   refine yN (b:=a4) rfl rfl rfl (fun M=>?_) (fun M=>?_)
   ·have c:=zS M c
    refine yI ?_
    refine yI ?_
    refine yI ?_
    refine zH (yL (v:= .bool true) rfl rfl) ?_
    obtain rfl:=someI c
    exact zG (zA (meet ⟨(zL rfl zM),H.pick [0,1,2,3,4,5,6] (by decide)⟩))
   have c:=zT M c
   refine zJ (.int .i64 m)<| zJ (.int .i64 p) ?_
   obtain ⟨a7,a8,c⟩:=zD c
   refine zH (zQ (Do_gtr (a:=m) (b:=p) rfl rfl) a8)<| zH (yJ (v:= .bool a7) rfl rfl) ?_
   obtain rfl:=someI c
   exact zG (zA (meet ⟨(zL rfl zM),H.pick [0,1,2,3,4,5,6] (by decide)⟩))
  rintro ρ cv H
  have c:=a6
  refine yN (b:=ah) rfl rfl rfl (fun N=>?_) (fun N=>?_)
  ·have c:=zS N c
   refine yI ?_
   refine yI ?_
   refine zH (yL (v:= .bool true) rfl rfl) ?_
   obtain rfl:=someI c
   exact (zG (zA (meet ⟨(),(zL rfl zM),H.pick [0,1,2,3,4,5,6] (by decide)⟩)))
  have c:=zT N c
  refine zJ (.int .i64 p) ?_
  obtain ⟨a9,ba,c⟩:=zD c
  refine zH (zQ (Do_geq (a:=p) (b:=4194304) rfl rfl) ba)<| zH (yJ (v:= .bool a9) rfl rfl) ?_
  obtain rfl:=someI c
  exact (zG (zA (meet ⟨(),(zL rfl zM),H.pick [0,1,2,3,4,5,6] (by decide)⟩)))
 rintro _ ρ cw H
 have c:=a3
 refine zZ (b:=ag) rfl (fun P=>?_) (fun P=>?_)
 ·have c:=zS P c
  refine zC fun cx bb=>zB ?_
  refine zK (.int .i64 9)<| (zG (zA (bb _ _ ?_)))
  obtain rfl:=someI c
  refine (zY (zV (post1 (v1:= .int .i64 9) rfl rfl ?_)))
  exact ⟨l,rfl,H.pick [0,1] (by decide)⟩
 have c:=zT P c
 refine (yA (zA (a2 _ _ ?_)))
 refine zC fun cy bc=>?_
 refine zC fun cz bd=>zB ?_
 refine zJ (.int .i64 p)<| zJ (.int .i64 m) ?_
 obtain ⟨be,bf,c⟩:=zD c
 refine zH (Do_sub (a:=p) (b:=m) rfl rfl bf) ?_
 obtain ⟨bg,bh,c⟩:=zD c
 refine zH (xM (a:=be) (b:=1) rfl rfl bh) ?_
 obtain ⟨bi,bj,c⟩:=zD c
 refine zH (zQ (Do_gtr (a:=bg) (b:=20000) rfl rfl) bj)<| (zG (zA (bd _ _ ?_)))
 refine zZ (b:=bi) rfl (fun Q=>?_) (fun Q=>?_)
 ·have c:=zS Q c
  refine zC fun c0 bk=>zB ?_
  refine zK (.int .i64 3)<| (zG (zA (bk _ _ ?_)))
  obtain rfl:=someI c
  refine (zY (zV (post1 (v1:= .int .i64 3) rfl rfl ?_)))
  exact ⟨l,rfl,H.pick [0,1] (by decide)⟩
 have c:=zT Q c
 refine (yA (zA (bc _ _ ?_)))
 refine zC fun c1 bl=>zB ?_
 refine zH (yS (yR (cs:=[v1,n,o]) agg26 rfl sz26 rfl (Blk.cells (H.item (i:=6) rfl))) rfl)<| zJ f ?_
 obtain ⟨q,bm,c⟩:=zF c
 refine yG rfl rfl (yC en74 rfl) (Faow j k v1 n o f _ bm _ _ _ (H.enter [] [2,3,4,5] (by decide) rfl)) ?_
 rintro _ bn ⟨s,R,T,ai,U,aj,V,rfl,bo⟩
 have H:=H.back1 [2,3,4,5] rfl bo
 refine ⟨_,rfl,?_⟩
 refine zK (ptr0 s)<| (zG (zA (bl _ _ ?_)))
 have H:Hd O w bn S [.own (Rp.sl Rp.str) l 22 p4c0,.blk h [l] 41,.fz (.sl rTrack f k),.fz (.sl Rp.str R q.phases),.tr rowEM [T] ai q.moves,.tr rowNd [U] aj q.rules,.fz (.sl Rp.bool V q.possible),.blk s [R,.int .i64 q.tracks,T,U,V] 146]:=H.pick [0,1,5,7,8,9,10,11] (by decide)
 obtain ⟨ak,c,bp⟩:=zF c
 refine yK [13,39,40,41,42,43,44,45,46,47,48,49,50,51,52,53] (fun (g:Value)=>[]) (fun g wl=>Hd O w wl S [.blk h [g] 41,.own (Rp.sl Rp.str) g 22 ak]) ?_ ?_
 ·skip
  refine zC fun c2 bq=>zB ?_
  refine zJ (.int .i64 m)<| zK (.int .i64 m)<| (zG (zA (bq _ _ ?_)))
  refine yH ?_
  unfold Fdl at c
  obtain ⟨br,al,bt,c⟩:=yX c
  refine xI [13,40,41,42,43,44,45,46,47,48,49,50,51,52,53] (fun (g:Nat×Int×(List (List Str))×(List Str)×Int×(List EventMove)×(List Nd)×(List Bool)×Value×Value×Value×(List Nat)×Value×(List Nat)×Value)=>[(13,.int .i64 g.2.1)]) (fun g wl=>Hd O w wl S [.blk h [g.2.2.2.2.2.2.2.2.1] 41,.own (Rp.sl Rp.str) g.2.2.2.2.2.2.2.2.1 22 g.2.2.1,.fz (.sl rTrack f k),.blk s [g.2.2.2.2.2.2.2.2.2.1,.int .i64 g.2.2.2.2.1,g.2.2.2.2.2.2.2.2.2.2.1,g.2.2.2.2.2.2.2.2.2.2.2.2.1,g.2.2.2.2.2.2.2.2.2.2.2.2.2.2] 146,.fz (.sl Rp.str g.2.2.2.2.2.2.2.2.2.1 g.2.2.2.1),.tr rowEM [g.2.2.2.2.2.2.2.2.2.2.1] g.2.2.2.2.2.2.2.2.2.2.2.1 g.2.2.2.2.2.1,.tr rowNd [g.2.2.2.2.2.2.2.2.2.2.2.2.1] g.2.2.2.2.2.2.2.2.2.2.2.2.2.1 g.2.2.2.2.2.2.1,.fz (.sl Rp.bool g.2.2.2.2.2.2.2.2.2.2.2.2.2.2 g.2.2.2.2.2.2.2.1)]∧loopN br g.1 (g.2.1,g.2.2.1,g.2.2.2.1,g.2.2.2.2.1,g.2.2.2.2.2.1,g.2.2.2.2.2.2.1,g.2.2.2.2.2.2.2.1)=some ak) (fun g=>g.1) (al,m,p4c0,q.phases,q.tracks,q.moves,q.rules,q.possible,l,R,T,ai,U,aj,V) (zL rfl zM) ⟨H.pick [1,0,2,7,3,4,5,6] (by decide),c⟩ ?_
  clear H c
  rintro ⟨al,A,X,C,bu,bv,bw,D,B,E,bx,bz,b0,b1,F⟩ ρ c3 ⟨H,c⟩
  obtain ⟨b2,rfl,c⟩:=xC c
  have c:=xB bt c
  refine zC fun c4 b3=>?_
  refine zC fun c5 b4=>zB ?_
  refine zJ (.int .i64 A)<| zJ (.int .i64 p) ?_
  obtain ⟨b5,b6,c⟩:=zD c
  refine zH (zQ (Do_leq (a:=A) (b:=p) rfl rfl) b6)<| (zG (zA (b4 _ _ ?_)))
  refine zZ (b:=b5) rfl (fun Y=>?_) (fun Y=>?_)
  ·have c:=zS Y c
   refine (yA (zA (b3 _ _ ?_)))
   refine zC fun c6 b7=>?_
   refine yH ?_
   refine zB ?_
   refine zJ (.func (.func 55) #[] #[ptr0 h])<| zJ (ptr0 s)<| zJ f<| zJ (.int .i64 A) ?_
   obtain ⟨G,b8,c⟩:=zF c
   refine yG rfl rfl (yC en77 rfl) (Faiw k A f _ b8 _ _ _ (H.enter [] [2] (by decide) rfl)) ?_
   rintro _ c7 ⟨I,rfl,b9⟩
   have H:=H.back1 [2] rfl b9
   refine ⟨_,rfl,?_⟩
   have H:=H.freeze (i:=8) rfl
   obtain ⟨⟨J,d⟩,ca,c⟩:=zF c
   refine yG rfl rfl (yC en78 rfl) (Fafw (EventWatch.mk C bu bv bw D) G s E bx bz b0 b1 F I _ ca _ _ _ (H.enter [5,6,3] [4,7,8] (by decide) rfl)) ?_
   rintro _ cb ⟨K,t,u,am,x,an,y,rfl,cc⟩
   have H:Hd _ _ cb _ [.blk h [B] 41,.own (Rp.sl Rp.str) B 22 X,.fz (.sl rTrack f k),.fz (.sl Rp.str E C),.fz (.sl Rp.bool F D),.fz (.sl rToldT I G),.own (Rp.int .i64) K 3 J,.fz (.sl Rp.str t d.phases),.tr rowEM [u] am d.moves,.tr rowNd [x] an d.rules,.fz (.sl Rp.bool y d.possible),.blk s [t,.int .i64 d.tracks,u,x,y] 146]:=H.back [5,6,3] [4,7,8] rfl cc
   refine ⟨_,rfl,?_⟩
   refine zJ (ptr0 s) ?_
   obtain ⟨Z,cd,c⟩:=zF c
   refine yG rfl rfl (yC en27 rfl) (Fagw (EventWatch.mk d.phases d.tracks d.moves d.rules d.possible) s t u am x an y _ cd _ _ _ (H.enter [8,9,11] [7,10] (by decide) rfl)) ?_
   rintro _ ce ⟨aa,ab,ac,rfl,cf⟩
   have H:Hd _ _ ce _ [.blk h [B] 41,.own (Rp.sl Rp.str) B 22 X,.fz (.sl rTrack f k),.fz (.sl Rp.str E C),.fz (.sl Rp.bool F D),.fz (.sl rToldT I G),.own (Rp.int .i64) K 3 J,.fz (.sl Rp.str t d.phases),.fz (.sl Rp.bool y d.possible),.own Rp.str aa 9 Z,.tr rowEM [u] ab d.moves,.tr rowNd [x] ac d.rules,.blk s [t,.int .i64 d.tracks,u,x,y] 146]:=H.back [8,9,11] [7,10] rfl cf
   refine ⟨_,rfl,?_⟩
   have H:=H.freeze (i:=6) rfl
   have H:=H.freeze (i:=9) rfl
   obtain ⟨ao,cg,c⟩:=zF c
   refine yG rfl rfl (DoC_clo en55 rfl rfl) (Fa3w J Z X K aa h B _ cg _ _ _ (H.enter [1,0] [6,9] (by decide) rfl)) ?_
   rintro _ ch ⟨ad,rfl,ci⟩
   have H:Hd _ _ ch _ [.fz (.sl rTrack f k),.fz (.sl Rp.str E C),.fz (.sl Rp.bool F D),.fz (.sl rToldT I G),.fz (.sl (Rp.int .i64) K J),.fz (.sl Rp.str t d.phases),.fz (.sl Rp.bool y d.possible),.fz (.sl Rp.str aa Z),.tr rowEM [u] ab d.moves,.tr rowNd [x] ac d.rules,.blk s [t,.int .i64 d.tracks,u,x,y] 146,.own (Rp.sl Rp.str) ad 22 ao,.blk h [ad] 41]:=H.back [1,0] [6,9] rfl ci
   refine ⟨_,rfl,?_⟩
   refine (zG (yP (zA (b7 _ _ ?_))))
   refine zB ?_
   refine zJ (.int .i64 A) ?_
   obtain ⟨ap,cj,c⟩:=zD c
   refine zH (xM (a:=A) (b:=1) rfl rfl cj)<| zK (.int .i64 ap) ?_
   exact (zG (zA (meet ⟨(b2,ap,ao,d.phases,d.tracks,d.moves,d.rules,d.possible,ad,t,u,ab,x,ac,y),(zL rfl zM),⟨H.pick [12,11,0,10,5,8,9,6] (by decide),c⟩,Nat.lt_succ_self _⟩)))
  have c:=zT Y c
  obtain rfl:=someI c
  exact (xO (yQ (yQ (yZ (zA (meet ⟨B,zM,H.pick [0,1] (by decide)⟩))))))
 rintro ck ρ c8 H
 have c:=bp
 refine zC fun c9 cl=>zB ?_
 refine zK (.int .i64 0)<| (zG (zA (cl _ _ ?_)))
 obtain rfl:=someI c
 refine (zY (post1 (v1:= .int .i64 0) rfl rfl ?_))
 exact ⟨ck,rfl,H.pick [1,0] (by decide)⟩
theorem Fb4w (d:Rules)(l:List Track)(m:Int)(n:Int)(v1:Value)(v2:Value)(f:Value)(j:Value)(r:(List (List Str))×Int)(c:Fb4 d l m n=some r)(O S:List Nat)(w:World)(H:Hd O w w S [.fz (.sl Rp.str v1 d.Phases),.fz (.sl rMoveT v2 d.Moves),.fz (.sl rRule f d.Rules),.fz (.sl rTrack j l)]):
  Calls Tryz.prog 16 ([.agg [v1,v2,f].toArray,j,.int .i64 m,.int .i64 n]:List Value).toArray w fun e w'=> ∃u9,e= .returned (.tuple #[u9,.int .i64 r.2])∧Hd O w w' S [.own (Rp.sl Rp.str) u9 22 r.1]:=by
 unfold Fb4 at c
 refine zW 22 Tryz.func16 rfl rfl rfl ?_
 refine zC fun G q=>zB ?_
 refine yY rfl rfl (xX (cs:=[v1,v2,f]) rfl H) ?_
 rintro _ I ⟨s,rfl,H⟩
 refine zK (.slice none 0 0)<| zK (.int .i64 0)<| (zG (zA (q _ _ ?_)))
 refine zC fun J t=>zB ?_
 refine yY rfl rfl (xQ zero41 H) ?_
 rintro _ K ⟨p,rfl,H⟩
 refine (zG (zA (t _ _ ?_)))
 refine zC fun L u=>zB ?_
 refine zH (yS (yR (cs:=[v1,v2,f]) agg26 rfl sz26 rfl (Blk.cells (H.item (i:=4) rfl))) rfl)<| zJ j<| zJ (.int .i64 m)<| zJ (.int .i64 n)<| zH (Do_makeFunc rfl) ?_
 have H:=own_nil H (Rp.sl Rp.str) 22
 obtain ⟨⟨h,v⟩,x,c⟩:=zF c
 refine yG rfl rfl (yC en53 rfl) (Fckw d l m n [] v1 v2 f j p (.slice none 0 0) _ x _ _ _ (H.enter [6,5] [0,1,2,3] (by decide) rfl)) ?_
 rintro _ y ⟨k,rfl,z⟩
 have H:Hd _ _ y _ [.fz (.sl Rp.str v1 d.Phases),.fz (.sl rMoveT v2 d.Moves),.fz (.sl rRule f d.Rules),.fz (.sl rTrack j l),.blk s [v1,v2,f] 26,.own (Rp.sl Rp.str) k 22 v,.blk p [k] 41]:=H.back [6,5] [0,1,2,3] rfl z
 refine ⟨_,rfl,?_⟩
 refine zK (.int .i64 h)<| (zG (zA (u _ _ ?_)))
 refine zC fun M A=>?_
 refine zC fun N B=>zB ?_
 refine zJ (.int .i64 h) ?_
 obtain ⟨C,D,c⟩:=zD c
 refine zH (zQ (wH (a:=h) (b:=0) rfl rfl) D)<| (zG (zA (B _ _ ?_)))
 refine zZ (b:=C) rfl (fun o=>?_) (fun o=>?_)
 ·have c:=zS o c
  refine zC fun P E=>zB ?_
  refine zJ (.int .i64 h)<| zK (.slice none 0 0)<| zK (.int .i64 h)<| (zG (zA (E _ _ ?_)))
  have H:=own_nil H (Rp.sl Rp.str) 22
  obtain rfl:=someI c
  refine (zY (zV (post2 (v1:= .slice none 0 0) (v2:= .int .i64 h) rfl rfl rfl ?_)))
  exact ⟨.slice none 0 0,rfl,H.pick [7] (by decide)⟩
 have c:=zT o c
 refine (yA (zA (A _ _ ?_)))
 refine zC fun Q F=>zB ?_
 refine zH (zN one41 rfl (Cells.get (Blk.cells (H.item (i:=6) rfl)) (i:=0) rfl))<| zK k<| zK (.int .i64 0)<| (zG (zA (F _ _ ?_)))
 obtain rfl:=someI c
 refine (zY (post2 (v1:=k) (v2:= .int .i64 0) rfl rfl rfl ?_))
 exact ⟨k,rfl,H.pick [5] (by decide)⟩
theorem Fb8w (d:Rules)(k:List Track)(v1:Value)(v2:Value)(f:Value)(j:Value)(r:(Option EventWatch)×Int)(h:Fb8 d k=some r)(O S:List Nat)(w:World)(H:Hd O w w S [.fz (.sl Rp.str v1 d.Phases),.fz (.sl rMoveT v2 d.Moves),.fz (.sl rRule f d.Rules),.fz (.sl rTrack j k)]):
  Calls Tryz.prog 23 ([.agg [v1,v2,f].toArray,j]:List Value).toArray w fun e w'=> ∃u9 v,e= .returned (.tuple #[u9,.int .i64 r.2])∧Hd O w w' S [.tr (Rt.opt rtEventWatch 146) [u9] v r.1]:=by
 unfold Fb8 at h
 refine zW 16 Tryz.func23 rfl rfl rfl ?_
 refine zC fun Q y=>zB ?_
 refine yY rfl rfl (xX (cs:=[v1,v2,f]) rfl H) ?_
 rintro _ R ⟨s,rfl,H⟩
 refine zK (.pointer none)<| zK (.int .i64 0)<| (zG (zA (y _ _ ?_)))
 refine zC fun T z=>?_
 refine zC fun U A=>zB ?_
 refine zH (yS (yR (cs:=[v1,v2,f]) agg26 rfl sz26 rfl (Blk.cells (H.item (i:=4) rfl))) rfl)<| zJ j ?_
 have B:=H
 obtain ⟨l,C,h⟩:=zF h
 refine yG rfl rfl (yC en73 rfl) (Faxw d k v1 v2 f j _ C _ _ _ (H.enter [] [0,1,2,3] (by decide) rfl)) ?_
 rintro _ V ⟨rfl,D⟩
 have H:=B.step (D.only:Only [] _ _)
 refine ⟨_,rfl,?_⟩
 refine zK (.int .i64 l)<| (zG (zA (A _ _ ?_)))
 refine zC fun X E=>zB ?_
 refine zJ (.int .i64 l) ?_
 obtain ⟨F,G,h⟩:=zD h
 refine zH (zQ (wH (a:=l) (b:=0) rfl rfl) G)<| (zG (zA (E _ _ ?_)))
 refine zZ (b:=F) rfl (fun t=>?_) (fun t=>?_)
 ·have h:=zS t h
  refine zC fun Y I=>zB ?_
  refine zJ (.int .i64 l)<| zK (.pointer none)<| zK (.int .i64 l)<| (zG (zA (I _ _ ?_)))
  have H:=H.opt_none rtEventWatch 146
  obtain rfl:=someI h
  refine (zY (zV (post2 (v1:= .pointer none) (v2:= .int .i64 l) rfl rfl rfl ?_)))
  exact ⟨.pointer none,[],rfl,H.pick [5] (by decide)⟩
 have h:=zT t h
 refine (yA (zA (z _ _ ?_)))
 refine zC fun Z J=>zB ?_
 refine zH (yS (yR (cs:=[v1,v2,f]) agg26 rfl sz26 rfl (Blk.cells (H.item (i:=4) rfl))) rfl)<| zJ j ?_
 obtain ⟨c,K,h⟩:=zF h
 refine yG rfl rfl (yC en74 rfl) (Faow d k v1 v2 f j _ K _ _ _ (H.enter [] [0,1,2,3] (by decide) rfl)) ?_
 rintro _ aa ⟨m,n,p,L,q,M,o,rfl,N⟩
 have H:=H.back1 [0,1,2,3] rfl N
 refine ⟨_,rfl,?_⟩
 refine zK (ptr0 m)<| zK (.int .i64 0)<| (zG (zA (J _ _ ?_)))
 have H:Hd _ _ _ _ [.fz (.sl Rp.str v1 d.Phases),.fz (.sl rMoveT v2 d.Moves),.fz (.sl rRule f d.Rules),.fz (.sl rTrack j k),.blk s [v1,v2,f] 26,.fz (.sl Rp.str n c.phases),.tr rowEM [p] L c.moves,.tr rowNd [q] M c.rules,.fz (.sl Rp.bool o c.possible),.blk m [n,.int .i64 c.tracks,p,q,o] 146]:=H
 obtain ⟨P,H⟩:=rtEventWatch_mk (x:=EventWatch.mk c.phases c.tracks c.moves c.rules c.possible) H 6 7 rfl rfl (H.item (i:=5) rfl) (H.item (i:=8) rfl) (by decide)
 have H:Hd _ _ _ _ [.fz (.sl Rp.str v1 d.Phases),.fz (.sl rMoveT v2 d.Moves),.fz (.sl rRule f d.Rules),.fz (.sl rTrack j k),.blk s [v1,v2,f] 26,.fz (.sl Rp.str n c.phases),.fz (.sl Rp.bool o c.possible),.blk m [n,.int .i64 c.tracks,p,q,o] 146,.tr rtEventWatch [n,.int .i64 c.tracks,p,q,o] P (EventWatch.mk c.phases c.tracks c.moves c.rules c.possible)]:=H
 obtain ⟨u,H⟩:=H.opt_mk 8 7 rfl rfl (by decide)
 have H:Hd _ _ _ _ [.fz (.sl Rp.str v1 d.Phases),.fz (.sl rMoveT v2 d.Moves),.fz (.sl rRule f d.Rules),.fz (.sl rTrack j k),.blk s [v1,v2,f] 26,.fz (.sl Rp.str n c.phases),.fz (.sl Rp.bool o c.possible),.tr (Rt.opt rtEventWatch 146) [(ptr0 m)] u (some (EventWatch.mk c.phases c.tracks c.moves c.rules c.possible))]:=H
 obtain rfl:=someI h
 refine (zY (post2 (v1:=(ptr0 m)) (v2:= .int .i64 0) rfl rfl rfl ?_))
 exact ⟨(ptr0 m),u,rfl,H.pick [7] (by decide)⟩
theorem Fcxw (h:List Track)(d:Int)(v1:Value)(r:(List ToldT)×Int)(c:Fcx h d=some r)(O S:List Nat)(w:World)(H:Hd O w w S [.fz (.sl rTrack v1 h)]):
  Calls Tryz.prog 24 ([v1,.int .i64 d]:List Value).toArray w fun e w'=> ∃u3,e= .returned (.tuple #[u3,.int .i64 r.2])∧Hd O w w' S [.own rToldT u3 148 r.1]:=by
 unfold Fcx at c
 refine zW 18 Tryz.func24 rfl rfl rfl ?_
 refine zC fun L l=>zB ?_
 refine zK (.slice none 0 0)<| zK (.int .i64 0)<| (zG (zA (l _ _ ?_)))
 refine zC fun M m=>?_
 refine zC fun N n=>zB ?_
 refine zJ v1 ?_
 have o:=H
 obtain ⟨f,q,c⟩:=zF c
 refine yG rfl rfl (yC en75 rfl) (Fbfw h v1 _ q _ _ _ (H.enter [] [0] (by decide) rfl)) ?_
 rintro _ P ⟨rfl,s⟩
 have H:=o.step (s.only:Only [] _ _)
 refine ⟨_,rfl,?_⟩
 refine zK (.int .i64 f)<| (zG (zA (n _ _ ?_)))
 refine zC fun Q t=>zB ?_
 refine zJ (.int .i64 f) ?_
 obtain ⟨u,v,c⟩:=zD c
 refine zH (zQ (wH (a:=f) (b:=0) rfl rfl) v)<| (zG (zA (t _ _ ?_)))
 refine zZ (b:=u) rfl (fun i=>?_) (fun i=>?_)
 ·have c:=zS i c
  refine zC fun R x=>zB ?_
  refine zJ (.int .i64 f)<| zK (.slice none 0 0)<| zK (.int .i64 f)<| (zG (zA (x _ _ ?_)))
  have H:=own_nil H rToldT 148
  obtain rfl:=someI c
  refine (zY (zV (post2 (v1:= .slice none 0 0) (v2:= .int .i64 f) rfl rfl rfl ?_)))
  exact ⟨.slice none 0 0,rfl,H.pick [1] (by decide)⟩
 have c:=zT i c
 refine (yA (zA (m _ _ ?_)))
 refine zC fun T y=>?_
 refine zC fun U z=>zB ?_
 refine zJ (.int .i64 d) ?_
 have A:=H
 obtain ⟨B,C,c⟩:=zF c
 refine yG rfl rfl (yC en76 rfl) (Faew d 0 4194303 _ C _ _ _ (H.enter [] [] (by decide) rfl)) ?_
 rintro _ V ⟨rfl,D⟩
 have H:=A.step (D.only:Only [] _ _)
 refine ⟨_,rfl,?_⟩
 obtain ⟨E,F,c⟩:=zD c
 refine zH (zQ (wI (p:=B) rfl) F)<| (zG (zA (z _ _ ?_)))
 refine zZ (b:=E) rfl (fun j=>?_) (fun j=>?_)
 ·have c:=zS j c
  refine zC fun X G=>zB ?_
  refine zK (.slice none 0 0)<| zK (.int .i64 9)<| (zG (zA (G _ _ ?_)))
  have H:=own_nil H rToldT 148
  obtain rfl:=someI c
  refine (zY (zV (post2 (v1:= .slice none 0 0) (v2:= .int .i64 9) rfl rfl rfl ?_)))
  exact ⟨.slice none 0 0,rfl,H.pick [1] (by decide)⟩
 have c:=zT j c
 refine (yA (zA (y _ _ ?_)))
 refine zC fun Y I=>zB ?_
 refine zJ v1<| zJ (.int .i64 d) ?_
 obtain ⟨Z,J,c⟩:=zF c
 refine yG rfl rfl (yC en77 rfl) (Faiw h d v1 _ J _ _ _ (H.enter [] [0] (by decide) rfl)) ?_
 rintro _ aa ⟨k,rfl,K⟩
 have H:=H.back1 [0] rfl K
 refine ⟨_,rfl,?_⟩
 refine zK k<| zK (.int .i64 0)<| (zG (zA (I _ _ ?_)))
 obtain rfl:=someI c
 refine (zY (post2 (v1:=k) (v2:= .int .i64 0) rfl rfl rfl ?_))
 exact ⟨k,rfl,H.pick [1] (by decide)⟩
set_option maxRecDepth 100000 in
theorem Fa0w (d:EventWatch)(q:List ToldT)(k:Nat)(v2:Value)(h:Value)(n:List Nat)(j:Value)(o:List Nat)(f:Value)(l:Value)(r:(List Int)×Int×EventWatch)(c:Fa0 d q=some r)(O S:List Nat)(w:World)(H:Hd O w w S [.tr rowEM [h] n d.moves,.tr rowNd [j] o d.rules,.blk k [v2,.int .i64 d.tracks,h,j,f] 146,.fz (.sl Rp.str v2 d.phases),.fz (.sl Rp.bool f d.possible),.fz (.sl rToldT l q)]):
  Calls Tryz.prog 25 ([ptr0 k,l]:List Value).toArray w fun e w'=> ∃I J K Y L Z M,e= .returned (.tuple #[I,.int .i64 r.2.1])∧Hd O w w' S [.own (Rp.int .i64) I 3 r.1,.fz (.sl Rp.str J r.2.2.phases),.tr rowEM [K] Y r.2.2.moves,.tr rowNd [L] Z r.2.2.rules,.fz (.sl Rp.bool M r.2.2.possible),.blk k [J,.int .i64 r.2.2.tracks,K,L,M] 146]:=by
 unfold Fa0 at c
 refine zW 39 Tryz.func25 rfl rfl rfl ?_
 refine zC fun bq aa=>zB ?_
 refine zK (.slice none 0 0)<| zK (.int .i64 0)<| (zG (zA (aa _ _ ?_)))
 refine zC fun br ab=>?_
 refine zC fun bt ac=>zB ?_
 refine zJ l ?_
 obtain ⟨ad,ae,c⟩:=zD c
 obtain ⟨bu,bv,af⟩:=SlF.len ((H.item (i:=5) rfl))
 refine zH (yS (xP u55 af) (congrArg (Value.int .i64) ae))<| zJ (ptr0 k)<| zH (yB rfl)<| zH (fa146_1 rfl)<| zH (zN one3 rfl (Cells.get (Blk.cells (H.item (i:=2) rfl)) (i:=1) rfl)) ?_
 obtain ⟨ag,ah,c⟩:=zD c
 refine zH (zQ (wH (a:=ad) (b:=d.tracks) rfl rfl) ah)<| (zG (zA (ac _ _ ?_)))
 refine zZ (b:=ag) rfl (fun u=>?_) (fun u=>?_)
 ·have c:=zS u c
  refine zC fun bw ai=>zB ?_
  refine zK (.slice none 0 0)<| zK (.int .i64 2)<| (zG (zA (ai _ _ ?_)))
  have H:=own_nil H (Rp.int .i64) 3
  obtain rfl:=someI c
  refine (zY (zV (post2 (v1:= .slice none 0 0) (v2:= .int .i64 2) rfl rfl rfl ?_)))
  exact ⟨.slice none 0 0,v2,h,n,j,o,f,rfl,H.pick [6,3,0,1,4,2] (by decide)⟩
 have c:=zT u c
 refine (yA (zA (ab _ _ ?_)))
 obtain ⟨aj,ak,c⟩:=xZ c
 refine yK [4,5,7,15,16,17,18,19,20,21,22,23,24,25,26,27,28,29,30,31,32,33,34,35] (fun (g:Unit)=>[]) (fun g wl=>Hd O w wl S [.tr rowEM [h] n d.moves,.tr rowNd [j] o d.rules,.blk k [v2,.int .i64 d.tracks,h,j,f] 146,.fz (.sl Rp.str v2 d.phases),.fz (.sl Rp.bool f d.possible),.fz (.sl rToldT l q)]∧aj ()=some r) ?_ ?_
 ·skip
  refine zC fun bx al=>zB ?_
  refine zJ l ?_
  obtain ⟨am,an,c⟩:=zD c
  obtain ⟨bz,b0,ao⟩:=SlF.len ((H.item (i:=5) rfl))
  refine zH (yS (xP u55 ao) (congrArg (Value.int .i64) an))<| zJ (.int .i64 0)<| (zG (zA (al _ _ ?_)))
  refine yH ?_
  unfold Few at c
  obtain ⟨ap,P,aq,c⟩:=yX c
  refine xI [4,5,7,17,18,19,20,21,22,23,24,25,26,27,28,29,30,31,32,33,34,35] (fun (g:Nat×Int)=>[(17,.int .i64 g.2)]) (fun g wl=>Hd O w wl S [.tr rowEM [h] n d.moves,.tr rowNd [j] o d.rules,.blk k [v2,.int .i64 d.tracks,h,j,f] 146,.fz (.sl Rp.str v2 d.phases),.fz (.sl Rp.bool f d.possible),.fz (.sl rToldT l q)]∧loopN ap g.1 g.2=some r) (fun g=>g.1) (P,0) (zL rfl zM) ⟨H.pick [0,1,2,3,4,5] (by decide),c⟩ ?_
  clear H c
  rintro ⟨P,x⟩ ρ b1 ⟨H,c⟩
  obtain ⟨ar,rfl,c⟩:=xC c
  have c:=xB aq c
  refine zC fun b2 au=>zB ?_
  obtain ⟨av,aw,c⟩:=zD c
  refine zH (zQ (xR (a:=x) (b:=am) rfl rfl) aw)<| (zG (zA (au _ _ ?_)))
  refine zC fun b3 ax=>?_
  refine zZ (b:=av) rfl (fun y=>?_) (fun y=>?_)
  ·have c:=zS y c
   refine (yA (zA (ax _ _ ?_)))
   refine zC fun b4 ay=>?_
   refine yH ?_
   refine zC fun b5 az=>zB ?_
   obtain ⟨m,z,c⟩:=zF c
   obtain ⟨a0,a1,b6,b7,a2,a3,a4,a5,a6⟩:=rd_at (H.item (i:=5) rfl) z
   obtain rfl:=rToldT_open a3
   have H:=H.fz (.at a0 (a1+x.toNat * 2) _) ⟨a4,a5,a6⟩
   refine zH (xE u55 sz148 a2 rfl (yE z).1 (yE z).2.1 rfl rfl)<| zH (yS (yR (cs:=[.int .i64 m.N,.bool m.Known]) agg148 rfl sz148 rfl (H.item (i:=6) rfl).2.2) rfl)<| yY rfl rfl (xQ zero148 H) ?_
   rintro _ b8 ⟨a7,rfl,H⟩
   refine xG rfl (xH (vs:=[.int .i64 m.N,.bool m.Known]) H 7 rfl sz148 rfl rfl rfl ⟨rfl,rfl,trivial⟩ rfl) ?_
   rintro b9 H
   refine (zG (zA (az _ _ ?_)))
   refine yH ?_
   obtain ⟨Q,c,a8⟩:=zF c
   refine yK [21,22,23,24,25,26,27,28,29] (fun (g:Unit)=>[(21,.bool Q)]) (fun g wl=>Hd O w wl S [.tr rowEM [h] n d.moves,.tr rowNd [j] o d.rules,.blk k [v2,.int .i64 d.tracks,h,j,f] 146,.fz (.sl Rp.str v2 d.phases),.fz (.sl Rp.bool f d.possible),.fz (.sl rToldT l q),.blk a7 [.int .i64 m.N,.bool m.Known] 148]) ?_ ?_
   ·skip
    refine zB ?_
    refine zH (fa148_1 rfl)<| zH (zN one4 rfl (Cells.get (Blk.cells (H.item (i:=7) rfl)) (i:=1) rfl)) ?_
    obtain ⟨a9,ba,c⟩:=zD c
    refine zH (zQ (wI (p:=m.Known) rfl) ba)<| yN (b:=a9) rfl rfl rfl (fun A=>?_) (fun A=>?_)
    ·have c:=zS A c
     refine zH (fa148_0 rfl)<| zH (zN one3 rfl (Cells.get (Blk.cells (H.item (i:=7) rfl)) (i:=0) rfl)) ?_
     obtain ⟨R,bb,c⟩:=zD c
     refine zH (zQ (wH (a:=m.N) (b:=0) rfl rfl) bb)<| zH (yL (v:= .bool R) rfl rfl)<| zK (.bool R) ?_
     obtain rfl:=someI c
     exact (zG (zA (meet ⟨(),(zL rfl zM),H.pick [0,1,2,3,4,5,7] (by decide)⟩)))
    have c:=zT A c
    refine yI ?_
    refine yI ?_
    refine yI ?_
    refine zH (yJ (v:= .bool false) rfl rfl)<| zK (.bool false) ?_
    obtain rfl:=someI c
    exact (zG (zA (meet ⟨(),(zL rfl zM),H.pick [0,1,2,3,4,5,7] (by decide)⟩)))
   rintro _ ρ ca H
   have c:=a8
   refine zZ (b:=Q) rfl (fun B=>?_) (fun B=>?_)
   ·have c:=zS B c
    refine zC fun cb bc=>zB ?_
    refine zK (.slice none 0 0)<| zK (.int .i64 2)<| (zG (zA (bc _ _ ?_)))
    have H:=own_nil H (Rp.int .i64) 3
    obtain rfl:=someI c
    refine (zY (yF (yF (zV (zV (yF (zV (post2 (v1:= .slice none 0 0) (v2:= .int .i64 2) rfl rfl rfl ?_))))))))
    exact ⟨.slice none 0 0,v2,h,n,j,o,f,rfl,H.pick [7,3,0,1,4,2] (by decide)⟩
   have c:=zT B c
   refine zC fun cc bd=>zB ?_
   refine zH (fa148_0 rfl)<| zH (zN one3 rfl (Cells.get (Blk.cells (H.item (i:=6) rfl)) (i:=0) rfl)) ?_
   have be:=H
   obtain ⟨bf,bg,c⟩:=zF c
   refine yG rfl rfl (yC en76 rfl) (Faew m.N (-1125899906842624) 1125899906842624 _ bg _ _ _ (H.enter [] [] (by decide) rfl)) ?_
   rintro _ cd ⟨rfl,bh⟩
   have H:=be.step (bh.only:Only [] _ _)
   refine ⟨_,rfl,?_⟩
   obtain ⟨T,bi,c⟩:=zD c
   refine zH (zQ (wI (p:=bf) rfl) bi)<| zK (.bool T)<| (zG (zA (bd _ _ ?_)))
   refine zZ (b:=T) rfl (fun C=>?_) (fun C=>?_)
   ·have c:=zS C c
    refine zC fun ce bj=>zB ?_
    refine zK (.slice none 0 0)<| zK (.int .i64 9)<| (zG (zA (bj _ _ ?_)))
    have H:=own_nil H (Rp.int .i64) 3
    obtain rfl:=someI c
    refine (zY (yF (yF (zV (zV (yF (zV (post2 (v1:= .slice none 0 0) (v2:= .int .i64 9) rfl rfl rfl ?_))))))))
    exact ⟨.slice none 0 0,v2,h,n,j,o,f,rfl,H.pick [7,3,0,1,4,2] (by decide)⟩
   have c:=zT C c
   refine (yA (yP (yP (zA (ay _ _ ?_)))))
   refine zB ?_
   obtain ⟨U,bk,c⟩:=zD c
   refine zH (xM (a:=x) (b:=1) rfl rfl bk)<| zJ (.int .i64 U) ?_
   exact (zG (zA (meet ⟨(ar,U),(zL rfl zM),⟨H.pick [0,1,2,3,4,5] (by decide),c⟩,Nat.lt_succ_self _⟩)))
  have c:=zT y c
  exact (xO (yQ (yQ (yZ (zA (meet ⟨(),zM,⟨H.pick [0,1,2,3,4,5] (by decide),c⟩⟩))))))
 rintro _ ρ cf ⟨H,c⟩
 have c:=wJ ak c
 refine zC fun cg bl=>zB ?_
 refine zJ (ptr0 k)<| zJ l ?_
 obtain ⟨⟨bm,s⟩,bn,c⟩:=zF c
 refine yG rfl rfl (yC en78 rfl) (Fafw (EventWatch.mk d.phases d.tracks d.moves d.rules d.possible) q k v2 h n j o f l _ bn _ _ _ (H.enter [0,1,2] [3,4,5] (by decide) rfl)) ?_
 rintro _ bo ⟨t,D,E,V,F,X,G,rfl,bp⟩
 have H:Hd _ _ bo _ [.fz (.sl Rp.str v2 d.phases),.fz (.sl Rp.bool f d.possible),.fz (.sl rToldT l q),.own (Rp.int .i64) t 3 bm,.fz (.sl Rp.str D s.phases),.tr rowEM [E] V s.moves,.tr rowNd [F] X s.rules,.fz (.sl Rp.bool G s.possible),.blk k [D,.int .i64 s.tracks,E,F,G] 146]:=H.back [0,1,2] [3,4,5] rfl bp
 refine ⟨_,rfl,?_⟩
 refine zK t<| zK (.int .i64 0)<| (zG (zA (bl _ _ ?_)))
 obtain rfl:=someI c
 refine (zY (post2 (v1:=t) (v2:= .int .i64 0) rfl rfl rfl ?_))
 exact ⟨t,D,E,V,F,X,G,rfl,H.pick [3,4,5,6,7,8] (by decide)⟩
theorem Fb6w (n:List Int)(d:Int)(h:Int)(v1:Value)(r:(List Int))(c:Fb6 n d h=some r)(O S:List Nat)(w:World)(H:Hd O w w S [.own (Rp.int .u8) v1 5 n,.fz (.at 3 0 ((Fl.arr 20 (Fl.int .u64)).f zO))]):
  Calls Tryz.prog 166 ([v1,.int .i64 d,.int .i64 h]:List Value).toArray w fun e w'=> ∃u4,e= .returned (u4)∧Hd O w w' S [.own (Rp.int .u8) u4 5 r]:=by
 unfold Fb6 at c
 refine zW 21 Tryz.func166 rfl rfl rfl ?_
 refine zC fun N s=>zB ?_
 refine zK (.slice none 0 0)<| (zG (zA (s _ _ ?_)))
 refine zC fun P t=>zB ?_
 refine zJ (.int .i64 d) ?_
 obtain ⟨k,u,c⟩:=zD c
 refine zH (Do_conv u2 u297 rfl u)<| zK (.int .u64 k)<| (zG (zA (t _ _ ?_)))
 obtain ⟨l,c,v⟩:=zF c
 refine yK [0,7,10,11,12,13,14,15,16] (fun (g:Value)=>[(0,g),(7,.int .u64 l.2)]) (fun g wl=>Hd O w wl S [.own (Rp.int .u8) g 5 l.1,.fz (.at 3 0 ((Fl.arr 20 (Fl.int .u64)).f zO))]) ?_ ?_
 ·skip
  refine zC fun Q x=>zB ?_
  refine zJ (.int .i64 d) ?_
  obtain ⟨y,z,c⟩:=zD c
  refine zH (zQ (xR (a:=d) (b:=0) rfl rfl) z)<| (zG (zA (x _ _ ?_)))
  refine zZ (b:=y) rfl (fun m=>?_) (fun m=>?_)
  ·have c:=zS m c
   refine zC fun R A=>zB ?_
   refine zJ v1 ?_
   obtain ⟨T,B,c⟩:=zD c
   subst B
   refine yY rfl rfl (Lx_bs (r:=(Rp.int .u8)) (xl:=[45]) (cs:=[.int .u8 45]) u61 el5 (by decide) (by decide) rfl (wC (vs:=[.int .u8 45]) (by decide) rfl rfl ⟨rfl,trivial⟩ rfl) H ⟨[.int .u8 45],[],rfl,rfl,rfl⟩) ?_
   rintro U V H
   obtain ⟨X,C,c⟩:=zF c
   refine yY rfl rfl (Lx_app H (i:=0) rfl u61 el5 rfl rfl (Sr.of_own (H.item (i:=2) rfl)) C) ?_
   rintro o Y H
   refine zK o<| (zG (zA (A _ _ ?_)))
   refine zB ?_
   refine zJ (.int .u64 k) ?_
   obtain ⟨D,F,c⟩:=zD c
   refine zH (Do_neg (a:=k) rfl F)<| zK (.int .u64 D) ?_
   obtain rfl:=someI c
   exact (zG (zA (meet ⟨o,(zL rfl (zL rfl zM)),H.pick [0,1] (by decide)⟩)))
  have c:=zT m c
  obtain rfl:=someI c
  exact (yA (zA (meet ⟨v1,(zL rfl (zL rfl zM)),H.pick [0,1] (by decide)⟩)))
 rintro p ρ Z H
 have c:=v
 obtain ⟨G,q⟩:=l
 refine zC fun aa I=>zB ?_
 refine zJ p<| zJ (.int .u64 q)<| zJ (.int .i64 h) ?_
 obtain ⟨J,K,c⟩:=zF c
 refine yG rfl rfl (yC en208 rfl) (E.Fbvw G q h p _ K _ _ _ (H.enter [0] [1] (by decide) rfl)) ?_
 rintro _ L ⟨j,rfl,M⟩
 have H:Hd _ _ L _ [.fz (.at 3 0 ((Fl.arr 20 (Fl.int .u64)).f zO)),.own (Rp.int .u8) j 5 J]:=H.back [0] [1] rfl M
 refine ⟨_,rfl,?_⟩
 refine zK j<| (zG (zA (I _ _ ?_)))
 obtain rfl:=someI c
 refine (zY (post1 (v1:=j) rfl rfl ?_))
 exact ⟨j,rfl,H.pick [1] (by decide)⟩
theorem Fcww (h:List Int)(a:Int)(b:Int)(v1:Value)(r:(List Int))(c:Fcw h a b=some r)(O S:List Nat)(w:World)(H:Hd O w w S [.own (Rp.int .u8) v1 5 h,.fz (.at 3 0 ((Fl.arr 20 (Fl.int .u64)).f zO))]):
  Calls Tryz.prog 112 ([v1,.int .i64 a,.int .i64 b]:List Value).toArray w fun e w'=> ∃u4,e= .returned (u4)∧Hd O w w' S [.own (Rp.int .u8) u4 5 r]:=by
 unfold Fcw at c
 refine zW 11 Tryz.func112 rfl rfl rfl ?_
 refine zC fun o i=>zB ?_
 refine zK (.slice none 0 0)<| (zG (zA (i _ _ ?_)))
 refine zC fun p j=>zB ?_
 refine zJ v1<| zJ (.int .i64 a)<| zJ (.int .i64 b) ?_
 obtain ⟨k,l,c⟩:=zF c
 refine yG rfl rfl (yC en166 rfl) (Fb6w h a b v1 _ l _ _ _ (H.enter [0] [1] (by decide) rfl)) ?_
 rintro _ m ⟨d,rfl,n⟩
 have H:Hd _ _ m _ [.fz (.at 3 0 ((Fl.arr 20 (Fl.int .u64)).f zO)),.own (Rp.int .u8) d 5 k]:=H.back [0] [1] rfl n
 refine ⟨_,rfl,?_⟩
 refine zK d<| (zG (zA (j _ _ ?_)))
 obtain rfl:=someI c
 refine (zY (post1 (v1:=d) rfl rfl ?_))
 exact ⟨d,rfl,H.pick [1] (by decide)⟩
theorem Fbdw (h:Orangeboxref0Ink)(c:Int)(a:Nat)(d:Value)(r:Orangeboxref0Ink)(b:Fbd h c=some r)(O S:List Nat)(w:World)(H:Hd O w w S [.own (Rp.int .u8) d 5 h.out,.blk a [d] 63,.fz (.at 3 0 ((Fl.arr 20 (Fl.int .u64)).f zO))]):
  Calls Tryz.prog 47 ([ptr0 a,.int .i64 c]:List Value).toArray w fun e w'=> ∃j,e= .returned (.tuple #[])∧Hd O w w' S [.own (Rp.int .u8) j 5 r.out,.blk a [j] 63]:=by
 unfold Fbd at b
 refine zW 22 Tryz.func47 rfl rfl rfl ?_
 refine zC fun u m=>zB ?_
 refine zJ (ptr0 a)<| zJ (ptr0 a)<| zH (yB rfl)<| zH (fa63_0 rfl)<| zH (zN one61 rfl (Cells.get (Blk.cells (H.item (i:=1) rfl)) (i:=0) rfl))<| zJ (.int .i64 c) ?_
 obtain ⟨n,o,b⟩:=zF b
 refine yG rfl rfl (yC en112 rfl) (Fcww h.out c 10 d _ o _ _ _ (H.enter [0] [2] (by decide) rfl)) ?_
 rintro _ p ⟨k,rfl,q⟩
 have H:Hd _ _ p _ [.blk a [d] 63,.fz (.at 3 0 ((Fl.arr 20 (Fl.int .u64)).f zO)),.own (Rp.int .u8) k 5 n]:=H.back [0] [2] rfl q
 refine ⟨_,rfl,?_⟩
 refine zH (yB rfl)<| zH (fa63_0 rfl)<| xG rfl (wE H 0 rfl sz61 rfl (v:=k) rfl (own_one (H.item (i:=2) rfl)) rfl) ?_
 rintro x H
 refine (zG (zA (m _ _ ?_)))
 refine zB ?_
 refine zJ (ptr0 a)<| zJ (ptr0 a)<| zH (yB rfl)<| zH (fa63_0 rfl)<| zH (zN one61 rfl (Cells.get (Blk.cells (H.item (i:=0) rfl)) (i:=0) rfl)) ?_
 obtain ⟨y,s,b⟩:=zD b
 subst s
 refine yY rfl rfl (Lx_bs (r:=(Rp.int .u8)) (xl:=[32]) (cs:=[.int .u8 32]) u61 el5 (by decide) (by decide) rfl (wC (vs:=[.int .u8 32]) (by decide) rfl rfl ⟨rfl,trivial⟩ rfl) H ⟨[.int .u8 32],[],rfl,rfl,rfl⟩) ?_
 rintro z A H
 obtain ⟨B,t,b⟩:=zF b
 refine yY rfl rfl (Lx_app H (i:=2) rfl u61 el5 rfl rfl (Sr.of_own (H.item (i:=3) rfl)) t) ?_
 rintro l C H
 refine zH (yB rfl)<| zH (fa63_0 rfl)<| xG rfl (wE H 0 rfl sz61 rfl (v:=l) rfl (own_one (H.item (i:=2) rfl)) rfl) ?_
 rintro D H
 obtain rfl:=someI b
 refine (zG (post0n rfl ?_))
 exact ⟨l,rfl,H.pick [2,0] (by decide)⟩
theorem Fcaw (d:Orangeboxref0Ink)(c:Str)(a:Nat)(h:Value)(r:Orangeboxref0Ink)(b:Fca d c=some r)(O S:List Nat)(w:World)(H:Hd O w w S [.own (Rp.int .u8) h 5 d.out,.blk a [h] 63,.fz (.at 3 0 ((Fl.arr 20 (Fl.int .u64)).f zO))]):
  Calls Tryz.prog 79 ([ptr0 a,.string (bs c)]:List Value).toArray w fun e w'=> ∃j,e= .returned (.tuple #[])∧Hd O w w' S [.own (Rp.int .u8) j 5 r.out,.blk a [j] 63]:=by
 unfold Fca at b
 refine zW 17 Tryz.func79 rfl rfl rfl ?_
 refine zC fun x m=>zB ?_
 refine zJ (ptr0 a)<| zJ (.string (bs c)) ?_
 obtain ⟨n,o,b⟩:=zD b
 refine zH (yS (Do_slen (s1:=c) u9 rfl) (congrArg (Value.int .i64) o)) ?_
 obtain ⟨p,q,b⟩:=zF b
 refine yG rfl rfl (yC en47 rfl) (Fbdw (Orangeboxref0Ink.mk d.out) n a h _ q _ _ _ (H.enter [0,1] [2] (by decide) rfl)) ?_
 rintro _ s ⟨k,rfl,t⟩
 have H:Hd _ _ s _ [.fz (.at 3 0 ((Fl.arr 20 (Fl.int .u64)).f zO)),.own (Rp.int .u8) k 5 p.out,.blk a [k] 63]:=H.back [0,1] [2] rfl t
 refine ⟨_,rfl,?_⟩
 refine (zG (zA (m _ _ ?_)))
 refine zB ?_
 refine zJ (ptr0 a)<| zJ (ptr0 a)<| zH (yB rfl)<| zH (fa63_0 rfl)<| zH (zN one61 rfl (Cells.get (Blk.cells (H.item (i:=2) rfl)) (i:=0) rfl))<| zJ (.string (bs c)) ?_
 obtain ⟨y,u,b⟩:=zF b
 refine yY rfl rfl (Lx_appstr H (i:=1) rfl u61 u9 z8_5 rfl rfl u) ?_
 rintro l z H
 refine zH (yB rfl)<| zH (fa63_0 rfl)<| xG rfl (wE H 2 rfl sz61 rfl (v:=l) rfl (own_one (H.item (i:=1) rfl)) rfl) ?_
 rintro A H
 obtain rfl:=someI b
 refine (zG (post0n rfl ?_))
 exact ⟨l,rfl,H.pick [1,2] (by decide)⟩
theorem Faww (l:Orangeboxref0Ink)(k:List Str)(d:Nat)(m:Value)(h:Value)(r:Orangeboxref0Ink)(c:Faw l k=some r)(O S:List Nat)(w:World)(H:Hd O w w S [.own (Rp.int .u8) m 5 l.out,.blk d [m] 63,.fz (.sl Rp.str h k),.fz (.at 3 0 ((Fl.arr 20 (Fl.int .u64)).f zO))]):
  Calls Tryz.prog 26 ([ptr0 d,h]:List Value).toArray w fun e w'=> ∃u8,e= .returned (.tuple #[])∧Hd O w w' S [.own (Rp.int .u8) u8 5 r.out,.blk d [u8] 63]:=by
 unfold Faw at c
 refine zW 21 Tryz.func26 rfl rfl rfl ?_
 refine zC fun K9 B=>zB ?_
 refine zJ (ptr0 d)<| zJ h ?_
 obtain ⟨C,D,c⟩:=zD c
 obtain ⟨ak,al,E⟩:=SlF.len ((H.item (i:=2) rfl))
 refine zH (yS (xP u22 E) (congrArg (Value.int .i64) D)) ?_
 obtain ⟨t,F,c⟩:=zF c
 refine yG rfl rfl (yC en47 rfl) (Fbdw (Orangeboxref0Ink.mk l.out) C d m _ F _ _ _ (H.enter [0,1] [3] (by decide) rfl)) ?_
 rintro _ G ⟨n,rfl,I⟩
 have H:Hd _ _ G _ [.fz (.sl Rp.str h k),.fz (.at 3 0 ((Fl.arr 20 (Fl.int .u64)).f zO)),.own (Rp.int .u8) n 5 t.out,.blk d [n] 63]:=H.back [0,1] [3] rfl I
 refine ⟨_,rfl,?_⟩
 refine (zG (zA (B _ _ ?_)))
 refine zC fun am J=>zB ?_
 refine zK (.int .i64 0)<| (zG (zA (J _ _ ?_)))
 refine yH ?_
 unfold Fel at c
 obtain ⟨K,u,L,c⟩:=yX c
 refine xI [4,9,10,11,12,13,14,15,16,17,18,19,20] (fun (g:Nat×Int×(List Int)×Value)=>[(4,.int .i64 g.2.1)]) (fun g wl=>Hd O w wl S [.fz (.sl Rp.str h k),.fz (.at 3 0 ((Fl.arr 20 (Fl.int .u64)).f zO)),.blk d [g.2.2.2] 63,.own (Rp.int .u8) g.2.2.2 5 g.2.2.1]∧loopN K g.1 (g.2.1,g.2.2.1)=some r) (fun g=>g.1) (u,0,t.out,n) (zL rfl zM) ⟨H.pick [0,1,3,2] (by decide),c⟩ ?_
 clear H c
 rintro ⟨u,j,M,v⟩ ρ an ⟨H,c⟩
 obtain ⟨N,rfl,c⟩:=xC c
 have c:=xB L c
 refine zC fun ao P=>?_
 refine zC fun ap Q=>zB ?_
 refine zJ (.int .i64 j)<| zJ h ?_
 obtain ⟨R,T,c⟩:=zD c
 obtain ⟨aq,ar,U⟩:=SlF.len ((H.item (i:=0) rfl))
 refine zH (yS (xP u22 U) (congrArg (Value.int .i64) T)) ?_
 obtain ⟨V,X,c⟩:=zD c
 refine zH (zQ (xR (a:=j) (b:=R) rfl rfl) X)<| (zG (zA (Q _ _ ?_)))
 refine zZ (b:=V) rfl (fun o=>?_) (fun o=>?_)
 ·have c:=zS o c
  refine (yA (zA (P _ _ ?_)))
  refine zC fun au Y=>?_
  refine yH ?_
  refine zB ?_
  refine zJ (ptr0 d)<| zJ h<| zJ (.int .i64 j) ?_
  obtain ⟨p,q,c⟩:=zF c
  obtain ⟨x,y,av,Z,aa,ab,ac,ad,ae⟩:=rd_at (H.item (i:=0) rfl) q
  obtain rfl:Z= [.string (bs p)]:=ab
  have H:=H.fz (.at x (y+j.toNat * 1) _) ⟨ac,ad,ae⟩
  refine zH (xE u22 sz9 aa rfl (yE q).1 (yE q).2.1 rfl rfl)<| zH (zN one9 rfl (Cells.get (H.item (i:=4) rfl).2.2 (i:=0) rfl)) ?_
  obtain ⟨z,af,c⟩:=zF c
  refine yG rfl rfl (yC en79 rfl) (Fcaw (Orangeboxref0Ink.mk M) p d v _ af _ _ _ (H.enter [3,2] [1] (by decide) rfl)) ?_
  rintro _ ag ⟨s,rfl,ah⟩
  have H:Hd _ _ ag _ [.fz (.sl Rp.str h k),.fz (.at 3 0 ((Fl.arr 20 (Fl.int .u64)).f zO)),.fz (.at x (y+j.toNat * 1) [.string (bs p)]),.own (Rp.int .u8) s 5 z.out,.blk d [s] 63]:=H.back [3,2] [1] rfl ah
  refine ⟨_,rfl,?_⟩
  refine (zG (yP (zA (Y _ _ ?_))))
  refine zB ?_
  refine zJ (.int .i64 j) ?_
  obtain ⟨A,ai,c⟩:=zD c
  refine zH (xM (a:=j) (b:=1) rfl rfl ai)<| zK (.int .i64 A) ?_
  exact (zG (zA (meet ⟨(N,A,z.out,s),(zL rfl zM),⟨H.pick [0,1,4,3] (by decide),c⟩,Nat.lt_succ_self _⟩)))
 have c:=zT o c
 obtain rfl:=someI c
 refine (xO (yQ (yQ (yZ (post0n rfl ?_)))))
 exact ⟨v,rfl,H.pick [3,2] (by decide)⟩
theorem Fcpw (b:Option Orangeboxref0Ink)(v1:Option Addr)(r:Str)(a:Fcp b=some r)(O S:List Nat)(w:World)(H:Hd O w w S [.fz (.pt rOrangeboxref0Ink v1 b)]):
  Calls Tryz.prog 28 ([.pointer v1]:List Value).toArray w fun e w'=>e= .returned (.string (bs r))∧Hd O w w' S []:=by
 unfold Fcp at a
 refine zW 8 Tryz.func28 rfl rfl rfl ?_
 refine zC fun x j=>zB ?_
 refine zK (.string (bs []))<| (zG (zA (j _ _ ?_)))
 refine zC fun y k=>zB ?_
 refine zJ (.pointer v1) ?_
 obtain ⟨c,l,a⟩:=zF a
 obtain ⟨d,f,z,m,n,o,p,q⟩:=ptf_some ((H.item (i:=0) rfl):PtF _ _ _ _ _) l
 obtain ⟨t,rfl,u⟩:=rOrangeboxref0Ink_open p
 have H:=H.fzs [.at d f _,.sl (Rp.int .u8) t c.out] ⟨⟨n,o,q⟩,u,trivial⟩
 refine zH (yB (ad:=⟨d,f,none⟩) (congrArg Value.pointer m))<| zH (fa63_0 rfl)<| zH (zN one61 rfl (Cells.get (H.item (i:=1) rfl).2.2 (i:=0) rfl)) ?_
 obtain ⟨h,v,a⟩:=zD a
 refine zH (yS (Do_bytestr (xl:=c.out) u61 u5 u9 rfl (Sr.of_rd (H.item (i:=2) rfl))) (congrArg (fun s=>Value.string (bs s)) v))<| zK (.string (bs h))<| (zG (zA (k _ _ ?_)))
 obtain rfl:=someI a
 refine (zY (post1 (v1:= .string (bs h)) rfl rfl ?_))
 exact ⟨rfl,H.pick [] (by decide)⟩
end Go.Proofs.YtckmiljbaejijaaGreatDoor.L
