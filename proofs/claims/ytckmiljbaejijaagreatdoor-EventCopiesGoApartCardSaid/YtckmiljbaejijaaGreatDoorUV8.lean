/- Walks: what each function computes, for every argument; no condition but those that stand in the statements. -/
import Derived.Test.YtckmiljbaejijaaGreatDoorUV0
import Derived.Test.YtckmiljbaejijaaGreatDoorUV7
namespace Go.Proofs.YtckmiljbaejijaaGreatDoor.L
open Go.RowKit Go.OB Go.Lf
set_option maxHeartbeats 4000000
set_option maxRecDepth 100000 in
theorem Facw (d:gW)(q:List eH)(k:Nat)(v2:Value)(h:Value)(n:List Nat)(j:Value)(o:List Nat)(f:Value)(l:Value)(r:(List Int)×Int×gW)(c:Fac d q=some r)(O S:List Nat)(w:World)(H:Hd O w w S [.tr fJ [h] n d.moves,.tr fG [j] o d.rules,.blk k [v2,i6 d.tracks,h,j,f] 146,f1 Rp.str v2 d.phases,f1 Rp.bool f d.possible,f1 gV l q]):
  Cl 25 [gU k,l] w fun e Y=> ∃I J K Z L aa M,e= .returned (.tuple #[I,i6 r.2.1])∧Hd O w Y S [.own (Rp.int .i64) I 3 r.1,f1 Rp.str J r.2.2.phases,.tr fJ [K] Z r.2.2.moves,.tr fG [L] aa r.2.2.rules,f1 Rp.bool M r.2.2.possible,.blk k [J,i6 r.2.2.tracks,K,L,M] 146]:=by
 unfold Fac at c
 refine zS 39 Tryz.func25 rfl rfl rfl ?_
 refine zC fun br ab=>zA<| zK (.slice none 0 0)<| zK (i6 0)<| zF (zB (ab _ _ ?_))
 refine zC fun bt ac=>?_
 refine zC fun bu ad=>zA<| zI l ?_
 obtain ⟨ae,af,c⟩:=zG c
 obtain ⟨bv,bw,ag⟩:=SlF.len ((H.item (i:=5) rfl))
 refine zH (yJ (xN u55 ag) (congrArg (Value.int .i64) af))<| zI (gU k)<| zH (zN rfl)<| zH (fa146_1 rfl)<| Ld fU H 2 1 rfl rfl ?_
 obtain ⟨ah,ai,c⟩:=zG c
 refine zH (zQ (dH (a:=ae) (b:=d.tracks) rfl rfl) ai)<| zF (zB (ad _ _ ?_))
 refine yC (b:=ah) rfl (fun u=>?_) (fun u=>?_)
 ·have c:=zT u c
  refine zC fun bx aj=>zA<| zK (.slice none 0 0)<| zK (i6 2)<| zF (zB (aj _ _ ?_))
  have H:=dY H (Rp.int .i64) 3
  obtain rfl:=gI c
  refine (zY (zZ (post2 (v1:= .slice none 0 0) (v2:=i6 2) rfl rfl rfl ?_)))
  exact ⟨.slice none 0 0,v2,h,n,j,o,f,rfl,H.pick [6,3,0,1,4,2] (by decide)⟩
 have c:=zU u c
 refine yB (zB (ac _ _ ?_))
 obtain ⟨ak,al,c⟩:=wJ c
 refine yL [4,5,7,15,16,17,18,19,20,21,22,23,24,25,26,27,28,29,30,31,32,33,34,35] (fun (g:Unit)=>[]) (fun g wl=>Hd O w wl S [.tr fJ [h] n d.moves,.tr fG [j] o d.rules,.blk k [v2,i6 d.tracks,h,j,f] 146,f1 Rp.str v2 d.phases,f1 Rp.bool f d.possible,f1 gV l q]∧ak ()=some r) ?_ ?_
 ·skip
  refine zC fun bz am=>zA<| zI l ?_
  obtain ⟨an,ao,c⟩:=zG c
  obtain ⟨b0,b1,ap⟩:=SlF.len ((H.item (i:=5) rfl))
  refine zH (yJ (xN u55 ap) (congrArg (Value.int .i64) ao))<| zI (i6 0)<| zF (zB (am _ _ ?_))
  refine yF ?_
  unfold Ffn at c
  obtain ⟨aq,P,ar,c⟩:=yR c
  refine xG [4,5,7,17,18,19,20,21,22,23,24,25,26,27,28,29,30,31,32,33,34,35] (fun (g:Nat×Int)=>[(17,i6 g.2)]) (fun g wl=>Hd O w wl S [.tr fJ [h] n d.moves,.tr fG [j] o d.rules,.blk k [v2,i6 d.tracks,h,j,f] 146,f1 Rp.str v2 d.phases,f1 Rp.bool f d.possible,f1 gV l q]∧eF aq g.1 g.2=some r) (fun g=>g.1) (P,0) (zL rfl zO) ⟨H.pick [0,1,2,3,4,5] (by decide),c⟩ ?_
  clear H c
  rintro ⟨P,x⟩ ρ b2 ⟨H,c⟩
  obtain ⟨au,rfl,c⟩:=yX c
  have c:=yY ar c
  refine zC fun b3 av=>zA ?_
  obtain ⟨aw,ax,c⟩:=zG c
  refine zH (zQ (xR (a:=x) (b:=an) rfl rfl) ax)<| zF (zB (av _ _ ?_))
  refine zC fun b4 ay=>?_
  refine yC (b:=aw) rfl (fun y=>?_) (fun y=>?_)
  ·have c:=zT y c
   refine yB (zB (ay _ _ ?_))
   refine zC fun b5 az=>?_
   refine yF ?_
   refine zC fun b6 a0=>zA ?_
   obtain ⟨m,z,c⟩:=zD c
   obtain ⟨a1,a2,b7,b8,a3,a4,a5,a6,a7⟩:=dQ (H.item (i:=5) rfl) z
   obtain rfl:=kY a4
   have H:=H.fz (.at a1 (a2+x.toNat * 2) _) ⟨a5,a6,a7⟩
   refine zH (xJ u55 sz148 a3 rfl (yE z).1 (yE z).2.1 rfl rfl)<| zH (yJ (yM (cs:=[i6 m.N,.bool m.Known]) agg148 rfl sz148 rfl (H.item (i:=6) rfl).2.2) rfl)<| yP rfl rfl (xH zero148 H) ?_
   rintro _ b9 ⟨a8,rfl,H⟩
   refine yV rfl (yQ (vs:=[i6 m.N,.bool m.Known]) H 7 rfl sz148 rfl rfl rfl ⟨rfl,rfl,trivial⟩ rfl) ?_
   rintro ca H
   refine zF (zB (a0 _ _ ?_))
   refine yF ?_
   obtain ⟨Q,c,a9⟩:=zD c
   refine yL [21,22,23,24,25,26,27,28,29] (fun (g:Unit)=>[(21,.bool Q)]) (fun g wl=>Hd O w wl S [.tr fJ [h] n d.moves,.tr fG [j] o d.rules,.blk k [v2,i6 d.tracks,h,j,f] 146,f1 Rp.str v2 d.phases,f1 Rp.bool f d.possible,f1 gV l q,.blk a8 [i6 m.N,.bool m.Known] 148]) ?_ ?_
   ·skip
    refine zA ?_
    refine zH (fa148_1 rfl)<| Ld one4 H 7 1 rfl rfl ?_
    obtain ⟨ba,bb,c⟩:=zG c
    refine zH (zQ (wL (p:=m.Known) rfl) bb)<| yS (b:=ba) rfl rfl rfl (fun A=>?_) (fun A=>?_)
    ·have c:=zT A c
     refine zH (fa148_0 rfl)<| Ld fU H 7 0 rfl rfl ?_
     obtain ⟨R,bc,c⟩:=zG c
     refine zH (zQ (dH (a:=m.N) (b:=0) rfl rfl) bc)<| zH (yO (v:= .bool R) rfl rfl)<| zK (.bool R) ?_
     obtain rfl:=gI c
     exact (zF (zB (meet ⟨(),(zL rfl zO),H.pick [0,1,2,3,4,5,7] (by decide)⟩)))
    have c:=zU A c
    refine yI ?_
    refine yI ?_
    refine yI ?_
    refine zH (yN (v:= .bool false) rfl rfl)<| zK (.bool false) ?_
    obtain rfl:=gI c
    exact (zF (zB (meet ⟨(),(zL rfl zO),H.pick [0,1,2,3,4,5,7] (by decide)⟩)))
   rintro _ ρ cb H
   have c:=a9
   refine yC (b:=Q) rfl (fun B=>?_) (fun B=>?_)
   ·have c:=zT B c
    refine zC fun cc bd=>zA<| zK (.slice none 0 0)<| zK (i6 2)<| zF (zB (bd _ _ ?_))
    have H:=dY H (Rp.int .i64) 3
    obtain rfl:=gI c
    refine (zY (yG (yG (zZ (zZ (yG (zZ (post2 (v1:= .slice none 0 0) (v2:=i6 2) rfl rfl rfl ?_))))))))
    exact ⟨.slice none 0 0,v2,h,n,j,o,f,rfl,H.pick [7,3,0,1,4,2] (by decide)⟩
   have c:=zU B c
   refine zC fun cd be=>zA<| zH (fa148_0 rfl)<| Ld fU H 6 0 rfl rfl ?_
   have bf:=H
   obtain ⟨bg,bh,c⟩:=zD c
   refine yA rfl rfl (zV en76 rfl) (Faew m.N (-1125899906842624) 1125899906842624 _ bh _ _ _ (H.enter [] [] (by decide) rfl)) ?_
   rintro _ ce ⟨rfl,bi⟩
   have H:=bf.step (bi.only:Only [] _ _)
   refine ⟨_,rfl,?_⟩
   obtain ⟨T,bj,c⟩:=zG c
   refine zH (zQ (wL (p:=bg) rfl) bj)<| zK (.bool T)<| zF (zB (be _ _ ?_))
   refine yC (b:=T) rfl (fun C=>?_) (fun C=>?_)
   ·have c:=zT C c
    refine zC fun cf bk=>zA<| zK (.slice none 0 0)<| zK (i6 9)<| zF (zB (bk _ _ ?_))
    have H:=dY H (Rp.int .i64) 3
    obtain rfl:=gI c
    refine (zY (yG (yG (zZ (zZ (yG (zZ (post2 (v1:= .slice none 0 0) (v2:=i6 9) rfl rfl rfl ?_))))))))
    exact ⟨.slice none 0 0,v2,h,n,j,o,f,rfl,H.pick [7,3,0,1,4,2] (by decide)⟩
   have c:=zU C c
   refine (yB (yK (yK (zB (az _ _ ?_)))))
   refine zA ?_
   obtain ⟨U,bl,c⟩:=zG c
   refine zH (xQ (a:=x) (b:=1) rfl rfl bl)<| zI (i6 U) ?_
   exact (zF (zB (meet ⟨(au,U),(zL rfl zO),⟨H.pick [0,1,2,3,4,5] (by decide),c⟩,Nat.lt_succ_self _⟩)))
  have c:=zU y c
  exact (xK (yH (yH (yU (zB (meet ⟨(),zO,⟨H.pick [0,1,2,3,4,5] (by decide),c⟩⟩))))))
 rintro _ ρ cg ⟨H,c⟩
 have c:=dE al c
 refine zC fun ch bm=>zA<| zI (gU k)<| zI l ?_
 obtain ⟨⟨bn,s⟩,bo,c⟩:=zD c
 refine yA rfl rfl (zV en78 rfl) (Fa8w (gW.mk d.phases d.tracks d.moves d.rules d.possible) q k v2 h n j o f l _ bo _ _ _ (H.enter [0,1,2] [3,4,5] (by decide) rfl)) ?_
 rintro _ bp ⟨t,D,E,V,F,X,G,rfl,bq⟩
 have H:Hd _ _ bp _ [f1 Rp.str v2 d.phases,f1 Rp.bool f d.possible,f1 gV l q,.own (Rp.int .i64) t 3 bn,f1 Rp.str D s.phases,.tr fJ [E] V s.moves,.tr fG [F] X s.rules,f1 Rp.bool G s.possible,.blk k [D,i6 s.tracks,E,F,G] 146]:=H.back [0,1,2] [3,4,5] rfl bq
 refine ⟨_,rfl,?_⟩
 refine zK t<| zK (i6 0)<| zF (zB (bm _ _ ?_))
 obtain rfl:=gI c
 refine (zY (post2 (v1:=t) (v2:=i6 0) rfl rfl rfl ?_))
 exact ⟨t,D,E,V,F,X,G,rfl,H.pick [3,4,5,6,7,8] (by decide)⟩
theorem Ff1w (d:gB)(f:Nat)(h:Value)(i:Value)(j:Value)(r:gB)(c:Ff1 d=some r)(O S:List Nat)(w:World)(H:Hd O w w S [.own Rp.str h 9 d.r.Phases,.own fA i 122 d.r.Moves,.own fC j 95 d.r.Rules,.blk f [sb d.text,i6 d.at_,i6 d.now.kind,i6 d.now.at_,i6 d.now.n,sb d.now.text,h,i,j] 109]):
  Cl 174 [gU f] w fun e A=> ∃u9 s t,e= .returned (.tuple #[])∧Hd O w A S [.own Rp.str u9 9 r.r.Phases,.own fA s 122 r.r.Moves,.own fC t 95 r.r.Rules,.blk f [sb r.text,i6 r.at_,i6 r.now.kind,i6 r.now.at_,i6 r.now.n,sb r.now.text,u9,s,t] 109]:=by
 unfold Ff1 at c
 refine zS 66 Tryz.func174 rfl rfl rfl ?_
 refine yF ?_
 unfold Fgf at c
 obtain ⟨B,u,C,c⟩:=yR c
 refine xG [2,3,4,5,6,7,8,9,10,11,12,13,14,15,16,17,18,19,20,21,22,23,24,25,26,27,28,29,30,31,32,33,34,35,36,37,38,39,40,41,42,43,44,45,46,47,48,49,50,51,52,53,54,55,56,57,58,59,60,61,62,63,64,65] (fun (g:Nat×Int)=>[]) (fun g wl=>Hd O w wl S [.own Rp.str h 9 d.r.Phases,.own fA i 122 d.r.Moves,.own fC j 95 d.r.Rules,.blk f [sb d.text,i6 g.2,i6 d.now.kind,i6 d.now.at_,i6 d.now.n,sb d.now.text,h,i,j] 109]∧eF B g.1 g.2=some r) (fun g=>g.1) (u,d.at_) zO ⟨H.pick [0,1,2,3] (by decide),c⟩ ?_
 clear H c
 rintro ⟨u,l⟩ ρ ak ⟨H,c⟩
 obtain ⟨D,rfl,c⟩:=yX c
 have c:=yY C c
 refine zC fun al E=>?_
 refine zC fun am F=>?_
 have G:=H
 have H:=H.rebase
 have an:=H
 refine wB H [0,1,2,3,4,5,6,7,8,9] (kz [0,0,0,1,0,0,0,1,0,0]) mixed ?_
 refine XM (gU f)<| XP (fun _ _=>zN rfl)<| XP (fun _ _=>kP rfl)<| XR fU H 3 1 rfl rfl<| XM (gU f)<| XP (fun _ _=>zN rfl)<| XP (fun _ _=>fa109_0 rfl)<| XR bC H 3 0 rfl rfl ?_
 obtain ⟨I,J,c⟩:=zG c
 refine XP (fun _ _=>yJ (kD (s1:=d.text) u9 rfl) (congrArg (Value.int .i64) J)) ?_
 obtain ⟨K,L,c⟩:=zG c
 refine XP (fun _ _=>zQ (xR (a:=l) (b:=I) rfl rfl) L)<| MxM.xI fun ao hS=>?_
 have H:=H.sees hS
 have H:=G.rejoin H
 refine (zB (F _ _ ?_))
 refine yC (b:=K) rfl (fun m=>?_) (fun m=>?_)
 ·have c:=zT m c
  refine yB (zB (E _ _ ?_))
  refine yF ?_
  refine zC fun ap M=>?_
  have N:=H
  have H:=H.rebase
  have aq:=H
  refine wB H [0,1,2,3,4,5,6,7,8] (kz [0,0,0,1,0,0,0,1,0]) mixed ?_
  refine XM (gU f)<| XP (fun _ _=>zN rfl)<| XP (fun _ _=>fa109_0 rfl)<| XR bC H 3 0 rfl rfl<| XM (gU f)<| XP (fun _ _=>zN rfl)<| XP (fun _ _=>kP rfl)<| XR fU H 3 1 rfl rfl ?_
  obtain ⟨k,P,c⟩:=zD c
  refine XP (fun _ _=>Do_sidx (s1:=d.text) (q:=l) u9 rfl rfl P)<| MxM.xI fun ar hS=>?_
  have H:=H.sees hS
  have H:=N.rejoin H
  refine (zB (M _ _ ?_))
  refine yF ?_
  obtain ⟨x,c,Q⟩:=zD c
  refine yL [22,23,24,25,26] (fun (g:Unit)=>[(22,.bool x)]) (fun g wl=>Hd O w wl S [.own Rp.str h 9 d.r.Phases,.own fA i 122 d.r.Moves,.own fC j 95 d.r.Rules,.blk f [sb d.text,i6 l,i6 d.now.kind,i6 d.now.at_,i6 d.now.n,sb d.now.text,h,i,j] 109]) ?_ ?_
  ·skip
   refine zC fun au R=>zA ?_
   obtain ⟨y,T,c⟩:=zG c
   refine zH (zQ (yT (a:=k) (b:=32) rfl rfl) T)<| zK (.bool y)<| zF (zB (R _ _ ?_))
   refine yC (b:=y) rfl (fun o=>?_) (fun o=>?_)
   ·have c:=zT o c
    obtain rfl:=gI c
    exact (yB (zB (meet ⟨(),(zL rfl zO),H.pick [0,1,2,3] (by decide)⟩)))
   have c:=zU o c
   refine zC fun av U=>zA ?_
   obtain ⟨V,X,c⟩:=zG c
   refine zH (zQ (yT (a:=k) (b:=9) rfl rfl) X)<| zK (.bool V)<| zF (zB (U _ _ ?_))
   obtain ⟨Y,c⟩:=xZ c
   refine dD Y ?_
   refine zC fun aw Z=>zA ?_
   obtain ⟨aa,ab,c⟩:=zG c
   refine zH (zQ (yT (a:=k) (b:=10) rfl rfl) ab)<| zK (.bool aa)<| zF (zB (Z _ _ ?_))
   obtain ⟨ac,c⟩:=xZ c
   refine dD ac ?_
   refine zA ?_
   obtain ⟨ad,ae,c⟩:=zG c
   refine zH (zQ (yT (a:=k) (b:=13) rfl rfl) ae)<| zK (.bool ad) ?_
   obtain rfl:=gI c
   exact (zF (zB (meet ⟨(),(zL rfl zO),H.pick [0,1,2,3] (by decide)⟩)))
  rintro _ ρ ax H
  have c:=Q
  refine yC (b:=x) rfl (fun p=>?_) (fun p=>?_)
  ·have c:=zT p c
   refine zA ?_
   refine zI (gU f)<| zH (zN rfl)<| zH (kP rfl)<| Ld fU H 3 1 rfl rfl ?_
   obtain ⟨z,af,c⟩:=zG c
   refine zH (xQ (a:=l) (b:=1) rfl rfl af)<| zH (zN rfl)<| zH (kP rfl)<| yV rfl (xE H 3 rfl sz3 rfl (v:=i6 z) rfl rfl rfl) ?_
   rintro ay H
   exact (zF (yK (yK (zB (meet ⟨(D,z),zO,⟨H.pick [0,1,2,3] (by decide),c⟩,Nat.lt_succ_self _⟩)))))
  have c:=zU p c
  refine zC fun az ag=>zA ?_
  obtain ⟨ah,ai,c⟩:=zG c
  refine zH (zQ (yT (a:=k) (b:=35) rfl rfl) ai)<| zK (.bool ah)<| zF (zB (ag _ _ ?_))
  obtain ⟨aj,c⟩:=xZ c
  refine dD aj ?_
  obtain rfl:=gI c
  refine (zY (yG (yG (zZ (yG (post0 rfl ?_))))))
  exact ⟨h,i,j,rfl,H.pick [0,1,2,3] (by decide)⟩
 have c:=zU m c
 obtain rfl:=gI c
 refine (xK (yH (yH (yU (post0n rfl ?_)))))
 exact ⟨h,i,j,rfl,H.pick [0,1,2,3] (by decide)⟩
theorem Fdow (f:Str)(d:Str)(r:Bool)(c:Fdo f d=some r)(O S:List Nat)(w:World)(H:Hd O w w S []):
  Cl 215 [sb f,sb d] w fun e k=>e= .returned (.bool r)∧Hd O w k S []:=by
 unfold Fdo at c
 refine zS 18 Tryz.func215 rfl rfl rfl ?_
 refine zC fun A l=>zA<| zK (.bool false)<| zF (zB (l _ _ ?_))
 obtain ⟨i,c,m⟩:=zD c
 refine yL [4,5,6,7,8,9,10,11,12,13,14,15,16,17] (fun (g:Unit)=>[(4,.bool i)]) (fun g wl=>Hd O w wl S []) ?_ ?_
 ·skip
  refine zA ?_
  refine zI (sb f) ?_
  obtain ⟨n,o,c⟩:=zG c
  refine zH (yJ (kD (s1:=f) u9 rfl) (congrArg (Value.int .i64) o))<| zI (sb d) ?_
  obtain ⟨p,q,c⟩:=zG c
  refine zH (yJ (kD (s1:=d) u9 rfl) (congrArg (Value.int .i64) q)) ?_
  obtain ⟨s,t,c⟩:=zG c
  refine zH (zQ (Do_geq (a:=n) (b:=p) rfl rfl) t)<| yS (b:=s) rfl rfl rfl (fun h=>?_) (fun h=>?_)
  ·have c:=zT h c
   refine zI (sb f)<| zI (sb d) ?_
   obtain ⟨B,u,c⟩:=zG c
   refine zH (yJ (kD (s1:=d) u9 rfl) (congrArg (Value.int .i64) u)) ?_
   obtain ⟨x,y,c⟩:=zD c
   refine zH (Do_cut_h (s1:=f) u9 rfl rfl y)<| zI (sb d) ?_
   obtain ⟨j,z,c⟩:=zG c
   refine zH (zQ (wE (s1:=x) (s2:=d) rfl rfl) z)<| zH (yO (v:= .bool j) rfl rfl)<| zK (.bool j) ?_
   obtain rfl:=gI c
   exact (zF (zB (meet ⟨(),(zL rfl zO),H.pick [] (by decide)⟩)))
  have c:=zU h c
  refine yI ?_
  refine yI ?_
  refine yI ?_
  refine yI ?_
  refine yI ?_
  refine yI ?_
  refine zH (yN (v:= .bool false) rfl rfl)<| zK (.bool false) ?_
  obtain rfl:=gI c
  exact (zF (zB (meet ⟨(),(zL rfl zO),H.pick [] (by decide)⟩)))
 rintro _ ρ C H
 have c:=m
 obtain rfl:=gI c
 refine (zY (fF (v1:= .bool i) rfl rfl ?_))
 exact ⟨rfl,H.pick [] (by decide)⟩
theorem Ffsw (a:Str)(c:Str)(r:Str)(b:Ffs a c=some r)(O S:List Nat)(w:World)(H:Hd O w w S []):
  Cl 257 [sb a,sb c] w fun e d=>e= .returned (sb r)∧Hd O w d S []:=by
 unfold Ffs at b
 refine zS 13 Tryz.func257 rfl rfl rfl ?_
 refine zC fun o f=>zA<| zK (.string (bs []))<| zF (zB (f _ _ ?_))
 refine zC fun p h=>?_
 refine zC fun q i=>zA<| zI (sb a)<| zI (sb c) ?_
 have j:=H
 obtain ⟨s,k,b⟩:=zD b
 refine yA rfl rfl (zV en215 rfl) (Fdow a c _ k _ _ _ (H.enter [] [] (by decide) rfl)) ?_
 rintro _ t ⟨rfl,l⟩
 have H:=j.step (l.only:Only [] _ _)
 refine ⟨_,rfl,?_⟩
 refine zF (zB (i _ _ ?_))
 obtain ⟨m,b⟩:=xZ b
 refine dD m ?_
 refine yB (zB (h _ _ ?_))
 refine zC fun u n=>zA<| zI (sb a)<| zK (sb a)<| zF (zB (n _ _ ?_))
 obtain rfl:=gI b
 refine (zY (fF (v1:=sb a) rfl rfl ?_))
 exact ⟨rfl,H.pick [] (by decide)⟩
theorem Ffpw (a:Str)(b:Str)(r:Str)(c:Ffp a b=some r)(O S:List Nat)(w:World)(H:Hd O w w S []):
  Cl 214 [sb a,sb b] w fun e f=>e= .returned (sb r)∧Hd O w f S []:=by
 unfold Ffp at c
 refine zS 8 Tryz.func214 rfl rfl rfl ?_
 refine zC fun m h=>zA<| zK (.string (bs []))<| zF (zB (h _ _ ?_))
 refine zC fun n i=>zA<| zI (sb a)<| zI (sb b) ?_
 have j:=H
 obtain ⟨d,k,c⟩:=zD c
 refine yA rfl rfl (zV en257 rfl) (Ffsw a b _ k _ _ _ (H.enter [] [] (by decide) rfl)) ?_
 rintro _ o ⟨rfl,l⟩
 have H:=j.step (l.only:Only [] _ _)
 refine ⟨_,rfl,?_⟩
 refine zK (sb d)<| zF (zB (i _ _ ?_))
 obtain rfl:=gI c
 refine (zY (fF (v1:=sb d) rfl rfl ?_))
 exact ⟨rfl,H.pick [] (by decide)⟩
theorem Feiw (d:gB)(f:Nat)(h:Value)(j:Value)(k:Value)(r:gB)(c:Fei d=some r)(O S:List Nat)(w:World)(H:Hd O w w S [.own Rp.str h 9 d.r.Phases,.own fA j 122 d.r.Moves,.own fC k 95 d.r.Rules,.blk f [sb d.text,i6 d.at_,i6 d.now.kind,i6 d.now.at_,i6 d.now.n,sb d.now.text,h,j,k] 109,.fz (.gi 4)]):
  Cl 175 [gU f] w fun e z=> ∃q s t,e= .returned (.tuple #[])∧Hd O w z S [.own Rp.str q 9 r.r.Phases,.own fA s 122 r.r.Moves,.own fC t 95 r.r.Rules,.blk f [sb r.text,i6 r.at_,i6 r.now.kind,i6 r.now.at_,i6 r.now.n,sb r.now.text,q,s,t] 109]:=by
 unfold Fei at c
 refine zS 55 Tryz.func175 rfl rfl rfl ?_
 refine zC fun am A=>zA<| zI (gU f)<| zH (zN rfl)<| zH (dW rfl)<| zH (fa107_3 rfl)<| Ld bC H 3 5 rfl rfl<| zK (sb d.now.text)<| zF (zB (A _ _ ?_))
 refine zC fun an B=>zA<| zI (sb d.now.text) ?_
 obtain ⟨⟨l,C⟩,D,c⟩:=zD c
 refine yA rfl rfl (zV en213 rfl) (E.Fejw d.now.text _ D _ _ _ (H.enter [] [4] (by decide) rfl)) ?_
 rintro _ ao ⟨m,rfl,F⟩
 have H:=H.back1 [4] rfl F
 refine ⟨_,rfl,?_⟩
 refine zI (.tuple #[i6 l,m])<| zH (xY (v:=i6 l) rfl rfl)<| zH (xY (v:=m) rfl rfl)<| zK (i6 l)<| zK m<| zF (zB (B _ _ ?_))
 refine yF ?_
 refine zC fun ap G=>zA<| zI (sb d.now.text) ?_
 have I:=H
 obtain ⟨u,J,c⟩:=zD c
 refine yA rfl rfl (zV en144 rfl) (Fbmw d.now.text _ J _ _ _ (H.enter [] [] (by decide) rfl)) ?_
 rintro _ aq ⟨rfl,K⟩
 have H:=I.step (K.only:Only [] _ _)
 refine ⟨_,rfl,?_⟩
 refine zK (.bool u)<| zF (zB (G _ _ ?_))
 refine yC (b:=u) rfl (fun o=>?_) (fun o=>?_)
 ·have c:=zT o c
  refine zA ?_
  refine zI (gU f)<| zH (zN rfl)<| zH (dW rfl)<| zH (kQ rfl)<| yV rfl (xE H 3 rfl sz3 rfl (v:=i6 1) rfl rfl rfl) ?_
  rintro ar H
  obtain rfl:=gI c
  refine (zF (yK (post0n rfl ?_)))
  exact ⟨h,j,k,rfl,H.pick [0,1,2,3] (by decide)⟩
 have c:=zU o c
 refine zC fun au L=>zA<| zI (sb d.now.text) ?_
 have M:=H
 obtain ⟨x,N,c⟩:=zD c
 refine yA rfl rfl (zV en86 rfl) (Fahw d.now.text _ N _ _ _ (H.enter [] [] (by decide) rfl)) ?_
 rintro _ av ⟨rfl,P⟩
 have H:=M.step (P.only:Only [] _ _)
 refine ⟨_,rfl,?_⟩
 refine zK (.bool x)<| zF (zB (L _ _ ?_))
 refine yC (b:=x) rfl (fun p=>?_) (fun p=>?_)
 ·have c:=zT p c
  refine zA ?_
  refine zI (gU f)<| zH (zN rfl)<| zH (dW rfl)<| zH (kQ rfl)<| yV rfl (xE H 3 rfl sz3 rfl (v:=i6 2) rfl rfl rfl) ?_
  rintro aw H
  obtain rfl:=gI c
  refine (zF (yK (post0n rfl ?_)))
  exact ⟨h,j,k,rfl,H.pick [0,1,2,3] (by decide)⟩
 have c:=zU p c
 refine zC fun ax Q=>zA<| zI m ?_
 obtain ⟨ay,R,c⟩:=zG c
 refine zH (zQ (Do_eqlif ui131 (H.item (i:=5) rfl) rfl) R) ?_
 obtain ⟨T,c,U⟩:=zD c
 refine bW 6 [34,35,36,37,38,39] [(39,.bool T)] (fun wl=>Hd O w wl S [.own Rp.str h 9 d.r.Phases,.own fA j 122 d.r.Moves,.own fC k 95 d.r.Rules,.blk f [sb d.text,i6 d.at_,i6 d.now.kind,i6 d.now.at_,i6 d.now.n,sb d.now.text,h,j,k] 109,.fz (.gi 4),.fz (.ic m C)]) ?_ ?_
 ·skip
  obtain ⟨V,c⟩:=iteB_nf c
  refine RL_sp true V ?_
  refine zI (i6 l) ?_
  have X:=H
  obtain ⟨Y,Z,c⟩:=zD c
  refine yA rfl rfl (zV en130 rfl) (E.Fd4w l _ Z _ _ _ (H.enter [] [] (by decide) rfl)) ?_
  rintro _ az ⟨rfl,aa⟩
  have H:=X.step (aa.only:Only [] _ _)
  refine ⟨_,rfl,?_⟩
  refine zI (sb d.now.text) ?_
  obtain ⟨ab,ac,c⟩:=zG c
  refine zH (zQ (wE (s1:=Y) (s2:=d.now.text) rfl rfl) ac)<| zH (yO (v:= .bool ab) rfl rfl) ?_
  obtain rfl:=gI c
  exact zF (zB (meet ⟨(zL rfl zO),H.pick [0,1,2,3,4,5] (by decide)⟩))
 rintro ρ a0 H
 have c:=U
 obtain ⟨ad,c⟩:=iteB_nf c
 refine RL_sp true ad ?_
 refine zI (sb d.now.text) ?_
 have ae:=H
 obtain ⟨af,ag,c⟩:=zD c
 refine yA rfl rfl (zV en214 rfl) (Ffpw d.now.text [45] _ ag _ _ _ (H.enter [] [] (by decide) rfl)) ?_
 rintro _ a1 ⟨rfl,ah⟩
 have H:=ae.step (ah.only:Only [] _ _)
 refine ⟨_,rfl,?_⟩
 obtain ⟨ai,aj,c⟩:=zG c
 refine zH (yJ (kD (s1:=af) u9 rfl) (congrArg (Value.int .i64) aj)) ?_
 obtain ⟨y,ak,c⟩:=zG c
 refine zH (zQ (Do_leq (a:=ai) (b:=16) rfl rfl) ak)<| zH (yO (v:= .bool y) rfl rfl)<| zK (.bool y)<| zF (zB (Q _ _ ?_))
 obtain ⟨al,c⟩:=iteB_nf c
 refine WP_ifT al ?_
 refine zA ?_
 refine zI (gU f)<| zI (gU f)<| zI (i6 l)<| zH (zN rfl)<| zH (dW rfl)<| zH (kQ rfl)<| yV rfl (xE H 3 rfl sz3 rfl (v:=i6 3) rfl rfl rfl) ?_
 rintro a2 H
 refine zH (zN rfl)<| zH (dW rfl)<| zH (fa107_2 rfl)<| yV rfl (xE H 3 rfl sz3 rfl (v:=i6 l) rfl rfl rfl) ?_
 rintro a3 H
 obtain rfl:=gI c
 refine (zF (yK (post0n rfl ?_)))
 exact ⟨h,j,k,rfl,H.pick [0,1,2,3] (by decide)⟩
theorem Fe4w (a:Str)(b:Str)(r:Bool)(c:Fe4 a b=some r)(O S:List Nat)(w:World)(H:Hd O w w S []):
  Cl 176 [sb a,sb b] w fun e f=>e= .returned (.bool r)∧Hd O w f S []:=by
 unfold Fe4 at c
 refine zS 8 Tryz.func176 rfl rfl rfl ?_
 refine zC fun m h=>zA<| zK (.bool false)<| zF (zB (h _ _ ?_))
 refine zC fun n i=>zA<| zI (sb a)<| zI (sb b) ?_
 have j:=H
 obtain ⟨d,k,c⟩:=zD c
 refine yA rfl rfl (zV en215 rfl) (Fdow a b _ k _ _ _ (H.enter [] [] (by decide) rfl)) ?_
 rintro _ o ⟨rfl,l⟩
 have H:=j.step (l.only:Only [] _ _)
 refine ⟨_,rfl,?_⟩
 refine zK (.bool d)<| zF (zB (i _ _ ?_))
 obtain rfl:=gI c
 refine (zY (fF (v1:= .bool d) rfl rfl ?_))
 exact ⟨rfl,H.pick [] (by decide)⟩
theorem Fanw (h:gB)(f:Nat)(u:Value)(x:Value)(y:Value)(r:gB)(c:Fan h=some r)(O S:List Nat)(w:World)(H:Hd O w w S [.own Rp.str u 9 h.r.Phases,.own fA x 122 h.r.Moves,.own fC y 95 h.r.Rules,.blk f [sb h.text,i6 h.at_,i6 h.now.kind,i6 h.now.at_,i6 h.now.n,sb h.now.text,u,x,y] 109,.fz (.gi 4)]):
  Cl 120 [gU f] w fun e p=> ∃K L M,e= .returned (.tuple #[])∧Hd O w p S [.own Rp.str K 9 r.r.Phases,.own fA L 122 r.r.Moves,.own fC M 95 r.r.Rules,.blk f [sb r.text,i6 r.at_,i6 r.now.kind,i6 r.now.at_,i6 r.now.n,sb r.now.text,K,L,M] 109]:=by
 unfold Fan at c
 refine zS 107 Tryz.func120 rfl rfl rfl ?_
 refine zC fun b9 V=>zA<| zI (gU f) ?_
 obtain ⟨d,X,c⟩:=zD c
 refine yA rfl rfl (zV en174 rfl) (Ff1w (gB.mk h.text h.at_ (gZ.mk h.now.kind h.now.at_ h.now.n h.now.text) (Rules.mk h.r.Phases h.r.Moves h.r.Rules)) f u x y _ X _ _ _ (H.enter [0,1,2,3] [] (by decide) rfl)) ?_
 rintro _ Y ⟨j,k,l,rfl,Z⟩
 have H:Hd _ _ Y _ [.fz (.gi 4),.own Rp.str j 9 d.r.Phases,.own fA k 122 d.r.Moves,.own fC l 95 d.r.Rules,.blk f [sb d.text,i6 d.at_,i6 d.now.kind,i6 d.now.at_,i6 d.now.n,sb d.now.text,j,k,l] 109]:=H.back [0,1,2,3] [] rfl Z
 refine ⟨_,rfl,?_⟩
 refine zF (zB (V _ _ ?_))
 refine zC fun ca aa=>zA<| zI (gU f)<| zH (zN rfl)<| zH (kP rfl)<| Ld fU H 4 1 rfl rfl<| zK (i6 d.at_)<| zF (zB (aa _ _ ?_))
 refine zC fun cb ab=>zA<| zI (gU f)<| zI (i6 d.at_)<| zH (xM (cs:=[i6 0,i6 d.at_,i6 0,.string (bs [])]) (bt107_0_1 _ _))<| zH (zN rfl)<| zH (dW rfl)<| yV rfl (yQ (vs:=[i6 0,i6 d.at_,i6 0,.string (bs [])]) H 4 rfl sz107 rfl rfl rfl ⟨rfl,rfl,rfl,rfl,trivial⟩ rfl) ?_
 rintro cc H
 refine zF (zB (ab _ _ ?_))
 refine zC fun cd ac=>?_
 refine zC fun ce ad=>zA<| zI (i6 d.at_)<| zI (gU f)<| zH (zN rfl)<| zH (fa109_0 rfl)<| Ld bC H 4 0 rfl rfl ?_
 obtain ⟨ae,af,c⟩:=zG c
 refine zH (yJ (kD (s1:=d.text) u9 rfl) (congrArg (Value.int .i64) af)) ?_
 obtain ⟨ag,ah,c⟩:=zG c
 refine zH (zQ (yT (a:=d.at_) (b:=ae) rfl rfl) ah)<| zF (zB (ad _ _ ?_))
 refine yC (b:=ag) rfl (fun z=>?_) (fun z=>?_)
 ·have c:=zT z c
  obtain rfl:=gI c
  refine (zY (zZ (post0 rfl ?_)))
  exact ⟨j,k,l,rfl,H.pick [1,2,3,4] (by decide)⟩
 have c:=zU z c
 refine yB (zB (ac _ _ ?_))
 obtain ⟨s,c,ai⟩:=zD c
 refine yL [23,24,25,26,27,28,29,30,31,32,33,34,35,36,37,38,39,40,41,42,43,44,45,46,47,48,49,50,51] (fun (g:Unit)=>[]) (fun g wl=>Hd O w wl S [.fz (.gi 4),.own Rp.str j 9 d.r.Phases,.own fA k 122 d.r.Moves,.own fC l 95 d.r.Rules,.blk f [sb d.text,i6 s,i6 0,i6 d.at_,i6 0,.string (bs []),j,k,l] 109]) ?_ ?_
 ·skip
  refine yF ?_
  unfold Fgq at c
  obtain ⟨aj,N,ak,c⟩:=yR c
  refine xG [23,24,25,26,27,28,29,30,31,32,33,34,35,36,37,38,39,40,41,42,43,44,45,46,47,48,49,50,51] (fun (g:Nat×Int)=>[]) (fun g wl=>Hd O w wl S [.fz (.gi 4),.own Rp.str j 9 d.r.Phases,.own fA k 122 d.r.Moves,.own fC l 95 d.r.Rules,.blk f [sb d.text,i6 g.2,i6 0,i6 d.at_,i6 0,.string (bs []),j,k,l] 109]∧eF aj g.1 g.2=some s) (fun g=>g.1) (N,d.at_) zO ⟨H.pick [0,1,2,3,4] (by decide),c⟩ ?_
  clear H c
  rintro ⟨N,A⟩ ρ cf ⟨H,c⟩
  obtain ⟨al,rfl,c⟩:=yX c
  have c:=yY ak c
  refine zC fun cg am=>?_
  refine zC fun ch an=>?_
  have ao:=H
  have H:=H.rebase
  have ci:=H
  refine wB H [0,1,2,3,4,5,6,7,8,9,10,11,12,13,14,15,16,17,18,19,20,21] (kz [0,0,0,1,0,0,0,1,0,0,0,0,0,0,1,0,0,0,1,0,4,0]) mixed ?_
  refine XM (gU f)<| XP (fun _ _=>zN rfl)<| XP (fun _ _=>kP rfl)<| XR fU H 4 1 rfl rfl<| XM (gU f)<| XP (fun _ _=>zN rfl)<| XP (fun _ _=>fa109_0 rfl)<| XR bC H 4 0 rfl rfl ?_
  obtain ⟨ap,aq,c⟩:=zG c
  refine XP (fun _ _=>yJ (kD (s1:=d.text) u9 rfl) (congrArg (Value.int .i64) aq)) ?_
  obtain ⟨cj,ar,c⟩:=zG c
  refine XP (fun _ _=>zQ (xR (a:=A) (b:=ap) rfl rfl) ar) ?_
  obtain ⟨au,c⟩:=iteB_nf c
  refine MxM.XL_sp true au ?_
  refine XM (gU f)<| XP (fun _ _=>zN rfl)<| XP (fun _ _=>fa109_0 rfl)<| XR bC H 4 0 rfl rfl<| XM (gU f)<| XP (fun _ _=>zN rfl)<| XP (fun _ _=>kP rfl)<| XR fU H 4 1 rfl rfl ?_
  obtain ⟨av,aw,c⟩:=zD c
  refine XP (fun _ _=>Do_sidx (s1:=d.text) (q:=A) u9 rfl rfl aw) ?_
  have ax:=H
  obtain ⟨B,ay,c⟩:=zD c
  refine MxM.XL_fcall oS rfl rfl rfl (v:= .bool B) (fun p t=>zV en145 rfl) (fun p t=>bU (Fbbw av _ ay _ _ _ (Hd.fresh0 p))) ?_
  have H:=ax
  refine XP (fun _ _=>yO (v:= .bool B) rfl rfl)<| MxM.xI fun ck hS=>?_
  have H:=H.sees hS
  have H:=ao.rejoin H
  refine (zB (an _ _ ?_))
  refine yC (b:=B) rfl (fun C=>?_) (fun C=>?_)
  ·have c:=zT C c
   refine yB (zB (am _ _ ?_))
   refine yF ?_
   refine zA ?_
   refine zI (gU f)<| zH (zN rfl)<| zH (kP rfl)<| Ld fU H 4 1 rfl rfl ?_
   obtain ⟨P,az,c⟩:=zG c
   refine zH (xQ (a:=A) (b:=1) rfl rfl az)<| zH (zN rfl)<| zH (kP rfl)<| yV rfl (xE H 4 rfl sz3 rfl (v:=i6 P) rfl rfl rfl) ?_
   rintro cl H
   exact (zF (yK (zB (meet ⟨(al,P),zO,⟨H.pick [0,1,2,3,4] (by decide),c⟩,Nat.lt_succ_self _⟩))))
  have c:=zU C c
  obtain rfl:=gI c
  exact (xK (yH (yH (yU (zB (meet ⟨(),zO,H.pick [0,1,2,3,4] (by decide)⟩))))))
 rintro _ ρ cm H
 have c:=ai
 refine zC fun cn a0=>?_
 refine zC fun co a1=>zA<| zI (gU f)<| zH (zN rfl)<| zH (kP rfl)<| Ld fU H 4 1 rfl rfl<| zI (i6 d.at_) ?_
 obtain ⟨a2,a3,c⟩:=zG c
 refine zH (zQ (kH (a:=s) (b:=d.at_) rfl rfl) a3)<| zF (zB (a1 _ _ ?_))
 refine yC (b:=a2) rfl (fun D=>?_) (fun D=>?_)
 ·have c:=zT D c
  refine zC fun cp a4=>?_
  have a5:=H
  have H:=H.rebase
  have cq:=H
  refine wB H [0,1,2,3,4,5,6,7,8,9,10,11,12,13,14] (kz [0,0,0,0,1,0,0,0,0,1,0,0,0,0,3]) mixed ?_
  refine XM (gU f)<| XM (gU f)<| XP (fun _ _=>zN rfl)<| XP (fun _ _=>fa109_0 rfl)<| XR bC H 4 0 rfl rfl<| XM (i6 d.at_)<| XM (gU f)<| XP (fun _ _=>zN rfl)<| XP (fun _ _=>kP rfl)<| XR fU H 4 1 rfl rfl ?_
  obtain ⟨Q,a6,c⟩:=zD c
  refine XP (fun _ _=>Do_cut_lh (s1:=d.text) u9 rfl rfl rfl a6)<| XP (fun _ _=>zN rfl)<| XP (fun _ _=>dW rfl)<| XP (fun _ _=>fa107_3 rfl)<| MxM.XL_exU oS rfl rfl (fun p t=>xE (H.sees t) 4 rfl sz9 rfl (v:=sb Q) rfl rfl rfl) ?_
  rintro p cr t H
  refine ⟨H.only,?_⟩
  refine MxM.xI fun ct hS=>?_
  have H:=H.sees hS
  have H:=a5.rejoin H
  refine (zB (a4 _ _ ?_))
  refine zC fun cu a7=>zA<| zI (gU f) ?_
  obtain ⟨m,a8,c⟩:=zD c
  refine yA rfl rfl (zV en175 rfl) (Feiw (gB.mk d.text s (gZ.mk 0 d.at_ 0 Q) (Rules.mk d.r.Phases d.r.Moves d.r.Rules)) f j k l _ a8 _ _ _ (H.enter [1,2,3,4] [0] (by decide) rfl)) ?_
  rintro _ a9 ⟨E,F,G,rfl,ba⟩
  have H:Hd _ _ a9 _ [.fz (.gi 4),.own Rp.str E 9 m.r.Phases,.own fA F 122 m.r.Moves,.own fC G 95 m.r.Rules,.blk f [sb m.text,i6 m.at_,i6 m.now.kind,i6 m.now.at_,i6 m.now.n,sb m.now.text,E,F,G] 109]:=H.back [1,2,3,4] [0] rfl ba
  refine ⟨_,rfl,?_⟩
  refine zF (zB (a7 _ _ ?_))
  obtain rfl:=gI c
  refine (zY (zZ (post0 rfl ?_)))
  exact ⟨E,F,G,rfl,H.pick [1,2,3,4] (by decide)⟩
 have c:=zU D c
 refine yB (zB (a0 _ _ ?_))
 refine zC fun cv cw=>?_
 refine zC fun cx bb=>zA ?_
 obtain ⟨cy,bc,c⟩:=zG c
 subst bc
 refine yP rfl rfl (kM (r:=Rp.str) (xl:=[[60,61],[33,61],[62,61],[60],[61],[62],[40],[41]]) (cs:=[.string (bs [60,61]),.string (bs [33,61]),.string (bs [62,61]),.string (bs [60]),.string (bs [61]),.string (bs [62]),.string (bs [40]),.string (bs [41])]) u22 el9 (by decide) (by decide) rfl (xP (vs:=[.string (bs [60,61]),.string (bs [33,61]),.string (bs [62,61]),.string (bs [60]),.string (bs [61]),.string (bs [62]),.string (bs [40]),.string (bs [41])]) (by decide) rfl rfl ⟨rfl,rfl,rfl,rfl,rfl,rfl,rfl,rfl,trivial⟩ rfl) H ⟨[.string (bs [60,61])],[.string (bs [33,61]),.string (bs [62,61]),.string (bs [60]),.string (bs [61]),.string (bs [62]),.string (bs [40]),.string (bs [41])],rfl,rfl,⟨[.string (bs [33,61])],[.string (bs [62,61]),.string (bs [60]),.string (bs [61]),.string (bs [62]),.string (bs [40]),.string (bs [41])],rfl,rfl,⟨[.string (bs [62,61])],[.string (bs [60]),.string (bs [61]),.string (bs [62]),.string (bs [40]),.string (bs [41])],rfl,rfl,⟨[.string (bs [60])],[.string (bs [61]),.string (bs [62]),.string (bs [40]),.string (bs [41])],rfl,rfl,⟨[.string (bs [61])],[.string (bs [62]),.string (bs [40]),.string (bs [41])],rfl,rfl,⟨[.string (bs [62])],[.string (bs [40]),.string (bs [41])],rfl,rfl,⟨[.string (bs [40])],[.string (bs [41])],rfl,rfl,⟨[.string (bs [41])],[],rfl,rfl,rfl⟩⟩⟩⟩⟩⟩⟩⟩) ?_
 rintro bd cz H
 obtain ⟨be,bf,c⟩:=zG c
 obtain ⟨c0,c1,bg⟩:=Sr.len (Sr.of_own (H.item (i:=5) rfl))
 refine zH (yJ (xN u22 bg) (congrArg (Value.int .i64) bf))<| zI (i6 0)<| zF (zB (bb _ _ ?_))
 refine yF ?_
 unfold Fgh at c
 obtain ⟨bh,R,bi,c⟩:=yR c
 refine xG [4,76,77,78,79,80,81,82,83,84,85,86,87,88,89,90,91,92,93,94,95,96,97,98,99,100,101,102,103,104] (fun (g:Nat×Int)=>[(76,i6 g.2)]) (fun g wl=>Hd O w wl S [.fz (.gi 4),.own Rp.str j 9 d.r.Phases,.own fA k 122 d.r.Moves,.own fC l 95 d.r.Rules,.blk f [sb d.text,i6 s,i6 0,i6 d.at_,i6 0,.string (bs []),j,k,l] 109,.own Rp.str bd 9 ([[60,61],[33,61],[62,61],[60],[61],[62],[40],[41]]:List Str)]∧eF bh g.1 g.2=some r) (fun g=>g.1) (R,0) (zL rfl zO) ⟨H.pick [0,1,2,3,4,5] (by decide),c⟩ ?_
 clear H c
 rintro ⟨R,T⟩ ρ c2 ⟨H,c⟩
 obtain ⟨bj,rfl,c⟩:=yX c
 have c:=yY bi c
 refine zC fun c3 bk=>zA ?_
 obtain ⟨c4,bl,c⟩:=zG c
 refine zH (zQ (xR (a:=T) (b:=be) rfl rfl) bl)<| zF (zB (bk _ _ ?_))
 refine zC fun c5 bm=>?_
 obtain ⟨bn,c⟩:=iteB_nf c
 refine WP_ifT bn ?_
 refine yB (zB (bm _ _ ?_))
 refine zC fun c6 bo=>?_
 refine yF ?_
 refine zC fun c7 bp=>zA ?_
 obtain ⟨o,I,c⟩:=zD c
 obtain ⟨c8,c9,bq,br,bt,bu⟩:=kT (H.item (i:=5) rfl) I
 obtain rfl:bq= [sb o]:=bt
 refine zH (xJ u22 sz9 br rfl (yE I).1 (yE I).2.1 rfl rfl)<| zH (xA bC rfl (Cells.get bu (i:=0) rfl))<| zK (sb o)<| zF (zB (bp _ _ ?_))
 refine zC fun da bv=>zA<| zI (gU f)<| zH (zN rfl)<| zH (fa109_0 rfl)<| Ld bC H 4 0 rfl rfl<| zI (i6 d.at_) ?_
 obtain ⟨bw,bx,c⟩:=zD c
 refine zH (Do_cut_l (s1:=d.text) u9 rfl rfl bx)<| zI (sb o) ?_
 have bz:=H
 obtain ⟨b0,b1,c⟩:=zD c
 refine yA rfl rfl (zV en176 rfl) (Fe4w bw o _ b1 _ _ _ (H.enter [] [] (by decide) rfl)) ?_
 rintro _ db ⟨rfl,b2⟩
 have H:=bz.step (b2.only:Only [] _ _)
 refine ⟨_,rfl,?_⟩
 refine zF (zB (bv _ _ ?_))
 refine yC (b:=b0) rfl (fun J=>?_) (fun J=>?_)
 ·have c:=zT J c
  refine zC fun dc b3=>zA<| zI (gU f)<| zI (gU f)<| zI (gU f)<| zI (sb o)<| zI (i6 d.at_)<| zI (sb o) ?_
  obtain ⟨b4,b5,c⟩:=zG c
  refine zH (yJ (kD (s1:=o) u9 rfl) (congrArg (Value.int .i64) b5)) ?_
  obtain ⟨b6,b7,c⟩:=zG c
  refine zH (xQ (a:=d.at_) (b:=b4) rfl rfl b7)<| zH (zN rfl)<| zH (dW rfl)<| zH (kQ rfl)<| yV rfl (xE H 4 rfl sz3 rfl (v:=i6 4) rfl rfl rfl) ?_
  rintro dd H
  refine zH (zN rfl)<| zH (dW rfl)<| zH (fa107_3 rfl)<| yV rfl (xE H 4 rfl sz9 rfl (v:=sb o) rfl rfl rfl) ?_
  rintro de H
  refine zH (zN rfl)<| zH (kP rfl)<| yV rfl (xE H 4 rfl sz3 rfl (v:=i6 b6) rfl rfl rfl) ?_
  rintro df H
  refine zF (zB (b3 _ _ ?_))
  obtain rfl:=gI c
  refine (zY (yG (zZ (zZ (yG (zZ (post0 rfl ?_)))))))
  exact ⟨j,k,l,rfl,H.pick [1,2,3,4] (by decide)⟩
 have c:=zU J c
 refine (yB (yK (zB (bo _ _ ?_))))
 refine zA ?_
 obtain ⟨U,b8,c⟩:=zG c
 refine zH (xQ (a:=T) (b:=1) rfl rfl b8)<| zI (i6 U) ?_
 exact (zF (zB (meet ⟨(bj,U),(zL rfl zO),⟨H.pick [0,1,2,3,4,5] (by decide),c⟩,Nat.lt_succ_self _⟩)))
theorem Fajw (k:Option gB)(f:Str)(v1:Option Addr)(r:Bool)(c:Faj k f=some r)(O S:List Nat)(w:World)(H:Hd O w w S [.fz (.pt dM v1 k)]):
  Cl 121 [.pointer v1,sb f] w fun e D=>e= .returned (.bool r)∧Hd O w D S []:=by
 unfold Faj at c
 refine zS 28 Tryz.func121 rfl rfl rfl ?_
 refine zC fun K3 E=>zA<| zK (.bool false)<| zF (zB (E _ _ ?_))
 obtain ⟨u,c,F⟩:=zD c
 refine yL [4,5,6,7,8,9,10,11,12,13,14,15,16,17,18,19,20,21,22,23,24,25,26,27] (fun (g:Unit)=>[(4,.bool u)]) (fun g wl=>Hd O w wl S []) ?_ ?_
 ·skip
  refine zA ?_
  refine zI (.pointer v1) ?_
  obtain ⟨d,G,c⟩:=zD c
  obtain ⟨l,m,a1,I,J,K,L,M⟩:=ptf_some ((H.item (i:=0) rfl):PtF _ _ _ _ _) G
  obtain ⟨o,p,q,rfl,N,P,Q⟩:=aC L
  have H:=H.fzs [.at l m _,.sl Rp.str o d.r.Phases,.sl fA p d.r.Moves,.sl fC q d.r.Rules] ⟨⟨J,K,M⟩,N,P,Q,trivial⟩
  refine zH (zN (ad:=⟨l,m,none⟩) (congrArg Value.pointer I))<| zH (dW rfl)<| zH (kQ rfl)<| zH (xA fU rfl (Cells.get (H.item (i:=1) rfl).2.2 (i:=2) rfl)) ?_
  obtain ⟨R,T,c⟩:=zG c
  refine zH (zQ (yT (a:=d.now.kind) (b:=1) rfl rfl) T) ?_
  obtain ⟨x,c,U⟩:=zD c
  refine bW 8 [11,12,13,14,15,16,17,18] [(18,.bool x)] (fun wl=>Hd O w wl S [.fz (.pt dM v1 k),.fz (.at l m [sb d.text,i6 d.at_,i6 d.now.kind,i6 d.now.at_,i6 d.now.n,sb d.now.text,o,p,q]),f1 Rp.str o d.r.Phases,f1 fA p d.r.Moves,f1 fC q d.r.Rules]) ?_ ?_
  ·skip
   refine yS (b:=R) rfl rfl rfl (fun s=>?_) (fun s=>?_)
   ·have c:=zT s c
    refine yI ?_
    refine yI ?_
    refine yI ?_
    refine yI ?_
    refine yI ?_
    refine yI ?_
    refine zH (yO (v:= .bool true) rfl rfl) ?_
    obtain rfl:=gI c
    exact zF (zB (meet ⟨(zL rfl zO),H.pick [0,1,2,3,4] (by decide)⟩))
   have c:=zU s c
   refine zI (.pointer v1) ?_
   obtain ⟨h,V,c⟩:=zD c
   obtain ⟨y,z,a2,X,Y,Z,aa,ab⟩:=ptf_some ((H.item (i:=0) rfl):PtF _ _ _ _ _) V
   obtain ⟨ac,ae,af,rfl,ag,ah,ai⟩:=aC aa
   have H:=H.fzs [.at y z _,.sl Rp.str ac h.r.Phases,.sl fA ae h.r.Moves,.sl fC af h.r.Rules] ⟨⟨Y,Z,ab⟩,ag,ah,ai,trivial⟩
   refine zH (zN (ad:=⟨y,z,none⟩) (congrArg Value.pointer X))<| zH (dW rfl)<| zH (kQ rfl)<| zH (xA fU rfl (Cells.get (H.item (i:=5) rfl).2.2 (i:=2) rfl)) ?_
   obtain ⟨aj,ak,c⟩:=zG c
   refine zH (zQ (yT (a:=h.now.kind) (b:=4) rfl rfl) ak)<| zH (yN (v:= .bool aj) rfl rfl) ?_
   obtain rfl:=gI c
   exact zF (zB (meet ⟨(zL rfl zO),H.pick [0,1,2,3,4] (by decide)⟩))
  rintro ρ a3 H
  have c:=U
  refine yS (b:=x) rfl rfl rfl (fun t=>?_) (fun t=>?_)
  ·have c:=zT t c
   refine zI (.pointer v1) ?_
   obtain ⟨j,al,c⟩:=zD c
   obtain ⟨A,B,a4,am,an,ao,ap,aq⟩:=ptf_some ((H.item (i:=0) rfl):PtF _ _ _ _ _) al
   obtain ⟨ar,au,av,rfl,aw,ax,ay⟩:=aC ap
   have H:=H.fzs [.at A B _,.sl Rp.str ar j.r.Phases,.sl fA au j.r.Moves,.sl fC av j.r.Rules] ⟨⟨an,ao,aq⟩,aw,ax,ay,trivial⟩
   refine zH (zN (ad:=⟨A,B,none⟩) (congrArg Value.pointer am))<| zH (dW rfl)<| zH (fa107_3 rfl)<| zH (xA bC rfl (Cells.get (H.item (i:=5) rfl).2.2 (i:=5) rfl))<| zI (sb f) ?_
   obtain ⟨C,az,c⟩:=zG c
   refine zH (zQ (wE (s1:=j.now.text) (s2:=f) rfl rfl) az)<| zH (yO (v:= .bool C) rfl rfl)<| zK (.bool C) ?_
   obtain rfl:=gI c
   exact (zF (zB (meet ⟨(),(zL rfl zO),H.pick [] (by decide)⟩)))
  have c:=zU t c
  refine yI ?_
  refine yI ?_
  refine yI ?_
  refine yI ?_
  refine yI ?_
  refine yI ?_
  refine yI ?_
  refine zH (yN (v:= .bool false) rfl rfl)<| zK (.bool false) ?_
  obtain rfl:=gI c
  exact (zF (zB (meet ⟨(),(zL rfl zO),H.pick [] (by decide)⟩)))
 rintro _ ρ a5 H
 have c:=F
 obtain rfl:=gI c
 refine (zY (fF (v1:= .bool u) rfl rfl ?_))
 exact ⟨rfl,H.pick [] (by decide)⟩
theorem Fdzw (c:gB)(i:Int)(f:Nat)(j:Value)(k:Value)(l:Value)(r:gZ×gB)(h:Fdz c i=some r)(O S:List Nat)(w:World)(H:Hd O w w S [.own Rp.str j 9 c.r.Phases,.own fA k 122 c.r.Moves,.own fC l 95 c.r.Rules,.blk f [sb c.text,i6 c.at_,i6 c.now.kind,i6 c.now.at_,i6 c.now.n,sb c.now.text,j,k,l] 109,.fz (.gi 4)]):
  Cl 177 [gU f,i6 i] w fun e u=> ∃q s t,e= .returned (.agg [i6 r.1.kind,i6 r.1.at_,i6 r.1.n,sb r.1.text].toArray)∧Hd O w u S [.own Rp.str q 9 r.2.r.Phases,.own fA s 122 r.2.r.Moves,.own fC t 95 r.2.r.Rules,.blk f [sb r.2.text,i6 r.2.at_,i6 r.2.now.kind,i6 r.2.now.at_,i6 r.2.now.n,sb r.2.now.text,q,s,t] 109]:=by
 unfold Fdz at h
 refine zS 22 Tryz.func177 rfl rfl rfl ?_
 refine zC fun K v=>zA<| yP rfl rfl (xH zero107 H) ?_
 rintro _ L ⟨x,rfl,H⟩
 refine zF (zB (v _ _ ?_))
 refine zC fun M y=>?_
 refine zC fun N z=>zA<| zI (gU f)<| zH (zN rfl)<| zH (dW rfl)<| zH (kQ rfl)<| Ld fU H 3 2 rfl rfl<| zI (i6 i) ?_
 obtain ⟨P,A,h⟩:=zG h
 refine zH (zQ (dH (a:=c.now.kind) (b:=i) rfl rfl) A)<| zF (zB (z _ _ ?_))
 obtain ⟨B,h⟩:=xZ h
 refine dD B ?_
 refine yB (zB (y _ _ ?_))
 refine zC fun Q C=>zA<| zI (gU f)<| zH (zN rfl)<| zH (dW rfl)<| zH (yJ (yM (cs:=[i6 c.now.kind,i6 c.now.at_,i6 c.now.n,sb c.now.text]) agg107 rfl sz107 rfl (Cells.drop (Hbc H 3 rfl) 2 4)) rfl)<| yP rfl rfl (xH zero107 H) ?_
 rintro _ R ⟨D,rfl,H⟩
 refine yV rfl (yQ (vs:=[i6 c.now.kind,i6 c.now.at_,i6 c.now.n,sb c.now.text]) H 6 rfl sz107 rfl rfl rfl ⟨rfl,rfl,rfl,rfl,trivial⟩ rfl) ?_
 rintro T H
 refine zF (zB (C _ _ ?_))
 refine zC fun U E=>zA<| zI (gU f) ?_
 obtain ⟨d,F,h⟩:=zD h
 refine yA rfl rfl (zV en120 rfl) (Fanw (gB.mk c.text c.at_ (gZ.mk c.now.kind c.now.at_ c.now.n c.now.text) (Rules.mk c.r.Phases c.r.Moves c.r.Rules)) f j k l _ F _ _ _ (H.enter [0,1,2,3] [4] (by decide) rfl)) ?_
 rintro _ G ⟨m,o,p,rfl,I⟩
 have H:Hd _ _ G _ [.fz (.gi 4),.blk x [i6 0,i6 0,i6 0,.string (bs [])] 107,.blk D [i6 c.now.kind,i6 c.now.at_,i6 c.now.n,sb c.now.text] 107,.own Rp.str m 9 d.r.Phases,.own fA o 122 d.r.Moves,.own fC p 95 d.r.Rules,.blk f [sb d.text,i6 d.at_,i6 d.now.kind,i6 d.now.at_,i6 d.now.n,sb d.now.text,m,o,p] 109]:=H.back [0,1,2,3] [4] rfl I
 refine ⟨_,rfl,?_⟩
 refine zF (zB (E _ _ ?_))
 refine zC fun V J=>zA<| zH (yJ (yM (cs:=[i6 c.now.kind,i6 c.now.at_,i6 c.now.n,sb c.now.text]) agg107 rfl sz107 rfl (Hbc H 2 rfl)) rfl)<| yV rfl (yQ (vs:=[i6 c.now.kind,i6 c.now.at_,i6 c.now.n,sb c.now.text]) H 1 rfl sz107 rfl rfl rfl ⟨rfl,rfl,rfl,rfl,trivial⟩ rfl) ?_
 rintro X H
 refine zF (zB (J _ _ ?_))
 obtain rfl:=gI h
 refine (zY (postc rfl rfl (xB agg107 sz107 rfl (Hbc H 1 rfl)) ?_))
 exact ⟨m,o,p,rfl,H.pick [3,4,5,6] (by decide)⟩
theorem Fdfw (a:gB)(c:Nat)(f:Value)(h:Value)(i:Value)(r:Str×gB)(d:Fdf a=some r)(O S:List Nat)(w:World)(H:Hd O w w S [.own Rp.str f 9 a.r.Phases,.own fA h 122 a.r.Moves,.own fC i 95 a.r.Rules,.blk c [sb a.text,i6 a.at_,i6 a.now.kind,i6 a.now.at_,i6 a.now.n,sb a.now.text,f,h,i] 109,.fz (.gi 4)]):
  Cl 122 [gU c] w fun e s=> ∃o p q,e= .returned (sb r.1)∧Hd O w s S [.own Rp.str o 9 r.2.r.Phases,.own fA p 122 r.2.r.Moves,.own fC q 95 r.2.r.Rules,.blk c [sb r.2.text,i6 r.2.at_,i6 r.2.now.kind,i6 r.2.now.at_,i6 r.2.now.n,sb r.2.now.text,o,p,q] 109]:=by
 unfold Fdf at d
 refine zS 6 Tryz.func122 rfl rfl rfl ?_
 refine zC fun A t=>zA<| zK (.string (bs []))<| zF (zB (t _ _ ?_))
 refine zC fun B u=>zA<| zI (gU c) ?_
 obtain ⟨⟨j,b⟩,x,d⟩:=zD d
 refine yA rfl rfl (zV en177 rfl) (Fdzw (gB.mk a.text a.at_ (gZ.mk a.now.kind a.now.at_ a.now.n a.now.text) (Rules.mk a.r.Phases a.r.Moves a.r.Rules)) 2 c f h i _ x _ _ _ (H.enter [0,1,2,3] [4] (by decide) rfl)) ?_
 rintro _ y ⟨k,l,m,rfl,z⟩
 have H:Hd _ _ y _ [.fz (.gi 4),.own Rp.str k 9 b.r.Phases,.own fA l 122 b.r.Moves,.own fC m 95 b.r.Rules,.blk c [sb b.text,i6 b.at_,i6 b.now.kind,i6 b.now.at_,i6 b.now.n,sb b.now.text,k,l,m] 109]:=H.back [0,1,2,3] [4] rfl z
 refine ⟨_,rfl,?_⟩
 refine zH (Do_field1 (v:=sb j.text) fo107_3 bC rfl rfl)<| zK (sb j.text)<| zF (zB (u _ _ ?_))
 obtain rfl:=gI d
 refine (zY (fF (v1:=sb j.text) rfl rfl ?_))
 exact ⟨k,l,m,rfl,H.pick [1,2,3,4] (by decide)⟩
theorem Fdnw (a:gB)(f:Str)(c:Nat)(h:Value)(j:Value)(k:Value)(r:gB)(b:Fdn a f=some r)(O S:List Nat)(w:World)(H:Hd O w w S [.own Rp.str h 9 a.r.Phases,.own fA j 122 a.r.Moves,.own fC k 95 a.r.Rules,.blk c [sb a.text,i6 a.at_,i6 a.now.kind,i6 a.now.at_,i6 a.now.n,sb a.now.text,h,j,k] 109,.fz (.gi 4)]):
  Cl 123 [gU c,sb f] w fun e u=> ∃q s t,e= .returned (.tuple #[])∧Hd O w u S [.own Rp.str q 9 r.r.Phases,.own fA s 122 r.r.Moves,.own fC t 95 r.r.Rules,.blk c [sb r.text,i6 r.at_,i6 r.now.kind,i6 r.now.at_,i6 r.now.n,sb r.now.text,q,s,t] 109]:=by
 unfold Fdn at b
 refine zS 12 Tryz.func123 rfl rfl rfl ?_
 refine zC fun J v=>?_
 refine zC fun K y=>zA<| zI (gU c)<| zI (sb f) ?_
 have z:=H
 have H:=H.freezeB (i:=3) rfl
 have H:=H.freeze (i:=0) rfl
 have H:=H.freeze (i:=1) rfl
 have H:=H.freeze (i:=2) rfl
 have H:=H.fz (.pt dM (some ⟨c,0,none⟩) (some a)) ⟨_,_,_,rfl,(H.item (i:=3) rfl).1,(H.item (i:=3) rfl).2.1,(bH (x:=a) (H.item (i:=0) rfl) (H.item (i:=1) rfl) (H.item (i:=2) rfl)),(H.item (i:=3) rfl).2.2⟩
 obtain ⟨A,B,b⟩:=zD b
 refine yA rfl rfl (zV en121 rfl) (Fajw (some a) f (some ⟨c,0,none⟩) _ B _ _ _ (H.enter [] [5] (by decide) rfl)) ?_
 rintro _ L ⟨rfl,C⟩
 have H:=z.step (C.only:Only [] _ _)
 refine ⟨_,rfl,?_⟩
 obtain ⟨M,D,b⟩:=zG b
 refine zH (zQ (wL (p:=A) rfl) D)<| zF (zB (y _ _ ?_))
 obtain ⟨E,b⟩:=xZ b
 refine dD E ?_
 refine yB (zB (v _ _ ?_))
 refine zA ?_
 refine zI (gU c) ?_
 obtain ⟨d,F,b⟩:=zD b
 refine yA rfl rfl (zV en120 rfl) (Fanw (gB.mk a.text a.at_ (gZ.mk a.now.kind a.now.at_ a.now.n a.now.text) (Rules.mk a.r.Phases a.r.Moves a.r.Rules)) c h j k _ F _ _ _ (H.enter [0,1,2,3] [4] (by decide) rfl)) ?_
 rintro _ G ⟨l,m,o,rfl,I⟩
 have H:Hd _ _ G _ [.fz (.gi 4),.own Rp.str l 9 d.r.Phases,.own fA m 122 d.r.Moves,.own fC o 95 d.r.Rules,.blk c [sb d.text,i6 d.at_,i6 d.now.kind,i6 d.now.at_,i6 d.now.n,sb d.now.text,l,m,o] 109]:=H.back [0,1,2,3] [4] rfl I
 refine ⟨_,rfl,?_⟩
 obtain rfl:=gI b
 refine (zF (post0n rfl ?_))
 exact ⟨l,m,o,rfl,H.pick [1,2,3,4] (by decide)⟩
abbrev Fak (f:gB→Int→Option (Cond×gB)):Prop:= ∀(p0:gB) (p1:Int) (b1:Nat) (v2:Value) (v3:Value) (v4:Value) (r:Cond×gB) (_:f p0 p1=some r) (O S:List Nat) (w:World) (_:Hd O w w S [.own Rp.str v2 9 p0.r.Phases,.own fA v3 122 p0.r.Moves,.own fC v4 95 p0.r.Rules,.blk b1 [sb p0.text,i6 p0.at_,i6 p0.now.kind,i6 p0.now.at_,i6 p0.now.n,sb p0.now.text,v2,v3,v4] 109,.fz (.at 0 0 ((Fl.arr 7 Fl.str).f zM)),.fz (.gi 4)]),
  Cl 124 [gU b1,i6 p1] w fun e w'=> ∃u11 u12 u13 u14,e= .returned (.agg [i6 r.1.Kind,sb r.1.Name,sb r.1.Other,i6 r.1.Op,i6 r.1.N,i6 r.1.Frames,u11].toArray)∧Hd O w w' S [f1 fD u11 r.1.Kids,.own Rp.str u12 9 r.2.r.Phases,.own fA u13 122 r.2.r.Moves,.own fC u14 95 r.2.r.Rules,.blk b1 [sb r.2.text,i6 r.2.at_,i6 r.2.now.kind,i6 r.2.now.at_,i6 r.2.now.n,sb r.2.now.text,u12,u13,u14] 109]
theorem Ffmw (h:Option gB)(v1:Option Addr)(r:Bool)(c:Ffm h=some r)(O S:List Nat)(w:World)(H:Hd O w w S [.fz (.pt dM v1 h)]):
  Cl 216 [.pointer v1] w fun e t=>e= .returned (.bool r)∧Hd O w t S []:=by
 unfold Ffm at c
 refine zS 21 Tryz.func216 rfl rfl rfl ?_
 refine zC fun K3 u=>zA<| zK (.bool false)<| zF (zB (u _ _ ?_))
 refine zC fun ar v=>?_
 refine zC fun au x=>zA<| zI (.pointer v1) ?_
 obtain ⟨d,y,c⟩:=zD c
 obtain ⟨l,o70,av,z,A,B,C,D⟩:=ptf_some ((H.item (i:=0) rfl):PtF _ _ _ _ _) y
 obtain ⟨E,F,G,rfl,I,J,K⟩:=aC C
 have H:=H.fzs [.at l o70 _,.sl Rp.str E d.r.Phases,.sl fA F d.r.Moves,.sl fC G d.r.Rules] ⟨⟨A,B,D⟩,I,J,K,trivial⟩
 refine zH (zN (ad:=⟨l,o70,none⟩) (congrArg Value.pointer z))<| zH (dW rfl)<| zH (kQ rfl)<| zH (xA fU rfl (Cells.get (H.item (i:=1) rfl).2.2 (i:=2) rfl))<| zF (zB (x _ _ ?_))
 refine yF ?_
 refine zC fun aw L=>zA ?_
 obtain ⟨m,M,c⟩:=zG c
 refine zH (zQ (yT (a:=d.now.kind) (b:=2) rfl rfl) M)<| zK (.bool m)<| zF (zB (L _ _ ?_))
 refine yC (b:=m) rfl (fun j=>?_) (fun j=>?_)
 ·have c:=zT j c
  refine zC fun ax N=>zA<| zK (.bool true)<| zF (zB (N _ _ ?_))
  obtain rfl:=gI c
  refine (zY (yG (zZ (fF (v1:= .bool true) rfl rfl ?_))))
  exact ⟨rfl,H.pick [] (by decide)⟩
 have c:=zU j c
 refine zC fun ay P=>zA ?_
 obtain ⟨n,Q,c⟩:=zG c
 refine zH (zQ (yT (a:=d.now.kind) (b:=1) rfl rfl) Q)<| zK (.bool n)<| zF (zB (P _ _ ?_))
 refine yC (b:=n) rfl (fun k=>?_) (fun k=>?_)
 ·have c:=zT k c
  refine zC fun az R=>zA ?_
  obtain ⟨a0,T,c⟩:=zG c
  subst T
  refine yP rfl rfl (kM (r:=Rp.str) (xl:=[[116,114,117,101],[102,97,108,115,101],[115,116,101,97,100,121],[112,104,97,115,101],[114,117,108,101],[110,111,116],[102,111,114],[119,105,116,104,105,110],[99,111,117,110,116],[114,105,115,101,115],[115,105,110,99,101]]) (cs:=[.string (bs [116,114,117,101]),.string (bs [102,97,108,115,101]),.string (bs [115,116,101,97,100,121]),.string (bs [112,104,97,115,101]),.string (bs [114,117,108,101]),.string (bs [110,111,116]),.string (bs [102,111,114]),.string (bs [119,105,116,104,105,110]),.string (bs [99,111,117,110,116]),.string (bs [114,105,115,101,115]),.string (bs [115,105,110,99,101])]) u22 el9 (by decide) (by decide) rfl (xP (vs:=[.string (bs [116,114,117,101]),.string (bs [102,97,108,115,101]),.string (bs [115,116,101,97,100,121]),.string (bs [112,104,97,115,101]),.string (bs [114,117,108,101]),.string (bs [110,111,116]),.string (bs [102,111,114]),.string (bs [119,105,116,104,105,110]),.string (bs [99,111,117,110,116]),.string (bs [114,105,115,101,115]),.string (bs [115,105,110,99,101])]) (by decide) rfl rfl ⟨rfl,rfl,rfl,rfl,rfl,rfl,rfl,rfl,rfl,rfl,rfl,trivial⟩ rfl) H ⟨[.string (bs [116,114,117,101])],[.string (bs [102,97,108,115,101]),.string (bs [115,116,101,97,100,121]),.string (bs [112,104,97,115,101]),.string (bs [114,117,108,101]),.string (bs [110,111,116]),.string (bs [102,111,114]),.string (bs [119,105,116,104,105,110]),.string (bs [99,111,117,110,116]),.string (bs [114,105,115,101,115]),.string (bs [115,105,110,99,101])],rfl,rfl,⟨[.string (bs [102,97,108,115,101])],[.string (bs [115,116,101,97,100,121]),.string (bs [112,104,97,115,101]),.string (bs [114,117,108,101]),.string (bs [110,111,116]),.string (bs [102,111,114]),.string (bs [119,105,116,104,105,110]),.string (bs [99,111,117,110,116]),.string (bs [114,105,115,101,115]),.string (bs [115,105,110,99,101])],rfl,rfl,⟨[.string (bs [115,116,101,97,100,121])],[.string (bs [112,104,97,115,101]),.string (bs [114,117,108,101]),.string (bs [110,111,116]),.string (bs [102,111,114]),.string (bs [119,105,116,104,105,110]),.string (bs [99,111,117,110,116]),.string (bs [114,105,115,101,115]),.string (bs [115,105,110,99,101])],rfl,rfl,⟨[.string (bs [112,104,97,115,101])],[.string (bs [114,117,108,101]),.string (bs [110,111,116]),.string (bs [102,111,114]),.string (bs [119,105,116,104,105,110]),.string (bs [99,111,117,110,116]),.string (bs [114,105,115,101,115]),.string (bs [115,105,110,99,101])],rfl,rfl,⟨[.string (bs [114,117,108,101])],[.string (bs [110,111,116]),.string (bs [102,111,114]),.string (bs [119,105,116,104,105,110]),.string (bs [99,111,117,110,116]),.string (bs [114,105,115,101,115]),.string (bs [115,105,110,99,101])],rfl,rfl,⟨[.string (bs [110,111,116])],[.string (bs [102,111,114]),.string (bs [119,105,116,104,105,110]),.string (bs [99,111,117,110,116]),.string (bs [114,105,115,101,115]),.string (bs [115,105,110,99,101])],rfl,rfl,⟨[.string (bs [102,111,114])],[.string (bs [119,105,116,104,105,110]),.string (bs [99,111,117,110,116]),.string (bs [114,105,115,101,115]),.string (bs [115,105,110,99,101])],rfl,rfl,⟨[.string (bs [119,105,116,104,105,110])],[.string (bs [99,111,117,110,116]),.string (bs [114,105,115,101,115]),.string (bs [115,105,110,99,101])],rfl,rfl,⟨[.string (bs [99,111,117,110,116])],[.string (bs [114,105,115,101,115]),.string (bs [115,105,110,99,101])],rfl,rfl,⟨[.string (bs [114,105,115,101,115])],[.string (bs [115,105,110,99,101])],rfl,rfl,⟨[.string (bs [115,105,110,99,101])],[],rfl,rfl,rfl⟩⟩⟩⟩⟩⟩⟩⟩⟩⟩⟩) ?_
  rintro U a1 H
  refine zI (.pointer v1) ?_
  obtain ⟨f,V,c⟩:=zD c
  obtain ⟨o,p,a2,X,Y,Z,aa,ab⟩:=ptf_some ((H.item (i:=0) rfl):PtF _ _ _ _ _) V
  obtain ⟨ac,ae,af,rfl,ag,ah,ai⟩:=aC aa
  have H:=H.fzs [.at o p _,.sl Rp.str ac f.r.Phases,.sl fA ae f.r.Moves,.sl fC af f.r.Rules] ⟨⟨Y,Z,ab⟩,ag,ah,ai,trivial⟩
  refine zH (zN (ad:=⟨o,p,none⟩) (congrArg Value.pointer X))<| zH (dW rfl)<| zH (fa107_3 rfl)<| zH (xA bC rfl (Cells.get (H.item (i:=6) rfl).2.2 (i:=5) rfl)) ?_
  have aj:=H
  have H:=H.freeze (i:=5) rfl
  obtain ⟨q,ak,c⟩:=zD c
  refine yA rfl rfl (zV en87 rfl) (Faxw ([[116,114,117,101],[102,97,108,115,101],[115,116,101,97,100,121],[112,104,97,115,101],[114,117,108,101],[110,111,116],[102,111,114],[119,105,116,104,105,110],[99,111,117,110,116],[114,105,115,101,115],[115,105,110,99,101]]:List Str) f.now.text U _ ak _ _ _ (H.enter [] [5] (by decide) rfl)) ?_
  rintro _ a3 ⟨rfl,al⟩
  have H:=aj.step (al.only:Only [] _ _)
  refine ⟨_,rfl,?_⟩
  refine zK (.bool q)<| zF (zB (R _ _ ?_))
  obtain rfl:=gI c
  refine (zY (yG (zZ (fF (v1:= .bool q) rfl rfl ?_))))
  exact ⟨rfl,H.pick [] (by decide)⟩
 have c:=zU k c
 refine (yB (yK (zB (v _ _ ?_))))
 refine zC fun a4 am=>zA<| zI (.pointer v1) ?_
 have an:=H
 obtain ⟨s,ao,c⟩:=zD c
 refine yA rfl rfl (zV en121 rfl) (Fajw h [40] v1 _ ao _ _ _ (H.enter [] [0] (by decide) rfl)) ?_
 rintro _ a5 ⟨rfl,ap⟩
 have H:=an.step (ap.only:Only [] _ _)
 refine ⟨_,rfl,?_⟩
 refine zK (.bool s)<| zF (zB (am _ _ ?_))
 obtain rfl:=gI c
 refine (zY (fF (v1:= .bool s) rfl rfl ?_))
 exact ⟨rfl,H.pick [] (by decide)⟩
theorem Ffdw (a:gB)(c:Nat)(f:Value)(h:Value)(i:Value)(r:Int×gB)(d:Ffd a=some r)(O S:List Nat)(w:World)(H:Hd O w w S [.own Rp.str f 9 a.r.Phases,.own fA h 122 a.r.Moves,.own fC i 95 a.r.Rules,.blk c [sb a.text,i6 a.at_,i6 a.now.kind,i6 a.now.at_,i6 a.now.n,sb a.now.text,f,h,i] 109,.fz (.gi 4)]):
  Cl 219 [gU c] w fun e s=> ∃o p q,e= .returned (i6 r.1)∧Hd O w s S [.own Rp.str o 9 r.2.r.Phases,.own fA p 122 r.2.r.Moves,.own fC q 95 r.2.r.Rules,.blk c [sb r.2.text,i6 r.2.at_,i6 r.2.now.kind,i6 r.2.now.at_,i6 r.2.now.n,sb r.2.now.text,o,p,q] 109]:=by
 unfold Ffd at d
 refine zS 6 Tryz.func219 rfl rfl rfl ?_
 refine zC fun A t=>zA<| zK (i6 0)<| zF (zB (t _ _ ?_))
 refine zC fun B u=>zA<| zI (gU c) ?_
 obtain ⟨⟨j,b⟩,x,d⟩:=zD d
 refine yA rfl rfl (zV en177 rfl) (Fdzw (gB.mk a.text a.at_ (gZ.mk a.now.kind a.now.at_ a.now.n a.now.text) (Rules.mk a.r.Phases a.r.Moves a.r.Rules)) 3 c f h i _ x _ _ _ (H.enter [0,1,2,3] [4] (by decide) rfl)) ?_
 rintro _ y ⟨k,l,m,rfl,z⟩
 have H:Hd _ _ y _ [.fz (.gi 4),.own Rp.str k 9 b.r.Phases,.own fA l 122 b.r.Moves,.own fC m 95 b.r.Rules,.blk c [sb b.text,i6 b.at_,i6 b.now.kind,i6 b.now.at_,i6 b.now.n,sb b.now.text,k,l,m] 109]:=H.back [0,1,2,3] [4] rfl z
 refine ⟨_,rfl,?_⟩
 refine zH (Do_field1 (v:=i6 j.n) fo107_2 fU rfl rfl)<| zK (i6 j.n)<| zF (zB (u _ _ ?_))
 obtain rfl:=gI d
 refine (zY (fF (v1:=i6 j.n) rfl rfl ?_))
 exact ⟨k,l,m,rfl,H.pick [1,2,3,4] (by decide)⟩
theorem Ff2w (h:gB)(k:Nat)(u:Value)(x:Value)(y:Value)(r:Cond×gB)(c:Ff2 h=some r)(O S:List Nat)(w:World)(H:Hd O w w S [.own Rp.str u 9 h.r.Phases,.own fA x 122 h.r.Moves,.own fC y 95 h.r.Rules,.blk k [sb h.text,i6 h.at_,i6 h.now.kind,i6 h.now.at_,i6 h.now.n,sb h.now.text,u,x,y] 109,.fz (.at 0 0 ((Fl.arr 7 Fl.str).f zM)),.fz (.gi 4)]):
  Cl 217 [gU k] w fun e q=> ∃L M P Q,e= .returned (.agg [i6 r.1.Kind,sb r.1.Name,sb r.1.Other,i6 r.1.Op,i6 r.1.N,i6 r.1.Frames,L].toArray)∧Hd O w q S [f1 fD L r.1.Kids,.own Rp.str M 9 r.2.r.Phases,.own fA P 122 r.2.r.Moves,.own fC Q 95 r.2.r.Rules,.blk k [sb r.2.text,i6 r.2.at_,i6 r.2.now.kind,i6 r.2.now.at_,i6 r.2.now.n,sb r.2.now.text,M,P,Q] 109]:=by
 unfold Ff2 at c
 refine zS 45 Tryz.func217 rfl rfl rfl ?_
 refine zC fun a1 T=>zA<| yP rfl rfl (xH kF H) ?_
 rintro _ a2 ⟨z,rfl,H⟩
 refine zF (zB (T _ _ ?_))
 refine zC fun a3 U=>zA<| zI (gU k) ?_
 obtain ⟨⟨p,d⟩,V,c⟩:=zD c
 refine yA rfl rfl (zV en122 rfl) (Fdfw (gB.mk h.text h.at_ (gZ.mk h.now.kind h.now.at_ h.now.n h.now.text) (Rules.mk h.r.Phases h.r.Moves h.r.Rules)) k u x y _ V _ _ _ (H.enter [0,1,2,3] [5] (by decide) rfl)) ?_
 rintro _ Y ⟨A,B,C,rfl,Z⟩
 have H:Hd _ _ Y _ [.fz (.at 0 0 ((Fl.arr 7 Fl.str).f zM)),.fz (.gi 4),.blk z [i6 0,.string (bs []),.string (bs []),i6 0,i6 0,i6 0,.slice none 0 0] 70,.own Rp.str A 9 d.r.Phases,.own fA B 122 d.r.Moves,.own fC C 95 d.r.Rules,.blk k [sb d.text,i6 d.at_,i6 d.now.kind,i6 d.now.at_,i6 d.now.n,sb d.now.text,A,B,C] 109]:=H.back [0,1,2,3] [5] rfl Z
 refine ⟨_,rfl,?_⟩
 refine zH (xM (cs:=[i6 3,sb p,.string (bs []),i6 0,i6 0,i6 0,.slice none 0 0]) (bt70_0_1 _ _))<| yP rfl rfl (xH kF H) ?_
 rintro _ a4 ⟨R,rfl,H⟩
 refine yV rfl (yQ (vs:=[i6 3,sb p,.string (bs []),i6 0,i6 0,i6 0,.slice none 0 0]) H 7 rfl dB rfl rfl rfl ⟨rfl,rfl,rfl,rfl,rfl,rfl,rfl,trivial⟩ rfl) ?_
 rintro a5 H
 refine zF (zB (U _ _ ?_))
 refine zC fun a6 aa=>?_
 have ab:=H
 have H:=H.rebase
 have a7:=H
 refine wB H [0,1,2,3,4,5,6,7,8] (kz [0,0,0,0,0,1,1,0,3]) mixed ?_
 refine MxM.XL_exP rfl rfl rfl (Lx_sliceAA (e:=Fl.str) (X:=zM) (r:=Rp.str) (fun _ _ _ _=>Iff.rfl) rfl u209 sz9 (H.item (i:=0) rfl).1 (H.item (i:=0) rfl).2.1 (H.item (i:=0) rfl).2.2 rfl (by decide)) ?_
 rintro t ac
 have H:=H.fz (.sl Rp.str t zM.l) ac
 refine XM (gU k)<| XP (fun _ _=>zN rfl)<| XP (fun _ _=>dW rfl)<| XP (fun _ _=>fa107_3 rfl)<| XR bC H 6 5 rfl rfl ?_
 have ad:=H
 obtain ⟨o,ae,c⟩:=zD c
 refine MxM.XL_call oS rfl rfl rfl (v:=i6 o) (fun q s=>zV en136 rfl) (fun q s=>bU (Fagw zM.l d.now.text t _ ae _ _ _ ((H.sees s).enter [] [8] (by decide) rfl))) ?_
 have H:=ad
 refine XP (fun _ _=>fa70_3 rfl)<| MxM.XL_exU oS rfl rfl (fun q s=>xE (H.sees s) 7 rfl sz3 rfl (v:=i6 o) rfl rfl rfl) ?_
 rintro q a8 s H
 refine ⟨H.only,?_⟩
 refine MxM.xI fun a9 hS=>?_
 have H:=H.sees hS
 have H:=ab.rejoin H
 refine (zB (aa _ _ ?_))
 refine zC fun ba af=>?_
 refine zC fun bb ag=>zA<| zI (gU k)<| zH (zN rfl)<| zH (dW rfl)<| zH (kQ rfl)<| Ld fU H 6 2 rfl rfl ?_
 obtain ⟨bc,ah,c⟩:=zG c
 refine zH (zQ (dH (a:=d.now.kind) (b:=4) rfl rfl) ah) ?_
 obtain ⟨ai,c⟩:=xZ c
 refine RL_sp false ai ?_
 refine zH (fa70_3 rfl)<| Ld fU H 7 3 rfl rfl ?_
 obtain ⟨aj,ak,c⟩:=zG c
 refine zH (zQ (xR (a:=o) (b:=1) rfl rfl) ak)<| zH (yN (v:= .bool aj) rfl rfl)<| zF (zB (ag _ _ ?_))
 obtain ⟨al,c⟩:=xZ c
 refine dD al ?_
 refine yB (zB (af _ _ ?_))
 refine zC fun bd am=>zA<| zI (gU k) ?_
 obtain ⟨j,an,c⟩:=zD c
 refine yA rfl rfl (zV en120 rfl) (Fanw (gB.mk d.text d.at_ (gZ.mk d.now.kind d.now.at_ d.now.n d.now.text) (Rules.mk d.r.Phases d.r.Moves d.r.Rules)) k A B C _ an _ _ _ (H.enter [3,4,5,6] [1] (by decide) rfl)) ?_
 rintro _ ao ⟨D,E,F,rfl,ap⟩
 have H:Hd _ _ ao _ [.fz (.at 0 0 ((Fl.arr 7 Fl.str).f zM)),.fz (.gi 4),.blk z [i6 0,.string (bs []),.string (bs []),i6 0,i6 0,i6 0,.slice none 0 0] 70,.blk R [i6 3,sb p,.string (bs []),i6 o,i6 0,i6 0,.slice none 0 0] 70,f1 Rp.str t zM.l,.own Rp.str D 9 j.r.Phases,.own fA E 122 j.r.Moves,.own fC F 95 j.r.Rules,.blk k [sb j.text,i6 j.at_,i6 j.now.kind,i6 j.now.at_,i6 j.now.n,sb j.now.text,D,E,F] 109]:=H.back [3,4,5,6] [1] rfl ap
 refine ⟨_,rfl,?_⟩
 refine zF (zB (am _ _ ?_))
 refine zC fun be aq=>?_
 refine zC fun bf ar=>zA<| zI (gU k)<| zH (zN rfl)<| zH (dW rfl)<| zH (kQ rfl)<| Ld fU H 8 2 rfl rfl ?_
 obtain ⟨bg,au,c⟩:=zG c
 refine zH (zQ (yT (a:=j.now.kind) (b:=2) rfl rfl) au)<| zF (zB (ar _ _ ?_))
 obtain ⟨av,c⟩:=xZ c
 refine dD av ?_
 refine yB (zB (aq _ _ ?_))
 refine zC fun bh aw=>zA<| zI (gU k) ?_
 obtain ⟨⟨G,m⟩,ax,c⟩:=zD c
 refine yA rfl rfl (zV en219 rfl) (Ffdw (gB.mk j.text j.at_ (gZ.mk j.now.kind j.now.at_ j.now.n j.now.text) (Rules.mk j.r.Phases j.r.Moves j.r.Rules)) k D E F _ ax _ _ _ (H.enter [5,6,7,8] [1] (by decide) rfl)) ?_
 rintro _ ay ⟨I,J,K,rfl,az⟩
 have H:Hd _ _ ay _ [.fz (.at 0 0 ((Fl.arr 7 Fl.str).f zM)),.fz (.gi 4),.blk z [i6 0,.string (bs []),.string (bs []),i6 0,i6 0,i6 0,.slice none 0 0] 70,.blk R [i6 3,sb p,.string (bs []),i6 o,i6 0,i6 0,.slice none 0 0] 70,f1 Rp.str t zM.l,.own Rp.str I 9 m.r.Phases,.own fA J 122 m.r.Moves,.own fC K 95 m.r.Rules,.blk k [sb m.text,i6 m.at_,i6 m.now.kind,i6 m.now.at_,i6 m.now.n,sb m.now.text,I,J,K] 109]:=H.back [5,6,7,8] [1] rfl az
 refine ⟨_,rfl,?_⟩
 refine zH (fa70_4 rfl)<| yV rfl (xE H 3 rfl sz3 rfl (v:=i6 G) rfl rfl rfl) ?_
 rintro bi H
 refine zF (zB (aw _ _ ?_))
 refine zC fun bj a0=>zA<| zH (yJ (yM (cs:=[i6 3,sb p,.string (bs []),i6 o,i6 G,i6 0,.slice none 0 0]) dI rfl dB rfl (Hbc H 3 rfl)) rfl)<| yV rfl (yQ (vs:=[i6 3,sb p,.string (bs []),i6 o,i6 G,i6 0,.slice none 0 0]) H 2 rfl dB rfl rfl rfl ⟨rfl,rfl,rfl,rfl,rfl,rfl,rfl,trivial⟩ rfl) ?_
 rintro bk H
 refine zF (zB (a0 _ _ ?_))
 have H:=H.fz (.sl fD (.slice none 0 0) []) SlF.nil
 obtain rfl:=gI c
 refine (zY (postc rfl rfl (xB dI dB rfl (Hbc H 2 rfl)) ?_))
 exact ⟨.slice none 0 0,I,J,K,rfl,H.pick [9,5,6,7,8] (by decide)⟩
abbrev Fde (f:gB→Int→Option (Cond×gB)):Prop:= ∀(p0:gB) (p1:Int) (b1:Nat) (v2:Value) (v3:Value) (v4:Value) (r:Cond×gB) (_:f p0 p1=some r) (O S:List Nat) (w:World) (_:Hd O w w S [.own Rp.str v2 9 p0.r.Phases,.own fA v3 122 p0.r.Moves,.own fC v4 95 p0.r.Rules,.blk b1 [sb p0.text,i6 p0.at_,i6 p0.now.kind,i6 p0.now.at_,i6 p0.now.n,sb p0.now.text,v2,v3,v4] 109,.fz (.at 0 0 ((Fl.arr 7 Fl.str).f zM)),.fz (.gi 4)]),
  Cl 181 [gU b1,i6 p1] w fun e w'=> ∃u11 u12 u13 u14,e= .returned (.agg [i6 r.1.Kind,sb r.1.Name,sb r.1.Other,i6 r.1.Op,i6 r.1.N,i6 r.1.Frames,u11].toArray)∧Hd O w w' S [f1 fD u11 r.1.Kids,.own Rp.str u12 9 r.2.r.Phases,.own fA u13 122 r.2.r.Moves,.own fC u14 95 r.2.r.Rules,.blk b1 [sb r.2.text,i6 r.2.at_,i6 r.2.now.kind,i6 r.2.now.at_,i6 r.2.now.n,sb r.2.now.text,u12,u13,u14] 109]
theorem Fd9w (rfA:gB→Int→Option (Cond×gB))(rhA:Fde rfA)(q:Int)(h:gB)(m:Int)(o:Nat)(l:Nat)(u:Value)(v:Value)(y:Value)(p:Nat)(r:(List Cond)×gB)(c:Fd9 rfA q h m=some r)(O S:List Nat)(w:World)(H:Hd O w w S [.own Rp.str u 9 h.r.Phases,.own fA v 122 h.r.Moves,.own fC y 95 h.r.Rules,.blk l [sb h.text,i6 h.at_,i6 h.now.kind,i6 h.now.at_,i6 h.now.n,sb h.now.text,u,v,y] 109,.blk o [gU l] 105,.blk p [i6 m] 3,.fz (.at 0 0 ((Fl.arr 7 Fl.str).f zM)),.fz (.gi 4)]):
  Cl 218 [i6 q,gU o,gU p] w fun e T=> ∃E F G I,e= .returned (E)∧Hd O w T S [.own fD E 70 r.1,.own Rp.str F 9 r.2.r.Phases,.own fA G 122 r.2.r.Moves,.own fC I 95 r.2.r.Rules,.blk l [sb r.2.text,i6 r.2.at_,i6 r.2.now.kind,i6 r.2.now.at_,i6 r.2.now.n,sb r.2.now.text,F,G,I] 109,.blk o [gU l] 105,.blk p [i6 m] 3]:=by
 unfold Fd9 at c
 refine zS 18 Tryz.func218 rfl rfl rfl ?_
 refine zC fun a6 U=>zA<| zK (.slice none 0 0)<| zF (zB (U _ _ ?_))
 refine zC fun a7 V=>zA<| zK (.slice none 0 0)<| zF (zB (V _ _ ?_))
 obtain ⟨k,c,X⟩:=zD c
 refine yL [5,6,7,8,9,10,11,12,13,14,15,16] (fun (g:Value×Value×Value×Value)=>[(5,g.1)]) (fun g wl=>Hd O w wl S [.own fD g.1 70 k.1,.blk l [sb k.2.1,i6 k.2.2.1,i6 k.2.2.2.1,i6 k.2.2.2.2.1,i6 k.2.2.2.2.2.1,sb k.2.2.2.2.2.2.1,g.2.1,g.2.2.1,g.2.2.2] 109,.own Rp.str g.2.1 9 k.2.2.2.2.2.2.2.1,.own fA g.2.2.1 122 k.2.2.2.2.2.2.2.2.1,.own fC g.2.2.2 95 k.2.2.2.2.2.2.2.2.2,.blk o [gU l] 105,.blk p [i6 m] 3,.fz (.at 0 0 ((Fl.arr 7 Fl.str).f zM)),.fz (.gi 4)]) ?_ ?_
 ·skip
  refine zC fun a8 Y=>zA<| zI (i6 q)<| zI (i6 0)<| zF (zB (Y _ _ ?_))
  refine yF ?_
  have H:=dY H fD 70
  unfold Fgk at c
  obtain ⟨Z,J,aa,c⟩:=yR c
  refine xG [5,7,8,9,10,11,12,13,14,15,16] (fun (g:Nat×(List Cond)×Int×Str×Int×Int×Int×Int×Str×(List Str)×(List aF)×(List bJ)×Value×Value×Value×Value)=>[(5,g.2.2.2.2.2.2.2.2.2.2.2.2.1),(7,i6 g.2.2.1)]) (fun g wl=>Hd O w wl S [.own fD g.2.2.2.2.2.2.2.2.2.2.2.2.1 70 g.2.1,.blk l [sb g.2.2.2.1,i6 g.2.2.2.2.1,i6 g.2.2.2.2.2.1,i6 g.2.2.2.2.2.2.1,i6 g.2.2.2.2.2.2.2.1,sb g.2.2.2.2.2.2.2.2.1,g.2.2.2.2.2.2.2.2.2.2.2.2.2.1,g.2.2.2.2.2.2.2.2.2.2.2.2.2.2.1,g.2.2.2.2.2.2.2.2.2.2.2.2.2.2.2] 109,.own Rp.str g.2.2.2.2.2.2.2.2.2.2.2.2.2.1 9 g.2.2.2.2.2.2.2.2.2.1,.own fA g.2.2.2.2.2.2.2.2.2.2.2.2.2.2.1 122 g.2.2.2.2.2.2.2.2.2.2.1,.own fC g.2.2.2.2.2.2.2.2.2.2.2.2.2.2.2 95 g.2.2.2.2.2.2.2.2.2.2.2.1,.blk o [gU l] 105,.blk p [i6 m] 3,.fz (.at 0 0 ((Fl.arr 7 Fl.str).f zM)),.fz (.gi 4)]∧eF Z g.1 (g.2.1,g.2.2.1,g.2.2.2.1,g.2.2.2.2.1,g.2.2.2.2.2.1,g.2.2.2.2.2.2.1,g.2.2.2.2.2.2.2.1,g.2.2.2.2.2.2.2.2.1,g.2.2.2.2.2.2.2.2.2.1,g.2.2.2.2.2.2.2.2.2.2.1,g.2.2.2.2.2.2.2.2.2.2.2.1)=some k) (fun g=>g.1) (J,[],0,h.text,h.at_,h.now.kind,h.now.at_,h.now.n,h.now.text,h.r.Phases,h.r.Moves,h.r.Rules,.slice none 0 0,u,v,y) (zL rfl (zL rfl zO)) ⟨H.pick [8,3,0,1,2,4,5,6,7] (by decide),c⟩ ?_
  clear H c
  rintro ⟨J,ab,K,ac,ad,ae,af,ag,ah,ai,aj,ak,z,L,M,P⟩ ρ a9 ⟨H,c⟩
  obtain ⟨al,rfl,c⟩:=yX c
  have c:=yY aa c
  refine zC fun ba am=>zA ?_
  obtain ⟨an,ao,c⟩:=zG c
  refine zH (zQ (xR (a:=K) (b:=q) rfl rfl) ao)<| zF (zB (am _ _ ?_))
  refine zC fun bb ap=>?_
  refine yC (b:=an) rfl (fun A=>?_) (fun A=>?_)
  ·have c:=zT A c
   refine yB (zB (ap _ _ ?_))
   refine zC fun bc aq=>?_
   refine yF ?_
   refine zA ?_
   refine zI z<| Ld one105 H 5 0 rfl rfl<| Ld fU H 6 0 rfl rfl ?_
   obtain ⟨ar,au,c⟩:=zG c
   refine zH (xQ (a:=m) (b:=1) rfl rfl au) ?_
   obtain ⟨⟨d,j⟩,av,c⟩:=zD c
   refine yA rfl rfl (zV en181 rfl) (rhA (gB.mk ac ad (gZ.mk ae af ag ah) (Rules.mk ai aj ak)) ar l L M P _ av _ _ _ (H.enter [2,3,4,1] [7,8] (by decide) rfl)) ?_
   rintro _ aw ⟨s,B,C,D,rfl,ax⟩
   have H:Hd _ _ aw _ [.own fD z 70 ab,.blk o [gU l] 105,.blk p [i6 m] 3,.fz (.at 0 0 ((Fl.arr 7 Fl.str).f zM)),.fz (.gi 4),f1 fD s d.Kids,.own Rp.str B 9 j.r.Phases,.own fA C 122 j.r.Moves,.own fC D 95 j.r.Rules,.blk l [sb j.text,i6 j.at_,i6 j.now.kind,i6 j.now.at_,i6 j.now.n,sb j.now.text,B,C,D] 109]:=H.back [2,3,4,1] [7,8] rfl ax
   refine ⟨_,rfl,?_⟩
   obtain ⟨bd,ay,c⟩:=zG c
   subst ay
   refine yP rfl rfl (kM (r:=fD) (xl:=[d]) (cs:=[i6 d.Kind,sb d.Name,sb d.Other,i6 d.Op,i6 d.N,i6 d.Frames,s]) u68 el70 (by decide) (by decide) rfl (xP (vs:=[.agg [i6 d.Kind,sb d.Name,sb d.Other,i6 d.Op,i6 d.N,i6 d.Frames,s].toArray]) (by decide) rfl rfl ⟨rfl,trivial⟩ rfl) H ⟨[i6 d.Kind,sb d.Name,sb d.Other,i6 d.Op,i6 d.N,i6 d.Frames,s],[],rfl,(rCond_mk (x:=d) (H.item (i:=5) rfl)),rfl⟩) ?_
   rintro be bf H
   obtain ⟨az,a0,c⟩:=zD c
   refine yP rfl rfl (aO H (i:=0) rfl u68 el70 rfl rfl (Sr.of_own (H.item (i:=10) rfl)) a0) ?_
   rintro Q bg H
   refine zK Q<| (zF (yK (zB (aq _ _ ?_))))
   refine zA ?_
   obtain ⟨R,a1,c⟩:=zG c
   refine zH (xQ (a:=K) (b:=1) rfl rfl a1)<| zI (i6 R) ?_
   exact (zF (zB (meet ⟨(al,az,R,j.text,j.at_,j.now.kind,j.now.at_,j.now.n,j.now.text,j.r.Phases,j.r.Moves,j.r.Rules,Q,B,C,D),(zL rfl (zL rfl zO)),⟨H.pick [0,9,6,7,8,1,2,3,4] (by decide),c⟩,Nat.lt_succ_self _⟩)))
  have c:=zU A c
  obtain rfl:=gI c
  exact (xK (yH (yH (yU (zB (meet ⟨(z,L,M,P),(zL rfl zO),H.pick [0,1,2,3,4,5,6,7,8] (by decide)⟩))))))
 rintro ⟨t,a2,a3,a4⟩ ρ bh H
 have c:=X
 obtain ⟨bi,bj,bk,bl,bm,bn,bo,bp,bq,br⟩:=k
 refine zC fun bt a5=>zA<| zI t<| zK t<| zF (zB (a5 _ _ ?_))
 obtain rfl:=gI c
 refine (zY (fF (v1:=t) rfl rfl ?_))
 exact ⟨t,a2,a3,a4,rfl,H.pick [0,2,3,4,1,5,6] (by decide)⟩
end Go.Proofs.YtckmiljbaejijaaGreatDoor.L
