/- Walks: what each function computes, for every argument; no condition but those that stand in the statements. -/
import Derived.Test.YtckmiljbaejijaaGreatDoorUV0
namespace Go.Proofs.YtckmiljbaejijaaGreatDoor.L
open Go.RowKit Go.OB Go.Lf
set_option maxHeartbeats 4000000
set_option maxRecDepth 100000 in
theorem Fd1w (d:Int)(l:List Int)(v1:Value)(r:(Arr 64 Int)×Int)(c:Fd1 d l=some r)(O S:List Nat)(w:World)(H:Hd O w w S [f1 (Rp.int .i64) v1 l,.fz (.at 1 0 ((Fl.arr 4 (Fl.int .u16)).f yJ))]):
  Calls Tryz.prog 52 ([i6 d,v1]:List Value).toArray w fun e N=>e= .returned (.tuple #[.agg ((Fl.arr 64 (Fl.int .u16)).f r.1).toArray,i6 r.2])∧Hd O w N S []:=by
 unfold Fd1 at c
 refine zZ 50 Tryz.func52 rfl rfl rfl ?_
 refine zC fun K4 P=>zB<| yY rfl rfl (xN zero98 H) ?_
 rintro _ w7 ⟨m,rfl,H⟩
 refine zK (i6 0)<| zG (zA (P _ _ ?_))
 refine zC fun cb Q=>?_
 obtain ⟨E,c,R⟩:=zF c
 refine yH [9,10,11,12,13,14] (fun (g:Unit)=>[(14,.bool E)]) (fun g wl=>Hd O w wl S [f1 (Rp.int .i64) v1 l,.fz (.at 1 0 ((Fl.arr 4 (Fl.int .u16)).f yJ)),.blk m ((Fl.arr 64 (Fl.int .u16)).f (Arr.rep 64 0:Arr 64 Int)) 98]) ?_ ?_
 ·skip
  refine zB ?_
  refine zJ (i6 d) ?_
  obtain ⟨T,U,c⟩:=zD c
  refine zH (zM (xK (a:=d) (b:=0) rfl rfl) U)<| yM (b:=T) rfl rfl rfl (fun p=>?_) (fun p=>?_)
  ·have c:=zN p c
   refine yE ?_
   refine yE ?_
   refine zH (yI (v:= .bool true) rfl rfl) ?_
   obtain rfl:=gI c
   exact (zG (zA (meet ⟨(),(zI rfl zL),H.pick [0,1,2] (by decide)⟩)))
  have c:=zO p c
  refine zJ (i6 d) ?_
  obtain ⟨V,Y,c⟩:=zD c
  refine zH (zM (aJ (a:=d) (b:=4194304) rfl rfl) Y)<| zH (yF (v:= .bool V) rfl rfl) ?_
  obtain rfl:=gI c
  exact (zG (zA (meet ⟨(),(zI rfl zL),H.pick [0,1,2] (by decide)⟩)))
 rintro _ ρ cc H
 have c:=R
 refine zW (b:=E) rfl (fun s=>?_) (fun s=>?_)
 ·have c:=zN s c
  refine zC fun cd Z=>zB<| zH (xO (cs:=(Fl.arr 64 (Fl.int .u16)).f (Arr.rep 64 0:Arr 64 Int)) bz98)<| xB rfl (Lx_storeW (e:=(Fl.arr 64 (Fl.int .u16))) (a:=(Arr.rep 64 0:Arr 64 Int)) (a':=(Arr.rep 64 0:Arr 64 Int)) H 2 rfl sz98 rfl rfl) ?_
  rintro ce H
  refine zK (i6 9)<| zG (zA (Z _ _ ?_))
  obtain rfl:=gI c
  refine (zY (zT (bY (v1:=i6 9) rfl rfl (xG agg98 sz98 (Fl.len _ _) (Hbc H 2 rfl)) rfl ?_)))
  exact ⟨rfl,H.pick [] (by decide)⟩
 have c:=zO s c
 refine zX (zA (Q _ _ ?_))
 refine zC fun cf aa=>?_
 refine zC fun cg ab=>zB<| zJ v1 ?_
 obtain ⟨ac,ad,c⟩:=zD c
 obtain ⟨ch,ci,ae⟩:=SlF.len ((H.item (i:=0) rfl))
 refine zH (yO (xI u38 ae) (congrArg (Value.int .i64) ad)) ?_
 obtain ⟨af,ag,c⟩:=zD c
 refine zH (zM (wL (a:=ac) (b:=58) rfl rfl) ag)<| zG (zA (ab _ _ ?_))
 refine zW (b:=af) rfl (fun t=>?_) (fun t=>?_)
 ·have c:=zN t c
  refine zC fun cj ah=>zB<| zH (xO (cs:=(Fl.arr 64 (Fl.int .u16)).f (Arr.rep 64 0:Arr 64 Int)) bz98)<| xB rfl (Lx_storeW (e:=(Fl.arr 64 (Fl.int .u16))) (a:=(Arr.rep 64 0:Arr 64 Int)) (a':=(Arr.rep 64 0:Arr 64 Int)) H 2 rfl sz98 rfl rfl) ?_
  rintro ck H
  refine zK (i6 3)<| zG (zA (ah _ _ ?_))
  obtain rfl:=gI c
  refine (zY (zT (bY (v1:=i6 3) rfl rfl (xG agg98 sz98 (Fl.len _ _) (Hbc H 2 rfl)) rfl ?_)))
  exact ⟨rfl,H.pick [] (by decide)⟩
 have c:=zO t c
 refine zX (zA (aa _ _ ?_))
 refine zC fun cl ai=>zB<| yY rfl rfl (xN zero98 H) ?_
 rintro _ cm ⟨n,rfl,H⟩
 refine zG (zA (ai _ _ ?_))
 refine zC fun cn aj=>zB<| zJ (i6 d) ?_
 obtain ⟨ak,al,c⟩:=zD c
 refine zH (Do_and (a:=d) (b:=2047) rfl rfl al) ?_
 have am:=H
 obtain ⟨F,an,c⟩:=zF c
 refine yG rfl rfl (yB en116 rfl) (Faxw ak _ an _ _ _ (H.enter [] [] (by decide) rfl)) ?_
 rintro _ co ⟨rfl,ao⟩
 have H:=am.step (ao.only:Only [] _ _)
 refine ⟨_,rfl,?_⟩
 refine zJ (i6 d) ?_
 obtain ⟨ap,aq,c⟩:=zF c
 refine zH (Do_shr' (j:=d) (q:=11) rfl rfl aq) ?_
 have ar:=H
 obtain ⟨G,au,c⟩:=zF c
 refine yG rfl rfl (yB en116 rfl) (Faxw ap _ au _ _ _ (H.enter [] [] (by decide) rfl)) ?_
 rintro _ cp ⟨rfl,av⟩
 have H:=ar.step (av.only:Only [] _ _)
 refine ⟨_,rfl,?_⟩
 obtain ⟨cq,u,c⟩:=zF c
 refine zH (dC (X:=(Arr.rep 64 0:Arr 64 Int)) u98 sz96 rfl rfl u) ?_
 obtain ⟨I,aw,c⟩:=zD c
 refine xB rfl (kH (e:=(Fl.int .u16)) (X:=(Arr.rep 64 0:Arr 64 Int)) (a:=F) (j:=1) H 3 rfl sz96 rfl (v:= .int .u16 F) rfl rfl (Arr.at_lt u).1 (Arr.at_lt u).2 aw) ?_
 rintro cr H
 obtain ⟨ct,x,c⟩:=zF c
 refine zH (dC (X:=I) u98 sz96 rfl rfl x) ?_
 obtain ⟨ax,ay,c⟩:=zD c
 refine xB rfl (kH (e:=(Fl.int .u16)) (X:=I) (a:=G) (j:=2) H 3 rfl sz96 rfl (v:= .int .u16 G) rfl rfl (Arr.at_lt x).1 (Arr.at_lt x).2 ay) ?_
 rintro cu H
 refine zG (zA (aj _ _ ?_))
 obtain ⟨az,a0,c⟩:=xU c
 refine yH [5,7,8,28,29,30,31,32,33,34,35,36,37,38,39,40,41,42,43,44,45,46,47] (fun (g:(Arr 64 Int))=>[]) (fun g wl=>Hd O w wl S [.fz (.at 1 0 ((Fl.arr 4 (Fl.int .u16)).f yJ)),.blk m ((Fl.arr 64 (Fl.int .u16)).f (Arr.rep 64 0:Arr 64 Int)) 98,.blk n ((Fl.arr 64 (Fl.int .u16)).f g) 98]∧az g=some r) ?_ ?_
 ·skip
  refine zC fun cv a1=>zB<| zJ v1 ?_
  obtain ⟨a2,a3,c⟩:=zD c
  obtain ⟨cw,cx,a4⟩:=SlF.len ((H.item (i:=0) rfl))
  refine zH (yO (xI u38 a4) (congrArg (Value.int .i64) a3))<| zJ (i6 0)<| zG (zA (a1 _ _ ?_))
  refine yC ?_
  unfold Fex at c
  obtain ⟨a5,J,a6,c⟩:=yR c
  refine xA [5,7,8,30,31,32,33,34,35,36,37,38,39,40,41,42,43,44,45,46,47] (fun (g:Nat×Int×(Arr 64 Int))=>[(30,i6 g.2.1)]) (fun g wl=>Hd O w wl S [f1 (Rp.int .i64) v1 l,.fz (.at 1 0 ((Fl.arr 4 (Fl.int .u16)).f yJ)),.blk m ((Fl.arr 64 (Fl.int .u16)).f (Arr.rep 64 0:Arr 64 Int)) 98,.blk n ((Fl.arr 64 (Fl.int .u16)).f g.2.2) 98]∧fV a5 g.1 (g.2.1,g.2.2)=some r) (fun g=>g.1) (J,0,ax) (zI rfl zL) ⟨H.pick [0,1,2,3] (by decide),c⟩ ?_
  clear H c
  rintro ⟨J,k,o⟩ ρ cy ⟨H,c⟩
  obtain ⟨a7,rfl,c⟩:=yV c
  have c:=yU a6 c
  refine zC fun cz a8=>zB ?_
  obtain ⟨a9,ba,c⟩:=zD c
  refine zH (zM (xK (a:=k) (b:=a2) rfl rfl) ba)<| zG (zA (a8 _ _ ?_))
  refine zC fun c0 bb=>?_
  refine zW (b:=a9) rfl (fun y=>?_) (fun y=>?_)
  ·have c:=zN y c
   refine zX (zA (bb _ _ ?_))
   refine zC fun c1 bc=>?_
   refine yC ?_
   refine zC fun c2 bd=>zB<| zJ (i6 k) ?_
   obtain ⟨h,z,c⟩:=zF c
   obtain ⟨be,bf,c3,bg,bh,bi,bj,bk,bl⟩:=wH (H.item (i:=0) rfl) z
   obtain rfl:bg= [i6 h]:=bi
   have H:=H.fz (.at be (bf+k.toNat * 1) _) ⟨bj,bk,bl⟩
   refine zH (yT u38 sz3 bh rfl (zS z).1 (zS z).2.1 rfl rfl)<| zH (yX fU rfl (Cells.get (H.item (i:=4) rfl).2.2 (i:=0) rfl))<| zK (i6 k)<| zK (i6 h)<| zG (zA (bd _ _ ?_))
   refine zC fun c4 bm=>?_
   obtain ⟨K,c,bn⟩:=zF c
   refine yH [35,36,37,38,39,40] (fun (g:Unit)=>[(40,.bool K)]) (fun g wl=>Hd O w wl S [f1 (Rp.int .i64) v1 l,.fz (.at 1 0 ((Fl.arr 4 (Fl.int .u16)).f yJ)),.blk m ((Fl.arr 64 (Fl.int .u16)).f (Arr.rep 64 0:Arr 64 Int)) 98,.blk n ((Fl.arr 64 (Fl.int .u16)).f o) 98]) ?_ ?_
   ·skip
    refine zB ?_
    refine zJ (i6 h) ?_
    obtain ⟨bo,bp,c⟩:=zD c
    refine zH (zM (xK (a:=h) (b:=0) rfl rfl) bp)<| yM (b:=bo) rfl rfl rfl (fun A=>?_) (fun A=>?_)
    ·have c:=zN A c
     refine yE ?_
     refine yE ?_
     refine zH (yI (v:= .bool true) rfl rfl) ?_
     obtain rfl:=gI c
     exact (zG (zA (meet ⟨(),(zI rfl zL),H.pick [0,1,2,3] (by decide)⟩)))
    have c:=zO A c
    refine zJ (i6 h) ?_
    obtain ⟨bq,br,c⟩:=zD c
    refine zH (zM (bM (a:=h) (b:=2047) rfl rfl) br)<| zH (yF (v:= .bool bq) rfl rfl) ?_
    obtain rfl:=gI c
    exact (zG (zA (meet ⟨(),(zI rfl zL),H.pick [0,1,2,3] (by decide)⟩)))
   rintro _ ρ c5 H
   have c:=bn
   refine zW (b:=K) rfl (fun B=>?_) (fun B=>?_)
   ·have c:=zN B c
    refine zC fun c6 bt=>zB<| zH (xO (cs:=(Fl.arr 64 (Fl.int .u16)).f (Arr.rep 64 0:Arr 64 Int)) bz98)<| xB rfl (Lx_storeW (e:=(Fl.arr 64 (Fl.int .u16))) (a:=(Arr.rep 64 0:Arr 64 Int)) (a':=(Arr.rep 64 0:Arr 64 Int)) H 2 rfl sz98 rfl rfl) ?_
    rintro c7 H
    refine zK (i6 9)<| zG (zA (bt _ _ ?_))
    obtain rfl:=gI c
    refine (zY (zT (yD (zT (zT (yD (zT (bY (v1:=i6 9) rfl rfl (xG agg98 sz98 (Fl.len _ _) (Hbc H 2 rfl)) rfl ?_))))))))
    exact ⟨rfl,H.pick [] (by decide)⟩
   have c:=zO B c
   refine zX (zA (bm _ _ ?_))
   refine zB ?_
   refine zJ (i6 k) ?_
   obtain ⟨bu,bv,c⟩:=zD c
   refine zH (xJ (a:=3) (b:=k) rfl rfl bv)<| zJ (i6 h) ?_
   have bw:=H
   obtain ⟨L,bx,c⟩:=zF c
   refine yG rfl rfl (yB en116 rfl) (Faxw h _ bx _ _ _ (H.enter [] [] (by decide) rfl)) ?_
   rintro _ c8 ⟨rfl,bz⟩
   have H:=bw.step (bz.only:Only [] _ _)
   refine ⟨_,rfl,?_⟩
   obtain ⟨c9,C,c⟩:=zF c
   refine zH (dC (X:=o) u98 sz96 rfl rfl C) ?_
   obtain ⟨b0,b1,c⟩:=zD c
   refine xB rfl (kH (e:=(Fl.int .u16)) (X:=o) (a:=L) (j:=bu) H 3 rfl sz96 rfl (v:= .int .u16 L) rfl rfl (Arr.at_lt C).1 (Arr.at_lt C).2 b1) ?_
   rintro da H
   refine (zG (yK (zA (bc _ _ ?_))))
   refine zB ?_
   obtain ⟨M,b2,c⟩:=zD c
   refine zH (xJ (a:=k) (b:=1) rfl rfl b2)<| zJ (i6 M) ?_
   exact (zG (zA (meet ⟨(a7,M,b0),(zI rfl zL),⟨H.pick [0,1,2,3] (by decide),c⟩,Nat.lt_succ_self _⟩)))
  have c:=zO y c
  exact (xH (yL (yL (yS (zA (meet ⟨o,zL,⟨H.pick [1,2,3] (by decide),c⟩⟩))))))
 rintro b3 ρ db ⟨H,c⟩
 have c:=wE a0 c
 refine zC fun dc b4=>zB ?_
 obtain ⟨D,b5,c⟩:=zF c
 refine yG rfl rfl (yB en117 rfl) (Fd9w b3 n _ b5 _ _ _ (H.enter [2] [0] (by decide) rfl)) ?_
 rintro _ b6 ⟨rfl,b7⟩
 have H:Hd _ _ b6 _ [.fz (.at 1 0 ((Fl.arr 4 (Fl.int .u16)).f yJ)),.blk m ((Fl.arr 64 (Fl.int .u16)).f (Arr.rep 64 0:Arr 64 Int)) 98,.blk n ((Fl.arr 64 (Fl.int .u16)).f D) 98]:=H.back [2] [0] rfl b7
 refine ⟨_,rfl,?_⟩
 refine zG (zA (b4 _ _ ?_))
 refine zC fun dd b8=>zB<| zH (Do_loadF (e:=(Fl.arr 64 (Fl.int .u16))) (a:=D) agg98 rfl sz98 (Hbc H 2 rfl))<| xB rfl (Lx_storeW (e:=(Fl.arr 64 (Fl.int .u16))) (a:=(Arr.rep 64 0:Arr 64 Int)) (a':=D) H 1 rfl sz98 rfl rfl) ?_
 rintro de H
 refine zK (i6 0)<| zG (zA (b8 _ _ ?_))
 obtain rfl:=gI c
 refine (zY (bY (v1:=i6 0) rfl rfl (xG agg98 sz98 (Fl.len _ _) (Hbc H 1 rfl)) rfl ?_))
 exact ⟨rfl,H.pick [] (by decide)⟩
set_option maxRecDepth 100000 in
theorem Fcsw (r:Bool)(c:Fcs=some r)(O S:List Nat)(w:World)(H:Hd O w w S [.fz (.at 1 0 ((Fl.arr 4 (Fl.int .u16)).f yJ))]):
  Calls Tryz.prog 14 ([]:List Value).toArray w fun e K=>e= .returned (.bool r)∧Hd O w K S []:=by
 unfold Fcs at c
 refine zZ 34 Tryz.func14 rfl rfl rfl ?_
 refine zC fun K2 L=>zB<| zK (.bool false)<| zG (zA (L _ _ ?_))
 refine zC fun K3 M=>zB ?_
 obtain ⟨x4,N,c⟩:=zF c
 refine yY rfl rfl (Lx_make (r:=(Rp.int .i64)) (zv:=i6 0) u38 el3 rfl (fun _ _=>rfl) rfl rfl N H) ?_
 rintro h w9 H
 refine zK h<| zG (zA (M _ _ ?_))
 refine zC fun av P=>zB<| zJ h ?_
 obtain ⟨Q,l,c⟩:=zF c
 obtain ⟨aw,ax,R,s,T,U⟩:=bH (H.item (i:=1) rfl) l
 obtain rfl:R= [i6 Q]:=T
 refine zH (yT u38 sz3 s rfl (zS l).1 (zS l).2.1 rfl rfl) ?_
 obtain ⟨k,V,c⟩:=zF c
 refine xB rfl (aI (vs:=[i6 5]) (off:=0) H 1 rfl s U rfl sz3 rfl rfl rfl (bJ ⟨rfl,trivial⟩) V (by decide) rfl rfl) ?_
 rintro ay H
 refine zG (zA (P _ _ ?_))
 refine zC fun az Y=>zB<| zJ h ?_
 have Z:=H
 have H:=H.freeze (i:=1) rfl
 obtain ⟨⟨d,j⟩,aa,c⟩:=zF c
 refine yG rfl rfl (yB en52 rfl) (Fd1w 2050 k h _ aa _ _ _ (H.enter [] [1,0] (by decide) rfl)) ?_
 rintro _ a0 ⟨rfl,ab⟩
 have H:=Z.step (ab.only:Only [] _ _)
 refine ⟨_,rfl,?_⟩
 refine zJ (.tuple #[.agg ((Fl.arr 64 (Fl.int .u16)).f d).toArray,i6 j])<| zH (xW (v:= .agg ((Fl.arr 64 (Fl.int .u16)).f d).toArray) rfl rfl)<| zH (xW (v:=i6 j) rfl rfl)<| yY rfl rfl (xN zero98 H) ?_
 rintro _ a1 ⟨m,rfl,H⟩
 refine xB rfl (Lx_storeW (e:=(Fl.arr 64 (Fl.int .u16))) (a:=(Arr.rep 64 0:Arr 64 Int)) (a':=d) H 2 rfl sz98 rfl rfl) ?_
 rintro a2 H
 refine zK (i6 j)<| zG (zA (Y _ _ ?_))
 obtain ⟨t,c,ac⟩:=zF c
 refine yH [0,12,13,14,15,16,17,18,19,20,21,22,23,24,25,26,27,28,29,30,31,32,33] (fun (g:Unit)=>[(0,.bool t)]) (fun g wl=>Hd O w wl S [.fz (.at 1 0 ((Fl.arr 4 (Fl.int .u16)).f yJ))]) ?_ ?_
 ·skip
  refine zB ?_
  refine zJ (i6 j) ?_
  obtain ⟨ad,ae,c⟩:=zD c
  refine zH (zM (yZ (a:=j) (b:=0) rfl rfl) ae) ?_
  obtain ⟨u,c,af⟩:=zF c
  refine dF 5 [14,15,16,17,18] [(18,.bool u)] (fun wl=>Hd O w wl S [.fz (.at 1 0 ((Fl.arr 4 (Fl.int .u16)).f yJ)),.own (Rp.int .i64) h 3 k,.blk m ((Fl.arr 64 (Fl.int .u16)).f d) 98]) ?_ ?_
  ·skip
   refine yM (b:=ad) rfl rfl rfl (fun n=>?_) (fun n=>?_)
   ·have c:=zN n c
    obtain ⟨y,z,c⟩:=zF c
    refine zH (dC (X:=d) u98 sz96 rfl rfl z)<| zH (dX (v:= .int .u16 y) one96 rfl (Cells.ix (e:=(Fl.int .u16)) (x:=d) (Hbc H 2 rfl) z)) ?_
    obtain ⟨ag,ah,c⟩:=zD c
    refine zH (zM (yZ (a:=y) (b:=2631) rfl rfl) ah)<| zH (yI (v:= .bool ag) rfl rfl) ?_
    obtain rfl:=gI c
    exact zG (zA (meet ⟨(zI rfl zL),H.pick [0,1,2] (by decide)⟩))
   have c:=zO n c
   refine yE ?_
   refine yE ?_
   refine yE ?_
   refine zH (yF (v:= .bool false) rfl rfl) ?_
   obtain rfl:=gI c
   exact zG (zA (meet ⟨(zI rfl zL),H.pick [0,1,2] (by decide)⟩))
  rintro ρ a3 H
  have c:=af
  obtain ⟨A,c,ai⟩:=zF c
  refine dF 5 [19,20,21,22,23] [(23,.bool A)] (fun wl=>Hd O w wl S [.fz (.at 1 0 ((Fl.arr 4 (Fl.int .u16)).f yJ)),.own (Rp.int .i64) h 3 k,.blk m ((Fl.arr 64 (Fl.int .u16)).f d) 98]) ?_ ?_
  ·skip
   refine yM (b:=u) rfl rfl rfl (fun o=>?_) (fun o=>?_)
   ·have c:=zN o c
    obtain ⟨B,C,c⟩:=zF c
    refine zH (dC (X:=d) u98 sz96 rfl rfl C)<| zH (dX (v:= .int .u16 B) one96 rfl (Cells.ix (e:=(Fl.int .u16)) (x:=d) (Hbc H 2 rfl) C)) ?_
    obtain ⟨aj,ak,c⟩:=zD c
    refine zH (zM (yZ (a:=B) (b:=2) rfl rfl) ak)<| zH (yI (v:= .bool aj) rfl rfl) ?_
    obtain rfl:=gI c
    exact zG (zA (meet ⟨(zI rfl zL),H.pick [0,1,2] (by decide)⟩))
   have c:=zO o c
   refine yE ?_
   refine yE ?_
   refine yE ?_
   refine zH (yF (v:= .bool false) rfl rfl) ?_
   obtain rfl:=gI c
   exact zG (zA (meet ⟨(zI rfl zL),H.pick [0,1,2] (by decide)⟩))
  rintro ρ a4 H
  have c:=ai
  obtain ⟨D,c,al⟩:=zF c
  refine dF 5 [24,25,26,27,28] [(28,.bool D)] (fun wl=>Hd O w wl S [.fz (.at 1 0 ((Fl.arr 4 (Fl.int .u16)).f yJ)),.own (Rp.int .i64) h 3 k,.blk m ((Fl.arr 64 (Fl.int .u16)).f d) 98]) ?_ ?_
  ·skip
   refine yM (b:=A) rfl rfl rfl (fun p=>?_) (fun p=>?_)
   ·have c:=zN p c
    obtain ⟨E,F,c⟩:=zF c
    refine zH (dC (X:=d) u98 sz96 rfl rfl F)<| zH (dX (v:= .int .u16 E) one96 rfl (Cells.ix (e:=(Fl.int .u16)) (x:=d) (Hbc H 2 rfl) F)) ?_
    obtain ⟨am,an,c⟩:=zD c
    refine zH (zM (yZ (a:=E) (b:=1) rfl rfl) an)<| zH (yI (v:= .bool am) rfl rfl) ?_
    obtain rfl:=gI c
    exact zG (zA (meet ⟨(zI rfl zL),H.pick [0,1,2] (by decide)⟩))
   have c:=zO p c
   refine yE ?_
   refine yE ?_
   refine yE ?_
   refine zH (yF (v:= .bool false) rfl rfl) ?_
   obtain rfl:=gI c
   exact zG (zA (meet ⟨(zI rfl zL),H.pick [0,1,2] (by decide)⟩))
  rintro ρ a5 H
  have c:=al
  refine yM (b:=D) rfl rfl rfl (fun q=>?_) (fun q=>?_)
  ·have c:=zN q c
   obtain ⟨G,I,c⟩:=zF c
   refine zH (dC (X:=d) u98 sz96 rfl rfl I)<| zH (dX (v:= .int .u16 G) one96 rfl (Cells.ix (e:=(Fl.int .u16)) (x:=d) (Hbc H 2 rfl) I)) ?_
   obtain ⟨J,ao,c⟩:=zD c
   refine zH (zM (yZ (a:=G) (b:=2053) rfl rfl) ao)<| zH (yI (v:= .bool J) rfl rfl)<| zK (.bool J) ?_
   obtain rfl:=gI c
   exact (zG (zA (meet ⟨(),(zI rfl zL),H.pick [0] (by decide)⟩)))
  have c:=zO q c
  refine yE ?_
  refine yE ?_
  refine yE ?_
  refine zH (yF (v:= .bool false) rfl rfl)<| zK (.bool false) ?_
  obtain rfl:=gI c
  exact (zG (zA (meet ⟨(),(zI rfl zL),H.pick [0] (by decide)⟩)))
 rintro _ ρ a6 H
 have c:=ac
 obtain rfl:=gI c
 refine (zY (gX (v1:= .bool t) rfl rfl ?_))
 exact ⟨rfl,H.pick [] (by decide)⟩
set_option maxRecDepth 100000 in
theorem Fbxw (d:Int)(r:Bool)(c:Fbx d=some r)(O S:List Nat)(w:World)(H:Hd O w w S []):
  Calls Tryz.prog 145 ([.int .u8 d]:List Value).toArray w fun e p=>e= .returned (.bool r)∧Hd O w p S []:=by
 unfold Fbx at c
 refine zZ 21 Tryz.func145 rfl rfl rfl ?_
 refine zC fun F q=>zB<| zK (.bool false)<| zG (zA (q _ _ ?_))
 obtain ⟨k,c,s⟩:=zF c
 refine yH [2,3,4,5,6,7,8,9,10,11,12,13,14,15,16,17,18,19,20] (fun (g:Unit)=>[(2,.bool k)]) (fun g wl=>Hd O w wl S []) ?_ ?_
 ·skip
  refine zB ?_
  refine zJ (.int .u8 d) ?_
  obtain ⟨t,u,c⟩:=zD c
  refine zH (zM (aJ (a:=d) (b:=97) rfl rfl) u) ?_
  obtain ⟨l,c,x⟩:=zF c
  refine dF 4 [5,6,7,8] [(8,.bool l)] (fun wl=>Hd O w wl S []) ?_ ?_
  ·skip
   refine yM (b:=t) rfl rfl rfl (fun f=>?_) (fun f=>?_)
   ·have c:=zN f c
    refine zJ (.int .u8 d) ?_
    obtain ⟨y,z,c⟩:=zD c
    refine zH (zM (Do_leq (a:=d) (b:=122) rfl rfl) z)<| zH (yI (v:= .bool y) rfl rfl) ?_
    obtain rfl:=gI c
    exact zG (zA (meet ⟨(zI rfl zL),H.pick [] (by decide)⟩))
   have c:=zO f c
   refine yE ?_
   refine yE ?_
   refine zH (yF (v:= .bool false) rfl rfl) ?_
   obtain rfl:=gI c
   exact zG (zA (meet ⟨(zI rfl zL),H.pick [] (by decide)⟩))
  rintro ρ G H
  have c:=x
  obtain ⟨m,c,A⟩:=zF c
  refine dF 8 [9,10,11,12,13,14,15,16] [(16,.bool m)] (fun wl=>Hd O w wl S []) ?_ ?_
  ·skip
   refine yM (b:=l) rfl rfl rfl (fun h=>?_) (fun h=>?_)
   ·have c:=zN h c
    refine yE ?_
    refine yE ?_
    refine yE ?_
    refine yE ?_
    refine yE ?_
    refine yE ?_
    refine zH (yI (v:= .bool true) rfl rfl) ?_
    obtain rfl:=gI c
    exact zG (zA (meet ⟨(zI rfl zL),H.pick [] (by decide)⟩))
   have c:=zO h c
   refine zJ (.int .u8 d) ?_
   obtain ⟨B,C,c⟩:=zD c
   refine zH (zM (aJ (a:=d) (b:=48) rfl rfl) C)<| yM (b:=B) rfl rfl rfl (fun i=>?_) (fun i=>?_)
   ·have c:=zN i c
    refine zJ (.int .u8 d) ?_
    obtain ⟨n,D,c⟩:=zD c
    refine zH (zM (Do_leq (a:=d) (b:=57) rfl rfl) D)<| zH (yI (v:= .bool n) rfl rfl)<| zH (yF (v:= .bool n) rfl rfl) ?_
    obtain rfl:=gI c
    exact zG (zA (meet ⟨(zI rfl zL),H.pick [] (by decide)⟩))
   have c:=zO i c
   refine yE ?_
   refine yE ?_
   refine zH (yF (v:= .bool false) rfl rfl)<| zH (yF (v:= .bool false) rfl rfl) ?_
   obtain rfl:=gI c
   exact zG (zA (meet ⟨(zI rfl zL),H.pick [] (by decide)⟩))
  rintro ρ I H
  have c:=A
  refine yM (b:=m) rfl rfl rfl (fun j=>?_) (fun j=>?_)
  ·have c:=zN j c
   refine yE ?_
   refine yE ?_
   refine zH (yI (v:= .bool true) rfl rfl)<| zK (.bool true) ?_
   obtain rfl:=gI c
   exact (zG (zA (meet ⟨(),(zI rfl zL),H.pick [] (by decide)⟩)))
  have c:=zO j c
  refine zJ (.int .u8 d) ?_
  obtain ⟨o,E,c⟩:=zD c
  refine zH (zM (yZ (a:=d) (b:=45) rfl rfl) E)<| zH (yF (v:= .bool o) rfl rfl)<| zK (.bool o) ?_
  obtain rfl:=gI c
  exact (zG (zA (meet ⟨(),(zI rfl zL),H.pick [] (by decide)⟩)))
 rintro _ ρ J H
 have c:=s
 obtain rfl:=gI c
 refine (zY (gX (v1:= .bool k) rfl rfl ?_))
 exact ⟨rfl,H.pick [] (by decide)⟩
set_option maxRecDepth 100000 in
theorem Fcfw (c:Str)(r:Bool)(a:Fcf c=some r)(O S:List Nat)(w:World)(H:Hd O w w S []):
  Calls Tryz.prog 144 ([sb c]:List Value).toArray w fun e P=>e= .returned (.bool r)∧Hd O w P S []:=by
 unfold Fcf at a
 refine zZ 21 Tryz.func144 rfl rfl rfl ?_
 refine zC fun K1 Q=>zB<| zK (.bool false)<| zG (zA (Q _ _ ?_))
 refine zC fun a7 R=>?_
 refine zC fun a8 T=>zB<| zJ (sb c)<| zG (zA (T _ _ ?_))
 refine yC ?_
 obtain ⟨x,a,U⟩:=zF a
 refine yH [4,5,6,7,8,9,10,11,12,13,14,15,16,17,18,19,20] (fun (g:Unit)=>[(4,.bool x)]) (fun g wl=>Hd O w wl S []) ?_ ?_
 ·skip
  refine zC fun a9 V=>zB ?_
  obtain ⟨y,X,a⟩:=zD a
  refine zH (zM (dL (s1:=c) (s2:=[112,104,97,115,101]) rfl rfl) X)<| zK (.bool y)<| zG (zA (V _ _ ?_))
  refine zW (b:=y) rfl (fun d=>?_) (fun d=>?_)
  ·have a:=zN d a
   obtain rfl:=gI a
   exact (zX (zA (meet ⟨(),(zI rfl zL),H.pick [] (by decide)⟩)))
  have a:=zO d a
  refine zC fun ba Y=>zB ?_
  obtain ⟨z,Z,a⟩:=zD a
  refine zH (zM (dL (s1:=c) (s2:=[109,111,118,101]) rfl rfl) Z)<| zK (.bool z)<| zG (zA (Y _ _ ?_))
  refine zW (b:=z) rfl (fun f=>?_) (fun f=>?_)
  ·have a:=zN f a
   obtain rfl:=gI a
   exact (zX (zA (meet ⟨(),(zI rfl zL),H.pick [] (by decide)⟩)))
  have a:=zO f a
  refine zC fun bb aa=>zB ?_
  obtain ⟨A,ab,a⟩:=zD a
  refine zH (zM (dL (s1:=c) (s2:=[114,117,108,101]) rfl rfl) ab)<| zK (.bool A)<| zG (zA (aa _ _ ?_))
  refine zW (b:=A) rfl (fun h=>?_) (fun h=>?_)
  ·have a:=zN h a
   obtain rfl:=gI a
   exact (zX (zA (meet ⟨(),(zI rfl zL),H.pick [] (by decide)⟩)))
  have a:=zO h a
  refine zC fun bc ac=>zB ?_
  obtain ⟨B,ad,a⟩:=zD a
  refine zH (zM (dL (s1:=c) (s2:=[105,102]) rfl rfl) ad)<| zK (.bool B)<| zG (zA (ac _ _ ?_))
  refine zW (b:=B) rfl (fun i=>?_) (fun i=>?_)
  ·have a:=zN i a
   obtain rfl:=gI a
   exact (zX (zA (meet ⟨(),(zI rfl zL),H.pick [] (by decide)⟩)))
  have a:=zO i a
  refine zC fun bd ae=>zB ?_
  obtain ⟨C,af,a⟩:=zD a
  refine zH (zM (dL (s1:=c) (s2:=[111,114]) rfl rfl) af)<| zK (.bool C)<| zG (zA (ae _ _ ?_))
  refine zW (b:=C) rfl (fun j=>?_) (fun j=>?_)
  ·have a:=zN j a
   obtain rfl:=gI a
   exact (zX (zA (meet ⟨(),(zI rfl zL),H.pick [] (by decide)⟩)))
  have a:=zO j a
  refine zC fun be ag=>zB ?_
  obtain ⟨D,ah,a⟩:=zD a
  refine zH (zM (dL (s1:=c) (s2:=[97,110,100]) rfl rfl) ah)<| zK (.bool D)<| zG (zA (ag _ _ ?_))
  refine zW (b:=D) rfl (fun k=>?_) (fun k=>?_)
  ·have a:=zN k a
   obtain rfl:=gI a
   exact (zX (zA (meet ⟨(),(zI rfl zL),H.pick [] (by decide)⟩)))
  have a:=zO k a
  refine zC fun bf ai=>zB ?_
  obtain ⟨E,aj,a⟩:=zD a
  refine zH (zM (dL (s1:=c) (s2:=[116,114,117,101]) rfl rfl) aj)<| zK (.bool E)<| zG (zA (ai _ _ ?_))
  refine zW (b:=E) rfl (fun l=>?_) (fun l=>?_)
  ·have a:=zN l a
   obtain rfl:=gI a
   exact (zX (zA (meet ⟨(),(zI rfl zL),H.pick [] (by decide)⟩)))
  have a:=zO l a
  refine zC fun bg ak=>zB ?_
  obtain ⟨F,al,a⟩:=zD a
  refine zH (zM (dL (s1:=c) (s2:=[102,97,108,115,101]) rfl rfl) al)<| zK (.bool F)<| zG (zA (ak _ _ ?_))
  refine zW (b:=F) rfl (fun m=>?_) (fun m=>?_)
  ·have a:=zN m a
   obtain rfl:=gI a
   exact (zX (zA (meet ⟨(),(zI rfl zL),H.pick [] (by decide)⟩)))
  have a:=zO m a
  refine zC fun bh am=>zB ?_
  obtain ⟨G,an,a⟩:=zD a
  refine zH (zM (dL (s1:=c) (s2:=[115,116,101,97,100,121]) rfl rfl) an)<| zK (.bool G)<| zG (zA (am _ _ ?_))
  refine zW (b:=G) rfl (fun n=>?_) (fun n=>?_)
  ·have a:=zN n a
   obtain rfl:=gI a
   exact (zX (zA (meet ⟨(),(zI rfl zL),H.pick [] (by decide)⟩)))
  have a:=zO n a
  refine zC fun bi ao=>zB ?_
  obtain ⟨I,ap,a⟩:=zD a
  refine zH (zM (dL (s1:=c) (s2:=[110,111,116]) rfl rfl) ap)<| zK (.bool I)<| zG (zA (ao _ _ ?_))
  refine zW (b:=I) rfl (fun o=>?_) (fun o=>?_)
  ·have a:=zN o a
   obtain rfl:=gI a
   exact (zX (zA (meet ⟨(),(zI rfl zL),H.pick [] (by decide)⟩)))
  have a:=zO o a
  refine zC fun bj aq=>zB ?_
  obtain ⟨J,ar,a⟩:=zD a
  refine zH (zM (dL (s1:=c) (s2:=[102,111,114]) rfl rfl) ar)<| zK (.bool J)<| zG (zA (aq _ _ ?_))
  refine zW (b:=J) rfl (fun p=>?_) (fun p=>?_)
  ·have a:=zN p a
   obtain rfl:=gI a
   exact (zX (zA (meet ⟨(),(zI rfl zL),H.pick [] (by decide)⟩)))
  have a:=zO p a
  refine zC fun bk au=>zB ?_
  obtain ⟨K,av,a⟩:=zD a
  refine zH (zM (dL (s1:=c) (s2:=[119,105,116,104,105,110]) rfl rfl) av)<| zK (.bool K)<| zG (zA (au _ _ ?_))
  refine zW (b:=K) rfl (fun q=>?_) (fun q=>?_)
  ·have a:=zN q a
   obtain rfl:=gI a
   exact (zX (zA (meet ⟨(),(zI rfl zL),H.pick [] (by decide)⟩)))
  have a:=zO q a
  refine zC fun bl aw=>zB ?_
  obtain ⟨L,ax,a⟩:=zD a
  refine zH (zM (dL (s1:=c) (s2:=[99,111,117,110,116]) rfl rfl) ax)<| zK (.bool L)<| zG (zA (aw _ _ ?_))
  refine zW (b:=L) rfl (fun s=>?_) (fun s=>?_)
  ·have a:=zN s a
   obtain rfl:=gI a
   exact (zX (zA (meet ⟨(),(zI rfl zL),H.pick [] (by decide)⟩)))
  have a:=zO s a
  refine zC fun bm ay=>zB ?_
  obtain ⟨M,az,a⟩:=zD a
  refine zH (zM (dL (s1:=c) (s2:=[111,102]) rfl rfl) az)<| zK (.bool M)<| zG (zA (ay _ _ ?_))
  refine zW (b:=M) rfl (fun t=>?_) (fun t=>?_)
  ·have a:=zN t a
   obtain rfl:=gI a
   exact (zX (zA (meet ⟨(),(zI rfl zL),H.pick [] (by decide)⟩)))
  have a:=zO t a
  refine zC fun bn a0=>zB ?_
  obtain ⟨N,a1,a⟩:=zD a
  refine zH (zM (dL (s1:=c) (s2:=[114,105,115,101,115]) rfl rfl) a1)<| zK (.bool N)<| zG (zA (a0 _ _ ?_))
  refine zW (b:=N) rfl (fun u=>?_) (fun u=>?_)
  ·have a:=zN u a
   obtain rfl:=gI a
   exact (zX (zA (meet ⟨(),(zI rfl zL),H.pick [] (by decide)⟩)))
  have a:=zO u a
  refine zB ?_
  obtain ⟨a2,a3,a⟩:=zD a
  refine zH (zM (dL (s1:=c) (s2:=[115,105,110,99,101]) rfl rfl) a3)<| zK (.bool a2) ?_
  obtain rfl:=gI a
  exact (zG (zA (meet ⟨(),(zI rfl zL),H.pick [] (by decide)⟩)))
 rintro _ ρ bo H
 have a:=U
 refine zW (b:=x) rfl (fun v=>?_) (fun v=>?_)
 ·have a:=zN v a
  refine zC fun bp a4=>zB<| zK (.bool true)<| zG (zA (a4 _ _ ?_))
  obtain rfl:=gI a
  refine (zY (yD (zT (gX (v1:= .bool true) rfl rfl ?_))))
  exact ⟨rfl,H.pick [] (by decide)⟩
 have a:=zO v a
 refine (zX (yK (zA (R _ _ ?_))))
 refine zC fun bq a5=>zB<| zK (.bool false)<| zG (zA (a5 _ _ ?_))
 obtain rfl:=gI a
 refine (zY (gX (v1:= .bool false) rfl rfl ?_))
 exact ⟨rfl,H.pick [] (by decide)⟩
theorem Fafw (d:Int)(f:Int)(h:Int)(r:Bool)(c:Faf d f h=some r)(O S:List Nat)(w:World)(H:Hd O w w S []):
  Calls Tryz.prog 76 ([i6 d,i6 f,i6 h]:List Value).toArray w fun e l=>e= .returned (.bool r)∧Hd O w l S []:=by
 unfold Faf at c
 refine zZ 15 Tryz.func76 rfl rfl rfl ?_
 refine zC fun s m=>zB<| zK (.bool false)<| zG (zA (m _ _ ?_))
 obtain ⟨j,c,n⟩:=zF c
 refine yH [6,7,8,9,10,11,12,13,14] (fun (g:Unit)=>[(6,.bool j)]) (fun g wl=>Hd O w wl S []) ?_ ?_
 ·skip
  refine zB ?_
  refine zJ (i6 d)<| zJ (i6 f) ?_
  obtain ⟨o,p,c⟩:=zD c
  refine zH (zM (aJ (a:=d) (b:=f) rfl rfl) p)<| yM (b:=o) rfl rfl rfl (fun i=>?_) (fun i=>?_)
  ·have c:=zN i c
   refine zJ (i6 d)<| zJ (i6 h) ?_
   obtain ⟨k,q,c⟩:=zD c
   refine zH (zM (Do_leq (a:=d) (b:=h) rfl rfl) q)<| zH (yI (v:= .bool k) rfl rfl)<| zK (.bool k) ?_
   obtain rfl:=gI c
   exact (zG (zA (meet ⟨(),(zI rfl zL),H.pick [] (by decide)⟩)))
  have c:=zO i c
  refine yE ?_
  refine yE ?_
  refine yE ?_
  refine zH (yF (v:= .bool false) rfl rfl)<| zK (.bool false) ?_
  obtain rfl:=gI c
  exact (zG (zA (meet ⟨(),(zI rfl zL),H.pick [] (by decide)⟩)))
 rintro _ ρ t H
 have c:=n
 obtain rfl:=gI c
 refine (zY (gX (v1:= .bool j) rfl rfl ?_))
 exact ⟨rfl,H.pick [] (by decide)⟩
set_option maxRecDepth 100000 in
theorem Famw (d:Str)(r:Bool)(c:Fam d=some r)(O S:List Nat)(w:World)(H:Hd O w w S []):
  Calls Tryz.prog 86 ([sb d]:List Value).toArray w fun e x=>e= .returned (.bool r)∧Hd O w x S []:=by
 unfold Fam at c
 refine zZ 33 Tryz.func86 rfl rfl rfl ?_
 refine zC fun K1 y=>zB<| zK (.bool false)<| zG (zA (y _ _ ?_))
 refine zC fun a5 z=>?_
 obtain ⟨n,c,A⟩:=zF c
 refine yH [4,5,6,7,8,9,10,11,12,13,14,15,16,17,18,19,20,21] (fun (g:Unit)=>[(21,.bool n)]) (fun g wl=>Hd O w wl S []) ?_ ?_
 ·skip
  refine zB ?_
  refine zJ (sb d) ?_
  obtain ⟨B,C,c⟩:=zD c
  refine zH (yO (Do_slen (s1:=d) u9 rfl) (congrArg (Value.int .i64) C)) ?_
  have D:=H
  obtain ⟨E,F,c⟩:=zF c
  refine yG rfl rfl (yB en76 rfl) (Fafw B 1 30 _ F _ _ _ (H.enter [] [] (by decide) rfl)) ?_
  rintro _ a6 ⟨rfl,G⟩
  have H:=D.step (G.only:Only [] _ _)
  refine ⟨_,rfl,?_⟩
  obtain ⟨I,J,c⟩:=zD c
  refine zH (zM (wJ (p:=E) rfl) J) ?_
  obtain ⟨o,c,K⟩:=zF c
  refine dF 5 [8,9,10,11,12] [(12,.bool o)] (fun wl=>Hd O w wl S []) ?_ ?_
  ·skip
   refine yM (b:=I) rfl rfl rfl (fun h=>?_) (fun h=>?_)
   ·have c:=zN h c
    refine yE ?_
    refine yE ?_
    refine yE ?_
    refine zH (yI (v:= .bool true) rfl rfl) ?_
    obtain rfl:=gI c
    exact zG (zA (meet ⟨(zI rfl zL),H.pick [] (by decide)⟩))
   have c:=zO h c
   refine zJ (sb d) ?_
   obtain ⟨L,M,c⟩:=zF c
   refine zH (Do_sidx (s1:=d) (q:=0) u9 rfl rfl M) ?_
   obtain ⟨N,P,c⟩:=zD c
   refine zH (zM (xK (a:=L) (b:=97) rfl rfl) P)<| zH (yF (v:= .bool N) rfl rfl) ?_
   obtain rfl:=gI c
   exact zG (zA (meet ⟨(zI rfl zL),H.pick [] (by decide)⟩))
  rintro ρ a7 H
  have c:=K
  obtain ⟨s,c,Q⟩:=zF c
  refine dF 5 [13,14,15,16,17] [(17,.bool s)] (fun wl=>Hd O w wl S []) ?_ ?_
  ·skip
   refine yM (b:=o) rfl rfl rfl (fun i=>?_) (fun i=>?_)
   ·have c:=zN i c
    refine yE ?_
    refine yE ?_
    refine yE ?_
    refine zH (yI (v:= .bool true) rfl rfl) ?_
    obtain rfl:=gI c
    exact zG (zA (meet ⟨(zI rfl zL),H.pick [] (by decide)⟩))
   have c:=zO i c
   refine zJ (sb d) ?_
   obtain ⟨R,T,c⟩:=zF c
   refine zH (Do_sidx (s1:=d) (q:=0) u9 rfl rfl T) ?_
   obtain ⟨U,V,c⟩:=zD c
   refine zH (zM (bM (a:=R) (b:=122) rfl rfl) V)<| zH (yF (v:= .bool U) rfl rfl) ?_
   obtain rfl:=gI c
   exact zG (zA (meet ⟨(zI rfl zL),H.pick [] (by decide)⟩))
  rintro ρ a8 H
  have c:=Q
  refine yM (b:=s) rfl rfl rfl (fun j=>?_) (fun j=>?_)
  ·have c:=zN j c
   refine yE ?_
   refine yE ?_
   refine zH (yI (v:= .bool true) rfl rfl) ?_
   obtain rfl:=gI c
   exact (zG (zA (meet ⟨(),(zI rfl zL),H.pick [] (by decide)⟩)))
  have c:=zO j c
  refine zJ (sb d) ?_
  have X:=H
  obtain ⟨Y,Z,c⟩:=zF c
  refine yG rfl rfl (yB en144 rfl) (Fcfw d _ Z _ _ _ (H.enter [] [] (by decide) rfl)) ?_
  rintro _ a9 ⟨rfl,aa⟩
  have H:=X.step (aa.only:Only [] _ _)
  refine ⟨_,rfl,?_⟩
  refine zH (yF (v:= .bool Y) rfl rfl) ?_
  obtain rfl:=gI c
  exact (zG (zA (meet ⟨(),(zI rfl zL),H.pick [] (by decide)⟩)))
 rintro _ ρ ba H
 have c:=A
 refine zW (b:=n) rfl (fun k=>?_) (fun k=>?_)
 ·have c:=zN k c
  refine zC fun bb ab=>zB<| zK (.bool false)<| zG (zA (ab _ _ ?_))
  obtain rfl:=gI c
  refine (zY (zT (gX (v1:= .bool false) rfl rfl ?_)))
  exact ⟨rfl,H.pick [] (by decide)⟩
 have c:=zO k c
 refine zX (zA (z _ _ ?_))
 obtain ⟨ac,ad,c⟩:=xU c
 refine yH [2,3,22,23,24,25,26,27,28,29,30,31,32] (fun (g:Unit)=>[]) (fun g wl=>Hd O w wl S []∧ac ()=some r) ?_ ?_
 ·skip
  refine zC fun bc ae=>zB<| zJ (sb d) ?_
  obtain ⟨af,ag,c⟩:=zD c
  refine zH (yO (Do_slen (s1:=d) u9 rfl) (congrArg (Value.int .i64) ag))<| zJ (i6 0)<| zG (zA (ae _ _ ?_))
  refine yC ?_
  unfold Fc9 at c
  obtain ⟨ah,t,ai,c⟩:=yR c
  refine xA [2,3,24,25,26,27,28,29,30,31,32] (fun (g:Nat×Int)=>[(24,i6 g.2)]) (fun g wl=>Hd O w wl S []∧fV ah g.1 g.2=some r) (fun g=>g.1) (t,0) (zI rfl zL) ⟨H.pick [] (by decide),c⟩ ?_
  clear H c
  rintro ⟨t,f⟩ ρ bd ⟨H,c⟩
  obtain ⟨aj,rfl,c⟩:=yV c
  have c:=yU ai c
  refine zC fun be ak=>zB ?_
  obtain ⟨al,am,c⟩:=zD c
  refine zH (zM (xK (a:=f) (b:=af) rfl rfl) am)<| zG (zA (ak _ _ ?_))
  refine zC fun bf an=>?_
  refine zW (b:=al) rfl (fun l=>?_) (fun l=>?_)
  ·have c:=zN l c
   refine zX (zA (an _ _ ?_))
   refine zC fun bg ao=>?_
   refine yC ?_
   refine zC fun bh ap=>zB<| zJ (i6 f)<| zK (i6 f)<| zG (zA (ap _ _ ?_))
   refine zC fun bi aq=>zB<| zJ (sb d)<| zJ (i6 f) ?_
   obtain ⟨ar,au,c⟩:=zF c
   refine zH (Do_sidx (s1:=d) (q:=f) u9 rfl rfl au) ?_
   have av:=H
   obtain ⟨aw,ax,c⟩:=zF c
   refine yG rfl rfl (yB en145 rfl) (Fbxw ar _ ax _ _ _ (H.enter [] [] (by decide) rfl)) ?_
   rintro _ bj ⟨rfl,ay⟩
   have H:=av.step (ay.only:Only [] _ _)
   refine ⟨_,rfl,?_⟩
   obtain ⟨az,a0,c⟩:=zD c
   refine zH (zM (wJ (p:=aw) rfl) a0)<| zG (zA (aq _ _ ?_))
   refine zW (b:=az) rfl (fun m=>?_) (fun m=>?_)
   ·have c:=zN m c
    refine zC fun bk a1=>zB<| zK (.bool false)<| zG (zA (a1 _ _ ?_))
    obtain rfl:=gI c
    refine (zY (yD (zT (zT (yD (zT (gX (v1:= .bool false) rfl rfl ?_)))))))
    exact ⟨rfl,H.pick [] (by decide)⟩
   have c:=zO m c
   refine (zX (yK (zA (ao _ _ ?_))))
   refine zB ?_
   obtain ⟨u,a2,c⟩:=zD c
   refine zH (xJ (a:=f) (b:=1) rfl rfl a2)<| zJ (i6 u) ?_
   exact (zG (zA (meet ⟨(aj,u),(zI rfl zL),⟨H.pick [] (by decide),c⟩,Nat.lt_succ_self _⟩)))
  have c:=zO l c
  exact (xH (yL (yL (yS (zA (meet ⟨(),zL,⟨H.pick [] (by decide),c⟩⟩))))))
 rintro _ ρ bl ⟨H,c⟩
 have c:=wE ad c
 refine zC fun bm a3=>zB<| zK (.bool true)<| zG (zA (a3 _ _ ?_))
 obtain rfl:=gI c
 refine (zY (gX (v1:= .bool true) rfl rfl ?_))
 exact ⟨rfl,H.pick [] (by decide)⟩
theorem Faew (h:List Str)(f:Str)(v1:Value)(r:Int)(c:Fae h f=some r)(O S:List Nat)(w:World)(H:Hd O w w S [f1 Rp.str v1 h]):
  Calls Tryz.prog 136 ([v1,sb f]:List Value).toArray w fun e p=>e= .returned (i6 r)∧Hd O w p S []:=by
 unfold Fae at c
 refine zZ 19 Tryz.func136 rfl rfl rfl ?_
 refine zC fun K3 q=>zB<| zK (i6 0)<| zG (zA (q _ _ ?_))
 obtain ⟨s,t,c⟩:=xU c
 refine yH [4,5,6,7,8,9,10,11,12,13,14,15,16,17,18] (fun (g:Unit)=>[]) (fun g wl=>Hd O w wl S []∧s ()=some r) ?_ ?_
 ·skip
  refine zC fun ab u=>zB<| zJ v1 ?_
  obtain ⟨v,x,c⟩:=zD c
  obtain ⟨ac,ad,y⟩:=SlF.len ((H.item (i:=0) rfl))
  refine zH (yO (xI u22 y) (congrArg (Value.int .i64) x))<| zJ (i6 0)<| zG (zA (u _ _ ?_))
  refine yC ?_
  unfold Fcr at c
  obtain ⟨z,m,A,c⟩:=yR c
  refine xA [4,5,8,9,10,11,12,13,14,15,16,17,18] (fun (g:Nat×Int)=>[(8,i6 g.2)]) (fun g wl=>Hd O w wl S [f1 Rp.str v1 h]∧fV z g.1 g.2=some r) (fun g=>g.1) (m,0) (zI rfl zL) ⟨H.pick [0] (by decide),c⟩ ?_
  clear H c
  rintro ⟨m,d⟩ ρ ae ⟨H,c⟩
  obtain ⟨B,rfl,c⟩:=yV c
  have c:=yU A c
  refine zC fun af C=>zB ?_
  obtain ⟨D,E,c⟩:=zD c
  refine zH (zM (xK (a:=d) (b:=v) rfl rfl) E)<| zG (zA (C _ _ ?_))
  refine zC fun ag F=>?_
  refine zW (b:=D) rfl (fun j=>?_) (fun j=>?_)
  ·have c:=zN j c
   refine zX (zA (F _ _ ?_))
   refine zC fun ah G=>?_
   refine yC ?_
   refine zC fun ai I=>zB<| zJ (i6 d)<| zK (i6 d)<| zG (zA (I _ _ ?_))
   refine zC fun aj J=>zB<| zJ (sb f)<| zJ v1<| zJ (i6 d) ?_
   obtain ⟨n,k,c⟩:=zF c
   obtain ⟨K,L,ak,M,N,P,Q,R,T⟩:=wH (H.item (i:=0) rfl) k
   obtain rfl:M= [sb n]:=P
   have H:=H.fz (.at K (L+d.toNat * 1) _) ⟨Q,R,T⟩
   refine zH (yT u22 sz9 N rfl (zS k).1 (zS k).2.1 rfl rfl)<| zH (yX bW rfl (Cells.get (H.item (i:=1) rfl).2.2 (i:=0) rfl)) ?_
   obtain ⟨U,V,c⟩:=zD c
   refine zH (zM (dL (s1:=f) (s2:=n) rfl rfl) V)<| zG (zA (J _ _ ?_))
   refine zW (b:=U) rfl (fun l=>?_) (fun l=>?_)
   ·have c:=zN l c
    refine zC fun al X=>zB<| zJ (i6 d)<| zK (i6 d)<| zG (zA (X _ _ ?_))
    obtain rfl:=gI c
    refine (zY (yD (zT (zT (yD (zT (gX (v1:=i6 d) rfl rfl ?_)))))))
    exact ⟨rfl,H.pick [] (by decide)⟩
   have c:=zO l c
   refine (zX (yK (zA (G _ _ ?_))))
   refine zB ?_
   obtain ⟨o,Y,c⟩:=zD c
   refine zH (xJ (a:=d) (b:=1) rfl rfl Y)<| zJ (i6 o) ?_
   exact (zG (zA (meet ⟨(B,o),(zI rfl zL),⟨H.pick [0] (by decide),c⟩,Nat.lt_succ_self _⟩)))
  have c:=zO j c
  exact (xH (yL (yL (yS (zA (meet ⟨(),zL,⟨H.pick [] (by decide),c⟩⟩))))))
 rintro _ ρ am ⟨H,c⟩
 have c:=wE t c
 refine zC fun an Z=>zB<| zK (i6 (-1))<| zG (zA (Z _ _ ?_))
 obtain rfl:=gI c
 refine (zY (gX (v1:=i6 (-1)) rfl rfl ?_))
 exact ⟨rfl,H.pick [] (by decide)⟩
theorem Fa0w (f:List Str)(d:Str)(v1:Value)(r:Bool)(c:Fa0 f d=some r)(O S:List Nat)(w:World)(H:Hd O w w S [f1 Rp.str v1 f]):
  Calls Tryz.prog 87 ([v1,sb d]:List Value).toArray w fun e i=>e= .returned (.bool r)∧Hd O w i S []:=by
 unfold Fa0 at c
 refine zZ 9 Tryz.func87 rfl rfl rfl ?_
 refine zC fun q j=>zB<| zK (.bool false)<| zG (zA (j _ _ ?_))
 refine zC fun s k=>zB<| zJ v1<| zJ (sb d) ?_
 have l:=H
 obtain ⟨m,n,c⟩:=zF c
 refine yG rfl rfl (yB en136 rfl) (Faew f d v1 _ n _ _ _ (H.enter [] [0] (by decide) rfl)) ?_
 rintro _ t ⟨rfl,o⟩
 have H:=l.step (o.only:Only [] _ _)
 refine ⟨_,rfl,?_⟩
 obtain ⟨h,p,c⟩:=zD c
 refine zH (zM (aJ (a:=m) (b:=0) rfl rfl) p)<| zK (.bool h)<| zG (zA (k _ _ ?_))
 obtain rfl:=gI c
 refine (zY (gX (v1:= .bool h) rfl rfl ?_))
 exact ⟨rfl,H.pick [] (by decide)⟩
abbrev Fek (f:Cond→Int→Int→Option (Bool×Int)):Prop:= ∀(p0:Cond) (p1:Int) (p2:Int) (v1:Value) (b3:Nat) (r:Bool×Int) (_:f p0 p1 p2=some r) (O S:List Nat) (w:World) (_:Hd O w w S [.blk b3 [i6 p2] 3,f1 fA v1 p0.Kids]),
  Calls Tryz.prog 80 ([.agg [i6 p0.Kind,sb p0.Name,sb p0.Other,i6 p0.Op,i6 p0.N,i6 p0.Frames,v1].toArray,i6 p1,gW b3]:List Value).toArray w fun e w'=>e= .returned (.bool r.1)∧Hd O w w' S [.blk b3 [i6 r.2] 3]
set_option maxRecDepth 100000 in
theorem Fchw (rfC:Cond→Int→Int→Option (Bool×Int))(rhC:Fek rfC)(f:Cond)(k:Int)(n:Int)(v1:Value)(h:Nat)(r:Bool×Int)(c:Fch rfC f k n=some r)(O S:List Nat)(w:World)(H:Hd O w w S [.blk h [i6 n] 3,f1 fA v1 f.Kids]):
  Calls Tryz.prog 80 ([.agg [i6 f.Kind,sb f.Name,sb f.Other,i6 f.Op,i6 f.N,i6 f.Frames,v1].toArray,i6 k,gW h]:List Value).toArray w fun e E=>e= .returned (.bool r.1)∧Hd O w E S [.blk h [i6 r.2] 3]:=by
 unfold Fch at c
 refine zZ 36 Tryz.func80 rfl rfl rfl ?_
 refine zC fun K5 F=>zB<| yY rfl rfl (xR (cs:=[i6 f.Kind,sb f.Name,sb f.Other,i6 f.Op,i6 f.N,i6 f.Frames,v1]) rfl H) ?_
 rintro _ w8 ⟨G,rfl,H⟩
 refine zK (.bool false)<| zG (zA (F _ _ ?_))
 refine zC fun K9 I=>zB<| zJ (gW h)<| zH (yA rfl)<| Ld fU H 0 0 rfl rfl ?_
 obtain ⟨l,J,c⟩:=zD c
 refine zH (xJ (a:=n) (b:=1) rfl rfl J)<| zH (yA rfl)<| xB rfl (wI H 0 rfl sz3 rfl (v:=i6 l) rfl rfl rfl) ?_
 rintro a8 H
 refine zG (zA (I _ _ ?_))
 refine zC fun a9 K=>?_
 obtain ⟨x,c,L⟩:=zF c
 refine yH [14,15,16,17,18,19,20,21] (fun (g:Unit)=>[(21,.bool x)]) (fun g wl=>Hd O w wl S [.blk h [i6 l] 3,f1 fA v1 f.Kids,.blk G [i6 f.Kind,sb f.Name,sb f.Other,i6 f.Op,i6 f.N,i6 f.Frames,v1] 70]) ?_ ?_
 ·skip
  refine zB ?_
  refine zJ (i6 k) ?_
  obtain ⟨M,P,c⟩:=zD c
  refine zH (zM (yZ (a:=k) (b:=0) rfl rfl) P)<| yM (b:=M) rfl rfl rfl (fun o=>?_) (fun o=>?_)
  ·have c:=zN o c
   refine yE ?_
   refine yE ?_
   refine yE ?_
   refine yE ?_
   refine zH (yI (v:= .bool true) rfl rfl) ?_
   obtain rfl:=gI c
   exact (zG (zA (meet ⟨(),(zI rfl zL),H.pick [0,1,2] (by decide)⟩)))
  have c:=zO o c
  refine zJ (gW h)<| zH (yA rfl)<| Ld fU H 0 0 rfl rfl ?_
  obtain ⟨Q,R,c⟩:=zD c
  refine zH (zM (bM (a:=l) (b:=200) rfl rfl) R)<| zH (yF (v:= .bool Q) rfl rfl) ?_
  obtain rfl:=gI c
  exact (zG (zA (meet ⟨(),(zI rfl zL),H.pick [0,1,2] (by decide)⟩)))
 rintro _ ρ ba H
 have c:=L
 refine zW (b:=x) rfl (fun q=>?_) (fun q=>?_)
 ·have c:=zN q c
  refine zC fun bb T=>zB<| zK (.bool false)<| zG (zA (T _ _ ?_))
  obtain rfl:=gI c
  refine (zY (zT (gX (v1:= .bool false) rfl rfl ?_)))
  exact ⟨rfl,H.pick [0] (by decide)⟩
 have c:=zO q c
 refine zX (zA (K _ _ ?_))
 obtain ⟨U,V,c⟩:=xU c
 refine yH [6,8,22,23,24,25,26,27,28,29,30,31,32,33,34,35] (fun (g:Int)=>[]) (fun g wl=>Hd O w wl S [.blk h [i6 g] 3]∧U g=some r) ?_ ?_
 ·skip
  refine zC fun bc X=>zB<| zH (fa70_6 rfl)<| Ld one68 H 2 6 rfl rfl ?_
  obtain ⟨Y,Z,c⟩:=zD c
  obtain ⟨bd,be,aa⟩:=SlF.len ((H.item (i:=1) rfl))
  refine zH (yO (xI u68 aa) (congrArg (Value.int .i64) Z))<| zJ (i6 0)<| zG (zA (X _ _ ?_))
  refine yC ?_
  unfold Fed at c
  obtain ⟨ab,y,ac,c⟩:=yR c
  refine xA [6,8,25,26,27,28,29,30,31,32,33,34,35] (fun (g:Nat×Int×Int)=>[(25,i6 g.2.1)]) (fun g wl=>Hd O w wl S [.blk h [i6 g.2.2] 3,f1 fA v1 f.Kids]∧fV ab g.1 (g.2.1,g.2.2)=some r) (fun g=>g.1) (y,0,l) (zI rfl zL) ⟨H.pick [0,1] (by decide),c⟩ ?_
  clear H c
  rintro ⟨y,m,z⟩ ρ bf ⟨H,c⟩
  obtain ⟨ad,rfl,c⟩:=yV c
  have c:=yU ac c
  refine zC fun bg ae=>zB ?_
  obtain ⟨af,ag,c⟩:=zD c
  refine zH (zM (xK (a:=m) (b:=Y) rfl rfl) ag)<| zG (zA (ae _ _ ?_))
  refine zC fun bh ah=>?_
  refine zW (b:=af) rfl (fun s=>?_) (fun s=>?_)
  ·have c:=zN s c
   refine zX (zA (ah _ _ ?_))
   refine zC fun bi ai=>?_
   refine yC ?_
   refine zC fun bj aj=>zB ?_
   obtain ⟨d,t,c⟩:=zF c
   obtain ⟨A,B,bk,bl,ak,al,am,an,ao⟩:=wH (H.item (i:=1) rfl) t
   obtain ⟨j,rfl,ap⟩:=aF al
   have H:=H.fzs [.at A (B+m.toNat * 7) _,.sl fA j d.Kids] ⟨⟨am,an,ao⟩,ap,trivial⟩
   refine zH (yT u68 bK ak rfl (zS t).1 (zS t).2.1 rfl rfl)<| zH (yO (yN (cs:=[i6 d.Kind,sb d.Name,sb d.Other,i6 d.Op,i6 d.N,i6 d.Frames,j]) bD rfl bK rfl (H.item (i:=2) rfl).2.2) rfl)<| yY rfl rfl (xN zero70 H) ?_
   rintro _ bm ⟨aq,rfl,H⟩
   refine xB rfl (xC (vs:=[i6 d.Kind,sb d.Name,sb d.Other,i6 d.Op,i6 d.N,i6 d.Frames,j]) H 4 rfl bK rfl rfl rfl ⟨rfl,rfl,rfl,rfl,rfl,rfl,(dU (H.item (i:=3) rfl)),trivial⟩ rfl) ?_
   rintro bn H
   refine zG (zA (aj _ _ ?_))
   refine zC fun bo ar=>zB<| zH (yO (yN (cs:=[i6 d.Kind,sb d.Name,sb d.Other,i6 d.Op,i6 d.N,i6 d.Frames,j]) bD rfl bK rfl (Hbc H 4 rfl)) rfl)<| zJ (i6 k) ?_
   obtain ⟨au,av,c⟩:=zD c
   refine zH (aZ (a:=k) (b:=1) rfl rfl av)<| zJ (gW h) ?_
   obtain ⟨⟨aw,C⟩,ax,c⟩:=zF c
   refine yG rfl rfl (yB en80 rfl) (rhC d au z j h _ ax _ _ _ (H.enter [0] [3] (by decide) rfl)) ?_
   rintro _ ay ⟨rfl,az⟩
   have H:Hd _ _ ay _ [f1 fA v1 f.Kids,.fz (.at A (B+m.toNat * 7) [i6 d.Kind,sb d.Name,sb d.Other,i6 d.Op,i6 d.N,i6 d.Frames,j]),f1 fA j d.Kids,.blk aq [i6 d.Kind,sb d.Name,sb d.Other,i6 d.Op,i6 d.N,i6 d.Frames,j] 70,.blk h [i6 C] 3]:=H.back [0] [3] rfl az
   refine ⟨_,rfl,?_⟩
   obtain ⟨a0,a1,c⟩:=zD c
   refine zH (zM (wJ (p:=aw) rfl) a1)<| zG (zA (ar _ _ ?_))
   refine zW (b:=a0) rfl (fun u=>?_) (fun u=>?_)
   ·have c:=zN u c
    refine zC fun bp a2=>zB<| zK (.bool false)<| zG (zA (a2 _ _ ?_))
    obtain rfl:=gI c
    refine (zY (yD (zT (zT (yD (zT (gX (v1:= .bool false) rfl rfl ?_)))))))
    exact ⟨rfl,H.pick [4] (by decide)⟩
   have c:=zO u c
   refine (zX (yK (zA (ai _ _ ?_))))
   refine zB ?_
   obtain ⟨D,a3,c⟩:=zD c
   refine zH (xJ (a:=m) (b:=1) rfl rfl a3)<| zJ (i6 D) ?_
   exact (zG (zA (meet ⟨(ad,D,C),(zI rfl zL),⟨H.pick [4,0] (by decide),c⟩,Nat.lt_succ_self _⟩)))
  have c:=zO s c
  exact (xH (yL (yL (yS (zA (meet ⟨z,zL,⟨H.pick [0] (by decide),c⟩⟩))))))
 rintro bq ρ br ⟨H,c⟩
 have c:=wE V c
 refine zC fun bt a4=>zB<| zK (.bool true)<| zG (zA (a4 _ _ ?_))
 obtain rfl:=gI c
 refine (zY (gX (v1:= .bool true) rfl rfl ?_))
 exact ⟨rfl,H.pick [0] (by decide)⟩
theorem Fe0:Fek (Fdc):=by
 have h: ∀n,Fek (Fal n):=by
  intro n
  induction n with
  | zero=>intro b c d e f r a; cases a
  | succ n ih=>intro b c d e f r a; exact Fchw (Fal n) ih b c d e f r a
 exact h FU
set_option maxRecDepth 100000 in
theorem Faaw (d:Int)(r:dB×Bool)(c:Faa d=some r)(O S:List Nat)(w:World)(H:Hd O w w S []):
  Calls Tryz.prog 142 ([i6 d]:List Value).toArray w fun e Q=>e= .returned (.tuple #[.agg [.bool r.1.name,.bool r.1.other,.bool r.1.op,.bool r.1.n,.bool r.1.frames,i6 r.1.least,i6 r.1.most].toArray,.bool r.2])∧Hd O w Q S []:=by
 unfold Faa at c
 refine zZ 41 Tryz.func142 rfl rfl rfl ?_
 refine zC fun K1 R=>zB<| yY rfl rfl (xN zero226 H) ?_
 rintro _ w4 ⟨f,rfl,H⟩
 refine zK (.bool false)<| zG (zA (R _ _ ?_))
 refine zC fun bk T=>?_
 refine zC fun bl U=>zB<| zJ (i6 d)<| zG (zA (U _ _ ?_))
 refine yC ?_
 obtain ⟨z,c,V⟩:=zF c
 refine yH [5,6,7] (fun (g:Unit)=>[(5,.bool z)]) (fun g wl=>Hd O w wl S [.blk f [.bool false,.bool false,.bool false,.bool false,.bool false,i6 0,i6 0] 226]) ?_ ?_
 ·skip
  refine zC fun bm X=>zB ?_
  obtain ⟨A,Y,c⟩:=zD c
  refine zH (zM (yZ (a:=d) (b:=1) rfl rfl) Y)<| zK (.bool A)<| zG (zA (X _ _ ?_))
  refine zW (b:=A) rfl (fun h=>?_) (fun h=>?_)
  ·have c:=zN h c
   obtain rfl:=gI c
   exact (zX (zA (meet ⟨(),(zI rfl zL),H.pick [0] (by decide)⟩)))
  have c:=zO h c
  refine zB ?_
  obtain ⟨Z,aa,c⟩:=zD c
  refine zH (zM (yZ (a:=d) (b:=2) rfl rfl) aa)<| zK (.bool Z) ?_
  obtain rfl:=gI c
  exact (zG (zA (meet ⟨(),(zI rfl zL),H.pick [0] (by decide)⟩)))
 rintro _ ρ bn H
 have c:=V
 refine zW (b:=z) rfl (fun i=>?_) (fun i=>?_)
 ·have c:=zN i c
  refine zC fun bo ab=>zB<| zH (xO (cs:=[.bool false,.bool false,.bool false,.bool false,.bool false,i6 0,i6 0]) bz226)<| xB rfl (xC (vs:=[.bool false,.bool false,.bool false,.bool false,.bool false,i6 0,i6 0]) H 0 rfl aB rfl rfl rfl ⟨rfl,rfl,rfl,rfl,rfl,rfl,rfl,trivial⟩ rfl) ?_
  rintro bp H
  refine zK (.bool true)<| zG (zA (ab _ _ ?_))
  obtain rfl:=gI c
  refine (zY (yD (zT (bY (v1:= .bool true) rfl rfl (xG agg226 aB rfl (Hbc H 0 rfl)) rfl ?_))))
  exact ⟨rfl,H.pick [] (by decide)⟩
 have c:=zO i c
 refine zC fun bq ac=>zB ?_
 obtain ⟨B,ad,c⟩:=zD c
 refine zH (zM (yZ (a:=d) (b:=3) rfl rfl) ad)<| zK (.bool B)<| zG (zA (ac _ _ ?_))
 refine zW (b:=B) rfl (fun j=>?_) (fun j=>?_)
 ·have c:=zN j c
  refine zC fun br ae=>zB<| zH (xO (cs:=[.bool true,.bool false,.bool true,.bool true,.bool false,i6 0,i6 0]) (bt226_0_2_3 _ _ _))<| xB rfl (xC (vs:=[.bool true,.bool false,.bool true,.bool true,.bool false,i6 0,i6 0]) H 0 rfl aB rfl rfl rfl ⟨rfl,rfl,rfl,rfl,rfl,rfl,rfl,trivial⟩ rfl) ?_
  rintro bt H
  refine zK (.bool true)<| zG (zA (ae _ _ ?_))
  obtain rfl:=gI c
  refine (zY (yD (zT (bY (v1:= .bool true) rfl rfl (xG agg226 aB rfl (Hbc H 0 rfl)) rfl ?_))))
  exact ⟨rfl,H.pick [] (by decide)⟩
 have c:=zO j c
 refine zC fun bu af=>zB ?_
 obtain ⟨C,ag,c⟩:=zD c
 refine zH (zM (yZ (a:=d) (b:=4) rfl rfl) ag)<| zK (.bool C)<| zG (zA (af _ _ ?_))
 refine zW (b:=C) rfl (fun k=>?_) (fun k=>?_)
 ·have c:=zN k c
  refine zC fun bv ah=>zB<| zH (xO (cs:=[.bool true,.bool true,.bool true,.bool false,.bool false,i6 0,i6 0]) (bt226_0_1_2 _ _ _))<| xB rfl (xC (vs:=[.bool true,.bool true,.bool true,.bool false,.bool false,i6 0,i6 0]) H 0 rfl aB rfl rfl rfl ⟨rfl,rfl,rfl,rfl,rfl,rfl,rfl,trivial⟩ rfl) ?_
  rintro bw H
  refine zK (.bool true)<| zG (zA (ah _ _ ?_))
  obtain rfl:=gI c
  refine (zY (yD (zT (bY (v1:= .bool true) rfl rfl (xG agg226 aB rfl (Hbc H 0 rfl)) rfl ?_))))
  exact ⟨rfl,H.pick [] (by decide)⟩
 have c:=zO k c
 refine zC fun bx ai=>zB ?_
 obtain ⟨D,aj,c⟩:=zD c
 refine zH (zM (yZ (a:=d) (b:=5) rfl rfl) aj)<| zK (.bool D)<| zG (zA (ai _ _ ?_))
 refine zW (b:=D) rfl (fun l=>?_) (fun l=>?_)
 ·have c:=zN l c
  refine zC fun bz ak=>zB<| zH (xO (cs:=[.bool true,.bool false,.bool false,.bool true,.bool true,i6 0,i6 0]) (bt226_0_3_4 _ _ _))<| xB rfl (xC (vs:=[.bool true,.bool false,.bool false,.bool true,.bool true,i6 0,i6 0]) H 0 rfl aB rfl rfl rfl ⟨rfl,rfl,rfl,rfl,rfl,rfl,rfl,trivial⟩ rfl) ?_
  rintro b0 H
  refine zK (.bool true)<| zG (zA (ak _ _ ?_))
  obtain rfl:=gI c
  refine (zY (yD (zT (bY (v1:= .bool true) rfl rfl (xG agg226 aB rfl (Hbc H 0 rfl)) rfl ?_))))
  exact ⟨rfl,H.pick [] (by decide)⟩
 have c:=zO l c
 obtain ⟨E,c,al⟩:=zF c
 refine yH [18,19,20] (fun (g:Unit)=>[(18,.bool E)]) (fun g wl=>Hd O w wl S [.blk f [.bool false,.bool false,.bool false,.bool false,.bool false,i6 0,i6 0] 226]) ?_ ?_
 ·skip
  refine zC fun b1 am=>zB ?_
  obtain ⟨F,an,c⟩:=zD c
  refine zH (zM (yZ (a:=d) (b:=6) rfl rfl) an)<| zK (.bool F)<| zG (zA (am _ _ ?_))
  refine zW (b:=F) rfl (fun m=>?_) (fun m=>?_)
  ·have c:=zN m c
   obtain rfl:=gI c
   exact (zX (zA (meet ⟨(),(zI rfl zL),H.pick [0] (by decide)⟩)))
  have c:=zO m c
  refine zB ?_
  obtain ⟨ao,ap,c⟩:=zD c
  refine zH (zM (yZ (a:=d) (b:=7) rfl rfl) ap)<| zK (.bool ao) ?_
  obtain rfl:=gI c
  exact (zG (zA (meet ⟨(),(zI rfl zL),H.pick [0] (by decide)⟩)))
 rintro _ ρ b2 H
 have c:=al
 refine zW (b:=E) rfl (fun o=>?_) (fun o=>?_)
 ·have c:=zN o c
  refine zC fun b3 aq=>zB<| zH (xO (cs:=[.bool true,.bool false,.bool false,.bool false,.bool false,i6 0,i6 0]) (bt226_0 _))<| xB rfl (xC (vs:=[.bool true,.bool false,.bool false,.bool false,.bool false,i6 0,i6 0]) H 0 rfl aB rfl rfl rfl ⟨rfl,rfl,rfl,rfl,rfl,rfl,rfl,trivial⟩ rfl) ?_
  rintro b4 H
  refine zK (.bool true)<| zG (zA (aq _ _ ?_))
  obtain rfl:=gI c
  refine (zY (yD (zT (bY (v1:= .bool true) rfl rfl (xG agg226 aB rfl (Hbc H 0 rfl)) rfl ?_))))
  exact ⟨rfl,H.pick [] (by decide)⟩
 have c:=zO o c
 obtain ⟨G,c,ar⟩:=zF c
 refine yH [22,23,24] (fun (g:Unit)=>[(22,.bool G)]) (fun g wl=>Hd O w wl S [.blk f [.bool false,.bool false,.bool false,.bool false,.bool false,i6 0,i6 0] 226]) ?_ ?_
 ·skip
  refine zC fun b5 au=>zB ?_
  obtain ⟨I,av,c⟩:=zD c
  refine zH (zM (yZ (a:=d) (b:=8) rfl rfl) av)<| zK (.bool I)<| zG (zA (au _ _ ?_))
  refine zW (b:=I) rfl (fun p=>?_) (fun p=>?_)
  ·have c:=zN p c
   obtain rfl:=gI c
   exact (zX (zA (meet ⟨(),(zI rfl zL),H.pick [0] (by decide)⟩)))
  have c:=zO p c
  refine zB ?_
  obtain ⟨aw,ax,c⟩:=zD c
  refine zH (zM (yZ (a:=d) (b:=15) rfl rfl) ax)<| zK (.bool aw) ?_
  obtain rfl:=gI c
  exact (zG (zA (meet ⟨(),(zI rfl zL),H.pick [0] (by decide)⟩)))
 rintro _ ρ b6 H
 have c:=ar
 refine zW (b:=G) rfl (fun q=>?_) (fun q=>?_)
 ·have c:=zN q c
  refine zC fun b7 ay=>zB<| zH (xO (cs:=[.bool false,.bool false,.bool false,.bool false,.bool false,i6 1,i6 1]) (bt226_5_6 _ _))<| xB rfl (xC (vs:=[.bool false,.bool false,.bool false,.bool false,.bool false,i6 1,i6 1]) H 0 rfl aB rfl rfl rfl ⟨rfl,rfl,rfl,rfl,rfl,rfl,rfl,trivial⟩ rfl) ?_
  rintro b8 H
  refine zK (.bool true)<| zG (zA (ay _ _ ?_))
  obtain rfl:=gI c
  refine (zY (yD (zT (bY (v1:= .bool true) rfl rfl (xG agg226 aB rfl (Hbc H 0 rfl)) rfl ?_))))
  exact ⟨rfl,H.pick [] (by decide)⟩
 have c:=zO q c
 obtain ⟨J,c,az⟩:=zF c
 refine yH [26,27,28] (fun (g:Unit)=>[(26,.bool J)]) (fun g wl=>Hd O w wl S [.blk f [.bool false,.bool false,.bool false,.bool false,.bool false,i6 0,i6 0] 226]) ?_ ?_
 ·skip
  refine zC fun b9 a0=>zB ?_
  obtain ⟨K,a1,c⟩:=zD c
  refine zH (zM (yZ (a:=d) (b:=9) rfl rfl) a1)<| zK (.bool K)<| zG (zA (a0 _ _ ?_))
  refine zW (b:=K) rfl (fun s=>?_) (fun s=>?_)
  ·have c:=zN s c
   obtain rfl:=gI c
   exact (zX (zA (meet ⟨(),(zI rfl zL),H.pick [0] (by decide)⟩)))
  have c:=zO s c
  refine zB ?_
  obtain ⟨a2,a3,c⟩:=zD c
  refine zH (zM (yZ (a:=d) (b:=10) rfl rfl) a3)<| zK (.bool a2) ?_
  obtain rfl:=gI c
  exact (zG (zA (meet ⟨(),(zI rfl zL),H.pick [0] (by decide)⟩)))
 rintro _ ρ ca H
 have c:=az
 refine zW (b:=J) rfl (fun t=>?_) (fun t=>?_)
 ·have c:=zN t c
  refine zC fun cb a4=>zB<| zH (xO (cs:=[.bool false,.bool false,.bool false,.bool false,.bool false,i6 2,i6 200]) (bt226_5_6 _ _))<| xB rfl (xC (vs:=[.bool false,.bool false,.bool false,.bool false,.bool false,i6 2,i6 200]) H 0 rfl aB rfl rfl rfl ⟨rfl,rfl,rfl,rfl,rfl,rfl,rfl,trivial⟩ rfl) ?_
  rintro cc H
  refine zK (.bool true)<| zG (zA (a4 _ _ ?_))
  obtain rfl:=gI c
  refine (zY (yD (zT (bY (v1:= .bool true) rfl rfl (xG agg226 aB rfl (Hbc H 0 rfl)) rfl ?_))))
  exact ⟨rfl,H.pick [] (by decide)⟩
 have c:=zO t c
 obtain ⟨L,c,a5⟩:=zF c
 refine yH [30,31,32] (fun (g:Unit)=>[(30,.bool L)]) (fun g wl=>Hd O w wl S [.blk f [.bool false,.bool false,.bool false,.bool false,.bool false,i6 0,i6 0] 226]) ?_ ?_
 ·skip
  refine zC fun cd a6=>zB ?_
  obtain ⟨M,a7,c⟩:=zD c
  refine zH (zM (yZ (a:=d) (b:=11) rfl rfl) a7)<| zK (.bool M)<| zG (zA (a6 _ _ ?_))
  refine zW (b:=M) rfl (fun u=>?_) (fun u=>?_)
  ·have c:=zN u c
   obtain rfl:=gI c
   exact (zX (zA (meet ⟨(),(zI rfl zL),H.pick [0] (by decide)⟩)))
  have c:=zO u c
  refine zB ?_
  obtain ⟨a8,a9,c⟩:=zD c
  refine zH (zM (yZ (a:=d) (b:=12) rfl rfl) a9)<| zK (.bool a8) ?_
  obtain rfl:=gI c
  exact (zG (zA (meet ⟨(),(zI rfl zL),H.pick [0] (by decide)⟩)))
 rintro _ ρ ce H
 have c:=a5
 refine zW (b:=L) rfl (fun v=>?_) (fun v=>?_)
 ·have c:=zN v c
  refine zC fun cf ba=>zB<| zH (xO (cs:=[.bool false,.bool false,.bool false,.bool false,.bool true,i6 1,i6 1]) (bt226_4_5_6 _ _ _))<| xB rfl (xC (vs:=[.bool false,.bool false,.bool false,.bool false,.bool true,i6 1,i6 1]) H 0 rfl aB rfl rfl rfl ⟨rfl,rfl,rfl,rfl,rfl,rfl,rfl,trivial⟩ rfl) ?_
  rintro cg H
  refine zK (.bool true)<| zG (zA (ba _ _ ?_))
  obtain rfl:=gI c
  refine (zY (yD (zT (bY (v1:= .bool true) rfl rfl (xG agg226 aB rfl (Hbc H 0 rfl)) rfl ?_))))
  exact ⟨rfl,H.pick [] (by decide)⟩
 have c:=zO v c
 refine zC fun ch bb=>zB ?_
 obtain ⟨N,bc,c⟩:=zD c
 refine zH (zM (yZ (a:=d) (b:=13) rfl rfl) bc)<| zK (.bool N)<| zG (zA (bb _ _ ?_))
 refine zW (b:=N) rfl (fun x=>?_) (fun x=>?_)
 ·have c:=zN x c
  refine zC fun ci bd=>zB<| zH (xO (cs:=[.bool false,.bool false,.bool false,.bool true,.bool true,i6 1,i6 1]) (bt226_3_4_5_6 _ _ _ _))<| xB rfl (xC (vs:=[.bool false,.bool false,.bool false,.bool true,.bool true,i6 1,i6 1]) H 0 rfl aB rfl rfl rfl ⟨rfl,rfl,rfl,rfl,rfl,rfl,rfl,trivial⟩ rfl) ?_
  rintro cj H
  refine zK (.bool true)<| zG (zA (bd _ _ ?_))
  obtain rfl:=gI c
  refine (zY (yD (zT (bY (v1:= .bool true) rfl rfl (xG agg226 aB rfl (Hbc H 0 rfl)) rfl ?_))))
  exact ⟨rfl,H.pick [] (by decide)⟩
 have c:=zO x c
 refine zC fun ck be=>zB ?_
 obtain ⟨P,bf,c⟩:=zD c
 refine zH (zM (yZ (a:=d) (b:=14) rfl rfl) bf)<| zK (.bool P)<| zG (zA (be _ _ ?_))
 refine zW (b:=P) rfl (fun y=>?_) (fun y=>?_)
 ·have c:=zN y c
  refine zC fun cl bg=>zB<| zH (xO (cs:=[.bool false,.bool false,.bool false,.bool false,.bool false,i6 2,i6 2]) (bt226_5_6 _ _))<| xB rfl (xC (vs:=[.bool false,.bool false,.bool false,.bool false,.bool false,i6 2,i6 2]) H 0 rfl aB rfl rfl rfl ⟨rfl,rfl,rfl,rfl,rfl,rfl,rfl,trivial⟩ rfl) ?_
  rintro cm H
  refine zK (.bool true)<| zG (zA (bg _ _ ?_))
  obtain rfl:=gI c
  refine (zY (yD (zT (bY (v1:= .bool true) rfl rfl (xG agg226 aB rfl (Hbc H 0 rfl)) rfl ?_))))
  exact ⟨rfl,H.pick [] (by decide)⟩
 have c:=zO y c
 refine (zX (yK (zA (T _ _ ?_))))
 refine zC fun cn bh=>zB<| zH (xO (cs:=[.bool false,.bool false,.bool false,.bool false,.bool false,i6 0,i6 0]) bz226)<| xB rfl (xC (vs:=[.bool false,.bool false,.bool false,.bool false,.bool false,i6 0,i6 0]) H 0 rfl aB rfl rfl rfl ⟨rfl,rfl,rfl,rfl,rfl,rfl,rfl,trivial⟩ rfl) ?_
 rintro co H
 refine zK (.bool false)<| zG (zA (bh _ _ ?_))
 obtain rfl:=gI c
 refine (zY (bY (v1:= .bool false) rfl rfl (xG agg226 aB rfl (Hbc H 0 rfl)) rfl ?_))
 exact ⟨rfl,H.pick [] (by decide)⟩
end Go.Proofs.YtckmiljbaejijaaGreatDoor.L
