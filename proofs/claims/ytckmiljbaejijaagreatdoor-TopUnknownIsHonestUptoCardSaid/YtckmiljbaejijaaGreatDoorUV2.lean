/- Walks: what each function computes, for every argument; no condition but those that stand in the statements. -/
import Derived.Test.YtckmiljbaejijaaGreatDoorUV0
import Derived.Test.YtckmiljbaejijaaGreatDoorUV1
namespace Go.Proofs.YtckmiljbaejijaaGreatDoor.L
open Go.RowKit Go.OB Go.Lf
set_option maxHeartbeats 4000000
set_option maxRecDepth 100000 in
theorem Fajw (f:Cond)(v1:Value)(r:Int)(c:Faj f=some r)(O S:List Nat)(w:World)(H:Hd O w w S [f1 fA v1 f.Kids]):
  Calls Tryz.prog 82 ([.agg [i6 f.Kind,sb f.Name,sb f.Other,i6 f.Op,i6 f.N,i6 f.Frames,v1].toArray]:List Value).toArray w fun e w'=>e= .returned (i6 r)∧Hd O w w' S []:=by
 unfold Faj at c
 refine zZ 140 Tryz.func82 rfl rfl rfl ?_
 refine zC fun K3 au=>zB<| yY rfl rfl (xR (cs:=[i6 f.Kind,sb f.Name,sb f.Other,i6 f.Op,i6 f.N,i6 f.Frames,v1]) rfl H) ?_
 rintro _ w6 ⟨h,rfl,H⟩
 refine zK (i6 0)<| zG (zA (au _ _ ?_))
 refine zC fun K7 av=>zB<| zH (fa70_0 rfl)<| Ld fU H 1 0 rfl rfl ?_
 have H8:=H
 obtain ⟨⟨d,k⟩,ax,c⟩:=zF c
 refine yG rfl rfl (yB en142 rfl) (Faaw f.Kind _ ax _ _ _ (H.enter [] [] (by decide) rfl)) ?_
 rintro _ dm ⟨rfl,ay⟩
 have H:=H8.step (ay.only:Only [] _ _)
 refine ⟨_,rfl,?_⟩
 refine zJ (.tuple #[.agg [.bool d.name,.bool d.other,.bool d.op,.bool d.n,.bool d.frames,i6 d.least,i6 d.most].toArray,.bool k])<| zH (xW (v:= .agg [.bool d.name,.bool d.other,.bool d.op,.bool d.n,.bool d.frames,i6 d.least,i6 d.most].toArray) rfl rfl)<| zH (xW (v:= .bool k) rfl rfl)<| yY rfl rfl (xN zero226 H) ?_
 rintro _ dn ⟨j,rfl,H⟩
 refine xB rfl (xC (vs:=[.bool d.name,.bool d.other,.bool d.op,.bool d.n,.bool d.frames,i6 d.least,i6 d.most]) H 2 rfl aB rfl rfl rfl ⟨rfl,rfl,rfl,rfl,rfl,rfl,rfl,trivial⟩ rfl) ?_
 rintro dp H
 refine zK (.bool k)<| zG (zA (av _ _ ?_))
 refine zC fun dq az=>?_
 refine zC fun dr a0=>zB<| zJ (.bool k) ?_
 obtain ⟨a1,a2,c⟩:=zD c
 refine zH (zM (wJ (p:=k) rfl) a2)<| zG (zA (a0 _ _ ?_))
 refine zW (b:=a1) rfl (fun l=>?_) (fun l=>?_)
 ·have c:=zN l c
  refine zC fun ds a3=>zB<| zK (i6 7)<| zG (zA (a3 _ _ ?_))
  obtain rfl:=gI c
  refine (zY (zT (gX (v1:=i6 7) rfl rfl ?_)))
  exact ⟨rfl,H.pick [] (by decide)⟩
 have c:=zO l c
 refine zX (zA (az _ _ ?_))
 refine zC fun dt a4=>?_
 obtain ⟨X,c,a5⟩:=zF c
 refine yH [13,14,15,16,17,18,19,20,21,22,23,24,25,26,27,28,29,30,31,32,33,34,35,36,37,38,39,40,41,42,43,44,45,46,47,48,49,50,51,52,53,54,55,56,57,58,59,60,61,62,63,64,65,66,67,68,69,70,71] (fun (g:Unit)=>[(71,.bool X)]) (fun g wl=>Hd O w wl S [f1 fA v1 f.Kids,.blk h [i6 f.Kind,sb f.Name,sb f.Other,i6 f.Op,i6 f.N,i6 f.Frames,v1] 70,.blk j [.bool d.name,.bool d.other,.bool d.op,.bool d.n,.bool d.frames,i6 d.least,i6 d.most] 226]) ?_ ?_
 ·skip
  refine zB ?_
  refine zH (fa226_0 rfl)<| Ld one4 H 2 0 rfl rfl ?_
  obtain ⟨a6,a7,c⟩:=zD c
  refine zH (zM (wJ (p:=d.name) rfl) a7) ?_
  obtain ⟨Y,c,a8⟩:=zF c
  refine dF 5 [16,17,18,19,20] [(20,.bool Y)] (fun wl=>Hd O w wl S [f1 fA v1 f.Kids,.blk h [i6 f.Kind,sb f.Name,sb f.Other,i6 f.Op,i6 f.N,i6 f.Frames,v1] 70,.blk j [.bool d.name,.bool d.other,.bool d.op,.bool d.n,.bool d.frames,i6 d.least,i6 d.most] 226]) ?_ ?_
  ·skip
   refine yM (b:=a6) rfl rfl rfl (fun m=>?_) (fun m=>?_)
   ·have c:=zN m c
    refine zH (fa70_1 rfl)<| Ld bW H 1 1 rfl rfl ?_
    obtain ⟨a9,ba,c⟩:=zD c
    refine zH (zM (Do_neqs (s1:=f.Name) (s2:=[]) rfl rfl) ba)<| zH (yI (v:= .bool a9) rfl rfl) ?_
    obtain rfl:=gI c
    exact zG (zA (meet ⟨(zI rfl zL),H.pick [0,1,2] (by decide)⟩))
   have c:=zO m c
   refine yE ?_
   refine yE ?_
   refine yE ?_
   refine zH (yF (v:= .bool false) rfl rfl) ?_
   obtain rfl:=gI c
   exact zG (zA (meet ⟨(zI rfl zL),H.pick [0,1,2] (by decide)⟩))
  rintro ρ du H
  have c:=a8
  obtain ⟨Z,c,bb⟩:=zF c
  refine dF 10 [21,22,23,24,25,26,27,28,29,30] [(30,.bool Z)] (fun wl=>Hd O w wl S [f1 fA v1 f.Kids,.blk h [i6 f.Kind,sb f.Name,sb f.Other,i6 f.Op,i6 f.N,i6 f.Frames,v1] 70,.blk j [.bool d.name,.bool d.other,.bool d.op,.bool d.n,.bool d.frames,i6 d.least,i6 d.most] 226]) ?_ ?_
  ·skip
   refine yM (b:=Y) rfl rfl rfl (fun o=>?_) (fun o=>?_)
   ·have c:=zN o c
    refine yE ?_
    refine yE ?_
    refine yE ?_
    refine yE ?_
    refine yE ?_
    refine yE ?_
    refine yE ?_
    refine yE ?_
    refine zH (yI (v:= .bool true) rfl rfl) ?_
    obtain rfl:=gI c
    exact zG (zA (meet ⟨(zI rfl zL),H.pick [0,1,2] (by decide)⟩))
   have c:=zO o c
   refine zH (fa226_1 rfl)<| Ld one4 H 2 1 rfl rfl ?_
   obtain ⟨bc,bd,c⟩:=zD c
   refine zH (zM (wJ (p:=d.other) rfl) bd)<| yM (b:=bc) rfl rfl rfl (fun q=>?_) (fun q=>?_)
   ·have c:=zN q c
    refine zH (fa70_2 rfl)<| Ld bW H 1 2 rfl rfl ?_
    obtain ⟨aa,be,c⟩:=zD c
    refine zH (zM (Do_neqs (s1:=f.Other) (s2:=[]) rfl rfl) be)<| zH (yI (v:= .bool aa) rfl rfl)<| zH (yF (v:= .bool aa) rfl rfl) ?_
    obtain rfl:=gI c
    exact zG (zA (meet ⟨(zI rfl zL),H.pick [0,1,2] (by decide)⟩))
   have c:=zO q c
   refine yE ?_
   refine yE ?_
   refine yE ?_
   refine zH (yF (v:= .bool false) rfl rfl)<| zH (yF (v:= .bool false) rfl rfl) ?_
   obtain rfl:=gI c
   exact zG (zA (meet ⟨(zI rfl zL),H.pick [0,1,2] (by decide)⟩))
  rintro ρ dv H
  have c:=bb
  obtain ⟨ab,c,bf⟩:=zF c
  refine dF 10 [31,32,33,34,35,36,37,38,39,40] [(40,.bool ab)] (fun wl=>Hd O w wl S [f1 fA v1 f.Kids,.blk h [i6 f.Kind,sb f.Name,sb f.Other,i6 f.Op,i6 f.N,i6 f.Frames,v1] 70,.blk j [.bool d.name,.bool d.other,.bool d.op,.bool d.n,.bool d.frames,i6 d.least,i6 d.most] 226]) ?_ ?_
  ·skip
   refine yM (b:=Z) rfl rfl rfl (fun s=>?_) (fun s=>?_)
   ·have c:=zN s c
    refine yE ?_
    refine yE ?_
    refine yE ?_
    refine yE ?_
    refine yE ?_
    refine yE ?_
    refine yE ?_
    refine yE ?_
    refine zH (yI (v:= .bool true) rfl rfl) ?_
    obtain rfl:=gI c
    exact zG (zA (meet ⟨(zI rfl zL),H.pick [0,1,2] (by decide)⟩))
   have c:=zO s c
   refine zH (fa226_2 rfl)<| Ld one4 H 2 2 rfl rfl ?_
   obtain ⟨bg,bh,c⟩:=zD c
   refine zH (zM (wJ (p:=d.op) rfl) bh)<| yM (b:=bg) rfl rfl rfl (fun t=>?_) (fun t=>?_)
   ·have c:=zN t c
    refine zH (fa70_3 rfl)<| Ld fU H 1 3 rfl rfl ?_
    obtain ⟨ac,bi,c⟩:=zD c
    refine zH (zM (wL (a:=f.Op) (b:=0) rfl rfl) bi)<| zH (yI (v:= .bool ac) rfl rfl)<| zH (yF (v:= .bool ac) rfl rfl) ?_
    obtain rfl:=gI c
    exact zG (zA (meet ⟨(zI rfl zL),H.pick [0,1,2] (by decide)⟩))
   have c:=zO t c
   refine yE ?_
   refine yE ?_
   refine yE ?_
   refine zH (yF (v:= .bool false) rfl rfl)<| zH (yF (v:= .bool false) rfl rfl) ?_
   obtain rfl:=gI c
   exact zG (zA (meet ⟨(zI rfl zL),H.pick [0,1,2] (by decide)⟩))
  rintro ρ dw H
  have c:=bf
  obtain ⟨ad,c,bj⟩:=zF c
  refine dF 10 [41,42,43,44,45,46,47,48,49,50] [(50,.bool ad)] (fun wl=>Hd O w wl S [f1 fA v1 f.Kids,.blk h [i6 f.Kind,sb f.Name,sb f.Other,i6 f.Op,i6 f.N,i6 f.Frames,v1] 70,.blk j [.bool d.name,.bool d.other,.bool d.op,.bool d.n,.bool d.frames,i6 d.least,i6 d.most] 226]) ?_ ?_
  ·skip
   refine yM (b:=ab) rfl rfl rfl (fun u=>?_) (fun u=>?_)
   ·have c:=zN u c
    refine yE ?_
    refine yE ?_
    refine yE ?_
    refine yE ?_
    refine yE ?_
    refine yE ?_
    refine yE ?_
    refine yE ?_
    refine zH (yI (v:= .bool true) rfl rfl) ?_
    obtain rfl:=gI c
    exact zG (zA (meet ⟨(zI rfl zL),H.pick [0,1,2] (by decide)⟩))
   have c:=zO u c
   refine zH (fa226_3 rfl)<| Ld one4 H 2 3 rfl rfl ?_
   obtain ⟨bk,bl,c⟩:=zD c
   refine zH (zM (wJ (p:=d.n) rfl) bl)<| yM (b:=bk) rfl rfl rfl (fun x=>?_) (fun x=>?_)
   ·have c:=zN x c
    refine zH (fa70_4 rfl)<| Ld fU H 1 4 rfl rfl ?_
    obtain ⟨ae,bm,c⟩:=zD c
    refine zH (zM (wL (a:=f.N) (b:=0) rfl rfl) bm)<| zH (yI (v:= .bool ae) rfl rfl)<| zH (yF (v:= .bool ae) rfl rfl) ?_
    obtain rfl:=gI c
    exact zG (zA (meet ⟨(zI rfl zL),H.pick [0,1,2] (by decide)⟩))
   have c:=zO x c
   refine yE ?_
   refine yE ?_
   refine yE ?_
   refine zH (yF (v:= .bool false) rfl rfl)<| zH (yF (v:= .bool false) rfl rfl) ?_
   obtain rfl:=gI c
   exact zG (zA (meet ⟨(zI rfl zL),H.pick [0,1,2] (by decide)⟩))
  rintro ρ dx H
  have c:=bj
  obtain ⟨af,c,bn⟩:=zF c
  refine dF 10 [51,52,53,54,55,56,57,58,59,60] [(60,.bool af)] (fun wl=>Hd O w wl S [f1 fA v1 f.Kids,.blk h [i6 f.Kind,sb f.Name,sb f.Other,i6 f.Op,i6 f.N,i6 f.Frames,v1] 70,.blk j [.bool d.name,.bool d.other,.bool d.op,.bool d.n,.bool d.frames,i6 d.least,i6 d.most] 226]) ?_ ?_
  ·skip
   refine yM (b:=ad) rfl rfl rfl (fun y=>?_) (fun y=>?_)
   ·have c:=zN y c
    refine yE ?_
    refine yE ?_
    refine yE ?_
    refine yE ?_
    refine yE ?_
    refine yE ?_
    refine yE ?_
    refine yE ?_
    refine zH (yI (v:= .bool true) rfl rfl) ?_
    obtain rfl:=gI c
    exact zG (zA (meet ⟨(zI rfl zL),H.pick [0,1,2] (by decide)⟩))
   have c:=zO y c
   refine zH (fa226_4 rfl)<| Ld one4 H 2 4 rfl rfl ?_
   obtain ⟨bo,bp,c⟩:=zD c
   refine zH (zM (wJ (p:=d.frames) rfl) bp)<| yM (b:=bo) rfl rfl rfl (fun z=>?_) (fun z=>?_)
   ·have c:=zN z c
    refine zH (fa70_5 rfl)<| Ld fU H 1 5 rfl rfl ?_
    obtain ⟨ag,bq,c⟩:=zD c
    refine zH (zM (wL (a:=f.Frames) (b:=0) rfl rfl) bq)<| zH (yI (v:= .bool ag) rfl rfl)<| zH (yF (v:= .bool ag) rfl rfl) ?_
    obtain rfl:=gI c
    exact zG (zA (meet ⟨(zI rfl zL),H.pick [0,1,2] (by decide)⟩))
   have c:=zO z c
   refine yE ?_
   refine yE ?_
   refine yE ?_
   refine zH (yF (v:= .bool false) rfl rfl)<| zH (yF (v:= .bool false) rfl rfl) ?_
   obtain rfl:=gI c
   exact zG (zA (meet ⟨(zI rfl zL),H.pick [0,1,2] (by decide)⟩))
  rintro ρ dy H
  have c:=bn
  refine yM (b:=af) rfl rfl rfl (fun A=>?_) (fun A=>?_)
  ·have c:=zN A c
   refine yE ?_
   refine yE ?_
   refine yE ?_
   refine yE ?_
   refine yE ?_
   refine yE ?_
   refine yE ?_
   refine yE ?_
   refine yE ?_
   refine zH (yI (v:= .bool true) rfl rfl) ?_
   obtain rfl:=gI c
   exact (zG (zA (meet ⟨(),(zI rfl zL),H.pick [0,1,2] (by decide)⟩)))
  have c:=zO A c
  refine zH (fa70_6 rfl)<| Ld one68 H 1 6 rfl rfl ?_
  obtain ⟨br,bt,c⟩:=zD c
  obtain ⟨dz,d0,bu⟩:=SlF.len ((H.item (i:=0) rfl))
  refine zH (yO (xI u68 bu) (congrArg (Value.int .i64) bt))<| zH (fa226_5 rfl)<| Ld fU H 2 5 rfl rfl<| zH (fa226_6 rfl)<| Ld fU H 2 6 rfl rfl ?_
  have bv:=H
  obtain ⟨bw,bx,c⟩:=zF c
  refine yG rfl rfl (yB en76 rfl) (Fafw br d.least d.most _ bx _ _ _ (H.enter [] [] (by decide) rfl)) ?_
  rintro _ d1 ⟨rfl,bz⟩
  have H:=bv.step (bz.only:Only [] _ _)
  refine ⟨_,rfl,?_⟩
  obtain ⟨b0,b1,c⟩:=zD c
  refine zH (zM (wJ (p:=bw) rfl) b1)<| zH (yF (v:= .bool b0) rfl rfl) ?_
  obtain rfl:=gI c
  exact (zG (zA (meet ⟨(),(zI rfl zL),H.pick [0,1,2] (by decide)⟩)))
 rintro _ ρ d2 H
 have c:=a5
 refine zW (b:=X) rfl (fun B=>?_) (fun B=>?_)
 ·have c:=zN B c
  refine zC fun d3 b2=>zB<| zK (i6 2)<| zG (zA (b2 _ _ ?_))
  obtain rfl:=gI c
  refine (zY (zT (gX (v1:=i6 2) rfl rfl ?_)))
  exact ⟨rfl,H.pick [] (by decide)⟩
 have c:=zO B c
 refine zX (zA (a4 _ _ ?_))
 refine zC fun d4 b3=>?_
 refine yC ?_
 obtain ⟨ah,c,b4⟩:=zF c
 refine yH [72,73,74,75,76,77,78,79,80,81,82,83,84,85,86,87,88,89,90] (fun (g:Unit)=>[(72,.bool ah)]) (fun g wl=>Hd O w wl S [f1 fA v1 f.Kids,.blk h [i6 f.Kind,sb f.Name,sb f.Other,i6 f.Op,i6 f.N,i6 f.Frames,v1] 70,.blk j [.bool d.name,.bool d.other,.bool d.op,.bool d.n,.bool d.frames,i6 d.least,i6 d.most] 226]) ?_ ?_
 ·skip
  refine zB ?_
  refine zH (fa226_0 rfl)<| Ld one4 H 2 0 rfl rfl ?_
  obtain ⟨ai,c,b5⟩:=zF c
  refine dF 6 [75,76,77,78,79,80] [(80,.bool ai)] (fun wl=>Hd O w wl S [f1 fA v1 f.Kids,.blk h [i6 f.Kind,sb f.Name,sb f.Other,i6 f.Op,i6 f.N,i6 f.Frames,v1] 70,.blk j [.bool d.name,.bool d.other,.bool d.op,.bool d.n,.bool d.frames,i6 d.least,i6 d.most] 226]) ?_ ?_
  ·skip
   refine yM (b:=d.name) rfl rfl rfl (fun C=>?_) (fun C=>?_)
   ·have c:=zN C c
    refine zH (fa70_1 rfl)<| Ld bW H 1 1 rfl rfl ?_
    have b6:=H
    obtain ⟨b7,b8,c⟩:=zF c
    refine yG rfl rfl (yB en86 rfl) (Famw f.Name _ b8 _ _ _ (H.enter [] [] (by decide) rfl)) ?_
    rintro _ d5 ⟨rfl,b9⟩
    have H:=b6.step (b9.only:Only [] _ _)
    refine ⟨_,rfl,?_⟩
    obtain ⟨ca,cb,c⟩:=zD c
    refine zH (zM (wJ (p:=b7) rfl) cb)<| zH (yI (v:= .bool ca) rfl rfl) ?_
    obtain rfl:=gI c
    exact zG (zA (meet ⟨(zI rfl zL),H.pick [0,1,2] (by decide)⟩))
   have c:=zO C c
   refine yE ?_
   refine yE ?_
   refine yE ?_
   refine yE ?_
   refine zH (yF (v:= .bool false) rfl rfl) ?_
   obtain rfl:=gI c
   exact zG (zA (meet ⟨(zI rfl zL),H.pick [0,1,2] (by decide)⟩))
  rintro ρ d6 H
  have c:=b5
  refine yM (b:=ai) rfl rfl rfl (fun D=>?_) (fun D=>?_)
  ·have c:=zN D c
   refine yE ?_
   refine yE ?_
   refine yE ?_
   refine yE ?_
   refine yE ?_
   refine yE ?_
   refine yE ?_
   refine yE ?_
   refine zH (yI (v:= .bool true) rfl rfl)<| zK (.bool true) ?_
   obtain rfl:=gI c
   exact (zG (zA (meet ⟨(),(zI rfl zL),H.pick [0,1,2] (by decide)⟩)))
  have c:=zO D c
  refine zH (fa226_1 rfl)<| Ld one4 H 2 1 rfl rfl<| yM (b:=d.other) rfl rfl rfl (fun E=>?_) (fun E=>?_)
  ·have c:=zN E c
   refine zH (fa70_2 rfl)<| Ld bW H 1 2 rfl rfl ?_
   have cc:=H
   obtain ⟨cd,ce,c⟩:=zF c
   refine yG rfl rfl (yB en86 rfl) (Famw f.Other _ ce _ _ _ (H.enter [] [] (by decide) rfl)) ?_
   rintro _ d7 ⟨rfl,cf⟩
   have H:=cc.step (cf.only:Only [] _ _)
   refine ⟨_,rfl,?_⟩
   obtain ⟨F,cg,c⟩:=zD c
   refine zH (zM (wJ (p:=cd) rfl) cg)<| zH (yI (v:= .bool F) rfl rfl)<| zH (yF (v:= .bool F) rfl rfl)<| zK (.bool F) ?_
   obtain rfl:=gI c
   exact (zG (zA (meet ⟨(),(zI rfl zL),H.pick [0,1,2] (by decide)⟩)))
  have c:=zO E c
  refine yE ?_
  refine yE ?_
  refine yE ?_
  refine yE ?_
  refine zH (yF (v:= .bool false) rfl rfl)<| zH (yF (v:= .bool false) rfl rfl)<| zK (.bool false) ?_
  obtain rfl:=gI c
  exact (zG (zA (meet ⟨(),(zI rfl zL),H.pick [0,1,2] (by decide)⟩)))
 rintro _ ρ d8 H
 have c:=b4
 refine zW (b:=ah) rfl (fun G=>?_) (fun G=>?_)
 ·have c:=zN G c
  refine zC fun d9 ch=>zB<| zK (i6 8)<| zG (zA (ch _ _ ?_))
  obtain rfl:=gI c
  refine (zY (yD (zT (gX (v1:=i6 8) rfl rfl ?_))))
  exact ⟨rfl,H.pick [] (by decide)⟩
 have c:=zO G c
 obtain ⟨aj,c,ci⟩:=zF c
 refine yH [91,92,93,94,95,96,97,98,99] (fun (g:Unit)=>[(91,.bool aj)]) (fun g wl=>Hd O w wl S [f1 fA v1 f.Kids,.blk h [i6 f.Kind,sb f.Name,sb f.Other,i6 f.Op,i6 f.N,i6 f.Frames,v1] 70,.blk j [.bool d.name,.bool d.other,.bool d.op,.bool d.n,.bool d.frames,i6 d.least,i6 d.most] 226]) ?_ ?_
 ·skip
  refine zB ?_
  refine zH (fa226_2 rfl)<| Ld one4 H 2 2 rfl rfl<| yM (b:=d.op) rfl rfl rfl (fun I=>?_) (fun I=>?_)
  ·have c:=zN I c
   refine zH (fa70_3 rfl)<| Ld fU H 1 3 rfl rfl ?_
   have cj:=H
   obtain ⟨ck,cl,c⟩:=zF c
   refine yG rfl rfl (yB en76 rfl) (Fafw f.Op 1 6 _ cl _ _ _ (H.enter [] [] (by decide) rfl)) ?_
   rintro _ ea ⟨rfl,cm⟩
   have H:=cj.step (cm.only:Only [] _ _)
   refine ⟨_,rfl,?_⟩
   obtain ⟨ak,cn,c⟩:=zD c
   refine zH (zM (wJ (p:=ck) rfl) cn)<| zH (yI (v:= .bool ak) rfl rfl)<| zK (.bool ak) ?_
   obtain rfl:=gI c
   exact (zG (zA (meet ⟨(),(zI rfl zL),H.pick [0,1,2] (by decide)⟩)))
  have c:=zO I c
  refine yE ?_
  refine yE ?_
  refine yE ?_
  refine yE ?_
  refine zH (yF (v:= .bool false) rfl rfl)<| zK (.bool false) ?_
  obtain rfl:=gI c
  exact (zG (zA (meet ⟨(),(zI rfl zL),H.pick [0,1,2] (by decide)⟩)))
 rintro _ ρ eb H
 have c:=ci
 refine zW (b:=aj) rfl (fun J=>?_) (fun J=>?_)
 ·have c:=zN J c
  refine zC fun ec co=>zB<| zK (i6 7)<| zG (zA (co _ _ ?_))
  obtain rfl:=gI c
  refine (zY (yD (zT (gX (v1:=i6 7) rfl rfl ?_))))
  exact ⟨rfl,H.pick [] (by decide)⟩
 have c:=zO J c
 obtain ⟨al,c,cp⟩:=zF c
 refine yH [100,101,102,103,104,105,106,107,108] (fun (g:Unit)=>[(100,.bool al)]) (fun g wl=>Hd O w wl S [f1 fA v1 f.Kids,.blk h [i6 f.Kind,sb f.Name,sb f.Other,i6 f.Op,i6 f.N,i6 f.Frames,v1] 70,.blk j [.bool d.name,.bool d.other,.bool d.op,.bool d.n,.bool d.frames,i6 d.least,i6 d.most] 226]) ?_ ?_
 ·skip
  refine zB ?_
  refine zH (fa226_4 rfl)<| Ld one4 H 2 4 rfl rfl<| yM (b:=d.frames) rfl rfl rfl (fun K=>?_) (fun K=>?_)
  ·have c:=zN K c
   refine zH (fa70_5 rfl)<| Ld fU H 1 5 rfl rfl ?_
   have cq:=H
   obtain ⟨cr,ct,c⟩:=zF c
   refine yG rfl rfl (yB en76 rfl) (Fafw f.Frames 1 4096 _ ct _ _ _ (H.enter [] [] (by decide) rfl)) ?_
   rintro _ ed ⟨rfl,cu⟩
   have H:=cq.step (cu.only:Only [] _ _)
   refine ⟨_,rfl,?_⟩
   obtain ⟨am,cv,c⟩:=zD c
   refine zH (zM (wJ (p:=cr) rfl) cv)<| zH (yI (v:= .bool am) rfl rfl)<| zK (.bool am) ?_
   obtain rfl:=gI c
   exact (zG (zA (meet ⟨(),(zI rfl zL),H.pick [0,1,2] (by decide)⟩)))
  have c:=zO K c
  refine yE ?_
  refine yE ?_
  refine yE ?_
  refine yE ?_
  refine zH (yF (v:= .bool false) rfl rfl)<| zK (.bool false) ?_
  obtain rfl:=gI c
  exact (zG (zA (meet ⟨(),(zI rfl zL),H.pick [0,1,2] (by decide)⟩)))
 rintro _ ρ ee H
 have c:=cp
 refine zW (b:=al) rfl (fun L=>?_) (fun L=>?_)
 ·have c:=zN L c
  refine zC fun ef cw=>zB<| zK (i6 9)<| zG (zA (cw _ _ ?_))
  obtain rfl:=gI c
  refine (zY (yD (zT (gX (v1:=i6 9) rfl rfl ?_))))
  exact ⟨rfl,H.pick [] (by decide)⟩
 have c:=zO L c
 obtain ⟨an,c,cx⟩:=zF c
 refine yH [109,110,111,112,113,114,115,116,117,118,119,120] (fun (g:Unit)=>[(109,.bool an)]) (fun g wl=>Hd O w wl S [f1 fA v1 f.Kids,.blk h [i6 f.Kind,sb f.Name,sb f.Other,i6 f.Op,i6 f.N,i6 f.Frames,v1] 70,.blk j [.bool d.name,.bool d.other,.bool d.op,.bool d.n,.bool d.frames,i6 d.least,i6 d.most] 226]) ?_ ?_
 ·skip
  refine zB ?_
  refine zH (fa70_0 rfl)<| Ld fU H 1 0 rfl rfl ?_
  obtain ⟨cy,cz,c⟩:=zD c
  refine zH (zM (yZ (a:=f.Kind) (b:=13) rfl rfl) cz)<| yM (b:=cy) rfl rfl rfl (fun M=>?_) (fun M=>?_)
  ·have c:=zN M c
   refine zH (fa70_4 rfl)<| Ld fU H 1 4 rfl rfl<| zH (fa70_5 rfl)<| Ld fU H 1 5 rfl rfl ?_
   have c0:=H
   obtain ⟨c1,c2,c⟩:=zF c
   refine yG rfl rfl (yB en76 rfl) (Fafw f.N 1 f.Frames _ c2 _ _ _ (H.enter [] [] (by decide) rfl)) ?_
   rintro _ eg ⟨rfl,c3⟩
   have H:=c0.step (c3.only:Only [] _ _)
   refine ⟨_,rfl,?_⟩
   obtain ⟨ao,c4,c⟩:=zD c
   refine zH (zM (wJ (p:=c1) rfl) c4)<| zH (yI (v:= .bool ao) rfl rfl)<| zK (.bool ao) ?_
   obtain rfl:=gI c
   exact (zG (zA (meet ⟨(),(zI rfl zL),H.pick [0,1,2] (by decide)⟩)))
  have c:=zO M c
  refine yE ?_
  refine yE ?_
  refine yE ?_
  refine yE ?_
  refine yE ?_
  refine yE ?_
  refine zH (yF (v:= .bool false) rfl rfl)<| zK (.bool false) ?_
  obtain rfl:=gI c
  exact (zG (zA (meet ⟨(),(zI rfl zL),H.pick [0,1,2] (by decide)⟩)))
 rintro _ ρ eh H
 have c:=cx
 refine zW (b:=an) rfl (fun P=>?_) (fun P=>?_)
 ·have c:=zN P c
  refine zC fun ei c5=>zB<| zK (i6 9)<| zG (zA (c5 _ _ ?_))
  obtain rfl:=gI c
  refine (zY (yD (zT (gX (v1:=i6 9) rfl rfl ?_))))
  exact ⟨rfl,H.pick [] (by decide)⟩
 have c:=zO P c
 obtain ⟨ap,c,c6⟩:=zF c
 refine yH [121,122,123,124,125,126,127,128,129,130,131,132,133,134,135,136,137,138,139] (fun (g:Unit)=>[(121,.bool ap)]) (fun g wl=>Hd O w wl S []) ?_ ?_
 ·skip
  refine zB ?_
  refine zH (fa226_3 rfl)<| Ld one4 H 2 3 rfl rfl ?_
  obtain ⟨aq,c,c7⟩:=zF c
  refine dF 6 [124,125,126,127,128,129] [(129,.bool aq)] (fun wl=>Hd O w wl S [f1 fA v1 f.Kids,.blk h [i6 f.Kind,sb f.Name,sb f.Other,i6 f.Op,i6 f.N,i6 f.Frames,v1] 70,.blk j [.bool d.name,.bool d.other,.bool d.op,.bool d.n,.bool d.frames,i6 d.least,i6 d.most] 226]) ?_ ?_
  ·skip
   refine yM (b:=d.n) rfl rfl rfl (fun Q=>?_) (fun Q=>?_)
   ·have c:=zN Q c
    refine zH (fa70_4 rfl)<| Ld fU H 1 4 rfl rfl ?_
    have c8:=H
    obtain ⟨c9,da,c⟩:=zF c
    refine yG rfl rfl (yB en76 rfl) (Fafw f.N (-1125899906842624) 1125899906842624 _ da _ _ _ (H.enter [] [] (by decide) rfl)) ?_
    rintro _ ej ⟨rfl,db⟩
    have H:=c8.step (db.only:Only [] _ _)
    refine ⟨_,rfl,?_⟩
    obtain ⟨dc,dd,c⟩:=zD c
    refine zH (zM (wJ (p:=c9) rfl) dd)<| zH (yI (v:= .bool dc) rfl rfl) ?_
    obtain rfl:=gI c
    exact zG (zA (meet ⟨(zI rfl zL),H.pick [0,1,2] (by decide)⟩))
   have c:=zO Q c
   refine yE ?_
   refine yE ?_
   refine yE ?_
   refine yE ?_
   refine zH (yF (v:= .bool false) rfl rfl) ?_
   obtain rfl:=gI c
   exact zG (zA (meet ⟨(zI rfl zL),H.pick [0,1,2] (by decide)⟩))
  rintro ρ ek H
  have c:=c7
  refine yM (b:=aq) rfl rfl rfl (fun R=>?_) (fun R=>?_)
  ·have c:=zN R c
   refine yE ?_
   refine yE ?_
   refine yE ?_
   refine yE ?_
   refine yE ?_
   refine yE ?_
   refine yE ?_
   refine yE ?_
   refine zH (yI (v:= .bool true) rfl rfl)<| zK (.bool true) ?_
   obtain rfl:=gI c
   exact (zG (zA (meet ⟨(),(zI rfl zL),H.pick [] (by decide)⟩)))
  have c:=zO R c
  refine zH (fa70_0 rfl)<| Ld fU H 1 0 rfl rfl ?_
  obtain ⟨de,df,c⟩:=zD c
  refine zH (zM (yZ (a:=f.Kind) (b:=5) rfl rfl) df)<| yM (b:=de) rfl rfl rfl (fun T=>?_) (fun T=>?_)
  ·have c:=zN T c
   refine zH (fa70_4 rfl)<| Ld fU H 1 4 rfl rfl ?_
   obtain ⟨U,dg,c⟩:=zD c
   refine zH (zM (xK (a:=f.N) (b:=0) rfl rfl) dg)<| zH (yI (v:= .bool U) rfl rfl)<| zH (yF (v:= .bool U) rfl rfl)<| zK (.bool U) ?_
   obtain rfl:=gI c
   exact (zG (zA (meet ⟨(),(zI rfl zL),H.pick [] (by decide)⟩)))
  have c:=zO T c
  refine yE ?_
  refine yE ?_
  refine yE ?_
  refine zH (yF (v:= .bool false) rfl rfl)<| zH (yF (v:= .bool false) rfl rfl)<| zK (.bool false) ?_
  obtain rfl:=gI c
  exact (zG (zA (meet ⟨(),(zI rfl zL),H.pick [] (by decide)⟩)))
 rintro _ ρ el H
 have c:=c6
 refine zW (b:=ap) rfl (fun V=>?_) (fun V=>?_)
 ·have c:=zN V c
  refine zC fun em dh=>zB<| zK (i6 9)<| zG (zA (dh _ _ ?_))
  obtain rfl:=gI c
  refine (zY (yD (zT (gX (v1:=i6 9) rfl rfl ?_))))
  exact ⟨rfl,H.pick [] (by decide)⟩
 have c:=zO V c
 refine (zX (yK (zA (b3 _ _ ?_))))
 refine zC fun en di=>zB<| zK (i6 0)<| zG (zA (di _ _ ?_))
 obtain rfl:=gI c
 refine (zY (gX (v1:=i6 0) rfl rfl ?_))
 exact ⟨rfl,H.pick [] (by decide)⟩
abbrev Fdt (f:Cond→Option Int):Prop:= ∀(p0:Cond) (v1:Value) (r:Int) (_:f p0=some r) (O S:List Nat) (w:World) (_:Hd O w w S [f1 fA v1 p0.Kids]),
  Calls Tryz.prog 81 ([.agg [i6 p0.Kind,sb p0.Name,sb p0.Other,i6 p0.Op,i6 p0.N,i6 p0.Frames,v1].toArray,.func (.func 82) #[] #[]]:List Value).toArray w fun e w'=>e= .returned (i6 r)∧Hd O w w' S []
theorem Fbuw (rfD:Cond→Option Int)(rhD:Fdt rfD)(d:Cond)(v1:Value)(r:Int)(c:Fbu rfD d=some r)(O S:List Nat)(w:World)(H:Hd O w w S [f1 fA v1 d.Kids]):
  Calls Tryz.prog 81 ([.agg [i6 d.Kind,sb d.Name,sb d.Other,i6 d.Op,i6 d.N,i6 d.Frames,v1].toArray,.func (.func 82) #[] #[]]:List Value).toArray w fun e t=>e= .returned (i6 r)∧Hd O w t S []:=by
 unfold Fbu at c
 refine zZ 29 Tryz.func81 rfl rfl rfl ?_
 refine zC fun K3 u=>zB<| yY rfl rfl (xR (cs:=[i6 d.Kind,sb d.Name,sb d.Other,i6 d.Op,i6 d.N,i6 d.Frames,v1]) rfl H) ?_
 rintro _ w6 ⟨b4,rfl,H⟩
 refine zK (i6 0)<| zG (zA (u _ _ ?_))
 refine zC fun aw v=>?_
 refine zC fun ax x=>zB<| zJ (.func (.func 82) #[] #[])<| zH (yO (yN (cs:=[i6 d.Kind,sb d.Name,sb d.Other,i6 d.Op,i6 d.N,i6 d.Frames,v1]) bD rfl bK rfl (Hbc H 1 rfl)) rfl) ?_
 have y:=H
 obtain ⟨h,z,c⟩:=zF c
 refine yG rfl rfl (aH en82 rfl rfl) (Fajw d v1 _ z _ _ _ (H.enter [] [0] (by decide) rfl)) ?_
 rintro _ ay ⟨rfl,A⟩
 have H:=y.step (A.only:Only [] _ _)
 refine ⟨_,rfl,?_⟩
 refine zK (i6 h)<| zG (zA (x _ _ ?_))
 refine zC fun az B=>zB<| zJ (i6 h) ?_
 obtain ⟨C,D,c⟩:=zD c
 refine zH (zM (wL (a:=h) (b:=0) rfl rfl) D)<| zG (zA (B _ _ ?_))
 refine zW (b:=C) rfl (fun l=>?_) (fun l=>?_)
 ·have c:=zN l c
  refine zC fun a0 E=>zB<| zJ (i6 h)<| zK (i6 h)<| zG (zA (E _ _ ?_))
  obtain rfl:=gI c
  refine (zY (zT (gX (v1:=i6 h) rfl rfl ?_)))
  exact ⟨rfl,H.pick [] (by decide)⟩
 have c:=zO l c
 refine zX (zA (v _ _ ?_))
 obtain ⟨F,G,c⟩:=xU c
 refine yH [4,7,8,15,16,17,18,19,20,21,22,23,24,25,26,27,28] (fun (g:Unit)=>[]) (fun g wl=>Hd O w wl S []∧F ()=some r) ?_ ?_
 ·skip
  refine zC fun a1 I=>zB<| zH (fa70_6 rfl)<| Ld one68 H 1 6 rfl rfl ?_
  obtain ⟨J,K,c⟩:=zD c
  obtain ⟨a2,a3,L⟩:=SlF.len ((H.item (i:=0) rfl))
  refine zH (yO (xI u68 L) (congrArg (Value.int .i64) K))<| zJ (i6 0)<| zG (zA (I _ _ ?_))
  refine yC ?_
  unfold Feh at c
  obtain ⟨M,q,P,c⟩:=yR c
  refine xA [4,7,8,18,19,20,21,22,23,24,25,26,27,28] (fun (g:Nat×Int)=>[(18,i6 g.2)]) (fun g wl=>Hd O w wl S [f1 fA v1 d.Kids]∧fV M g.1 g.2=some r) (fun g=>g.1) (q,0) (zI rfl zL) ⟨H.pick [0] (by decide),c⟩ ?_
  clear H c
  rintro ⟨q,m⟩ ρ a4 ⟨H,c⟩
  obtain ⟨Q,rfl,c⟩:=yV c
  have c:=yU P c
  refine zC fun a5 R=>zB ?_
  obtain ⟨T,U,c⟩:=zD c
  refine zH (zM (xK (a:=m) (b:=J) rfl rfl) U)<| zG (zA (R _ _ ?_))
  refine zC fun a6 V=>?_
  refine zW (b:=T) rfl (fun n=>?_) (fun n=>?_)
  ·have c:=zN n c
   refine zX (zA (V _ _ ?_))
   refine zC fun a7 X=>?_
   refine yC ?_
   refine zC fun a8 Y=>zB ?_
   obtain ⟨f,o,c⟩:=zF c
   obtain ⟨Z,aa,a9,ba,ab,ac,ad,ae,af⟩:=wH (H.item (i:=0) rfl) o
   obtain ⟨k,rfl,ag⟩:=aF ac
   have H:=H.fzs [.at Z (aa+m.toNat * 7) _,.sl fA k f.Kids] ⟨⟨ad,ae,af⟩,ag,trivial⟩
   refine zH (yT u68 bK ab rfl (zS o).1 (zS o).2.1 rfl rfl)<| zH (yO (yN (cs:=[i6 f.Kind,sb f.Name,sb f.Other,i6 f.Op,i6 f.N,i6 f.Frames,k]) bD rfl bK rfl (H.item (i:=1) rfl).2.2) rfl)<| yY rfl rfl (xN zero70 H) ?_
   rintro _ bb ⟨bc,rfl,H⟩
   refine xB rfl (xC (vs:=[i6 f.Kind,sb f.Name,sb f.Other,i6 f.Op,i6 f.N,i6 f.Frames,k]) H 3 rfl bK rfl rfl rfl ⟨rfl,rfl,rfl,rfl,rfl,rfl,(dU (H.item (i:=2) rfl)),trivial⟩ rfl) ?_
   rintro bd H
   refine zG (zA (Y _ _ ?_))
   refine zC fun be ah=>zB<| zH (yO (yN (cs:=[i6 f.Kind,sb f.Name,sb f.Other,i6 f.Op,i6 f.N,i6 f.Frames,k]) bD rfl bK rfl (Hbc H 3 rfl)) rfl)<| zJ (.func (.func 82) #[] #[]) ?_
   have ai:=H
   obtain ⟨j,aj,c⟩:=zF c
   refine yG rfl rfl (yB en81 rfl) (rhD f k _ aj _ _ _ (H.enter [] [2] (by decide) rfl)) ?_
   rintro _ bf ⟨rfl,ak⟩
   have H:=ai.step (ak.only:Only [] _ _)
   refine ⟨_,rfl,?_⟩
   refine zK (i6 j)<| zG (zA (ah _ _ ?_))
   refine zC fun bg al=>zB<| zJ (i6 j) ?_
   obtain ⟨am,an,c⟩:=zD c
   refine zH (zM (wL (a:=j) (b:=0) rfl rfl) an)<| zG (zA (al _ _ ?_))
   refine zW (b:=am) rfl (fun p=>?_) (fun p=>?_)
   ·have c:=zN p c
    refine zC fun bh ao=>zB<| zJ (i6 j)<| zK (i6 j)<| zG (zA (ao _ _ ?_))
    obtain rfl:=gI c
    refine (zY (yD (zT (zT (yD (zT (gX (v1:=i6 j) rfl rfl ?_)))))))
    exact ⟨rfl,H.pick [] (by decide)⟩
   have c:=zO p c
   refine (zX (yK (zA (X _ _ ?_))))
   refine zB ?_
   obtain ⟨s,ap,c⟩:=zD c
   refine zH (xJ (a:=m) (b:=1) rfl rfl ap)<| zJ (i6 s) ?_
   exact (zG (zA (meet ⟨(Q,s),(zI rfl zL),⟨H.pick [0] (by decide),c⟩,Nat.lt_succ_self _⟩)))
  have c:=zO n c
  exact (xH (yL (yL (yS (zA (meet ⟨(),zL,⟨H.pick [] (by decide),c⟩⟩))))))
 rintro _ ρ bi ⟨H,c⟩
 have c:=wE G c
 refine zC fun bj aq=>zB<| zK (i6 0)<| zG (zA (aq _ _ ?_))
 obtain rfl:=gI c
 refine (zY (gX (v1:=i6 0) rfl rfl ?_))
 exact ⟨rfl,H.pick [] (by decide)⟩
theorem Fe2:Fdt (Fef):=by
 have h: ∀n,Fdt (Fa8 n):=by
  intro n
  induction n with
  | zero=>intro b c r a; cases a
  | succ n ih=>intro b c r a; exact Fbuw (Fa8 n) ih b c r a
 exact h FU
theorem Fbcw (a:Cond)(v1:Value)(r:Int)(c:Fbc a=some r)(O S:List Nat)(w:World)(H:Hd O w w S [f1 fA v1 a.Kids]):
  Calls Tryz.prog 29 ([.agg [i6 a.Kind,sb a.Name,sb a.Other,i6 a.Op,i6 a.N,i6 a.Frames,v1].toArray]:List Value).toArray w fun e i=>e= .returned (i6 r)∧Hd O w i S []:=by
 unfold Fbc at c
 refine zZ 9 Tryz.func29 rfl rfl rfl ?_
 refine zC fun E j=>zB<| yY rfl rfl (xR (cs:=[i6 a.Kind,sb a.Name,sb a.Other,i6 a.Op,i6 a.N,i6 a.Frames,v1]) rfl H) ?_
 rintro _ F ⟨k,rfl,H⟩
 refine zK (i6 0)<| zG (zA (j _ _ ?_))
 refine zC fun G l=>zB<| yY rfl rfl (xN zero3 H) ?_
 rintro _ I ⟨f,rfl,H⟩
 refine xB rfl (wI H 2 rfl sz3 rfl (v:=i6 0) rfl rfl rfl) ?_
 rintro J H
 refine zG (zA (l _ _ ?_))
 refine zC fun K m=>?_
 refine zC fun L n=>zB<| zH (yO (yN (cs:=[i6 a.Kind,sb a.Name,sb a.Other,i6 a.Op,i6 a.N,i6 a.Frames,v1]) bD rfl bK rfl (Hbc H 1 rfl)) rfl) ?_
 obtain ⟨⟨o,q⟩,s,c⟩:=zF c
 refine yG rfl rfl (yB en80 rfl) (Fe0 a 20 0 v1 f _ s _ _ _ (H.enter [2] [0] (by decide) rfl)) ?_
 rintro _ t ⟨rfl,u⟩
 have H:Hd _ _ t _ [f1 fA v1 a.Kids,.blk k [i6 a.Kind,sb a.Name,sb a.Other,i6 a.Op,i6 a.N,i6 a.Frames,v1] 70,.blk f [i6 q] 3]:=H.back [2] [0] rfl u
 refine ⟨_,rfl,?_⟩
 obtain ⟨x,y,c⟩:=zD c
 refine zH (zM (wJ (p:=o) rfl) y)<| zG (zA (n _ _ ?_))
 refine zW (b:=x) rfl (fun d=>?_) (fun d=>?_)
 ·have c:=zN d c
  refine zC fun M z=>zB<| zK (i6 3)<| zG (zA (z _ _ ?_))
  obtain rfl:=gI c
  refine (zY (zT (gX (v1:=i6 3) rfl rfl ?_)))
  exact ⟨rfl,H.pick [] (by decide)⟩
 have c:=zO d c
 refine zX (zA (m _ _ ?_))
 refine zC fun P A=>zB<| zH (yO (yN (cs:=[i6 a.Kind,sb a.Name,sb a.Other,i6 a.Op,i6 a.N,i6 a.Frames,v1]) bD rfl bK rfl (Hbc H 1 rfl)) rfl) ?_
 have B:=H
 obtain ⟨h,C,c⟩:=zF c
 refine yG rfl rfl (yB en81 rfl) (Fe2 a v1 _ C _ _ _ (H.enter [] [0] (by decide) rfl)) ?_
 rintro _ Q ⟨rfl,D⟩
 have H:=B.step (D.only:Only [] _ _)
 refine ⟨_,rfl,?_⟩
 refine zK (i6 h)<| zG (zA (A _ _ ?_))
 obtain rfl:=gI c
 refine (zY (gX (v1:=i6 h) rfl rfl ?_))
 exact ⟨rfl,H.pick [] (by decide)⟩
theorem Fb1w (d:Cond)(v1:Value)(r:Int)(c:Fb1 d=some r)(O S:List Nat)(w:World)(H:Hd O w w S [f1 fA v1 d.Kids]):
  Calls Tryz.prog 146 ([.agg [i6 d.Kind,sb d.Name,sb d.Other,i6 d.Op,i6 d.N,i6 d.Frames,v1].toArray]:List Value).toArray w fun e j=>e= .returned (i6 r)∧Hd O w j S []:=by
 unfold Fb1 at c
 refine zZ 11 Tryz.func146 rfl rfl rfl ?_
 refine zC fun u k=>zB<| yY rfl rfl (xR (cs:=[i6 d.Kind,sb d.Name,sb d.Other,i6 d.Op,i6 d.N,i6 d.Frames,v1]) rfl H) ?_
 rintro _ x ⟨y,rfl,H⟩
 refine zK (i6 0)<| zG (zA (k _ _ ?_))
 refine zC fun z l=>?_
 obtain ⟨i,c,m⟩:=zF c
 refine yH [3,4,5,6,7,8,9,10] (fun (g:Unit)=>[(10,.bool i)]) (fun g wl=>Hd O w wl S []) ?_ ?_
 ·skip
  refine zB ?_
  refine zH (fa70_0 rfl)<| Ld fU H 1 0 rfl rfl ?_
  obtain ⟨n,o,c⟩:=zD c
  refine zH (zM (yZ (a:=d.Kind) (b:=6) rfl rfl) o)<| yM (b:=n) rfl rfl rfl (fun f=>?_) (fun f=>?_)
  ·have c:=zN f c
   refine yE ?_
   refine yE ?_
   refine yE ?_
   refine zH (yI (v:= .bool true) rfl rfl) ?_
   obtain rfl:=gI c
   exact (zG (zA (meet ⟨(),(zI rfl zL),H.pick [] (by decide)⟩)))
  have c:=zO f c
  refine zH (fa70_0 rfl)<| Ld fU H 1 0 rfl rfl ?_
  obtain ⟨p,q,c⟩:=zD c
  refine zH (zM (yZ (a:=d.Kind) (b:=7) rfl rfl) q)<| zH (yF (v:= .bool p) rfl rfl) ?_
  obtain rfl:=gI c
  exact (zG (zA (meet ⟨(),(zI rfl zL),H.pick [] (by decide)⟩)))
 rintro _ ρ A H
 have c:=m
 refine zW (b:=i) rfl (fun h=>?_) (fun h=>?_)
 ·have c:=zN h c
  refine zC fun B s=>zB<| zK (i6 2)<| zG (zA (s _ _ ?_))
  obtain rfl:=gI c
  refine (zY (zT (gX (v1:=i6 2) rfl rfl ?_)))
  exact ⟨rfl,H.pick [] (by decide)⟩
 have c:=zO h c
 refine zX (zA (l _ _ ?_))
 refine zC fun C t=>zB<| zK (i6 0)<| zG (zA (t _ _ ?_))
 obtain rfl:=gI c
 refine (zY (gX (v1:=i6 0) rfl rfl ?_))
 exact ⟨rfl,H.pick [] (by decide)⟩
abbrev Fd4 (f:Cond→Option Int):Prop:= ∀(p0:Cond) (v1:Value) (r:Int) (_:f p0=some r) (O S:List Nat) (w:World) (_:Hd O w w S [f1 fA v1 p0.Kids]),
  Calls Tryz.prog 81 ([.agg [i6 p0.Kind,sb p0.Name,sb p0.Other,i6 p0.Op,i6 p0.N,i6 p0.Frames,v1].toArray,.func (.func 146) #[] #[]]:List Value).toArray w fun e w'=>e= .returned (i6 r)∧Hd O w w' S []
theorem Fb3w (rfE:Cond→Option Int)(rhE:Fd4 rfE)(d:Cond)(v1:Value)(r:Int)(c:Fb3 rfE d=some r)(O S:List Nat)(w:World)(H:Hd O w w S [f1 fA v1 d.Kids]):
  Calls Tryz.prog 81 ([.agg [i6 d.Kind,sb d.Name,sb d.Other,i6 d.Op,i6 d.N,i6 d.Frames,v1].toArray,.func (.func 146) #[] #[]]:List Value).toArray w fun e t=>e= .returned (i6 r)∧Hd O w t S []:=by
 unfold Fb3 at c
 refine zZ 29 Tryz.func81 rfl rfl rfl ?_
 refine zC fun K3 u=>zB<| yY rfl rfl (xR (cs:=[i6 d.Kind,sb d.Name,sb d.Other,i6 d.Op,i6 d.N,i6 d.Frames,v1]) rfl H) ?_
 rintro _ w6 ⟨b4,rfl,H⟩
 refine zK (i6 0)<| zG (zA (u _ _ ?_))
 refine zC fun aw v=>?_
 refine zC fun ax x=>zB<| zJ (.func (.func 146) #[] #[])<| zH (yO (yN (cs:=[i6 d.Kind,sb d.Name,sb d.Other,i6 d.Op,i6 d.N,i6 d.Frames,v1]) bD rfl bK rfl (Hbc H 1 rfl)) rfl) ?_
 have y:=H
 obtain ⟨h,z,c⟩:=zF c
 refine yG rfl rfl (aH en146 rfl rfl) (Fb1w d v1 _ z _ _ _ (H.enter [] [0] (by decide) rfl)) ?_
 rintro _ ay ⟨rfl,A⟩
 have H:=y.step (A.only:Only [] _ _)
 refine ⟨_,rfl,?_⟩
 refine zK (i6 h)<| zG (zA (x _ _ ?_))
 refine zC fun az B=>zB<| zJ (i6 h) ?_
 obtain ⟨C,D,c⟩:=zD c
 refine zH (zM (wL (a:=h) (b:=0) rfl rfl) D)<| zG (zA (B _ _ ?_))
 refine zW (b:=C) rfl (fun l=>?_) (fun l=>?_)
 ·have c:=zN l c
  refine zC fun a0 E=>zB<| zJ (i6 h)<| zK (i6 h)<| zG (zA (E _ _ ?_))
  obtain rfl:=gI c
  refine (zY (zT (gX (v1:=i6 h) rfl rfl ?_)))
  exact ⟨rfl,H.pick [] (by decide)⟩
 have c:=zO l c
 refine zX (zA (v _ _ ?_))
 obtain ⟨F,G,c⟩:=xU c
 refine yH [4,7,8,15,16,17,18,19,20,21,22,23,24,25,26,27,28] (fun (g:Unit)=>[]) (fun g wl=>Hd O w wl S []∧F ()=some r) ?_ ?_
 ·skip
  refine zC fun a1 I=>zB<| zH (fa70_6 rfl)<| Ld one68 H 1 6 rfl rfl ?_
  obtain ⟨J,K,c⟩:=zD c
  obtain ⟨a2,a3,L⟩:=SlF.len ((H.item (i:=0) rfl))
  refine zH (yO (xI u68 L) (congrArg (Value.int .i64) K))<| zJ (i6 0)<| zG (zA (I _ _ ?_))
  refine yC ?_
  unfold Fdy at c
  obtain ⟨M,q,P,c⟩:=yR c
  refine xA [4,7,8,18,19,20,21,22,23,24,25,26,27,28] (fun (g:Nat×Int)=>[(18,i6 g.2)]) (fun g wl=>Hd O w wl S [f1 fA v1 d.Kids]∧fV M g.1 g.2=some r) (fun g=>g.1) (q,0) (zI rfl zL) ⟨H.pick [0] (by decide),c⟩ ?_
  clear H c
  rintro ⟨q,m⟩ ρ a4 ⟨H,c⟩
  obtain ⟨Q,rfl,c⟩:=yV c
  have c:=yU P c
  refine zC fun a5 R=>zB ?_
  obtain ⟨T,U,c⟩:=zD c
  refine zH (zM (xK (a:=m) (b:=J) rfl rfl) U)<| zG (zA (R _ _ ?_))
  refine zC fun a6 V=>?_
  refine zW (b:=T) rfl (fun n=>?_) (fun n=>?_)
  ·have c:=zN n c
   refine zX (zA (V _ _ ?_))
   refine zC fun a7 X=>?_
   refine yC ?_
   refine zC fun a8 Y=>zB ?_
   obtain ⟨f,o,c⟩:=zF c
   obtain ⟨Z,aa,a9,ba,ab,ac,ad,ae,af⟩:=wH (H.item (i:=0) rfl) o
   obtain ⟨k,rfl,ag⟩:=aF ac
   have H:=H.fzs [.at Z (aa+m.toNat * 7) _,.sl fA k f.Kids] ⟨⟨ad,ae,af⟩,ag,trivial⟩
   refine zH (yT u68 bK ab rfl (zS o).1 (zS o).2.1 rfl rfl)<| zH (yO (yN (cs:=[i6 f.Kind,sb f.Name,sb f.Other,i6 f.Op,i6 f.N,i6 f.Frames,k]) bD rfl bK rfl (H.item (i:=1) rfl).2.2) rfl)<| yY rfl rfl (xN zero70 H) ?_
   rintro _ bb ⟨bc,rfl,H⟩
   refine xB rfl (xC (vs:=[i6 f.Kind,sb f.Name,sb f.Other,i6 f.Op,i6 f.N,i6 f.Frames,k]) H 3 rfl bK rfl rfl rfl ⟨rfl,rfl,rfl,rfl,rfl,rfl,(dU (H.item (i:=2) rfl)),trivial⟩ rfl) ?_
   rintro bd H
   refine zG (zA (Y _ _ ?_))
   refine zC fun be ah=>zB<| zH (yO (yN (cs:=[i6 f.Kind,sb f.Name,sb f.Other,i6 f.Op,i6 f.N,i6 f.Frames,k]) bD rfl bK rfl (Hbc H 3 rfl)) rfl)<| zJ (.func (.func 146) #[] #[]) ?_
   have ai:=H
   obtain ⟨j,aj,c⟩:=zF c
   refine yG rfl rfl (yB en81 rfl) (rhE f k _ aj _ _ _ (H.enter [] [2] (by decide) rfl)) ?_
   rintro _ bf ⟨rfl,ak⟩
   have H:=ai.step (ak.only:Only [] _ _)
   refine ⟨_,rfl,?_⟩
   refine zK (i6 j)<| zG (zA (ah _ _ ?_))
   refine zC fun bg al=>zB<| zJ (i6 j) ?_
   obtain ⟨am,an,c⟩:=zD c
   refine zH (zM (wL (a:=j) (b:=0) rfl rfl) an)<| zG (zA (al _ _ ?_))
   refine zW (b:=am) rfl (fun p=>?_) (fun p=>?_)
   ·have c:=zN p c
    refine zC fun bh ao=>zB<| zJ (i6 j)<| zK (i6 j)<| zG (zA (ao _ _ ?_))
    obtain rfl:=gI c
    refine (zY (yD (zT (zT (yD (zT (gX (v1:=i6 j) rfl rfl ?_)))))))
    exact ⟨rfl,H.pick [] (by decide)⟩
   have c:=zO p c
   refine (zX (yK (zA (X _ _ ?_))))
   refine zB ?_
   obtain ⟨s,ap,c⟩:=zD c
   refine zH (xJ (a:=m) (b:=1) rfl rfl ap)<| zJ (i6 s) ?_
   exact (zG (zA (meet ⟨(Q,s),(zI rfl zL),⟨H.pick [0] (by decide),c⟩,Nat.lt_succ_self _⟩)))
  have c:=zO n c
  exact (xH (yL (yL (yS (zA (meet ⟨(),zL,⟨H.pick [] (by decide),c⟩⟩))))))
 rintro _ ρ bi ⟨H,c⟩
 have c:=wE G c
 refine zC fun bj aq=>zB<| zK (i6 0)<| zG (zA (aq _ _ ?_))
 obtain rfl:=gI c
 refine (zY (gX (v1:=i6 0) rfl rfl ?_))
 exact ⟨rfl,H.pick [] (by decide)⟩
theorem Fez:Fd4 (Feb):=by
 have h: ∀n,Fd4 (Fbh n):=by
  intro n
  induction n with
  | zero=>intro b c r a; cases a
  | succ n ih=>intro b c r a; exact Fb3w (Fbh n) ih b c r a
 exact h FU
theorem Fcgw (h:Rules)(c:MoveT)(v1:Value)(k:Value)(l:Value)(f:Value)(r:Int)(d:Fcg h c=some r)(O S:List Nat)(w:World)(H:Hd O w w S [f1 Rp.str v1 h.Phases,f1 fD k h.Moves,f1 fF l h.Rules,f1 fA f c.When.Kids]):
  Calls Tryz.prog 88 ([.agg [v1,k,l].toArray,.agg [sb c.From,sb c.To,i6 c.When.Kind,sb c.When.Name,sb c.When.Other,i6 c.When.Op,i6 c.When.N,i6 c.When.Frames,f].toArray]:List Value).toArray w fun e z=>e= .returned (i6 r)∧Hd O w z S []:=by
 unfold Fcg at d
 refine zZ 33 Tryz.func88 rfl rfl rfl ?_
 refine zC fun K9 A=>zB<| yY rfl rfl (xR (cs:=[v1,k,l]) rfl H) ?_
 rintro _ a1 ⟨B,rfl,H⟩
 refine yY rfl rfl (xR (cs:=[sb c.From,sb c.To,i6 c.When.Kind,sb c.When.Name,sb c.When.Other,i6 c.When.Op,i6 c.When.N,i6 c.When.Frames,f]) rfl H) ?_
 rintro _ a2 ⟨t,rfl,H⟩
 refine zK (i6 0)<| zG (zA (A _ _ ?_))
 obtain ⟨C,D,d⟩:=xU d
 refine yH [4,6,8,9,10,11,12,13,14,15,16,17,18,19,20,21,22,23] (fun (g:Unit)=>[]) (fun g wl=>Hd O w wl S [f1 fA f c.When.Kids,.blk t [sb c.From,sb c.To,i6 c.When.Kind,sb c.When.Name,sb c.When.Other,i6 c.When.Op,i6 c.When.N,i6 c.When.Frames,f] 122]∧C ()=some r) ?_ ?_
 ·skip
  refine zC fun a3 E=>zB<| zH (fa122_0 rfl)<| Ld bW H 5 0 rfl rfl<| zH (fa122_1 rfl)<| Ld bW H 5 1 rfl rfl ?_
  obtain ⟨a4,F,d⟩:=zD d
  subst F
  refine yY rfl rfl (Lx_bs (r:=Rp.str) (xl:=[c.From,c.To]) (cs:=[sb c.From,sb c.To]) u22 el9 (by decide) (by decide) rfl (wG (vs:=[sb c.From,sb c.To]) (by decide) rfl rfl ⟨rfl,rfl,trivial⟩ rfl) H ⟨[sb c.From],[sb c.To],rfl,rfl,⟨[sb c.To],[],rfl,rfl,rfl⟩⟩) ?_
  rintro G a5 H
  obtain ⟨I,J,d⟩:=zD d
  obtain ⟨a6,a7,K⟩:=Sr.len (Sr.of_own (H.item (i:=6) rfl))
  refine zH (yO (xI u22 K) (congrArg (Value.int .i64) J))<| zJ (i6 0)<| zG (zA (E _ _ ?_))
  refine yC ?_
  unfold Fd7 at d
  obtain ⟨L,u,M,d⟩:=yR d
  refine xA [4,6,14,15,16,17,18,19,20,21,22,23] (fun (g:Nat×Int)=>[(14,i6 g.2)]) (fun g wl=>Hd O w wl S [f1 Rp.str v1 h.Phases,f1 fD k h.Moves,f1 fF l h.Rules,f1 fA f c.When.Kids,.blk B [v1,k,l] 26,.blk t [sb c.From,sb c.To,i6 c.When.Kind,sb c.When.Name,sb c.When.Other,i6 c.When.Op,i6 c.When.N,i6 c.When.Frames,f] 122,.own Rp.str G 9 ([c.From,c.To]:List Str)]∧fV L g.1 g.2=some r) (fun g=>g.1) (u,0) (zI rfl zL) ⟨H.pick [0,1,2,3,4,5,6] (by decide),d⟩ ?_
  clear H d
  rintro ⟨u,v⟩ ρ a8 ⟨H,d⟩
  obtain ⟨P,rfl,d⟩:=yV d
  have d:=yU M d
  refine zC fun a9 Q=>zB ?_
  obtain ⟨R,T,d⟩:=zD d
  refine zH (zM (xK (a:=v) (b:=I) rfl rfl) T)<| zG (zA (Q _ _ ?_))
  refine zC fun ba U=>?_
  refine zW (b:=R) rfl (fun n=>?_) (fun n=>?_)
  ·have d:=zN n d
   refine zX (zA (U _ _ ?_))
   refine zC fun bb V=>?_
   refine yC ?_
   refine zC fun bc X=>zB ?_
   obtain ⟨m,o,d⟩:=zF d
   obtain ⟨bd,be,Y,Z,aa,ab⟩:=bH (H.item (i:=6) rfl) o
   obtain rfl:Y= [sb m]:=aa
   refine zH (yT u22 sz9 Z rfl (zS o).1 (zS o).2.1 rfl rfl)<| zH (yX bW rfl (Cells.get ab (i:=0) rfl))<| zK (sb m)<| zG (zA (X _ _ ?_))
   refine zC fun bf ac=>zB<| zH (fa26_0 rfl)<| Ld aN H 4 0 rfl rfl<| zJ (sb m) ?_
   have ad:=H
   obtain ⟨ae,af,d⟩:=zF d
   refine yG rfl rfl (yB en87 rfl) (Fa0w h.Phases m v1 _ af _ _ _ (H.enter [] [0] (by decide) rfl)) ?_
   rintro _ bg ⟨rfl,ag⟩
   have H:=ad.step (ag.only:Only [] _ _)
   refine ⟨_,rfl,?_⟩
   obtain ⟨ah,ai,d⟩:=zD d
   refine zH (zM (wJ (p:=ae) rfl) ai)<| zG (zA (ac _ _ ?_))
   refine zW (b:=ah) rfl (fun q=>?_) (fun q=>?_)
   ·have d:=zN q d
    refine zC fun bh aj=>zB<| zK (i6 4)<| zG (zA (aj _ _ ?_))
    obtain rfl:=gI d
    refine (zY (yD (zT (zT (yD (zT (gX (v1:=i6 4) rfl rfl ?_)))))))
    exact ⟨rfl,H.pick [] (by decide)⟩
   have d:=zO q d
   refine (zX (yK (zA (V _ _ ?_))))
   refine zB ?_
   obtain ⟨x,ak,d⟩:=zD d
   refine zH (xJ (a:=v) (b:=1) rfl rfl ak)<| zJ (i6 x) ?_
   exact (zG (zA (meet ⟨(P,x),(zI rfl zL),⟨H.pick [0,1,2,3,4,5,6] (by decide),d⟩,Nat.lt_succ_self _⟩)))
  have d:=zO n d
  exact (xH (yL (yL (yS (zA (meet ⟨(),zL,⟨H.pick [3,5] (by decide),d⟩⟩))))))
 rintro _ ρ bi ⟨H,d⟩
 have d:=wE D d
 refine zC fun bj al=>?_
 refine zC fun bk am=>zB<| zH (fa122_2 rfl)<| zH (yO (yN (cs:=[i6 c.When.Kind,sb c.When.Name,sb c.When.Other,i6 c.When.Op,i6 c.When.N,i6 c.When.Frames,f]) bD rfl bK rfl (Cells.drop (Hbc H 1 rfl) 2 7)) rfl) ?_
 have an:=H
 obtain ⟨j,ao,d⟩:=zF d
 refine yG rfl rfl (yB en29 rfl) (Fbcw c.When f _ ao _ _ _ (H.enter [] [0] (by decide) rfl)) ?_
 rintro _ bl ⟨rfl,ap⟩
 have H:=an.step (ap.only:Only [] _ _)
 refine ⟨_,rfl,?_⟩
 refine zK (i6 j)<| zG (zA (am _ _ ?_))
 refine zC fun bm aq=>zB<| zJ (i6 j) ?_
 obtain ⟨ar,au,d⟩:=zD d
 refine zH (zM (wL (a:=j) (b:=0) rfl rfl) au)<| zG (zA (aq _ _ ?_))
 refine zW (b:=ar) rfl (fun s=>?_) (fun s=>?_)
 ·have d:=zN s d
  refine zC fun bn av=>zB<| zJ (i6 j)<| zK (i6 j)<| zG (zA (av _ _ ?_))
  obtain rfl:=gI d
  refine (zY (zT (gX (v1:=i6 j) rfl rfl ?_)))
  exact ⟨rfl,H.pick [] (by decide)⟩
 have d:=zO s d
 refine zX (zA (al _ _ ?_))
 refine zC fun bo aw=>zB<| zH (fa122_2 rfl)<| zH (yO (yN (cs:=[i6 c.When.Kind,sb c.When.Name,sb c.When.Other,i6 c.When.Op,i6 c.When.N,i6 c.When.Frames,f]) bD rfl bK rfl (Cells.drop (Hbc H 1 rfl) 2 7)) rfl) ?_
 have ax:=H
 obtain ⟨y,ay,d⟩:=zF d
 refine yG rfl rfl (yB en81 rfl) (Fez c.When f _ ay _ _ _ (H.enter [] [0] (by decide) rfl)) ?_
 rintro _ bp ⟨rfl,az⟩
 have H:=ax.step (az.only:Only [] _ _)
 refine ⟨_,rfl,?_⟩
 refine zK (i6 y)<| zG (zA (aw _ _ ?_))
 obtain rfl:=gI d
 refine (zY (gX (v1:=i6 y) rfl rfl ?_))
 exact ⟨rfl,H.pick [] (by decide)⟩
theorem Fcxw (a:aY)(b:Str)(v1:Value)(d:Nat)(r:Bool)(c:Fcx a b=some r)(O S:List Nat)(w:World)(H:Hd O w w S [.blk d [sb b] 9,f1 fA v1 a.When.Kids]):
  Calls Tryz.prog 149 ([.agg [sb a.Name,i6 a.When.Kind,sb a.When.Name,sb a.When.Other,i6 a.When.Op,i6 a.When.N,i6 a.When.Frames,v1].toArray,gW d]:List Value).toArray w fun e h=>e= .returned (.bool r)∧Hd O w h S [.blk d [sb b] 9]:=by
 unfold Fcx at c
 refine zZ 8 Tryz.func149 rfl rfl rfl ?_
 refine zC fun l i=>zB<| yY rfl rfl (xR (cs:=[sb a.Name,i6 a.When.Kind,sb a.When.Name,sb a.When.Other,i6 a.When.Op,i6 a.When.N,i6 a.When.Frames,v1]) rfl H) ?_
 rintro _ m ⟨n,rfl,H⟩
 refine zK (.bool false)<| zG (zA (i _ _ ?_))
 refine zC fun o j=>zB<| zH (fa95_0 rfl)<| Ld bW H 2 0 rfl rfl<| Ld bW H 0 0 rfl rfl ?_
 obtain ⟨f,k,c⟩:=zD c
 refine zH (zM (dL (s1:=a.Name) (s2:=b) rfl rfl) k)<| zK (.bool f)<| zG (zA (j _ _ ?_))
 obtain rfl:=gI c
 refine (zY (gX (v1:= .bool f) rfl rfl ?_))
 exact ⟨rfl,H.pick [0] (by decide)⟩
theorem Fcww (k:List aY)(p1c0:Str)(v1:Value)(h:Nat)(r:Int)(c:Fcw k p1c0=some r)(O S:List Nat)(w:World)(H:Hd O w w S [.blk h [sb p1c0] 9,f1 fF v1 k]):
  Calls Tryz.prog 194 ([v1,.func (.func 149) #[] #[gW h]]:List Value).toArray w fun e t=>e= .returned (i6 r)∧Hd O w t S [.blk h [sb p1c0] 9]:=by
 unfold Fcw at c
 refine zZ 19 Tryz.func194 rfl rfl rfl ?_
 refine zC fun K5 u=>zB<| zK (i6 0)<| zG (zA (u _ _ ?_))
 obtain ⟨v,x,c⟩:=xU c
 refine yH [4,5,6,7,8,9,10,11,12,13,14,15,16,17,18] (fun (g:Unit)=>[]) (fun g wl=>Hd O w wl S [.blk h [sb p1c0] 9]∧v ()=some r) ?_ ?_
 ·skip
  refine zC fun af y=>zB<| zJ v1 ?_
  obtain ⟨z,A,c⟩:=zD c
  obtain ⟨ag,ah,B⟩:=SlF.len ((H.item (i:=1) rfl))
  refine zH (yO (xI u24 B) (congrArg (Value.int .i64) A))<| zJ (i6 0)<| zG (zA (y _ _ ?_))
  refine yC ?_
  unfold Fel at c
  obtain ⟨C,o,D,c⟩:=yR c
  refine xA [4,5,8,9,10,11,12,13,14,15,16,17,18] (fun (g:Nat×Int)=>[(8,i6 g.2)]) (fun g wl=>Hd O w wl S [.blk h [sb p1c0] 9,f1 fF v1 k]∧fV C g.1 g.2=some r) (fun g=>g.1) (o,0) (zI rfl zL) ⟨H.pick [0,1] (by decide),c⟩ ?_
  clear H c
  rintro ⟨o,f⟩ ρ ai ⟨H,c⟩
  obtain ⟨E,rfl,c⟩:=yV c
  have c:=yU D c
  refine zC fun aj F=>zB ?_
  obtain ⟨G,I,c⟩:=zD c
  refine zH (zM (xK (a:=f) (b:=z) rfl rfl) I)<| zG (zA (F _ _ ?_))
  refine zC fun ak J=>?_
  refine zW (b:=G) rfl (fun l=>?_) (fun l=>?_)
  ·have c:=zN l c
   refine zX (zA (J _ _ ?_))
   refine zC fun al K=>?_
   refine yC ?_
   refine zC fun am L=>zB<| zJ (i6 f)<| zK (i6 f)<| zG (zA (L _ _ ?_))
   refine zC fun an M=>zB<| zJ (.func (.func 149) #[] #[gW h])<| zJ v1<| zJ (i6 f) ?_
   obtain ⟨d,m,c⟩:=zF c
   obtain ⟨p,q,ao,ap,P,Q,R,T,U⟩:=wH (H.item (i:=1) rfl) m
   obtain ⟨j,rfl,V⟩:=rRule_open Q
   have H:=H.fzs [.at p (q+f.toNat * 8) _,.sl fA j d.When.Kids] ⟨⟨R,T,U⟩,V,trivial⟩
   refine zH (yT u24 sz95 P rfl (zS m).1 (zS m).2.1 rfl rfl)<| zH (yO (yN (cs:=[sb d.Name,i6 d.When.Kind,sb d.When.Name,sb d.When.Other,i6 d.When.Op,i6 d.When.N,i6 d.When.Frames,j]) agg95 rfl sz95 rfl (H.item (i:=2) rfl).2.2) rfl) ?_
   obtain ⟨X,Y,c⟩:=zF c
   refine yG rfl rfl (aH en149 rfl rfl) (Fcxw d p1c0 j h _ Y _ _ _ (H.enter [0] [3] (by decide) rfl)) ?_
   rintro _ Z ⟨rfl,aa⟩
   have H:Hd _ _ Z _ [f1 fF v1 k,.fz (.at p (q+f.toNat * 8) [sb d.Name,i6 d.When.Kind,sb d.When.Name,sb d.When.Other,i6 d.When.Op,i6 d.When.N,i6 d.When.Frames,j]),f1 fA j d.When.Kids,.blk h [sb p1c0] 9]:=H.back [0] [3] rfl aa
   refine ⟨_,rfl,?_⟩
   refine zG (zA (M _ _ ?_))
   refine zW (b:=X) rfl (fun n=>?_) (fun n=>?_)
   ·have c:=zN n c
    refine zC fun aq ab=>zB<| zJ (i6 f)<| zK (i6 f)<| zG (zA (ab _ _ ?_))
    obtain rfl:=gI c
    refine (zY (yD (zT (zT (yD (zT (gX (v1:=i6 f) rfl rfl ?_)))))))
    exact ⟨rfl,H.pick [3] (by decide)⟩
   have c:=zO n c
   refine (zX (yK (zA (K _ _ ?_))))
   refine zB ?_
   obtain ⟨s,ac,c⟩:=zD c
   refine zH (xJ (a:=f) (b:=1) rfl rfl ac)<| zJ (i6 s) ?_
   exact (zG (zA (meet ⟨(E,s),(zI rfl zL),⟨H.pick [3,0] (by decide),c⟩,Nat.lt_succ_self _⟩)))
  have c:=zO l c
  exact (xH (yL (yL (yS (zA (meet ⟨(),zL,⟨H.pick [0] (by decide),c⟩⟩))))))
 rintro _ ρ ar ⟨H,c⟩
 have c:=wE x c
 refine zC fun au ad=>zB<| zK (i6 (-1))<| zG (zA (ad _ _ ?_))
 obtain rfl:=gI c
 refine (zY (gX (v1:=i6 (-1)) rfl rfl ?_))
 exact ⟨rfl,H.pick [0] (by decide)⟩
theorem Fc6w (f:List aY)(p1c0:Str)(v1:Value)(c:Nat)(r:Bool)(d:Fc6 f p1c0=some r)(O S:List Nat)(w:World)(H:Hd O w w S [.blk c [sb p1c0] 9,f1 fF v1 f]):
  Calls Tryz.prog 148 ([v1,.func (.func 149) #[] #[gW c]]:List Value).toArray w fun e i=>e= .returned (.bool r)∧Hd O w i S [.blk c [sb p1c0] 9]:=by
 unfold Fc6 at d
 refine zZ 9 Tryz.func148 rfl rfl rfl ?_
 refine zC fun q j=>zB<| zK (.bool false)<| zG (zA (j _ _ ?_))
 refine zC fun s k=>zB<| zJ v1<| zJ (.func (.func 149) #[] #[gW c]) ?_
 obtain ⟨l,m,d⟩:=zF d
 refine yG rfl rfl (yB en194 rfl) (Fcww f p1c0 v1 c _ m _ _ _ (H.enter [0] [1] (by decide) rfl)) ?_
 rintro _ n ⟨rfl,o⟩
 have H:Hd _ _ n _ [f1 fF v1 f,.blk c [sb p1c0] 9]:=H.back [0] [1] rfl o
 refine ⟨_,rfl,?_⟩
 obtain ⟨h,p,d⟩:=zD d
 refine zH (zM (aJ (a:=l) (b:=0) rfl rfl) p)<| zK (.bool h)<| zG (zA (k _ _ ?_))
 obtain rfl:=gI d
 refine (zY (gX (v1:= .bool h) rfl rfl ?_))
 exact ⟨rfl,H.pick [1] (by decide)⟩
theorem Fbmw (h:Str)(a:Rules)(j:Int)(k:Nat)(c:Value)(d:Value)(f:Value)(l:Nat)(r:Bool)(b:Fbm h a j=some r)(O S:List Nat)(w:World)(H:Hd O w w S [.blk k [c,d,f] 26,.blk l [i6 j] 3,f1 Rp.str c a.Phases,f1 fD d a.Moves,f1 fF f a.Rules]):
  Calls Tryz.prog 147 ([sb h,gW k,gW l]:List Value).toArray w fun e q=>e= .returned (.bool r)∧Hd O w q S [.blk k [c,d,f] 26,.blk l [i6 j] 3]:=by
 unfold Fbm at b
 refine zZ 11 Tryz.func147 rfl rfl rfl ?_
 refine zC fun A s=>zB<| yY rfl rfl (Lx_box1 rfl rfl H) ?_
 rintro _ B ⟨o,rfl,H⟩
 refine zK (.bool false)<| zG (zA (s _ _ ?_))
 refine zC fun C t=>zB<| zH (fa26_2 rfl)<| Ld one24 H 0 2 rfl rfl<| Ld fU H 1 0 rfl rfl ?_
 obtain ⟨m,u,b⟩:=zF b
 refine RL_exP rfl rfl (Lx_slice_h u24 sz95 (H.item (i:=4) rfl) rfl rfl u) ?_
 rintro n v
 have H:=H.fz (.sl fF n m) v
 refine zH (bG rfl) ?_
 obtain ⟨p,x,b⟩:=zF b
 refine yG rfl rfl (yB en148 rfl) (Fc6w m h n o _ x _ _ _ (H.enter [5] [6] (by decide) rfl)) ?_
 rintro _ y ⟨rfl,z⟩
 have H:Hd _ _ y _ [.blk k [c,d,f] 26,.blk l [i6 j] 3,f1 Rp.str c a.Phases,f1 fD d a.Moves,f1 fF f a.Rules,f1 fF n m,.blk o [sb h] 9]:=H.back [5] [6] rfl z
 refine ⟨_,rfl,?_⟩
 refine zK (.bool p)<| zG (zA (t _ _ ?_))
 obtain rfl:=gI b
 refine (zY (gX (v1:= .bool p) rfl rfl ?_))
 exact ⟨rfl,H.pick [0,1] (by decide)⟩
theorem Fb0w (d:Cond)(f:Rules)(c1f1:Int)(v1:Value)(h:Nat)(i:Value)(k:Value)(l:Value)(m:Nat)(j:Nat)(r:Int)(c:Fb0 d f c1f1=some r)(O S:List Nat)(w:World)(H:Hd O w w S [.blk h [i,k,l] 26,.blk j [i6 c1f1] 3,.blk m [.func (.func 147) #[] #[gW h,gW j]] 48,f1 fA v1 d.Kids,f1 Rp.str i f.Phases,f1 fD k f.Moves,f1 fF l f.Rules]):
  Calls Tryz.prog 150 ([.agg [i6 d.Kind,sb d.Name,sb d.Other,i6 d.Op,i6 d.N,i6 d.Frames,v1].toArray,gW h,gW m]:List Value).toArray w fun e z=>e= .returned (i6 r)∧Hd O w z S [.blk h [i,k,l] 26,.blk j [i6 c1f1] 3,.blk m [.func (.func 147) #[] #[gW h,gW j]] 48]:=by
 unfold Fb0 at c
 refine zZ 28 Tryz.func150 rfl rfl rfl ?_
 refine zC fun aa A=>zB<| yY rfl rfl (xR (cs:=[i6 d.Kind,sb d.Name,sb d.Other,i6 d.Op,i6 d.N,i6 d.Frames,v1]) rfl H) ?_
 rintro _ ab ⟨t,rfl,H⟩
 refine zK (i6 0)<| zG (zA (A _ _ ?_))
 refine zC fun ac B=>?_
 obtain ⟨u,c,C⟩:=zF c
 refine yH [5,6,7,8,9,10,11,12,13,14,15,16,17,18,19,20,21,22,23,24,25,26,27] (fun (g:Unit)=>[(27,.bool u)]) (fun g wl=>Hd O w wl S [.blk h [i,k,l] 26,f1 Rp.str i f.Phases,f1 fD k f.Moves,f1 fF l f.Rules,.blk j [i6 c1f1] 3,.blk m [.func (.func 147) #[] #[gW h,gW j]] 48]) ?_ ?_
 ·skip
  refine zB ?_
  refine zH (fa70_0 rfl)<| Ld fU H 7 0 rfl rfl ?_
  obtain ⟨D,E,c⟩:=zD c
  refine zH (zM (yZ (a:=d.Kind) (b:=6) rfl rfl) E) ?_
  obtain ⟨x,c,F⟩:=zF c
  refine dF 8 [8,9,10,11,12,13,14,15] [(15,.bool x)] (fun wl=>Hd O w wl S [.blk h [i,k,l] 26,.blk j [i6 c1f1] 3,.blk m [.func (.func 147) #[] #[gW h,gW j]] 48,f1 fA v1 d.Kids,f1 Rp.str i f.Phases,f1 fD k f.Moves,f1 fF l f.Rules,.blk t [i6 d.Kind,sb d.Name,sb d.Other,i6 d.Op,i6 d.N,i6 d.Frames,v1] 70]) ?_ ?_
  ·skip
   refine yM (b:=D) rfl rfl rfl (fun n=>?_) (fun n=>?_)
   ·have c:=zN n c
    refine zH (fa26_0 rfl)<| Ld aN H 0 0 rfl rfl<| zH (fa70_1 rfl)<| Ld bW H 7 1 rfl rfl ?_
    have G:=H
    obtain ⟨I,J,c⟩:=zF c
    refine yG rfl rfl (yB en87 rfl) (Fa0w f.Phases d.Name i _ J _ _ _ (H.enter [] [4] (by decide) rfl)) ?_
    rintro _ ad ⟨rfl,K⟩
    have H:=G.step (K.only:Only [] _ _)
    refine ⟨_,rfl,?_⟩
    obtain ⟨L,M,c⟩:=zD c
    refine zH (zM (wJ (p:=I) rfl) M)<| zH (yI (v:= .bool L) rfl rfl) ?_
    obtain rfl:=gI c
    exact zG (zA (meet ⟨(zI rfl zL),H.pick [0,1,2,3,4,5,6,7] (by decide)⟩))
   have c:=zO n c
   refine yE ?_
   refine yE ?_
   refine yE ?_
   refine yE ?_
   refine yE ?_
   refine yE ?_
   refine zH (yF (v:= .bool false) rfl rfl) ?_
   obtain rfl:=gI c
   exact zG (zA (meet ⟨(zI rfl zL),H.pick [0,1,2,3,4,5,6,7] (by decide)⟩))
  rintro ρ ae H
  have c:=F
  refine yM (b:=x) rfl rfl rfl (fun o=>?_) (fun o=>?_)
  ·have c:=zN o c
   refine yE ?_
   refine yE ?_
   refine yE ?_
   refine yE ?_
   refine yE ?_
   refine yE ?_
   refine yE ?_
   refine yE ?_
   refine yE ?_
   refine yE ?_
   refine zH (yI (v:= .bool true) rfl rfl) ?_
   obtain rfl:=gI c
   exact (zG (zA (meet ⟨(),(zI rfl zL),H.pick [0,4,5,6,1,2] (by decide)⟩)))
  have c:=zO o c
  refine zH (fa70_0 rfl)<| Ld fU H 7 0 rfl rfl ?_
  obtain ⟨P,Q,c⟩:=zD c
  refine zH (zM (yZ (a:=d.Kind) (b:=7) rfl rfl) Q)<| yM (b:=P) rfl rfl rfl (fun q=>?_) (fun q=>?_)
  ·have c:=zN q c
   refine Ld one48 H 2 0 rfl rfl<| zH (fa70_1 rfl)<| Ld bW H 7 1 rfl rfl ?_
   obtain ⟨R,T,c⟩:=zF c
   refine yG rfl rfl (aH en147 rfl rfl) (Fbmw d.Name f c1f1 h i k l j _ T _ _ _ (H.enter [0,1] [4,5,6] (by decide) rfl)) ?_
   rintro _ U ⟨rfl,V⟩
   have H:Hd _ _ U _ [.blk m [.func (.func 147) #[] #[gW h,gW j]] 48,f1 fA v1 d.Kids,f1 Rp.str i f.Phases,f1 fD k f.Moves,f1 fF l f.Rules,.blk t [i6 d.Kind,sb d.Name,sb d.Other,i6 d.Op,i6 d.N,i6 d.Frames,v1] 70,.blk h [i,k,l] 26,.blk j [i6 c1f1] 3]:=H.back [0,1] [4,5,6] rfl V
   refine ⟨_,rfl,?_⟩
   obtain ⟨y,X,c⟩:=zD c
   refine zH (zM (wJ (p:=R) rfl) X)<| zH (yI (v:= .bool y) rfl rfl)<| zH (yF (v:= .bool y) rfl rfl) ?_
   obtain rfl:=gI c
   exact (zG (zA (meet ⟨(),(zI rfl zL),H.pick [6,2,3,4,7,0] (by decide)⟩)))
  have c:=zO q c
  refine yE ?_
  refine yE ?_
  refine yE ?_
  refine yE ?_
  refine yE ?_
  refine zH (yF (v:= .bool false) rfl rfl)<| zH (yF (v:= .bool false) rfl rfl) ?_
  obtain rfl:=gI c
  exact (zG (zA (meet ⟨(),(zI rfl zL),H.pick [0,4,5,6,1,2] (by decide)⟩)))
 rintro _ ρ af H
 have c:=C
 refine zW (b:=u) rfl (fun s=>?_) (fun s=>?_)
 ·have c:=zN s c
  refine zC fun ag Y=>zB<| zK (i6 4)<| zG (zA (Y _ _ ?_))
  obtain rfl:=gI c
  refine (zY (zT (gX (v1:=i6 4) rfl rfl ?_)))
  exact ⟨rfl,H.pick [0,4,5] (by decide)⟩
 have c:=zO s c
 refine zX (zA (B _ _ ?_))
 refine zC fun ah Z=>zB<| zK (i6 0)<| zG (zA (Z _ _ ?_))
 obtain rfl:=gI c
 refine (zY (gX (v1:=i6 0) rfl rfl ?_))
 exact ⟨rfl,H.pick [0,4,5] (by decide)⟩
abbrev Fer (f:Cond→Rules→Int→Option Int):Prop:= ∀(p0:Cond) (p1c0:Rules) (p1c1f1:Int) (v1:Value) (b3:Nat) (v4:Value) (v5:Value) (v6:Value) (b11:Nat) (b13:Nat) (r:Int) (_:f p0 p1c0 p1c1f1=some r) (O S:List Nat) (w:World) (_:Hd O w w S [.blk b3 [v4,v5,v6] 26,.blk b13 [i6 p1c1f1] 3,.blk b11 [.func (.func 147) #[] #[gW b3,gW b13]] 48,f1 fA v1 p0.Kids,f1 Rp.str v4 p1c0.Phases,f1 fD v5 p1c0.Moves,f1 fF v6 p1c0.Rules]),
  Calls Tryz.prog 81 ([.agg [i6 p0.Kind,sb p0.Name,sb p0.Other,i6 p0.Op,i6 p0.N,i6 p0.Frames,v1].toArray,.func (.func 150) #[] #[gW b3,gW b11]]:List Value).toArray w fun e w'=>e= .returned (i6 r)∧Hd O w w' S [.blk b3 [v4,v5,v6] 26,.blk b13 [i6 p1c1f1] 3,.blk b11 [.func (.func 147) #[] #[gW b3,gW b13]] 48]
end Go.Proofs.YtckmiljbaejijaaGreatDoor.L
