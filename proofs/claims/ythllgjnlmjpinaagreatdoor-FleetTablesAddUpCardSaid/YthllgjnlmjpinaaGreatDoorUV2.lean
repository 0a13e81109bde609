/- Walks: what each function computes, for every argument; no condition but those that stand in the statements. -/
import Derived.Test.YthllgjnlmjpinaaGreatDoorUV0
import Derived.Test.YthllgjnlmjpinaaGreatDoorUV1
namespace Go.Proofs.YthllgjnlmjpinaaGreatDoor.L
open Go.RowKit Go.OB Go.Lf
set_option maxHeartbeats 4000000
set_option maxRecDepth 100000 in
theorem Fabw (f:Cond)(v1:Value)(r:Int)(c:Fab f=some r)(O S:List Nat)(w:World)(H:Hd O w w S [f1 fO v1 f.Kids]):
  Cl 116 [.agg [i6 f.Kind,sb f.Name,sb f.Other,i6 f.Op,i6 f.N,i6 f.Frames,v1].toArray] w fun e w'=>e= .returned (i6 r)∧Hd O w w' S []:=by
 unfold Fab at c
 refine CW 140 Tryz.func116 ?_
 refine zB fun K3 au=>zA<| yP rfl rfl (xJ (cs:=[i6 f.Kind,sb f.Name,sb f.Other,i6 f.Op,i6 f.N,i6 f.Frames,v1]) rfl H) ?_
 rintro _ w6 ⟨h,rfl,H⟩
 refine zI (i6 0)<| RN au<| zB fun K7 av=>zA<| zG (mF rfl)<| Ld fG H 1 0 rfl rfl ?_
 have H8:=H
 obtain ⟨⟨d,k⟩,ax,c⟩:=zC c
 refine yB rfl rfl (zY en141 rfl) (Faaw f.Kind _ ax _ _ _ (H.enter [] [])) ?_
 rintro _ dn ⟨rfl,ay⟩
 have H:=H8.step (ay.only:Only [] _ _)
 refine ⟨_,rfl,?_⟩
 refine zH (.tuple #[.agg [.bool d.name,.bool d.other,.bool d.op,.bool d.n,.bool d.frames,i6 d.least,i6 d.most].toArray,.bool k])<| zG (xU (v:= .agg [.bool d.name,.bool d.other,.bool d.op,.bool d.n,.bool d.frames,i6 d.least,i6 d.most].toArray) rfl rfl)<| zG (xU (v:= .bool k) rfl rfl)<| yP rfl rfl (xI aPt H) ?_
 rintro _ dp ⟨j,rfl,H⟩
 refine yX rfl (yU (vs:=[.bool d.name,.bool d.other,.bool d.op,.bool d.n,.bool d.frames,i6 d.least,i6 d.most]) H 2 rfl aZ rfl rfl rfl ⟨rfl,rfl,rfl,rfl,rfl,rfl,rfl,trivial⟩ rfl) ?_
 rintro dq H
 refine zI (.bool k)<| RN av<| zB fun dr az=>zB fun ds a0=>zA<| zH (.bool k) ?_
 obtain ⟨a1,a2,c⟩:=zD c
 refine zG (zO (xX (p:=k) rfl) a2)<| RN a0<| zW (b:=a1) rfl (fun l=>?_) (fun l=>?_)
 ·have c:=zN l c
  refine zB fun dt a3=>zA<| zI (i6 7)<| RN a3 ?_
  obtain rfl:=gG c
  refine (zX (zQ (gV (v1:=i6 7) rfl rfl ?_)))
  exact ⟨rfl,H.pick []⟩
 have c:=zM l c
 refine zZ (zF (az _ _ ?_))
 refine zB fun du a4=>?_
 obtain ⟨X,c,a5⟩:=zC c
 refine yG [13,14,15,16,17,18,19,20,21,22,23,24,25,26,27,28,29,30,31,32,33,34,35,36,37,38,39,40,41,42,43,44,45,46,47,48,49,50,51,52,53,54,55,56,57,58,59,60,61,62,63,64,65,66,67,68,69,70,71] (fun (g:Unit)=>[(71,.bool X)]) (fun g wl=>Hd O w wl S [f1 fO v1 f.Kids,.blk h [i6 f.Kind,sb f.Name,sb f.Other,i6 f.Op,i6 f.N,i6 f.Frames,v1] 110,.blk j [.bool d.name,.bool d.other,.bool d.op,.bool d.n,.bool d.frames,i6 d.least,i6 d.most] 199]) ?_ ?_
 ·skip
  refine zA ?_
  refine zG (aPj rfl)<| Ld jT H 2 0 rfl rfl ?_
  obtain ⟨a6,a7,c⟩:=zD c
  refine zG (zO (xX (p:=d.name) rfl) a7) ?_
  obtain ⟨Y,c,a8⟩:=zC c
  refine dO 5 [16,17,18,19,20] [(20,.bool Y)] (fun wl=>Hd O w wl S [f1 fO v1 f.Kids,.blk h [i6 f.Kind,sb f.Name,sb f.Other,i6 f.Op,i6 f.N,i6 f.Frames,v1] 110,.blk j [.bool d.name,.bool d.other,.bool d.op,.bool d.n,.bool d.frames,i6 d.least,i6 d.most] 199]) ?_ ?_
  ·skip
   refine yO (b:=a6) rfl rfl rfl (fun m=>?_) (fun m=>?_)
   ·have c:=zN m c
    refine zG (jG rfl)<| Ld dX H 1 1 rfl rfl ?_
    obtain ⟨a9,ba,c⟩:=zD c
    refine zG (zO (aCy (s1:=f.Name) (s2:=[]) rfl rfl) ba)<| zG (yL (v:= .bool a9) rfl rfl) ?_
    obtain rfl:=gG c
    exact zT (zF (meet ⟨(zJ rfl zK),H.pick [0,1,2]⟩))
   have c:=zM m c
   refine yE ?_
   refine yE ?_
   refine yE ?_
   refine zG (yF (v:= .bool false) rfl rfl) ?_
   obtain rfl:=gG c
   exact zT (zF (meet ⟨(zJ rfl zK),H.pick [0,1,2]⟩))
  rintro ρ dv H
  have c:=a8
  obtain ⟨Z,c,bb⟩:=zC c
  refine dO 10 [21,22,23,24,25,26,27,28,29,30] [(30,.bool Z)] (fun wl=>Hd O w wl S [f1 fO v1 f.Kids,.blk h [i6 f.Kind,sb f.Name,sb f.Other,i6 f.Op,i6 f.N,i6 f.Frames,v1] 110,.blk j [.bool d.name,.bool d.other,.bool d.op,.bool d.n,.bool d.frames,i6 d.least,i6 d.most] 199]) ?_ ?_
  ·skip
   refine yO (b:=Y) rfl rfl rfl (fun o=>?_) (fun o=>?_)
   ·have c:=zN o c
    refine yE ?_
    refine yE ?_
    refine yE ?_
    refine yE ?_
    refine yE ?_
    refine yE ?_
    refine yE ?_
    refine yE ?_
    refine zG (yL (v:= .bool true) rfl rfl) ?_
    obtain rfl:=gG c
    exact zT (zF (meet ⟨(zJ rfl zK),H.pick [0,1,2]⟩))
   have c:=zM o c
   refine zG (aQa rfl)<| Ld jT H 2 1 rfl rfl ?_
   obtain ⟨bc,bd,c⟩:=zD c
   refine zG (zO (xX (p:=d.other) rfl) bd)<| yO (b:=bc) rfl rfl rfl (fun q=>?_) (fun q=>?_)
   ·have c:=zN q c
    refine zG (aDk rfl)<| Ld dX H 1 2 rfl rfl ?_
    obtain ⟨aa,be,c⟩:=zD c
    refine zG (zO (aCy (s1:=f.Other) (s2:=[]) rfl rfl) be)<| zG (yL (v:= .bool aa) rfl rfl)<| zG (yF (v:= .bool aa) rfl rfl) ?_
    obtain rfl:=gG c
    exact zT (zF (meet ⟨(zJ rfl zK),H.pick [0,1,2]⟩))
   have c:=zM q c
   refine yE ?_
   refine yE ?_
   refine yE ?_
   refine zG (yF (v:= .bool false) rfl rfl)<| zG (yF (v:= .bool false) rfl rfl) ?_
   obtain rfl:=gG c
   exact zT (zF (meet ⟨(zJ rfl zK),H.pick [0,1,2]⟩))
  rintro ρ dw H
  have c:=bb
  obtain ⟨ab,c,bf⟩:=zC c
  refine dO 10 [31,32,33,34,35,36,37,38,39,40] [(40,.bool ab)] (fun wl=>Hd O w wl S [f1 fO v1 f.Kids,.blk h [i6 f.Kind,sb f.Name,sb f.Other,i6 f.Op,i6 f.N,i6 f.Frames,v1] 110,.blk j [.bool d.name,.bool d.other,.bool d.op,.bool d.n,.bool d.frames,i6 d.least,i6 d.most] 199]) ?_ ?_
  ·skip
   refine yO (b:=Z) rfl rfl rfl (fun s=>?_) (fun s=>?_)
   ·have c:=zN s c
    refine yE ?_
    refine yE ?_
    refine yE ?_
    refine yE ?_
    refine yE ?_
    refine yE ?_
    refine yE ?_
    refine yE ?_
    refine zG (yL (v:= .bool true) rfl rfl) ?_
    obtain rfl:=gG c
    exact zT (zF (meet ⟨(zJ rfl zK),H.pick [0,1,2]⟩))
   have c:=zM s c
   refine zG (aRi rfl)<| Ld jT H 2 2 rfl rfl ?_
   obtain ⟨bg,bh,c⟩:=zD c
   refine zG (zO (xX (p:=d.op) rfl) bh)<| yO (b:=bg) rfl rfl rfl (fun t=>?_) (fun t=>?_)
   ·have c:=zN t c
    refine zG (aDn rfl)<| Ld fG H 1 3 rfl rfl ?_
    obtain ⟨ac,bi,c⟩:=zD c
    refine zG (zO (eX (a:=f.Op) (b:=0) rfl rfl) bi)<| zG (yL (v:= .bool ac) rfl rfl)<| zG (yF (v:= .bool ac) rfl rfl) ?_
    obtain rfl:=gG c
    exact zT (zF (meet ⟨(zJ rfl zK),H.pick [0,1,2]⟩))
   have c:=zM t c
   refine yE ?_
   refine yE ?_
   refine yE ?_
   refine zG (yF (v:= .bool false) rfl rfl)<| zG (yF (v:= .bool false) rfl rfl) ?_
   obtain rfl:=gG c
   exact zT (zF (meet ⟨(zJ rfl zK),H.pick [0,1,2]⟩))
  rintro ρ dx H
  have c:=bf
  obtain ⟨ad,c,bj⟩:=zC c
  refine dO 10 [41,42,43,44,45,46,47,48,49,50] [(50,.bool ad)] (fun wl=>Hd O w wl S [f1 fO v1 f.Kids,.blk h [i6 f.Kind,sb f.Name,sb f.Other,i6 f.Op,i6 f.N,i6 f.Frames,v1] 110,.blk j [.bool d.name,.bool d.other,.bool d.op,.bool d.n,.bool d.frames,i6 d.least,i6 d.most] 199]) ?_ ?_
  ·skip
   refine yO (b:=ab) rfl rfl rfl (fun u=>?_) (fun u=>?_)
   ·have c:=zN u c
    refine yE ?_
    refine yE ?_
    refine yE ?_
    refine yE ?_
    refine yE ?_
    refine yE ?_
    refine yE ?_
    refine yE ?_
    refine zG (yL (v:= .bool true) rfl rfl) ?_
    obtain rfl:=gG c
    exact zT (zF (meet ⟨(zJ rfl zK),H.pick [0,1,2]⟩))
   have c:=zM u c
   refine zG (aPh rfl)<| Ld jT H 2 3 rfl rfl ?_
   obtain ⟨bk,bl,c⟩:=zD c
   refine zG (zO (xX (p:=d.n) rfl) bl)<| yO (b:=bk) rfl rfl rfl (fun x=>?_) (fun x=>?_)
   ·have c:=zN x c
    refine zG (qP rfl)<| Ld fG H 1 4 rfl rfl ?_
    obtain ⟨ae,bm,c⟩:=zD c
    refine zG (zO (eX (a:=f.N) (b:=0) rfl rfl) bm)<| zG (yL (v:= .bool ae) rfl rfl)<| zG (yF (v:= .bool ae) rfl rfl) ?_
    obtain rfl:=gG c
    exact zT (zF (meet ⟨(zJ rfl zK),H.pick [0,1,2]⟩))
   have c:=zM x c
   refine yE ?_
   refine yE ?_
   refine yE ?_
   refine zG (yF (v:= .bool false) rfl rfl)<| zG (yF (v:= .bool false) rfl rfl) ?_
   obtain rfl:=gG c
   exact zT (zF (meet ⟨(zJ rfl zK),H.pick [0,1,2]⟩))
  rintro ρ dy H
  have c:=bj
  obtain ⟨af,c,bn⟩:=zC c
  refine dO 10 [51,52,53,54,55,56,57,58,59,60] [(60,.bool af)] (fun wl=>Hd O w wl S [f1 fO v1 f.Kids,.blk h [i6 f.Kind,sb f.Name,sb f.Other,i6 f.Op,i6 f.N,i6 f.Frames,v1] 110,.blk j [.bool d.name,.bool d.other,.bool d.op,.bool d.n,.bool d.frames,i6 d.least,i6 d.most] 199]) ?_ ?_
  ·skip
   refine yO (b:=ad) rfl rfl rfl (fun y=>?_) (fun y=>?_)
   ·have c:=zN y c
    refine yE ?_
    refine yE ?_
    refine yE ?_
    refine yE ?_
    refine yE ?_
    refine yE ?_
    refine yE ?_
    refine yE ?_
    refine zG (yL (v:= .bool true) rfl rfl) ?_
    obtain rfl:=gG c
    exact zT (zF (meet ⟨(zJ rfl zK),H.pick [0,1,2]⟩))
   have c:=zM y c
   refine zG (aPz rfl)<| Ld jT H 2 4 rfl rfl ?_
   obtain ⟨bo,bp,c⟩:=zD c
   refine zG (zO (xX (p:=d.frames) rfl) bp)<| yO (b:=bo) rfl rfl rfl (fun z=>?_) (fun z=>?_)
   ·have c:=zN z c
    refine zG (pJ rfl)<| Ld fG H 1 5 rfl rfl ?_
    obtain ⟨ag,bq,c⟩:=zD c
    refine zG (zO (eX (a:=f.Frames) (b:=0) rfl rfl) bq)<| zG (yL (v:= .bool ag) rfl rfl)<| zG (yF (v:= .bool ag) rfl rfl) ?_
    obtain rfl:=gG c
    exact zT (zF (meet ⟨(zJ rfl zK),H.pick [0,1,2]⟩))
   have c:=zM z c
   refine yE ?_
   refine yE ?_
   refine yE ?_
   refine zG (yF (v:= .bool false) rfl rfl)<| zG (yF (v:= .bool false) rfl rfl) ?_
   obtain rfl:=gG c
   exact zT (zF (meet ⟨(zJ rfl zK),H.pick [0,1,2]⟩))
  rintro ρ dz H
  have c:=bn
  refine yO (b:=af) rfl rfl rfl (fun A=>?_) (fun A=>?_)
  ·have c:=zN A c
   refine yE ?_
   refine yE ?_
   refine yE ?_
   refine yE ?_
   refine yE ?_
   refine yE ?_
   refine yE ?_
   refine yE ?_
   refine yE ?_
   refine zG (yL (v:= .bool true) rfl rfl) ?_
   obtain rfl:=gG c
   exact (zT (zF (meet ⟨(),(zJ rfl zK),H.pick [0,1,2]⟩)))
  have c:=zM A c
  refine zG (rO rfl)<| Ld vC H 1 6 rfl rfl ?_
  obtain ⟨br,bt,c⟩:=zD c
  obtain ⟨d0,d1,bu⟩:=SlF.len ((H.item (i:=0) rfl))
  refine zG (yH (yZ aBf bu) (congrArg (Value.int .i64) bt))<| zG (fa199_5 rfl)<| Ld fG H 2 5 rfl rfl<| zG (fa199_6 rfl)<| Ld fG H 2 6 rfl rfl ?_
  have bv:=H
  obtain ⟨bw,bx,c⟩:=zC c
  refine yB rfl rfl (zY aOi rfl) (aNu br d.least d.most _ bx _ _ _ (H.enter [] [])) ?_
  rintro _ d2 ⟨rfl,bz⟩
  have H:=bv.step (bz.only:Only [] _ _)
  refine ⟨_,rfl,?_⟩
  obtain ⟨b0,b1,c⟩:=zD c
  refine zG (zO (xX (p:=bw) rfl) b1)<| zG (yF (v:= .bool b0) rfl rfl) ?_
  obtain rfl:=gG c
  exact (zT (zF (meet ⟨(),(zJ rfl zK),H.pick [0,1,2]⟩)))
 rintro _ ρ d3 H
 have c:=a5
 refine zW (b:=X) rfl (fun B=>?_) (fun B=>?_)
 ·have c:=zN B c
  refine zB fun d4 b2=>zA<| zI (i6 2)<| RN b2 ?_
  obtain rfl:=gG c
  refine (zX (zQ (gV (v1:=i6 2) rfl rfl ?_)))
  exact ⟨rfl,H.pick []⟩
 have c:=zM B c
 refine zZ (zF (a4 _ _ ?_))
 refine zB fun d5 b3=>?_
 refine yD ?_
 obtain ⟨ah,c,b4⟩:=zC c
 refine yG [72,73,74,75,76,77,78,79,80,81,82,83,84,85,86,87,88,89,90] (fun (g:Unit)=>[(72,.bool ah)]) (fun g wl=>Hd O w wl S [f1 fO v1 f.Kids,.blk h [i6 f.Kind,sb f.Name,sb f.Other,i6 f.Op,i6 f.N,i6 f.Frames,v1] 110,.blk j [.bool d.name,.bool d.other,.bool d.op,.bool d.n,.bool d.frames,i6 d.least,i6 d.most] 199]) ?_ ?_
 ·skip
  refine zA ?_
  refine zG (aPj rfl)<| Ld jT H 2 0 rfl rfl ?_
  obtain ⟨ai,c,b5⟩:=zC c
  refine dO 6 [75,76,77,78,79,80] [(80,.bool ai)] (fun wl=>Hd O w wl S [f1 fO v1 f.Kids,.blk h [i6 f.Kind,sb f.Name,sb f.Other,i6 f.Op,i6 f.N,i6 f.Frames,v1] 110,.blk j [.bool d.name,.bool d.other,.bool d.op,.bool d.n,.bool d.frames,i6 d.least,i6 d.most] 199]) ?_ ?_
  ·skip
   refine yO (b:=d.name) rfl rfl rfl (fun C=>?_) (fun C=>?_)
   ·have c:=zN C c
    refine zG (jG rfl)<| Ld dX H 1 1 rfl rfl ?_
    have b6:=H
    obtain ⟨b7,b8,c⟩:=zC c
    refine yB rfl rfl (zY en47 rfl) (Faiw f.Name _ b8 _ _ _ (H.enter [] [])) ?_
    rintro _ d6 ⟨rfl,b9⟩
    have H:=b6.step (b9.only:Only [] _ _)
    refine ⟨_,rfl,?_⟩
    obtain ⟨ca,cb,c⟩:=zD c
    refine zG (zO (xX (p:=b7) rfl) cb)<| zG (yL (v:= .bool ca) rfl rfl) ?_
    obtain rfl:=gG c
    exact zT (zF (meet ⟨(zJ rfl zK),H.pick [0,1,2]⟩))
   have c:=zM C c
   refine yE ?_
   refine yE ?_
   refine yE ?_
   refine yE ?_
   refine zG (yF (v:= .bool false) rfl rfl) ?_
   obtain rfl:=gG c
   exact zT (zF (meet ⟨(zJ rfl zK),H.pick [0,1,2]⟩))
  rintro ρ d7 H
  have c:=b5
  refine yO (b:=ai) rfl rfl rfl (fun D=>?_) (fun D=>?_)
  ·have c:=zN D c
   refine yE ?_
   refine yE ?_
   refine yE ?_
   refine yE ?_
   refine yE ?_
   refine yE ?_
   refine yE ?_
   refine yE ?_
   refine zG (yL (v:= .bool true) rfl rfl)<| zI (.bool true) ?_
   obtain rfl:=gG c
   exact (zT (zF (meet ⟨(),(zJ rfl zK),H.pick [0,1,2]⟩)))
  have c:=zM D c
  refine zG (aQa rfl)<| Ld jT H 2 1 rfl rfl<| yO (b:=d.other) rfl rfl rfl (fun E=>?_) (fun E=>?_)
  ·have c:=zN E c
   refine zG (aDk rfl)<| Ld dX H 1 2 rfl rfl ?_
   have cc:=H
   obtain ⟨cd,ce,c⟩:=zC c
   refine yB rfl rfl (zY en47 rfl) (Faiw f.Other _ ce _ _ _ (H.enter [] [])) ?_
   rintro _ d8 ⟨rfl,cf⟩
   have H:=cc.step (cf.only:Only [] _ _)
   refine ⟨_,rfl,?_⟩
   obtain ⟨F,cg,c⟩:=zD c
   refine zG (zO (xX (p:=cd) rfl) cg)<| zG (yL (v:= .bool F) rfl rfl)<| zG (yF (v:= .bool F) rfl rfl)<| zI (.bool F) ?_
   obtain rfl:=gG c
   exact (zT (zF (meet ⟨(),(zJ rfl zK),H.pick [0,1,2]⟩)))
  have c:=zM E c
  refine yE ?_
  refine yE ?_
  refine yE ?_
  refine yE ?_
  refine zG (yF (v:= .bool false) rfl rfl)<| zG (yF (v:= .bool false) rfl rfl)<| zI (.bool false) ?_
  obtain rfl:=gG c
  exact (zT (zF (meet ⟨(),(zJ rfl zK),H.pick [0,1,2]⟩)))
 rintro _ ρ d9 H
 have c:=b4
 refine zW (b:=ah) rfl (fun G=>?_) (fun G=>?_)
 ·have c:=zN G c
  refine zB fun ea ch=>zA<| zI (i6 8)<| RN ch ?_
  obtain rfl:=gG c
  refine (zX (yA (zQ (gV (v1:=i6 8) rfl rfl ?_))))
  exact ⟨rfl,H.pick []⟩
 have c:=zM G c
 obtain ⟨aj,c,ci⟩:=zC c
 refine yG [91,92,93,94,95,96,97,98,99] (fun (g:Unit)=>[(91,.bool aj)]) (fun g wl=>Hd O w wl S [f1 fO v1 f.Kids,.blk h [i6 f.Kind,sb f.Name,sb f.Other,i6 f.Op,i6 f.N,i6 f.Frames,v1] 110,.blk j [.bool d.name,.bool d.other,.bool d.op,.bool d.n,.bool d.frames,i6 d.least,i6 d.most] 199]) ?_ ?_
 ·skip
  refine zA ?_
  refine zG (aRi rfl)<| Ld jT H 2 2 rfl rfl<| yO (b:=d.op) rfl rfl rfl (fun I=>?_) (fun I=>?_)
  ·have c:=zN I c
   refine zG (aDn rfl)<| Ld fG H 1 3 rfl rfl ?_
   have cj:=H
   obtain ⟨ck,cl,c⟩:=zC c
   refine yB rfl rfl (zY aOi rfl) (aNu f.Op 1 6 _ cl _ _ _ (H.enter [] [])) ?_
   rintro _ eb ⟨rfl,cm⟩
   have H:=cj.step (cm.only:Only [] _ _)
   refine ⟨_,rfl,?_⟩
   obtain ⟨ak,cn,c⟩:=zD c
   refine zG (zO (xX (p:=ck) rfl) cn)<| zG (yL (v:= .bool ak) rfl rfl)<| zI (.bool ak) ?_
   obtain rfl:=gG c
   exact (zT (zF (meet ⟨(),(zJ rfl zK),H.pick [0,1,2]⟩)))
  have c:=zM I c
  refine yE ?_
  refine yE ?_
  refine yE ?_
  refine yE ?_
  refine zG (yF (v:= .bool false) rfl rfl)<| zI (.bool false) ?_
  obtain rfl:=gG c
  exact (zT (zF (meet ⟨(),(zJ rfl zK),H.pick [0,1,2]⟩)))
 rintro _ ρ ec H
 have c:=ci
 refine zW (b:=aj) rfl (fun J=>?_) (fun J=>?_)
 ·have c:=zN J c
  refine zB fun ed cp=>zA<| zI (i6 7)<| RN cp ?_
  obtain rfl:=gG c
  refine (zX (yA (zQ (gV (v1:=i6 7) rfl rfl ?_))))
  exact ⟨rfl,H.pick []⟩
 have c:=zM J c
 obtain ⟨al,c,cq⟩:=zC c
 refine yG [100,101,102,103,104,105,106,107,108] (fun (g:Unit)=>[(100,.bool al)]) (fun g wl=>Hd O w wl S [f1 fO v1 f.Kids,.blk h [i6 f.Kind,sb f.Name,sb f.Other,i6 f.Op,i6 f.N,i6 f.Frames,v1] 110,.blk j [.bool d.name,.bool d.other,.bool d.op,.bool d.n,.bool d.frames,i6 d.least,i6 d.most] 199]) ?_ ?_
 ·skip
  refine zA ?_
  refine zG (aPz rfl)<| Ld jT H 2 4 rfl rfl<| yO (b:=d.frames) rfl rfl rfl (fun K=>?_) (fun K=>?_)
  ·have c:=zN K c
   refine zG (pJ rfl)<| Ld fG H 1 5 rfl rfl ?_
   have cr:=H
   obtain ⟨ct,cu,c⟩:=zC c
   refine yB rfl rfl (zY aOi rfl) (aNu f.Frames 1 4096 _ cu _ _ _ (H.enter [] [])) ?_
   rintro _ ee ⟨rfl,cv⟩
   have H:=cr.step (cv.only:Only [] _ _)
   refine ⟨_,rfl,?_⟩
   obtain ⟨am,cw,c⟩:=zD c
   refine zG (zO (xX (p:=ct) rfl) cw)<| zG (yL (v:= .bool am) rfl rfl)<| zI (.bool am) ?_
   obtain rfl:=gG c
   exact (zT (zF (meet ⟨(),(zJ rfl zK),H.pick [0,1,2]⟩)))
  have c:=zM K c
  refine yE ?_
  refine yE ?_
  refine yE ?_
  refine yE ?_
  refine zG (yF (v:= .bool false) rfl rfl)<| zI (.bool false) ?_
  obtain rfl:=gG c
  exact (zT (zF (meet ⟨(),(zJ rfl zK),H.pick [0,1,2]⟩)))
 rintro _ ρ ef H
 have c:=cq
 refine zW (b:=al) rfl (fun L=>?_) (fun L=>?_)
 ·have c:=zN L c
  refine zB fun eg cx=>zA<| zI (i6 9)<| RN cx ?_
  obtain rfl:=gG c
  refine (zX (yA (zQ (gV (v1:=i6 9) rfl rfl ?_))))
  exact ⟨rfl,H.pick []⟩
 have c:=zM L c
 obtain ⟨an,c,cy⟩:=zC c
 refine yG [109,110,111,112,113,114,115,116,117,118,119,120] (fun (g:Unit)=>[(109,.bool an)]) (fun g wl=>Hd O w wl S [f1 fO v1 f.Kids,.blk h [i6 f.Kind,sb f.Name,sb f.Other,i6 f.Op,i6 f.N,i6 f.Frames,v1] 110,.blk j [.bool d.name,.bool d.other,.bool d.op,.bool d.n,.bool d.frames,i6 d.least,i6 d.most] 199]) ?_ ?_
 ·skip
  refine zA ?_
  refine zG (mF rfl)<| Ld fG H 1 0 rfl rfl ?_
  obtain ⟨cz,c0,c⟩:=zD c
  refine zG (zO (yY (a:=f.Kind) (b:=13) rfl rfl) c0)<| yO (b:=cz) rfl rfl rfl (fun M=>?_) (fun M=>?_)
  ·have c:=zN M c
   refine zG (qP rfl)<| Ld fG H 1 4 rfl rfl<| zG (pJ rfl)<| Ld fG H 1 5 rfl rfl ?_
   have c1:=H
   obtain ⟨c2,c3,c⟩:=zC c
   refine yB rfl rfl (zY aOi rfl) (aNu f.N 1 f.Frames _ c3 _ _ _ (H.enter [] [])) ?_
   rintro _ eh ⟨rfl,c4⟩
   have H:=c1.step (c4.only:Only [] _ _)
   refine ⟨_,rfl,?_⟩
   obtain ⟨ao,c5,c⟩:=zD c
   refine zG (zO (xX (p:=c2) rfl) c5)<| zG (yL (v:= .bool ao) rfl rfl)<| zI (.bool ao) ?_
   obtain rfl:=gG c
   exact (zT (zF (meet ⟨(),(zJ rfl zK),H.pick [0,1,2]⟩)))
  have c:=zM M c
  refine yE ?_
  refine yE ?_
  refine yE ?_
  refine yE ?_
  refine yE ?_
  refine yE ?_
  refine zG (yF (v:= .bool false) rfl rfl)<| zI (.bool false) ?_
  obtain rfl:=gG c
  exact (zT (zF (meet ⟨(),(zJ rfl zK),H.pick [0,1,2]⟩)))
 rintro _ ρ ei H
 have c:=cy
 refine zW (b:=an) rfl (fun P=>?_) (fun P=>?_)
 ·have c:=zN P c
  refine zB fun ej c6=>zA<| zI (i6 9)<| RN c6 ?_
  obtain rfl:=gG c
  refine (zX (yA (zQ (gV (v1:=i6 9) rfl rfl ?_))))
  exact ⟨rfl,H.pick []⟩
 have c:=zM P c
 obtain ⟨ap,c,c7⟩:=zC c
 refine yG [121,122,123,124,125,126,127,128,129,130,131,132,133,134,135,136,137,138,139] (fun (g:Unit)=>[(121,.bool ap)]) (fun g wl=>Hd O w wl S []) ?_ ?_
 ·skip
  refine zA ?_
  refine zG (aPh rfl)<| Ld jT H 2 3 rfl rfl ?_
  obtain ⟨aq,c,c8⟩:=zC c
  refine dO 6 [124,125,126,127,128,129] [(129,.bool aq)] (fun wl=>Hd O w wl S [f1 fO v1 f.Kids,.blk h [i6 f.Kind,sb f.Name,sb f.Other,i6 f.Op,i6 f.N,i6 f.Frames,v1] 110,.blk j [.bool d.name,.bool d.other,.bool d.op,.bool d.n,.bool d.frames,i6 d.least,i6 d.most] 199]) ?_ ?_
  ·skip
   refine yO (b:=d.n) rfl rfl rfl (fun Q=>?_) (fun Q=>?_)
   ·have c:=zN Q c
    refine zG (qP rfl)<| Ld fG H 1 4 rfl rfl ?_
    have c9:=H
    obtain ⟨da,db,c⟩:=zC c
    refine yB rfl rfl (zY aOi rfl) (aNu f.N (-1125899906842624) 1125899906842624 _ db _ _ _ (H.enter [] [])) ?_
    rintro _ ek ⟨rfl,dc⟩
    have H:=c9.step (dc.only:Only [] _ _)
    refine ⟨_,rfl,?_⟩
    obtain ⟨dd,de,c⟩:=zD c
    refine zG (zO (xX (p:=da) rfl) de)<| zG (yL (v:= .bool dd) rfl rfl) ?_
    obtain rfl:=gG c
    exact zT (zF (meet ⟨(zJ rfl zK),H.pick [0,1,2]⟩))
   have c:=zM Q c
   refine yE ?_
   refine yE ?_
   refine yE ?_
   refine yE ?_
   refine zG (yF (v:= .bool false) rfl rfl) ?_
   obtain rfl:=gG c
   exact zT (zF (meet ⟨(zJ rfl zK),H.pick [0,1,2]⟩))
  rintro ρ el H
  have c:=c8
  refine yO (b:=aq) rfl rfl rfl (fun R=>?_) (fun R=>?_)
  ·have c:=zN R c
   refine yE ?_
   refine yE ?_
   refine yE ?_
   refine yE ?_
   refine yE ?_
   refine yE ?_
   refine yE ?_
   refine yE ?_
   refine zG (yL (v:= .bool true) rfl rfl)<| zI (.bool true) ?_
   obtain rfl:=gG c
   exact (zT (zF (meet ⟨(),(zJ rfl zK),H.pick []⟩)))
  have c:=zM R c
  refine zG (mF rfl)<| Ld fG H 1 0 rfl rfl ?_
  obtain ⟨df,dg,c⟩:=zD c
  refine zG (zO (yY (a:=f.Kind) (b:=5) rfl rfl) dg)<| yO (b:=df) rfl rfl rfl (fun T=>?_) (fun T=>?_)
  ·have c:=zN T c
   refine zG (qP rfl)<| Ld fG H 1 4 rfl rfl ?_
   obtain ⟨U,dh,c⟩:=zD c
   refine zG (zO (xH (a:=f.N) (b:=0) rfl rfl) dh)<| zG (yL (v:= .bool U) rfl rfl)<| zG (yF (v:= .bool U) rfl rfl)<| zI (.bool U) ?_
   obtain rfl:=gG c
   exact (zT (zF (meet ⟨(),(zJ rfl zK),H.pick []⟩)))
  have c:=zM T c
  refine yE ?_
  refine yE ?_
  refine yE ?_
  refine zG (yF (v:= .bool false) rfl rfl)<| zG (yF (v:= .bool false) rfl rfl)<| zI (.bool false) ?_
  obtain rfl:=gG c
  exact (zT (zF (meet ⟨(),(zJ rfl zK),H.pick []⟩)))
 rintro _ ρ em H
 have c:=c7
 refine zW (b:=ap) rfl (fun V=>?_) (fun V=>?_)
 ·have c:=zN V c
  refine zB fun en di=>zA<| zI (i6 9)<| RN di ?_
  obtain rfl:=gG c
  refine (zX (yA (zQ (gV (v1:=i6 9) rfl rfl ?_))))
  exact ⟨rfl,H.pick []⟩
 have c:=zM V c
 refine (zZ (yJ (zF (b3 _ _ ?_))))
 refine zB fun eo dj=>zA<| zI (i6 0)<| RN dj ?_
 obtain rfl:=gG c
 refine (zX (gV (v1:=i6 0) rfl rfl ?_))
 exact ⟨rfl,H.pick []⟩
abbrev Fey (f:Cond→Option Int):Prop:= ∀(p0:Cond) (v1:Value) (r:Int) (_:f p0=some r) (O S:List Nat) (w:World) (_:Hd O w w S [f1 fO v1 p0.Kids]),
  Cl 87 [.agg [i6 p0.Kind,sb p0.Name,sb p0.Other,i6 p0.Op,i6 p0.N,i6 p0.Frames,v1].toArray,.func (.func 116) #[] #[]] w fun e w'=>e= .returned (i6 r)∧Hd O w w' S []
theorem Fdcw (rfB:Cond→Option Int)(rhB:Fey rfB)(d:Cond)(v1:Value)(r:Int)(c:Fdc rfB d=some r)(O S:List Nat)(w:World)(H:Hd O w w S [f1 fO v1 d.Kids]):
  Cl 87 [.agg [i6 d.Kind,sb d.Name,sb d.Other,i6 d.Op,i6 d.N,i6 d.Frames,v1].toArray,.func (.func 116) #[] #[]] w fun e t=>e= .returned (i6 r)∧Hd O w t S []:=by
 unfold Fdc at c
 refine CW 29 Tryz.func87 ?_
 refine zB fun K3 u=>zA<| yP rfl rfl (xJ (cs:=[i6 d.Kind,sb d.Name,sb d.Other,i6 d.Op,i6 d.N,i6 d.Frames,v1]) rfl H) ?_
 rintro _ w6 ⟨b4,rfl,H⟩
 refine zI (i6 0)<| RN u<| zB fun aw v=>zB fun ax x=>zA<| zH (.func (.func 116) #[] #[])<| zG (yH (yI (cs:=[i6 d.Kind,sb d.Name,sb d.Other,i6 d.Op,i6 d.N,i6 d.Frames,v1]) dQ rfl dI rfl (Hbc H 1 rfl)) rfl) ?_
 have y:=H
 obtain ⟨h,z,c⟩:=zC c
 refine yB rfl rfl (bP en116 rfl rfl) (Fabw d v1 _ z _ _ _ (H.enter [] [0])) ?_
 rintro _ ay ⟨rfl,A⟩
 have H:=y.step (A.only:Only [] _ _)
 refine ⟨_,rfl,?_⟩
 refine zI (i6 h)<| RN x<| zB fun az B=>zA<| zH (i6 h) ?_
 obtain ⟨C,D,c⟩:=zD c
 refine zG (zO (eX (a:=h) (b:=0) rfl rfl) D)<| RN B<| zW (b:=C) rfl (fun l=>?_) (fun l=>?_)
 ·have c:=zN l c
  refine zB fun a0 E=>zA<| zH (i6 h)<| zI (i6 h)<| RN E ?_
  obtain rfl:=gG c
  refine (zX (zQ (gV (v1:=i6 h) rfl rfl ?_)))
  exact ⟨rfl,H.pick []⟩
 have c:=zM l c
 refine zZ (zF (v _ _ ?_))
 obtain ⟨F,G,c⟩:=xW c
 refine yG [4,7,8,15,16,17,18,19,20,21,22,23,24,25,26,27,28] (fun (g:Unit)=>[]) (fun g wl=>Hd O w wl S []∧F ()=some r) ?_ ?_
 ·skip
  refine zB fun a1 I=>zA<| zG (rO rfl)<| Ld vC H 1 6 rfl rfl ?_
  obtain ⟨J,K,c⟩:=zD c
  obtain ⟨a2,a3,L⟩:=SlF.len ((H.item (i:=0) rfl))
  refine zG (yH (yZ aBf L) (congrArg (Value.int .i64) K))<| zH (i6 0)<| RN I<| yD ?_
  unfold Fev at c
  obtain ⟨M,q,P,c⟩:=yQ c
  refine xA [4,7,8,18,19,20,21,22,23,24,25,26,27,28] (fun (g:Nat×Int)=>[(18,i6 g.2)]) (fun g wl=>Hd O w wl S [f1 fO v1 d.Kids]∧fV M g.1 g.2=some r) (fun g=>g.1) (q,0) (zJ rfl zK) ⟨H.pick [0],c⟩ ?_
  clear H c
  rintro ⟨q,m⟩ ρ a4 ⟨H,c⟩
  obtain ⟨Q,rfl,c⟩:=yT c
  have c:=yV P c
  refine zB fun a5 R=>zA ?_
  obtain ⟨T,U,c⟩:=zD c
  refine zG (zO (xH (a:=m) (b:=J) rfl rfl) U)<| RN R<| zB fun a6 V=>zW (b:=T) rfl (fun n=>?_) (fun n=>?_)
  ·have c:=zN n c
   refine zZ (zF (V _ _ ?_))
   refine zB fun a7 X=>?_
   refine yD ?_
   refine zB fun a8 Y=>zA ?_
   obtain ⟨f,o,c⟩:=zC c
   obtain ⟨Z,aa,a9,ba,ab,ac,ad,ae,af⟩:=wJ (H.item (i:=0) rfl) o
   obtain ⟨k,rfl,ag⟩:=aY ac
   have H:=H.fzs [.at Z (aa+m.toNat * 7) _,.sl fO k f.Kids] ⟨⟨ad,ae,af⟩,ag,trivial⟩
   refine zG (yS aBf dI ab rfl (zU o).1 (zU o).2.1 rfl rfl)<| zG (yH (yI (cs:=[i6 f.Kind,sb f.Name,sb f.Other,i6 f.Op,i6 f.N,i6 f.Frames,k]) dQ rfl dI rfl (H.item (i:=1) rfl).2.2) rfl)<| yP rfl rfl (xI tV H) ?_
   rintro _ bb ⟨bc,rfl,H⟩
   refine yX rfl (yU (vs:=[i6 f.Kind,sb f.Name,sb f.Other,i6 f.Op,i6 f.N,i6 f.Frames,k]) H 3 rfl dI rfl rfl rfl ⟨rfl,rfl,rfl,rfl,rfl,rfl,(dG (H.item (i:=2) rfl)),trivial⟩ rfl) ?_
   rintro bd H
   refine RN Y<| zB fun be ah=>zA<| zG (yH (yI (cs:=[i6 f.Kind,sb f.Name,sb f.Other,i6 f.Op,i6 f.N,i6 f.Frames,k]) dQ rfl dI rfl (Hbc H 3 rfl)) rfl)<| zH (.func (.func 116) #[] #[]) ?_
   have ai:=H
   obtain ⟨j,aj,c⟩:=zC c
   refine yB rfl rfl (zY aLx rfl) (rhB f k _ aj _ _ _ (H.enter [] [2])) ?_
   rintro _ bf ⟨rfl,ak⟩
   have H:=ai.step (ak.only:Only [] _ _)
   refine ⟨_,rfl,?_⟩
   refine zI (i6 j)<| RN ah<| zB fun bg al=>zA<| zH (i6 j) ?_
   obtain ⟨am,an,c⟩:=zD c
   refine zG (zO (eX (a:=j) (b:=0) rfl rfl) an)<| RN al<| zW (b:=am) rfl (fun p=>?_) (fun p=>?_)
   ·have c:=zN p c
    refine zB fun bh ao=>zA<| zH (i6 j)<| zI (i6 j)<| RN ao ?_
    obtain rfl:=gG c
    refine (zX (yA (zQ (zQ (yA (zQ (gV (v1:=i6 j) rfl rfl ?_)))))))
    exact ⟨rfl,H.pick []⟩
   have c:=zM p c
   refine (zZ (yJ (zF (X _ _ ?_))))
   refine zA ?_
   obtain ⟨s,ap,c⟩:=zD c
   refine zG (xC (a:=m) (b:=1) rfl rfl ap)<| zH (i6 s) ?_
   exact (zT (zF (meet ⟨(Q,s),(zJ rfl zK),⟨H.pick [0],c⟩,Nat.lt_succ_self _⟩)))
  have c:=zM n c
  exact (xE (yK (yK (yR (zF (meet ⟨(),zK,⟨H.pick [],c⟩⟩))))))
 rintro _ ρ bi ⟨H,c⟩
 have c:=wE G c
 refine zB fun bj aq=>zA<| zI (i6 0)<| RN aq ?_
 obtain rfl:=gG c
 refine (zX (gV (v1:=i6 0) rfl rfl ?_))
 exact ⟨rfl,H.pick []⟩
theorem Ffy:Fey (Ffm):=by
 have h: ∀n,Fey (Fbf n):=by
  intro n
  induction n with
  | zero=>intro b c r a; cases a
  | succ n ih=>intro b c r a; exact Fdcw (Fbf n) ih b c r a
 exact h FU
theorem Fa3w (a:Cond)(v1:Value)(r:Int)(c:Fa3 a=some r)(O S:List Nat)(w:World)(H:Hd O w w S [f1 fO v1 a.Kids]):
  Cl 86 [.agg [i6 a.Kind,sb a.Name,sb a.Other,i6 a.Op,i6 a.N,i6 a.Frames,v1].toArray] w fun e h=>e= .returned (i6 r)∧Hd O w h S []:=by
 unfold Fa3 at c
 refine CW 9 Tryz.func86 ?_
 refine zB fun B i=>zA<| yP rfl rfl (xJ (cs:=[i6 a.Kind,sb a.Name,sb a.Other,i6 a.Op,i6 a.N,i6 a.Frames,v1]) rfl H) ?_
 rintro _ C ⟨D,rfl,H⟩
 refine zI (i6 0)<| RN i<| zB fun E j=>zA<| yP rfl rfl (xI zero3 H) ?_
 rintro _ F ⟨k,rfl,H⟩
 refine yX rfl (xR H 2 rfl sz3 rfl (v:=i6 0) rfl rfl rfl) ?_
 rintro G H
 refine RN j<| zB fun I l=>zB fun J m=>zA<| zG (yH (yI (cs:=[i6 a.Kind,sb a.Name,sb a.Other,i6 a.Op,i6 a.N,i6 a.Frames,v1]) dQ rfl dI rfl (Hbc H 1 rfl)) rfl) ?_
 obtain ⟨⟨n,K⟩,o,c⟩:=zC c
 refine yB rfl rfl (zY en115 rfl) (Ffz a 20 0 v1 k _ o _ _ _ (H.enter [2] [0])) ?_
 rintro _ L ⟨rfl,q⟩
 have H:Hd _ _ _ _ [_,_,_]:=H.back [2] [0] rfl q
 refine ⟨_,rfl,?_⟩
 obtain ⟨s,t,c⟩:=zD c
 refine zG (zO (xX (p:=n) rfl) t)<| RN m<| zW (b:=s) rfl (fun d=>?_) (fun d=>?_)
 ·have c:=zN d c
  refine zB fun M u=>zA<| zI (i6 3)<| RN u ?_
  obtain rfl:=gG c
  refine (zX (zQ (gV (v1:=i6 3) rfl rfl ?_)))
  exact ⟨rfl,H.pick []⟩
 have c:=zM d c
 refine zZ (zF (l _ _ ?_))
 refine zB fun P x=>zA<| zG (yH (yI (cs:=[i6 a.Kind,sb a.Name,sb a.Other,i6 a.Op,i6 a.N,i6 a.Frames,v1]) dQ rfl dI rfl (Hbc H 1 rfl)) rfl) ?_
 have y:=H
 obtain ⟨f,z,c⟩:=zC c
 refine yB rfl rfl (zY aLx rfl) (Ffy a v1 _ z _ _ _ (H.enter [] [0])) ?_
 rintro _ Q ⟨rfl,A⟩
 have H:=y.step (A.only:Only [] _ _)
 refine ⟨_,rfl,?_⟩
 refine zI (i6 f)<| RN x ?_
 obtain rfl:=gG c
 refine (zX (gV (v1:=i6 f) rfl rfl ?_))
 exact ⟨rfl,H.pick []⟩
theorem Fcvw (d:Cond)(v1:Value)(r:Int)(c:Fcv d=some r)(O S:List Nat)(w:World)(H:Hd O w w S [f1 fO v1 d.Kids]):
  Cl 88 [.agg [i6 d.Kind,sb d.Name,sb d.Other,i6 d.Op,i6 d.N,i6 d.Frames,v1].toArray] w fun e j=>e= .returned (i6 r)∧Hd O w j S []:=by
 unfold Fcv at c
 refine CW 11 Tryz.func88 ?_
 refine zB fun u k=>zA<| yP rfl rfl (xJ (cs:=[i6 d.Kind,sb d.Name,sb d.Other,i6 d.Op,i6 d.N,i6 d.Frames,v1]) rfl H) ?_
 rintro _ x ⟨y,rfl,H⟩
 refine zI (i6 0)<| RN k<| zB fun z l=>?_
 obtain ⟨i,c,m⟩:=zC c
 refine yG [3,4,5,6,7,8,9,10] (fun (g:Unit)=>[(10,.bool i)]) (fun g wl=>Hd O w wl S []) ?_ ?_
 ·skip
  refine zA ?_
  refine zG (mF rfl)<| Ld fG H 1 0 rfl rfl ?_
  obtain ⟨n,o,c⟩:=zD c
  refine zG (zO (yY (a:=d.Kind) (b:=6) rfl rfl) o)<| yO (b:=n) rfl rfl rfl (fun f=>?_) (fun f=>?_)
  ·have c:=zN f c
   refine yE ?_
   refine yE ?_
   refine yE ?_
   refine zG (yL (v:= .bool true) rfl rfl) ?_
   obtain rfl:=gG c
   exact (zT (zF (meet ⟨(),(zJ rfl zK),H.pick []⟩)))
  have c:=zM f c
  refine zG (mF rfl)<| Ld fG H 1 0 rfl rfl ?_
  obtain ⟨p,q,c⟩:=zD c
  refine zG (zO (yY (a:=d.Kind) (b:=7) rfl rfl) q)<| zG (yF (v:= .bool p) rfl rfl) ?_
  obtain rfl:=gG c
  exact (zT (zF (meet ⟨(),(zJ rfl zK),H.pick []⟩)))
 rintro _ ρ A H
 have c:=m
 refine zW (b:=i) rfl (fun h=>?_) (fun h=>?_)
 ·have c:=zN h c
  refine zB fun B s=>zA<| zI (i6 2)<| RN s ?_
  obtain rfl:=gG c
  refine (zX (zQ (gV (v1:=i6 2) rfl rfl ?_)))
  exact ⟨rfl,H.pick []⟩
 have c:=zM h c
 refine zZ (zF (l _ _ ?_))
 refine zB fun C t=>zA<| zI (i6 0)<| RN t ?_
 obtain rfl:=gG c
 refine (zX (gV (v1:=i6 0) rfl rfl ?_))
 exact ⟨rfl,H.pick []⟩
abbrev Ffg (f:Cond→Option Int):Prop:= ∀(p0:Cond) (v1:Value) (r:Int) (_:f p0=some r) (O S:List Nat) (w:World) (_:Hd O w w S [f1 fO v1 p0.Kids]),
  Cl 87 [.agg [i6 p0.Kind,sb p0.Name,sb p0.Other,i6 p0.Op,i6 p0.N,i6 p0.Frames,v1].toArray,.func (.func 88) #[] #[]] w fun e w'=>e= .returned (i6 r)∧Hd O w w' S []
theorem Fdhw (rfC:Cond→Option Int)(rhC:Ffg rfC)(d:Cond)(v1:Value)(r:Int)(c:Fdh rfC d=some r)(O S:List Nat)(w:World)(H:Hd O w w S [f1 fO v1 d.Kids]):
  Cl 87 [.agg [i6 d.Kind,sb d.Name,sb d.Other,i6 d.Op,i6 d.N,i6 d.Frames,v1].toArray,.func (.func 88) #[] #[]] w fun e t=>e= .returned (i6 r)∧Hd O w t S []:=by
 unfold Fdh at c
 refine CW 29 Tryz.func87 ?_
 refine zB fun K3 u=>zA<| yP rfl rfl (xJ (cs:=[i6 d.Kind,sb d.Name,sb d.Other,i6 d.Op,i6 d.N,i6 d.Frames,v1]) rfl H) ?_
 rintro _ w6 ⟨b4,rfl,H⟩
 refine zI (i6 0)<| RN u<| zB fun aw v=>zB fun ax x=>zA<| zH (.func (.func 88) #[] #[])<| zG (yH (yI (cs:=[i6 d.Kind,sb d.Name,sb d.Other,i6 d.Op,i6 d.N,i6 d.Frames,v1]) dQ rfl dI rfl (Hbc H 1 rfl)) rfl) ?_
 have y:=H
 obtain ⟨h,z,c⟩:=zC c
 refine yB rfl rfl (bP en88 rfl rfl) (Fcvw d v1 _ z _ _ _ (H.enter [] [0])) ?_
 rintro _ ay ⟨rfl,A⟩
 have H:=y.step (A.only:Only [] _ _)
 refine ⟨_,rfl,?_⟩
 refine zI (i6 h)<| RN x<| zB fun az B=>zA<| zH (i6 h) ?_
 obtain ⟨C,D,c⟩:=zD c
 refine zG (zO (eX (a:=h) (b:=0) rfl rfl) D)<| RN B<| zW (b:=C) rfl (fun l=>?_) (fun l=>?_)
 ·have c:=zN l c
  refine zB fun a0 E=>zA<| zH (i6 h)<| zI (i6 h)<| RN E ?_
  obtain rfl:=gG c
  refine (zX (zQ (gV (v1:=i6 h) rfl rfl ?_)))
  exact ⟨rfl,H.pick []⟩
 have c:=zM l c
 refine zZ (zF (v _ _ ?_))
 obtain ⟨F,G,c⟩:=xW c
 refine yG [4,7,8,15,16,17,18,19,20,21,22,23,24,25,26,27,28] (fun (g:Unit)=>[]) (fun g wl=>Hd O w wl S []∧F ()=some r) ?_ ?_
 ·skip
  refine zB fun a1 I=>zA<| zG (rO rfl)<| Ld vC H 1 6 rfl rfl ?_
  obtain ⟨J,K,c⟩:=zD c
  obtain ⟨a2,a3,L⟩:=SlF.len ((H.item (i:=0) rfl))
  refine zG (yH (yZ aBf L) (congrArg (Value.int .i64) K))<| zH (i6 0)<| RN I<| yD ?_
  unfold Fe0 at c
  obtain ⟨M,q,P,c⟩:=yQ c
  refine xA [4,7,8,18,19,20,21,22,23,24,25,26,27,28] (fun (g:Nat×Int)=>[(18,i6 g.2)]) (fun g wl=>Hd O w wl S [f1 fO v1 d.Kids]∧fV M g.1 g.2=some r) (fun g=>g.1) (q,0) (zJ rfl zK) ⟨H.pick [0],c⟩ ?_
  clear H c
  rintro ⟨q,m⟩ ρ a4 ⟨H,c⟩
  obtain ⟨Q,rfl,c⟩:=yT c
  have c:=yV P c
  refine zB fun a5 R=>zA ?_
  obtain ⟨T,U,c⟩:=zD c
  refine zG (zO (xH (a:=m) (b:=J) rfl rfl) U)<| RN R<| zB fun a6 V=>zW (b:=T) rfl (fun n=>?_) (fun n=>?_)
  ·have c:=zN n c
   refine zZ (zF (V _ _ ?_))
   refine zB fun a7 X=>?_
   refine yD ?_
   refine zB fun a8 Y=>zA ?_
   obtain ⟨f,o,c⟩:=zC c
   obtain ⟨Z,aa,a9,ba,ab,ac,ad,ae,af⟩:=wJ (H.item (i:=0) rfl) o
   obtain ⟨k,rfl,ag⟩:=aY ac
   have H:=H.fzs [.at Z (aa+m.toNat * 7) _,.sl fO k f.Kids] ⟨⟨ad,ae,af⟩,ag,trivial⟩
   refine zG (yS aBf dI ab rfl (zU o).1 (zU o).2.1 rfl rfl)<| zG (yH (yI (cs:=[i6 f.Kind,sb f.Name,sb f.Other,i6 f.Op,i6 f.N,i6 f.Frames,k]) dQ rfl dI rfl (H.item (i:=1) rfl).2.2) rfl)<| yP rfl rfl (xI tV H) ?_
   rintro _ bb ⟨bc,rfl,H⟩
   refine yX rfl (yU (vs:=[i6 f.Kind,sb f.Name,sb f.Other,i6 f.Op,i6 f.N,i6 f.Frames,k]) H 3 rfl dI rfl rfl rfl ⟨rfl,rfl,rfl,rfl,rfl,rfl,(dG (H.item (i:=2) rfl)),trivial⟩ rfl) ?_
   rintro bd H
   refine RN Y<| zB fun be ah=>zA<| zG (yH (yI (cs:=[i6 f.Kind,sb f.Name,sb f.Other,i6 f.Op,i6 f.N,i6 f.Frames,k]) dQ rfl dI rfl (Hbc H 3 rfl)) rfl)<| zH (.func (.func 88) #[] #[]) ?_
   have ai:=H
   obtain ⟨j,aj,c⟩:=zC c
   refine yB rfl rfl (zY aLx rfl) (rhC f k _ aj _ _ _ (H.enter [] [2])) ?_
   rintro _ bf ⟨rfl,ak⟩
   have H:=ai.step (ak.only:Only [] _ _)
   refine ⟨_,rfl,?_⟩
   refine zI (i6 j)<| RN ah<| zB fun bg al=>zA<| zH (i6 j) ?_
   obtain ⟨am,an,c⟩:=zD c
   refine zG (zO (eX (a:=j) (b:=0) rfl rfl) an)<| RN al<| zW (b:=am) rfl (fun p=>?_) (fun p=>?_)
   ·have c:=zN p c
    refine zB fun bh ao=>zA<| zH (i6 j)<| zI (i6 j)<| RN ao ?_
    obtain rfl:=gG c
    refine (zX (yA (zQ (zQ (yA (zQ (gV (v1:=i6 j) rfl rfl ?_)))))))
    exact ⟨rfl,H.pick []⟩
   have c:=zM p c
   refine (zZ (yJ (zF (X _ _ ?_))))
   refine zA ?_
   obtain ⟨s,ap,c⟩:=zD c
   refine zG (xC (a:=m) (b:=1) rfl rfl ap)<| zH (i6 s) ?_
   exact (zT (zF (meet ⟨(Q,s),(zJ rfl zK),⟨H.pick [0],c⟩,Nat.lt_succ_self _⟩)))
  have c:=zM n c
  exact (xE (yK (yK (yR (zF (meet ⟨(),zK,⟨H.pick [],c⟩⟩))))))
 rintro _ ρ bi ⟨H,c⟩
 have c:=wE G c
 refine zB fun bj aq=>zA<| zI (i6 0)<| RN aq ?_
 obtain rfl:=gG c
 refine (zX (gV (v1:=i6 0) rfl rfl ?_))
 exact ⟨rfl,H.pick []⟩
theorem Ff0:Ffg (Ffa):=by
 have h: ∀n,Ffg (Fbb n):=by
  intro n
  induction n with
  | zero=>intro b c r a; cases a
  | succ n ih=>intro b c r a; exact Fdhw (Fbb n) ih b c r a
 exact h FU
theorem Fbuw (h:Rules)(c:mM)(v1:Value)(k:Value)(l:Value)(f:Value)(r:Int)(d:Fbu h c=some r)(O S:List Nat)(w:World)(H:Hd O w w S [f1 Rp.str v1 h.Phases,f1 fP k h.Moves,f1 fZ l h.Rules,f1 fO f c.When.Kids]):
  Cl 49 [.agg [v1,k,l].toArray,.agg [sb c.From,sb c.To,i6 c.When.Kind,sb c.When.Name,sb c.When.Other,i6 c.When.Op,i6 c.When.N,i6 c.When.Frames,f].toArray] w fun e z=>e= .returned (i6 r)∧Hd O w z S []:=by
 unfold Fbu at d
 refine CW 33 Tryz.func49 ?_
 refine zB fun K9 A=>zA<| yP rfl rfl (xJ (cs:=[v1,k,l]) rfl H) ?_
 rintro _ a1 ⟨B,rfl,H⟩
 refine yP rfl rfl (xJ (cs:=[sb c.From,sb c.To,i6 c.When.Kind,sb c.When.Name,sb c.When.Other,i6 c.When.Op,i6 c.When.N,i6 c.When.Frames,f]) rfl H) ?_
 rintro _ a2 ⟨t,rfl,H⟩
 refine zI (i6 0)<| RN A ?_
 obtain ⟨C,D,d⟩:=xW d
 refine yG [4,6,8,9,10,11,12,13,14,15,16,17,18,19,20,21,22,23] (fun (g:Unit)=>[]) (fun g wl=>Hd O w wl S [f1 fO f c.When.Kids,.blk t [sb c.From,sb c.To,i6 c.When.Kind,sb c.When.Name,sb c.When.Other,i6 c.When.Op,i6 c.When.N,i6 c.When.Frames,f] 117]∧C ()=some r) ?_ ?_
 ·skip
  refine zB fun a3 E=>zA<| zG (aRc rfl)<| Ld dX H 5 0 rfl rfl<| zG (aQg rfl)<| Ld dX H 5 1 rfl rfl ?_
  obtain ⟨a4,F,d⟩:=zD d
  subst F
  refine yP rfl rfl (jK (r:=Rp.str) (xl:=[c.From,c.To]) (cs:=[sb c.From,sb c.To]) u23 el9 (by decide) (by decide) rfl (xP (vs:=[sb c.From,sb c.To]) (by decide) rfl rfl ⟨rfl,rfl,trivial⟩ rfl) H ⟨[sb c.From],[sb c.To],rfl,rfl,⟨[sb c.To],[],rfl,rfl,rfl⟩⟩) ?_
  rintro G a5 H
  obtain ⟨I,J,d⟩:=zD d
  obtain ⟨a6,a7,K⟩:=Sr.len (Sr.of_own (H.item (i:=6) rfl))
  refine zG (yH (yZ u23 K) (congrArg (Value.int .i64) J))<| zH (i6 0)<| RN E<| yD ?_
  unfold Fe2 at d
  obtain ⟨L,u,M,d⟩:=yQ d
  refine xA [4,6,14,15,16,17,18,19,20,21,22,23] (fun (g:Nat×Int)=>[(14,i6 g.2)]) (fun g wl=>Hd O w wl S [f1 Rp.str v1 h.Phases,f1 fP k h.Moves,f1 fZ l h.Rules,f1 fO f c.When.Kids,.blk B [v1,k,l] 27,.blk t [sb c.From,sb c.To,i6 c.When.Kind,sb c.When.Name,sb c.When.Other,i6 c.When.Op,i6 c.When.N,i6 c.When.Frames,f] 117,.own Rp.str G 9 ([c.From,c.To]:List Str)]∧fV L g.1 g.2=some r) (fun g=>g.1) (u,0) (zJ rfl zK) ⟨H.pick [0,1,2,3,4,5,6],d⟩ ?_
  clear H d
  rintro ⟨u,v⟩ ρ a8 ⟨H,d⟩
  obtain ⟨P,rfl,d⟩:=yT d
  have d:=yV M d
  refine zB fun a9 Q=>zA ?_
  obtain ⟨R,T,d⟩:=zD d
  refine zG (zO (xH (a:=v) (b:=I) rfl rfl) T)<| RN Q<| zB fun ba U=>zW (b:=R) rfl (fun n=>?_) (fun n=>?_)
  ·have d:=zN n d
   refine zZ (zF (U _ _ ?_))
   refine zB fun bb V=>?_
   refine yD ?_
   refine zB fun bc X=>zA ?_
   obtain ⟨m,o,d⟩:=zC d
   obtain ⟨bd,be,Y,Z,aa,ab⟩:=bH (H.item (i:=6) rfl) o
   obtain rfl:Y= [sb m]:=aa
   refine zG (yS u23 sz9 Z rfl (zU o).1 (zU o).2.1 rfl rfl)<| zG (xG dX rfl (Cells.get ab (i:=0) rfl))<| zI (sb m)<| RN X<| zB fun bf ac=>zA<| zG (nK rfl)<| Ld jJ H 4 0 rfl rfl<| zH (sb m) ?_
   have ad:=H
   obtain ⟨ae,af,d⟩:=zC d
   refine yB rfl rfl (zY en48 rfl) (Fafw h.Phases m v1 _ af _ _ _ (H.enter [] [0])) ?_
   rintro _ bg ⟨rfl,ag⟩
   have H:=ad.step (ag.only:Only [] _ _)
   refine ⟨_,rfl,?_⟩
   obtain ⟨ah,ai,d⟩:=zD d
   refine zG (zO (xX (p:=ae) rfl) ai)<| RN ac<| zW (b:=ah) rfl (fun q=>?_) (fun q=>?_)
   ·have d:=zN q d
    refine zB fun bh aj=>zA<| zI (i6 4)<| RN aj ?_
    obtain rfl:=gG d
    refine (zX (yA (zQ (zQ (yA (zQ (gV (v1:=i6 4) rfl rfl ?_)))))))
    exact ⟨rfl,H.pick []⟩
   have d:=zM q d
   refine (zZ (yJ (zF (V _ _ ?_))))
   refine zA ?_
   obtain ⟨x,ak,d⟩:=zD d
   refine zG (xC (a:=v) (b:=1) rfl rfl ak)<| zH (i6 x) ?_
   exact (zT (zF (meet ⟨(P,x),(zJ rfl zK),⟨H.pick [0,1,2,3,4,5,6],d⟩,Nat.lt_succ_self _⟩)))
  have d:=zM n d
  exact (xE (yK (yK (yR (zF (meet ⟨(),zK,⟨H.pick [3,5],d⟩⟩))))))
 rintro _ ρ bi ⟨H,d⟩
 have d:=wE D d
 refine zB fun bj al=>?_
 refine zB fun bk am=>zA<| zG (aDd rfl)<| zG (yH (yI (cs:=[i6 c.When.Kind,sb c.When.Name,sb c.When.Other,i6 c.When.Op,i6 c.When.N,i6 c.When.Frames,f]) dQ rfl dI rfl (Cells.drop (Hbc H 1 rfl) 2 7)) rfl) ?_
 have an:=H
 obtain ⟨j,ao,d⟩:=zC d
 refine yB rfl rfl (zY en86 rfl) (Fa3w c.When f _ ao _ _ _ (H.enter [] [0])) ?_
 rintro _ bl ⟨rfl,ap⟩
 have H:=an.step (ap.only:Only [] _ _)
 refine ⟨_,rfl,?_⟩
 refine zI (i6 j)<| RN am<| zB fun bm aq=>zA<| zH (i6 j) ?_
 obtain ⟨ar,au,d⟩:=zD d
 refine zG (zO (eX (a:=j) (b:=0) rfl rfl) au)<| RN aq<| zW (b:=ar) rfl (fun s=>?_) (fun s=>?_)
 ·have d:=zN s d
  refine zB fun bn av=>zA<| zH (i6 j)<| zI (i6 j)<| RN av ?_
  obtain rfl:=gG d
  refine (zX (zQ (gV (v1:=i6 j) rfl rfl ?_)))
  exact ⟨rfl,H.pick []⟩
 have d:=zM s d
 refine zZ (zF (al _ _ ?_))
 refine zB fun bo aw=>zA<| zG (aDd rfl)<| zG (yH (yI (cs:=[i6 c.When.Kind,sb c.When.Name,sb c.When.Other,i6 c.When.Op,i6 c.When.N,i6 c.When.Frames,f]) dQ rfl dI rfl (Cells.drop (Hbc H 1 rfl) 2 7)) rfl) ?_
 have ax:=H
 obtain ⟨y,ay,d⟩:=zC d
 refine yB rfl rfl (zY aLx rfl) (Ff0 c.When f _ ay _ _ _ (H.enter [] [0])) ?_
 rintro _ bp ⟨rfl,az⟩
 have H:=ax.step (az.only:Only [] _ _)
 refine ⟨_,rfl,?_⟩
 refine zI (i6 y)<| RN aw ?_
 obtain rfl:=gG d
 refine (zX (gV (v1:=i6 y) rfl rfl ?_))
 exact ⟨rfl,H.pick []⟩
theorem Febw (a:kR)(b:Str)(v1:Value)(d:Nat)(r:Bool)(c:Feb a b=some r)(O S:List Nat)(w:World)(H:Hd O w w S [.blk d [sb b] 9,f1 fO v1 a.When.Kids]):
  Cl 91 [.agg [sb a.Name,i6 a.When.Kind,sb a.When.Name,sb a.When.Other,i6 a.When.Op,i6 a.When.N,i6 a.When.Frames,v1].toArray,gX d] w fun e h=>e= .returned (.bool r)∧Hd O w h S [.blk d [sb b] 9]:=by
 unfold Feb at c
 refine CW 8 Tryz.func91 ?_
 refine zB fun l i=>zA<| yP rfl rfl (xJ (cs:=[sb a.Name,i6 a.When.Kind,sb a.When.Name,sb a.When.Other,i6 a.When.Op,i6 a.When.N,i6 a.When.Frames,v1]) rfl H) ?_
 rintro _ m ⟨n,rfl,H⟩
 refine zI (.bool false)<| RN i<| zB fun o j=>zA<| zG (aDa rfl)<| Ld dX H 2 0 rfl rfl<| Ld dX H 0 0 rfl rfl ?_
 obtain ⟨f,k,c⟩:=zD c
 refine zG (zO (dK (s1:=a.Name) (s2:=b) rfl rfl) k)<| zI (.bool f)<| RN j ?_
 obtain rfl:=gG c
 refine (zX (gV (v1:= .bool f) rfl rfl ?_))
 exact ⟨rfl,H.pick [0]⟩
theorem Feow (j:List kR)(p1c0:Str)(v1:Value)(h:Nat)(r:Int)(c:Feo j p1c0=some r)(O S:List Nat)(w:World)(H:Hd O w w S [.blk h [sb p1c0] 9,f1 fZ v1 j]):
  Cl 43 [v1,.func (.func 91) #[] #[gX h]] w fun e q=>e= .returned (i6 r)∧Hd O w q S [.blk h [sb p1c0] 9]:=by
 unfold Feo at c
 refine CW 19 Tryz.func43 ?_
 refine zB fun K5 s=>zA<| zI (i6 0)<| RN s ?_
 obtain ⟨t,u,c⟩:=xW c
 refine yG [4,5,6,7,8,9,10,11,12,13,14,15,16,17,18] (fun (g:Unit)=>[]) (fun g wl=>Hd O w wl S [.blk h [sb p1c0] 9]∧t ()=some r) ?_ ?_
 ·skip
  refine zB fun ae v=>zA<| zH v1 ?_
  obtain ⟨x,y,c⟩:=zD c
  obtain ⟨af,ag,z⟩:=SlF.len ((H.item (i:=1) rfl))
  refine zG (yH (yZ u25 z) (congrArg (Value.int .i64) y))<| zH (i6 0)<| RN v<| yD ?_
  unfold Fe4 at c
  obtain ⟨A,o,B,c⟩:=yQ c
  refine xA [4,5,8,9,10,11,12,13,14,15,16,17,18] (fun (g:Nat×Int)=>[(8,i6 g.2)]) (fun g wl=>Hd O w wl S [.blk h [sb p1c0] 9,f1 fZ v1 j]∧fV A g.1 g.2=some r) (fun g=>g.1) (o,0) (zJ rfl zK) ⟨H.pick [0,1],c⟩ ?_
  clear H c
  rintro ⟨o,d⟩ ρ ah ⟨H,c⟩
  obtain ⟨C,rfl,c⟩:=yT c
  have c:=yV B c
  refine zB fun ai D=>zA ?_
  obtain ⟨E,F,c⟩:=zD c
  refine zG (zO (xH (a:=d) (b:=x) rfl rfl) F)<| RN D<| zB fun aj G=>zW (b:=E) rfl (fun k=>?_) (fun k=>?_)
  ·have c:=zN k c
   refine zZ (zF (G _ _ ?_))
   refine zB fun ak I=>?_
   refine yD ?_
   refine zB fun al J=>zA<| zH (i6 d)<| zI (i6 d)<| RN J<| zB fun am K=>zA<| zH (.func (.func 91) #[] #[gX h])<| zH v1<| zH (i6 d) ?_
   obtain ⟨f,l,c⟩:=zC c
   obtain ⟨L,M,an,ao,P,Q,R,T,U⟩:=wJ (H.item (i:=1) rfl) l
   obtain ⟨m,rfl,V⟩:=qV Q
   have H:=H.fzs [.at L (M+d.toNat * 8) _,.sl fO m f.When.Kids] ⟨⟨R,T,U⟩,V,trivial⟩
   refine zG (yS u25 rX P rfl (zU l).1 (zU l).2.1 rfl rfl)<| zG (yH (yI (cs:=[sb f.Name,i6 f.When.Kind,sb f.When.Name,sb f.When.Other,i6 f.When.Op,i6 f.When.N,i6 f.When.Frames,m]) aJg rfl rX rfl (H.item (i:=2) rfl).2.2) rfl) ?_
   obtain ⟨X,Y,c⟩:=zC c
   refine yB rfl rfl (bP en91 rfl rfl) (Febw f p1c0 m h _ Y _ _ _ (H.enter [0] [3])) ?_
   rintro _ ap ⟨rfl,Z⟩
   have H:Hd _ _ _ _ [_,_,_,_]:=H.back [0] [3] rfl Z
   refine ⟨_,rfl,?_⟩
   refine RN K<| zW (b:=X) rfl (fun n=>?_) (fun n=>?_)
   ·have c:=zN n c
    refine zB fun aq aa=>zA<| zH (i6 d)<| zI (i6 d)<| RN aa ?_
    obtain rfl:=gG c
    refine (zX (yA (zQ (zQ (yA (zQ (gV (v1:=i6 d) rfl rfl ?_)))))))
    exact ⟨rfl,H.pick [3]⟩
   have c:=zM n c
   refine (zZ (yJ (zF (I _ _ ?_))))
   refine zA ?_
   obtain ⟨p,ab,c⟩:=zD c
   refine zG (xC (a:=d) (b:=1) rfl rfl ab)<| zH (i6 p) ?_
   exact (zT (zF (meet ⟨(C,p),(zJ rfl zK),⟨H.pick [3,0],c⟩,Nat.lt_succ_self _⟩)))
  have c:=zM k c
  exact (xE (yK (yK (yR (zF (meet ⟨(),zK,⟨H.pick [0],c⟩⟩))))))
 rintro _ ρ ar ⟨H,c⟩
 have c:=wE u c
 refine zB fun au ac=>zA<| zI (i6 (-1))<| RN ac ?_
 obtain rfl:=gG c
 refine (zX (gV (v1:=i6 (-1)) rfl rfl ?_))
 exact ⟨rfl,H.pick [0]⟩
theorem Fdyw (f:List kR)(p1c0:Str)(v1:Value)(d:Nat)(r:Bool)(c:Fdy f p1c0=some r)(O S:List Nat)(w:World)(H:Hd O w w S [.blk d [sb p1c0] 9,f1 fZ v1 f]):
  Cl 90 [v1,.func (.func 91) #[] #[gX d]] w fun e i=>e= .returned (.bool r)∧Hd O w i S [.blk d [sb p1c0] 9]:=by
 unfold Fdy at c
 refine CW 9 Tryz.func90 ?_
 refine zB fun p j=>zA<| zI (.bool false)<| RN j<| zB fun q k=>zA<| zH v1<| zH (.func (.func 91) #[] #[gX d]) ?_
 obtain ⟨l,m,c⟩:=zC c
 refine yB rfl rfl (zY en43 rfl) (Feow f p1c0 v1 d _ m _ _ _ (H.enter [0] [1])) ?_
 rintro _ s ⟨rfl,n⟩
 have H:Hd _ _ _ _ [_,_]:=H.back [0] [1] rfl n
 refine ⟨_,rfl,?_⟩
 obtain ⟨h,o,c⟩:=zD c
 refine zG (zO (aN (a:=l) (b:=0) rfl rfl) o)<| zI (.bool h)<| RN k ?_
 obtain rfl:=gG c
 refine (zX (gV (v1:= .bool h) rfl rfl ?_))
 exact ⟨rfl,H.pick [1]⟩
theorem Fa5w (c:Str)(b:Rules)(d:Int)(f:Nat)(h:Value)(j:Value)(k:Value)(l:Nat)(r:Bool)(a:Fa5 c b d=some r)(O S:List Nat)(w:World)(H:Hd O w w S [.blk f [h,j,k] 27,.blk l [i6 d] 3,f1 Rp.str h b.Phases,f1 fP j b.Moves,f1 fZ k b.Rules]):
  Cl 89 [sb c,gX f,gX l] w fun e p=>e= .returned (.bool r)∧Hd O w p S [.blk f [h,j,k] 27,.blk l [i6 d] 3]:=by
 unfold Fa5 at a
 refine CW 11 Tryz.func89 ?_
 refine zB fun z q=>zA<| yP rfl rfl (aRd rfl rfl H) ?_
 rintro _ A ⟨s,rfl,H⟩
 refine zI (.bool false)<| RN q<| zB fun B t=>zA<| zG (qQ rfl)<| Ld wO H 0 2 rfl rfl<| Ld fG H 1 0 rfl rfl ?_
 obtain ⟨m,u,a⟩:=zC a
 refine sZ rfl rfl (jS u25 rX (H.item (i:=4) rfl) rfl rfl u) ?_
 rintro n v
 have H:=H.fz (.sl fZ n m) v
 refine zG (bZ rfl) ?_
 obtain ⟨o,x,a⟩:=zC a
 refine yB rfl rfl (zY en90 rfl) (Fdyw m c n s _ x _ _ _ (H.enter [5] [6])) ?_
 rintro _ C ⟨rfl,y⟩
 have H:Hd _ _ _ _ [_,_,_,_,_,_,_]:=H.back [5] [6] rfl y
 refine ⟨_,rfl,?_⟩
 refine zI (.bool o)<| RN t ?_
 obtain rfl:=gG a
 refine (zX (gV (v1:= .bool o) rfl rfl ?_))
 exact ⟨rfl,H.pick [0,1]⟩
theorem Fckw (d:Cond)(f:Rules)(c1f1:Int)(v1:Value)(h:Nat)(i:Value)(k:Value)(l:Value)(m:Nat)(j:Nat)(r:Int)(c:Fck d f c1f1=some r)(O S:List Nat)(w:World)(H:Hd O w w S [.blk h [i,k,l] 27,.blk j [i6 c1f1] 3,.blk m [.func (.func 89) #[] #[gX h,gX j]] 83,f1 fO v1 d.Kids,f1 Rp.str i f.Phases,f1 fP k f.Moves,f1 fZ l f.Rules]):
  Cl 92 [.agg [i6 d.Kind,sb d.Name,sb d.Other,i6 d.Op,i6 d.N,i6 d.Frames,v1].toArray,gX h,gX m] w fun e y=>e= .returned (i6 r)∧Hd O w y S [.blk h [i,k,l] 27,.blk j [i6 c1f1] 3,.blk m [.func (.func 89) #[] #[gX h,gX j]] 83]:=by
 unfold Fck at c
 refine CW 28 Tryz.func92 ?_
 refine zB fun Z z=>zA<| yP rfl rfl (xJ (cs:=[i6 d.Kind,sb d.Name,sb d.Other,i6 d.Op,i6 d.N,i6 d.Frames,v1]) rfl H) ?_
 rintro _ aa ⟨A,rfl,H⟩
 refine zI (i6 0)<| RN z<| zB fun ab B=>?_
 obtain ⟨t,c,C⟩:=zC c
 refine yG [5,6,7,8,9,10,11,12,13,14,15,16,17,18,19,20,21,22,23,24,25,26,27] (fun (g:Unit)=>[(27,.bool t)]) (fun g wl=>Hd O w wl S [.blk h [i,k,l] 27,f1 Rp.str i f.Phases,f1 fP k f.Moves,f1 fZ l f.Rules,.blk j [i6 c1f1] 3,.blk m [.func (.func 89) #[] #[gX h,gX j]] 83]) ?_ ?_
 ·skip
  refine zA ?_
  refine zG (mF rfl)<| Ld fG H 7 0 rfl rfl ?_
  obtain ⟨D,E,c⟩:=zD c
  refine zG (zO (yY (a:=d.Kind) (b:=6) rfl rfl) E) ?_
  obtain ⟨u,c,F⟩:=zC c
  refine dO 8 [8,9,10,11,12,13,14,15] [(15,.bool u)] (fun wl=>Hd O w wl S [.blk h [i,k,l] 27,.blk j [i6 c1f1] 3,.blk m [.func (.func 89) #[] #[gX h,gX j]] 83,f1 fO v1 d.Kids,f1 Rp.str i f.Phases,f1 fP k f.Moves,f1 fZ l f.Rules,.blk A [i6 d.Kind,sb d.Name,sb d.Other,i6 d.Op,i6 d.N,i6 d.Frames,v1] 110]) ?_ ?_
  ·skip
   refine yO (b:=D) rfl rfl rfl (fun n=>?_) (fun n=>?_)
   ·have c:=zN n c
    refine zG (nK rfl)<| Ld jJ H 0 0 rfl rfl<| zG (jG rfl)<| Ld dX H 7 1 rfl rfl ?_
    have G:=H
    obtain ⟨I,J,c⟩:=zC c
    refine yB rfl rfl (zY en48 rfl) (Fafw f.Phases d.Name i _ J _ _ _ (H.enter [] [4])) ?_
    rintro _ ac ⟨rfl,K⟩
    have H:=G.step (K.only:Only [] _ _)
    refine ⟨_,rfl,?_⟩
    obtain ⟨L,M,c⟩:=zD c
    refine zG (zO (xX (p:=I) rfl) M)<| zG (yL (v:= .bool L) rfl rfl) ?_
    obtain rfl:=gG c
    exact zT (zF (meet ⟨(zJ rfl zK),H.pick [0,1,2,3,4,5,6,7]⟩))
   have c:=zM n c
   refine yE ?_
   refine yE ?_
   refine yE ?_
   refine yE ?_
   refine yE ?_
   refine yE ?_
   refine zG (yF (v:= .bool false) rfl rfl) ?_
   obtain rfl:=gG c
   exact zT (zF (meet ⟨(zJ rfl zK),H.pick [0,1,2,3,4,5,6,7]⟩))
  rintro ρ ad H
  have c:=F
  refine yO (b:=u) rfl rfl rfl (fun o=>?_) (fun o=>?_)
  ·have c:=zN o c
   refine yE ?_
   refine yE ?_
   refine yE ?_
   refine yE ?_
   refine yE ?_
   refine yE ?_
   refine yE ?_
   refine yE ?_
   refine yE ?_
   refine yE ?_
   refine zG (yL (v:= .bool true) rfl rfl) ?_
   obtain rfl:=gG c
   exact (zT (zF (meet ⟨(),(zJ rfl zK),H.pick [0,4,5,6,1,2]⟩)))
  have c:=zM o c
  refine zG (mF rfl)<| Ld fG H 7 0 rfl rfl ?_
  obtain ⟨P,Q,c⟩:=zD c
  refine zG (zO (yY (a:=d.Kind) (b:=7) rfl rfl) Q)<| yO (b:=P) rfl rfl rfl (fun q=>?_) (fun q=>?_)
  ·have c:=zN q c
   refine Ld one83 H 2 0 rfl rfl<| zG (jG rfl)<| Ld dX H 7 1 rfl rfl ?_
   obtain ⟨R,T,c⟩:=zC c
   refine yB rfl rfl (bP en89 rfl rfl) (Fa5w d.Name f c1f1 h i k l j _ T _ _ _ (H.enter [0,1] [4,5,6])) ?_
   rintro _ ae ⟨rfl,U⟩
   have H:Hd _ _ _ _ [_,_,_,_,_,_,_,_]:=H.back [0,1] [4,5,6] rfl U
   refine ⟨_,rfl,?_⟩
   obtain ⟨x,V,c⟩:=zD c
   refine zG (zO (xX (p:=R) rfl) V)<| zG (yL (v:= .bool x) rfl rfl)<| zG (yF (v:= .bool x) rfl rfl) ?_
   obtain rfl:=gG c
   exact (zT (zF (meet ⟨(),(zJ rfl zK),H.pick [6,2,3,4,7,0]⟩)))
  have c:=zM q c
  refine yE ?_
  refine yE ?_
  refine yE ?_
  refine yE ?_
  refine yE ?_
  refine zG (yF (v:= .bool false) rfl rfl)<| zG (yF (v:= .bool false) rfl rfl) ?_
  obtain rfl:=gG c
  exact (zT (zF (meet ⟨(),(zJ rfl zK),H.pick [0,4,5,6,1,2]⟩)))
 rintro _ ρ af H
 have c:=C
 refine zW (b:=t) rfl (fun s=>?_) (fun s=>?_)
 ·have c:=zN s c
  refine zB fun ag X=>zA<| zI (i6 4)<| RN X ?_
  obtain rfl:=gG c
  refine (zX (zQ (gV (v1:=i6 4) rfl rfl ?_)))
  exact ⟨rfl,H.pick [0,4,5]⟩
 have c:=zM s c
 refine zZ (zF (B _ _ ?_))
 refine zB fun ah Y=>zA<| zI (i6 0)<| RN Y ?_
 obtain rfl:=gG c
 refine (zX (gV (v1:=i6 0) rfl rfl ?_))
 exact ⟨rfl,H.pick [0,4,5]⟩
abbrev Ffs (f:Cond→Rules→Int→Option Int):Prop:= ∀(p0:Cond) (p1c0:Rules) (p1c1f1:Int) (v1:Value) (b3:Nat) (v4:Value) (v5:Value) (v6:Value) (b11:Nat) (b13:Nat) (r:Int) (_:f p0 p1c0 p1c1f1=some r) (O S:List Nat) (w:World) (_:Hd O w w S [.blk b3 [v4,v5,v6] 27,.blk b13 [i6 p1c1f1] 3,.blk b11 [.func (.func 89) #[] #[gX b3,gX b13]] 83,f1 fO v1 p0.Kids,f1 Rp.str v4 p1c0.Phases,f1 fP v5 p1c0.Moves,f1 fZ v6 p1c0.Rules]),
  Cl 87 [.agg [i6 p0.Kind,sb p0.Name,sb p0.Other,i6 p0.Op,i6 p0.N,i6 p0.Frames,v1].toArray,.func (.func 92) #[] #[gX b3,gX b11]] w fun e w'=>e= .returned (i6 r)∧Hd O w w' S [.blk b3 [v4,v5,v6] 27,.blk b13 [i6 p1c1f1] 3,.blk b11 [.func (.func 89) #[] #[gX b3,gX b13]] 83]
theorem Fcew (rfD:Cond→Rules→Int→Option Int)(rhD:Ffs rfD)(d:Cond)(p1c0:Rules)(p1c1f1:Int)(v1:Value)(h:Nat)(k:Value)(l:Value)(m:Value)(n:Nat)(j:Nat)(r:Int)(c:Fce rfD d p1c0 p1c1f1=some r)(O S:List Nat)(w:World)(H:Hd O w w S [.blk h [k,l,m] 27,.blk j [i6 p1c1f1] 3,.blk n [.func (.func 89) #[] #[gX h,gX j]] 83,f1 fO v1 d.Kids,f1 Rp.str k p1c0.Phases,f1 fP l p1c0.Moves,f1 fZ m p1c0.Rules]):
  Cl 87 [.agg [i6 d.Kind,sb d.Name,sb d.Other,i6 d.Op,i6 d.N,i6 d.Frames,v1].toArray,.func (.func 92) #[] #[gX h,gX n]] w fun e A=>e= .returned (i6 r)∧Hd O w A S [.blk h [k,l,m] 27,.blk j [i6 p1c1f1] 3,.blk n [.func (.func 89) #[] #[gX h,gX j]] 83]:=by
 unfold Fce at c
 refine CW 29 Tryz.func87 ?_
 refine zB fun ax B=>zA<| yP rfl rfl (xJ (cs:=[i6 d.Kind,sb d.Name,sb d.Other,i6 d.Op,i6 d.N,i6 d.Frames,v1]) rfl H) ?_
 rintro _ ay ⟨az,rfl,H⟩
 refine zI (i6 0)<| RN B<| zB fun a0 C=>zB fun a1 D=>zA<| zH (.func (.func 92) #[] #[gX h,gX n])<| zG (yH (yI (cs:=[i6 d.Kind,sb d.Name,sb d.Other,i6 d.Op,i6 d.N,i6 d.Frames,v1]) dQ rfl dI rfl (Hbc H 7 rfl)) rfl) ?_
 obtain ⟨o,E,c⟩:=zC c
 refine yB rfl rfl (bP en92 rfl rfl) (Fckw d p1c0 p1c1f1 v1 h k l m n j _ E _ _ _ (H.enter [0,1,2] [3,4,5,6])) ?_
 rintro _ a2 ⟨rfl,F⟩
 have H:Hd _ _ _ _ [_,_,_,_,_,_,_,_]:=H.back [0,1,2] [3,4,5,6] rfl F
 refine ⟨_,rfl,?_⟩
 refine zI (i6 o)<| RN D<| zB fun a3 G=>zA<| zH (i6 o) ?_
 obtain ⟨I,J,c⟩:=zD c
 refine zG (zO (eX (a:=o) (b:=0) rfl rfl) J)<| RN G<| zW (b:=I) rfl (fun s=>?_) (fun s=>?_)
 ·have c:=zN s c
  refine zB fun a4 K=>zA<| zH (i6 o)<| zI (i6 o)<| RN K ?_
  obtain rfl:=gG c
  refine (zX (zQ (gV (v1:=i6 o) rfl rfl ?_)))
  exact ⟨rfl,H.pick [5,6,7]⟩
 have c:=zM s c
 refine zZ (zF (C _ _ ?_))
 obtain ⟨L,M,c⟩:=xW c
 refine yG [4,7,8,15,16,17,18,19,20,21,22,23,24,25,26,27,28] (fun (g:Unit)=>[]) (fun g wl=>Hd O w wl S [f1 Rp.str k p1c0.Phases,f1 fP l p1c0.Moves,f1 fZ m p1c0.Rules,.blk h [k,l,m] 27,.blk j [i6 p1c1f1] 3,.blk n [.func (.func 89) #[] #[gX h,gX j]] 83]∧L ()=some r) ?_ ?_
 ·skip
  refine zB fun a5 P=>zA<| zG (rO rfl)<| Ld vC H 4 6 rfl rfl ?_
  obtain ⟨Q,R,c⟩:=zD c
  obtain ⟨a6,a7,T⟩:=SlF.len ((H.item (i:=0) rfl))
  refine zG (yH (yZ aBf T) (congrArg (Value.int .i64) R))<| zH (i6 0)<| RN P<| yD ?_
  unfold Fe5 at c
  obtain ⟨U,y,V,c⟩:=yQ c
  refine xA [4,7,8,18,19,20,21,22,23,24,25,26,27,28] (fun (g:Nat×Int)=>[(18,i6 g.2)]) (fun g wl=>Hd O w wl S [f1 fO v1 d.Kids,f1 Rp.str k p1c0.Phases,f1 fP l p1c0.Moves,f1 fZ m p1c0.Rules,.blk h [k,l,m] 27,.blk j [i6 p1c1f1] 3,.blk n [.func (.func 89) #[] #[gX h,gX j]] 83]∧fV U g.1 g.2=some r) (fun g=>g.1) (y,0) (zJ rfl zK) ⟨H.pick [0,1,2,3,5,6,7],c⟩ ?_
  clear H c
  rintro ⟨y,t⟩ ρ a8 ⟨H,c⟩
  obtain ⟨X,rfl,c⟩:=yT c
  have c:=yV V c
  refine zB fun a9 Y=>zA ?_
  obtain ⟨Z,aa,c⟩:=zD c
  refine zG (zO (xH (a:=t) (b:=Q) rfl rfl) aa)<| RN Y<| zB fun ba ab=>zW (b:=Z) rfl (fun u=>?_) (fun u=>?_)
  ·have c:=zN u c
   refine zZ (zF (ab _ _ ?_))
   refine zB fun bb ac=>?_
   refine yD ?_
   refine zB fun bc ad=>zA ?_
   obtain ⟨f,v,c⟩:=zC c
   obtain ⟨ae,af,bd,be,ag,ah,ai,aj,ak⟩:=wJ (H.item (i:=0) rfl) v
   obtain ⟨q,rfl,al⟩:=aY ah
   have H:=H.fzs [.at ae (af+t.toNat * 7) _,.sl fO q f.Kids] ⟨⟨ai,aj,ak⟩,al,trivial⟩
   refine zG (yS aBf dI ag rfl (zU v).1 (zU v).2.1 rfl rfl)<| zG (yH (yI (cs:=[i6 f.Kind,sb f.Name,sb f.Other,i6 f.Op,i6 f.N,i6 f.Frames,q]) dQ rfl dI rfl (H.item (i:=7) rfl).2.2) rfl)<| yP rfl rfl (xI tV H) ?_
   rintro _ bf ⟨bg,rfl,H⟩
   refine yX rfl (yU (vs:=[i6 f.Kind,sb f.Name,sb f.Other,i6 f.Op,i6 f.N,i6 f.Frames,q]) H 9 rfl dI rfl rfl rfl ⟨rfl,rfl,rfl,rfl,rfl,rfl,(dG (H.item (i:=8) rfl)),trivial⟩ rfl) ?_
   rintro bh H
   refine RN ad<| zB fun bi am=>zA<| zG (yH (yI (cs:=[i6 f.Kind,sb f.Name,sb f.Other,i6 f.Op,i6 f.N,i6 f.Frames,q]) dQ rfl dI rfl (Hbc H 9 rfl)) rfl)<| zH (.func (.func 92) #[] #[gX h,gX n]) ?_
   obtain ⟨p,an,c⟩:=zC c
   refine yB rfl rfl (zY aLx rfl) (rhD f p1c0 p1c1f1 q h k l m n j _ an _ _ _ (H.enter [4,5,6] [8,1,2,3])) ?_
   rintro _ bj ⟨rfl,ao⟩
   have H:Hd _ _ _ _ [_,_,_,_,_,_,_,_,_,_]:=H.back [4,5,6] [8,1,2,3] rfl ao
   refine ⟨_,rfl,?_⟩
   refine zI (i6 p)<| RN am<| zB fun bk ap=>zA<| zH (i6 p) ?_
   obtain ⟨aq,ar,c⟩:=zD c
   refine zG (zO (eX (a:=p) (b:=0) rfl rfl) ar)<| RN ap<| zW (b:=aq) rfl (fun x=>?_) (fun x=>?_)
   ·have c:=zN x c
    refine zB fun bl au=>zA<| zH (i6 p)<| zI (i6 p)<| RN au ?_
    obtain rfl:=gG c
    refine (zX (yA (zQ (zQ (yA (zQ (gV (v1:=i6 p) rfl rfl ?_)))))))
    exact ⟨rfl,H.pick [7,8,9]⟩
   have c:=zM x c
   refine (zZ (yJ (zF (ac _ _ ?_))))
   refine zA ?_
   obtain ⟨z,av,c⟩:=zD c
   refine zG (xC (a:=t) (b:=1) rfl rfl av)<| zH (i6 z) ?_
   exact (zT (zF (meet ⟨(X,z),(zJ rfl zK),⟨H.pick [0,1,2,3,7,8,9],c⟩,Nat.lt_succ_self _⟩)))
  have c:=zM u c
  exact (xE (yK (yK (yR (zF (meet ⟨(),zK,⟨H.pick [1,2,3,4,5,6],c⟩⟩))))))
 rintro _ ρ bm ⟨H,c⟩
 have c:=wE M c
 refine zB fun bn aw=>zA<| zI (i6 0)<| RN aw ?_
 obtain rfl:=gG c
 refine (zX (gV (v1:=i6 0) rfl rfl ?_))
 exact ⟨rfl,H.pick [3,4,5]⟩
theorem Ffw:Ffs (Ffc):=by
 have h: ∀n,Ffs (Fa9 n):=by
  intro n
  induction n with
  | zero=>intro b p1c0 p1c1f1 c d e f i j k r a; cases a
  | succ n ih=>intro b p1c0 p1c1f1 c d e f i j k r a; exact Fcew (Fa9 n) ih b p1c0 p1c1f1 c d e f i j k r a
 exact h FU
end Go.Proofs.YthllgjnlmjpinaaGreatDoor.L
