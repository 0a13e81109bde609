/- Walks: what each function computes, for every argument; no condition but those that stand in the statements. -/
import Derived.Test.YtgmikmoapfmedaaGreatDoorVV0
import Derived.Test.YtgmikmoapfmedaaGreatDoorVV1
namespace Go.Proofs.YtgmikmoapfmedaaGreatDoor.L
open Go.RowKit Go.OB Go.Lf
set_option maxHeartbeats 4000000
set_option maxRecDepth 100000 in
theorem Fc1w (f:Cond)(v1:Value)(r:Int)(c:Fc1 f=some r)(O S:List Nat)(w:World)(H:Hd O w w S [f1 fM v1 f.Kids]):
  Cl 146 [.agg [i6 f.Kind,sb f.Name,sb f.Other,i6 f.Op,i6 f.N,i6 f.Frames,v1].toArray] w fun e o=>e= .returned (i6 r)∧Hd O w o S []:=by
 unfold Fc1 at c
 refine CW 140 Tryz.func146 ?_
 refine zB fun K3 q=>zA<| yT rfl rfl (fQ (cs:=[i6 f.Kind,sb f.Name,sb f.Other,i6 f.Op,i6 f.N,i6 f.Frames,v1]) rfl H) ?_
 rintro _ w6 ⟨g,rfl,H⟩
 refine zI (i6 0)<| RN q<| zB fun K7 s=>zA<| zG (jB rfl)<| Ld fJ H 1 0 rfl rfl ?_
 have t:=H
 obtain ⟨⟨d,j⟩,u,c⟩:=zD c
 refine zT rfl rfl (zO en168 rfl) (Fdpw f.Kind _ u _ _ _ (H.enter [] [])) ?_
 rintro _ b5 ⟨rfl,x⟩
 have H:=t.step (x.only:Only [] _ _)
 refine ⟨_,rfl,?_⟩
 refine zH (.tuple #[.agg [.bool d.name,.bool d.other,.bool d.op,.bool d.n,.bool d.frames,i6 d.least,i6 d.most].toArray,.bool j])<| zG (xA (v:= .agg [.bool d.name,.bool d.other,.bool d.op,.bool d.n,.bool d.frames,i6 d.least,i6 d.most].toArray) rfl rfl)<| zG (xA (v:= .bool j) rfl rfl)<| yT rfl rfl (xE aEo H) ?_
 rintro _ b6 ⟨h,rfl,H⟩
 refine xB rfl (yQ (vs:=[.bool d.name,.bool d.other,.bool d.op,.bool d.n,.bool d.frames,i6 d.least,i6 d.most]) H 2 rfl sz203 rfl rfl rfl ⟨rfl,rfl,rfl,rfl,rfl,rfl,rfl,trivial⟩ rfl) ?_
 rintro b7 H
 refine zI (.bool j)<| RN s<| zB fun b8 y=>zB fun b9 z=>zA<| zH (.bool j) ?_
 obtain ⟨ca,A,c⟩:=zC c
 refine zG (zL (fU (p:=j) rfl) A)<| RN z ?_
 obtain ⟨B,c⟩:=yM c
 refine xM B ?_
 refine zQ (zF (y _ _ ?_))
 refine zB fun cb C=>?_
 refine zB fun cc D=>zA<| zG (aEe rfl)<| Ld qH H 2 0 rfl rfl ?_
 obtain ⟨cd,E,c⟩:=zC c
 refine zG (zL (fU (p:=d.name) rfl) E) ?_
 obtain ⟨F,c,G⟩:=zD c
 refine eH 5 [16,17,18,19,20] [(20,.bool F)] (fun wl=>Hd O w wl S [f1 fM v1 f.Kids,.blk g [i6 f.Kind,sb f.Name,sb f.Other,i6 f.Op,i6 f.N,i6 f.Frames,v1] 127,.blk h [.bool d.name,.bool d.other,.bool d.op,.bool d.n,.bool d.frames,i6 d.least,i6 d.most] 203]) ?_ ?_
 ·skip
  obtain ⟨I,c⟩:=yM c
  refine dL false I ?_
  refine yH ?_
  refine yH ?_
  refine yH ?_
  refine zG (yB (v:= .bool false) rfl rfl) ?_
  obtain rfl:=gI c
  exact zZ (zF (meet ⟨(zJ rfl zK),H.pick [0,1,2]⟩))
 rintro ρ ce H
 have c:=G
 obtain ⟨J,c,K⟩:=zD c
 refine eH 10 [21,22,23,24,25,26,27,28,29,30] [(30,.bool J)] (fun wl=>Hd O w wl S [f1 fM v1 f.Kids,.blk g [i6 f.Kind,sb f.Name,sb f.Other,i6 f.Op,i6 f.N,i6 f.Frames,v1] 127,.blk h [.bool d.name,.bool d.other,.bool d.op,.bool d.n,.bool d.frames,i6 d.least,i6 d.most] 203]) ?_ ?_
 ·skip
  obtain ⟨L,c⟩:=yM c
  refine dL false L ?_
  refine zG (aDq rfl)<| Ld qH H 2 1 rfl rfl ?_
  obtain ⟨cf,M,c⟩:=zC c
  refine zG (zL (fU (p:=d.other) rfl) M) ?_
  obtain ⟨P,c⟩:=eX c
  refine dL true P ?_
  refine zG (fa127_2 rfl)<| Ld dQ H 1 2 rfl rfl ?_
  obtain ⟨k,Q,c⟩:=zC c
  refine zG (zL (aEp (s1:=f.Other) (s2:=[]) rfl rfl) Q)<| zG (yG (v:= .bool k) rfl rfl)<| zG (yB (v:= .bool k) rfl rfl) ?_
  obtain rfl:=gI c
  exact zZ (zF (meet ⟨(zJ rfl zK),H.pick [0,1,2]⟩))
 rintro ρ cg H
 have c:=K
 obtain ⟨R,c,T⟩:=zD c
 refine eH 10 [31,32,33,34,35,36,37,38,39,40] [(40,.bool R)] (fun wl=>Hd O w wl S [f1 fM v1 f.Kids,.blk g [i6 f.Kind,sb f.Name,sb f.Other,i6 f.Op,i6 f.N,i6 f.Frames,v1] 127,.blk h [.bool d.name,.bool d.other,.bool d.op,.bool d.n,.bool d.frames,i6 d.least,i6 d.most] 203]) ?_ ?_
 ·skip
  obtain ⟨U,c⟩:=yM c
  refine dL false U ?_
  refine zG (aEs rfl)<| Ld qH H 2 2 rfl rfl ?_
  obtain ⟨ch,V,c⟩:=zC c
  refine zG (zL (fU (p:=d.op) rfl) V) ?_
  obtain ⟨X,c⟩:=yM c
  refine dL false X ?_
  refine yH ?_
  refine yH ?_
  refine yH ?_
  refine zG (yB (v:= .bool false) rfl rfl)<| zG (yB (v:= .bool false) rfl rfl) ?_
  obtain rfl:=gI c
  exact zZ (zF (meet ⟨(zJ rfl zK),H.pick [0,1,2]⟩))
 rintro ρ ci H
 have c:=T
 obtain ⟨Y,c,Z⟩:=zD c
 refine eH 10 [41,42,43,44,45,46,47,48,49,50] [(50,.bool Y)] (fun wl=>Hd O w wl S [f1 fM v1 f.Kids,.blk g [i6 f.Kind,sb f.Name,sb f.Other,i6 f.Op,i6 f.N,i6 f.Frames,v1] 127,.blk h [.bool d.name,.bool d.other,.bool d.op,.bool d.n,.bool d.frames,i6 d.least,i6 d.most] 203]) ?_ ?_
 ·skip
  obtain ⟨aa,c⟩:=yM c
  refine dL false aa ?_
  refine zG (aDz rfl)<| Ld qH H 2 3 rfl rfl ?_
  obtain ⟨cj,ab,c⟩:=zC c
  refine zG (zL (fU (p:=d.n) rfl) ab) ?_
  obtain ⟨ac,c⟩:=yM c
  refine dL false ac ?_
  refine yH ?_
  refine yH ?_
  refine yH ?_
  refine zG (yB (v:= .bool false) rfl rfl)<| zG (yB (v:= .bool false) rfl rfl) ?_
  obtain rfl:=gI c
  exact zZ (zF (meet ⟨(zJ rfl zK),H.pick [0,1,2]⟩))
 rintro ρ ck H
 have c:=Z
 obtain ⟨ad,c,ae⟩:=zD c
 refine eH 10 [51,52,53,54,55,56,57,58,59,60] [(60,.bool ad)] (fun wl=>Hd O w wl S [f1 fM v1 f.Kids,.blk g [i6 f.Kind,sb f.Name,sb f.Other,i6 f.Op,i6 f.N,i6 f.Frames,v1] 127,.blk h [.bool d.name,.bool d.other,.bool d.op,.bool d.n,.bool d.frames,i6 d.least,i6 d.most] 203]) ?_ ?_
 ·skip
  obtain ⟨af,c⟩:=yM c
  refine dL false af ?_
  refine zG (aDx rfl)<| Ld qH H 2 4 rfl rfl ?_
  obtain ⟨cl,ag,c⟩:=zC c
  refine zG (zL (fU (p:=d.frames) rfl) ag) ?_
  obtain ⟨ah,c⟩:=eX c
  refine dL true ah ?_
  refine zG (fa127_5 rfl)<| Ld fJ H 1 5 rfl rfl ?_
  obtain ⟨l,ai,c⟩:=zC c
  refine zG (zL (eQ (a:=f.Frames) (b:=0) rfl rfl) ai)<| zG (yG (v:= .bool l) rfl rfl)<| zG (yB (v:= .bool l) rfl rfl) ?_
  obtain rfl:=gI c
  exact zZ (zF (meet ⟨(zJ rfl zK),H.pick [0,1,2]⟩))
 rintro ρ cm H
 have c:=ae
 obtain ⟨aj,c⟩:=yM c
 refine dL false aj ?_
 refine zG (nK rfl)<| Ld qP H 1 6 rfl rfl ?_
 obtain ⟨ak,al,c⟩:=zC c
 obtain ⟨cn,co,am⟩:=SlF.len ((H.item (i:=0) rfl))
 refine zG (yJ (xJ rP am) (congrArg (Value.int .i64) al))<| zG (fa203_5 rfl)<| Ld fJ H 2 5 rfl rfl<| zG (fa203_6 rfl)<| Ld fJ H 2 6 rfl rfl ?_
 have an:=H
 obtain ⟨ao,ap,c⟩:=zD c
 refine zT rfl rfl (zO en45 rfl) (Fadw ak d.least d.most _ ap _ _ _ (H.enter [] [])) ?_
 rintro _ cp ⟨rfl,aq⟩
 have H:=an.step (aq.only:Only [] _ _)
 refine ⟨_,rfl,?_⟩
 obtain ⟨ar,au,c⟩:=zC c
 refine zG (zL (fU (p:=ao) rfl) au)<| zG (yB (v:= .bool ar) rfl rfl)<| RN D ?_
 obtain ⟨av,c⟩:=yM c
 refine xM av ?_
 refine zQ (zF (C _ _ ?_))
 refine zB fun cq aw=>?_
 refine zY ?_
 refine zB fun cr ax=>zA<| zG (aEe rfl)<| Ld qH H 2 0 rfl rfl ?_
 obtain ⟨ay,c,az⟩:=zD c
 refine eH 6 [75,76,77,78,79,80] [(80,.bool ay)] (fun wl=>Hd O w wl S [f1 fM v1 f.Kids,.blk g [i6 f.Kind,sb f.Name,sb f.Other,i6 f.Op,i6 f.N,i6 f.Frames,v1] 127,.blk h [.bool d.name,.bool d.other,.bool d.op,.bool d.n,.bool d.frames,i6 d.least,i6 d.most] 203]) ?_ ?_
 ·skip
  obtain ⟨a0,c⟩:=eX c
  refine dL true a0 ?_
  refine zG (aEn rfl)<| Ld dQ H 1 1 rfl rfl ?_
  have a1:=H
  obtain ⟨a2,a3,c⟩:=zD c
  refine zT rfl rfl (zO en41 rfl) (Fagw f.Name _ a3 _ _ _ (H.enter [] [])) ?_
  rintro _ ct ⟨rfl,a4⟩
  have H:=a1.step (a4.only:Only [] _ _)
  refine ⟨_,rfl,?_⟩
  obtain ⟨a5,a6,c⟩:=zC c
  refine zG (zL (fU (p:=a2) rfl) a6)<| zG (yG (v:= .bool a5) rfl rfl) ?_
  obtain rfl:=gI c
  exact zZ (zF (meet ⟨(zJ rfl zK),H.pick [0,1,2]⟩))
 rintro ρ cu H
 have c:=az
 obtain ⟨a7,c⟩:=yM c
 refine dL false a7 ?_
 refine zG (aDq rfl)<| Ld qH H 2 1 rfl rfl ?_
 obtain ⟨a8,c⟩:=yM c
 refine dL false a8 ?_
 refine yH ?_
 refine yH ?_
 refine yH ?_
 refine yH ?_
 refine zG (yB (v:= .bool false) rfl rfl)<| zG (yB (v:= .bool false) rfl rfl)<| zI (.bool false)<| RN ax<| qY rfl<| zB fun cv a9=>zA<| zG (aEs rfl)<| Ld qH H 2 2 rfl rfl ?_
 obtain ⟨ba,c⟩:=eX c
 refine dL true ba ?_
 refine zG (aAk rfl)<| Ld fJ H 1 3 rfl rfl ?_
 have bb:=H
 obtain ⟨bc,bd,c⟩:=zD c
 refine zT rfl rfl (zO en45 rfl) (Fadw f.Op 1 6 _ bd _ _ _ (H.enter [] [])) ?_
 rintro _ cw ⟨rfl,be⟩
 have H:=bb.step (be.only:Only [] _ _)
 refine ⟨_,rfl,?_⟩
 obtain ⟨m,bf,c⟩:=zC c
 refine zG (zL (fU (p:=bc) rfl) bf)<| zG (yG (v:= .bool m) rfl rfl)<| zI (.bool m)<| RN a9 ?_
 obtain ⟨bg,c⟩:=yM c
 refine xM bg ?_
 refine zB fun cx bh=>zA<| zG (aDx rfl)<| Ld qH H 2 4 rfl rfl ?_
 obtain ⟨bi,c⟩:=yM c
 refine dL false bi ?_
 refine yH ?_
 refine yH ?_
 refine yH ?_
 refine yH ?_
 refine zG (yB (v:= .bool false) rfl rfl)<| zI (.bool false)<| RN bh<| qY rfl<| zB fun cy bj=>zA<| zG (jB rfl)<| Ld fJ H 1 0 rfl rfl ?_
 obtain ⟨cz,bk,c⟩:=zC c
 refine zG (zL (fV (a:=f.Kind) (b:=13) rfl rfl) bk) ?_
 obtain ⟨bl,c⟩:=yM c
 refine dL false bl ?_
 refine yH ?_
 refine yH ?_
 refine yH ?_
 refine yH ?_
 refine yH ?_
 refine yH ?_
 refine zG (yB (v:= .bool false) rfl rfl)<| zI (.bool false)<| RN bj<| qY rfl<| zB fun c0 bm=>zA<| zG (aDz rfl)<| Ld qH H 2 3 rfl rfl ?_
 obtain ⟨bn,c,bo⟩:=zD c
 refine eH 6 [124,125,126,127,128,129] [(129,.bool bn)] (fun wl=>Hd O w wl S [f1 fM v1 f.Kids,.blk g [i6 f.Kind,sb f.Name,sb f.Other,i6 f.Op,i6 f.N,i6 f.Frames,v1] 127,.blk h [.bool d.name,.bool d.other,.bool d.op,.bool d.n,.bool d.frames,i6 d.least,i6 d.most] 203]) ?_ ?_
 ·skip
  obtain ⟨bp,c⟩:=eX c
  refine dL true bp ?_
  refine zG (aEr rfl)<| Ld fJ H 1 4 rfl rfl ?_
  have bq:=H
  obtain ⟨br,bt,c⟩:=zD c
  refine zT rfl rfl (zO en45 rfl) (Fadw f.N (-1125899906842624) 1125899906842624 _ bt _ _ _ (H.enter [] [])) ?_
  rintro _ c1 ⟨rfl,bu⟩
  have H:=bq.step (bu.only:Only [] _ _)
  refine ⟨_,rfl,?_⟩
  obtain ⟨bv,bw,c⟩:=zC c
  refine zG (zL (fU (p:=br) rfl) bw)<| zG (yG (v:= .bool bv) rfl rfl) ?_
  obtain rfl:=gI c
  exact zZ (zF (meet ⟨(zJ rfl zK),H.pick [0,1,2]⟩))
 rintro ρ c2 H
 have c:=bo
 obtain ⟨bx,c⟩:=yM c
 refine dL false bx ?_
 refine zG (jB rfl)<| Ld fJ H 1 0 rfl rfl ?_
 obtain ⟨c3,bz,c⟩:=zC c
 refine zG (zL (fV (a:=f.Kind) (b:=5) rfl rfl) bz) ?_
 obtain ⟨b0,c⟩:=yM c
 refine dL false b0 ?_
 refine yH ?_
 refine yH ?_
 refine yH ?_
 refine zG (yB (v:= .bool false) rfl rfl)<| zG (yB (v:= .bool false) rfl rfl)<| zI (.bool false)<| RN bm<| qY rfl<| (zQ (yV (zF (aw _ _ ?_))))
 refine zB fun c4 b1=>zA<| zI (i6 0)<| RN b1 ?_
 obtain rfl:=gI c
 refine (zX (fB (v1:=i6 0) rfl rfl ?_))
 exact ⟨rfl,H.pick []⟩
theorem Fciw (d:Cond)(v1:Value)(r:Int)(c:Fci d=some r)(O S:List Nat)(w:World)(H:Hd O w w S [f1 fM v1 d.Kids]):
  Cl 110 [.agg [i6 d.Kind,sb d.Name,sb d.Other,i6 d.Op,i6 d.N,i6 d.Frames,v1].toArray,.func (.func 146) #[] #[]] w fun e j=>e= .returned (i6 r)∧Hd O w j S []:=by
 unfold Fci at c
 refine CW 29 Tryz.func110 ?_
 refine zB fun I k=>zA<| yT rfl rfl (fQ (cs:=[i6 d.Kind,sb d.Name,sb d.Other,i6 d.Op,i6 d.N,i6 d.Frames,v1]) rfl H) ?_
 rintro _ J ⟨K,rfl,H⟩
 refine zI (i6 0)<| RN k<| zB fun L l=>zB fun M m=>zA<| zH (.func (.func 146) #[] #[])<| zG (yJ (yL (cs:=[i6 d.Kind,sb d.Name,sb d.Other,i6 d.Op,i6 d.N,i6 d.Frames,v1]) dX rfl dP rfl (Hbc H 1 rfl)) rfl) ?_
 have n:=H
 obtain ⟨f,o,c⟩:=zD c
 refine zT rfl rfl (aB en146 rfl rfl) (Fc1w d v1 _ o _ _ _ (H.enter [] [0])) ?_
 rintro _ P ⟨rfl,p⟩
 have H:=n.step (p.only:Only [] _ _)
 refine ⟨_,rfl,?_⟩
 refine zI (i6 f)<| RN m<| zB fun Q q=>zA<| zH (i6 f) ?_
 obtain ⟨R,s,c⟩:=zC c
 refine zG (zL (eQ (a:=f) (b:=0) rfl rfl) s)<| RN q ?_
 obtain ⟨t,c⟩:=yM c
 refine xM t ?_
 refine zQ (zF (l _ _ ?_))
 obtain ⟨u,v,c⟩:=xH c
 refine yI [4,7,8,15,16,17,18,19,20,21,22,23,24,25,26,27,28] (fun (g:Unit)=>[]) (fun g wl=>Hd O w wl S []∧u ()=some r) ?_ ?_
 ·skip
  refine zB fun T x=>zA<| zG (nK rfl)<| Ld qP H 1 6 rfl rfl ?_
  obtain ⟨y,z,c⟩:=zC c
  obtain ⟨U,V,A⟩:=SlF.len ((H.item (i:=0) rfl))
  refine zG (yJ (xJ rP A) (congrArg (Value.int .i64) z))<| zH (i6 0)<| RN x<| zY ?_
  unfold Fd8 at c
  obtain ⟨B,h,C,c⟩:=yK c
  refine yX [4,7,8,18,19,20,21,22,23,24,25,26,27,28] (fun (g:Nat)=>[(18,i6 0)]) (fun g wl=>Hd O w wl S [f1 fM v1 d.Kids]∧fE B g ()=some r) (fun g=>g) h (zJ rfl zK) ⟨H.pick [0],c⟩ ?_
  clear H c
  rintro h ρ X ⟨H,c⟩
  obtain ⟨Y,rfl,c⟩:=yO c
  have c:=yN C c
  refine zB fun Z D=>zA ?_
  obtain ⟨aa,E,c⟩:=zC c
  refine zG (zL (xI (a:=0) (b:=y) rfl rfl) E)<| RN D<| zB fun ab ac=>?_
  obtain ⟨F,c⟩:=yM c
  refine xM F ?_
  exact (xG (yD (yD (yS (zF (meet ⟨(),zK,⟨H.pick [],c⟩⟩))))))
 rintro _ ρ ad ⟨H,c⟩
 have c:=xO v c
 refine zB fun ae G=>zA<| zI (i6 0)<| RN G ?_
 obtain rfl:=gI c
 refine (zX (fB (v1:=i6 0) rfl rfl ?_))
 exact ⟨rfl,H.pick []⟩
theorem Fcqw (a:Cond)(v1:Value)(r:Int)(b:Fcq a=some r)(O S:List Nat)(w:World)(H:Hd O w w S [f1 fM v1 a.Kids]):
  Cl 109 [.agg [i6 a.Kind,sb a.Name,sb a.Other,i6 a.Op,i6 a.N,i6 a.Frames,v1].toArray] w fun e d=>e= .returned (i6 r)∧Hd O w d S []:=by
 unfold Fcq at b
 refine CW 9 Tryz.func109 ?_
 refine zB fun x f=>zA<| yT rfl rfl (fQ (cs:=[i6 a.Kind,sb a.Name,sb a.Other,i6 a.Op,i6 a.N,i6 a.Frames,v1]) rfl H) ?_
 rintro _ y ⟨z,rfl,H⟩
 refine zI (i6 0)<| RN f<| zB fun A g=>zA<| yT rfl rfl (xE zero3 H) ?_
 rintro _ B ⟨h,rfl,H⟩
 refine xB rfl (xQ H 2 rfl sz3 rfl (v:=i6 0) rfl rfl rfl) ?_
 rintro C H
 refine RN g<| zB fun D i=>zB fun E j=>zA<| zG (yJ (yL (cs:=[i6 a.Kind,sb a.Name,sb a.Other,i6 a.Op,i6 a.N,i6 a.Frames,v1]) dX rfl dP rfl (Hbc H 1 rfl)) rfl) ?_
 obtain ⟨⟨k,F⟩,l,b⟩:=zD b
 refine zT rfl rfl (zO en145 rfl) (Fc2w a 20 0 v1 h _ l _ _ _ (H.enter [2] [0])) ?_
 rintro _ G ⟨rfl,m⟩
 have H:Hd _ _ _ _ [_,_,_]:=H.back [2] [0] rfl m
 refine ⟨_,rfl,?_⟩
 obtain ⟨I,n,b⟩:=zC b
 refine zG (zL (fU (p:=k) rfl) n)<| RN j ?_
 obtain ⟨o,b⟩:=yM b
 refine xM o ?_
 refine zQ (zF (i _ _ ?_))
 refine zB fun J q=>zA<| zG (yJ (yL (cs:=[i6 a.Kind,sb a.Name,sb a.Other,i6 a.Op,i6 a.N,i6 a.Frames,v1]) dX rfl dP rfl (Hbc H 1 rfl)) rfl) ?_
 have s:=H
 obtain ⟨c,t,b⟩:=zD b
 refine zT rfl rfl (zO en110 rfl) (Fciw a v1 _ t _ _ _ (H.enter [] [0])) ?_
 rintro _ K ⟨rfl,u⟩
 have H:=s.step (u.only:Only [] _ _)
 refine ⟨_,rfl,?_⟩
 refine zI (i6 c)<| RN q ?_
 obtain rfl:=gI b
 refine (zX (fB (v1:=i6 c) rfl rfl ?_))
 exact ⟨rfl,H.pick []⟩
theorem Fckw (c:Cond)(f:Rules)(c1f1:Int)(v1:Value)(g:Nat)(i:Value)(j:Value)(k:Value)(l:Nat)(h:Nat)(r:Int)(d:Fck c f c1f1=some r)(O S:List Nat)(w:World)(H:Hd O w w S [.blk g [i,j,k] 75,.blk h [i6 c1f1] 3,.blk l [.func (.func 112) #[] #[gZ g,gZ h]] 89,f1 fM v1 c.Kids,f1 Rp.str i f.Phases,f1 gX j f.Moves,f1 gY k f.Rules]):
  Cl 115 [.agg [i6 c.Kind,sb c.Name,sb c.Other,i6 c.Op,i6 c.N,i6 c.Frames,v1].toArray,gZ g,gZ l] w fun e m=>e= .returned (i6 r)∧Hd O w m S [.blk g [i,j,k] 75,.blk h [i6 c1f1] 3,.blk l [.func (.func 112) #[] #[gZ g,gZ h]] 89]:=by
 unfold Fck at d
 refine CW 28 Tryz.func115 ?_
 refine zB fun C n=>zA<| yT rfl rfl (fQ (cs:=[i6 c.Kind,sb c.Name,sb c.Other,i6 c.Op,i6 c.N,i6 c.Frames,v1]) rfl H) ?_
 rintro _ D ⟨o,rfl,H⟩
 refine zI (i6 0)<| RN n<| zB fun E p=>zB fun F q=>zA<| zG (jB rfl)<| Ld fJ H 7 0 rfl rfl ?_
 obtain ⟨G,s,d⟩:=zC d
 refine zG (zL (fV (a:=c.Kind) (b:=6) rfl rfl) s) ?_
 obtain ⟨t,d,u⟩:=zD d
 refine eH 8 [8,9,10,11,12,13,14,15] [(15,.bool t)] (fun wl=>Hd O w wl S [.blk g [i,j,k] 75,.blk h [i6 c1f1] 3,.blk l [.func (.func 112) #[] #[gZ g,gZ h]] 89,f1 fM v1 c.Kids,f1 Rp.str i f.Phases,f1 gX j f.Moves,f1 gY k f.Rules,.blk o [i6 c.Kind,sb c.Name,sb c.Other,i6 c.Op,i6 c.N,i6 c.Frames,v1] 127]) ?_ ?_
 ·skip
  obtain ⟨x,d⟩:=yM d
  refine dL false x ?_
  refine yH ?_
  refine yH ?_
  refine yH ?_
  refine yH ?_
  refine yH ?_
  refine yH ?_
  refine zG (yB (v:= .bool false) rfl rfl) ?_
  obtain rfl:=gI d
  exact zZ (zF (meet ⟨(zJ rfl zK),H.pick [0,1,2,3,4,5,6,7]⟩))
 rintro ρ I H
 have d:=u
 obtain ⟨y,d⟩:=yM d
 refine dL false y ?_
 refine zG (jB rfl)<| Ld fJ H 7 0 rfl rfl ?_
 obtain ⟨J,z,d⟩:=zC d
 refine zG (zL (fV (a:=c.Kind) (b:=7) rfl rfl) z) ?_
 obtain ⟨A,d⟩:=yM d
 refine dL false A ?_
 refine yH ?_
 refine yH ?_
 refine yH ?_
 refine yH ?_
 refine yH ?_
 refine zG (yB (v:= .bool false) rfl rfl)<| zG (yB (v:= .bool false) rfl rfl)<| RN q<| qY rfl<| zQ (zF (p _ _ ?_))
 refine zB fun K B=>zA<| zI (i6 0)<| RN B ?_
 obtain rfl:=gI d
 refine (zX (fB (v1:=i6 0) rfl rfl ?_))
 exact ⟨rfl,H.pick [0,1,2]⟩
theorem Fcnw (d:Cond)(p1c0:Rules)(p1c1f1:Int)(v1:Value)(f:Nat)(j:Value)(k:Value)(l:Value)(m:Nat)(h:Nat)(r:Int)(c:Fcn d p1c0 p1c1f1=some r)(O S:List Nat)(w:World)(H:Hd O w w S [.blk f [j,k,l] 75,.blk h [i6 p1c1f1] 3,.blk m [.func (.func 112) #[] #[gZ f,gZ h]] 89,f1 fM v1 d.Kids,f1 Rp.str j p1c0.Phases,f1 gX k p1c0.Moves,f1 gY l p1c0.Rules]):
  Cl 110 [.agg [i6 d.Kind,sb d.Name,sb d.Other,i6 d.Op,i6 d.N,i6 d.Frames,v1].toArray,.func (.func 115) #[] #[gZ f,gZ m]] w fun e p=>e= .returned (i6 r)∧Hd O w p S [.blk f [j,k,l] 75,.blk h [i6 p1c1f1] 3,.blk m [.func (.func 112) #[] #[gZ f,gZ h]] 89]:=by
 unfold Fcn at c
 refine CW 29 Tryz.func110 ?_
 refine zB fun P q=>zA<| yT rfl rfl (fQ (cs:=[i6 d.Kind,sb d.Name,sb d.Other,i6 d.Op,i6 d.N,i6 d.Frames,v1]) rfl H) ?_
 rintro _ Q ⟨R,rfl,H⟩
 refine zI (i6 0)<| RN q<| zB fun T s=>zB fun U t=>zA<| zH (.func (.func 115) #[] #[gZ f,gZ m])<| zG (yJ (yL (cs:=[i6 d.Kind,sb d.Name,sb d.Other,i6 d.Op,i6 d.N,i6 d.Frames,v1]) dX rfl dP rfl (Hbc H 7 rfl)) rfl) ?_
 obtain ⟨n,u,c⟩:=zD c
 refine zT rfl rfl (aB en115 rfl rfl) (Fckw d p1c0 p1c1f1 v1 f j k l m h _ u _ _ _ (H.enter [0,1,2] [3,4,5,6])) ?_
 rintro _ V ⟨rfl,v⟩
 have H:Hd _ _ _ _ [_,_,_,_,_,_,_,_]:=H.back [0,1,2] [3,4,5,6] rfl v
 refine ⟨_,rfl,?_⟩
 refine zI (i6 n)<| RN t<| zB fun X x=>zA<| zH (i6 n) ?_
 obtain ⟨Y,y,c⟩:=zC c
 refine zG (zL (eQ (a:=n) (b:=0) rfl rfl) y)<| RN x ?_
 obtain ⟨z,c⟩:=yM c
 refine xM z ?_
 refine zQ (zF (s _ _ ?_))
 obtain ⟨A,B,c⟩:=xH c
 refine yI [4,7,8,15,16,17,18,19,20,21,22,23,24,25,26,27,28] (fun (g:Unit)=>[]) (fun g wl=>Hd O w wl S [f1 Rp.str j p1c0.Phases,f1 gX k p1c0.Moves,f1 gY l p1c0.Rules,.blk f [j,k,l] 75,.blk h [i6 p1c1f1] 3,.blk m [.func (.func 112) #[] #[gZ f,gZ h]] 89]∧A ()=some r) ?_ ?_
 ·skip
  refine zB fun Z C=>zA<| zG (nK rfl)<| Ld qP H 4 6 rfl rfl ?_
  obtain ⟨D,E,c⟩:=zC c
  obtain ⟨aa,ab,F⟩:=SlF.len ((H.item (i:=0) rfl))
  refine zG (yJ (xJ rP F) (congrArg (Value.int .i64) E))<| zH (i6 0)<| RN C<| zY ?_
  unfold Fd0 at c
  obtain ⟨G,o,I,c⟩:=yK c
  refine yX [4,7,8,18,19,20,21,22,23,24,25,26,27,28] (fun (g:Nat)=>[(18,i6 0)]) (fun g wl=>Hd O w wl S [f1 fM v1 d.Kids,f1 Rp.str j p1c0.Phases,f1 gX k p1c0.Moves,f1 gY l p1c0.Rules,.blk f [j,k,l] 75,.blk h [i6 p1c1f1] 3,.blk m [.func (.func 112) #[] #[gZ f,gZ h]] 89]∧fE G g ()=some r) (fun g=>g) o (zJ rfl zK) ⟨H.pick [0,1,2,3,5,6,7],c⟩ ?_
  clear H c
  rintro o ρ ac ⟨H,c⟩
  obtain ⟨ad,rfl,c⟩:=yO c
  have c:=yN I c
  refine zB fun ae J=>zA ?_
  obtain ⟨af,K,c⟩:=zC c
  refine zG (zL (xI (a:=0) (b:=D) rfl rfl) K)<| RN J<| zB fun ag ah=>?_
  obtain ⟨L,c⟩:=yM c
  refine xM L ?_
  exact (xG (yD (yD (yS (zF (meet ⟨(),zK,⟨H.pick [1,2,3,4,5,6],c⟩⟩))))))
 rintro _ ρ ai ⟨H,c⟩
 have c:=xO B c
 refine zB fun aj M=>zA<| zI (i6 0)<| RN M ?_
 obtain rfl:=gI c
 refine (zX (fB (v1:=i6 0) rfl rfl ?_))
 exact ⟨rfl,H.pick [3,4,5]⟩
theorem Fcgw (g:Rules)(h:Int)(v1:Value)(j:Value)(k:Value)(r:Int)(d:Fcg g h=some r)(O S:List Nat)(w:World)(H:Hd O w w S [f1 Rp.str v1 g.Phases,f1 gX j g.Moves,f1 gY k g.Rules]):
  Cl 85 [.agg [v1,j,k].toArray,i6 h] w fun e s=>e= .returned (i6 r)∧Hd O w s S []:=by
 unfold Fcg at d
 refine CW 34 Tryz.func85 ?_
 refine zB fun K7 t=>zA<| yT rfl rfl (fQ (cs:=[v1,j,k]) rfl H) ?_
 rintro _ am ⟨l,rfl,H⟩
 refine yT rfl rfl (kX rfl rfl H) ?_
 rintro _ an ⟨m,rfl,H⟩
 refine zI (i6 0)<| RN t<| zB fun ao u=>zA<| zG (aQ rfl)<| Ld mP H 3 2 rfl rfl<| Ld fJ H 4 0 rfl rfl ?_
 obtain ⟨c,n,d⟩:=zD d
 obtain ⟨x,y,ap,aq,z,A,B,C,D⟩:=xU (H.item (i:=2) rfl) n
 obtain ⟨f,rfl,E⟩:=aI A
 have H:=H.fzs [.at x (y+h.toNat * 8) _,.sl fM f c.When.Kids] ⟨⟨B,C,D⟩,E,trivial⟩
 refine zG (yU u73 aU z rfl (zN n).1 (zN n).2.1 rfl rfl)<| zG (yJ (yL (cs:=[sb c.Name,i6 c.When.Kind,sb c.When.Name,sb c.When.Other,i6 c.When.Op,i6 c.When.N,i6 c.When.Frames,f]) qU rfl aU rfl (H.item (i:=5) rfl).2.2) rfl)<| yT rfl rfl (xE rY H) ?_
 rintro _ ar ⟨au,rfl,H⟩
 refine xB rfl (yQ (vs:=[sb c.Name,i6 c.When.Kind,sb c.When.Name,sb c.When.Other,i6 c.When.Op,i6 c.When.N,i6 c.When.Frames,f]) H 7 rfl aU rfl rfl rfl ⟨rfl,rfl,rfl,rfl,rfl,rfl,rfl,(dW (H.item (i:=6) rfl)),trivial⟩ rfl) ?_
 rintro av H
 refine RN u<| zB fun aw F=>zA<| zG (dC rfl)<| yT rfl rfl (xE zero89 H) ?_
 rintro _ ax ⟨G,rfl,H⟩
 refine xB rfl (xQ H 8 rfl sz89 rfl (v:= .func (.func 112) #[] #[gZ l,gZ m]) rfl rfl rfl) ?_
 rintro ay H
 refine RN F<| zB fun az I=>zY<| zB fun a0 J=>zA<| zG (nM rfl)<| Ld dQ H 7 0 rfl rfl ?_
 have K:=H
 obtain ⟨L,M,d⟩:=zD d
 refine zT rfl rfl (zO en41 rfl) (Fagw c.Name _ M _ _ _ (H.enter [] [])) ?_
 rintro _ a1 ⟨rfl,P⟩
 have H:=K.step (P.only:Only [] _ _)
 refine ⟨_,rfl,?_⟩
 obtain ⟨Q,R,d⟩:=zC d
 refine zG (zL (fU (p:=L) rfl) R)<| zI (.bool Q)<| RN J ?_
 obtain ⟨T,d⟩:=yM d
 refine xM T ?_
 refine zB fun a2 U=>zA<| Ld one89 H 8 0 rfl rfl<| zG (nM rfl)<| Ld dQ H 7 0 rfl rfl ?_
 obtain ⟨V,X,d⟩:=zD d
 refine zT rfl rfl (aB en112 rfl rfl) (Fc5w c.Name g h l v1 j k m _ X _ _ _ (H.enter [3,4] [0,1,2])) ?_
 rintro _ a3 ⟨rfl,Y⟩
 have H:Hd _ _ _ _ [_,_,_,_,_,_,_,_,_]:=H.back [3,4] [0,1,2] rfl Y
 refine ⟨_,rfl,?_⟩
 refine zI (.bool V)<| RN U ?_
 obtain ⟨Z,d⟩:=yM d
 refine xM Z ?_
 refine (zQ (yV (zF (I _ _ ?_))))
 refine zB fun a4 aa=>?_
 refine zB fun a5 ab=>zA<| zG (qA rfl)<| zG (yJ (yL (cs:=[i6 c.When.Kind,sb c.When.Name,sb c.When.Other,i6 c.When.Op,i6 c.When.N,i6 c.When.Frames,f]) dX rfl dP rfl (Cells.drop (Hbc H 5 rfl) 1 7)) rfl) ?_
 have ac:=H
 obtain ⟨o,ad,d⟩:=zD d
 refine zT rfl rfl (zO en109 rfl) (Fcqw c.When f _ ad _ _ _ (H.enter [] [4])) ?_
 rintro _ a6 ⟨rfl,ae⟩
 have H:=ac.step (ae.only:Only [] _ _)
 refine ⟨_,rfl,?_⟩
 refine zI (i6 o)<| RN ab<| zB fun a7 af=>zA<| zH (i6 o) ?_
 obtain ⟨a8,ag,d⟩:=zC d
 refine zG (zL (eQ (a:=o) (b:=0) rfl rfl) ag)<| RN af ?_
 obtain ⟨ah,d⟩:=yM d
 refine xM ah ?_
 refine zQ (zF (aa _ _ ?_))
 refine zB fun a9 ai=>zA<| zG (qA rfl)<| zG (yJ (yL (cs:=[i6 c.When.Kind,sb c.When.Name,sb c.When.Other,i6 c.When.Op,i6 c.When.N,i6 c.When.Frames,f]) dX rfl dP rfl (Cells.drop (Hbc H 5 rfl) 1 7)) rfl)<| zG (dC rfl) ?_
 obtain ⟨q,aj,d⟩:=zD d
 refine zT rfl rfl (zO en110 rfl) (Fcnw c.When g h f l v1 j k G m _ aj _ _ _ (H.enter [7,8,6] [4,0,1,2])) ?_
 rintro _ ba ⟨rfl,ak⟩
 have H:Hd _ _ _ _ [_,_,_,_,_,_,_,_,_]:=H.back [7,8,6] [4,0,1,2] rfl ak
 refine ⟨_,rfl,?_⟩
 refine zI (i6 q)<| RN ai ?_
 obtain rfl:=gI d
 refine (zX (fB (v1:=i6 q) rfl rfl ?_))
 exact ⟨rfl,H.pick []⟩
set_option maxRecDepth 100000 in
theorem Fbbw (d:Rules)(v1:Value)(f:Value)(h:Value)(r:Int)(c:Fbb d=some r)(O S:List Nat)(w:World)(H:Hd O w w S [f1 Rp.str v1 d.Phases,f1 gX f d.Moves,f1 gY h d.Rules]):
  Cl 58 [.agg [v1,f,h].toArray] w fun e s=>e= .returned (i6 r)∧Hd O w s S []:=by
 unfold Fbb at c
 refine CW 71 Tryz.func58 ?_
 refine zB fun K7 t=>zA<| yT rfl rfl (fQ (cs:=[v1,f,h]) rfl H) ?_
 rintro _ bi ⟨j,rfl,H⟩
 refine zI (i6 0)<| RN t<| zB fun bj u=>zB fun bk x=>zA<| zG (fa75_0 rfl)<| Ld aEj H 3 0 rfl rfl ?_
 obtain ⟨y,z,c⟩:=zC c
 obtain ⟨bl,bm,A⟩:=SlF.len ((H.item (i:=0) rfl))
 refine zG (yJ (xJ u36 A) (congrArg (Value.int .i64) z)) ?_
 obtain ⟨bn,B,c⟩:=zC c
 refine zG (zL (dD (a:=y) (b:=20) rfl rfl) B) ?_
 obtain ⟨C,c,D⟩:=zD c
 refine eH 6 [14,15,16,17,18,19] [(19,.bool C)] (fun wl=>Hd O w wl S [f1 Rp.str v1 d.Phases,f1 gX f d.Moves,f1 gY h d.Rules,.blk j [v1,f,h] 75]) ?_ ?_
 ·skip
  obtain ⟨E,c⟩:=yM c
  refine dL false E ?_
  refine zG (aCo rfl)<| Ld one72 H 3 1 rfl rfl ?_
  obtain ⟨F,G,c⟩:=zC c
  obtain ⟨bo,bp,I⟩:=SlF.len ((H.item (i:=1) rfl))
  refine zG (yJ (xJ u72 I) (congrArg (Value.int .i64) G)) ?_
  obtain ⟨J,K,c⟩:=zC c
  refine zG (zL (dD (a:=F) (b:=60) rfl rfl) K)<| zG (yB (v:= .bool J) rfl rfl) ?_
  obtain rfl:=gI c
  exact zZ (zF (meet ⟨(zJ rfl zK),H.pick [0,1,2,3]⟩))
 rintro ρ bq H
 have c:=D
 obtain ⟨L,c⟩:=yM c
 refine dL false L ?_
 refine zG (aQ rfl)<| Ld mP H 3 2 rfl rfl ?_
 obtain ⟨M,N,c⟩:=zC c
 obtain ⟨br,bt,P⟩:=SlF.len ((H.item (i:=2) rfl))
 refine zG (yJ (xJ u73 P) (congrArg (Value.int .i64) N)) ?_
 obtain ⟨Q,R,c⟩:=zC c
 refine zG (zL (dD (a:=M) (b:=60) rfl rfl) R)<| zG (yB (v:= .bool Q) rfl rfl)<| RN x ?_
 obtain ⟨T,c⟩:=yM c
 refine xM T ?_
 refine zQ (zF (u _ _ ?_))
 obtain ⟨U,V,c⟩:=xH c
 refine yI [2,3,4,26,27,28,29,30,31,32,33,34,35,36,37,38,39,40,41,42,43] (fun (g:Unit)=>[]) (fun g wl=>Hd O w wl S [f1 Rp.str v1 d.Phases,f1 gX f d.Moves,f1 gY h d.Rules,.blk j [v1,f,h] 75]∧U ()=some r) ?_ ?_
 ·skip
  refine zB fun bu X=>zA<| zG (fa75_0 rfl)<| Ld aEj H 3 0 rfl rfl ?_
  obtain ⟨Y,Z,c⟩:=zC c
  obtain ⟨bv,bw,aa⟩:=SlF.len ((H.item (i:=0) rfl))
  refine zG (yJ (xJ u36 aa) (congrArg (Value.int .i64) Z))<| zH (i6 0)<| RN X<| zY ?_
  unfold Fec at c
  obtain ⟨ab,n,ac,c⟩:=yK c
  refine yX [2,3,4,29,30,31,32,33,34,35,36,37,38,39,40,41,42,43] (fun (g:Nat)=>[(29,i6 0)]) (fun g wl=>Hd O w wl S [f1 Rp.str v1 d.Phases,f1 gX f d.Moves,f1 gY h d.Rules,.blk j [v1,f,h] 75]∧fE ab g ()=some r) (fun g=>g) n (zJ rfl zK) ⟨H.pick [0,1,2,3],c⟩ ?_
  clear H c
  rintro n ρ bx ⟨H,c⟩
  obtain ⟨bz,rfl,c⟩:=yO c
  have c:=yN ac c
  refine zB fun b0 ad=>zA ?_
  obtain ⟨b1,ae,c⟩:=zC c
  refine zG (zL (xI (a:=0) (b:=Y) rfl rfl) ae)<| RN ad<| zB fun b2 b3=>?_
  obtain ⟨af,c⟩:=yM c
  refine xM af ?_
  exact (xG (yD (yD (yS (zF (meet ⟨(),zK,⟨H.pick [0,1,2,3],c⟩⟩))))))
 rintro _ ρ b4 ⟨H,c⟩
 have c:=xO V c
 obtain ⟨ag,ah,c⟩:=xH c
 refine yI [2,6,7,44,45,46,47,48,49,50,51,52,53,54,55,56,57] (fun (g:Unit)=>[]) (fun g wl=>Hd O w wl S [f1 Rp.str v1 d.Phases,f1 gX f d.Moves,f1 gY h d.Rules,.blk j [v1,f,h] 75]∧ag ()=some r) ?_ ?_
 ·skip
  refine zB fun b5 ai=>zA<| zG (aCo rfl)<| Ld one72 H 3 1 rfl rfl ?_
  obtain ⟨aj,ak,c⟩:=zC c
  obtain ⟨b6,b7,al⟩:=SlF.len ((H.item (i:=1) rfl))
  refine zG (yJ (xJ u72 al) (congrArg (Value.int .i64) ak))<| zH (i6 0)<| RN ai<| zY ?_
  unfold Fd5 at c
  obtain ⟨am,o,an,c⟩:=yK c
  refine yX [2,6,7,47,48,49,50,51,52,53,54,55,56,57] (fun (g:Nat)=>[(47,i6 0)]) (fun g wl=>Hd O w wl S [f1 Rp.str v1 d.Phases,f1 gX f d.Moves,f1 gY h d.Rules,.blk j [v1,f,h] 75]∧fE am g ()=some r) (fun g=>g) o (zJ rfl zK) ⟨H.pick [0,1,2,3],c⟩ ?_
  clear H c
  rintro o ρ b8 ⟨H,c⟩
  obtain ⟨b9,rfl,c⟩:=yO c
  have c:=yN an c
  refine zB fun ca ao=>zA ?_
  obtain ⟨cb,ap,c⟩:=zC c
  refine zG (zL (xI (a:=0) (b:=aj) rfl rfl) ap)<| RN ao<| zB fun cc cd=>?_
  obtain ⟨aq,c⟩:=yM c
  refine xM aq ?_
  exact (xG (yD (yD (yS (zF (meet ⟨(),zK,⟨H.pick [0,1,2,3],c⟩⟩))))))
 rintro _ ρ ce ⟨H,c⟩
 have c:=xO ah c
 obtain ⟨ar,au,c⟩:=xH c
 refine yI [2,8,9,58,59,60,61,62,63,64,65,66,67,68,69,70] (fun (g:Unit)=>[]) (fun g wl=>Hd O w wl S []∧ar ()=some r) ?_ ?_
 ·skip
  refine zB fun cf av=>zA<| zG (aQ rfl)<| Ld mP H 3 2 rfl rfl ?_
  obtain ⟨aw,ax,c⟩:=zC c
  obtain ⟨cg,ch,ay⟩:=SlF.len ((H.item (i:=2) rfl))
  refine zG (yJ (xJ u73 ay) (congrArg (Value.int .i64) ax))<| zH (i6 0)<| RN av<| zY ?_
  unfold Fd4 at c
  obtain ⟨az,p,a0,c⟩:=yK c
  refine yX [2,8,9,61,62,63,64,65,66,67,68,69,70] (fun (g:Nat×Int)=>[(61,i6 g.2)]) (fun g wl=>Hd O w wl S [f1 Rp.str v1 d.Phases,f1 gX f d.Moves,f1 gY h d.Rules,.blk j [v1,f,h] 75]∧fE az g.1 g.2=some r) (fun g=>g.1) (p,0) (zJ rfl zK) ⟨H.pick [0,1,2,3],c⟩ ?_
  clear H c
  rintro ⟨p,k⟩ ρ ci ⟨H,c⟩
  obtain ⟨a1,rfl,c⟩:=yO c
  have c:=yN a0 c
  refine zB fun cj a2=>zA ?_
  obtain ⟨a3,a4,c⟩:=zC c
  refine zG (zL (xI (a:=k) (b:=aw) rfl rfl) a4)<| RN a2<| zB fun ck a5=>yC (b:=a3) rfl (fun l=>?_) (fun l=>?_)
  ·have c:=zU l c
   refine zQ (zF (a5 _ _ ?_))
   refine zB fun cl a6=>?_
   refine zY ?_
   refine zB fun cm a7=>zA<| zH (i6 k)<| zI (i6 k)<| RN a7<| zB fun cn a8=>zA<| zG (yJ (yL (cs:=[v1,f,h]) jL rfl nP rfl (Hbc H 3 rfl)) rfl)<| zH (i6 k) ?_
   have a9:=H
   obtain ⟨m,ba,c⟩:=zD c
   refine zT rfl rfl (zO en85 rfl) (Fcgw d k v1 f h _ ba _ _ _ (H.enter [] [0,1,2])) ?_
   rintro _ co ⟨rfl,bb⟩
   have H:=a9.step (bb.only:Only [] _ _)
   refine ⟨_,rfl,?_⟩
   refine zI (i6 m)<| RN a8<| zB fun cp bc=>zA<| zH (i6 m) ?_
   obtain ⟨cq,bd,c⟩:=zC c
   refine zG (zL (eQ (a:=m) (b:=0) rfl rfl) bd)<| RN bc ?_
   obtain ⟨be,c⟩:=yM c
   refine xM be ?_
   refine (zQ (yV (zF (a6 _ _ ?_))))
   refine zA ?_
   obtain ⟨q,bf,c⟩:=zC c
   refine zG (xP (a:=k) (b:=1) rfl rfl bf)<| zH (i6 q) ?_
   exact (zZ (zF (meet ⟨(a1,q),(zJ rfl zK),⟨H.pick [0,1,2,3],c⟩,Nat.lt_succ_self _⟩)))
  have c:=zV l c
  exact (xG (yD (yD (yS (zF (meet ⟨(),zK,⟨H.pick [],c⟩⟩))))))
 rintro _ ρ cr ⟨H,c⟩
 have c:=xO au c
 refine zB fun ct bg=>zA<| zI (i6 0)<| RN bg ?_
 obtain rfl:=gI c
 refine (zX (fB (v1:=i6 0) rfl rfl ?_))
 exact ⟨rfl,H.pick []⟩
theorem Fdnw (d:Str)(r:Rules×Int×Int)(c:Fdn d=some r)(O S:List Nat)(w:World)(H:Hd O w w S [.fz (.at 1 0 ((Fl.arr 7 Fl.str).f zW)),.fz (.gi 5)]):
  Cl 30 [sb d] w fun e n=> ∃u3 u4 u5,e= .returned (.tuple #[.agg [u3,u4,u5].toArray,i6 r.2.1,i6 r.2.2])∧Hd O w n S [f1 Rp.str u3 r.1.Phases,f1 gX u4 r.1.Moves,f1 gY u5 r.1.Rules]:=by
 unfold Fdn at c
 refine CW 39 Tryz.func30 ?_
 refine zB fun R o=>zA<| yT rfl rfl (xE aAj H) ?_
 rintro _ T ⟨U,rfl,H⟩
 refine zI (i6 0)<| zI (i6 0)<| RN o<| zB fun V p=>zB fun X q=>zA<| zH (sb d) ?_
 obtain ⟨s,t,c⟩:=zC c
 refine zG (yJ (bQ (s1:=d) u9 rfl) (congrArg (Value.int .i64) t)) ?_
 obtain ⟨Y,u,c⟩:=zC c
 refine zG (zL (dD (a:=s) (b:=200000) rfl rfl) u)<| RN q ?_
 obtain ⟨v,c⟩:=yM c
 refine xM v ?_
 refine zQ (zF (p _ _ ?_))
 refine zB fun Z x=>zA<| zH (sb d)<| zG (eY (cs:=[sb d,i6 0,i6 0,i6 0,i6 0,.string (bs []),.slice none 0 0,.slice none 0 0,.slice none 0 0]) (bt107_0 _))<| yT rfl rfl (fQ (cs:=[sb d,i6 0,i6 0,i6 0,i6 0,.string (bs []),.slice none 0 0,.slice none 0 0,.slice none 0 0]) rfl H) ?_
 rintro _ aa ⟨g,rfl,H⟩
 refine zI (gZ g)<| RN x<| zB fun ab y=>zB fun ac z=>zA<| zH (gZ g)<| zG (xZ rfl) ?_
 have H:=dE H Rp.str 9
 have H:=dE H gX 129
 have H:=dE H gY 132
 obtain ⟨⟨l,A⟩,B,c⟩:=zD c
 refine zT rfl rfl (zO en56 rfl) (Fdbw (gB.mk d 0 (gQ.mk 0 0 0 []) (Rules.mk [] [] [])) g (.slice none 0 0) (.slice none 0 0) (.slice none 0 0) _ B _ _ _ (H.enter [4,5,6,3] [0,1])) ?_
 rintro _ w64 ⟨h,j,k,rfl,C⟩
 have H:Hd _ _ _ _ [_,_,_,_,_,_,_]:=H.back [4,5,6,3] [0,1] rfl C
 refine ⟨_,rfl,?_⟩
 refine yT rfl rfl (xE zero109 H) ?_
 rintro _ ad ⟨ae,rfl,H⟩
 refine xB rfl (yQ (vs:=[i6 l.at_,i6 l.e]) H 7 rfl sz109 rfl rfl rfl ⟨rfl,rfl,trivial⟩ rfl) ?_
 rintro af H
 refine RN z<| zB fun ag D=>zA<| zG (fa109_1 rfl)<| Ld one29 H 7 1 rfl rfl ?_
 obtain ⟨ah,E,c⟩:=zC c
 refine zG (zL (eQ (a:=l.e) (b:=0) rfl rfl) E)<| RN D ?_
 obtain ⟨F,c⟩:=yM c
 refine xM F ?_
 refine zQ (zF (y _ _ ?_))
 refine zB fun ai G=>?_
 refine zB fun aj I=>zA<| zH (gZ g)<| zG (yF rfl)<| zG (sD rfl)<| zG (yJ (yL (cs:=[h,j,k]) jL rfl nP rfl (Cells.drop (Hbc H 6 rfl) 6 3)) rfl) ?_
 have J:=H
 have H:=H.freeze (i:=3) rfl
 have H:=H.freeze (i:=4) rfl
 have H:=H.freeze (i:=5) rfl
 obtain ⟨m,K,c⟩:=zD c
 refine zT rfl rfl (zO en58 rfl) (Fbbw A.r h j k _ K _ _ _ (H.enter [] [3,4,5])) ?_
 rintro _ ak ⟨rfl,L⟩
 have H:=J.step (L.only:Only [] _ _)
 refine ⟨_,rfl,?_⟩
 refine zI (i6 m)<| RN I<| zB fun al M=>zA<| zH (i6 m) ?_
 obtain ⟨am,N,c⟩:=zC c
 refine zG (zL (eQ (a:=m) (b:=0) rfl rfl) N)<| RN M ?_
 obtain ⟨P,c⟩:=yM c
 refine xM P ?_
 refine zQ (zF (G _ _ ?_))
 refine zB fun an Q=>zA<| zH (gZ g)<| zG (yF rfl)<| zG (sD rfl)<| zG (yJ (yL (cs:=[h,j,k]) jL rfl nP rfl (Cells.drop (Hbc H 6 rfl) 6 3)) rfl)<| xB rfl (yQ (vs:=[h,j,k]) H 2 rfl nP rfl rfl rfl ⟨(kH (H.item (i:=3) rfl)),(kH (H.item (i:=4) rfl)),(kH (H.item (i:=5) rfl)),trivial⟩ rfl) ?_
 rintro ao H
 refine zI (i6 0)<| zI (i6 0)<| RN Q ?_
 have H:=H.freeze (i:=3) rfl
 have H:=H.freeze (i:=4) rfl
 have H:=H.freeze (i:=5) rfl
 obtain rfl:=gI c
 refine (zX (pF (v1:=i6 0) (v2:=i6 0) rfl rfl (yP jL nP rfl (Hbc H 2 rfl)) rfl rfl ?_))
 exact ⟨h,j,k,rfl,H.pick [3,4,5]⟩
theorem Fdrw (a:aP)(b:Str)(v1:Value)(d:Nat)(r:Bool)(c:Fdr a b=some r)(O S:List Nat)(w:World)(H:Hd O w w S [.blk d [sb b] 9,f1 fM v1 a.When.Kids]):
  Cl 87 [.agg [sb a.Name,i6 a.When.Kind,sb a.When.Name,sb a.When.Other,i6 a.When.Op,i6 a.When.N,i6 a.When.Frames,v1].toArray,gZ d] w fun e g=>e= .returned (.bool r)∧Hd O w g S [.blk d [sb b] 9]:=by
 unfold Fdr at c
 refine CW 8 Tryz.func87 ?_
 refine zB fun k h=>zA<| yT rfl rfl (fQ (cs:=[sb a.Name,i6 a.When.Kind,sb a.When.Name,sb a.When.Other,i6 a.When.Op,i6 a.When.N,i6 a.When.Frames,v1]) rfl H) ?_
 rintro _ l ⟨m,rfl,H⟩
 refine zI (.bool false)<| RN h<| zB fun n i=>zA<| zG (nM rfl)<| Ld dQ H 2 0 rfl rfl<| Ld dQ H 0 0 rfl rfl ?_
 obtain ⟨f,j,c⟩:=zC c
 refine zG (zL (fO (s1:=a.Name) (s2:=b) rfl rfl) j)<| zI (.bool f)<| RN i ?_
 obtain rfl:=gI c
 refine (zX (fB (v1:= .bool f) rfl rfl ?_))
 exact ⟨rfl,H.pick [0]⟩
theorem Fctw (h:List aP)(p1c0:Str)(v1:Value)(f:Nat)(r:Int)(c:Fct h p1c0=some r)(O S:List Nat)(w:World)(H:Hd O w w S [.blk f [sb p1c0] 9,f1 gY v1 h]):
  Cl 86 [v1,.func (.func 87) #[] #[gZ f]] w fun e m=>e= .returned (i6 r)∧Hd O w m S [.blk f [sb p1c0] 9]:=by
 unfold Fct at c
 refine CW 19 Tryz.func86 ?_
 refine zB fun R n=>zA<| zI (i6 0)<| RN n<| zB fun T U=>zB fun V o=>zA<| zH v1 ?_
 obtain ⟨p,q,c⟩:=zC c
 obtain ⟨X,Y,s⟩:=SlF.len ((H.item (i:=1) rfl))
 refine zG (yJ (xJ u73 s) (congrArg (Value.int .i64) q))<| zH (i6 0)<| RN o<| zY ?_
 unfold Fd1 at c
 obtain ⟨t,l,u,c⟩:=yK c
 refine yX [4,5,8,9,10,11,12,13,14,15,16,17,18] (fun (g:Nat)=>[(8,i6 0)]) (fun g wl=>Hd O w wl S [.blk f [sb p1c0] 9,f1 gY v1 h]∧fE t g ()=some r) (fun g=>g) l (zJ rfl zK) ⟨H.pick [0,1],c⟩ ?_
 clear H c
 rintro l ρ Z ⟨H,c⟩
 obtain ⟨aa,rfl,c⟩:=yO c
 have c:=yN u c
 refine zB fun ab v=>zA ?_
 obtain ⟨ac,x,c⟩:=zC c
 refine zG (zL (xI (a:=0) (b:=p) rfl rfl) x)<| RN v<| zB fun ad y=>?_
 obtain ⟨z,c⟩:=eX c
 refine kF z ?_
 refine zQ (zF (y _ _ ?_))
 refine zB fun ae af=>?_
 refine zY ?_
 refine zB fun ag A=>zA<| zH (i6 0)<| zI (i6 0)<| RN A<| zB fun ah B=>zA<| zH (.func (.func 87) #[] #[gZ f])<| zH v1<| zH (i6 0) ?_
 obtain ⟨d,j,c⟩:=zD c
 obtain ⟨C,D,ai,aj,E,F,G,I,J⟩:=xU (H.item (i:=1) rfl) j
 obtain ⟨k,rfl,K⟩:=aI F
 have H:=H.fzs [.at C (D+(0:Int).toNat * 8) _,.sl fM k d.When.Kids] ⟨⟨G,I,J⟩,K,trivial⟩
 refine zG (yU u73 aU E rfl (zN j).1 (zN j).2.1 rfl rfl)<| zG (yJ (yL (cs:=[sb d.Name,i6 d.When.Kind,sb d.When.Name,sb d.When.Other,i6 d.When.Op,i6 d.When.N,i6 d.When.Frames,k]) qU rfl aU rfl (H.item (i:=2) rfl).2.2) rfl) ?_
 obtain ⟨ak,L,c⟩:=zD c
 refine zT rfl rfl (aB en87 rfl rfl) (Fdrw d p1c0 k f _ L _ _ _ (H.enter [0] [3])) ?_
 rintro _ al ⟨rfl,M⟩
 have H:Hd _ _ _ _ [_,_,_,_]:=H.back [0] [3] rfl M
 refine ⟨_,rfl,?_⟩
 refine RN B ?_
 obtain ⟨P,c⟩:=eX c
 refine kF P ?_
 refine zB fun am Q=>zA<| zH (i6 0)<| zI (i6 0)<| RN Q ?_
 obtain rfl:=gI c
 refine (zX (yE (zS (zS (yE (zS (fB (v1:=i6 0) rfl rfl ?_)))))))
 exact ⟨rfl,H.pick [3]⟩
theorem Fcsw (a:Rules)(d:Str)(v1:Value)(f:Value)(b:Value)(r:Int)(c:Fcs a d=some r)(O S:List Nat)(w:World)(H:Hd O w w S [f1 Rp.str v1 a.Phases,f1 gX f a.Moves,f1 gY b a.Rules]):
  Cl 59 [.agg [v1,f,b].toArray,sb d] w fun e h=>e= .returned (i6 r)∧Hd O w h S []:=by
 unfold Fcs at c
 refine CW 9 Tryz.func59 ?_
 refine zB fun n i=>zA<| yT rfl rfl (fQ (cs:=[v1,f,b]) rfl H) ?_
 rintro _ o ⟨p,rfl,H⟩
 refine yT rfl rfl (kX rfl rfl H) ?_
 rintro _ q ⟨j,rfl,H⟩
 refine zI (i6 0)<| RN i<| zB fun s k=>zA<| zG (aQ rfl)<| Ld mP H 3 2 rfl rfl<| zG (dC rfl) ?_
 obtain ⟨g,l,c⟩:=zD c
 refine zT rfl rfl (zO en86 rfl) (Fctw a.Rules d b j _ l _ _ _ (H.enter [4] [2])) ?_
 rintro _ t ⟨rfl,m⟩
 have H:Hd _ _ _ _ [_,_,_,_,_]:=H.back [4] [2] rfl m
 refine ⟨_,rfl,?_⟩
 refine zI (i6 g)<| RN k ?_
 obtain rfl:=gI c
 refine (zX (fB (v1:=i6 g) rfl rfl ?_))
 exact ⟨rfl,H.pick []⟩
theorem Fcew (c:Cond)(j:Bool)(k:List (Str×Bool))(f:Value)(g:Nat)(h:Nat)(i:Nat)(r:Bool×(List (Str×Bool)))(d:Fce c j k=some r)(O S:List Nat)(w:World)(H:Hd O w w S [.blk g [.bool j] 4,.mp i (bK Ky.str (fun v=>Value.bool v) k),.blk h [.map (some i)] 156,f1 fM f c.Kids]):
  Cl 118 [.agg [i6 c.Kind,sb c.Name,sb c.Other,i6 c.Op,i6 c.N,i6 c.Frames,f].toArray,gZ g,gZ h] w fun e n=> ∃l,e= .returned (.tuple #[])∧Hd O w n S [.blk g [.bool r.1] 4,.mp l (bK Ky.str (fun v=>Value.bool v) r.2),.blk h [.map (some l)] 156]:=by
 unfold Fce at d
 refine CW 16 Tryz.func118 ?_
 refine zB fun y o=>zA<| yT rfl rfl (fQ (cs:=[i6 c.Kind,sb c.Name,sb c.Other,i6 c.Op,i6 c.N,i6 c.Frames,f]) rfl H) ?_
 rintro _ z ⟨A,rfl,H⟩
 refine RN o<| zB fun B p=>zA<| Ld qH H 0 0 rfl rfl ?_
 obtain ⟨q,d⟩:=yM d
 refine dL false q ?_
 refine zG (jB rfl)<| Ld fJ H 4 0 rfl rfl ?_
 obtain ⟨m,s,d⟩:=zC d
 refine zG (zL (fV (a:=c.Kind) (b:=6) rfl rfl) s)<| zG (yB (v:= .bool m) rfl rfl)<| xB rfl (xQ H 0 rfl sz4 rfl (v:= .bool m) rfl rfl rfl) ?_
 rintro C H
 refine RN p<| zB fun D t=>zA<| zG (jB rfl)<| Ld fJ H 4 0 rfl rfl ?_
 obtain ⟨E,u,d⟩:=zC d
 refine zG (zL (fV (a:=c.Kind) (b:=7) rfl rfl) u)<| RN t ?_
 obtain ⟨x,d⟩:=yM d
 refine xM x ?_
 obtain rfl:=gI d
 refine (zQ (nC rfl ?_))
 exact ⟨i,rfl,H.pick [0,1,2]⟩
theorem Fcpw (c:Cond)(p1c0:Bool)(p1c1:List (Str×Bool))(f:Value)(h:Nat)(j:Nat)(k:Nat)(r:Bool×(List (Str×Bool)))(d:Fcp c p1c0 p1c1=some r)(O S:List Nat)(w:World)(H:Hd O w w S [.blk h [.bool p1c0] 4,.mp k (bK Ky.str (fun v=>Value.bool v) p1c1),.blk j [.map (some k)] 156,f1 fM f c.Kids]):
  Cl 117 [.agg [i6 c.Kind,sb c.Name,sb c.Other,i6 c.Op,i6 c.N,i6 c.Frames,f].toArray,.func (.func 118) #[] #[gZ h,gZ j]] w fun e o=> ∃m,e= .returned (.tuple #[])∧Hd O w o S [.blk h [.bool r.1] 4,.mp m (bK Ky.str (fun v=>Value.bool v) r.2),.blk j [.map (some m)] 156]:=by
 unfold Fcp at d
 refine CW 20 Tryz.func117 ?_
 refine zB fun I p=>zA<| yT rfl rfl (fQ (cs:=[i6 c.Kind,sb c.Name,sb c.Other,i6 c.Op,i6 c.N,i6 c.Frames,f]) rfl H) ?_
 rintro _ J ⟨K,rfl,H⟩
 refine RN p<| zB fun L q=>zA<| zH (.func (.func 118) #[] #[gZ h,gZ j])<| zG (yJ (yL (cs:=[i6 c.Kind,sb c.Name,sb c.Other,i6 c.Op,i6 c.N,i6 c.Frames,f]) dX rfl dP rfl (Hbc H 4 rfl)) rfl) ?_
 obtain ⟨⟨s,t⟩,u,d⟩:=zD d
 refine zT rfl rfl (aB en118 rfl rfl) (Fcew c p1c0 p1c1 f h j k _ u _ _ _ (H.enter [0,1,2] [3])) ?_
 rintro _ M ⟨l,rfl,x⟩
 have H:Hd _ _ _ _ [_,_,_,_,_]:=H.back [0,1,2] [3] rfl x
 refine ⟨_,rfl,?_⟩
 refine RN q<| zB fun P y=>zA<| zG (nK rfl)<| Ld qP H 1 6 rfl rfl ?_
 obtain ⟨z,A,d⟩:=zC d
 obtain ⟨Q,R,B⟩:=SlF.len ((H.item (i:=0) rfl))
 refine zG (yJ (xJ rP B) (congrArg (Value.int .i64) A))<| zH (i6 0)<| RN y<| zY ?_
 unfold Fd6 at d
 obtain ⟨C,n,D,d⟩:=yK d
 refine yX [5,12,13,14,15,16,17,18,19] (fun (g:Nat)=>[(12,i6 0)]) (fun g wl=>Hd O w wl S [f1 fM f c.Kids,.blk h [.bool s] 4,.mp l (bK Ky.str (fun v=>Value.bool v) t),.blk j [.map (some l)] 156]∧fE C g ()=some r) (fun g=>g) n (zJ rfl zK) ⟨H.pick [0,2,3,4],d⟩ ?_
 clear H d
 rintro n ρ T ⟨H,d⟩
 obtain ⟨U,rfl,d⟩:=yO d
 have d:=yN D d
 refine zB fun V E=>zA ?_
 obtain ⟨X,F,d⟩:=zC d
 refine zG (zL (xI (a:=0) (b:=z) rfl rfl) F)<| RN E<| zB fun Y Z=>?_
 obtain ⟨G,d⟩:=yM d
 refine xM G ?_
 obtain rfl:=gI d
 refine (xG (yD (yD (yS (nC rfl ?_)))))
 exact ⟨l,rfl,H.pick [1,2,3]⟩
theorem Fdcw (f:Rules)(h:Int)(n:Value)(o:Value)(q:Value)(r:Rules)(c:Fdc f h=some r)(O S:List Nat)(w:World)(H:Hd O w w S [f1 Rp.str n f.Phases,f1 gX o f.Moves,f1 gY q f.Rules]):
  Cl 89 [.agg [n,o,q].toArray,i6 h] w fun e t=> ∃R T u9,e= .returned (.agg [R,T,u9].toArray)∧Hd O w t S [f1 Rp.str R r.Phases,f1 gX T r.Moves,f1 gY u9 r.Rules]:=by
 unfold Fdc at c
 refine CW 70 Tryz.func89 ?_
 refine zB fun dc al=>zA<| yT rfl rfl (fQ (cs:=[n,o,q]) rfl H) ?_
 rintro _ dd ⟨U,rfl,H⟩
 refine yT rfl rfl (xE aAj H) ?_
 rintro _ de ⟨u,rfl,H⟩
 refine RN al<| zB fun df am=>zA<| yT rfl rfl (Lx_mkmap H) ?_
 rintro _ dg ⟨A,rfl,H⟩
 refine zG (aQ rfl)<| Ld mP H 3 2 rfl rfl<| zH (i6 h) ?_
 obtain ⟨V,B,c⟩:=zD c
 obtain ⟨an,ao,dh,di,ap,aq,ar,au,av⟩:=xU (H.item (i:=2) rfl) B
 obtain ⟨aw,rfl,ax⟩:=aI aq
 have H:=H.fzs [.at an (ao+h.toNat * 8) _,.sl fM aw V.When.Kids] ⟨⟨ar,au,av⟩,ax,trivial⟩
 refine zG (yU u73 aU ap rfl (zN B).1 (zN B).2.1 rfl rfl)<| zG (nM rfl)<| zG (yZ dQ rfl (Cells.get (H.item (i:=6) rfl).2.2 (i:=0) rfl)) ?_
 obtain ⟨ay,az,c⟩:=zD c
 refine xB rfl (Lx_insert (K:=Ky.str) (G:=(fun v=>Value.bool v)) (m:=([]:List (Str×Bool))) (k:=V.Name) (v:=true) H 5 rfl u156 u9 rfl rfl rfl az) ?_
 rintro dj H
 refine zH (.map (some A))<| yT rfl rfl (xE zero156 H) ?_
 rintro _ dk ⟨y,rfl,H⟩
 refine xB rfl (xQ H 8 rfl sz156 rfl (v:= .map (some A)) rfl rfl rfl) ?_
 rintro dl H
 refine RN am<| zB fun dm a0=>zA<| yT rfl rfl (xE zero4 H) ?_
 rintro _ dn ⟨C,rfl,H⟩
 refine xB rfl (xQ H 9 rfl sz4 rfl (v:= .bool false) rfl rfl rfl) ?_
 rintro dp H
 refine RN a0 ?_
 obtain ⟨z,c,a1⟩:=zD c
 refine yI [7,19,20,21,22,23,24,25,26,27,28,29,30,31,32,33,34,35,36,37,38,39,40] (fun (g:Nat)=>[]) (fun g wl=>Hd O w wl S [f1 Rp.str n f.Phases,f1 gX o f.Moves,f1 gY q f.Rules,.blk U [n,o,q] 75,.blk u [.slice none 0 0,.slice none 0 0,.slice none 0 0] 75,.blk y [.map (some g)] 156,.mp g (bK Ky.str (fun v=>Value.bool v) z.1),.blk C [.bool z.2] 4]) ?_ ?_
 ·skip
  refine zB fun dq a2=>zA<| zH (i6 h)<| zI (i6 h)<| RN a2<| zY ?_
  unfold Fd7 at c
  obtain ⟨a3,X,a4,c⟩:=yK c
  refine yX [7,20,21,22,23,24,25,26,27,28,29,30,31,32,33,34,35,36,37,38,39,40] (fun (g:Nat×Int×(List (Str×Bool))×Bool×Nat)=>[(7,i6 g.2.1)]) (fun g wl=>Hd O w wl S [f1 Rp.str n f.Phases,f1 gX o f.Moves,f1 gY q f.Rules,.blk U [n,o,q] 75,.blk u [.slice none 0 0,.slice none 0 0,.slice none 0 0] 75,.blk y [.map (some g.2.2.2.2)] 156,.mp g.2.2.2.2 (bK Ky.str (fun v=>Value.bool v) g.2.2.1),.blk C [.bool g.2.2.2.1] 4]∧fE a3 g.1 (g.2.1,g.2.2.1,g.2.2.2.1)=some z) (fun g=>g.1) (X,h,ay,false,A) (zJ rfl zK) ⟨H.pick [0,1,2,3,4,8,5,9],c⟩ ?_
  clear H c
  rintro ⟨X,j,Y,a5,Z⟩ ρ dr ⟨H,c⟩
  obtain ⟨a6,rfl,c⟩:=yO c
  have c:=yN a4 c
  refine zB fun ds a7=>?_
  refine zB fun dt a8=>zA<| zH (i6 j) ?_
  obtain ⟨a9,ba,c⟩:=zC c
  refine zG (zL (bI (a:=j) (b:=0) rfl rfl) ba)<| RN a8<| yC (b:=a9) rfl (fun D=>?_) (fun D=>?_)
  ·have c:=zU D c
   refine zQ (zF (a7 _ _ ?_))
   refine zB fun du bb=>?_
   refine zY ?_
   refine zB fun dv bc=>?_
   refine zB fun dw bd=>?_
   have be:=H
   have H:=H.rebase
   have dx:=H
   refine WP_mix0 H [0,1,2,3,4,5,6,7,8] (kz [1,0,1,0,0,0,1,1,0]) mixed ?_
   refine XR one156 H 5 0 rfl rfl<| XP (fun _ _=>aQ rfl)<| XR mP H 3 2 rfl rfl<| XM (i6 j) ?_
   obtain ⟨aa,E,c⟩:=zD c
   obtain ⟨bf,bg,dy,dz,bh,bi,bj,bk,bl⟩:=xU (H.item (i:=2) rfl) E
   obtain ⟨bm,rfl,bn⟩:=aI bi
   have H:=H.fzs [.at bf (bg+j.toNat * 8) _,.sl fM bm aa.When.Kids] ⟨⟨bj,bk,bl⟩,bn,trivial⟩
   refine XP (fun _ _=>yU u73 aU bh rfl (zN E).1 (zN E).2.1 rfl rfl)<| XP (fun _ _=>nM rfl)<| MxM.xN oS rfl rfl rfl (fun t F=>yZ dQ rfl (Cells.get ((H.sees F).item (i:=8) rfl).2.2 (i:=0) rfl)) ?_
   obtain ⟨bo,bp,c⟩:=zC c
   refine MxM.xN oS rfl rfl rfl (fun t F=>yJ (wC (K:=Ky.str) (G:=(fun v=>Value.bool v)) (m:=Y) (k:=aa.Name) (zv:=false) ((H.sees F).item (i:=6) rfl) u156 u9 rfl rfl (Tryz.zeroValue4 t)) (congrArg (fun v=>Value.bool v) bp)) ?_
   obtain ⟨d0,bq,c⟩:=zC c
   refine XP (fun _ _=>zL (fU (p:=bo) rfl) bq)<| MxM.XL_nil fun d1 hS=>?_
   have H:=H.sees hS
   have H:=be.rejoin H
   refine (zF (bd _ _ ?_))
   obtain ⟨br,c⟩:=yM c
   refine xM br ?_
   refine zQ (zF (bc _ _ ?_))
   refine zA ?_
   refine zG (aQ rfl)<| Ld mP H 3 2 rfl rfl<| zH (i6 j) ?_
   obtain ⟨l,I,c⟩:=zD c
   obtain ⟨bt,bu,d2,d3,bv,bw,bx,bz,b0⟩:=xU (H.item (i:=2) rfl) I
   obtain ⟨J,rfl,b1⟩:=aI bw
   have H:=H.fzs [.at bt (bu+j.toNat * 8) _,.sl fM J l.When.Kids] ⟨⟨bx,bz,b0⟩,b1,trivial⟩
   refine zG (yU u73 aU bv rfl (zN I).1 (zN I).2.1 rfl rfl)<| zG (qA rfl)<| zG (yJ (yL (cs:=[i6 l.When.Kind,sb l.When.Name,sb l.When.Other,i6 l.When.Op,i6 l.When.N,i6 l.When.Frames,J]) dX rfl dP rfl (Cells.drop (H.item (i:=10) rfl).2.2 1 7)) rfl)<| zG (dC rfl) ?_
   obtain ⟨⟨b2,b3⟩,b4,c⟩:=zD c
   refine zT rfl rfl (zO en117 rfl) (Fcpw l.When a5 Y J C y Z _ b4 _ _ _ (H.enter [7,6,5] [11])) ?_
   rintro _ d4 ⟨b5,rfl,b6⟩
   have H:Hd _ _ _ _ [_,_,_,_,_,_,_,_,_,_,_,_]:=H.back [7,6,5] [11] rfl b6
   refine ⟨_,rfl,?_⟩
   refine (zZ (yV (zF (bb _ _ ?_))))
   have H:Hd _ _ _ _ [_,_,_,_,_,_,_,_]:=H.pick [0,1,2,3,4,9,10,11]
   refine zA ?_
   refine zH (i6 j) ?_
   obtain ⟨ab,b7,c⟩:=zC c
   refine zG (dH (a:=j) (b:=1) rfl rfl b7)<| zI (i6 ab) ?_
   exact (zZ (zF (meet ⟨(a6,ab,b3,b2,b5),(zJ rfl zK),⟨H.pick [0,1,2,3,4,7,6,5],c⟩,Nat.lt_succ_self _⟩)))
  have c:=zV D c
  obtain rfl:=gI c
  exact (xG (yD (yD (yS (zF (meet ⟨Z,zK,H.pick [0,1,2,3,4,5,6,7]⟩))))))
 rintro ac ρ d5 H
 have c:=a1
 obtain ⟨ad,d6⟩:=z
 refine zB fun d7 b8=>zA<| yT rfl rfl (xE aAj H) ?_
 rintro _ d8 ⟨ae,rfl,H⟩
 refine RN b8<| zB fun d9 b9=>zB fun ea ca=>zA<| Ld qH H 7 0 rfl rfl<| RN ca ?_
 obtain ⟨cb,c⟩:=yM c
 refine xM cb ?_
 refine zQ (zF (b9 _ _ ?_))
 obtain ⟨af,c,cc⟩:=zD c
 refine yI [10,48,49,50,51,52,53,54,55,56,57,58,59,60,61,62,63,64,65,66,67,68] (fun (g:Value)=>[]) (fun g wl=>Hd O w wl S [.blk u [.slice none 0 0,.slice none 0 0,.slice none 0 0] 75,.blk ae [.slice none 0 0,.slice none 0 0,g] 75,.own gY g 132 af]) ?_ ?_
 ·skip
  refine zB fun eb cd=>zA<| zG (aQ rfl)<| Ld mP H 3 2 rfl rfl<| zH (i6 h) ?_
  obtain ⟨ec,ce,c⟩:=zC c
  refine zG (xP (a:=h) (b:=1) rfl rfl ce) ?_
  obtain ⟨ag,cf,c⟩:=zD c
  refine wW rfl rfl (jT u73 aU (H.item (i:=2) rfl) rfl rfl cf) ?_
  rintro ah cg
  have H:=H.fz (.sl gY ah ag) cg
  obtain ⟨ch,ci,c⟩:=zC c
  obtain ⟨ed,ee,cj⟩:=SlF.len ((H.item (i:=9) rfl))
  refine zG (yJ (xJ u73 cj) (congrArg (Value.int .i64) ci))<| zH (i6 0)<| RN cd<| zY ?_
  have H:=dE H gY 132
  unfold Fd2 at c
  obtain ⟨ck,ai,cl,c⟩:=yK c
  refine yX [10,54,55,56,57,58,59,60,61,62,63,64,65,66,67,68] (fun (g:Nat×Int×(List aP)×Value)=>[(54,i6 g.2.1)]) (fun g wl=>Hd O w wl S [.blk u [.slice none 0 0,.slice none 0 0,.slice none 0 0] 75,.blk y [.map (some ac)] 156,.mp ac (bK Ky.str (fun v=>Value.bool v) ad),.blk ae [.slice none 0 0,.slice none 0 0,g.2.2.2] 75,.own gY g.2.2.2 132 g.2.2.1,f1 gY ah ag]∧fE ck g.1 (g.2.1,g.2.2.1)=some af) (fun g=>g.1) (ai,0,[],.slice none 0 0) (zJ rfl zK) ⟨H.pick [4,5,6,8,10,9],c⟩ ?_
  clear H c
  rintro ⟨ai,L,ef,cm⟩ ρ eg ⟨H,c⟩
  obtain ⟨cn,rfl,c⟩:=yO c
  have c:=yN cl c
  refine zB fun eh co=>zA ?_
  obtain ⟨cp,cq,c⟩:=zC c
  refine zG (zL (xI (a:=L) (b:=ch) rfl rfl) cq)<| RN co<| zB fun ei cr=>yC (b:=cp) rfl (fun M=>?_) (fun M=>?_)
  ·have c:=zU M c
   refine zQ (zF (cr _ _ ?_))
   refine zB fun ej ct=>?_
   refine zY ?_
   refine zB fun ek cu=>zA ?_
   obtain ⟨d,P,c⟩:=zD c
   obtain ⟨cv,cw,el,em,cx,cy,cz,c0,c1⟩:=xU (H.item (i:=5) rfl) P
   obtain ⟨s,rfl,c2⟩:=aI cy
   have H:=H.fzs [.at cv (cw+L.toNat * 8) _,.sl fM s d.When.Kids] ⟨⟨cz,c0,c1⟩,c2,trivial⟩
   refine zG (yU u73 aU cx rfl (zN P).1 (zN P).2.1 rfl rfl)<| zG (yJ (yL (cs:=[sb d.Name,i6 d.When.Kind,sb d.When.Name,sb d.When.Other,i6 d.When.Op,i6 d.When.N,i6 d.When.Frames,s]) qU rfl aU rfl (H.item (i:=6) rfl).2.2) rfl)<| yT rfl rfl (xE rY H) ?_
   rintro _ en ⟨eo,rfl,H⟩
   refine xB rfl (yQ (vs:=[sb d.Name,i6 d.When.Kind,sb d.When.Name,sb d.When.Other,i6 d.When.Op,i6 d.When.N,i6 d.When.Frames,s]) H 8 rfl aU rfl rfl rfl ⟨rfl,rfl,rfl,rfl,rfl,rfl,rfl,(dW (H.item (i:=7) rfl)),trivial⟩ rfl) ?_
   rintro c3 H
   refine RN cu<| zB fun ep c4=>zA<| Ld one156 H 1 0 rfl rfl<| zG (nM rfl)<| Ld dQ H 8 0 rfl rfl ?_
   obtain ⟨eq,c5,c⟩:=zC c
   refine zG (yJ (wC (K:=Ky.str) (G:=(fun v=>Value.bool v)) (m:=ad) (k:=d.Name) (zv:=false) (H.item (i:=2) rfl) u156 u9 rfl rfl (Tryz.zeroValue4 c3)) (congrArg (fun v=>Value.bool v) c5))<| RN c4 ?_
   obtain ⟨c6,c⟩:=eX c
   refine kF c6 ?_
   refine zA ?_
   refine zG (aQ rfl)<| Ld mP H 3 2 rfl rfl<| zG (yJ (yL (cs:=[sb d.Name,i6 d.When.Kind,sb d.When.Name,sb d.When.Other,i6 d.When.Op,i6 d.When.N,i6 d.When.Frames,s]) qU rfl aU rfl (Hbc H 8 rfl)) rfl) ?_
   obtain ⟨er,c7,c⟩:=zC c
   subst c7
   refine yT rfl rfl (jG (r:=gY) (xl:=[d]) (cs:=[sb d.Name,i6 d.When.Kind,sb d.When.Name,sb d.When.Other,i6 d.When.Op,i6 d.When.N,i6 d.When.Frames,s]) u73 aCa (by decide) (by decide) rfl (fP (vs:=[.agg [sb d.Name,i6 d.When.Kind,sb d.When.Name,sb d.When.Other,i6 d.When.Op,i6 d.When.N,i6 d.When.Frames,s].toArray]) (by decide) rfl rfl ⟨rfl,trivial⟩ rfl) H ⟨[sb d.Name,i6 d.When.Kind,sb d.When.Name,sb d.When.Other,i6 d.When.Op,i6 d.When.N,i6 d.When.Frames,s],[],rfl,(aBc (x:=d) (H.item (i:=7) rfl)),rfl⟩) ?_
   rintro es et H
   obtain ⟨c8,c9,c⟩:=zD c
   refine yT rfl rfl (kU H (i:=4) rfl u73 aCa rfl rfl (Sr.of_own (H.item (i:=9) rfl)) c9) ?_
   rintro aj eu H
   refine zG (aQ rfl)<| xB rfl (xQ H 3 rfl sz73 rfl (v:=aj) rfl (kH (H.item (i:=4) rfl)) rfl) ?_
   rintro ew H
   refine (zZ (yV (zF (ct _ _ ?_))))
   refine zA ?_
   obtain ⟨ak,da,c⟩:=zC c
   refine zG (xP (a:=L) (b:=1) rfl rfl da)<| zH (i6 ak) ?_
   exact (zZ (zF (meet ⟨(cn,ak,c8,aj),(zJ rfl zK),⟨H.pick [0,1,2,3,4,5],c⟩,Nat.lt_succ_self _⟩)))
  have c:=zV M c
  obtain rfl:=gI c
  exact (xG (yD (yD (yS (zF (meet ⟨cm,zK,H.pick [0,3,4]⟩))))))
 rintro Q ρ ex H
 have c:=cc
 refine zB fun ey db=>zA<| zG (yJ (yL (cs:=[.slice none 0 0,.slice none 0 0,Q]) jL rfl nP rfl (Hbc H 1 rfl)) rfl)<| xB rfl (yQ (vs:=[.slice none 0 0,.slice none 0 0,Q]) H 0 rfl nP rfl rfl rfl ⟨rfl,rfl,(kH (H.item (i:=2) rfl)),trivial⟩ rfl) ?_
 rintro ez H
 refine RN db ?_
 have H:=H.fz (.sl Rp.str (.slice none 0 0) []) SlF.nil
 have H:=H.fz (.sl gX (.slice none 0 0) []) SlF.nil
 have H:=H.freeze (i:=2) rfl
 obtain rfl:=gI c
 refine (zX (nT rfl rfl (yP jL nP rfl (Hbc H 0 rfl)) ?_))
 exact ⟨.slice none 0 0,.slice none 0 0,Q,rfl,H.pick [3,4,2]⟩
theorem Fclw (c:Cond)(g:List Str)(v1:Value)(f:Nat)(h:Value)(r:Int×(List Str))(d:Fcl c g=some r)(O S:List Nat)(w:World)(H:Hd O w w S [.own Rp.str h 9 g,.blk f [h] 36,f1 fM v1 c.Kids]):
  Cl 169 [.agg [i6 c.Kind,sb c.Name,sb c.Other,i6 c.Op,i6 c.N,i6 c.Frames,v1].toArray,gZ f] w fun e l=> ∃j,e= .returned (i6 r.1)∧Hd O w l S [.own Rp.str j 9 r.2,.blk f [j] 36]:=by
 unfold Fcl at d
 refine CW 23 Tryz.func169 ?_
 refine zB fun B m=>zA<| yT rfl rfl (fQ (cs:=[i6 c.Kind,sb c.Name,sb c.Other,i6 c.Op,i6 c.N,i6 c.Frames,v1]) rfl H) ?_
 rintro _ C ⟨D,rfl,H⟩
 refine zI (i6 0)<| RN m<| zB fun E n=>zB fun F o=>zA<| zG (jB rfl)<| Ld fJ H 3 0 rfl rfl<| RN o<| zY<| zB fun G p=>zB fun I q=>zA ?_
 obtain ⟨s,t,d⟩:=zC d
 refine zG (zL (fV (a:=c.Kind) (b:=3) rfl rfl) t)<| zI (.bool s)<| RN q ?_
 obtain ⟨u,d⟩:=eX d
 refine kF u ?_
 refine zQ (zF (p _ _ ?_))
 obtain ⟨x,d⟩:=eX d
 refine kF x ?_
 refine zA ?_
 refine Ld aEj H 1 0 rfl rfl<| zG (aEn rfl)<| Ld dQ H 3 1 rfl rfl ?_
 obtain ⟨J,y,d⟩:=zC d
 subst y
 refine yT rfl rfl (jG (r:=Rp.str) (xl:=[c.Name]) (cs:=[sb c.Name]) u36 el9 (by decide) (by decide) rfl (fP (vs:=[sb c.Name]) (by decide) rfl rfl ⟨rfl,trivial⟩ rfl) H ⟨[sb c.Name],[],rfl,rfl,rfl⟩) ?_
 rintro K L H
 obtain ⟨M,z,d⟩:=zD d
 refine yT rfl rfl (kU H (i:=0) rfl u36 el9 rfl rfl (Sr.of_own (H.item (i:=4) rfl)) z) ?_
 rintro k P H
 refine xB rfl (xQ H 1 rfl sz36 rfl (v:=k) rfl (kH (H.item (i:=0) rfl)) rfl) ?_
 rintro Q H
 refine (zZ (yV (zF (n _ _ ?_))))
 refine zB fun R A=>zA<| zI (i6 0)<| RN A ?_
 obtain rfl:=gI d
 refine (zX (fB (v1:=i6 0) rfl rfl ?_))
 exact ⟨k,rfl,H.pick [0,1]⟩
theorem Fdvw (d:Cond)(p1c0:List Str)(v1:Value)(f:Nat)(j:Value)(r:Int×(List Str))(c:Fdv d p1c0=some r)(O S:List Nat)(w:World)(H:Hd O w w S [.own Rp.str j 9 p1c0,.blk f [j] 36,f1 fM v1 d.Kids]):
  Cl 110 [.agg [i6 d.Kind,sb d.Name,sb d.Other,i6 d.Op,i6 d.N,i6 d.Frames,v1].toArray,.func (.func 169) #[] #[gZ f]] w fun e o=> ∃l,e= .returned (i6 r.1)∧Hd O w o S [.own Rp.str l 9 r.2,.blk f [l] 36]:=by
 unfold Fdv at c
 refine CW 29 Tryz.func110 ?_
 refine zB fun M p=>zA<| yT rfl rfl (fQ (cs:=[i6 d.Kind,sb d.Name,sb d.Other,i6 d.Op,i6 d.N,i6 d.Frames,v1]) rfl H) ?_
 rintro _ P ⟨Q,rfl,H⟩
 refine zI (i6 0)<| RN p<| zB fun R q=>zB fun T s=>zA<| zH (.func (.func 169) #[] #[gZ f])<| zG (yJ (yL (cs:=[i6 d.Kind,sb d.Name,sb d.Other,i6 d.Op,i6 d.N,i6 d.Frames,v1]) dX rfl dP rfl (Hbc H 3 rfl)) rfl) ?_
 obtain ⟨⟨k,m⟩,t,c⟩:=zD c
 refine zT rfl rfl (aB en169 rfl rfl) (Fclw d p1c0 v1 f j _ t _ _ _ (H.enter [0,1] [2])) ?_
 rintro _ U ⟨h,rfl,u⟩
 have H:Hd _ _ _ _ [_,_,_,_]:=H.back [0,1] [2] rfl u
 refine ⟨_,rfl,?_⟩
 refine zI (i6 k)<| RN s<| zB fun V v=>zA<| zH (i6 k) ?_
 obtain ⟨X,x,c⟩:=zC c
 refine zG (zL (eQ (a:=k) (b:=0) rfl rfl) x)<| RN v ?_
 obtain ⟨y,c⟩:=yM c
 refine xM y ?_
 refine zQ (zF (q _ _ ?_))
 obtain ⟨z,A,c⟩:=xH c
 refine yI [4,7,8,15,16,17,18,19,20,21,22,23,24,25,26,27,28] (fun (g:Unit)=>[]) (fun g wl=>Hd O w wl S [.own Rp.str h 9 m,.blk f [h] 36]∧z ()=some r) ?_ ?_
 ·skip
  refine zB fun Y B=>zA<| zG (nK rfl)<| Ld qP H 1 6 rfl rfl ?_
  obtain ⟨C,D,c⟩:=zC c
  obtain ⟨Z,aa,E⟩:=SlF.len ((H.item (i:=0) rfl))
  refine zG (yJ (xJ rP E) (congrArg (Value.int .i64) D))<| zH (i6 0)<| RN B<| zY ?_
  unfold Feh at c
  obtain ⟨F,n,G,c⟩:=yK c
  refine yX [4,7,8,18,19,20,21,22,23,24,25,26,27,28] (fun (g:Nat)=>[(18,i6 0)]) (fun g wl=>Hd O w wl S [f1 fM v1 d.Kids,.own Rp.str h 9 m,.blk f [h] 36]∧fE F g ()=some r) (fun g=>g) n (zJ rfl zK) ⟨H.pick [0,2,3],c⟩ ?_
  clear H c
  rintro n ρ ab ⟨H,c⟩
  obtain ⟨ac,rfl,c⟩:=yO c
  have c:=yN G c
  refine zB fun ad I=>zA ?_
  obtain ⟨ae,J,c⟩:=zC c
  refine zG (zL (xI (a:=0) (b:=C) rfl rfl) J)<| RN I<| zB fun af ag=>?_
  obtain ⟨K,c⟩:=yM c
  refine xM K ?_
  exact (xG (yD (yD (yS (zF (meet ⟨(),zK,⟨H.pick [1,2],c⟩⟩))))))
 rintro _ ρ ah ⟨H,c⟩
 have c:=xO A c
 refine zB fun ai L=>zA<| zI (i6 0)<| RN L ?_
 obtain rfl:=gI c
 refine (zX (fB (v1:=i6 0) rfl rfl ?_))
 exact ⟨h,rfl,H.pick [0,1]⟩
theorem Fcdw (a:Cond)(v1:Value)(r:(List Str))(b:Fcd a=some r)(O S:List Nat)(w:World)(H:Hd O w w S [f1 fM v1 a.Kids]):
  Cl 147 [.agg [i6 a.Kind,sb a.Name,sb a.Other,i6 a.Op,i6 a.N,i6 a.Frames,v1].toArray] w fun e d=> ∃u3,e= .returned (u3)∧Hd O w d S [.own Rp.str u3 9 r]:=by
 unfold Fcd at b
 refine CW 8 Tryz.func147 ?_
 refine zB fun m f=>zA<| yT rfl rfl (fQ (cs:=[i6 a.Kind,sb a.Name,sb a.Other,i6 a.Op,i6 a.N,i6 a.Frames,v1]) rfl H) ?_
 rintro _ n ⟨o,rfl,H⟩
 refine zI (.slice none 0 0)<| RN f<| zB fun p g=>zA<| yT rfl rfl (xE zero36 H) ?_
 rintro _ q ⟨h,rfl,H⟩
 refine RN g<| zB fun s i=>zA<| zG (yJ (yL (cs:=[i6 a.Kind,sb a.Name,sb a.Other,i6 a.Op,i6 a.N,i6 a.Frames,v1]) dX rfl dP rfl (Hbc H 1 rfl)) rfl)<| zG (dC rfl) ?_
 have H:=dE H Rp.str 9
 obtain ⟨⟨t,u⟩,j,b⟩:=zD b
 refine zT rfl rfl (zO en110 rfl) (Fdvw a [] v1 h (.slice none 0 0) _ j _ _ _ (H.enter [3,2] [0])) ?_
 rintro _ v ⟨c,rfl,k⟩
 have H:Hd _ _ _ _ [_,_,_,_]:=H.back [3,2] [0] rfl k
 refine ⟨_,rfl,?_⟩
 refine RN i<| zB fun x l=>zA<| Ld aEj H 3 0 rfl rfl<| zI c<| RN l ?_
 obtain rfl:=gI b
 refine (zX (fB (v1:=c) rfl rfl ?_))
 exact ⟨c,rfl,H.pick [2]⟩
theorem Fdtw (f:Rules)(v1:Value)(j:Value)(h:Value)(r:(List Str))(c:Fdt f=some r)(O S:List Nat)(w:World)(H:Hd O w w S [f1 Rp.str v1 f.Phases,f1 gX j f.Moves,f1 gY h f.Rules]):
  Cl 116 [.agg [v1,j,h].toArray] w fun e A=> ∃s,e= .returned (s)∧Hd O w A S [.own Rp.str s 9 r]:=by
 unfold Fdt at c
 refine CW 38 Tryz.func116 ?_
 refine zB fun K8 B=>zA<| yT rfl rfl (fQ (cs:=[v1,j,h]) rfl H) ?_
 rintro _ a5 ⟨t,rfl,H⟩
 refine zI (.slice none 0 0)<| RN B<| zB fun a6 C=>zA<| zI (.slice none 0 0)<| RN C ?_
 obtain ⟨D,c,F⟩:=zD c
 refine yI [3,5,8,9,10,11,12,13,14,15,16,17,18,19,20] (fun (g:Unit)=>[(3,.slice none 0 0)]) (fun g wl=>Hd O w wl S [f1 Rp.str v1 f.Phases,f1 gX j f.Moves,f1 gY h f.Rules,.blk t [v1,j,h] 75]) ?_ ?_
 ·skip
  refine zB fun a7 G=>zA<| zG (aCo rfl)<| Ld one72 H 3 1 rfl rfl ?_
  obtain ⟨I,J,c⟩:=zC c
  obtain ⟨a8,a9,K⟩:=SlF.len ((H.item (i:=1) rfl))
  refine zG (yJ (xJ u72 K) (congrArg (Value.int .i64) J))<| zH (i6 0)<| RN G<| zY ?_
  unfold Fdw at c
  obtain ⟨L,u,M,c⟩:=yK c
  refine yX [3,5,11,12,13,14,15,16,17,18,19,20] (fun (g:Nat)=>[(3,.slice none 0 0),(11,i6 0)]) (fun g wl=>Hd O w wl S [f1 Rp.str v1 f.Phases,f1 gX j f.Moves,f1 gY h f.Rules,.blk t [v1,j,h] 75]∧fE L g ()=some D) (fun g=>g) u (zJ rfl (zJ rfl zK)) ⟨H.pick [0,1,2,3],c⟩ ?_
  clear H c
  rintro u ρ ba ⟨H,c⟩
  obtain ⟨bb,rfl,c⟩:=yO c
  have c:=yN M c
  refine zB fun bc P=>zA ?_
  obtain ⟨bd,Q,c⟩:=zC c
  refine zG (zL (xI (a:=0) (b:=I) rfl rfl) Q)<| RN P<| zB fun be bf=>?_
  obtain ⟨R,c⟩:=yM c
  refine xM R ?_
  obtain rfl:=gI c
  exact (xG (yD (yD (yS (zF (meet ⟨(),(zJ rfl zK),H.pick [0,1,2,3]⟩))))))
 rintro _ ρ bg H
 have c:=F
 obtain ⟨m,c,T⟩:=zD c
 refine yI [3,7,21,22,23,24,25,26,27,28,29,30,31,32,33] (fun (g:Value)=>[(3,g)]) (fun g wl=>Hd O w wl S [.own Rp.str g 9 m]) ?_ ?_
 ·skip
  refine zB fun bh U=>zA<| zG (aQ rfl)<| Ld mP H 3 2 rfl rfl ?_
  obtain ⟨V,X,c⟩:=zC c
  obtain ⟨bi,bj,Y⟩:=SlF.len ((H.item (i:=2) rfl))
  refine zG (yJ (xJ u73 Y) (congrArg (Value.int .i64) X))<| zH (i6 0)<| RN U<| zY ?_
  have H:=dE H Rp.str 9
  unfold Feg at c
  obtain ⟨Z,v,aa,c⟩:=yK c
  refine yX [3,7,24,25,26,27,28,29,30,31,32,33] (fun (g:Nat×(List Str)×Int×Value)=>[(3,g.2.2.2),(24,i6 g.2.2.1)]) (fun g wl=>Hd O w wl S [.own Rp.str g.2.2.2 9 g.2.1,f1 gY h f.Rules]∧fE Z g.1 (g.2.1,g.2.2.1)=some m) (fun g=>g.1) (v,[],0,.slice none 0 0) (zJ rfl (zJ rfl zK)) ⟨H.pick [4,2],c⟩ ?_
  clear H c
  rintro ⟨v,bk,n,x⟩ ρ bl ⟨H,c⟩
  obtain ⟨ab,rfl,c⟩:=yO c
  have c:=yN aa c
  refine zB fun bm ac=>zA ?_
  obtain ⟨ad,ae,c⟩:=zC c
  refine zG (zL (xI (a:=n) (b:=V) rfl rfl) ae)<| RN ac<| zB fun bn af=>yC (b:=ad) rfl (fun o=>?_) (fun o=>?_)
  ·have c:=zU o c
   refine zQ (zF (af _ _ ?_))
   refine zB fun bo ag=>?_
   refine zY ?_
   refine zB fun bp ah=>zA ?_
   obtain ⟨d,p,c⟩:=zD c
   obtain ⟨ai,aj,bq,br,ak,al,am,an,ao⟩:=xU (H.item (i:=1) rfl) p
   obtain ⟨k,rfl,ap⟩:=aI al
   have H:=H.fzs [.at ai (aj+n.toNat * 8) _,.sl fM k d.When.Kids] ⟨⟨am,an,ao⟩,ap,trivial⟩
   refine zG (yU u73 aU ak rfl (zN p).1 (zN p).2.1 rfl rfl)<| zG (yJ (yL (cs:=[sb d.Name,i6 d.When.Kind,sb d.When.Name,sb d.When.Other,i6 d.When.Op,i6 d.When.N,i6 d.When.Frames,k]) qU rfl aU rfl (H.item (i:=2) rfl).2.2) rfl)<| yT rfl rfl (xE rY H) ?_
   rintro _ bt ⟨bu,rfl,H⟩
   refine xB rfl (yQ (vs:=[sb d.Name,i6 d.When.Kind,sb d.When.Name,sb d.When.Other,i6 d.When.Op,i6 d.When.N,i6 d.When.Frames,k]) H 4 rfl aU rfl rfl rfl ⟨rfl,rfl,rfl,rfl,rfl,rfl,rfl,(dW (H.item (i:=3) rfl)),trivial⟩ rfl) ?_
   rintro bv H
   refine RN ah<| zA<| zH x<| zG (qA rfl)<| zG (yJ (yL (cs:=[i6 d.When.Kind,sb d.When.Name,sb d.When.Other,i6 d.When.Op,i6 d.When.N,i6 d.When.Frames,k]) dX rfl dP rfl (Cells.drop (Hbc H 4 rfl) 1 7)) rfl) ?_
   obtain ⟨bw,aq,c⟩:=zD c
   refine zT rfl rfl (zO en147 rfl) (Fcdw d.When k _ aq _ _ _ (H.enter [] [3])) ?_
   rintro _ bx ⟨bz,rfl,ar⟩
   have H:=H.back1 [3] rfl ar
   refine ⟨_,rfl,?_⟩
   obtain ⟨au,av,c⟩:=zD c
   refine yT rfl rfl (kU H (i:=0) rfl u36 el9 rfl rfl (Sr.of_own (H.item (i:=5) rfl)) av) ?_
   rintro y b0 H
   refine zI y<| (zZ (yV (zF (ag _ _ ?_))))
   refine zA ?_
   obtain ⟨z,aw,c⟩:=zC c
   refine zG (xP (a:=n) (b:=1) rfl rfl aw)<| zH (i6 z) ?_
   exact (zZ (zF (meet ⟨(ab,au,z,y),(zJ rfl (zJ rfl zK)),⟨H.pick [0,1],c⟩,Nat.lt_succ_self _⟩)))
  have c:=zV o c
  obtain rfl:=gI c
  exact (xG (yD (yD (yS (zF (meet ⟨x,(zJ rfl zK),H.pick [0]⟩))))))
 rintro l ρ b1 H
 have c:=T
 refine zB fun b2 ax=>zA<| zH l ?_
 obtain ⟨ay,az,c⟩:=zD c
 refine zT rfl rfl (zO en148 rfl) (E.Fdsw m l _ az _ _ _ (H.enter [0] [])) ?_
 rintro _ b3 ⟨rfl,a0⟩
 have H:Hd _ _ _ _ [_]:=H.back [0] [] rfl a0
 refine ⟨_,rfl,?_⟩
 refine RN ax<| zB fun b4 a1=>zA<| zH l ?_
 obtain ⟨b5,a2,c⟩:=zD c
 refine zT rfl rfl (zO en150 rfl) (E.Fczw ay l _ a2 _ _ _ (H.enter [0] [])) ?_
 rintro _ b6 ⟨q,rfl,a3⟩
 have H:Hd _ _ _ _ [_]:=H.back [0] [] rfl a3
 refine ⟨_,rfl,?_⟩
 refine zI q<| RN a1 ?_
 obtain rfl:=gI c
 refine (zX (fB (v1:=q) rfl rfl ?_))
 exact ⟨q,rfl,H.pick [0]⟩
end Go.Proofs.YtgmikmoapfmedaaGreatDoor.L
