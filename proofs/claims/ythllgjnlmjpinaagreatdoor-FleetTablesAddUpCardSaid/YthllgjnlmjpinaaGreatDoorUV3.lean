/- Walks: what each function computes, for every argument; no condition but those that stand in the statements. -/
import Derived.Test.YthllgjnlmjpinaaGreatDoorUV0
import Derived.Test.YthllgjnlmjpinaaGreatDoorUV2
import Derived.Test.YthllgjnlmjpinaaGreatDoorUV1
namespace Go.Proofs.YthllgjnlmjpinaaGreatDoor.L
open Go.RowKit Go.OB Go.Lf
set_option maxHeartbeats 4000000
theorem Fcow (h:Rules)(k:Int)(v1:Value)(l:Value)(m:Value)(r:Int)(c:Fco h k=some r)(O S:List Nat)(w:World)(H:Hd O w w S [f1 Rp.str v1 h.Phases,f1 fP l h.Moves,f1 fZ m h.Rules]):
  Cl 50 [.agg [v1,l,m].toArray,i6 k] w fun e A=>e= .returned (i6 r)∧Hd O w A S []:=by
 unfold Fco at c
 refine CW 34 Tryz.func50 ?_
 refine zB fun K7 B=>zA<| yP rfl rfl (xJ (cs:=[v1,l,m]) rfl H) ?_
 rintro _ ar ⟨n,rfl,H⟩
 refine yP rfl rfl (aRd rfl rfl H) ?_
 rintro _ au ⟨o,rfl,H⟩
 refine zI (i6 0)<| RN B<| zB fun av C=>zA<| zG (qQ rfl)<| Ld wO H 3 2 rfl rfl<| Ld fG H 4 0 rfl rfl ?_
 obtain ⟨d,q,c⟩:=zC c
 obtain ⟨D,E,aw,ax,F,G,I,J,K⟩:=wJ (H.item (i:=2) rfl) q
 obtain ⟨f,rfl,L⟩:=qV G
 have H:=H.fzs [.at D (E+k.toNat * 8) _,.sl fO f d.When.Kids] ⟨⟨I,J,K⟩,L,trivial⟩
 refine zG (yS u25 rX F rfl (zU q).1 (zU q).2.1 rfl rfl)<| zG (yH (yI (cs:=[sb d.Name,i6 d.When.Kind,sb d.When.Name,sb d.When.Other,i6 d.When.Op,i6 d.When.N,i6 d.When.Frames,f]) aJg rfl rX rfl (H.item (i:=5) rfl).2.2) rfl)<| yP rfl rfl (xI aIb H) ?_
 rintro _ ay ⟨az,rfl,H⟩
 refine yX rfl (yU (vs:=[sb d.Name,i6 d.When.Kind,sb d.When.Name,sb d.When.Other,i6 d.When.Op,i6 d.When.N,i6 d.When.Frames,f]) H 7 rfl rX rfl rfl rfl ⟨rfl,rfl,rfl,rfl,rfl,rfl,rfl,(dG (H.item (i:=6) rfl)),trivial⟩ rfl) ?_
 rintro a0 H
 refine RN C<| zB fun a1 M=>zA<| zG (bZ rfl)<| yP rfl rfl (xI zero83 H) ?_
 rintro _ a2 ⟨P,rfl,H⟩
 refine yX rfl (xR H 8 rfl sz83 rfl (v:= .func (.func 89) #[] #[gX n,gX o]) rfl rfl rfl) ?_
 rintro a3 H
 refine RN M<| zB fun a4 Q=>yD<| zB fun a5 R=>zA<| zG (aDa rfl)<| Ld dX H 7 0 rfl rfl ?_
 have T:=H
 obtain ⟨U,V,c⟩:=zC c
 refine yB rfl rfl (zY en47 rfl) (Faiw d.Name _ V _ _ _ (H.enter [] [])) ?_
 rintro _ a6 ⟨rfl,X⟩
 have H:=T.step (X.only:Only [] _ _)
 refine ⟨_,rfl,?_⟩
 obtain ⟨x,Y,c⟩:=zD c
 refine zG (zO (xX (p:=U) rfl) Y)<| zI (.bool x)<| RN R<| zW (b:=x) rfl (fun s=>?_) (fun s=>?_)
 ·have c:=zN s c
  refine zB fun a7 Z=>zA<| zI (i6 8)<| RN Z ?_
  obtain rfl:=gG c
  refine (zX (yA (zQ (gV (v1:=i6 8) rfl rfl ?_))))
  exact ⟨rfl,H.pick []⟩
 have c:=zM s c
 refine zB fun a8 aa=>zA<| Ld one83 H 8 0 rfl rfl<| zG (aDa rfl)<| Ld dX H 7 0 rfl rfl ?_
 obtain ⟨y,ab,c⟩:=zC c
 refine yB rfl rfl (bP en89 rfl rfl) (Fa5w d.Name h k n v1 l m o _ ab _ _ _ (H.enter [3,4] [0,1,2])) ?_
 rintro _ a9 ⟨rfl,ac⟩
 have H:Hd _ _ _ _ [_,_,_,_,_,_,_,_,_]:=H.back [3,4] [0,1,2] rfl ac
 refine ⟨_,rfl,?_⟩
 refine zI (.bool y)<| RN aa<| zW (b:=y) rfl (fun t=>?_) (fun t=>?_)
 ·have c:=zN t c
  refine zB fun ba ad=>zA<| zI (i6 5)<| RN ad ?_
  obtain rfl:=gG c
  refine (zX (yA (zQ (gV (v1:=i6 5) rfl rfl ?_))))
  exact ⟨rfl,H.pick []⟩
 have c:=zM t c
 refine (zZ (yJ (zF (Q _ _ ?_))))
 refine zB fun bb ae=>?_
 refine zB fun bc af=>zA<| zG (aDh rfl)<| zG (yH (yI (cs:=[i6 d.When.Kind,sb d.When.Name,sb d.When.Other,i6 d.When.Op,i6 d.When.N,i6 d.When.Frames,f]) dQ rfl dI rfl (Cells.drop (Hbc H 5 rfl) 1 7)) rfl) ?_
 have ag:=H
 obtain ⟨j,ah,c⟩:=zC c
 refine yB rfl rfl (zY en86 rfl) (Fa3w d.When f _ ah _ _ _ (H.enter [] [4])) ?_
 rintro _ bd ⟨rfl,ai⟩
 have H:=ag.step (ai.only:Only [] _ _)
 refine ⟨_,rfl,?_⟩
 refine zI (i6 j)<| RN af<| zB fun be aj=>zA<| zH (i6 j) ?_
 obtain ⟨ak,al,c⟩:=zD c
 refine zG (zO (eX (a:=j) (b:=0) rfl rfl) al)<| RN aj<| zW (b:=ak) rfl (fun u=>?_) (fun u=>?_)
 ·have c:=zN u c
  refine zB fun bf am=>zA<| zH (i6 j)<| zI (i6 j)<| RN am ?_
  obtain rfl:=gG c
  refine (zX (zQ (gV (v1:=i6 j) rfl rfl ?_)))
  exact ⟨rfl,H.pick []⟩
 have c:=zM u c
 refine zZ (zF (ae _ _ ?_))
 refine zB fun bg an=>zA<| zG (aDh rfl)<| zG (yH (yI (cs:=[i6 d.When.Kind,sb d.When.Name,sb d.When.Other,i6 d.When.Op,i6 d.When.N,i6 d.When.Frames,f]) dQ rfl dI rfl (Cells.drop (Hbc H 5 rfl) 1 7)) rfl)<| zG (bZ rfl) ?_
 obtain ⟨z,ao,c⟩:=zC c
 refine yB rfl rfl (zY aLx rfl) (Ffw d.When h k f n v1 l m P o _ ao _ _ _ (H.enter [7,8,6] [4,0,1,2])) ?_
 rintro _ bh ⟨rfl,ap⟩
 have H:Hd _ _ _ _ [_,_,_,_,_,_,_,_,_]:=H.back [7,8,6] [4,0,1,2] rfl ap
 refine ⟨_,rfl,?_⟩
 refine zI (i6 z)<| RN an ?_
 obtain rfl:=gG c
 refine (zX (gV (v1:=i6 z) rfl rfl ?_))
 exact ⟨rfl,H.pick []⟩
set_option maxRecDepth 100000 in
theorem Fa1w (d:Rules)(v1:Value)(h:Value)(j:Value)(r:Int)(c:Fa1 d=some r)(O S:List Nat)(w:World)(H:Hd O w w S [f1 Rp.str v1 d.Phases,f1 fP h d.Moves,f1 fZ j d.Rules]):
  Cl 24 [.agg [v1,h,j].toArray] w fun e X=>e= .returned (i6 r)∧Hd O w X S []:=by
 unfold Fa1 at c
 refine CW 71 Tryz.func24 ?_
 refine zB fun K7 Y=>zA<| yP rfl rfl (xJ (cs:=[v1,h,j]) rfl H) ?_
 rintro _ dq ⟨k,rfl,H⟩
 refine zI (i6 0)<| RN Y<| zB fun dr Z=>?_
 obtain ⟨J,c,aa⟩:=zC c
 refine yG [10,11,12,13,14,15,16,17,18,19,20,21,22,23,24,25] (fun (g:Unit)=>[(25,.bool J)]) (fun g wl=>Hd O w wl S [f1 Rp.str v1 d.Phases,f1 fP h d.Moves,f1 fZ j d.Rules,.blk k [v1,h,j] 27]) ?_ ?_
 ·skip
  refine zA ?_
  refine zG (nK rfl)<| Ld jJ H 3 0 rfl rfl ?_
  obtain ⟨ab,ac,c⟩:=zD c
  obtain ⟨ds,dt,ad⟩:=SlF.len ((H.item (i:=0) rfl))
  refine zG (yH (yZ u23 ad) (congrArg (Value.int .i64) ac)) ?_
  obtain ⟨ae,af,c⟩:=zD c
  refine zG (zO (cZ (a:=ab) (b:=20) rfl rfl) af) ?_
  obtain ⟨K,c,ag⟩:=zC c
  refine dO 6 [14,15,16,17,18,19] [(19,.bool K)] (fun wl=>Hd O w wl S [f1 Rp.str v1 d.Phases,f1 fP h d.Moves,f1 fZ j d.Rules,.blk k [v1,h,j] 27]) ?_ ?_
  ·skip
   refine yO (b:=ae) rfl rfl rfl (fun t=>?_) (fun t=>?_)
   ·have c:=zN t c
    refine yE ?_
    refine yE ?_
    refine yE ?_
    refine yE ?_
    refine zG (yL (v:= .bool true) rfl rfl) ?_
    obtain rfl:=gG c
    exact zT (zF (meet ⟨(zJ rfl zK),H.pick [0,1,2,3]⟩))
   have c:=zM t c
   refine zG (aJn rfl)<| Ld aRq H 3 1 rfl rfl ?_
   obtain ⟨ah,ai,c⟩:=zD c
   obtain ⟨du,dv,aj⟩:=SlF.len ((H.item (i:=1) rfl))
   refine zG (yH (yZ u24 aj) (congrArg (Value.int .i64) ai)) ?_
   obtain ⟨ak,al,c⟩:=zD c
   refine zG (zO (cZ (a:=ah) (b:=60) rfl rfl) al)<| zG (yF (v:= .bool ak) rfl rfl) ?_
   obtain rfl:=gG c
   exact zT (zF (meet ⟨(zJ rfl zK),H.pick [0,1,2,3]⟩))
  rintro ρ dw H
  have c:=ag
  refine yO (b:=K) rfl rfl rfl (fun u=>?_) (fun u=>?_)
  ·have c:=zN u c
   refine yE ?_
   refine yE ?_
   refine yE ?_
   refine yE ?_
   refine zG (yL (v:= .bool true) rfl rfl) ?_
   obtain rfl:=gG c
   exact (zT (zF (meet ⟨(),(zJ rfl zK),H.pick [0,1,2,3]⟩)))
  have c:=zM u c
  refine zG (qQ rfl)<| Ld wO H 3 2 rfl rfl ?_
  obtain ⟨am,an,c⟩:=zD c
  obtain ⟨dx,dy,ao⟩:=SlF.len ((H.item (i:=2) rfl))
  refine zG (yH (yZ u25 ao) (congrArg (Value.int .i64) an)) ?_
  obtain ⟨ap,aq,c⟩:=zD c
  refine zG (zO (cZ (a:=am) (b:=60) rfl rfl) aq)<| zG (yF (v:= .bool ap) rfl rfl) ?_
  obtain rfl:=gG c
  exact (zT (zF (meet ⟨(),(zJ rfl zK),H.pick [0,1,2,3]⟩)))
 rintro _ ρ dz H
 have c:=aa
 refine zW (b:=J) rfl (fun x=>?_) (fun x=>?_)
 ·have c:=zN x c
  refine zB fun d0 ar=>zA<| zI (i6 3)<| RN ar ?_
  obtain rfl:=gG c
  refine (zX (zQ (gV (v1:=i6 3) rfl rfl ?_)))
  exact ⟨rfl,H.pick []⟩
 have c:=zM x c
 refine zZ (zF (Z _ _ ?_))
 obtain ⟨au,av,c⟩:=xW c
 refine yG [2,3,4,26,27,28,29,30,31,32,33,34,35,36,37,38,39,40,41,42,43] (fun (g:Unit)=>[]) (fun g wl=>Hd O w wl S [f1 Rp.str v1 d.Phases,f1 fP h d.Moves,f1 fZ j d.Rules,.blk k [v1,h,j] 27]∧au ()=some r) ?_ ?_
 ·skip
  refine zB fun d1 aw=>zA<| zG (nK rfl)<| Ld jJ H 3 0 rfl rfl ?_
  obtain ⟨ax,ay,c⟩:=zD c
  obtain ⟨d2,d3,az⟩:=SlF.len ((H.item (i:=0) rfl))
  refine zG (yH (yZ u23 az) (congrArg (Value.int .i64) ay))<| zH (i6 0)<| RN aw<| yD ?_
  unfold Ffu at c
  obtain ⟨a0,L,a1,c⟩:=yQ c
  refine xA [2,3,4,29,30,31,32,33,34,35,36,37,38,39,40,41,42,43] (fun (g:Nat×Int)=>[(29,i6 g.2)]) (fun g wl=>Hd O w wl S [f1 Rp.str v1 d.Phases,f1 fP h d.Moves,f1 fZ j d.Rules,.blk k [v1,h,j] 27]∧fV a0 g.1 g.2=some r) (fun g=>g.1) (L,0) (zJ rfl zK) ⟨H.pick [0,1,2,3],c⟩ ?_
  clear H c
  rintro ⟨L,l⟩ ρ d4 ⟨H,c⟩
  obtain ⟨a2,rfl,c⟩:=yT c
  have c:=yV a1 c
  refine zB fun d5 a3=>zA ?_
  obtain ⟨a4,a5,c⟩:=zD c
  refine zG (zO (xH (a:=l) (b:=ax) rfl rfl) a5)<| RN a3<| zB fun d6 a6=>zW (b:=a4) rfl (fun y=>?_) (fun y=>?_)
  ·have c:=zN y c
   refine zZ (zF (a6 _ _ ?_))
   refine zB fun d7 a7=>?_
   refine yD ?_
   refine zB fun d8 a8=>zA<| zH (i6 l) ?_
   obtain ⟨m,z,c⟩:=zC c
   obtain ⟨a9,ba,d9,bb,bc,bd,be,bf,bg⟩:=wJ (H.item (i:=0) rfl) z
   obtain rfl:bb= [sb m]:=bd
   have H:=H.fz (.at a9 (ba+l.toNat * 1) _) ⟨be,bf,bg⟩
   refine zG (yS u23 sz9 bc rfl (zU z).1 (zU z).2.1 rfl rfl)<| zG (xG dX rfl (Cells.get (H.item (i:=4) rfl).2.2 (i:=0) rfl))<| zI (i6 l)<| zI (sb m)<| RN a8<| zB fun ea bh=>zB fun eb bi=>zA<| zH (sb m) ?_
   have bj:=H
   obtain ⟨bk,bl,c⟩:=zC c
   refine yB rfl rfl (zY en47 rfl) (Faiw m _ bl _ _ _ (H.enter [] [])) ?_
   rintro _ ec ⟨rfl,bm⟩
   have H:=bj.step (bm.only:Only [] _ _)
   refine ⟨_,rfl,?_⟩
   obtain ⟨bn,bo,c⟩:=zD c
   refine zG (zO (xX (p:=bk) rfl) bo)<| RN bi<| zW (b:=bn) rfl (fun A=>?_) (fun A=>?_)
   ·have c:=zN A c
    refine zB fun ed bp=>zA<| zI (i6 8)<| RN bp ?_
    obtain rfl:=gG c
    refine (zX (zQ (yA (zQ (zQ (yA (zQ (gV (v1:=i6 8) rfl rfl ?_))))))))
    exact ⟨rfl,H.pick []⟩
   have c:=zM A c
   refine zZ (zF (bh _ _ ?_))
   refine zB fun ee bq=>zA<| zG (nK rfl)<| Ld jJ H 3 0 rfl rfl<| zH (i6 l) ?_
   obtain ⟨M,br,c⟩:=zC c
   refine sZ rfl rfl (jS u23 sz9 (H.item (i:=0) rfl) rfl rfl br) ?_
   rintro P bt
   have H:=H.fz (.sl Rp.str P M) bt
   refine zH (sb m) ?_
   have bu:=H
   obtain ⟨bv,bw,c⟩:=zC c
   refine yB rfl rfl (zY en48 rfl) (Fafw M m P _ bw _ _ _ (H.enter [] [5])) ?_
   rintro _ ef ⟨rfl,bx⟩
   have H:=bu.step (bx.only:Only [] _ _)
   refine ⟨_,rfl,?_⟩
   refine RN bq<| zW (b:=bv) rfl (fun B=>?_) (fun B=>?_)
   ·have c:=zN B c
    refine zB fun eg bz=>zA<| zI (i6 5)<| RN bz ?_
    obtain rfl:=gG c
    refine (zX (yA (zQ (zQ (yA (zQ (gV (v1:=i6 5) rfl rfl ?_)))))))
    exact ⟨rfl,H.pick []⟩
   have c:=zM B c
   refine (zZ (yJ (zF (a7 _ _ ?_))))
   refine zA ?_
   obtain ⟨Q,b0,c⟩:=zD c
   refine zG (xC (a:=l) (b:=1) rfl rfl b0)<| zH (i6 Q) ?_
   exact (zT (zF (meet ⟨(a2,Q),(zJ rfl zK),⟨H.pick [0,1,2,3],c⟩,Nat.lt_succ_self _⟩)))
  have c:=zM y c
  exact (xE (yK (yK (yR (zF (meet ⟨(),zK,⟨H.pick [0,1,2,3],c⟩⟩))))))
 rintro _ ρ eh ⟨H,c⟩
 have c:=wE av c
 obtain ⟨b1,b2,c⟩:=xW c
 refine yG [2,6,7,44,45,46,47,48,49,50,51,52,53,54,55,56,57] (fun (g:Unit)=>[]) (fun g wl=>Hd O w wl S [f1 Rp.str v1 d.Phases,f1 fP h d.Moves,f1 fZ j d.Rules,.blk k [v1,h,j] 27]∧b1 ()=some r) ?_ ?_
 ·skip
  refine zB fun ei b3=>zA<| zG (aJn rfl)<| Ld aRq H 3 1 rfl rfl ?_
  obtain ⟨b4,b5,c⟩:=zD c
  obtain ⟨ej,ek,b6⟩:=SlF.len ((H.item (i:=1) rfl))
  refine zG (yH (yZ u24 b6) (congrArg (Value.int .i64) b5))<| zH (i6 0)<| RN b3<| yD ?_
  unfold Ffl at c
  obtain ⟨b7,R,b8,c⟩:=yQ c
  refine xA [2,6,7,47,48,49,50,51,52,53,54,55,56,57] (fun (g:Nat×Int)=>[(47,i6 g.2)]) (fun g wl=>Hd O w wl S [f1 Rp.str v1 d.Phases,f1 fP h d.Moves,f1 fZ j d.Rules,.blk k [v1,h,j] 27]∧fV b7 g.1 g.2=some r) (fun g=>g.1) (R,0) (zJ rfl zK) ⟨H.pick [0,1,2,3],c⟩ ?_
  clear H c
  rintro ⟨R,C⟩ ρ el ⟨H,c⟩
  obtain ⟨b9,rfl,c⟩:=yT c
  have c:=yV b8 c
  refine zB fun em ca=>zA ?_
  obtain ⟨cb,cc,c⟩:=zD c
  refine zG (zO (xH (a:=C) (b:=b4) rfl rfl) cc)<| RN ca<| zB fun en cd=>zW (b:=cb) rfl (fun D=>?_) (fun D=>?_)
  ·have c:=zN D c
   refine zZ (zF (cd _ _ ?_))
   refine zB fun eo ce=>?_
   refine yD ?_
   refine zB fun ep cf=>zA ?_
   obtain ⟨f,E,c⟩:=zC c
   obtain ⟨cg,ch,er,es,ci,cj,ck,cl,cm⟩:=wJ (H.item (i:=1) rfl) E
   obtain ⟨s,rfl,cn⟩:=sS cj
   have H:=H.fzs [.at cg (ch+C.toNat * 9) _,.sl fO s f.When.Kids] ⟨⟨ck,cl,cm⟩,cn,trivial⟩
   refine zG (yS u24 uZ ci rfl (zU E).1 (zU E).2.1 rfl rfl)<| zG (yH (yI (cs:=[sb f.From,sb f.To,i6 f.When.Kind,sb f.When.Name,sb f.When.Other,i6 f.When.Op,i6 f.When.N,i6 f.When.Frames,s]) aIq rfl uZ rfl (H.item (i:=4) rfl).2.2) rfl)<| yP rfl rfl (xI aJj H) ?_
   rintro _ et ⟨eu,rfl,H⟩
   refine yX rfl (yU (vs:=[sb f.From,sb f.To,i6 f.When.Kind,sb f.When.Name,sb f.When.Other,i6 f.When.Op,i6 f.When.N,i6 f.When.Frames,s]) H 6 rfl uZ rfl rfl rfl ⟨rfl,rfl,rfl,rfl,rfl,rfl,rfl,rfl,(dG (H.item (i:=5) rfl)),trivial⟩ rfl) ?_
   rintro ew H
   refine RN cf<| zB fun ex cp=>zA<| zG (yH (yI (cs:=[v1,h,j]) qM rfl aBj rfl (Hbc H 3 rfl)) rfl)<| zG (yH (yI (cs:=[sb f.From,sb f.To,i6 f.When.Kind,sb f.When.Name,sb f.When.Other,i6 f.When.Op,i6 f.When.N,i6 f.When.Frames,s]) aIq rfl uZ rfl (Hbc H 6 rfl)) rfl) ?_
   have cq:=H
   obtain ⟨n,cr,c⟩:=zC c
   refine yB rfl rfl (zY en49 rfl) (Fbuw d f v1 h j s _ cr _ _ _ (H.enter [] [0,1,2,5])) ?_
   rintro _ ey ⟨rfl,ct⟩
   have H:=cq.step (ct.only:Only [] _ _)
   refine ⟨_,rfl,?_⟩
   refine zI (i6 n)<| RN cp<| zB fun ez cu=>zA<| zH (i6 n) ?_
   obtain ⟨cv,cw,c⟩:=zD c
   refine zG (zO (eX (a:=n) (b:=0) rfl rfl) cw)<| RN cu<| zW (b:=cv) rfl (fun F=>?_) (fun F=>?_)
   ·have c:=zN F c
    refine zB fun e0 cx=>zA<| zH (i6 n)<| zI (i6 n)<| RN cx ?_
    obtain rfl:=gG c
    refine (zX (yA (zQ (zQ (yA (zQ (gV (v1:=i6 n) rfl rfl ?_)))))))
    exact ⟨rfl,H.pick []⟩
   have c:=zM F c
   refine (zZ (yJ (zF (ce _ _ ?_))))
   refine zA ?_
   obtain ⟨T,cy,c⟩:=zD c
   refine zG (xC (a:=C) (b:=1) rfl rfl cy)<| zH (i6 T) ?_
   exact (zT (zF (meet ⟨(b9,T),(zJ rfl zK),⟨H.pick [0,1,2,3],c⟩,Nat.lt_succ_self _⟩)))
  have c:=zM D c
  exact (xE (yK (yK (yR (zF (meet ⟨(),zK,⟨H.pick [0,1,2,3],c⟩⟩))))))
 rintro _ ρ e1 ⟨H,c⟩
 have c:=wE b2 c
 obtain ⟨cz,c0,c⟩:=xW c
 refine yG [2,8,9,58,59,60,61,62,63,64,65,66,67,68,69,70] (fun (g:Unit)=>[]) (fun g wl=>Hd O w wl S []∧cz ()=some r) ?_ ?_
 ·skip
  refine zB fun e2 c1=>zA<| zG (qQ rfl)<| Ld wO H 3 2 rfl rfl ?_
  obtain ⟨c2,c3,c⟩:=zD c
  obtain ⟨e3,e4,c4⟩:=SlF.len ((H.item (i:=2) rfl))
  refine zG (yH (yZ u25 c4) (congrArg (Value.int .i64) c3))<| zH (i6 0)<| RN c1<| yD ?_
  unfold Fft at c
  obtain ⟨c5,U,c6,c⟩:=yQ c
  refine xA [2,8,9,61,62,63,64,65,66,67,68,69,70] (fun (g:Nat×Int)=>[(61,i6 g.2)]) (fun g wl=>Hd O w wl S [f1 Rp.str v1 d.Phases,f1 fP h d.Moves,f1 fZ j d.Rules,.blk k [v1,h,j] 27]∧fV c5 g.1 g.2=some r) (fun g=>g.1) (U,0) (zJ rfl zK) ⟨H.pick [0,1,2,3],c⟩ ?_
  clear H c
  rintro ⟨U,o⟩ ρ e5 ⟨H,c⟩
  obtain ⟨c7,rfl,c⟩:=yT c
  have c:=yV c6 c
  refine zB fun e6 c8=>zA ?_
  obtain ⟨c9,da,c⟩:=zD c
  refine zG (zO (xH (a:=o) (b:=c2) rfl rfl) da)<| RN c8<| zB fun e7 db=>zW (b:=c9) rfl (fun G=>?_) (fun G=>?_)
  ·have c:=zN G c
   refine zZ (zF (db _ _ ?_))
   refine zB fun e8 dc=>?_
   refine yD ?_
   refine zB fun e9 dd=>zA<| zH (i6 o)<| zI (i6 o)<| RN dd<| zB fun fa de=>zA<| zG (yH (yI (cs:=[v1,h,j]) qM rfl aBj rfl (Hbc H 3 rfl)) rfl)<| zH (i6 o) ?_
   have df:=H
   obtain ⟨q,dg,c⟩:=zC c
   refine yB rfl rfl (zY en50 rfl) (Fcow d o v1 h j _ dg _ _ _ (H.enter [] [0,1,2])) ?_
   rintro _ fb ⟨rfl,dh⟩
   have H:=df.step (dh.only:Only [] _ _)
   refine ⟨_,rfl,?_⟩
   refine zI (i6 q)<| RN de<| zB fun fc di=>zA<| zH (i6 q) ?_
   obtain ⟨dj,dk,c⟩:=zD c
   refine zG (zO (eX (a:=q) (b:=0) rfl rfl) dk)<| RN di<| zW (b:=dj) rfl (fun I=>?_) (fun I=>?_)
   ·have c:=zN I c
    refine zB fun fd dl=>zA<| zH (i6 q)<| zI (i6 q)<| RN dl ?_
    obtain rfl:=gG c
    refine (zX (yA (zQ (zQ (yA (zQ (gV (v1:=i6 q) rfl rfl ?_)))))))
    exact ⟨rfl,H.pick []⟩
   have c:=zM I c
   refine (zZ (yJ (zF (dc _ _ ?_))))
   refine zA ?_
   obtain ⟨V,dm,c⟩:=zD c
   refine zG (xC (a:=o) (b:=1) rfl rfl dm)<| zH (i6 V) ?_
   exact (zT (zF (meet ⟨(c7,V),(zJ rfl zK),⟨H.pick [0,1,2,3],c⟩,Nat.lt_succ_self _⟩)))
  have c:=zM G c
  exact (xE (yK (yK (yR (zF (meet ⟨(),zK,⟨H.pick [],c⟩⟩))))))
 rintro _ ρ fe ⟨H,c⟩
 have c:=wE c0 c
 refine zB fun ff dn=>zA<| zI (i6 0)<| RN dn ?_
 obtain rfl:=gG c
 refine (zX (gV (v1:=i6 0) rfl rfl ?_))
 exact ⟨rfl,H.pick []⟩
set_option maxRecDepth 100000 in
theorem Fcpw (h:List Str)(v1:Value)(r:Int)(c:Fcp h=some r)(O S:List Nat)(w:World)(H:Hd O w w S [f1 Rp.str v1 h]):
  Cl 51 [v1] w fun e u=>e= .returned (i6 r)∧Hd O w u S []:=by
 unfold Fcp at c
 refine CW 24 Tryz.func51 ?_
 refine zB fun K3 v=>zA<| zI (i6 0)<| RN v<| zB fun a2 x=>zB fun a3 y=>zA<| zH v1 ?_
 obtain ⟨z,A,c⟩:=zD c
 obtain ⟨a4,a5,B⟩:=SlF.len ((H.item (i:=0) rfl))
 refine zG (yH (yZ u23 B) (congrArg (Value.int .i64) A)) ?_
 obtain ⟨C,D,c⟩:=zD c
 refine zG (zO (cZ (a:=z) (b:=30) rfl rfl) D)<| RN y<| zW (b:=C) rfl (fun j=>?_) (fun j=>?_)
 ·have c:=zN j c
  refine zB fun a6 E=>zA<| zI (i6 3)<| RN E ?_
  obtain rfl:=gG c
  refine (zX (zQ (gV (v1:=i6 3) rfl rfl ?_)))
  exact ⟨rfl,H.pick []⟩
 have c:=zM j c
 refine zZ (zF (x _ _ ?_))
 obtain ⟨F,G,c⟩:=xW c
 refine yG [2,3,4,8,9,10,11,12,13,14,15,16,17,18,19,20,21,22,23] (fun (g:Unit)=>[]) (fun g wl=>Hd O w wl S []∧F ()=some r) ?_ ?_
 ·skip
  refine zB fun a7 I=>zA<| zH v1 ?_
  obtain ⟨J,K,c⟩:=zD c
  obtain ⟨a8,a9,L⟩:=SlF.len ((H.item (i:=0) rfl))
  refine zG (yH (yZ u23 L) (congrArg (Value.int .i64) K))<| zH (i6 0)<| RN I<| yD ?_
  unfold Ffj at c
  obtain ⟨M,o,N,c⟩:=yQ c
  refine xA [2,3,4,10,11,12,13,14,15,16,17,18,19,20,21,22,23] (fun (g:Nat×Int)=>[(10,i6 g.2)]) (fun g wl=>Hd O w wl S [f1 Rp.str v1 h]∧fV M g.1 g.2=some r) (fun g=>g.1) (o,0) (zJ rfl zK) ⟨H.pick [0],c⟩ ?_
  clear H c
  rintro ⟨o,d⟩ ρ ba ⟨H,c⟩
  obtain ⟨P,rfl,c⟩:=yT c
  have c:=yV N c
  refine zB fun bb Q=>zA ?_
  obtain ⟨R,T,c⟩:=zD c
  refine zG (zO (xH (a:=d) (b:=J) rfl rfl) T)<| RN Q<| zB fun bc U=>zW (b:=R) rfl (fun k=>?_) (fun k=>?_)
  ·have c:=zN k c
   refine zZ (zF (U _ _ ?_))
   refine zB fun bd V=>?_
   refine yD ?_
   refine zB fun be X=>zA<| zH (i6 d) ?_
   obtain ⟨f,l,c⟩:=zC c
   obtain ⟨Y,Z,bf,aa,ab,ac,ad,ae,af⟩:=wJ (H.item (i:=0) rfl) l
   obtain rfl:aa= [sb f]:=ac
   have H:=H.fz (.at Y (Z+d.toNat * 1) _) ⟨ad,ae,af⟩
   refine zG (yS u23 sz9 ab rfl (zU l).1 (zU l).2.1 rfl rfl)<| zG (xG dX rfl (Cells.get (H.item (i:=1) rfl).2.2 (i:=0) rfl))<| zI (i6 d)<| zI (sb f)<| RN X<| zB fun bg ag=>zB fun bh ah=>zA<| zH (sb f) ?_
   have ai:=H
   obtain ⟨aj,ak,c⟩:=zC c
   refine yB rfl rfl (zY en52 rfl) (Faqw f _ ak _ _ _ (H.enter [] [])) ?_
   rintro _ bi ⟨rfl,al⟩
   have H:=ai.step (al.only:Only [] _ _)
   refine ⟨_,rfl,?_⟩
   obtain ⟨am,an,c⟩:=zD c
   refine zG (zO (xX (p:=aj) rfl) an)<| RN ah<| zW (b:=am) rfl (fun m=>?_) (fun m=>?_)
   ·have c:=zN m c
    refine zB fun bj ao=>zA<| zI (i6 8)<| RN ao ?_
    obtain rfl:=gG c
    refine (zX (zQ (yA (zQ (zQ (yA (zQ (gV (v1:=i6 8) rfl rfl ?_))))))))
    exact ⟨rfl,H.pick []⟩
   have c:=zM m c
   refine zZ (zF (ag _ _ ?_))
   refine zB fun bk ap=>zA<| zH v1<| zH (i6 d) ?_
   obtain ⟨q,aq,c⟩:=zC c
   refine sZ rfl rfl (jS u23 sz9 (H.item (i:=0) rfl) rfl rfl aq) ?_
   rintro s ar
   have H:=H.fz (.sl Rp.str s q) ar
   refine zH (sb f) ?_
   have au:=H
   obtain ⟨av,aw,c⟩:=zC c
   refine yB rfl rfl (zY en48 rfl) (Fafw q f s _ aw _ _ _ (H.enter [] [2])) ?_
   rintro _ bl ⟨rfl,ax⟩
   have H:=au.step (ax.only:Only [] _ _)
   refine ⟨_,rfl,?_⟩
   refine RN ap<| zW (b:=av) rfl (fun n=>?_) (fun n=>?_)
   ·have c:=zN n c
    refine zB fun bm ay=>zA<| zI (i6 5)<| RN ay ?_
    obtain rfl:=gG c
    refine (zX (yA (zQ (zQ (yA (zQ (gV (v1:=i6 5) rfl rfl ?_)))))))
    exact ⟨rfl,H.pick []⟩
   have c:=zM n c
   refine (zZ (yJ (zF (V _ _ ?_))))
   refine zA ?_
   obtain ⟨t,az,c⟩:=zD c
   refine zG (xC (a:=d) (b:=1) rfl rfl az)<| zH (i6 t) ?_
   exact (zT (zF (meet ⟨(P,t),(zJ rfl zK),⟨H.pick [0],c⟩,Nat.lt_succ_self _⟩)))
  have c:=zM k c
  exact (xE (yK (yK (yR (zF (meet ⟨(),zK,⟨H.pick [],c⟩⟩))))))
 rintro _ ρ bn ⟨H,c⟩
 have c:=wE G c
 refine zB fun bo a0=>zA<| zI (i6 0)<| RN a0 ?_
 obtain rfl:=gG c
 refine (zX (gV (v1:=i6 0) rfl rfl ?_))
 exact ⟨rfl,H.pick []⟩
theorem Fejw (a:dU)(b:dU)(d:Nat)(r:Bool)(c:Fej a b=some r)(O S:List Nat)(w:World)(H:Hd O w w S [.blk d [sb b.Track,i6 b.N] 86]):
  Cl 54 [.agg [sb a.Track,i6 a.N].toArray,gX d] w fun e h=>e= .returned (.bool r)∧Hd O w h S [.blk d [sb b.Track,i6 b.N] 86]:=by
 unfold Fej at c
 refine CW 9 Tryz.func54 ?_
 refine zB fun l i=>zA<| yP rfl rfl (xJ (cs:=[sb a.Track,i6 a.N]) rfl H) ?_
 rintro _ m ⟨n,rfl,H⟩
 refine zI (.bool false)<| RN i<| zB fun o j=>zA<| zG (aHt rfl)<| Ld dX H 1 0 rfl rfl<| zG (aHt rfl)<| Ld dX H 0 0 rfl rfl ?_
 obtain ⟨f,k,c⟩:=zD c
 refine zG (zO (dK (s1:=a.Track) (s2:=b.Track) rfl rfl) k)<| zI (.bool f)<| RN j ?_
 obtain rfl:=gG c
 refine (zX (gV (v1:= .bool f) rfl rfl ?_))
 exact ⟨rfl,H.pick [0]⟩
theorem Fcjw (h:List dU)(p1c0:dU)(v1:Value)(f:Nat)(r:Int)(c:Fcj h p1c0=some r)(O S:List Nat)(w:World)(H:Hd O w w S [.blk f [sb p1c0.Track,i6 p1c0.N] 86,f1 dJ v1 h]):
  Cl 93 [v1,.func (.func 54) #[] #[gX f]] w fun e p=>e= .returned (i6 r)∧Hd O w p S [.blk f [sb p1c0.Track,i6 p1c0.N] 86]:=by
 unfold Fcj at c
 refine CW 19 Tryz.func93 ?_
 refine zB fun K5 q=>zA<| zI (i6 0)<| RN q ?_
 obtain ⟨s,t,c⟩:=xW c
 refine yG [4,5,6,7,8,9,10,11,12,13,14,15,16,17,18] (fun (g:Unit)=>[]) (fun g wl=>Hd O w wl S [.blk f [sb p1c0.Track,i6 p1c0.N] 86]∧s ()=some r) ?_ ?_
 ·skip
  refine zB fun ac u=>zA<| zH v1 ?_
  obtain ⟨v,x,c⟩:=zD c
  obtain ⟨ad,ae,y⟩:=SlF.len ((H.item (i:=1) rfl))
  refine zG (yH (yZ u28 y) (congrArg (Value.int .i64) x))<| zH (i6 0)<| RN u<| yD ?_
  unfold Ffq at c
  obtain ⟨z,n,A,c⟩:=yQ c
  refine xA [4,5,8,9,10,11,12,13,14,15,16,17,18] (fun (g:Nat×Int)=>[(8,i6 g.2)]) (fun g wl=>Hd O w wl S [.blk f [sb p1c0.Track,i6 p1c0.N] 86,f1 dJ v1 h]∧fV z g.1 g.2=some r) (fun g=>g.1) (n,0) (zJ rfl zK) ⟨H.pick [0,1],c⟩ ?_
  clear H c
  rintro ⟨n,d⟩ ρ af ⟨H,c⟩
  obtain ⟨B,rfl,c⟩:=yT c
  have c:=yV A c
  refine zB fun ag C=>zA ?_
  obtain ⟨D,E,c⟩:=zD c
  refine zG (zO (xH (a:=d) (b:=v) rfl rfl) E)<| RN C<| zB fun ah F=>zW (b:=D) rfl (fun j=>?_) (fun j=>?_)
  ·have c:=zN j c
   refine zZ (zF (F _ _ ?_))
   refine zB fun ai G=>?_
   refine yD ?_
   refine zB fun aj I=>zA<| zH (i6 d)<| zI (i6 d)<| RN I<| zB fun ak J=>zA<| zH (.func (.func 54) #[] #[gX f])<| zH v1<| zH (i6 d) ?_
   obtain ⟨k,l,c⟩:=zC c
   obtain ⟨K,L,al,am,M,P,Q,R,T⟩:=wJ (H.item (i:=1) rfl) l
   obtain rfl:=sH P
   have H:=H.fz (.at K (L+d.toNat * 2) _) ⟨Q,R,T⟩
   refine zG (yS u28 aIo M rfl (zU l).1 (zU l).2.1 rfl rfl)<| zG (yH (yI (cs:=[sb k.Track,i6 k.N]) agg86 rfl aIo rfl (H.item (i:=2) rfl).2.2) rfl) ?_
   obtain ⟨U,V,c⟩:=zC c
   refine yB rfl rfl (bP en54 rfl rfl) (Fejw k p1c0 f _ V _ _ _ (H.enter [0] [])) ?_
   rintro _ an ⟨rfl,X⟩
   have H:Hd _ _ _ _ [_,_,_]:=H.back [0] [] rfl X
   refine ⟨_,rfl,?_⟩
   refine RN J<| zW (b:=U) rfl (fun m=>?_) (fun m=>?_)
   ·have c:=zN m c
    refine zB fun ao Y=>zA<| zH (i6 d)<| zI (i6 d)<| RN Y ?_
    obtain rfl:=gG c
    refine (zX (yA (zQ (zQ (yA (zQ (gV (v1:=i6 d) rfl rfl ?_)))))))
    exact ⟨rfl,H.pick [2]⟩
   have c:=zM m c
   refine (zZ (yJ (zF (G _ _ ?_))))
   refine zA ?_
   obtain ⟨o,Z,c⟩:=zD c
   refine zG (xC (a:=d) (b:=1) rfl rfl Z)<| zH (i6 o) ?_
   exact (zT (zF (meet ⟨(B,o),(zJ rfl zK),⟨H.pick [2,0],c⟩,Nat.lt_succ_self _⟩)))
  have c:=zM j c
  exact (xE (yK (yK (yR (zF (meet ⟨(),zK,⟨H.pick [0],c⟩⟩))))))
 rintro _ ρ ap ⟨H,c⟩
 have c:=wE t c
 refine zB fun aq aa=>zA<| zI (i6 (-1))<| RN aa ?_
 obtain rfl:=gG c
 refine (zX (gV (v1:=i6 (-1)) rfl rfl ?_))
 exact ⟨rfl,H.pick [0]⟩
theorem Fcfw (f:List dU)(p1c0:dU)(v1:Value)(d:Nat)(r:Bool)(c:Fcf f p1c0=some r)(O S:List Nat)(w:World)(H:Hd O w w S [.blk d [sb p1c0.Track,i6 p1c0.N] 86,f1 dJ v1 f]):
  Cl 53 [v1,.func (.func 54) #[] #[gX d]] w fun e i=>e= .returned (.bool r)∧Hd O w i S [.blk d [sb p1c0.Track,i6 p1c0.N] 86]:=by
 unfold Fcf at c
 refine CW 9 Tryz.func53 ?_
 refine zB fun p j=>zA<| zI (.bool false)<| RN j<| zB fun q k=>zA<| zH v1<| zH (.func (.func 54) #[] #[gX d]) ?_
 obtain ⟨l,m,c⟩:=zC c
 refine yB rfl rfl (zY en93 rfl) (Fcjw f p1c0 v1 d _ m _ _ _ (H.enter [0] [1])) ?_
 rintro _ s ⟨rfl,n⟩
 have H:Hd _ _ _ _ [_,_]:=H.back [0] [1] rfl n
 refine ⟨_,rfl,?_⟩
 obtain ⟨h,o,c⟩:=zD c
 refine zG (zO (aN (a:=l) (b:=0) rfl rfl) o)<| zI (.bool h)<| RN k ?_
 obtain rfl:=gG c
 refine (zX (gV (v1:= .bool h) rfl rfl ?_))
 exact ⟨rfl,H.pick [1]⟩
set_option maxRecDepth 100000 in
theorem Fccw (d:Mask)(v1:Value)(f:Value)(r:Int)(c:Fcc d=some r)(O S:List Nat)(w:World)(H:Hd O w w S [f1 Rp.str v1 d.Hide,f1 dJ f d.Grains]):
  Cl 25 [.agg [.bool d.Tails,i6 d.Days,v1,f,i6 d.Least].toArray] w fun e F=>e= .returned (i6 r)∧Hd O w F S []:=by
 unfold Fcc at c
 refine CW 50 Tryz.func25 ?_
 refine zB fun K5 G=>zA<| yP rfl rfl (xJ (cs:=[.bool d.Tails,i6 d.Days,v1,f,i6 d.Least]) rfl H) ?_
 rintro _ w8 ⟨x,rfl,H⟩
 refine zI (i6 0)<| RN G<| zB fun ca I=>zB fun cb J=>zA<| zG (fa30_1 rfl)<| Ld fG H 2 1 rfl rfl ?_
 have K:=H
 obtain ⟨L,M,c⟩:=zC c
 refine yB rfl rfl (zY en26 rfl) (Fahw d.Days 1 1000000 _ M _ _ _ (H.enter [] [])) ?_
 rintro _ cc ⟨rfl,P⟩
 have H:=K.step (P.only:Only [] _ _)
 refine ⟨_,rfl,?_⟩
 obtain ⟨Q,R,c⟩:=zD c
 refine zG (zO (xX (p:=L) rfl) R)<| RN J<| zW (b:=Q) rfl (fun l=>?_) (fun l=>?_)
 ·have c:=zN l c
  refine zB fun cd T=>zA<| zI (i6 9)<| RN T ?_
  obtain rfl:=gG c
  refine (zX (zQ (gV (v1:=i6 9) rfl rfl ?_)))
  exact ⟨rfl,H.pick []⟩
 have c:=zM l c
 refine zZ (zF (I _ _ ?_))
 refine zB fun ce U=>?_
 refine zB fun cf V=>zA<| zG (fa30_2 rfl)<| Ld jJ H 2 2 rfl rfl ?_
 have X:=H
 obtain ⟨j,Y,c⟩:=zC c
 refine yB rfl rfl (zY en51 rfl) (Fcpw d.Hide v1 _ Y _ _ _ (H.enter [] [0])) ?_
 rintro _ cg ⟨rfl,Z⟩
 have H:=X.step (Z.only:Only [] _ _)
 refine ⟨_,rfl,?_⟩
 refine zI (i6 j)<| RN V<| zB fun ch aa=>zA<| zH (i6 j) ?_
 obtain ⟨ab,ac,c⟩:=zD c
 refine zG (zO (eX (a:=j) (b:=0) rfl rfl) ac)<| RN aa<| zW (b:=ab) rfl (fun m=>?_) (fun m=>?_)
 ·have c:=zN m c
  refine zB fun ci ad=>zA<| zH (i6 j)<| zI (i6 j)<| RN ad ?_
  obtain rfl:=gG c
  refine (zX (zQ (gV (v1:=i6 j) rfl rfl ?_)))
  exact ⟨rfl,H.pick []⟩
 have c:=zM m c
 refine zZ (zF (U _ _ ?_))
 refine zB fun cj ae=>?_
 refine zB fun ck af=>zA<| zG (aIy rfl)<| Ld aPv H 2 3 rfl rfl ?_
 obtain ⟨ag,ah,c⟩:=zD c
 obtain ⟨cl,cm,ai⟩:=SlF.len ((H.item (i:=1) rfl))
 refine zG (yH (yZ u28 ai) (congrArg (Value.int .i64) ah)) ?_
 obtain ⟨aj,ak,c⟩:=zD c
 refine zG (zO (cZ (a:=ag) (b:=30) rfl rfl) ak)<| RN af<| zW (b:=aj) rfl (fun n=>?_) (fun n=>?_)
 ·have c:=zN n c
  refine zB fun cn al=>zA<| zI (i6 3)<| RN al ?_
  obtain rfl:=gG c
  refine (zX (zQ (gV (v1:=i6 3) rfl rfl ?_)))
  exact ⟨rfl,H.pick []⟩
 have c:=zM n c
 refine zZ (zF (ae _ _ ?_))
 obtain ⟨am,an,c⟩:=xW c
 refine yG [2,4,5,20,21,22,23,24,25,26,27,28,29,30,31,32,33,34,35,36,37,38,39,40,41,42,43,44,45] (fun (g:Unit)=>[]) (fun g wl=>Hd O w wl S [f1 Rp.str v1 d.Hide,f1 dJ f d.Grains,.blk x [.bool d.Tails,i6 d.Days,v1,f,i6 d.Least] 30]∧am ()=some r) ?_ ?_
 ·skip
  refine zB fun cp ao=>zA<| zG (aIy rfl)<| Ld aPv H 2 3 rfl rfl ?_
  obtain ⟨ap,aq,c⟩:=zD c
  obtain ⟨cq,cr,ar⟩:=SlF.len ((H.item (i:=1) rfl))
  refine zG (yH (yZ u28 ar) (congrArg (Value.int .i64) aq))<| zH (i6 0)<| RN ao<| yD ?_
  unfold Fep at c
  obtain ⟨au,y,av,c⟩:=yQ c
  refine xA [2,4,5,23,24,25,26,27,28,29,30,31,32,33,34,35,36,37,38,39,40,41,42,43,44,45] (fun (g:Nat×Int)=>[(23,i6 g.2)]) (fun g wl=>Hd O w wl S [f1 Rp.str v1 d.Hide,f1 dJ f d.Grains,.blk x [.bool d.Tails,i6 d.Days,v1,f,i6 d.Least] 30]∧fV au g.1 g.2=some r) (fun g=>g.1) (y,0) (zJ rfl zK) ⟨H.pick [0,1,2],c⟩ ?_
  clear H c
  rintro ⟨y,k⟩ ρ ct ⟨H,c⟩
  obtain ⟨aw,rfl,c⟩:=yT c
  have c:=yV av c
  refine zB fun cu ax=>zA ?_
  obtain ⟨ay,az,c⟩:=zD c
  refine zG (zO (xH (a:=k) (b:=ap) rfl rfl) az)<| RN ax<| zB fun cv a0=>zW (b:=ay) rfl (fun o=>?_) (fun o=>?_)
  ·have c:=zN o c
   refine zZ (zF (a0 _ _ ?_))
   refine zB fun cw a1=>?_
   refine yD ?_
   refine zB fun cx a2=>zA<| zH (i6 k) ?_
   obtain ⟨h,q,c⟩:=zC c
   obtain ⟨a3,a4,cy,cz,a5,a6,a7,a8,a9⟩:=wJ (H.item (i:=1) rfl) q
   obtain rfl:=sH a6
   have H:=H.fz (.at a3 (a4+k.toNat * 2) _) ⟨a7,a8,a9⟩
   refine zG (yS u28 aIo a5 rfl (zU q).1 (zU q).2.1 rfl rfl)<| zG (yH (yI (cs:=[sb h.Track,i6 h.N]) agg86 rfl aIo rfl (H.item (i:=3) rfl).2.2) rfl)<| yP rfl rfl (xI zero86 H) ?_
   rintro _ c0 ⟨ba,rfl,H⟩
   refine zI (i6 k)<| yX rfl (yU (vs:=[sb h.Track,i6 h.N]) H 4 rfl aIo rfl rfl rfl ⟨rfl,rfl,trivial⟩ rfl) ?_
   rintro c1 H
   refine RN a2<| yD<| zB fun c2 bb=>zA<| zG (aHt rfl)<| Ld dX H 4 0 rfl rfl ?_
   have bc:=H
   obtain ⟨bd,be,c⟩:=zC c
   refine yB rfl rfl (zY en52 rfl) (Faqw h.Track _ be _ _ _ (H.enter [] [])) ?_
   rintro _ c3 ⟨rfl,bf⟩
   have H:=bc.step (bf.only:Only [] _ _)
   refine ⟨_,rfl,?_⟩
   obtain ⟨z,bg,c⟩:=zD c
   refine zG (zO (xX (p:=bd) rfl) bg)<| zI (.bool z)<| RN bb<| zW (b:=z) rfl (fun s=>?_) (fun s=>?_)
   ·have c:=zN s c
    refine zB fun c4 bh=>zA<| zI (i6 8)<| RN bh ?_
    obtain rfl:=gG c
    refine (zX (yA (yA (zQ (zQ (yA (zQ (gV (v1:=i6 8) rfl rfl ?_))))))))
    exact ⟨rfl,H.pick []⟩
   have c:=zM s c
   refine zB fun c5 bi=>zA<| zG (aIy rfl)<| Ld aPv H 2 3 rfl rfl<| zH (i6 k) ?_
   obtain ⟨A,bj,c⟩:=zC c
   refine sZ rfl rfl (jS u28 aIo (H.item (i:=1) rfl) rfl rfl bj) ?_
   rintro B bk
   have H:=H.fz (.sl dJ B A) bk
   refine zG (bZ rfl) ?_
   obtain ⟨C,bl,c⟩:=zC c
   refine yB rfl rfl (zY en53 rfl) (Fcfw A h B ba _ bl _ _ _ (H.enter [4] [5])) ?_
   rintro _ c6 ⟨rfl,bm⟩
   have H:Hd _ _ _ _ [_,_,_,_,_,_]:=H.back [4] [5] rfl bm
   refine ⟨_,rfl,?_⟩
   refine zI (.bool C)<| RN bi<| zW (b:=C) rfl (fun t=>?_) (fun t=>?_)
   ·have c:=zN t c
    refine zB fun c7 bn=>zA<| zI (i6 5)<| RN bn ?_
    obtain rfl:=gG c
    refine (zX (yA (yA (zQ (zQ (yA (zQ (gV (v1:=i6 5) rfl rfl ?_))))))))
    exact ⟨rfl,H.pick []⟩
   have c:=zM t c
   refine zB fun c8 bo=>zA<| zG (fa86_1 rfl)<| Ld fG H 5 1 rfl rfl ?_
   have bp:=H
   obtain ⟨bq,br,c⟩:=zC c
   refine yB rfl rfl (zY en26 rfl) (Fahw h.N 1 1125899906842624 _ br _ _ _ (H.enter [] [])) ?_
   rintro _ c9 ⟨rfl,bt⟩
   have H:=bp.step (bt.only:Only [] _ _)
   refine ⟨_,rfl,?_⟩
   obtain ⟨D,bu,c⟩:=zD c
   refine zG (zO (xX (p:=bq) rfl) bu)<| zI (.bool D)<| RN bo<| zW (b:=D) rfl (fun u=>?_) (fun u=>?_)
   ·have c:=zN u c
    refine zB fun da bv=>zA<| zI (i6 9)<| RN bv ?_
    obtain rfl:=gG c
    refine (zX (yA (yA (zQ (zQ (yA (zQ (gV (v1:=i6 9) rfl rfl ?_))))))))
    exact ⟨rfl,H.pick []⟩
   have c:=zM u c
   refine (zZ (yJ (yJ (zF (a1 _ _ ?_)))))
   refine zA ?_
   obtain ⟨E,bw,c⟩:=zD c
   refine zG (xC (a:=k) (b:=1) rfl rfl bw)<| zH (i6 E) ?_
   exact (zT (zF (meet ⟨(aw,E),(zJ rfl zK),⟨H.pick [0,1,2],c⟩,Nat.lt_succ_self _⟩)))
  have c:=zM o c
  exact (xE (yK (yK (yR (zF (meet ⟨(),zK,⟨H.pick [0,1,2],c⟩⟩))))))
 rintro _ ρ db ⟨H,c⟩
 have c:=wE an c
 refine zB fun dc bx=>?_
 refine zB fun dd bz=>zA<| zG (aNq rfl)<| Ld fG H 2 4 rfl rfl ?_
 have b0:=H
 obtain ⟨b1,b2,c⟩:=zC c
 refine yB rfl rfl (zY en26 rfl) (Fahw d.Least 1 1000 _ b2 _ _ _ (H.enter [] [])) ?_
 rintro _ de ⟨rfl,b3⟩
 have H:=b0.step (b3.only:Only [] _ _)
 refine ⟨_,rfl,?_⟩
 obtain ⟨b4,b5,c⟩:=zD c
 refine zG (zO (xX (p:=b1) rfl) b5)<| RN bz<| zW (b:=b4) rfl (fun v=>?_) (fun v=>?_)
 ·have c:=zN v c
  refine zB fun df b6=>zA<| zI (i6 9)<| RN b6 ?_
  obtain rfl:=gG c
  refine (zX (zQ (gV (v1:=i6 9) rfl rfl ?_)))
  exact ⟨rfl,H.pick []⟩
 have c:=zM v c
 refine zZ (zF (bx _ _ ?_))
 refine zB fun dg b7=>zA<| zI (i6 0)<| RN b7 ?_
 obtain rfl:=gG c
 refine (zX (gV (v1:=i6 0) rfl rfl ?_))
 exact ⟨rfl,H.pick []⟩
theorem Fc3w (f:List fB)(v1:Value)(r:(List fB))(a:Fc3 f=some r)(O S:List Nat)(w:World)(H:Hd O w w S [f1 fM v1 f]):
  Cl 55 [v1] w fun e h=> ∃u3,e= .returned (u3)∧Hd O w h S [.own fM u3 94 r]:=by
 unfold Fc3 at a
 refine CW 8 Tryz.func55 ?_
 refine zB fun u j=>zA<| zI (.slice none 0 0)<| RN j<| zB fun v k=>zB fun x l=>zA<| zH v1 ?_
 obtain ⟨y,z,m,n⟩:=aMo (H.item (i:=0) rfl)
 obtain ⟨o,p,a⟩:=aHr a n
 refine zG (yH (vS u88 m rfl) (congrArg Value.bool p))<| RN l<| zW (b:=o) rfl (fun c=>?_) (fun c=>?_)
 ·have a:=zN c a
  refine zB fun A q=>zA<| zI (.slice none 0 0)<| RN q ?_
  have H:=aS H fM 94
  obtain rfl:=gG a
  refine (zX (zQ (gV (v1:= .slice none 0 0) rfl rfl ?_)))
  exact ⟨.slice none 0 0,rfl,H.pick [1]⟩
 have a:=zM c a
 refine zZ (zF (k _ _ ?_))
 refine zB fun B s=>zA<| yP rfl rfl (Lx_bs0 (r:=fM) u88 el94 H) ?_
 rintro C D H
 refine zH v1 ?_
 obtain ⟨E,t,a⟩:=zC a
 refine yP rfl rfl (kC H (i:=1) rfl u88 el94 rfl rfl (Sr.of_rd (H.item (i:=0) rfl)) t) ?_
 rintro d F H
 refine zI d<| RN s ?_
 obtain rfl:=gG a
 refine (zX (gV (v1:=d) rfl rfl ?_))
 exact ⟨d,rfl,H.pick [1]⟩
theorem Fb0w (d:Int)(f:Int)(r:Int)(c:Fb0 d f=some r)(O S:List Nat)(w:World)(H:Hd O w w S []):
  Cl 56 [i6 d,i6 f] w fun e m=>e= .returned (i6 r)∧Hd O w m S []:=by
 unfold Fb0 at c
 refine CW 18 Tryz.func56 ?_
 refine zB fun D n=>zA<| zI (i6 0)<| RN n<| zB fun E o=>zA<| zH (i6 d)<| zH (i6 f) ?_
 obtain ⟨h,p,c⟩:=zC c
 refine zG (aRb (j:=d) (q:=f) rfl rfl p)<| zI (i6 h)<| RN o ?_
 obtain ⟨i,c,s⟩:=zC c
 refine yG [5,9,10,11,12,13] (fun (g:Unit)=>[(5,i6 i)]) (fun g wl=>Hd O w wl S []) ?_ ?_
 ·skip
  refine zB fun F t=>zA<| zH (i6 h) ?_
  obtain ⟨u,v,c⟩:=zD c
  refine zG (zO (xH (a:=h) (b:=0) rfl rfl) v)<| RN t<| zW (b:=u) rfl (fun k=>?_) (fun k=>?_)
  ·have c:=zN k c
   refine zA ?_
   refine zH (i6 h)<| zH (i6 f) ?_
   obtain ⟨x,y,c⟩:=zD c
   refine zG (xC (a:=h) (b:=f) rfl rfl y)<| zI (i6 x) ?_
   obtain rfl:=gG c
   exact (zT (zF (meet ⟨(),(zJ rfl zK),H.pick []⟩)))
  have c:=zM k c
  obtain rfl:=gG c
  exact (zZ (zF (meet ⟨(),(zJ rfl zK),H.pick []⟩)))
 rintro _ ρ G H
 have c:=s
 refine zB fun I z=>zA<| zH (i6 d)<| zH (i6 i) ?_
 obtain ⟨A,B,c⟩:=zD c
 refine zG (kX (a:=d) (b:=i) rfl rfl B) ?_
 obtain ⟨l,C,c⟩:=zD c
 refine zG (aOj (j:=A) (q:=(-1125899906842624)) rfl rfl C)<| zI (i6 l)<| RN z ?_
 obtain rfl:=gG c
 refine (zX (gV (v1:=i6 l) rfl rfl ?_))
 exact ⟨rfl,H.pick []⟩
set_option maxRecDepth 100000 in
theorem Fb6w (d:Flight)(f:Mask)(k:Value)(l:Value)(m:Value)(r:Flight)(c:Fb6 d f=some r)(O S:List Nat)(w:World)(H:Hd O w w S [f1 fF k d.Tracks,f1 Rp.str l f.Hide,f1 dJ m f.Grains]):
  Cl 27 [.agg [sb d.Tail,sb d.Route,i6 d.Day,i6 d.From,i6 d.To,k].toArray,.agg [.bool f.Tails,i6 f.Days,l,m,i6 f.Least].toArray] w fun e y=> ∃u7,e= .returned (.agg [sb r.Tail,sb r.Route,i6 r.Day,i6 r.From,i6 r.To,u7].toArray)∧Hd O w y S [f1 fF u7 r.Tracks]:=by
 unfold Fb6 at c
 refine CW 87 Tryz.func27 ?_
 refine zB fun K8 ar=>zA<| yP rfl rfl (xJ (cs:=[sb d.Tail,sb d.Route,i6 d.Day,i6 d.From,i6 d.To,k]) rfl H) ?_
 rintro _ dr ⟨t,rfl,H⟩
 refine yP rfl rfl (xJ (cs:=[.bool f.Tails,i6 f.Days,l,m,i6 f.Least]) rfl H) ?_
 rintro _ ds ⟨z,rfl,H⟩
 refine yP rfl rfl (xI aOp H) ?_
 rintro _ dt ⟨u,rfl,H⟩
 refine RN ar ?_
 obtain ⟨o,c,au⟩:=zC c
 refine yG [12,13,14] (fun (g:Unit)=>[]) (fun g wl=>Hd O w wl S [f1 fF k d.Tracks,f1 Rp.str l f.Hide,f1 dJ m f.Grains,.blk t [sb o,sb d.Route,i6 d.Day,i6 d.From,i6 d.To,k] 47,.blk z [.bool f.Tails,i6 f.Days,l,m,i6 f.Least] 30,.blk u [.string (bs []),.string (bs []),i6 0,i6 0,i6 0,.slice none 0 0] 47]) ?_ ?_
 ·skip
  refine zB fun du av=>zA<| zG (fa30_0 rfl)<| Ld jT H 4 0 rfl rfl<| RN av<| zW (b:=f.Tails) rfl (fun K=>?_) (fun K=>?_)
  ·have c:=zN K c
   refine zA ?_
   refine zG (aJd rfl)<| yX rfl (xR H 3 rfl sz9 rfl (v:= .string (bs [])) rfl rfl rfl) ?_
   rintro dv H
   obtain rfl:=gG c
   exact (zT (zF (meet ⟨(),zK,H.pick [0,1,2,3,4,5]⟩)))
  have c:=zM K c
  obtain rfl:=gG c
  exact (zZ (zF (meet ⟨(),zK,H.pick [0,1,2,3,4,5]⟩)))
 rintro _ ρ dw H
 have c:=au
 refine zB fun dx aw=>?_
 have ax:=H
 have H:=H.rebase
 have dy:=H
 refine wH H [0,1,2,3,4,5,6,7,8,9] (kz [0,1,0,1,0,1,0,0,0,3]) mixed ?_
 refine XP (fun _ _=>aEv rfl)<| XR fG H 3 2 rfl rfl<| XP (fun _ _=>aEv rfl)<| XR fG H 3 2 rfl rfl<| XP (fun _ _=>fa30_1 rfl)<| XR fG H 4 1 rfl rfl ?_
 obtain ⟨ay,az,c⟩:=zC c
 refine XP (fun _ _=>aRb (j:=d.Day) (q:=f.Days) rfl rfl az) ?_
 obtain ⟨p,a0,c⟩:=zD c
 refine XP (fun _ _=>kX (a:=d.Day) (b:=ay) rfl rfl a0)<| XP (fun _ _=>aEv rfl)<| MxM.XL_exU oS rfl rfl (fun y A=>xR (H.sees A) 3 rfl sz3 rfl (v:=i6 p) rfl rfl rfl) ?_
 rintro y dz A H
 refine ⟨H.only,?_⟩
 refine MxM.xO fun d0 hS=>?_
 have H:=H.sees hS
 have H:=ax.rejoin H
 refine (zF (aw _ _ ?_))
 refine zB fun d1 a1=>zA<| zI (.slice none 0 0)<| RN a1 ?_
 obtain ⟨ae,c,a2⟩:=zC c
 refine yG [5,7,9,10,11,24,25,26,27,28,29,30,31,32,33,34,35,36,37,38,39,40,41,42,43,44,45,46,47,48,49,50,51,52,53,54,55,56,57,58,59,60,61,62,63,64,65,66,67,68,69,70,71,72,73,74,75,76,77,78,79,80,81,82,83] (fun (g:Value)=>[(5,g)]) (fun g wl=>Hd O w wl S [.own fF g 92 ae,f1 fF k d.Tracks,.blk t [sb o,sb d.Route,i6 p,i6 d.From,i6 d.To,k] 47,.blk u [.string (bs []),.string (bs []),i6 0,i6 0,i6 0,.slice none 0 0] 47]) ?_ ?_
 ·skip
  refine zB fun d2 a3=>zA<| zG (vT rfl)<| Ld aGl H 3 5 rfl rfl ?_
  obtain ⟨a4,a5,c⟩:=zD c
  obtain ⟨d3,d4,a6⟩:=SlF.len ((H.item (i:=0) rfl))
  refine zG (yH (yZ u45 a6) (congrArg (Value.int .i64) a5))<| zH (i6 0)<| RN a3<| yD ?_
  have H:=aS H fF 92
  unfold Fdq at c
  obtain ⟨a7,af,a8,c⟩:=yQ c
  refine xA [5,7,9,10,11,27,28,29,30,31,32,33,34,35,36,37,38,39,40,41,42,43,44,45,46,47,48,49,50,51,52,53,54,55,56,57,58,59,60,61,62,63,64,65,66,67,68,69,70,71,72,73,74,75,76,77,78,79,80,81,82,83] (fun (g:Nat×(List Track)×Int×Value)=>[(5,g.2.2.2),(27,i6 g.2.2.1)]) (fun g wl=>Hd O w wl S [.own fF g.2.2.2 92 g.2.1,f1 fF k d.Tracks,f1 Rp.str l f.Hide,f1 dJ m f.Grains,.blk t [sb o,sb d.Route,i6 p,i6 d.From,i6 d.To,k] 47,.blk z [.bool f.Tails,i6 f.Days,l,m,i6 f.Least] 30,.blk u [.string (bs []),.string (bs []),i6 0,i6 0,i6 0,.slice none 0 0] 47]∧fV a7 g.1 (g.2.1,g.2.2.1)=some ae) (fun g=>g.1) (af,[],0,.slice none 0 0) (zJ rfl (zJ rfl zK)) ⟨H.pick [6,0,1,2,3,4,5],c⟩ ?_
  clear H c
  rintro ⟨af,D,L,B⟩ ρ d5 ⟨H,c⟩
  obtain ⟨a9,rfl,c⟩:=yT c
  have c:=yV a8 c
  refine zB fun d6 ba=>zA ?_
  obtain ⟨bb,bc,c⟩:=zD c
  refine zG (zO (xH (a:=L) (b:=a4) rfl rfl) bc)<| RN ba<| zB fun d7 bd=>zW (b:=bb) rfl (fun M=>?_) (fun M=>?_)
  ·have c:=zN M c
   refine zZ (zF (bd _ _ ?_))
   obtain ⟨ag,c,be⟩:=zC c
   refine yG [5,7,9,10,11,29,30,31,32,33,34,35,36,37,38,39,40,41,42,43,44,45,46,47,48,49,50,51,52,53,54,55,56,57,58,59,60,61,62,63,64,65,66,67,68,69,70,71,72,73,74,75,76,77,78,79,80,81,82] (fun (g:Value)=>[(5,g)]) (fun g wl=>Hd O w wl S [.own fF g 92 ag,f1 fF k d.Tracks,f1 Rp.str l f.Hide,f1 dJ m f.Grains,.blk t [sb o,sb d.Route,i6 p,i6 d.From,i6 d.To,k] 47,.blk z [.bool f.Tails,i6 f.Days,l,m,i6 f.Least] 30,.blk u [.string (bs []),.string (bs []),i6 0,i6 0,i6 0,.slice none 0 0] 47]) ?_ ?_
   ·skip
    refine yD ?_
    refine zB fun d8 bf=>zA ?_
    obtain ⟨h,P,c⟩:=zC c
    obtain ⟨bg,bh,d9,ea,bi,bj,bk,bl,bm⟩:=wJ (H.item (i:=1) rfl) P
    obtain ⟨I,rfl,bn⟩:=bY bj
    have H:=H.fzs [.at bg (bh+L.toNat * 4) _,.sl fM I h.Series.Samples] ⟨⟨bk,bl,bm⟩,bn,trivial⟩
    refine zG (yS u45 qR bi rfl (zU P).1 (zU P).2.1 rfl rfl)<| zG (yH (yI (cs:=[sb h.Name,i6 h.Series.Den,I,i6 h.Long]) aFu rfl qR rfl (H.item (i:=7) rfl).2.2) rfl)<| yP rfl rfl (xI aHu H) ?_
    rintro _ eb ⟨E,rfl,H⟩
    refine yX rfl (yU (vs:=[sb h.Name,i6 h.Series.Den,I,i6 h.Long]) H 9 rfl qR rfl rfl rfl ⟨rfl,rfl,(dG (H.item (i:=8) rfl)),rfl,trivial⟩ rfl) ?_
    rintro ec H
    refine RN bf<| zB fun ed bo=>zB fun ee bp=>zA<| zG (fa30_2 rfl)<| Ld jJ H 5 2 rfl rfl<| zG (vJ rfl)<| Ld dX H 9 0 rfl rfl ?_
    have bq:=H
    obtain ⟨br,bt,c⟩:=zC c
    refine yB rfl rfl (zY en48 rfl) (Fafw f.Hide h.Name l _ bt _ _ _ (H.enter [] [2])) ?_
    rintro _ ef ⟨rfl,bu⟩
    have H:=bq.step (bu.only:Only [] _ _)
    refine ⟨_,rfl,?_⟩
    refine RN bp<| zW (b:=br) rfl (fun Q=>?_) (fun Q=>?_)
    ·have c:=zN Q c
     obtain rfl:=gG c
     exact (xE (yK (yR (zF (meet ⟨B,(zJ rfl zK),H.pick [0,1,2,3,4,5,6]⟩)))))
    have c:=zM Q c
    refine zZ (zF (bo _ _ ?_))
    refine zB fun eg bv=>zA<| zG (vK rfl)<| zG (nZ rfl)<| Ld uX H 9 2 rfl rfl ?_
    obtain ⟨bw,bx,c⟩:=zC c
    refine yB rfl rfl (zY en55 rfl) (Fc3w h.Series.Samples I _ bx _ _ _ (H.enter [] [8])) ?_
    rintro _ eh ⟨n,rfl,bz⟩
    have H:=H.back1 [8] rfl bz
    refine ⟨_,rfl,?_⟩
    refine zG (vK rfl)<| zG (nZ rfl)<| yX rfl (xR H 9 rfl sz88 rfl (v:=n) rfl (bQ (H.item (i:=10) rfl)) rfl) ?_
    rintro ei H
    refine RN bv ?_
    obtain ⟨J,c,b0⟩:=zC c
    refine yG [9,10,11,42,43,44,45,46,47,48,49,50,51,52,53,54,55,56,57,58,59,60,61,62,63,64,65,66,67,68,69,70,71,72,73,74,75,76,77,78] (fun (g:Unit)=>[]) (fun g wl=>Hd O w wl S [.own fF B 92 D,f1 fF k d.Tracks,f1 Rp.str l f.Hide,f1 dJ m f.Grains,.blk t [sb o,sb d.Route,i6 p,i6 d.From,i6 d.To,k] 47,.blk z [.bool f.Tails,i6 f.Days,l,m,i6 f.Least] 30,.blk u [.string (bs []),.string (bs []),i6 0,i6 0,i6 0,.slice none 0 0] 47,.blk E [sb h.Name,i6 h.Series.Den,n,i6 h.Long] 92,.own fM n 94 J]) ?_ ?_
    ·skip
     refine zB fun ej b1=>zA<| zG (aIy rfl)<| Ld aPv H 5 3 rfl rfl ?_
     obtain ⟨b2,b3,c⟩:=zD c
     obtain ⟨ek,el,b4⟩:=SlF.len ((H.item (i:=3) rfl))
     refine zG (yH (yZ u28 b4) (congrArg (Value.int .i64) b3))<| zH (i6 0)<| RN b1<| yD ?_
     unfold Fdw at c
     obtain ⟨b5,ah,b6,c⟩:=yQ c
     refine xA [9,10,11,45,46,47,48,49,50,51,52,53,54,55,56,57,58,59,60,61,62,63,64,65,66,67,68,69,70,71,72,73,74,75,76,77,78] (fun (g:Nat×Int×(List fB))=>[(45,i6 g.2.1)]) (fun g wl=>Hd O w wl S [.own fF B 92 D,f1 fF k d.Tracks,f1 Rp.str l f.Hide,f1 dJ m f.Grains,.blk t [sb o,sb d.Route,i6 p,i6 d.From,i6 d.To,k] 47,.blk z [.bool f.Tails,i6 f.Days,l,m,i6 f.Least] 30,.blk u [.string (bs []),.string (bs []),i6 0,i6 0,i6 0,.slice none 0 0] 47,.blk E [sb h.Name,i6 h.Series.Den,n,i6 h.Long] 92,.own fM n 94 g.2.2]∧fV b5 g.1 (g.2.1,g.2.2)=some J) (fun g=>g.1) (ah,0,bw) (zJ rfl zK) ⟨H.pick [0,1,2,3,4,5,6,9,10],c⟩ ?_
     clear H c
     rintro ⟨ah,R,b7⟩ ρ em ⟨H,c⟩
     obtain ⟨b8,rfl,c⟩:=yT c
     have c:=yV b6 c
     refine zB fun en b9=>zA ?_
     obtain ⟨ca,cb,c⟩:=zD c
     refine zG (zO (xH (a:=R) (b:=b2) rfl rfl) cb)<| RN b9<| zB fun eo cc=>zW (b:=ca) rfl (fun T=>?_) (fun T=>?_)
     ·have c:=zN T c
      refine zZ (zF (cc _ _ ?_))
      obtain ⟨U,c,cd⟩:=zC c
      refine yG [9,10,11,47,48,49,50,51,52,53,54,55,56,57,58,59,60,61,62,63,64,65,66,67,68,69,70,71,72,73,74,75,76,77] (fun (g:Unit)=>[]) (fun g wl=>Hd O w wl S [.own fF B 92 D,f1 fF k d.Tracks,f1 Rp.str l f.Hide,f1 dJ m f.Grains,.blk t [sb o,sb d.Route,i6 p,i6 d.From,i6 d.To,k] 47,.blk z [.bool f.Tails,i6 f.Days,l,m,i6 f.Least] 30,.blk u [.string (bs []),.string (bs []),i6 0,i6 0,i6 0,.slice none 0 0] 47,.blk E [sb h.Name,i6 h.Series.Den,n,i6 h.Long] 92,.own fM n 94 U]) ?_ ?_
      ·skip
       refine yD ?_
       refine zB fun ep ce=>zA ?_
       obtain ⟨s,V,c⟩:=zC c
       obtain ⟨cf,cg,er,es,ch,ci,cj,ck,cl⟩:=wJ (H.item (i:=3) rfl) V
       obtain rfl:=sH ci
       have H:=H.fz (.at cf (cg+R.toNat * 2) _) ⟨cj,ck,cl⟩
       refine zG (yS u28 aIo ch rfl (zU V).1 (zU V).2.1 rfl rfl)<| zG (yH (yI (cs:=[sb s.Track,i6 s.N]) agg86 rfl aIo rfl (H.item (i:=9) rfl).2.2) rfl)<| yP rfl rfl (xI zero86 H) ?_
       rintro _ et ⟨ai,rfl,H⟩
       refine yX rfl (yU (vs:=[sb s.Track,i6 s.N]) H 10 rfl aIo rfl rfl rfl ⟨rfl,rfl,trivial⟩ rfl) ?_
       rintro eu H
       refine RN ce<| zB fun ew cm=>zB fun ex cn=>zA<| zG (aHt rfl)<| Ld dX H 10 0 rfl rfl<| zG (vJ rfl)<| Ld dX H 7 0 rfl rfl ?_
       obtain ⟨cp,cq,c⟩:=zD c
       refine zG (zO (aCy (s1:=s.Track) (s2:=h.Name) rfl rfl) cq)<| RN cn<| zW (b:=cp) rfl (fun X=>?_) (fun X=>?_)
       ·have c:=zN X c
        obtain rfl:=gG c
        exact (xE (yK (yR (zF (meet ⟨(),zK,H.pick [0,1,2,3,4,5,6,7,8]⟩)))))
       have c:=zM X c
       refine zZ (zF (cm _ _ ?_))
       refine zB fun ey cr=>zA<| zG (vK rfl)<| zG (nZ rfl)<| Ld uX H 7 2 rfl rfl ?_
       obtain ⟨ct,cu,c⟩:=zD c
       obtain ⟨ez,e0,cv⟩:=Sr.len (Sr.of_own (H.item (i:=8) rfl))
       refine zG (yH (yZ u88 cv) (congrArg (Value.int .i64) cu))<| zH (i6 0)<| RN cr<| yD ?_
       unfold Fdv at c
       obtain ⟨cw,aj,cx,c⟩:=yQ c
       refine xA [10,11,58,59,60,61,62,63,64,65,66,67,68,69,70,71,72,73,74,75,76,77] (fun (g:Nat×Int×(List fB))=>[(58,i6 g.2.1)]) (fun g wl=>Hd O w wl S [.own fF B 92 D,f1 fF k d.Tracks,f1 Rp.str l f.Hide,f1 dJ m f.Grains,.blk t [sb o,sb d.Route,i6 p,i6 d.From,i6 d.To,k] 47,.blk z [.bool f.Tails,i6 f.Days,l,m,i6 f.Least] 30,.blk u [.string (bs []),.string (bs []),i6 0,i6 0,i6 0,.slice none 0 0] 47,.blk E [sb h.Name,i6 h.Series.Den,n,i6 h.Long] 92,.own fM n 94 g.2.2,.blk ai [sb s.Track,i6 s.N] 86]∧fV cw g.1 (g.2.1,g.2.2)=some U) (fun g=>g.1) (aj,0,b7) (zJ rfl zK) ⟨H.pick [0,1,2,3,4,5,6,7,8,10],c⟩ ?_
       clear H c
       rintro ⟨aj,F,e1⟩ ρ e2 ⟨H,c⟩
       obtain ⟨cy,rfl,c⟩:=yT c
       have c:=yV cx c
       refine zB fun e3 cz=>zA ?_
       obtain ⟨c0,c1,c⟩:=zD c
       refine zG (zO (xH (a:=F) (b:=ct) rfl rfl) c1)<| RN cz<| zB fun e4 c2=>zW (b:=c0) rfl (fun Y=>?_) (fun Y=>?_)
       ·have c:=zN Y c
        refine zZ (zF (c2 _ _ ?_))
        obtain ⟨ak,c,c3⟩:=zC c
        refine yG [10,11,60,61,62,63,64,65,66,67,68,69,70,71,72,73,74,75,76] (fun (g:Unit)=>[]) (fun g wl=>Hd O w wl S [.own fF B 92 D,f1 fF k d.Tracks,f1 Rp.str l f.Hide,f1 dJ m f.Grains,.blk t [sb o,sb d.Route,i6 p,i6 d.From,i6 d.To,k] 47,.blk z [.bool f.Tails,i6 f.Days,l,m,i6 f.Least] 30,.blk u [.string (bs []),.string (bs []),i6 0,i6 0,i6 0,.slice none 0 0] 47,.blk E [sb h.Name,i6 h.Series.Den,n,i6 h.Long] 92,.own fM n 94 ak,.blk ai [sb s.Track,i6 s.N] 86]) ?_ ?_
        ·skip
         refine yD ?_
         refine zB fun e5 c4=>zA<| zH (i6 F) ?_
         obtain ⟨C,Z,c⟩:=zC c
         obtain ⟨e6,e7,e8,c5,c6,c7⟩:=bH (H.item (i:=8) rfl) Z
         obtain rfl:=dY c6
         refine zG (yS u88 mZ c5 rfl (zU Z).1 (zU Z).2.1 rfl rfl)<| zG (yH (yI (cs:=[i6 C.At,i6 C.N,i6 C.Mark]) aAl rfl mZ rfl c7) rfl)<| yP rfl rfl (xI aFw H) ?_
         rintro _ e9 ⟨fa,rfl,H⟩
         refine zI (i6 F)<| yX rfl (yU (vs:=[i6 C.At,i6 C.N,i6 C.Mark]) H 10 rfl mZ rfl rfl rfl ⟨rfl,rfl,rfl,trivial⟩ rfl) ?_
         rintro fb H
         refine RN c4<| zB fun fc c8=>zA<| zG (aJq rfl)<| Ld fG H 10 2 rfl rfl ?_
         obtain ⟨c9,da,c⟩:=zD c
         refine zG (zO (aN (a:=C.Mark) (b:=2) rfl rfl) da)<| RN c8<| zW (b:=c9) rfl (fun aa=>?_) (fun aa=>?_)
         ·have c:=zN aa c
          have db:=H
          have H:=H.rebase
          have fd:=H
          refine wH H [0,1,2,3,4,5,6,7,8,9,10,11] (kz [0,0,1,0,0,1,0,1,4,0,0,3]) mixed ?_
          refine XP (fun _ _=>vK rfl)<| XP (fun _ _=>nZ rfl)<| XR uX H 7 2 rfl rfl<| XM (i6 F)<| XP (fun _ _=>aEj rfl)<| XR fG H 10 1 rfl rfl<| XP (fun _ _=>fa86_1 rfl)<| XR fG H 9 1 rfl rfl ?_
          have dc:=H
          obtain ⟨ab,dd,c⟩:=zC c
          refine MxM.XL_fcall oS rfl rfl rfl (v:=i6 ab) (fun y A=>zY en56 rfl) (fun y A=>dV (Fb0w C.N s.N _ dd _ _ _ (Hd.fresh0 y))) ?_
          have H:=dc
          obtain ⟨al,ac,c⟩:=zC c
          obtain ⟨fe,ff,fg,am,de,df⟩:=bH (H.item (i:=8) rfl) ac
          obtain rfl:=dY de
          refine XP (fun _ _=>yS u88 mZ am rfl (zU ac).1 (zU ac).2.1 rfl rfl)<| XP (fun _ _=>aEj rfl) ?_
          obtain ⟨fh,dg,c⟩:=zC c
          refine MxM.XL_exU oS rfl rfl (fun y A=>bG (vs:=[i6 ab]) (off:=1) (H.sees A) 8 rfl am (df.sees A) rfl sz3 rfl rfl rfl (dH ⟨rfl,trivial⟩) dg (by decide) rfl (aOk (x:=fB.mk al.At ab al.Mark))) ?_
          rintro y fi A H
          refine ⟨H.only,?_⟩
          refine MxM.xO fun fj hS=>?_
          have H:=H.sees hS
          have H:=db.rejoin H
          obtain rfl:=gG c
          exact (yJ (zF (meet ⟨(),zK,H.pick [0,1,2,3,4,5,6,7,8,9]⟩)))
         have c:=zM aa c
         obtain rfl:=gG c
         exact (zZ (yJ (zF (meet ⟨(),zK,H.pick [0,1,2,3,4,5,6,7,8,9]⟩))))
        rintro _ ρ fk H
        have c:=c3
        refine zA ?_
        obtain ⟨an,dh,c⟩:=zD c
        refine zG (xC (a:=F) (b:=1) rfl rfl dh)<| zH (i6 an) ?_
        exact (zT (zF (meet ⟨(cy,an,ak),(zJ rfl zK),⟨H.pick [0,1,2,3,4,5,6,7,8,9],c⟩,Nat.lt_succ_self _⟩)))
       have c:=zM Y c
       obtain rfl:=gG c
       exact (xE (yK (yK (yR (yJ (zF (meet ⟨(),zK,H.pick [0,1,2,3,4,5,6,7,8]⟩)))))))
      rintro _ ρ fm H
      have c:=cd
      refine zA ?_
      obtain ⟨ao,di,c⟩:=zD c
      refine zG (xC (a:=R) (b:=1) rfl rfl di)<| zH (i6 ao) ?_
      exact (zT (zF (meet ⟨(b8,ao,U),(zJ rfl zK),⟨H.pick [0,1,2,3,4,5,6,7,8],c⟩,Nat.lt_succ_self _⟩)))
     have c:=zM T c
     obtain rfl:=gG c
     exact (xE (yK (yK (yR (zF (meet ⟨(),zK,H.pick [0,1,2,3,4,5,6,7,8]⟩))))))
    rintro _ ρ fn H
    have c:=b0
    refine zA ?_
    refine zH B<| zG (yH (yI (cs:=[sb h.Name,i6 h.Series.Den,n,i6 h.Long]) aFu rfl qR rfl (Hbc H 7 rfl)) rfl) ?_
    have H:=H.freeze (i:=8) rfl
    obtain ⟨fo,dj,c⟩:=zD c
    subst dj
    refine yP rfl rfl (jK (r:=fF) (xl:=[Track.mk h.Name (Series.mk h.Series.Den J) h.Long]) (cs:=[sb h.Name,i6 h.Series.Den,n,i6 h.Long]) u45 el92 (by decide) (by decide) rfl (xP (vs:=[.agg [sb h.Name,i6 h.Series.Den,n,i6 h.Long].toArray]) (by decide) rfl rfl ⟨rfl,trivial⟩ rfl) H ⟨[sb h.Name,i6 h.Series.Den,n,i6 h.Long],[],rfl,(uI (x:=Track.mk h.Name (Series.mk h.Series.Den J) h.Long) (H.item (i:=8) rfl)),rfl⟩) ?_
    rintro fp fq H
    obtain ⟨fr,dk,c⟩:=zC c
    refine yP rfl rfl (kC H (i:=0) rfl u45 el92 rfl rfl (Sr.of_own (H.item (i:=9) rfl)) dk) ?_
    rintro ap fs H
    refine zI ap ?_
    obtain rfl:=gG c
    exact (zT (yJ (zF (meet ⟨ap,(zJ rfl zK),H.pick [0,1,2,3,4,5,6]⟩))))
   rintro dl ρ ft H
   have c:=be
   refine zA ?_
   obtain ⟨aq,dm,c⟩:=zD c
   refine zG (xC (a:=L) (b:=1) rfl rfl dm)<| zH (i6 aq) ?_
   exact (zT (zF (meet ⟨(a9,ag,aq,dl),(zJ rfl (zJ rfl zK)),⟨H.pick [0,1,2,3,4,5,6],c⟩,Nat.lt_succ_self _⟩)))
  have c:=zM M c
  obtain rfl:=gG c
  exact (xE (yK (yK (yR (zF (meet ⟨B,(zJ rfl zK),H.pick [0,1,4,6]⟩))))))
 rintro G ρ fu H
 have c:=a2
 refine zB fun fv dn=>zA<| zH G<| zG (vT rfl)<| yX rfl (xR H 2 rfl sz45 rfl (v:=G) rfl (bQ (H.item (i:=0) rfl)) rfl) ?_
 rintro fw H
 refine RN dn<| zB fun fx dp=>zA<| zG (yH (yI (cs:=[sb o,sb d.Route,i6 p,i6 d.From,i6 d.To,G]) sF rfl tC rfl (Hbc H 2 rfl)) rfl)<| yX rfl (yU (vs:=[sb o,sb d.Route,i6 p,i6 d.From,i6 d.To,G]) H 3 rfl tC rfl rfl rfl ⟨rfl,rfl,rfl,rfl,rfl,(bQ (H.item (i:=0) rfl)),trivial⟩ rfl) ?_
 rintro fy H
 refine RN dp ?_
 have H:=H.freeze (i:=0) rfl
 obtain rfl:=gG c
 refine (zX (postc rfl rfl (xK sF tC rfl (Hbc H 3 rfl)) ?_))
 exact ⟨G,rfl,H.pick [0]⟩
theorem Fc0w (a:Int)(r:Str)(b:Fc0 a=some r)(O S:List Nat)(w:World)(H:Hd O w w S [.fz (.at 1 0 ((Fl.arr 20 (Fl.int .u64)).f zS))]):
  Cl 94 [i6 a] w fun e d=>e= .returned (sb r)∧Hd O w d S []:=by
 unfold Fc0 at b
 refine CW 5 Tryz.func94 ?_
 refine zB fun m h=>zA<| zI (.string (bs []))<| RN h<| zB fun n i=>zA<| zH (i6 a) ?_
 have j:=H
 obtain ⟨c,k,b⟩:=zC b
 refine yB rfl rfl (zY en117 rfl) (E.Fb3w a 10 _ k _ _ _ (H.enter [] [0])) ?_
 rintro _ o ⟨rfl,l⟩
 have H:=j.step (l.only:Only [] _ _)
 refine ⟨_,rfl,?_⟩
 refine zI (sb c)<| RN i ?_
 obtain rfl:=gG b
 refine (zX (gV (v1:=sb c) rfl rfl ?_))
 exact ⟨rfl,H.pick []⟩
theorem Fcmw (a:Int)(r:Str)(b:Fcm a=some r)(O S:List Nat)(w:World)(H:Hd O w w S [.fz (.at 1 0 ((Fl.arr 20 (Fl.int .u64)).f zS))]):
  Cl 57 [i6 a] w fun e d=>e= .returned (sb r)∧Hd O w d S []:=by
 unfold Fcm at b
 refine CW 5 Tryz.func57 ?_
 refine zB fun m h=>zA<| zI (.string (bs []))<| RN h<| zB fun n i=>zA<| zH (i6 a) ?_
 have j:=H
 obtain ⟨c,k,b⟩:=zC b
 refine yB rfl rfl (zY en94 rfl) (Fc0w a _ k _ _ _ (H.enter [] [0])) ?_
 rintro _ o ⟨rfl,l⟩
 have H:=j.step (l.only:Only [] _ _)
 refine ⟨_,rfl,?_⟩
 refine zI (sb c)<| RN i ?_
 obtain rfl:=gG b
 refine (zX (gV (v1:=sb c) rfl rfl ?_))
 exact ⟨rfl,H.pick []⟩
theorem Fapw (d:Flight)(h:Int)(v1:Value)(r:Str)(c:Fap d h=some r)(O S:List Nat)(w:World)(H:Hd O w w S [f1 fF v1 d.Tracks,.fz (.at 1 0 ((Fl.arr 20 (Fl.int .u64)).f zS))]):
  Cl 28 [.agg [sb d.Tail,sb d.Route,i6 d.Day,i6 d.From,i6 d.To,v1].toArray,i6 h] w fun e p=>e= .returned (sb r)∧Hd O w p S []:=by
 unfold Fap at c
 refine CW 19 Tryz.func28 ?_
 refine zB fun J q=>zA<| yP rfl rfl (xJ (cs:=[sb d.Tail,sb d.Route,i6 d.Day,i6 d.From,i6 d.To,v1]) rfl H) ?_
 rintro _ K ⟨L,rfl,H⟩
 refine zI (.string (bs []))<| RN q<| zB fun M s=>zB fun N t=>zA<| zH (i6 h)<| RN t<| yD<| zB fun P u=>zA ?_
 obtain ⟨l,v,c⟩:=zD c
 refine zG (zO (yY (a:=h) (b:=2) rfl rfl) v)<| zI (.bool l)<| RN u<| zW (b:=l) rfl (fun i=>?_) (fun i=>?_)
 ·have c:=zN i c
  refine zB fun Q x=>zA<| zG (aJd rfl)<| Ld dX H 2 0 rfl rfl<| zI (sb d.Tail)<| RN x ?_
  obtain rfl:=gG c
  refine (zX (yA (zQ (gV (v1:=sb d.Tail) rfl rfl ?_))))
  exact ⟨rfl,H.pick []⟩
 have c:=zM i c
 refine zB fun R y=>zA ?_
 obtain ⟨m,z,c⟩:=zD c
 refine zG (zO (yY (a:=h) (b:=3) rfl rfl) z)<| zI (.bool m)<| RN y<| zW (b:=m) rfl (fun j=>?_) (fun j=>?_)
 ·have c:=zN j c
  refine zB fun T A=>zA<| zG (fa47_1 rfl)<| Ld dX H 2 1 rfl rfl<| zI (sb d.Route)<| RN A ?_
  obtain rfl:=gG c
  refine (zX (yA (zQ (gV (v1:=sb d.Route) rfl rfl ?_))))
  exact ⟨rfl,H.pick []⟩
 have c:=zM j c
 refine zB fun U B=>zA ?_
 obtain ⟨n,C,c⟩:=zD c
 refine zG (zO (yY (a:=h) (b:=4) rfl rfl) C)<| zI (.bool n)<| RN B<| zW (b:=n) rfl (fun k=>?_) (fun k=>?_)
 ·have c:=zN k c
  refine zB fun V D=>zA<| zG (aEv rfl)<| Ld fG H 2 2 rfl rfl ?_
  have E:=H
  obtain ⟨o,F,c⟩:=zC c
  refine yB rfl rfl (zY en57 rfl) (Fcmw d.Day _ F _ _ _ (H.enter [] [1])) ?_
  rintro _ X ⟨rfl,G⟩
  have H:=E.step (G.only:Only [] _ _)
  refine ⟨_,rfl,?_⟩
  refine zI (sb o)<| RN D ?_
  obtain rfl:=gG c
  refine (zX (yA (zQ (gV (v1:=sb o) rfl rfl ?_))))
  exact ⟨rfl,H.pick []⟩
 have c:=zM k c
 refine (zZ (yJ (zF (s _ _ ?_))))
 refine zB fun Y I=>zA<| zI (.string (bs []))<| RN I ?_
 obtain rfl:=gG c
 refine (zX (gV (v1:= .string (bs [])) rfl rfl ?_))
 exact ⟨rfl,H.pick []⟩
theorem Fcqw (d:Cond)(j:List Str)(v1:Value)(f:Nat)(h:Value)(r:Int×(List Str))(c:Fcq d j=some r)(O S:List Nat)(w:World)(H:Hd O w w S [.own Rp.str h 9 j,.blk f [h] 23,f1 fO v1 d.Kids]):
  Cl 172 [.agg [i6 d.Kind,sb d.Name,sb d.Other,i6 d.Op,i6 d.N,i6 d.Frames,v1].toArray,gX f] w fun e u=> ∃n,e= .returned (i6 r.1)∧Hd O w u S [.own Rp.str n 9 r.2,.blk f [n] 23]:=by
 unfold Fcq at c
 refine CW 23 Tryz.func172 ?_
 refine zB fun T x=>zA<| yP rfl rfl (xJ (cs:=[i6 d.Kind,sb d.Name,sb d.Other,i6 d.Op,i6 d.N,i6 d.Frames,v1]) rfl H) ?_
 rintro _ U ⟨y,rfl,H⟩
 refine zI (i6 0)<| RN x ?_
 obtain ⟨z,c,A⟩:=zC c
 refine yG [4,5,6,7,8,9,10,11,12,13,14,15,16,17,18,19,20,21,22] (fun (g:Value)=>[]) (fun g wl=>Hd O w wl S [.own Rp.str g 9 z,.blk f [g] 23]) ?_ ?_
 ·skip
  refine zB fun V B=>zA<| zG (mF rfl)<| Ld fG H 3 0 rfl rfl<| RN B<| yD ?_
  obtain ⟨o,c,C⟩:=zC c
  refine yG [6,7,8] (fun (g:Unit)=>[(6,.bool o)]) (fun g wl=>Hd O w wl S [.own Rp.str h 9 j,.blk f [h] 23,f1 fO v1 d.Kids,.blk y [i6 d.Kind,sb d.Name,sb d.Other,i6 d.Op,i6 d.N,i6 d.Frames,v1] 110]) ?_ ?_
  ·skip
   refine zB fun X D=>zA ?_
   obtain ⟨p,E,c⟩:=zD c
   refine zG (zO (yY (a:=d.Kind) (b:=3) rfl rfl) E)<| zI (.bool p)<| RN D<| zW (b:=p) rfl (fun k=>?_) (fun k=>?_)
   ·have c:=zN k c
    obtain rfl:=gG c
    exact (zZ (zF (meet ⟨(),(zJ rfl zK),H.pick [0,1,2,3]⟩)))
   have c:=zM k c
   refine zA ?_
   obtain ⟨F,G,c⟩:=zD c
   refine zG (zO (yY (a:=d.Kind) (b:=5) rfl rfl) G)<| zI (.bool F) ?_
   obtain rfl:=gG c
   exact (zT (zF (meet ⟨(),(zJ rfl zK),H.pick [0,1,2,3]⟩)))
  rintro _ ρ Y H
  have c:=C
  refine zW (b:=o) rfl (fun l=>?_) (fun l=>?_)
  ·have c:=zN l c
   refine zA ?_
   refine Ld jJ H 1 0 rfl rfl<| zG (jG rfl)<| Ld dX H 3 1 rfl rfl ?_
   obtain ⟨Z,I,c⟩:=zD c
   subst I
   refine yP rfl rfl (jK (r:=Rp.str) (xl:=[d.Name]) (cs:=[sb d.Name]) u23 el9 (by decide) (by decide) rfl (xP (vs:=[sb d.Name]) (by decide) rfl rfl ⟨rfl,trivial⟩ rfl) H ⟨[sb d.Name],[],rfl,rfl,rfl⟩) ?_
   rintro aa ab H
   obtain ⟨ac,J,c⟩:=zC c
   refine yP rfl rfl (kC H (i:=0) rfl u23 el9 rfl rfl (Sr.of_own (H.item (i:=4) rfl)) J) ?_
   rintro q ad H
   refine yX rfl (xR H 1 rfl sz23 rfl (v:=q) rfl (bQ (H.item (i:=0) rfl)) rfl) ?_
   rintro ae H
   obtain rfl:=gG c
   exact (zT (yJ (zF (meet ⟨q,zK,H.pick [0,1]⟩))))
  have c:=zM l c
  refine zB fun af K=>zA ?_
  obtain ⟨s,L,c⟩:=zD c
  refine zG (zO (yY (a:=d.Kind) (b:=4) rfl rfl) L)<| zI (.bool s)<| RN K<| zW (b:=s) rfl (fun m=>?_) (fun m=>?_)
  ·have c:=zN m c
   refine zA ?_
   refine Ld jJ H 1 0 rfl rfl<| zG (jG rfl)<| Ld dX H 3 1 rfl rfl<| zG (aDk rfl)<| Ld dX H 3 2 rfl rfl ?_
   obtain ⟨ag,M,c⟩:=zD c
   subst M
   refine yP rfl rfl (jK (r:=Rp.str) (xl:=[d.Name,d.Other]) (cs:=[sb d.Name,sb d.Other]) u23 el9 (by decide) (by decide) rfl (xP (vs:=[sb d.Name,sb d.Other]) (by decide) rfl rfl ⟨rfl,rfl,trivial⟩ rfl) H ⟨[sb d.Name],[sb d.Other],rfl,rfl,⟨[sb d.Other],[],rfl,rfl,rfl⟩⟩) ?_
   rintro ah ai H
   obtain ⟨aj,P,c⟩:=zC c
   refine yP rfl rfl (kC H (i:=0) rfl u23 el9 rfl rfl (Sr.of_own (H.item (i:=4) rfl)) P) ?_
   rintro t ak H
   refine yX rfl (xR H 1 rfl sz23 rfl (v:=t) rfl (bQ (H.item (i:=0) rfl)) rfl) ?_
   rintro al H
   obtain rfl:=gG c
   exact (zT (yJ (zF (meet ⟨t,zK,H.pick [0,1]⟩))))
  have c:=zM m c
  obtain rfl:=gG c
  exact (zZ (yJ (zF (meet ⟨h,zK,H.pick [0,1]⟩))))
 rintro Q ρ am H
 have c:=A
 refine zB fun an R=>zA<| zI (i6 0)<| RN R ?_
 obtain rfl:=gG c
 refine (zX (gV (v1:=i6 0) rfl rfl ?_))
 exact ⟨Q,rfl,H.pick [0,1]⟩
abbrev Ffe (f:Cond→(List Str)→Option (Int×(List Str))):Prop:= ∀(p0:Cond) (p1c0:List Str) (v1:Value) (b3:Nat) (v4:Value) (r:Int×(List Str)) (_:f p0 p1c0=some r) (O S:List Nat) (w:World) (_:Hd O w w S [.own Rp.str v4 9 p1c0,.blk b3 [v4] 23,f1 fO v1 p0.Kids]),
  Cl 87 [.agg [i6 p0.Kind,sb p0.Name,sb p0.Other,i6 p0.Op,i6 p0.N,i6 p0.Frames,v1].toArray,.func (.func 172) #[] #[gX b3]] w fun e w'=> ∃u7,e= .returned (i6 r.1)∧Hd O w w' S [.own Rp.str u7 9 r.2,.blk b3 [u7] 23]
end Go.Proofs.YthllgjnlmjpinaaGreatDoor.L
