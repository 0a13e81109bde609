/- Walks: what each function computes, for every argument; no condition but those that stand in the statements. -/
import Derived.Test.YthllgjnlmjpinaaGreatDoorUV0
import Derived.Test.YthllgjnlmjpinaaGreatDoorUV3
import Derived.Test.YthllgjnlmjpinaaGreatDoorXVs
import Derived.Test.YthllgjnlmjpinaaGreatDoorUV1
namespace Go.Proofs.YthllgjnlmjpinaaGreatDoor.L
open Go.RowKit Go.OB Go.Lf
set_option maxHeartbeats 4000000
theorem Fdiw (rfE:Cond→(List Str)→Option (Int×(List Str)))(rhE:Ffe rfE)(d:Cond)(p1c0:List Str)(v1:Value)(h:Nat)(m:Value)(r:Int×(List Str))(c:Fdi rfE d p1c0=some r)(O S:List Nat)(w:World)(H:Hd O w w S [.own Rp.str m 9 p1c0,.blk h [m] 23,f1 fO v1 d.Kids]):
  Cl 87 [.agg [i6 d.Kind,sb d.Name,sb d.Other,i6 d.Op,i6 d.N,i6 d.Frames,v1].toArray,.func (.func 172) #[] #[gX h]] w fun e B=> ∃t,e= .returned (i6 r.1)∧Hd O w B S [.own Rp.str t 9 r.2,.blk h [t] 23]:=by
 unfold Fdi at c
 refine CW 29 Tryz.func87 ?_
 refine zB fun K8 C=>zA<| yP rfl rfl (xJ (cs:=[i6 d.Kind,sb d.Name,sb d.Other,i6 d.Op,i6 d.N,i6 d.Frames,v1]) rfl H) ?_
 rintro _ a2 ⟨b9,rfl,H⟩
 refine zI (i6 0)<| RN C<| zB fun a4 D=>zB fun a5 E=>zA<| zH (.func (.func 172) #[] #[gX h])<| zG (yH (yI (cs:=[i6 d.Kind,sb d.Name,sb d.Other,i6 d.Op,i6 d.N,i6 d.Frames,v1]) dQ rfl dI rfl (Hbc H 3 rfl)) rfl) ?_
 obtain ⟨⟨j,F⟩,G,c⟩:=zC c
 refine yB rfl rfl (bP en172 rfl rfl) (Fcqw d p1c0 v1 h m _ G _ _ _ (H.enter [0,1] [2])) ?_
 rintro _ a6 ⟨u,rfl,I⟩
 have H:Hd _ _ _ _ [_,_,_,_]:=H.back [0,1] [2] rfl I
 refine ⟨_,rfl,?_⟩
 refine zI (i6 j)<| RN E<| zB fun a7 J=>zA<| zH (i6 j) ?_
 obtain ⟨K,L,c⟩:=zD c
 refine zG (zO (eX (a:=j) (b:=0) rfl rfl) L)<| RN J<| zW (b:=K) rfl (fun n=>?_) (fun n=>?_)
 ·have c:=zN n c
  refine zB fun a8 M=>zA<| zH (i6 j)<| zI (i6 j)<| RN M ?_
  obtain rfl:=gG c
  refine (zX (zQ (gV (v1:=i6 j) rfl rfl ?_)))
  exact ⟨u,rfl,H.pick [2,3]⟩
 have c:=zM n c
 refine zZ (zF (D _ _ ?_))
 obtain ⟨P,Q,c⟩:=xW c
 refine yG [4,7,8,15,16,17,18,19,20,21,22,23,24,25,26,27,28] (fun (g:(List Str)×Value)=>[]) (fun g wl=>Hd O w wl S [.blk h [g.2] 23,.own Rp.str g.2 9 g.1]∧P g.1=some r) ?_ ?_
 ·skip
  refine zB fun a9 R=>zA<| zG (rO rfl)<| Ld vC H 1 6 rfl rfl ?_
  obtain ⟨T,U,c⟩:=zD c
  obtain ⟨ba,bb,V⟩:=SlF.len ((H.item (i:=0) rfl))
  refine zG (yH (yZ aBf V) (congrArg (Value.int .i64) U))<| zH (i6 0)<| RN R<| yD ?_
  unfold Fe9 at c
  obtain ⟨X,v,Y,c⟩:=yQ c
  refine xA [4,7,8,18,19,20,21,22,23,24,25,26,27,28] (fun (g:Nat×Int×(List Str)×Value)=>[(18,i6 g.2.1)]) (fun g wl=>Hd O w wl S [f1 fO v1 d.Kids,.blk h [g.2.2.2] 23,.own Rp.str g.2.2.2 9 g.2.2.1]∧fV X g.1 (g.2.1,g.2.2.1)=some r) (fun g=>g.1) (v,0,F,u) (zJ rfl zK) ⟨H.pick [0,3,2],c⟩ ?_
  clear H c
  rintro ⟨v,o,x,y⟩ ρ bc ⟨H,c⟩
  obtain ⟨Z,rfl,c⟩:=yT c
  have c:=yV Y c
  refine zB fun bd aa=>zA ?_
  obtain ⟨ab,ac,c⟩:=zD c
  refine zG (zO (xH (a:=o) (b:=T) rfl rfl) ac)<| RN aa<| zB fun be ad=>zW (b:=ab) rfl (fun p=>?_) (fun p=>?_)
  ·have c:=zN p c
   refine zZ (zF (ad _ _ ?_))
   refine zB fun bf ae=>?_
   refine yD ?_
   refine zB fun bg af=>zA ?_
   obtain ⟨f,q,c⟩:=zC c
   obtain ⟨ag,ah,bh,bi,ai,aj,ak,al,am⟩:=wJ (H.item (i:=0) rfl) q
   obtain ⟨l,rfl,an⟩:=aY aj
   have H:=H.fzs [.at ag (ah+o.toNat * 7) _,.sl fO l f.Kids] ⟨⟨ak,al,am⟩,an,trivial⟩
   refine zG (yS aBf dI ai rfl (zU q).1 (zU q).2.1 rfl rfl)<| zG (yH (yI (cs:=[i6 f.Kind,sb f.Name,sb f.Other,i6 f.Op,i6 f.N,i6 f.Frames,l]) dQ rfl dI rfl (H.item (i:=3) rfl).2.2) rfl)<| yP rfl rfl (xI tV H) ?_
   rintro _ bj ⟨bk,rfl,H⟩
   refine yX rfl (yU (vs:=[i6 f.Kind,sb f.Name,sb f.Other,i6 f.Op,i6 f.N,i6 f.Frames,l]) H 5 rfl dI rfl rfl rfl ⟨rfl,rfl,rfl,rfl,rfl,rfl,(dG (H.item (i:=4) rfl)),trivial⟩ rfl) ?_
   rintro bl H
   refine RN af<| zB fun bm ao=>zA<| zG (yH (yI (cs:=[i6 f.Kind,sb f.Name,sb f.Other,i6 f.Op,i6 f.N,i6 f.Frames,l]) dQ rfl dI rfl (Hbc H 5 rfl)) rfl)<| zH (.func (.func 172) #[] #[gX h]) ?_
   obtain ⟨⟨k,ap⟩,aq,c⟩:=zC c
   refine yB rfl rfl (zY aLx rfl) (rhE f x l h y _ aq _ _ _ (H.enter [2,1] [4])) ?_
   rintro _ bn ⟨z,rfl,ar⟩
   have H:Hd _ _ _ _ [_,_,_,_,_,_]:=H.back [2,1] [4] rfl ar
   refine ⟨_,rfl,?_⟩
   refine zI (i6 k)<| RN ao<| zB fun bo au=>zA<| zH (i6 k) ?_
   obtain ⟨av,aw,c⟩:=zD c
   refine zG (zO (eX (a:=k) (b:=0) rfl rfl) aw)<| RN au<| zW (b:=av) rfl (fun s=>?_) (fun s=>?_)
   ·have c:=zN s c
    refine zB fun bp ax=>zA<| zH (i6 k)<| zI (i6 k)<| RN ax ?_
    obtain rfl:=gG c
    refine (zX (yA (zQ (zQ (yA (zQ (gV (v1:=i6 k) rfl rfl ?_)))))))
    exact ⟨z,rfl,H.pick [4,5]⟩
   have c:=zM s c
   refine (zZ (yJ (zF (ae _ _ ?_))))
   refine zA ?_
   obtain ⟨A,ay,c⟩:=zD c
   refine zG (xC (a:=o) (b:=1) rfl rfl ay)<| zH (i6 A) ?_
   exact (zT (zF (meet ⟨(Z,A,ap,z),(zJ rfl zK),⟨H.pick [0,5,4],c⟩,Nat.lt_succ_self _⟩)))
  have c:=zM p c
  exact (xE (yK (yK (yR (zF (meet ⟨(x,y),zK,⟨H.pick [1,2],c⟩⟩))))))
 rintro ⟨bq,az⟩ ρ br ⟨H,c⟩
 have c:=wE Q c
 refine zB fun bt a0=>zA<| zI (i6 0)<| RN a0 ?_
 obtain rfl:=gG c
 refine (zX (gV (v1:=i6 0) rfl rfl ?_))
 exact ⟨az,rfl,H.pick [1,0]⟩
theorem Ffx:Ffe (Fe6):=by
 have h: ∀n,Ffe (Fax n):=by
  intro n
  induction n with
  | zero=>intro b p1c0 c d e r a; cases a
  | succ n ih=>intro b p1c0 c d e r a; exact Fdiw (Fax n) ih b p1c0 c d e r a
 exact h FU
theorem Fbpw (a:Cond)(v1:Value)(r:(List Str))(b:Fbp a=some r)(O S:List Nat)(w:World)(H:Hd O w w S [f1 fO v1 a.Kids]):
  Cl 163 [.agg [i6 a.Kind,sb a.Name,sb a.Other,i6 a.Op,i6 a.N,i6 a.Frames,v1].toArray] w fun e d=> ∃u3,e= .returned (u3)∧Hd O w d S [.own Rp.str u3 9 r]:=by
 unfold Fbp at b
 refine CW 8 Tryz.func163 ?_
 refine zB fun n f=>zA<| yP rfl rfl (xJ (cs:=[i6 a.Kind,sb a.Name,sb a.Other,i6 a.Op,i6 a.N,i6 a.Frames,v1]) rfl H) ?_
 rintro _ o ⟨p,rfl,H⟩
 refine zI (.slice none 0 0)<| RN f<| zB fun q h=>zA<| yP rfl rfl (xI zero23 H) ?_
 rintro _ s ⟨i,rfl,H⟩
 refine RN h<| zB fun t j=>zA<| zG (yH (yI (cs:=[i6 a.Kind,sb a.Name,sb a.Other,i6 a.Op,i6 a.N,i6 a.Frames,v1]) dQ rfl dI rfl (Hbc H 1 rfl)) rfl)<| zG (bZ rfl) ?_
 have H:=aS H Rp.str 9
 obtain ⟨⟨u,v⟩,k,b⟩:=zC b
 refine yB rfl rfl (zY aLx rfl) (Ffx a [] v1 i (.slice none 0 0) _ k _ _ _ (H.enter [3,2] [0])) ?_
 rintro _ x ⟨c,rfl,l⟩
 have H:Hd _ _ _ _ [_,_,_,_]:=H.back [3,2] [0] rfl l
 refine ⟨_,rfl,?_⟩
 refine RN j<| zB fun y m=>zA<| Ld jJ H 3 0 rfl rfl<| zI c<| RN m ?_
 obtain rfl:=gG b
 refine (zX (gV (v1:=c) rfl rfl ?_))
 exact ⟨c,rfl,H.pick [2]⟩
theorem Fcgw (h:Rules)(v1:Value)(k:Value)(j:Value)(r:(List Str))(c:Fcg h=some r)(O S:List Nat)(w:World)(H:Hd O w w S [f1 Rp.str v1 h.Phases,f1 fP k h.Moves,f1 fZ j h.Rules]):
  Cl 146 [.agg [v1,k,j].toArray] w fun e L=> ∃z,e= .returned (z)∧Hd O w L S [.own Rp.str z 9 r]:=by
 unfold Fcg at c
 refine CW 38 Tryz.func146 ?_
 refine zB fun K8 M=>zA<| yP rfl rfl (xJ (cs:=[v1,k,j]) rfl H) ?_
 rintro _ bw ⟨A,rfl,H⟩
 refine zI (.slice none 0 0)<| RN M<| zB fun bx P=>zA<| zI (.slice none 0 0)<| RN P ?_
 obtain ⟨o,c,Q⟩:=zC c
 refine yG [3,5,8,9,10,11,12,13,14,15,16,17,18,19,20] (fun (g:Value)=>[(3,g)]) (fun g wl=>Hd O w wl S [.own Rp.str g 9 o,f1 Rp.str v1 h.Phases,f1 fP k h.Moves,f1 fZ j h.Rules,.blk A [v1,k,j] 27]) ?_ ?_
 ·skip
  refine zB fun bz R=>zA<| zG (aJn rfl)<| Ld aRq H 3 1 rfl rfl ?_
  obtain ⟨T,U,c⟩:=zD c
  obtain ⟨b0,b1,V⟩:=SlF.len ((H.item (i:=1) rfl))
  refine zG (yH (yZ u24 V) (congrArg (Value.int .i64) U))<| zH (i6 0)<| RN R<| yD ?_
  have H:=aS H Rp.str 9
  unfold Fdd at c
  obtain ⟨X,B,Y,c⟩:=yQ c
  refine xA [3,5,11,12,13,14,15,16,17,18,19,20] (fun (g:Nat×(List Str)×Int×Value)=>[(3,g.2.2.2),(11,i6 g.2.2.1)]) (fun g wl=>Hd O w wl S [.own Rp.str g.2.2.2 9 g.2.1,f1 Rp.str v1 h.Phases,f1 fP k h.Moves,f1 fZ j h.Rules,.blk A [v1,k,j] 27]∧fV X g.1 (g.2.1,g.2.2.1)=some o) (fun g=>g.1) (B,[],0,.slice none 0 0) (zJ rfl (zJ rfl zK)) ⟨H.pick [4,0,1,2,3],c⟩ ?_
  clear H c
  rintro ⟨B,b2,p,C⟩ ρ b3 ⟨H,c⟩
  obtain ⟨Z,rfl,c⟩:=yT c
  have c:=yV Y c
  refine zB fun b4 aa=>zA ?_
  obtain ⟨ab,ac,c⟩:=zD c
  refine zG (zO (xH (a:=p) (b:=T) rfl rfl) ac)<| RN aa<| zB fun b5 ad=>zW (b:=ab) rfl (fun q=>?_) (fun q=>?_)
  ·have c:=zN q c
   refine zZ (zF (ad _ _ ?_))
   refine zB fun b6 ae=>?_
   refine yD ?_
   refine zB fun b7 af=>zA ?_
   obtain ⟨d,s,c⟩:=zC c
   obtain ⟨ag,ah,b8,b9,ai,aj,ak,al,am⟩:=wJ (H.item (i:=2) rfl) s
   obtain ⟨l,rfl,an⟩:=sS aj
   have H:=H.fzs [.at ag (ah+p.toNat * 9) _,.sl fO l d.When.Kids] ⟨⟨ak,al,am⟩,an,trivial⟩
   refine zG (yS u24 uZ ai rfl (zU s).1 (zU s).2.1 rfl rfl)<| zG (yH (yI (cs:=[sb d.From,sb d.To,i6 d.When.Kind,sb d.When.Name,sb d.When.Other,i6 d.When.Op,i6 d.When.N,i6 d.When.Frames,l]) aIq rfl uZ rfl (H.item (i:=5) rfl).2.2) rfl)<| yP rfl rfl (xI aJj H) ?_
   rintro _ ca ⟨cb,rfl,H⟩
   refine yX rfl (yU (vs:=[sb d.From,sb d.To,i6 d.When.Kind,sb d.When.Name,sb d.When.Other,i6 d.When.Op,i6 d.When.N,i6 d.When.Frames,l]) H 7 rfl uZ rfl rfl rfl ⟨rfl,rfl,rfl,rfl,rfl,rfl,rfl,rfl,(dG (H.item (i:=6) rfl)),trivial⟩ rfl) ?_
   rintro cc H
   refine RN af<| zA<| zH C<| zG (aDd rfl)<| zG (yH (yI (cs:=[i6 d.When.Kind,sb d.When.Name,sb d.When.Other,i6 d.When.Op,i6 d.When.N,i6 d.When.Frames,l]) dQ rfl dI rfl (Cells.drop (Hbc H 7 rfl) 2 7)) rfl) ?_
   obtain ⟨cd,ao,c⟩:=zC c
   refine yB rfl rfl (zY en163 rfl) (Fbpw d.When l _ ao _ _ _ (H.enter [] [6])) ?_
   rintro _ ce ⟨cf,rfl,ap⟩
   have H:=H.back1 [6] rfl ap
   refine ⟨_,rfl,?_⟩
   obtain ⟨aq,ar,c⟩:=zC c
   refine yP rfl rfl (kC H (i:=0) rfl u23 el9 rfl rfl (Sr.of_own (H.item (i:=8) rfl)) ar) ?_
   rintro D cg H
   refine zI D<| (zT (yJ (zF (ae _ _ ?_))))
   refine zA ?_
   obtain ⟨F,au,c⟩:=zD c
   refine zG (xC (a:=p) (b:=1) rfl rfl au)<| zH (i6 F) ?_
   exact (zT (zF (meet ⟨(Z,aq,F,D),(zJ rfl (zJ rfl zK)),⟨H.pick [0,1,2,3,4],c⟩,Nat.lt_succ_self _⟩)))
  have c:=zM q c
  obtain rfl:=gG c
  exact (xE (yK (yK (yR (zF (meet ⟨C,(zJ rfl zK),H.pick [0,1,2,3,4]⟩))))))
 rintro av ρ ch H
 have c:=Q
 obtain ⟨t,c,aw⟩:=zC c
 refine yG [3,7,21,22,23,24,25,26,27,28,29,30,31,32,33] (fun (g:Value)=>[(3,g)]) (fun g wl=>Hd O w wl S [.own Rp.str g 9 t]) ?_ ?_
 ·skip
  refine zB fun ci ax=>zA<| zG (qQ rfl)<| Ld wO H 4 2 rfl rfl ?_
  obtain ⟨ay,az,c⟩:=zD c
  obtain ⟨cj,ck,a0⟩:=SlF.len ((H.item (i:=3) rfl))
  refine zG (yH (yZ u25 a0) (congrArg (Value.int .i64) az))<| zH (i6 0)<| RN ax<| yD ?_
  unfold Fcn at c
  obtain ⟨a1,G,a2,c⟩:=yQ c
  refine xA [3,7,24,25,26,27,28,29,30,31,32,33] (fun (g:Nat×(List Str)×Int×Value)=>[(3,g.2.2.2),(24,i6 g.2.2.1)]) (fun g wl=>Hd O w wl S [.own Rp.str g.2.2.2 9 g.2.1,f1 fZ j h.Rules]∧fV a1 g.1 (g.2.1,g.2.2.1)=some t) (fun g=>g.1) (G,o,0,av) (zJ rfl (zJ rfl zK)) ⟨H.pick [0,3],c⟩ ?_
  clear H c
  rintro ⟨G,cl,u,I⟩ ρ cm ⟨H,c⟩
  obtain ⟨a3,rfl,c⟩:=yT c
  have c:=yV a2 c
  refine zB fun cn a4=>zA ?_
  obtain ⟨a5,a6,c⟩:=zD c
  refine zG (zO (xH (a:=u) (b:=ay) rfl rfl) a6)<| RN a4<| zB fun cp a7=>zW (b:=a5) rfl (fun v=>?_) (fun v=>?_)
  ·have c:=zN v c
   refine zZ (zF (a7 _ _ ?_))
   refine zB fun cq a8=>?_
   refine yD ?_
   refine zB fun cr a9=>zA ?_
   obtain ⟨f,x,c⟩:=zC c
   obtain ⟨ba,bb,ct,cu,bc,bd,be,bf,bg⟩:=wJ (H.item (i:=1) rfl) x
   obtain ⟨m,rfl,bh⟩:=qV bd
   have H:=H.fzs [.at ba (bb+u.toNat * 8) _,.sl fO m f.When.Kids] ⟨⟨be,bf,bg⟩,bh,trivial⟩
   refine zG (yS u25 rX bc rfl (zU x).1 (zU x).2.1 rfl rfl)<| zG (yH (yI (cs:=[sb f.Name,i6 f.When.Kind,sb f.When.Name,sb f.When.Other,i6 f.When.Op,i6 f.When.N,i6 f.When.Frames,m]) aJg rfl rX rfl (H.item (i:=2) rfl).2.2) rfl)<| yP rfl rfl (xI aIb H) ?_
   rintro _ cv ⟨cw,rfl,H⟩
   refine yX rfl (yU (vs:=[sb f.Name,i6 f.When.Kind,sb f.When.Name,sb f.When.Other,i6 f.When.Op,i6 f.When.N,i6 f.When.Frames,m]) H 4 rfl rX rfl rfl rfl ⟨rfl,rfl,rfl,rfl,rfl,rfl,rfl,(dG (H.item (i:=3) rfl)),trivial⟩ rfl) ?_
   rintro cx H
   refine RN a9<| zA<| zH I<| zG (aDh rfl)<| zG (yH (yI (cs:=[i6 f.When.Kind,sb f.When.Name,sb f.When.Other,i6 f.When.Op,i6 f.When.N,i6 f.When.Frames,m]) dQ rfl dI rfl (Cells.drop (Hbc H 4 rfl) 1 7)) rfl) ?_
   obtain ⟨cy,bi,c⟩:=zC c
   refine yB rfl rfl (zY en163 rfl) (Fbpw f.When m _ bi _ _ _ (H.enter [] [3])) ?_
   rintro _ cz ⟨c0,rfl,bj⟩
   have H:=H.back1 [3] rfl bj
   refine ⟨_,rfl,?_⟩
   obtain ⟨bk,bl,c⟩:=zC c
   refine yP rfl rfl (kC H (i:=0) rfl u23 el9 rfl rfl (Sr.of_own (H.item (i:=5) rfl)) bl) ?_
   rintro J c1 H
   refine zI J<| (zT (yJ (zF (a8 _ _ ?_))))
   refine zA ?_
   obtain ⟨K,bm,c⟩:=zD c
   refine zG (xC (a:=u) (b:=1) rfl rfl bm)<| zH (i6 K) ?_
   exact (zT (zF (meet ⟨(a3,bk,K,J),(zJ rfl (zJ rfl zK)),⟨H.pick [0,1],c⟩,Nat.lt_succ_self _⟩)))
  have c:=zM v c
  obtain rfl:=gG c
  exact (xE (yK (yK (yR (zF (meet ⟨I,(zJ rfl zK),H.pick [0]⟩))))))
 rintro n ρ c2 H
 have c:=aw
 refine zB fun c3 bn=>zA<| zH n ?_
 obtain ⟨bo,bp,c⟩:=zC c
 refine yB rfl rfl (zY en164 rfl) (E.Fdlw t n _ bp _ _ _ (H.enter [0] [])) ?_
 rintro _ c4 ⟨rfl,bq⟩
 have H:Hd _ _ _ _ [_]:=H.back [0] [] rfl bq
 refine ⟨_,rfl,?_⟩
 refine RN bn<| zB fun c5 br=>zA<| zH n ?_
 obtain ⟨c6,bt,c⟩:=zC c
 refine yB rfl rfl (zY en166 rfl) (E.Fd7w bo n _ bt _ _ _ (H.enter [0] [])) ?_
 rintro _ c7 ⟨y,rfl,bu⟩
 have H:Hd _ _ _ _ [_]:=H.back [0] [] rfl bu
 refine ⟨_,rfl,?_⟩
 refine zI y<| RN br ?_
 obtain rfl:=gG c
 refine (zX (gV (v1:=y) rfl rfl ?_))
 exact ⟨y,rfl,H.pick [0]⟩
theorem Fb2w (f:Rules)(v1:Value)(v2:Value)(d:Value)(r:(List Str)×Int)(c:Fb2 f=some r)(O S:List Nat)(w:World)(H:Hd O w w S [f1 Rp.str v1 f.Phases,f1 fP v2 f.Moves,f1 fZ d f.Rules]):
  Cl 118 [.agg [v1,v2,d].toArray] w fun e l=> ∃k,e= .returned (.tuple #[k,i6 r.2])∧Hd O w l S [.own Rp.str k 9 r.1]:=by
 unfold Fb2 at c
 refine CW 12 Tryz.func118 ?_
 refine zB fun B m=>zA<| yP rfl rfl (xJ (cs:=[v1,v2,d]) rfl H) ?_
 rintro _ C ⟨D,rfl,H⟩
 refine zI (.slice none 0 0)<| zI (i6 0)<| RN m<| zB fun E n=>zB fun F o=>zA<| zG (yH (yI (cs:=[v1,v2,d]) qM rfl aBj rfl (Hbc H 3 rfl)) rfl) ?_
 have p:=H
 obtain ⟨h,q,c⟩:=zC c
 refine yB rfl rfl (zY en24 rfl) (Fa1w f v1 v2 d _ q _ _ _ (H.enter [] [0,1,2])) ?_
 rintro _ G ⟨rfl,s⟩
 have H:=p.step (s.only:Only [] _ _)
 refine ⟨_,rfl,?_⟩
 refine zI (i6 h)<| RN o<| zB fun I t=>zA<| zH (i6 h) ?_
 obtain ⟨u,v,c⟩:=zD c
 refine zG (zO (eX (a:=h) (b:=0) rfl rfl) v)<| RN t<| zW (b:=u) rfl (fun i=>?_) (fun i=>?_)
 ·have c:=zN i c
  refine zB fun J x=>zA<| zH (i6 h)<| zI (.slice none 0 0)<| zI (i6 h)<| RN x ?_
  have H:=aS H Rp.str 9
  obtain rfl:=gG c
  refine (zX (zQ (mW (v1:= .slice none 0 0) (v2:=i6 h) rfl rfl rfl ?_)))
  exact ⟨.slice none 0 0,rfl,H.pick [4]⟩
 have c:=zM i c
 refine zZ (zF (n _ _ ?_))
 refine zB fun K y=>zA<| zG (yH (yI (cs:=[v1,v2,d]) qM rfl aBj rfl (Hbc H 3 rfl)) rfl) ?_
 obtain ⟨L,z,c⟩:=zC c
 refine yB rfl rfl (zY en146 rfl) (Fcgw f v1 v2 d _ z _ _ _ (H.enter [] [0,1,2])) ?_
 rintro _ M ⟨j,rfl,A⟩
 have H:=H.back1 [0,1,2] rfl A
 refine ⟨_,rfl,?_⟩
 refine zI j<| zI (i6 0)<| RN y ?_
 obtain rfl:=gG c
 refine (zX (mW (v1:=j) (v2:=i6 0) rfl rfl rfl ?_))
 exact ⟨j,rfl,H.pick [4]⟩
theorem Fdbw (d:Flight)(k:Str)(v1:Value)(r:(Option Track))(c:Fdb d k=some r)(O S:List Nat)(w:World)(H:Hd O w w S [f1 fF v1 d.Tracks]):
  Cl 75 [.agg [sb d.Tail,sb d.Route,i6 d.Day,i6 d.From,i6 d.To,v1].toArray,sb k] w fun e u=> ∃u3,e= .returned (.pointer u3)∧Hd O w u S [.fz (.pt fF u3 r)]:=by
 unfold Fdb at c
 refine CW 25 Tryz.func75 ?_
 refine zB fun K4 v=>zA<| yP rfl rfl (xJ (cs:=[sb d.Tail,sb d.Route,i6 d.Day,i6 d.From,i6 d.To,v1]) rfl H) ?_
 rintro _ w7 ⟨y,rfl,H⟩
 refine zI (.pointer none)<| RN v ?_
 obtain ⟨z,A,c⟩:=xW c
 refine yG [4,5,6,7,8,9,10,11,12,13,14,15,16,17,18,19,20,21,22,23,24] (fun (g:Unit)=>[]) (fun g wl=>Hd O w wl S []∧z ()=some r) ?_ ?_
 ·skip
  refine zB fun aq B=>zA<| zG (vT rfl)<| Ld aGl H 1 5 rfl rfl ?_
  obtain ⟨C,D,c⟩:=zD c
  obtain ⟨ar,au,E⟩:=SlF.len ((H.item (i:=0) rfl))
  refine zG (yH (yZ u45 E) (congrArg (Value.int .i64) D))<| zH (i6 0)<| RN B<| yD ?_
  unfold Fe7 at c
  obtain ⟨F,q,G,c⟩:=yQ c
  refine xA [4,5,9,10,11,12,13,14,15,16,17,18,19,20,21,22,23,24] (fun (g:Nat×Int)=>[(9,i6 g.2)]) (fun g wl=>Hd O w wl S [f1 fF v1 d.Tracks,.blk y [sb d.Tail,sb d.Route,i6 d.Day,i6 d.From,i6 d.To,v1] 47]∧fV F g.1 g.2=some r) (fun g=>g.1) (q,0) (zJ rfl zK) ⟨H.pick [0,1],c⟩ ?_
  clear H c
  rintro ⟨q,f⟩ ρ av ⟨H,c⟩
  obtain ⟨I,rfl,c⟩:=yT c
  have c:=yV G c
  refine zB fun aw J=>zA ?_
  obtain ⟨K,L,c⟩:=zD c
  refine zG (zO (xH (a:=f) (b:=C) rfl rfl) L)<| RN J<| zB fun ax M=>zW (b:=K) rfl (fun l=>?_) (fun l=>?_)
  ·have c:=zN l c
   refine zZ (zF (M _ _ ?_))
   refine zB fun ay N=>?_
   refine yD ?_
   refine zB fun az P=>zA<| zH (i6 f)<| zI (i6 f)<| RN P<| zB fun a0 Q=>zA<| zG (vT rfl)<| Ld aGl H 1 5 rfl rfl<| zH (i6 f) ?_
   obtain ⟨s,m,c⟩:=zC c
   obtain ⟨R,T,a1,a2,U,V,X,Y,Z⟩:=wJ (H.item (i:=0) rfl) m
   obtain ⟨aa,rfl,ab⟩:=bY V
   have H:=H.fzs [.at R (T+f.toNat * 4) _,.sl fM aa s.Series.Samples] ⟨⟨X,Y,Z⟩,ab,trivial⟩
   refine zG (yS u45 qR U rfl (zU m).1 (zU m).2.1 rfl rfl)<| zG (vJ rfl)<| zG (xG dX rfl (Cells.get (H.item (i:=2) rfl).2.2 (i:=0) rfl))<| zH (sb k) ?_
   obtain ⟨ac,ad,c⟩:=zD c
   refine zG (zO (dK (s1:=s.Name) (s2:=k) rfl rfl) ad)<| RN Q<| zW (b:=ac) rfl (fun n=>?_) (fun n=>?_)
   ·have c:=zN n c
    refine zB fun a3 ae=>zA<| zG (vT rfl)<| Ld aGl H 1 5 rfl rfl<| zH (i6 f) ?_
    obtain ⟨o,p,c⟩:=zC c
    obtain ⟨h,j,a4,a5,af,ag,ah,ai,aj⟩:=wJ (H.item (i:=0) rfl) p
    obtain ⟨ak,rfl,al⟩:=bY ag
    have H:=H.fzs [.at h (j+f.toNat * 4) _,.sl fM ak o.Series.Samples] ⟨⟨ah,ai,aj⟩,al,trivial⟩
    refine zG (yS u45 qR af rfl (zU p).1 (zU p).2.1 rfl rfl)<| zI (.pointer (some ⟨h,j+f.toNat * 4,none⟩))<| RN ae ?_
    have H:=H.fz (.pt fF (some ⟨h,j+f.toNat * 4,none⟩) (some o)) ⟨_,_,_,rfl,(H.item (i:=4) rfl).1,(H.item (i:=4) rfl).2.1,(uI (x:=o) (H.item (i:=5) rfl)),(H.item (i:=4) rfl).2.2⟩
    obtain rfl:=gG c
    refine (zX (yA (zQ (zQ (yA (zQ (gV (v1:= .pointer (some ⟨h,j+f.toNat * 4,none⟩)) rfl rfl ?_)))))))
    exact ⟨(some ⟨h,j+f.toNat * 4,none⟩),rfl,H.pick [6]⟩
   have c:=zM n c
   refine (zZ (yJ (zF (N _ _ ?_))))
   refine zA ?_
   obtain ⟨t,am,c⟩:=zD c
   refine zG (xC (a:=f) (b:=1) rfl rfl am)<| zH (i6 t) ?_
   exact (zT (zF (meet ⟨(I,t),(zJ rfl zK),⟨H.pick [0,1],c⟩,Nat.lt_succ_self _⟩)))
  have c:=zM l c
  exact (xE (yK (yK (yR (zF (meet ⟨(),zK,⟨H.pick [],c⟩⟩))))))
 rintro _ ρ a6 ⟨H,c⟩
 have c:=wE A c
 refine zB fun a7 an=>zA<| zI (.pointer none)<| RN an ?_
 have H:=H.fz (.pt fF none none) rfl
 obtain rfl:=gG c
 refine (zX (gV (v1:= .pointer none) rfl rfl ?_))
 exact ⟨none,rfl,H.pick [0]⟩
theorem Fcuw (d:Flight)(k:Rules)(v1:Value)(l:Value)(m:Value)(n:Value)(r:(List Track))(c:Fcu d k=some r)(O S:List Nat)(w:World)(H:Hd O w w S [f1 fF v1 d.Tracks,f1 Rp.str l k.Phases,f1 fP m k.Moves,f1 fZ n k.Rules]):
  Cl 95 [.agg [sb d.Tail,sb d.Route,i6 d.Day,i6 d.From,i6 d.To,v1].toArray,.agg [l,m,n].toArray] w fun e M=> ∃u9,e= .returned (u9)∧Hd O w M S [.own fF u9 92 r]:=by
 unfold Fcu at c
 refine CW 41 Tryz.func95 ?_
 refine zB fun ba N=>zA<| yP rfl rfl (xJ (cs:=[sb d.Tail,sb d.Route,i6 d.Day,i6 d.From,i6 d.To,v1]) rfl H) ?_
 rintro _ bb ⟨A,rfl,H⟩
 refine yP rfl rfl (xJ (cs:=[l,m,n]) rfl H) ?_
 rintro _ bc ⟨bd,rfl,H⟩
 refine zI (.slice none 0 0)<| RN N<| zB fun be P=>zA<| zG (yH (yI (cs:=[l,m,n]) qM rfl aBj rfl (Hbc H 5 rfl)) rfl) ?_
 obtain ⟨⟨B,s⟩,Q,c⟩:=zC c
 refine yB rfl rfl (zY en118 rfl) (Fb2w k l m n _ Q _ _ _ (H.enter [] [1,2,3])) ?_
 rintro _ bf ⟨j,rfl,R⟩
 have H:=H.back1 [1,2,3] rfl R
 refine ⟨_,rfl,?_⟩
 refine zH (.tuple #[j,i6 s])<| zG (xU (v:=j) rfl rfl)<| zG (xU (v:=i6 s) rfl rfl)<| zI j<| zI (i6 s)<| RN P<| zB fun bg T=>zA<| zI (.slice none 0 0)<| RN T ?_
 obtain ⟨C,c,U⟩:=zC c
 refine yG [7,9,10,16,17,18,19,20,21,22,23,24,25,26,27,28,29,30,31,32,33,34,35,36,37,38,39] (fun (g:Value)=>[(7,g)]) (fun g wl=>Hd O w wl S [.own fF g 92 C]) ?_ ?_
 ·skip
  refine zB fun bh V=>zA<| zH j ?_
  obtain ⟨X,Y,c⟩:=zD c
  obtain ⟨bi,bj,Z⟩:=Sr.len (Sr.of_own (H.item (i:=6) rfl))
  refine zG (yH (yZ u23 Z) (congrArg (Value.int .i64) Y))<| zH (i6 0)<| RN V<| yD ?_
  have H:=aS H fF 92
  unfold Fe8 at c
  obtain ⟨aa,D,ab,c⟩:=yQ c
  refine xA [7,9,10,18,19,20,21,22,23,24,25,26,27,28,29,30,31,32,33,34,35,36,37,38,39] (fun (g:Nat×(List Track)×Int×Value)=>[(7,g.2.2.2),(18,i6 g.2.2.1)]) (fun g wl=>Hd O w wl S [.own fF g.2.2.2 92 g.2.1,f1 fF v1 d.Tracks,.blk A [sb d.Tail,sb d.Route,i6 d.Day,i6 d.From,i6 d.To,v1] 47,.own Rp.str j 9 B]∧fV aa g.1 (g.2.1,g.2.2.1)=some C) (fun g=>g.1) (D,[],0,.slice none 0 0) (zJ rfl (zJ rfl zK)) ⟨H.pick [7,0,4,6],c⟩ ?_
  clear H c
  rintro ⟨D,bk,E,t⟩ ρ bl ⟨H,c⟩
  obtain ⟨ac,rfl,c⟩:=yT c
  have c:=yV ab c
  refine zB fun bm ae=>zA ?_
  obtain ⟨af,ag,c⟩:=zD c
  refine zG (zO (xH (a:=E) (b:=X) rfl rfl) ag)<| RN ae<| zB fun bn ah=>zW (b:=af) rfl (fun u=>?_) (fun u=>?_)
  ·have c:=zN u c
   refine zZ (zF (ah _ _ ?_))
   obtain ⟨F,c,ai⟩:=zC c
   refine yG [7,9,10,20,21,22,23,24,25,26,27,28,29,30,31,32,33,34,35,36,37,38] (fun (g:Value)=>[(7,g)]) (fun g wl=>Hd O w wl S [.own fF g 92 F,f1 fF v1 d.Tracks,.blk A [sb d.Tail,sb d.Route,i6 d.Day,i6 d.From,i6 d.To,v1] 47,.own Rp.str j 9 B]) ?_ ?_
   ·skip
    refine yD ?_
    refine zB fun bo aj=>zA ?_
    obtain ⟨h,y,c⟩:=zC c
    obtain ⟨bp,bq,ak,al,am,an⟩:=bH (H.item (i:=3) rfl) y
    obtain rfl:ak= [sb h]:=am
    refine zG (yS u23 sz9 al rfl (zU y).1 (zU y).2.1 rfl rfl)<| zG (xG dX rfl (Cells.get an (i:=0) rfl))<| zI (sb h)<| RN aj<| zB fun br ao=>zA<| zG (yH (yI (cs:=[sb d.Tail,sb d.Route,i6 d.Day,i6 d.From,i6 d.To,v1]) sF rfl tC rfl (Hbc H 2 rfl)) rfl)<| zH (sb h) ?_
    obtain ⟨bt,ap,c⟩:=zC c
    refine yB rfl rfl (zY en75 rfl) (Fdbw d h v1 _ ap _ _ _ (H.enter [] [1])) ?_
    rintro _ bu ⟨p,rfl,aq⟩
    have H:=H.back1 [1] rfl aq
    refine ⟨_,rfl,?_⟩
    refine zI (.pointer p)<| RN ao<| zB fun bv ar=>zA<| zH (.pointer p) ?_
    obtain ⟨au,av,c⟩:=zD c
    refine zG (yH (aNk (pv:=p) u142 rfl rfl) (congrArg Value.bool ((congrArg (fun b=> !b) (PtF.isNone (H.item (i:=4) rfl))).trans av)))<| RN ar<| zW (b:=au) rfl (fun z=>?_) (fun z=>?_)
    ·have c:=zN z c
     refine zA ?_
     refine zH t<| zH (.pointer p) ?_
     obtain ⟨f,aw,c⟩:=zC c
     obtain ⟨G,I,bw,ax,ay,az,a0,a1⟩:=aMe ((H.item (i:=4) rfl):PtF _ _ _ _ _) aw
     obtain ⟨o,rfl,a2⟩:=bY a0
     have H:=H.fzs [.at G I _,.sl fM o f.Series.Samples] ⟨⟨ay,az,a1⟩,a2,trivial⟩
     refine zG (yC (ad:=⟨G,I,none⟩) (congrArg Value.pointer ax))<| zG (yH (yI (cs:=[sb f.Name,i6 f.Series.Den,o,i6 f.Long]) aFu rfl qR rfl (H.item (i:=5) rfl).2.2) rfl) ?_
     obtain ⟨bx,a3,c⟩:=zD c
     subst a3
     refine yP rfl rfl (jK (r:=fF) (xl:=[f]) (cs:=[sb f.Name,i6 f.Series.Den,o,i6 f.Long]) u45 el92 (by decide) (by decide) rfl (xP (vs:=[.agg [sb f.Name,i6 f.Series.Den,o,i6 f.Long].toArray]) (by decide) rfl rfl ⟨rfl,trivial⟩ rfl) H ⟨[sb f.Name,i6 f.Series.Den,o,i6 f.Long],[],rfl,(uI (x:=f) (H.item (i:=6) rfl)),rfl⟩) ?_
     rintro bz b0 H
     obtain ⟨b1,a4,c⟩:=zC c
     refine yP rfl rfl (kC H (i:=0) rfl u45 el92 rfl rfl (Sr.of_own (H.item (i:=7) rfl)) a4) ?_
     rintro J b2 H
     refine zI J ?_
     obtain rfl:=gG c
     exact (zT (yJ (zF (meet ⟨J,(zJ rfl zK),H.pick [0,1,2,3]⟩))))
    have c:=zM z c
    refine zA ?_
    refine zH t<| zH (sb h)<| zG (xM (cs:=[i6 1,.slice none 0 0]) (bt90_0 _))<| zG (xM (cs:=[sb h,i6 1,.slice none 0 0,i6 0]) (bt92_0_1 _ _ none 0 0)) ?_
    have H:=H.fz (.sl fM (.slice none 0 0) []) SlF.nil
    obtain ⟨b3,a5,c⟩:=zD c
    subst a5
    refine yP rfl rfl (jK (r:=fF) (xl:=[Track.mk h (Series.mk 1 []) 0]) (cs:=[sb h,i6 1,.slice none 0 0,i6 0]) u45 el92 (by decide) (by decide) rfl (xP (vs:=[.agg [sb h,i6 1,.slice none 0 0,i6 0].toArray]) (by decide) rfl rfl ⟨rfl,trivial⟩ rfl) H ⟨[sb h,i6 1,.slice none 0 0,i6 0],[],rfl,(uI (x:=Track.mk h (Series.mk 1 []) 0) (H.item (i:=5) rfl)),rfl⟩) ?_
    rintro b4 b5 H
    obtain ⟨b6,a6,c⟩:=zC c
    refine yP rfl rfl (kC H (i:=0) rfl u45 el92 rfl rfl (Sr.of_own (H.item (i:=6) rfl)) a6) ?_
    rintro K b7 H
    refine zI K ?_
    obtain rfl:=gG c
    exact (zT (yJ (zF (meet ⟨K,(zJ rfl zK),H.pick [0,1,2,3]⟩))))
   rintro a7 ρ b8 H
   have c:=ai
   refine zA ?_
   obtain ⟨L,a8,c⟩:=zD c
   refine zG (xC (a:=E) (b:=1) rfl rfl a8)<| zH (i6 L) ?_
   exact (zT (zF (meet ⟨(ac,F,L,a7),(zJ rfl (zJ rfl zK)),⟨H.pick [0,1,2,3],c⟩,Nat.lt_succ_self _⟩)))
  have c:=zM u c
  obtain rfl:=gG c
  exact (xE (yK (yK (yR (zF (meet ⟨t,(zJ rfl zK),H.pick [0]⟩))))))
 rintro q ρ b9 H
 have c:=U
 refine zB fun ca a9=>zA<| zH q<| zI q<| RN a9 ?_
 obtain rfl:=gG c
 refine (zX (gV (v1:=q) rfl rfl ?_))
 exact ⟨q,rfl,H.pick [0]⟩
theorem Fbrw (f:List Str)(v1:Value)(r:(List Str))(a:Fbr f=some r)(O S:List Nat)(w:World)(H:Hd O w w S [f1 Rp.str v1 f]):
  Cl 147 [v1] w fun e h=> ∃u3,e= .returned (u3)∧Hd O w h S [.own Rp.str u3 9 r]:=by
 unfold Fbr at a
 refine CW 8 Tryz.func147 ?_
 refine zB fun u j=>zA<| zI (.slice none 0 0)<| RN j<| zB fun v k=>zB fun x l=>zA<| zH v1 ?_
 obtain ⟨y,z,m,n⟩:=aMo (H.item (i:=0) rfl)
 obtain ⟨o,p,a⟩:=aHr a n
 refine zG (yH (vS u23 m rfl) (congrArg Value.bool p))<| RN l<| zW (b:=o) rfl (fun c=>?_) (fun c=>?_)
 ·have a:=zN c a
  refine zB fun A q=>zA<| zI (.slice none 0 0)<| RN q ?_
  have H:=aS H Rp.str 9
  obtain rfl:=gG a
  refine (zX (zQ (gV (v1:= .slice none 0 0) rfl rfl ?_)))
  exact ⟨.slice none 0 0,rfl,H.pick [1]⟩
 have a:=zM c a
 refine zZ (zF (k _ _ ?_))
 refine zB fun B s=>zA<| yP rfl rfl (Lx_bs0 (r:=Rp.str) u23 el9 H) ?_
 rintro C D H
 refine zH v1 ?_
 obtain ⟨E,t,a⟩:=zC a
 refine yP rfl rfl (kC H (i:=1) rfl u23 el9 rfl rfl (Sr.of_rd (H.item (i:=0) rfl)) t) ?_
 rintro d F H
 refine zI d<| RN s ?_
 obtain rfl:=gG a
 refine (zX (gV (v1:=d) rfl rfl ?_))
 exact ⟨d,rfl,H.pick [1]⟩
abbrev Fef (f:fU→Cond→Option Nd):Prop:= ∀(p0:fU) (p1:Cond) (b1:Nat) (b2:Nat) (v3:Value) (v4:Value) (b5:Nat) (v11:Value) (r:Nd) (_:f p0 p1=some r) (O S:List Nat) (w:World) (_:Hd O w w S [.mp b2 (fA Ky.str (fun v=>Value.int .i64 v) p0.tracks),.own (Rp.int .i64) v3 3 p0.dens,.mp b5 (fA Ky.str (fun v=>Value.int .i64 v) p0.rules),.blk b1 [.map (some b2),v3,v4,.map (some b5)] 209,f1 Rp.str v4 p0.phases,f1 fO v11 p1.Kids]),
  Cl 148 [gX b1,.agg [i6 p1.Kind,sb p1.Name,sb p1.Other,i6 p1.Op,i6 p1.N,i6 p1.Frames,v11].toArray] w fun e w'=> ∃u13 u14,e= .returned (u13)∧Hd O w w' S [.tr fJ [u13] u14 r,.mp b2 (fA Ky.str (fun v=>Value.int .i64 v) p0.tracks),.own (Rp.int .i64) v3 3 p0.dens,.mp b5 (fA Ky.str (fun v=>Value.int .i64 v) p0.rules),.blk b1 [.map (some b2),v3,v4,.map (some b5)] 209]
theorem Fbkw (rfF:fU→Cond→Option Nd)(rhF:Fef rfF)(d:fU)(q:List Cond)(m:Nat)(h:Nat)(j:Value)(l:Value)(k:Nat)(o:Value)(r:(List Nd))(c:Fbk rfF d q=some r)(O S:List Nat)(w:World)(H:Hd O w w S [.mp h (fA Ky.str (fun v=>Value.int .i64 v) d.tracks),.own (Rp.int .i64) j 3 d.dens,.mp k (fA Ky.str (fun v=>Value.int .i64 v) d.rules),.blk m [.map (some h),j,l,.map (some k)] 209,f1 Rp.str l d.phases,f1 fO o q]):
  Cl 167 [gX m,o] w fun e D=> ∃x E,e= .returned (x)∧Hd O w D S [.tr (Rt.row fJ 212 []) [x] E r,.mp h (fA Ky.str (fun v=>Value.int .i64 v) d.tracks),.own (Rp.int .i64) j 3 d.dens,.mp k (fA Ky.str (fun v=>Value.int .i64 v) d.rules),.blk m [.map (some h),j,l,.map (some k)] 209]:=by
 unfold Fbk at c
 refine CW 22 Tryz.func167 ?_
 refine zB fun ar F=>zA<| zI (.slice none 0 0)<| RN F<| zB fun au G=>zA<| zI (.slice none 0 0)<| RN G ?_
 obtain ⟨y,c,I⟩:=zC c
 refine yG [5,7,8,9,10,11,12,13,14,15,16,17,18,19,20] (fun (g:Value×(List Nat))=>[(5,g.1)]) (fun g wl=>Hd O w wl S [.tr (Rt.row fJ 212 []) [g.1] g.2 y,.mp h (fA Ky.str (fun v=>Value.int .i64 v) d.tracks),.own (Rp.int .i64) j 3 d.dens,.mp k (fA Ky.str (fun v=>Value.int .i64 v) d.rules),.blk m [.map (some h),j,l,.map (some k)] 209,f1 Rp.str l d.phases]) ?_ ?_
 ·skip
  refine zB fun av J=>zA<| zH o ?_
  obtain ⟨K,L,c⟩:=zD c
  obtain ⟨aw,ax,M⟩:=SlF.len ((H.item (i:=5) rfl))
  refine zG (yH (yZ aBf M) (congrArg (Value.int .i64) L))<| zH (i6 0)<| RN J<| yD ?_
  have H:=jX H fJ 212
  unfold Ffr at c
  obtain ⟨P,z,Q,c⟩:=yQ c
  refine xA [5,7,10,11,12,13,14,15,16,17,18,19,20] (fun (g:Nat×(List Nd)×Int×Value×(List Nat))=>[(5,g.2.2.2.1),(10,i6 g.2.2.1)]) (fun g wl=>Hd O w wl S [.tr (Rt.row fJ 212 []) [g.2.2.2.1] g.2.2.2.2 g.2.1,.mp h (fA Ky.str (fun v=>Value.int .i64 v) d.tracks),.own (Rp.int .i64) j 3 d.dens,.mp k (fA Ky.str (fun v=>Value.int .i64 v) d.rules),.blk m [.map (some h),j,l,.map (some k)] 209,f1 Rp.str l d.phases,f1 fO o q]∧fV P g.1 (g.2.1,g.2.2.1)=some y) (fun g=>g.1) (z,[],0,.slice none 0 0,[]) (zJ rfl (zJ rfl zK)) ⟨H.pick [6,0,1,2,3,4,5],c⟩ ?_
  clear H c
  rintro ⟨z,ay,s,A,R⟩ ρ az ⟨H,c⟩
  obtain ⟨T,rfl,c⟩:=yT c
  have c:=yV Q c
  refine zB fun a0 U=>zA ?_
  obtain ⟨V,X,c⟩:=zD c
  refine zG (zO (xH (a:=s) (b:=K) rfl rfl) X)<| RN U<| zB fun a1 Y=>zW (b:=V) rfl (fun t=>?_) (fun t=>?_)
  ·have c:=zN t c
   refine zZ (zF (Y _ _ ?_))
   refine zB fun a2 Z=>?_
   refine yD ?_
   refine zB fun a3 aa=>zA ?_
   obtain ⟨f,u,c⟩:=zC c
   obtain ⟨ab,ac,a4,a5,ad,ae,af,ag,ah⟩:=wJ (H.item (i:=6) rfl) u
   obtain ⟨n,rfl,ai⟩:=aY ae
   have H:=H.fzs [.at ab (ac+s.toNat * 7) _,.sl fO n f.Kids] ⟨⟨af,ag,ah⟩,ai,trivial⟩
   refine zG (yS aBf dI ad rfl (zU u).1 (zU u).2.1 rfl rfl)<| zG (yH (yI (cs:=[i6 f.Kind,sb f.Name,sb f.Other,i6 f.Op,i6 f.N,i6 f.Frames,n]) dQ rfl dI rfl (H.item (i:=7) rfl).2.2) rfl)<| yP rfl rfl (xI tV H) ?_
   rintro _ a6 ⟨a7,rfl,H⟩
   refine yX rfl (yU (vs:=[i6 f.Kind,sb f.Name,sb f.Other,i6 f.Op,i6 f.N,i6 f.Frames,n]) H 9 rfl dI rfl rfl rfl ⟨rfl,rfl,rfl,rfl,rfl,rfl,(dG (H.item (i:=8) rfl)),trivial⟩ rfl) ?_
   rintro a8 H
   refine RN aa<| zA<| zH A<| zH (gX m)<| zG (yH (yI (cs:=[i6 f.Kind,sb f.Name,sb f.Other,i6 f.Op,i6 f.N,i6 f.Frames,n]) dQ rfl dI rfl (Hbc H 9 rfl)) rfl) ?_
   obtain ⟨a9,aj,c⟩:=zC c
   refine yB rfl rfl (zY en148 rfl) (rhF (fU.mk d.tracks d.dens d.phases d.rules) f m h j l k n _ aj _ _ _ (H.enter [1,2,3,4] [5,8])) ?_
   rintro _ ba ⟨bb,bc,rfl,ak⟩
   have H:Hd _ _ _ _ [_,_,_,_,_,_,_,_,_,_,_]:=H.back [1,2,3,4] [5,8] rfl ak
   refine ⟨_,rfl,?_⟩
   refine yP rfl rfl (aCv H 6 rfl uN aKi (by decide) (by decide) (aFt rfl rfl ⟨(pR (H.item (i:=6) rfl)),trivial⟩)) ?_
   rintro bd be ⟨bf,H⟩
   have H:Hd _ _ _ _ [_,_,_,_,_,_,_,_,_,_,_]:=H
   obtain ⟨al,am,c⟩:=zC c
   refine yP rfl rfl (uK H 0 10 rfl rfl (by decide) uN aKi rfl rfl am) ?_
   rintro B bg ⟨an,H⟩
   have H:Hd _ _ _ _ [_,_,_,_,_,_,_,_,_,_]:=H
   refine zI B<| (zT (yJ (zF (Z _ _ ?_))))
   refine zA ?_
   obtain ⟨C,ao,c⟩:=zD c
   refine zG (xC (a:=s) (b:=1) rfl rfl ao)<| zH (i6 C) ?_
   exact (zT (zF (meet ⟨(T,al,C,B,an),(zJ rfl (zJ rfl zK)),⟨H.pick [9,5,6,7,8,0,1],c⟩,Nat.lt_succ_self _⟩)))
  have c:=zM t c
  obtain rfl:=gG c
  exact (xE (yK (yK (yR (zF (meet ⟨(A,R),(zJ rfl zK),H.pick [0,1,2,3,4,5]⟩))))))
 rintro ⟨p,ap⟩ ρ bh H
 have c:=I
 refine zB fun bi aq=>zA<| zH p<| zI p<| RN aq ?_
 obtain rfl:=gG c
 refine (zX (gV (v1:=p) rfl rfl ?_))
 exact ⟨p,ap,rfl,H.pick [0,1,2,3,4]⟩
set_option maxRecDepth 100000 in
theorem Fcww (rfF:fU→Cond→Option Nd)(rhF:Fef rfF)(o:fU)(h:Cond)(p:Nat)(u:Nat)(x:Value)(y:Value)(z:Nat)(A:Value)(r:Nd)(d:Fcw rfF o h=some r)(O S:List Nat)(w:World)(H:Hd O w w S [.mp u (fA Ky.str (fun v=>Value.int .i64 v) o.tracks),.own (Rp.int .i64) x 3 o.dens,.mp z (fA Ky.str (fun v=>Value.int .i64 v) o.rules),.blk p [.map (some u),x,y,.map (some z)] 209,f1 Rp.str y o.phases,f1 fO A h.Kids]):
  Cl 148 [gX p,.agg [i6 h.Kind,sb h.Name,sb h.Other,i6 h.Op,i6 h.N,i6 h.Frames,A].toArray] w fun e l=> ∃a7 bp,e= .returned (a7)∧Hd O w l S [.tr fJ [a7] bp r,.mp u (fA Ky.str (fun v=>Value.int .i64 v) o.tracks),.own (Rp.int .i64) x 3 o.dens,.mp z (fA Ky.str (fun v=>Value.int .i64 v) o.rules),.blk p [.map (some u),x,y,.map (some z)] 209]:=by
 unfold Fcw at d
 refine CW 180 Tryz.func148 ?_
 refine zB fun e0 bq=>zA<| yP rfl rfl (xJ (cs:=[i6 h.Kind,sb h.Name,sb h.Other,i6 h.Op,i6 h.N,i6 h.Frames,A]) rfl H) ?_
 rintro _ e1 ⟨br,rfl,H⟩
 refine zI .nilIface<| RN bq<| zB fun e2 bt=>zA<| zH (gX p)<| zG (rO rfl)<| Ld vC H 6 6 rfl rfl ?_
 obtain ⟨bu,bv,d⟩:=zC d
 refine yB rfl rfl (zY en167 rfl) (Fbkw rfF rhF (fU.mk o.tracks o.dens o.phases o.rules) h.Kids p u x y z A _ bv _ _ _ (H.enter [0,1,2,3] [4,5])) ?_
 rintro _ e3 ⟨q,bw,rfl,bx⟩
 have H:Hd _ _ _ _ [_,_,_,_,_,_,_,_]:=H.back [0,1,2,3] [4,5] rfl bx
 refine ⟨_,rfl,?_⟩
 refine zI q<| RN bt<| zB fun e4 bz=>zB fun e5 b0=>zA<| zG (mF rfl)<| Ld fG H 2 0 rfl rfl<| RN b0<| yD<| zB fun e6 b1=>zA ?_
 obtain ⟨a8,b2,d⟩:=zD d
 refine zG (zO (yY (a:=h.Kind) (b:=1) rfl rfl) b2)<| zI (.bool a8)<| RN b1<| zW (b:=a8) rfl (fun T=>?_) (fun T=>?_)
 ·have d:=zN T d
  refine zB fun e7 b3=>zA<| zG (xM (cs:=[i6 2]) (aQz _)) ?_
  have H:=sK (truth:=2) H
  refine zG (jE (by kernel_rfl) rfl)<| zI (.iface 239 (.agg ([i6 2]:List Value).toArray))<| RN b3 ?_
  obtain rfl:=gG d
  refine (zX (yA (zQ (gV (v1:=(.iface 239 (.agg ([i6 2]:List Value).toArray))) rfl rfl ?_))))
  exact ⟨(.iface 239 (.agg ([i6 2]:List Value).toArray)),[],rfl,H.pick [8,4,5,6,7]⟩
 have d:=zM T d
 refine zB fun e8 b4=>zA ?_
 obtain ⟨a9,b5,d⟩:=zD d
 refine zG (zO (yY (a:=h.Kind) (b:=2) rfl rfl) b5)<| zI (.bool a9)<| RN b4<| zW (b:=a9) rfl (fun U=>?_) (fun U=>?_)
 ·have d:=zN U d
  refine zB fun e9 b6=>zA<| zG (xM (cs:=[i6 1]) (aQz _)) ?_
  have H:=sK (truth:=1) H
  refine zG (jE (by kernel_rfl) rfl)<| zI (.iface 239 (.agg ([i6 1]:List Value).toArray))<| RN b6 ?_
  obtain rfl:=gG d
  refine (zX (yA (zQ (gV (v1:=(.iface 239 (.agg ([i6 1]:List Value).toArray))) rfl rfl ?_))))
  exact ⟨(.iface 239 (.agg ([i6 1]:List Value).toArray)),[],rfl,H.pick [8,4,5,6,7]⟩
 have d:=zM U d
 refine zB fun fa b7=>zA ?_
 obtain ⟨ba,b8,d⟩:=zD d
 refine zG (zO (yY (a:=h.Kind) (b:=3) rfl rfl) b8)<| zI (.bool ba)<| RN b7<| zW (b:=ba) rfl (fun V=>?_) (fun V=>?_)
 ·have d:=zN V d
  refine zB fun fb b9=>?_
  have ca:=H
  have H:=H.rebase
  have fc:=H
  refine wH H [0,1,2,3,4,5,6,7,8,9,10,11,12,13] (kz [0,0,0,1,0,1,1,0,1,0,1,0,0,0]) mixed ?_
  refine XM (gX p)<| XP (fun _ _=>yC rfl)<| XP (fun _ _=>aAf rfl)<| XR aEq H 7 0 rfl rfl<| XP (fun _ _=>jG rfl)<| XR dX H 2 1 rfl rfl ?_
  obtain ⟨E,cb,d⟩:=zD d
  refine MxM.XL_read oS rfl rfl rfl (fun l j=>yH (pW (K:=Ky.str) (G:=(fun v=>Value.int .i64 v)) (m:=o.tracks) (k:=h.Name) (zv:=0) ((H.sees j).item (i:=4) rfl) u71 u9 rfl rfl (Tryz.zeroValue3 l)) (congrArg (fun v=>Value.int .i64 v) cb)) ?_
  refine XP (fun _ _=>aDn rfl)<| XR fG H 2 3 rfl rfl<| XP (fun _ _=>qP rfl)<| XR fG H 2 4 rfl rfl<| XP (fun _ _=>xM (cs:=[i6 E,i6 h.Op,i6 h.N]) (aLy _ _ _)) ?_
  have H:=aJl (track:=E) (op:=h.Op) (n:=h.N) H
  refine XP (fun _ _=>jE (by kernel_rfl) rfl)<| XP (fun _ _=>xB (v:=(.iface 241 (.agg ([i6 E,i6 h.Op,i6 h.N]:List Value).toArray))) rfl)<| MxM.xO fun fd hS=>?_
  have H:=H.sees hS
  have H:=ca.rejoin H
  refine (zF (b9 _ _ ?_))
  obtain rfl:=gG d
  refine (zX (yA (zQ (gV (v1:=(.iface 241 (.agg ([i6 E,i6 h.Op,i6 h.N]:List Value).toArray))) rfl rfl ?_))))
  exact ⟨(.iface 241 (.agg ([i6 E,i6 h.Op,i6 h.N]:List Value).toArray)),[],rfl,H.pick [8,4,5,6,7]⟩
 have d:=zM V d
 refine zB fun fe cc=>zA ?_
 obtain ⟨bb,cd,d⟩:=zD d
 refine zG (zO (yY (a:=h.Kind) (b:=4) rfl rfl) cd)<| zI (.bool bb)<| RN cc<| zW (b:=bb) rfl (fun X=>?_) (fun X=>?_)
 ·have d:=zN X d
  refine zB fun ff ce=>?_
  have cf:=H
  have H:=H.rebase
  have fg:=H
  refine wH H [0,1,2,3,4,5,6,7,8,9,10,11,12,13,14,15] (kz [0,0,0,1,0,1,1,0,0,0,1,0,1,1,0,0]) mixed ?_
  refine XM (gX p)<| XP (fun _ _=>yC rfl)<| XP (fun _ _=>aAf rfl)<| XR aEq H 7 0 rfl rfl<| XP (fun _ _=>jG rfl)<| XR dX H 2 1 rfl rfl ?_
  obtain ⟨s,cg,d⟩:=zD d
  refine MxM.XL_read oS rfl rfl rfl (fun l j=>yH (pW (K:=Ky.str) (G:=(fun v=>Value.int .i64 v)) (m:=o.tracks) (k:=h.Name) (zv:=0) ((H.sees j).item (i:=4) rfl) u71 u9 rfl rfl (Tryz.zeroValue3 l)) (congrArg (fun v=>Value.int .i64 v) cg)) ?_
  refine XM (gX p)<| XP (fun _ _=>yC rfl)<| XP (fun _ _=>aAf rfl)<| XR aEq H 7 0 rfl rfl<| XP (fun _ _=>aDk rfl)<| XR dX H 2 2 rfl rfl ?_
  obtain ⟨t,ch,d⟩:=zD d
  refine MxM.XL_read oS rfl rfl rfl (fun l j=>yH (pW (K:=Ky.str) (G:=(fun v=>Value.int .i64 v)) (m:=o.tracks) (k:=h.Other) (zv:=0) ((H.sees j).item (i:=4) rfl) u71 u9 rfl rfl (Tryz.zeroValue3 l)) (congrArg (fun v=>Value.int .i64 v) ch)) ?_
  refine XP (fun _ _=>xB (v:=i6 s) rfl)<| XP (fun _ _=>xB (v:=i6 t) rfl)<| MxM.xO fun fh hS=>?_
  have H:=H.sees hS
  have H:=cf.rejoin H
  refine (zF (ce _ _ ?_))
  refine zB fun fi ci=>?_
  have cj:=H
  have H:=H.rebase
  have fj:=H
  refine wH H [0,1,2,3,4,5,6,7,8,9,10,11,12,13,14,15,16,17,18,19,20] (kz [0,0,0,0,0,1,0,0,1,0,0,0,1,0,0,1,0,1,0,0,0]) mixed ?_
  refine XM (i6 s)<| XM (i6 t)<| XM (gX p)<| XP (fun _ _=>yC rfl)<| XP (fun _ _=>aCs rfl)<| XR aF H 7 1 rfl rfl<| XM (i6 s) ?_
  obtain ⟨B,Y,d⟩:=zC d
  obtain ⟨fk,fm,ck,cl,cm,cn⟩:=bH (H.item (i:=5) rfl) Y
  obtain rfl:ck= [i6 B]:=cm
  refine XP (fun _ _=>yS u36 sz3 cl rfl (zU Y).1 (zU Y).2.1 rfl rfl)<| MxM.XL_read oS rfl rfl rfl (fun l j=>xG fG rfl (Cells.get (cn.sees j) (i:=0) rfl))<| XM (gX p)<| XP (fun _ _=>yC rfl)<| XP (fun _ _=>aCs rfl)<| XR aF H 7 1 rfl rfl<| XM (i6 t) ?_
  obtain ⟨C,Z,d⟩:=zC d
  obtain ⟨fn,fo,cp,cq,cr,ct⟩:=bH (H.item (i:=5) rfl) Z
  obtain rfl:cp= [i6 C]:=cr
  refine XP (fun _ _=>yS u36 sz3 cq rfl (zU Z).1 (zU Z).2.1 rfl rfl)<| MxM.XL_read oS rfl rfl rfl (fun l j=>xG fG rfl (Cells.get (ct.sees j) (i:=0) rfl))<| XP (fun _ _=>aDn rfl)<| XR fG H 2 3 rfl rfl<| XP (fun _ _=>xM (cs:=[i6 s,i6 t,i6 B,i6 C,i6 h.Op]) (aCp _ _ _ _ _)) ?_
  have H:=aNt (a:=s) (b:=t) (denA:=B) (denB:=C) (op:=h.Op) H
  refine XP (fun _ _=>jE (by kernel_rfl) rfl)<| XP (fun _ _=>xB (v:=(.iface 243 (.agg ([i6 s,i6 t,i6 B,i6 C,i6 h.Op]:List Value).toArray))) rfl)<| MxM.xO fun fp hS=>?_
  have H:=H.sees hS
  have H:=cj.rejoin H
  refine (zF (ci _ _ ?_))
  obtain rfl:=gG d
  refine (zX (yA (zQ (gV (v1:=(.iface 243 (.agg ([i6 s,i6 t,i6 B,i6 C,i6 h.Op]:List Value).toArray))) rfl rfl ?_))))
  exact ⟨(.iface 243 (.agg ([i6 s,i6 t,i6 B,i6 C,i6 h.Op]:List Value).toArray)),[],rfl,H.pick [8,4,5,6,7]⟩
 have d:=zM X d
 refine zB fun fq cu=>zA ?_
 obtain ⟨bc,cv,d⟩:=zD d
 refine zG (zO (yY (a:=h.Kind) (b:=5) rfl rfl) cv)<| zI (.bool bc)<| RN cu<| zW (b:=bc) rfl (fun aa=>?_) (fun aa=>?_)
 ·have d:=zN aa d
  refine zB fun fr cw=>?_
  have cx:=H
  have H:=H.rebase
  have fs:=H
  refine wH H [0,1,2,3,4,5,6,7,8,9,10,11,12,13,14] (kz [0,0,0,1,0,1,1,0,1,0,1,0,2,0,0]) mixed ?_
  refine XM (gX p)<| XP (fun _ _=>yC rfl)<| XP (fun _ _=>aAf rfl)<| XR aEq H 7 0 rfl rfl<| XP (fun _ _=>jG rfl)<| XR dX H 2 1 rfl rfl ?_
  obtain ⟨ab,cy,d⟩:=zD d
  refine MxM.XL_read oS rfl rfl rfl (fun l j=>yH (pW (K:=Ky.str) (G:=(fun v=>Value.int .i64 v)) (m:=o.tracks) (k:=h.Name) (zv:=0) ((H.sees j).item (i:=4) rfl) u71 u9 rfl rfl (Tryz.zeroValue3 l)) (congrArg (fun v=>Value.int .i64 v) cy)) ?_
  refine XP (fun _ _=>qP rfl)<| XR fG H 2 4 rfl rfl<| XP (fun _ _=>pJ rfl)<| XR fG H 2 5 rfl rfl<| XP (fun _ _=>xM (cs:=[i6 ab,i6 h.N,i6 h.Frames,.slice none 0 0]) (aMi _ _ _))<| MxM.XL_exN oS rfl rfl rfl (fun l j=>qA (xJ (cs:=[i6 ab,i6 h.N,i6 h.Frames,.slice none 0 0]) rfl (H.sees j)) (aBh (cs:=[i6 ab,i6 h.N,i6 h.Frames,.slice none 0 0]) rfl)) ?_
  rintro l _ ft j ⟨ac,rfl,H⟩
  have H:=jX H (Rt.of fD) 224
  obtain ⟨cz,H⟩:=aAx H 9 8 rfl rfl (by decide)
  have H:Hd _ _ _ _ [_,_,_,_,_,_,_,_,_]:=H
  refine XP (fun _ _=>jE (by kernel_rfl) rfl)<| XP (fun _ _=>xB (v:=(.iface 244 (gX ac))) rfl)<| MxM.xO fun fu hS=>?_
  have H:=H.sees hS
  have H:=cx.rejoin H
  refine (zF (cw _ _ ?_))
  obtain rfl:=gG d
  refine (zX (yA (zQ (gV (v1:=(.iface 244 (gX ac))) rfl rfl ?_))))
  exact ⟨(.iface 244 (gX ac)),cz,rfl,H.pick [8,4,5,6,7]⟩
 have d:=zM aa d
 refine zB fun fv c0=>zA ?_
 obtain ⟨bd,c1,d⟩:=zD d
 refine zG (zO (yY (a:=h.Kind) (b:=6) rfl rfl) c1)<| zI (.bool bd)<| RN c0<| zW (b:=bd) rfl (fun ad=>?_) (fun ad=>?_)
 ·have d:=zN ad d
  refine zB fun fw c2=>?_
  have c3:=H
  have H:=H.rebase
  have fx:=H
  refine wH H [0,1,2,3,4,5,6,7,8,9] (kz [0,0,0,1,0,1,1,0,0,0]) mixed ?_
  refine XM (gX p)<| XP (fun _ _=>yC rfl)<| XP (fun _ _=>fa209_2 rfl)<| XR jJ H 7 2 rfl rfl<| XP (fun _ _=>jG rfl)<| XR dX H 2 1 rfl rfl ?_
  have c4:=H
  obtain ⟨D,c5,d⟩:=zC d
  refine MxM.XL_call oS rfl rfl rfl (v:=i6 D) (fun l j=>zY en85 rfl) (fun l j=>dV (Facw o.phases h.Name y _ c5 _ _ _ ((H.sees j).enter [] [0]))) ?_
  have H:=c4
  refine XP (fun _ _=>xM (cs:=[i6 D]) (bt248_0 _)) ?_
  have H:=aKu (phase:=D) H
  refine XP (fun _ _=>jE (by kernel_rfl) rfl)<| XP (fun _ _=>xB (v:=(.iface 248 (.agg ([i6 D]:List Value).toArray))) rfl)<| MxM.xO fun fy hS=>?_
  have H:=H.sees hS
  have H:=c3.rejoin H
  refine (zF (c2 _ _ ?_))
  obtain rfl:=gG d
  refine (zX (yA (zQ (gV (v1:=(.iface 248 (.agg ([i6 D]:List Value).toArray))) rfl rfl ?_))))
  exact ⟨(.iface 248 (.agg ([i6 D]:List Value).toArray)),[],rfl,H.pick [8,4,5,6,7]⟩
 have d:=zM ad d
 refine zB fun f0 c6=>zA ?_
 obtain ⟨be,c7,d⟩:=zD d
 refine zG (zO (yY (a:=h.Kind) (b:=7) rfl rfl) c7)<| zI (.bool be)<| RN c6<| zW (b:=be) rfl (fun ae=>?_) (fun ae=>?_)
 ·have d:=zN ae d
  refine zB fun f4 c8=>?_
  have c9:=H
  have H:=H.rebase
  have f5:=H
  refine wH H [0,1,2,3,4,5,6,7,8,9] (kz [0,0,0,1,0,1,1,0,0,0]) mixed ?_
  refine XM (gX p)<| XP (fun _ _=>yC rfl)<| XP (fun _ _=>aRo rfl)<| XR aEq H 7 3 rfl rfl<| XP (fun _ _=>jG rfl)<| XR dX H 2 1 rfl rfl ?_
  obtain ⟨F,da,d⟩:=zD d
  refine MxM.XL_read oS rfl rfl rfl (fun l j=>yH (pW (K:=Ky.str) (G:=(fun v=>Value.int .i64 v)) (m:=o.rules) (k:=h.Name) (zv:=0) ((H.sees j).item (i:=6) rfl) u71 u9 rfl rfl (Tryz.zeroValue3 l)) (congrArg (fun v=>Value.int .i64 v) da)) ?_
  refine XP (fun _ _=>xM (cs:=[i6 F]) (bt250_0 _)) ?_
  have H:=aNh (rule:=F) H
  refine XP (fun _ _=>jE (by kernel_rfl) rfl)<| XP (fun _ _=>xB (v:=(.iface 250 (.agg ([i6 F]:List Value).toArray))) rfl)<| MxM.xO fun f6 hS=>?_
  have H:=H.sees hS
  have H:=c9.rejoin H
  refine (zF (c8 _ _ ?_))
  obtain rfl:=gG d
  refine (zX (yA (zQ (gV (v1:=(.iface 250 (.agg ([i6 F]:List Value).toArray))) rfl rfl ?_))))
  exact ⟨(.iface 250 (.agg ([i6 F]:List Value).toArray)),[],rfl,H.pick [8,4,5,6,7]⟩
 have d:=zM ae d
 refine zB fun f7 db=>zA ?_
 obtain ⟨bf,dc,d⟩:=zD d
 refine zG (zO (yY (a:=h.Kind) (b:=8) rfl rfl) dc)<| zI (.bool bf)<| RN db<| zW (b:=bf) rfl (fun af=>?_) (fun af=>?_)
 ·have d:=zN af d
  refine zB fun f8 dd=>zA<| zH q ?_
  obtain ⟨f9,I,d⟩:=zC d
  obtain ⟨ga,gb,gc,ag⟩:=aC (H.item (i:=3) rfl) I
  refine zG (yS uN vY ag rfl (zU I).1 (zU I).2.1 rfl rfl) ?_
  obtain ⟨gd,ge,gf,H⟩:=H.focusV 3 rfl ag I rfl
  obtain ⟨bg,rfl⟩:=nC rfl (H.item (i:=8) rfl)
  have H:Hd _ _ _ _ [_,_,_,_,_,_,_,_,_]:=H
  refine zG (xG kS rfl (Cells.get (H.holeW 7 rfl ag I rfl wG) (i:=0) rfl)) ?_
  obtain ⟨de,df,dg⟩:=aCe (H.item (i:=8) rfl)
  refine zG (xM (cs:=[bg]) (by rw [dg]; exact bt253_0 de df))<| yP rfl rfl (xJ (cs:=[bg]) rfl H) ?_
  rintro _ gg ⟨ah,rfl,H⟩
  obtain ⟨dh,H⟩:=aHp H 8 9 rfl rfl (by decide)
  have H:Hd _ _ _ _ [_,_,_,_,_,_,_,_,_]:=H
  refine zG (jE (by kernel_rfl) rfl)<| zI (.iface 251 (gX ah))<| RN dd ?_
  obtain rfl:=gG d
  refine (zX (yA (zQ (gV (v1:=(.iface 251 (gX ah))) rfl rfl ?_))))
  exact ⟨(.iface 251 (gX ah)),dh,rfl,H.pick [8,3,4,5,6]⟩
 have d:=zM af d
 obtain ⟨bh,d,di⟩:=zC d
 refine yG [119,120,121] (fun (g:Unit)=>[(119,.bool bh)]) (fun g wl=>Hd O w wl S [f1 Rp.str y o.phases,f1 fO A h.Kids,.blk br [i6 h.Kind,sb h.Name,sb h.Other,i6 h.Op,i6 h.N,i6 h.Frames,A] 110,.tr (Rt.row fJ 212 []) [q] bw bu,.mp u (fA Ky.str (fun v=>Value.int .i64 v) o.tracks),.own (Rp.int .i64) x 3 o.dens,.mp z (fA Ky.str (fun v=>Value.int .i64 v) o.rules),.blk p [.map (some u),x,y,.map (some z)] 209]) ?_ ?_
 ·skip
  refine zB fun gh dj=>zA ?_
  obtain ⟨bi,dk,d⟩:=zD d
  refine zG (zO (yY (a:=h.Kind) (b:=9) rfl rfl) dk)<| zI (.bool bi)<| RN dj<| zW (b:=bi) rfl (fun ai=>?_) (fun ai=>?_)
  ·have d:=zN ai d
   obtain rfl:=gG d
   exact (zZ (zF (meet ⟨(),(zJ rfl zK),H.pick [0,1,2,3,4,5,6,7]⟩)))
  have d:=zM ai d
  refine zA ?_
  obtain ⟨dl,dm,d⟩:=zD d
  refine zG (zO (yY (a:=h.Kind) (b:=10) rfl rfl) dm)<| zI (.bool dl) ?_
  obtain rfl:=gG d
  exact (zT (zF (meet ⟨(),(zJ rfl zK),H.pick [0,1,2,3,4,5,6,7]⟩)))
 rintro _ ρ gi H
 have d:=di
 refine zW (b:=bh) rfl (fun aj=>?_) (fun aj=>?_)
 ·have d:=zN aj d
  refine zB fun gj dn=>zA<| zH q<| zG (mF rfl)<| Ld fG H 2 0 rfl rfl ?_
  obtain ⟨bj,dp,d⟩:=zD d
  refine zG (zO (yY (a:=h.Kind) (b:=10) rfl rfl) dp) ?_
  obtain ⟨dq,dr,ds⟩: ∃a c,q= .slice a _ c:=kP ((H.item (i:=3) rfl))
  refine zG (xM (cs:=[q,.bool bj]) (by rw [ds]; exact bt256_0_1 dq _ dr _))<| yP rfl rfl (xJ (cs:=[q,.bool bj]) rfl H) ?_
  rintro _ gl ⟨ak,rfl,H⟩
  obtain ⟨dt,H⟩:=aCj H 3 8 rfl rfl (by decide)
  have H:Hd _ _ _ _ [_,_,_,_,_,_,_,_]:=H
  refine zG (jE (by kernel_rfl) rfl)<| zI (.iface 254 (gX ak))<| RN dn ?_
  obtain rfl:=gG d
  refine (zX (yA (zQ (gV (v1:=(.iface 254 (gX ak))) rfl rfl ?_))))
  exact ⟨(.iface 254 (gX ak)),dt,rfl,H.pick [7,3,4,5,6]⟩
 have d:=zM aj d
 refine zB fun gm du=>zA ?_
 obtain ⟨bk,dv,d⟩:=zD d
 refine zG (zO (yY (a:=h.Kind) (b:=11) rfl rfl) dv)<| zI (.bool bk)<| RN du<| zW (b:=bk) rfl (fun al=>?_) (fun al=>?_)
 ·have d:=zN al d
  refine zB fun gn dw=>?_
  have dx:=H
  have H:=H.rebase
  have go:=H
  refine wH H [0,1,2,3,4,5,6,7,8,9,10] (kz [0,0,1,0,1,0,1,0,2,0,0]) mixed ?_
  refine XM q ?_
  obtain ⟨gp,J,d⟩:=zC d
  obtain ⟨gq,gr,gs,am⟩:=aC (H.item (i:=3) rfl) J
  refine XP (fun _ _=>yS uN vY am rfl (zU J).1 (zU J).2.1 rfl rfl) ?_
  obtain ⟨gt,gu,gv,H⟩:=H.focusV 3 rfl am J rfl
  obtain ⟨an,rfl⟩:=nC rfl (H.item (i:=8) rfl)
  have H:Hd _ _ _ _ [_,_,_,_,_,_,_,_,_]:=H
  refine MxM.XL_read oS rfl rfl rfl (fun l j=>xG kS rfl (Cells.get ((H.sees j).holeW 7 rfl am J rfl wG) (i:=0) rfl)) ?_
  refine XP (fun _ _=>pJ rfl)<| XR fG H 2 5 rfl rfl<| XP (fun _ _=>pJ rfl)<| XR fG H 2 5 rfl rfl ?_
  obtain ⟨dy,dz,d0⟩:=aCe (H.item (i:=8) rfl)
  refine XP (fun _ _=>xM (cs:=[an,i6 h.Frames,i6 h.Frames,.slice none 0 0]++((Fl.arr 3 (Fl.int .i64)).f (Arr.rep 3 0:Arr 3 Int))) (by rw [d0]; exact tH dy dz _ _))<| MxM.XL_exN oS rfl rfl rfl (fun l j=>qA (xJ (cs:=[an,i6 h.Frames,i6 h.Frames,.slice none 0 0]++((Fl.arr 3 (Fl.int .i64)).f (Arr.rep 3 0:Arr 3 Int))) rfl (H.sees j)) (aBh (cs:=[an,i6 h.Frames,i6 h.Frames,.slice none 0 0]++((Fl.arr 3 (Fl.int .i64)).f (Arr.rep 3 0:Arr 3 Int))) rfl)) ?_
  rintro l _ gw j ⟨ao,rfl,H⟩
  have H:=jX H (Rt.of (Rp.int .i64)) 3
  obtain ⟨d1,H⟩:=pG H 8 10 9 rfl rfl rfl (by decide)
  have H:Hd _ _ _ _ [_,_,_,_,_,_,_,_,_]:=H
  refine XP (fun _ _=>jE (by kernel_rfl) rfl)<| XP (fun _ _=>xB (v:=(.iface 257 (gX ao))) rfl)<| MxM.xO fun gx hS=>?_
  have H:=H.sees hS
  have H:=dx.rejoin H
  refine (zF (dw _ _ ?_))
  obtain rfl:=gG d
  refine (zX (yA (zQ (gV (v1:=(.iface 257 (gX ao))) rfl rfl ?_))))
  exact ⟨(.iface 257 (gX ao)),d1,rfl,H.pick [8,3,4,5,6]⟩
 have d:=zM al d
 refine zB fun gy d2=>zA ?_
 obtain ⟨bl,d3,d⟩:=zD d
 refine zG (zO (yY (a:=h.Kind) (b:=12) rfl rfl) d3)<| zI (.bool bl)<| RN d2<| zW (b:=bl) rfl (fun ap=>?_) (fun ap=>?_)
 ·have d:=zN ap d
  refine zB fun gz d4=>?_
  have d5:=H
  have H:=H.rebase
  have g0:=H
  refine wH H [0,1,2,3,4,5,6,7,8] (kz [0,0,1,0,1,0,2,0,0]) mixed ?_
  refine XM q ?_
  obtain ⟨g1,L,d⟩:=zC d
  obtain ⟨g2,g3,g4,aq⟩:=aC (H.item (i:=3) rfl) L
  refine XP (fun _ _=>yS uN vY aq rfl (zU L).1 (zU L).2.1 rfl rfl) ?_
  obtain ⟨g5,g6,g7,H⟩:=H.focusV 3 rfl aq L rfl
  obtain ⟨ar,rfl⟩:=nC rfl (H.item (i:=8) rfl)
  have H:Hd _ _ _ _ [_,_,_,_,_,_,_,_,_]:=H
  refine MxM.XL_read oS rfl rfl rfl (fun l j=>xG kS rfl (Cells.get ((H.sees j).holeW 7 rfl aq L rfl wG) (i:=0) rfl)) ?_
  refine XP (fun _ _=>pJ rfl)<| XR fG H 2 5 rfl rfl ?_
  obtain ⟨d6,d7,d8⟩:=aCe (H.item (i:=8) rfl)
  refine XP (fun _ _=>xM (cs:=[ar,i6 1,i6 h.Frames,.slice none 0 0]++((Fl.arr 3 (Fl.int .i64)).f (Arr.rep 3 0:Arr 3 Int))) (by rw [d8]; exact tH d6 d7 _ _))<| MxM.XL_exN oS rfl rfl rfl (fun l j=>qA (xJ (cs:=[ar,i6 1,i6 h.Frames,.slice none 0 0]++((Fl.arr 3 (Fl.int .i64)).f (Arr.rep 3 0:Arr 3 Int))) rfl (H.sees j)) (aBh (cs:=[ar,i6 1,i6 h.Frames,.slice none 0 0]++((Fl.arr 3 (Fl.int .i64)).f (Arr.rep 3 0:Arr 3 Int))) rfl)) ?_
  rintro l _ g8 j ⟨au,rfl,H⟩
  have H:=jX H (Rt.of (Rp.int .i64)) 3
  obtain ⟨d9,H⟩:=pG H 8 10 9 rfl rfl rfl (by decide)
  have H:Hd _ _ _ _ [_,_,_,_,_,_,_,_,_]:=H
  refine XP (fun _ _=>jE (by kernel_rfl) rfl)<| XP (fun _ _=>xB (v:=(.iface 257 (gX au))) rfl)<| MxM.xO fun g9 hS=>?_
  have H:=H.sees hS
  have H:=d5.rejoin H
  refine (zF (d4 _ _ ?_))
  obtain rfl:=gG d
  refine (zX (yA (zQ (gV (v1:=(.iface 257 (gX au))) rfl rfl ?_))))
  exact ⟨(.iface 257 (gX au)),d9,rfl,H.pick [8,3,4,5,6]⟩
 have d:=zM ap d
 refine zB fun ha ea=>zA ?_
 obtain ⟨bm,eb,d⟩:=zD d
 refine zG (zO (yY (a:=h.Kind) (b:=13) rfl rfl) eb)<| zI (.bool bm)<| RN ea<| zW (b:=bm) rfl (fun av=>?_) (fun av=>?_)
 ·have d:=zN av d
  refine zB fun hb ec=>?_
  have ed:=H
  have H:=H.rebase
  have hc:=H
  refine wH H [0,1,2,3,4,5,6,7,8,9,10] (kz [0,0,1,0,1,0,1,0,2,0,0]) mixed ?_
  refine XM q ?_
  obtain ⟨he,M,d⟩:=zC d
  obtain ⟨hf,hg,hh,aw⟩:=aC (H.item (i:=3) rfl) M
  refine XP (fun _ _=>yS uN vY aw rfl (zU M).1 (zU M).2.1 rfl rfl) ?_
  obtain ⟨hi,hj,hk,H⟩:=H.focusV 3 rfl aw M rfl
  obtain ⟨ax,rfl⟩:=nC rfl (H.item (i:=8) rfl)
  have H:Hd _ _ _ _ [_,_,_,_,_,_,_,_,_]:=H
  refine MxM.XL_read oS rfl rfl rfl (fun l j=>xG kS rfl (Cells.get ((H.sees j).holeW 7 rfl aw M rfl wG) (i:=0) rfl)) ?_
  refine XP (fun _ _=>qP rfl)<| XR fG H 2 4 rfl rfl<| XP (fun _ _=>pJ rfl)<| XR fG H 2 5 rfl rfl ?_
  obtain ⟨ee,ef,eg⟩:=aCe (H.item (i:=8) rfl)
  refine XP (fun _ _=>xM (cs:=[ax,i6 h.N,i6 h.Frames,.slice none 0 0]++((Fl.arr 3 (Fl.int .i64)).f (Arr.rep 3 0:Arr 3 Int))) (by rw [eg]; exact tH ee ef _ _))<| MxM.XL_exN oS rfl rfl rfl (fun l j=>qA (xJ (cs:=[ax,i6 h.N,i6 h.Frames,.slice none 0 0]++((Fl.arr 3 (Fl.int .i64)).f (Arr.rep 3 0:Arr 3 Int))) rfl (H.sees j)) (aBh (cs:=[ax,i6 h.N,i6 h.Frames,.slice none 0 0]++((Fl.arr 3 (Fl.int .i64)).f (Arr.rep 3 0:Arr 3 Int))) rfl)) ?_
  rintro l _ hl j ⟨ay,rfl,H⟩
  have H:=jX H (Rt.of (Rp.int .i64)) 3
  obtain ⟨eh,H⟩:=pG H 8 10 9 rfl rfl rfl (by decide)
  have H:Hd _ _ _ _ [_,_,_,_,_,_,_,_,_]:=H
  refine XP (fun _ _=>jE (by kernel_rfl) rfl)<| XP (fun _ _=>xB (v:=(.iface 257 (gX ay))) rfl)<| MxM.xO fun hn hS=>?_
  have H:=H.sees hS
  have H:=ed.rejoin H
  refine (zF (ec _ _ ?_))
  obtain rfl:=gG d
  refine (zX (yA (zQ (gV (v1:=(.iface 257 (gX ay))) rfl rfl ?_))))
  exact ⟨(.iface 257 (gX ay)),eh,rfl,H.pick [8,3,4,5,6]⟩
 have d:=zM av d
 refine zB fun ho ei=>zA ?_
 obtain ⟨bn,ej,d⟩:=zD d
 refine zG (zO (yY (a:=h.Kind) (b:=14) rfl rfl) ej)<| zI (.bool bn)<| RN ei<| zW (b:=bn) rfl (fun az=>?_) (fun az=>?_)
 ·have d:=zN az d
  refine zB fun hp ek=>?_
  have el:=H
  have H:=H.rebase
  have hq:=H
  refine wH H [0,1,2,3,4,5,6,7,8,9] (kz [0,0,1,0,0,1,0,2,0,0]) mixed ?_
  refine XM q ?_
  obtain ⟨hr,P,d⟩:=zC d
  obtain ⟨hs,ht,hu,a0⟩:=aC (H.item (i:=3) rfl) P
  refine XP (fun _ _=>yS uN vY a0 rfl (zU P).1 (zU P).2.1 rfl rfl) ?_
  obtain ⟨hv,hw,hx,H⟩:=H.focusV 3 rfl a0 P rfl
  obtain ⟨a1,rfl⟩:=nC rfl (H.item (i:=8) rfl)
  have H:Hd _ _ _ _ [_,_,_,_,_,_,_,_,_]:=H
  refine MxM.XL_read oS rfl rfl rfl (fun l j=>xG kS rfl (Cells.get ((H.sees j).holeW 7 rfl a0 P rfl wG) (i:=0) rfl)) ?_
  refine XM q ?_
  obtain ⟨hy,Q,d⟩:=zC d
  obtain ⟨hz,h0,h1,a2⟩:=aC (H.item (i:=7) rfl) Q
  refine XP (fun _ _=>yS uN vY a2 rfl (zU Q).1 (zU Q).2.1 rfl rfl) ?_
  obtain ⟨h2,h3,h4,H⟩:=H.focusV 7 rfl a2 Q rfl
  obtain ⟨a3,rfl⟩:=nC rfl (H.item (i:=9) rfl)
  have H:Hd _ _ _ _ [_,_,_,_,_,_,_,_,_,_]:=H
  refine MxM.XL_read oS rfl rfl rfl (fun l j=>xG kS rfl (Cells.get ((H.sees j).holeW 8 rfl a2 Q rfl wG) (i:=0) rfl)) ?_
  obtain ⟨em,en,eo⟩:=aCe (H.item (i:=7) rfl)
  obtain ⟨ep,er,es⟩:=aCe (H.item (i:=9) rfl)
  refine XP (fun _ _=>xM (cs:=[a1,a3,i6 0,.bool false]) (by rw [eo,es]; exact bt263_0_1 em en ep er))<| MxM.XL_exN oS rfl rfl rfl (fun l j=>qA (xJ (cs:=[a1,a3,i6 0,.bool false]) rfl (H.sees j)) (aBh (cs:=[a1,a3,i6 0,.bool false]) rfl)) ?_
  rintro l _ h5 j ⟨a4,rfl,H⟩
  obtain ⟨et,H⟩:=aCh H 7 9 10 rfl rfl rfl (by decide)
  have H:Hd _ _ _ _ [_,_,_,_,_,_,_,_,_]:=H
  refine XP (fun _ _=>jE (by kernel_rfl) rfl)<| XP (fun _ _=>xB (v:=(.iface 261 (gX a4))) rfl)<| MxM.xO fun h6 hS=>?_
  have H:=H.sees hS
  have H:=el.rejoin H
  refine (zF (ek _ _ ?_))
  obtain rfl:=gG d
  refine (zX (yA (zQ (gV (v1:=(.iface 261 (gX a4))) rfl rfl ?_))))
  exact ⟨(.iface 261 (gX a4)),et,rfl,H.pick [8,3,4,5,6]⟩
 have d:=zM az d
 refine (zZ (yJ (zF (bz _ _ ?_))))
 refine zB fun h7 eu=>zA<| zH q ?_
 obtain ⟨h8,R,d⟩:=zC d
 obtain ⟨h9,ia,ib,a5⟩:=aC (H.item (i:=3) rfl) R
 refine zG (yS uN vY a5 rfl (zU R).1 (zU R).2.1 rfl rfl) ?_
 obtain ⟨ic,id,ie,H⟩:=H.focusV 3 rfl a5 R rfl
 obtain ⟨bo,rfl⟩:=nC rfl (H.item (i:=8) rfl)
 have H:Hd _ _ _ _ [_,_,_,_,_,_,_,_,_]:=H
 refine zG (xG kS rfl (Cells.get (H.holeW 7 rfl a5 R rfl wG) (i:=0) rfl)) ?_
 obtain ⟨ew,ex,ey⟩:=aCe (H.item (i:=8) rfl)
 refine zG (xM (cs:=[bo,i6 0,.bool false]) (by rw [ey]; exact bt266_0 ew ex))<| yP rfl rfl (xJ (cs:=[bo,i6 0,.bool false]) rfl H) ?_
 rintro _ ig ⟨a6,rfl,H⟩
 obtain ⟨ez,H⟩:=aCa H 8 9 rfl rfl (by decide)
 have H:Hd _ _ _ _ [_,_,_,_,_,_,_,_,_]:=H
 refine zG (jE (by kernel_rfl) rfl)<| zI (.iface 264 (gX a6))<| RN eu ?_
 obtain rfl:=gG d
 refine (zX (gV (v1:=(.iface 264 (gX a6))) rfl rfl ?_))
 exact ⟨(.iface 264 (gX a6)),ez,rfl,H.pick [8,3,4,5,6]⟩
theorem Ffv:Fef (Fa0):=by
 have h: ∀n,Fef (Fan n):=by
  intro n
  induction n with
  | zero=>intro b c d e f i j k r a; cases a
  | succ n ih=>intro b c d e f i j k r a; exact Fcww (Fan n) ih b c d e f i j k r a
 exact h FU
end Go.Proofs.YthllgjnlmjpinaaGreatDoor.L
