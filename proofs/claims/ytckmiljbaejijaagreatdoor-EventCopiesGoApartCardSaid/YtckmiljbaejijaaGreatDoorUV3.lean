/- Walks: what each function computes, for every argument; no condition but those that stand in the statements. -/
import Derived.Test.YtckmiljbaejijaaGreatDoorUV0
import Derived.Test.YtckmiljbaejijaaGreatDoorUV2
namespace Go.Proofs.YtckmiljbaejijaaGreatDoor.L
open Go.RowKit Go.OB Go.Lf
set_option maxHeartbeats 4000000
theorem Fcjw (a:Series)(v1:Value)(r:Int)(c:Fcj a=some r)(O S:List Nat)(w:World)(H:Hd O w w S [f1 dC v1 a.Samples]):
  Cl 139 [.agg [i6 a.Den,v1].toArray] w fun e f=>e= .returned (i6 r)∧Hd O w f S []:=by
 unfold Fcj at c
 refine zS 11 Tryz.func139 rfl rfl rfl ?_
 refine zC fun n h=>zA<| yP rfl rfl (xW (cs:=[i6 a.Den,v1]) rfl H) ?_
 rintro _ o ⟨p,rfl,H⟩
 refine zK (i6 0)<| zF (zB (h _ _ ?_))
 refine zC fun q i=>zA<| zH (yJ (yM (cs:=[i6 a.Den,v1]) agg35 rfl sz35 rfl (Hbc H 1 rfl)) rfl) ?_
 have j:=H
 obtain ⟨⟨d,b⟩,k,c⟩:=zD c
 refine yA rfl rfl (zV en191 rfl) (Fcfw a v1 _ k _ _ _ (H.enter [] [0] (by decide) rfl)) ?_
 rintro _ s ⟨rfl,l⟩
 have H:=j.step (l.only:Only [] _ _)
 refine ⟨_,rfl,?_⟩
 refine zI (.tuple #[i6 d,i6 b])<| zH (xY (v:=i6 d) rfl rfl)<| zH (xY (v:=i6 b) rfl rfl)<| zK (i6 d)<| zK (i6 b)<| zF (zB (i _ _ ?_))
 refine zC fun t m=>zA<| zI (i6 b)<| zK (i6 b)<| zF (zB (m _ _ ?_))
 obtain rfl:=gI c
 refine (zY (fF (v1:=i6 b) rfl rfl ?_))
 exact ⟨rfl,H.pick [] (by decide)⟩
set_option maxRecDepth 100000 in
theorem Fcbw (k:List fP)(v1:Value)(r:Int)(c:Fcb k=some r)(O S:List Nat)(w:World)(H:Hd O w w S [f1 eU v1 k]):
  Cl 75 [v1] w fun e C=>e= .returned (i6 r)∧Hd O w C S []:=by
 unfold Fcb at c
 refine zS 36 Tryz.func75 rfl rfl rfl ?_
 refine zC fun K3 D=>zA<| zK (i6 0)<| zF (zB (D _ _ ?_))
 refine zC fun bp E=>?_
 refine zC fun bq F=>zA<| zI v1 ?_
 obtain ⟨G,I,c⟩:=zG c
 obtain ⟨br,bt,J⟩:=SlF.len ((H.item (i:=0) rfl))
 refine zH (yJ (xN u27 J) (congrArg (Value.int .i64) I)) ?_
 obtain ⟨K,L,c⟩:=zG c
 refine zH (zQ (kH (a:=G) (b:=50) rfl rfl) L)<| zF (zB (F _ _ ?_))
 refine yC (b:=K) rfl (fun l=>?_) (fun l=>?_)
 ·have c:=zT l c
  refine zC fun bu M=>zA<| zK (i6 3)<| zF (zB (M _ _ ?_))
  obtain rfl:=gI c
  refine (zY (zZ (fF (v1:=i6 3) rfl rfl ?_)))
  exact ⟨rfl,H.pick [] (by decide)⟩
 have c:=zU l c
 refine yB (zB (E _ _ ?_))
 obtain ⟨N,P,c⟩:=wJ c
 refine yL [2,3,4,5,9,10,11,12,13,14,15,16,17,18,19,20,21,22,23,24,25,26,27,28,29,30,31,32,33,34,35] (fun (g:Unit)=>[]) (fun g wl=>Hd O w wl S []∧N ()=some r) ?_ ?_
 ·skip
  refine zC fun bv Q=>zA<| zI v1 ?_
  obtain ⟨R,T,c⟩:=zG c
  obtain ⟨bw,bx,U⟩:=SlF.len ((H.item (i:=0) rfl))
  refine zH (yJ (xN u27 U) (congrArg (Value.int .i64) T))<| zI (i6 0)<| zF (zB (Q _ _ ?_))
  refine yF ?_
  unfold Fe1 at c
  obtain ⟨V,x,X,c⟩:=yR c
  refine xG [2,3,4,5,11,12,13,14,15,16,17,18,19,20,21,22,23,24,25,26,27,28,29,30,31,32,33,34,35] (fun (g:Nat×Int)=>[(11,i6 g.2)]) (fun g wl=>Hd O w wl S [f1 eU v1 k]∧eF V g.1 g.2=some r) (fun g=>g.1) (x,0) (zL rfl zO) ⟨H.pick [0] (by decide),c⟩ ?_
  clear H c
  rintro ⟨x,h⟩ ρ bz ⟨H,c⟩
  obtain ⟨Y,rfl,c⟩:=yX c
  have c:=yY X c
  refine zC fun b0 Z=>zA ?_
  obtain ⟨aa,ab,c⟩:=zG c
  refine zH (zQ (xR (a:=h) (b:=R) rfl rfl) ab)<| zF (zB (Z _ _ ?_))
  refine zC fun b1 ac=>?_
  refine yC (b:=aa) rfl (fun m=>?_) (fun m=>?_)
  ·have c:=zT m c
   refine yB (zB (ac _ _ ?_))
   refine zC fun b2 ad=>?_
   refine yF ?_
   refine zC fun b3 ae=>zA<| zI (i6 h) ?_
   obtain ⟨d,n,c⟩:=zD c
   obtain ⟨y,z,b4,b5,af,ag,ah,ai,aj⟩:=dQ (H.item (i:=0) rfl) n
   obtain ⟨f,rfl,ak⟩:=rTrack_open ag
   have H:=H.fzs [.at y (z+h.toNat * 4) _,.sl dC f d.Series.Samples] ⟨⟨ah,ai,aj⟩,ak,trivial⟩
   refine zH (xJ u27 sz37 af rfl (yE n).1 (yE n).2.1 rfl rfl)<| zH (yJ (yM (cs:=[sb d.Name,i6 d.Series.Den,f,i6 d.Long]) agg37 rfl sz37 rfl (H.item (i:=1) rfl).2.2) rfl)<| yP rfl rfl (xH zero37 H) ?_
   rintro _ b6 ⟨A,rfl,H⟩
   refine zK (i6 h)<| yV rfl (yQ (vs:=[sb d.Name,i6 d.Series.Den,f,i6 d.Long]) H 3 rfl sz37 rfl rfl rfl ⟨rfl,rfl,(wH (H.item (i:=2) rfl)),rfl,trivial⟩ rfl) ?_
   rintro b7 H
   refine zF (zB (ae _ _ ?_))
   refine zC fun b8 al=>?_
   refine zC fun b9 am=>zA<| zH (fa37_0 rfl)<| Ld bC H 3 0 rfl rfl ?_
   have an:=H
   obtain ⟨ao,ap,c⟩:=zD c
   refine yA rfl rfl (zV en86 rfl) (Fahw d.Name _ ap _ _ _ (H.enter [] [] (by decide) rfl)) ?_
   rintro _ ca ⟨rfl,aq⟩
   have H:=an.step (aq.only:Only [] _ _)
   refine ⟨_,rfl,?_⟩
   obtain ⟨ar,au,c⟩:=zG c
   refine zH (zQ (wL (p:=ao) rfl) au)<| zF (zB (am _ _ ?_))
   refine yC (b:=ar) rfl (fun o=>?_) (fun o=>?_)
   ·have c:=zT o c
    refine zC fun cb av=>zA<| zK (i6 8)<| zF (zB (av _ _ ?_))
    obtain rfl:=gI c
    refine (zY (zZ (yG (zZ (zZ (yG (zZ (fF (v1:=i6 8) rfl rfl ?_))))))))
    exact ⟨rfl,H.pick [] (by decide)⟩
   have c:=zU o c
   refine yB (zB (al _ _ ?_))
   refine zC fun cc aw=>?_
   refine zC fun cd ax=>zA<| zI v1<| zI (i6 h) ?_
   obtain ⟨q,ay,c⟩:=zD c
   refine RL_exP rfl rfl (Lx_slice_h u27 sz37 (H.item (i:=0) rfl) rfl rfl ay) ?_
   rintro s az
   have H:=H.fz (.sl eU s q) az
   refine zH (cZ rfl) ?_
   obtain ⟨a0,a1,c⟩:=zD c
   refine yA rfl rfl (zV en134 rfl) (Fc1w q d s A f _ a1 _ _ _ (H.enter [3] [4,2] (by decide) rfl)) ?_
   rintro _ a2 ⟨rfl,a3⟩
   have H:Hd _ _ a2 _ [f1 eU v1 k,.fz (.at y (z+h.toNat * 4) [sb d.Name,i6 d.Series.Den,f,i6 d.Long]),f1 dC f d.Series.Samples,f1 eU s q,.blk A [sb d.Name,i6 d.Series.Den,f,i6 d.Long] 37]:=H.back [3] [4,2] rfl a3
   refine ⟨_,rfl,?_⟩
   refine zF (zB (ax _ _ ?_))
   refine yC (b:=a0) rfl (fun t=>?_) (fun t=>?_)
   ·have c:=zT t c
    refine zC fun ce a4=>zA<| zK (i6 5)<| zF (zB (a4 _ _ ?_))
    obtain rfl:=gI c
    refine (zY (zZ (yG (zZ (zZ (yG (zZ (fF (v1:=i6 5) rfl rfl ?_))))))))
    exact ⟨rfl,H.pick [] (by decide)⟩
   have c:=zU t c
   refine yB (zB (aw _ _ ?_))
   refine zC fun cf a5=>?_
   refine zC fun cg a6=>zA<| zH (fa37_1 rfl)<| zH (yJ (yM (cs:=[i6 d.Series.Den,f]) agg35 rfl sz35 rfl (Cells.drop (Hbc H 4 rfl) 1 2)) rfl) ?_
   have a7:=H
   obtain ⟨j,a8,c⟩:=zD c
   refine yA rfl rfl (zV en139 rfl) (Fcjw d.Series f _ a8 _ _ _ (H.enter [] [2] (by decide) rfl)) ?_
   rintro _ ch ⟨rfl,a9⟩
   have H:=a7.step (a9.only:Only [] _ _)
   refine ⟨_,rfl,?_⟩
   refine zK (i6 j)<| zF (zB (a6 _ _ ?_))
   refine zC fun ci ba=>zA<| zI (i6 j) ?_
   obtain ⟨bb,bc,c⟩:=zG c
   refine zH (zQ (dH (a:=j) (b:=0) rfl rfl) bc)<| zF (zB (ba _ _ ?_))
   refine yC (b:=bb) rfl (fun u=>?_) (fun u=>?_)
   ·have c:=zT u c
    refine zC fun cj bd=>zA<| zI (i6 j)<| zK (i6 j)<| zF (zB (bd _ _ ?_))
    obtain rfl:=gI c
    refine (zY (zZ (yG (zZ (zZ (yG (zZ (fF (v1:=i6 j) rfl rfl ?_))))))))
    exact ⟨rfl,H.pick [] (by decide)⟩
   have c:=zU u c
   refine yB (zB (a5 _ _ ?_))
   refine zC fun ck be=>zA<| zH (fa37_2 rfl)<| Ld fU H 4 3 rfl rfl ?_
   have bf:=H
   obtain ⟨bg,bh,c⟩:=zD c
   refine yA rfl rfl (zV en76 rfl) (Faew d.Long 0 1099511627776 _ bh _ _ _ (H.enter [] [] (by decide) rfl)) ?_
   rintro _ cl ⟨rfl,bi⟩
   have H:=bf.step (bi.only:Only [] _ _)
   refine ⟨_,rfl,?_⟩
   obtain ⟨bj,bk,c⟩:=zG c
   refine zH (zQ (wL (p:=bg) rfl) bk)<| zF (zB (be _ _ ?_))
   refine yC (b:=bj) rfl (fun v=>?_) (fun v=>?_)
   ·have c:=zT v c
    refine zC fun cm bl=>zA<| zK (i6 9)<| zF (zB (bl _ _ ?_))
    obtain rfl:=gI c
    refine (zY (yG (zZ (zZ (yG (zZ (fF (v1:=i6 9) rfl rfl ?_)))))))
    exact ⟨rfl,H.pick [] (by decide)⟩
   have c:=zU v c
   refine (yB (yK (zB (ad _ _ ?_))))
   refine zA ?_
   obtain ⟨B,bm,c⟩:=zG c
   refine zH (xQ (a:=h) (b:=1) rfl rfl bm)<| zI (i6 B) ?_
   exact (zF (zB (meet ⟨(Y,B),(zL rfl zO),⟨H.pick [0] (by decide),c⟩,Nat.lt_succ_self _⟩)))
  have c:=zU m c
  exact (xK (yH (yH (yU (zB (meet ⟨(),zO,⟨H.pick [] (by decide),c⟩⟩))))))
 rintro _ ρ cn ⟨H,c⟩
 have c:=dE P c
 refine zC fun co bn=>zA<| zK (i6 0)<| zF (zB (bn _ _ ?_))
 obtain rfl:=gI c
 refine (zY (fF (v1:=i6 0) rfl rfl ?_))
 exact ⟨rfl,H.pick [] (by decide)⟩
theorem Fcyw (d:Cond)(j:List Str)(v1:Value)(f:Nat)(h:Value)(r:Int×(List Str))(c:Fcy d j=some r)(O S:List Nat)(w:World)(H:Hd O w w S [.own Rp.str h 9 j,.blk f [h] 22,f1 fD v1 d.Kids]):
  Cl 196 [.agg [i6 d.Kind,sb d.Name,sb d.Other,i6 d.Op,i6 d.N,i6 d.Frames,v1].toArray,gU f] w fun e u=> ∃n,e= .returned (i6 r.1)∧Hd O w u S [.own Rp.str n 9 r.2,.blk f [n] 22]:=by
 unfold Fcy at c
 refine zS 23 Tryz.func196 rfl rfl rfl ?_
 refine zC fun T x=>zA<| yP rfl rfl (xW (cs:=[i6 d.Kind,sb d.Name,sb d.Other,i6 d.Op,i6 d.N,i6 d.Frames,v1]) rfl H) ?_
 rintro _ U ⟨y,rfl,H⟩
 refine zK (i6 0)<| zF (zB (x _ _ ?_))
 obtain ⟨z,c,A⟩:=zD c
 refine yL [4,5,6,7,8,9,10,11,12,13,14,15,16,17,18,19,20,21,22] (fun (g:Value)=>[]) (fun g wl=>Hd O w wl S [.own Rp.str g 9 z,.blk f [g] 22]) ?_ ?_
 ·skip
  refine zC fun V B=>zA<| zH (fa70_0 rfl)<| Ld fU H 3 0 rfl rfl<| zF (zB (B _ _ ?_))
  refine yF ?_
  obtain ⟨o,c,C⟩:=zD c
  refine yL [6,7,8] (fun (g:Unit)=>[(6,.bool o)]) (fun g wl=>Hd O w wl S [.own Rp.str h 9 j,.blk f [h] 22,f1 fD v1 d.Kids,.blk y [i6 d.Kind,sb d.Name,sb d.Other,i6 d.Op,i6 d.N,i6 d.Frames,v1] 70]) ?_ ?_
  ·skip
   refine zC fun X D=>zA ?_
   obtain ⟨p,E,c⟩:=zG c
   refine zH (zQ (yT (a:=d.Kind) (b:=3) rfl rfl) E)<| zK (.bool p)<| zF (zB (D _ _ ?_))
   refine yC (b:=p) rfl (fun k=>?_) (fun k=>?_)
   ·have c:=zT k c
    obtain rfl:=gI c
    exact (yB (zB (meet ⟨(),(zL rfl zO),H.pick [0,1,2,3] (by decide)⟩)))
   have c:=zU k c
   refine zA ?_
   obtain ⟨F,G,c⟩:=zG c
   refine zH (zQ (yT (a:=d.Kind) (b:=5) rfl rfl) G)<| zK (.bool F) ?_
   obtain rfl:=gI c
   exact (zF (zB (meet ⟨(),(zL rfl zO),H.pick [0,1,2,3] (by decide)⟩)))
  rintro _ ρ Y H
  have c:=C
  refine yC (b:=o) rfl (fun l=>?_) (fun l=>?_)
  ·have c:=zT l c
   refine zA ?_
   refine Ld one22 H 1 0 rfl rfl<| zH (fa70_1 rfl)<| Ld bC H 3 1 rfl rfl ?_
   obtain ⟨Z,I,c⟩:=zG c
   subst I
   refine yP rfl rfl (kM (r:=Rp.str) (xl:=[d.Name]) (cs:=[sb d.Name]) u22 el9 (by decide) (by decide) rfl (xP (vs:=[sb d.Name]) (by decide) rfl rfl ⟨rfl,trivial⟩ rfl) H ⟨[sb d.Name],[],rfl,rfl,rfl⟩) ?_
   rintro aa ab H
   obtain ⟨ac,J,c⟩:=zD c
   refine yP rfl rfl (aO H (i:=0) rfl u22 el9 rfl rfl (Sr.of_own (H.item (i:=4) rfl)) J) ?_
   rintro q ad H
   refine yV rfl (xE H 1 rfl sz22 rfl (v:=q) rfl (bY (H.item (i:=0) rfl)) rfl) ?_
   rintro ae H
   obtain rfl:=gI c
   exact (zF (yK (zB (meet ⟨q,zO,H.pick [0,1] (by decide)⟩))))
  have c:=zU l c
  refine zC fun af K=>zA ?_
  obtain ⟨s,L,c⟩:=zG c
  refine zH (zQ (yT (a:=d.Kind) (b:=4) rfl rfl) L)<| zK (.bool s)<| zF (zB (K _ _ ?_))
  refine yC (b:=s) rfl (fun m=>?_) (fun m=>?_)
  ·have c:=zT m c
   refine zA ?_
   refine Ld one22 H 1 0 rfl rfl<| zH (fa70_1 rfl)<| Ld bC H 3 1 rfl rfl<| zH (fa70_2 rfl)<| Ld bC H 3 2 rfl rfl ?_
   obtain ⟨ag,M,c⟩:=zG c
   subst M
   refine yP rfl rfl (kM (r:=Rp.str) (xl:=[d.Name,d.Other]) (cs:=[sb d.Name,sb d.Other]) u22 el9 (by decide) (by decide) rfl (xP (vs:=[sb d.Name,sb d.Other]) (by decide) rfl rfl ⟨rfl,rfl,trivial⟩ rfl) H ⟨[sb d.Name],[sb d.Other],rfl,rfl,⟨[sb d.Other],[],rfl,rfl,rfl⟩⟩) ?_
   rintro ah ai H
   obtain ⟨aj,P,c⟩:=zD c
   refine yP rfl rfl (aO H (i:=0) rfl u22 el9 rfl rfl (Sr.of_own (H.item (i:=4) rfl)) P) ?_
   rintro t ak H
   refine yV rfl (xE H 1 rfl sz22 rfl (v:=t) rfl (bY (H.item (i:=0) rfl)) rfl) ?_
   rintro al H
   obtain rfl:=gI c
   exact (zF (yK (zB (meet ⟨t,zO,H.pick [0,1] (by decide)⟩))))
  have c:=zU m c
  obtain rfl:=gI c
  exact (yB (yK (zB (meet ⟨h,zO,H.pick [0,1] (by decide)⟩))))
 rintro Q ρ am H
 have c:=A
 refine zC fun an R=>zA<| zK (i6 0)<| zF (zB (R _ _ ?_))
 obtain rfl:=gI c
 refine (zY (fF (v1:=i6 0) rfl rfl ?_))
 exact ⟨Q,rfl,H.pick [0,1] (by decide)⟩
abbrev Ffr (f:Cond→(List Str)→Option (Int×(List Str))):Prop:= ∀(p0:Cond) (p1c0:List Str) (v1:Value) (b3:Nat) (v4:Value) (r:Int×(List Str)) (_:f p0 p1c0=some r) (O S:List Nat) (w:World) (_:Hd O w w S [.own Rp.str v4 9 p1c0,.blk b3 [v4] 22,f1 fD v1 p0.Kids]),
  Cl 81 [.agg [i6 p0.Kind,sb p0.Name,sb p0.Other,i6 p0.Op,i6 p0.N,i6 p0.Frames,v1].toArray,.func (.func 196) #[] #[gU b3]] w fun e w'=> ∃u7,e= .returned (i6 r.1)∧Hd O w w' S [.own Rp.str u7 9 r.2,.blk b3 [u7] 22]
theorem Fczw (rfG:Cond→(List Str)→Option (Int×(List Str)))(rhG:Ffr rfG)(f:Cond)(p1c0:List Str)(v1:Value)(h:Nat)(p:Value)(r:Int×(List Str))(c:Fcz rfG f p1c0=some r)(O S:List Nat)(w:World)(H:Hd O w w S [.own Rp.str p 9 p1c0,.blk h [p] 22,f1 fD v1 f.Kids]):
  Cl 81 [.agg [i6 f.Kind,sb f.Name,sb f.Other,i6 f.Op,i6 f.N,i6 f.Frames,v1].toArray,.func (.func 196) #[] #[gU h]] w fun e F=> ∃v,e= .returned (i6 r.1)∧Hd O w F S [.own Rp.str v 9 r.2,.blk h [v] 22]:=by
 unfold Fcz at c
 refine zS 29 Tryz.func81 rfl rfl rfl ?_
 refine zC fun K8 G=>zA<| yP rfl rfl (xW (cs:=[i6 f.Kind,sb f.Name,sb f.Other,i6 f.Op,i6 f.N,i6 f.Frames,v1]) rfl H) ?_
 rintro _ a6 ⟨I,rfl,H⟩
 refine zK (i6 0)<| zF (zB (G _ _ ?_))
 refine zC fun a7 J=>?_
 refine zC fun a8 K=>zA<| zI (.func (.func 196) #[] #[gU h])<| zH (yJ (yM (cs:=[i6 f.Kind,sb f.Name,sb f.Other,i6 f.Op,i6 f.N,i6 f.Frames,v1]) dI rfl dB rfl (Hbc H 3 rfl)) rfl) ?_
 obtain ⟨⟨k,x⟩,L,c⟩:=zD c
 refine yA rfl rfl (aP en196 rfl rfl) (Fcyw f p1c0 v1 h p _ L _ _ _ (H.enter [0,1] [2] (by decide) rfl)) ?_
 rintro _ M ⟨m,rfl,P⟩
 have H:Hd _ _ M _ [f1 fD v1 f.Kids,.blk I [i6 f.Kind,sb f.Name,sb f.Other,i6 f.Op,i6 f.N,i6 f.Frames,v1] 70,.own Rp.str m 9 x,.blk h [m] 22]:=H.back [0,1] [2] rfl P
 refine ⟨_,rfl,?_⟩
 refine zK (i6 k)<| zF (zB (K _ _ ?_))
 refine zC fun a9 Q=>zA<| zI (i6 k) ?_
 obtain ⟨R,T,c⟩:=zG c
 refine zH (zQ (dH (a:=k) (b:=0) rfl rfl) T)<| zF (zB (Q _ _ ?_))
 refine yC (b:=R) rfl (fun q=>?_) (fun q=>?_)
 ·have c:=zT q c
  refine zC fun ba U=>zA<| zI (i6 k)<| zK (i6 k)<| zF (zB (U _ _ ?_))
  obtain rfl:=gI c
  refine (zY (zZ (fF (v1:=i6 k) rfl rfl ?_)))
  exact ⟨m,rfl,H.pick [2,3] (by decide)⟩
 have c:=zU q c
 refine yB (zB (J _ _ ?_))
 obtain ⟨V,X,c⟩:=wJ c
 refine yL [4,7,8,15,16,17,18,19,20,21,22,23,24,25,26,27,28] (fun (g:(List Str)×Value)=>[]) (fun g wl=>Hd O w wl S [.blk h [g.2] 22,.own Rp.str g.2 9 g.1]∧V g.1=some r) ?_ ?_
 ·skip
  refine zC fun bb Y=>zA<| zH (fa70_6 rfl)<| Ld one68 H 1 6 rfl rfl ?_
  obtain ⟨Z,aa,c⟩:=zG c
  obtain ⟨bc,bd,ab⟩:=SlF.len ((H.item (i:=0) rfl))
  refine zH (yJ (xN u68 ab) (congrArg (Value.int .i64) aa))<| zI (i6 0)<| zF (zB (Y _ _ ?_))
  refine yF ?_
  unfold Fem at c
  obtain ⟨ac,y,ad,c⟩:=yR c
  refine xG [4,7,8,18,19,20,21,22,23,24,25,26,27,28] (fun (g:Nat×Int×(List Str)×Value)=>[(18,i6 g.2.1)]) (fun g wl=>Hd O w wl S [f1 fD v1 f.Kids,.blk h [g.2.2.2] 22,.own Rp.str g.2.2.2 9 g.2.2.1]∧eF ac g.1 (g.2.1,g.2.2.1)=some r) (fun g=>g.1) (y,0,x,m) (zL rfl zO) ⟨H.pick [0,3,2] (by decide),c⟩ ?_
  clear H c
  rintro ⟨y,n,z,A⟩ ρ be ⟨H,c⟩
  obtain ⟨ae,rfl,c⟩:=yX c
  have c:=yY ad c
  refine zC fun bf af=>zA ?_
  obtain ⟨ag,ah,c⟩:=zG c
  refine zH (zQ (xR (a:=n) (b:=Z) rfl rfl) ah)<| zF (zB (af _ _ ?_))
  refine zC fun bg ai=>?_
  refine yC (b:=ag) rfl (fun s=>?_) (fun s=>?_)
  ·have c:=zT s c
   refine yB (zB (ai _ _ ?_))
   refine zC fun bh aj=>?_
   refine yF ?_
   refine zC fun bi ak=>zA ?_
   obtain ⟨d,t,c⟩:=zD c
   obtain ⟨B,C,bj,bk,al,am,an,ao,ap⟩:=dQ (H.item (i:=0) rfl) t
   obtain ⟨j,rfl,aq⟩:=bQ am
   have H:=H.fzs [.at B (C+n.toNat * 7) _,.sl fD j d.Kids] ⟨⟨an,ao,ap⟩,aq,trivial⟩
   refine zH (xJ u68 dB al rfl (yE t).1 (yE t).2.1 rfl rfl)<| zH (yJ (yM (cs:=[i6 d.Kind,sb d.Name,sb d.Other,i6 d.Op,i6 d.N,i6 d.Frames,j]) dI rfl dB rfl (H.item (i:=3) rfl).2.2) rfl)<| yP rfl rfl (xH kF H) ?_
   rintro _ bl ⟨ar,rfl,H⟩
   refine yV rfl (yQ (vs:=[i6 d.Kind,sb d.Name,sb d.Other,i6 d.Op,i6 d.N,i6 d.Frames,j]) H 5 rfl dB rfl rfl rfl ⟨rfl,rfl,rfl,rfl,rfl,rfl,(wH (H.item (i:=4) rfl)),trivial⟩ rfl) ?_
   rintro bm H
   refine zF (zB (ak _ _ ?_))
   refine zC fun bn au=>zA<| zH (yJ (yM (cs:=[i6 d.Kind,sb d.Name,sb d.Other,i6 d.Op,i6 d.N,i6 d.Frames,j]) dI rfl dB rfl (Hbc H 5 rfl)) rfl)<| zI (.func (.func 196) #[] #[gU h]) ?_
   obtain ⟨⟨l,D⟩,av,c⟩:=zD c
   refine yA rfl rfl (zV en81 rfl) (rhG d z j h A _ av _ _ _ (H.enter [2,1] [4] (by decide) rfl)) ?_
   rintro _ aw ⟨o,rfl,ax⟩
   have H:Hd _ _ aw _ [f1 fD v1 f.Kids,.fz (.at B (C+n.toNat * 7) [i6 d.Kind,sb d.Name,sb d.Other,i6 d.Op,i6 d.N,i6 d.Frames,j]),f1 fD j d.Kids,.blk ar [i6 d.Kind,sb d.Name,sb d.Other,i6 d.Op,i6 d.N,i6 d.Frames,j] 70,.own Rp.str o 9 D,.blk h [o] 22]:=H.back [2,1] [4] rfl ax
   refine ⟨_,rfl,?_⟩
   refine zK (i6 l)<| zF (zB (au _ _ ?_))
   refine zC fun bo ay=>zA<| zI (i6 l) ?_
   obtain ⟨az,a0,c⟩:=zG c
   refine zH (zQ (dH (a:=l) (b:=0) rfl rfl) a0)<| zF (zB (ay _ _ ?_))
   refine yC (b:=az) rfl (fun u=>?_) (fun u=>?_)
   ·have c:=zT u c
    refine zC fun bp a1=>zA<| zI (i6 l)<| zK (i6 l)<| zF (zB (a1 _ _ ?_))
    obtain rfl:=gI c
    refine (zY (yG (zZ (zZ (yG (zZ (fF (v1:=i6 l) rfl rfl ?_)))))))
    exact ⟨o,rfl,H.pick [4,5] (by decide)⟩
   have c:=zU u c
   refine (yB (yK (zB (aj _ _ ?_))))
   refine zA ?_
   obtain ⟨E,a2,c⟩:=zG c
   refine zH (xQ (a:=n) (b:=1) rfl rfl a2)<| zI (i6 E) ?_
   exact (zF (zB (meet ⟨(ae,E,D,o),(zL rfl zO),⟨H.pick [0,5,4] (by decide),c⟩,Nat.lt_succ_self _⟩)))
  have c:=zU s c
  exact (xK (yH (yH (yU (zB (meet ⟨(z,A),zO,⟨H.pick [1,2] (by decide),c⟩⟩))))))
 rintro ⟨bq,a3⟩ ρ br ⟨H,c⟩
 have c:=dE X c
 refine zC fun bt a4=>zA<| zK (i6 0)<| zF (zB (a4 _ _ ?_))
 obtain rfl:=gI c
 refine (zY (fF (v1:=i6 0) rfl rfl ?_))
 exact ⟨a3,rfl,H.pick [1,0] (by decide)⟩
theorem Fgs:Ffr (Ffh):=by
 have h: ∀n,Ffr (Fa2 n):=by
  intro n
  induction n with
  | zero=>intro b p1c0 c d e r a; cases a
  | succ n ih=>intro b p1c0 c d e r a; exact Fczw (Fa2 n) ih b p1c0 c d e r a
 exact h FU
theorem Fb2w (a:Cond)(v1:Value)(r:(List Str))(c:Fb2 a=some r)(O S:List Nat)(w:World)(H:Hd O w w S [f1 fD v1 a.Kids]):
  Cl 152 [.agg [i6 a.Kind,sb a.Name,sb a.Other,i6 a.Op,i6 a.N,i6 a.Frames,v1].toArray] w fun e f=> ∃u3,e= .returned (u3)∧Hd O w f S [.own Rp.str u3 9 r]:=by
 unfold Fb2 at c
 refine zS 8 Tryz.func152 rfl rfl rfl ?_
 refine zC fun q h=>zA<| yP rfl rfl (xW (cs:=[i6 a.Kind,sb a.Name,sb a.Other,i6 a.Op,i6 a.N,i6 a.Frames,v1]) rfl H) ?_
 rintro _ s ⟨i,rfl,H⟩
 refine zK (.slice none 0 0)<| zF (zB (h _ _ ?_))
 refine zC fun t j=>zA<| yP rfl rfl (xH zero22 H) ?_
 rintro _ u ⟨d,rfl,H⟩
 refine zF (zB (j _ _ ?_))
 refine zC fun v k=>zA<| zH (yJ (yM (cs:=[i6 a.Kind,sb a.Name,sb a.Other,i6 a.Op,i6 a.N,i6 a.Frames,v1]) dI rfl dB rfl (Hbc H 1 rfl)) rfl)<| zH (cZ rfl) ?_
 have H:=dY H Rp.str 9
 obtain ⟨⟨x,l⟩,m,c⟩:=zD c
 refine yA rfl rfl (zV en81 rfl) (Fgs a [] v1 d (.slice none 0 0) _ m _ _ _ (H.enter [3,2] [0] (by decide) rfl)) ?_
 rintro _ n ⟨b,rfl,o⟩
 have H:Hd _ _ n _ [f1 fD v1 a.Kids,.blk i [i6 a.Kind,sb a.Name,sb a.Other,i6 a.Op,i6 a.N,i6 a.Frames,v1] 70,.own Rp.str b 9 l,.blk d [b] 22]:=H.back [3,2] [0] rfl o
 refine ⟨_,rfl,?_⟩
 refine zF (zB (k _ _ ?_))
 refine zC fun y p=>zA<| Ld one22 H 3 0 rfl rfl<| zK b<| zF (zB (p _ _ ?_))
 obtain rfl:=gI c
 refine (zY (fF (v1:=b) rfl rfl ?_))
 exact ⟨b,rfl,H.pick [2] (by decide)⟩
theorem Fbqw (h:Rules)(v1:Value)(k:Value)(j:Value)(r:(List Str))(c:Fbq h=some r)(O S:List Nat)(w:World)(H:Hd O w w S [f1 Rp.str v1 h.Phases,f1 fA k h.Moves,f1 fC j h.Rules]):
  Cl 95 [.agg [v1,k,j].toArray] w fun e M=> ∃z,e= .returned (z)∧Hd O w M S [.own Rp.str z 9 r]:=by
 unfold Fbq at c
 refine zS 38 Tryz.func95 rfl rfl rfl ?_
 refine zC fun K8 P=>zA<| yP rfl rfl (xW (cs:=[v1,k,j]) rfl H) ?_
 rintro _ b0 ⟨A,rfl,H⟩
 refine zK (.slice none 0 0)<| zF (zB (P _ _ ?_))
 refine zC fun b1 Q=>zA<| zK (.slice none 0 0)<| zF (zB (Q _ _ ?_))
 obtain ⟨p,c,R⟩:=zD c
 refine yL [3,5,8,9,10,11,12,13,14,15,16,17,18,19,20] (fun (g:Value)=>[(3,g)]) (fun g wl=>Hd O w wl S [.own Rp.str g 9 p,f1 Rp.str v1 h.Phases,f1 fA k h.Moves,f1 fC j h.Rules,.blk A [v1,k,j] 26]) ?_ ?_
 ·skip
  refine zC fun b2 T=>zA<| zH (fa26_1 rfl)<| Ld one23 H 3 1 rfl rfl ?_
  obtain ⟨U,V,c⟩:=zG c
  obtain ⟨b3,b4,X⟩:=SlF.len ((H.item (i:=1) rfl))
  refine zH (yJ (xN u23 X) (congrArg (Value.int .i64) V))<| zI (i6 0)<| zF (zB (T _ _ ?_))
  refine yF ?_
  have H:=dY H Rp.str 9
  unfold Fch at c
  obtain ⟨Y,B,Z,c⟩:=yR c
  refine xG [3,5,11,12,13,14,15,16,17,18,19,20] (fun (g:Nat×(List Str)×Int×Value)=>[(3,g.2.2.2),(11,i6 g.2.2.1)]) (fun g wl=>Hd O w wl S [.own Rp.str g.2.2.2 9 g.2.1,f1 Rp.str v1 h.Phases,f1 fA k h.Moves,f1 fC j h.Rules,.blk A [v1,k,j] 26]∧eF Y g.1 (g.2.1,g.2.2.1)=some p) (fun g=>g.1) (B,[],0,.slice none 0 0) (zL rfl (zL rfl zO)) ⟨H.pick [4,0,1,2,3] (by decide),c⟩ ?_
  clear H c
  rintro ⟨B,b5,q,C⟩ ρ b6 ⟨H,c⟩
  obtain ⟨aa,rfl,c⟩:=yX c
  have c:=yY Z c
  refine zC fun b7 ab=>zA ?_
  obtain ⟨ac,ad,c⟩:=zG c
  refine zH (zQ (xR (a:=q) (b:=U) rfl rfl) ad)<| zF (zB (ab _ _ ?_))
  refine zC fun b8 ae=>?_
  refine yC (b:=ac) rfl (fun s=>?_) (fun s=>?_)
  ·have c:=zT s c
   refine yB (zB (ae _ _ ?_))
   refine zC fun b9 af=>?_
   refine yF ?_
   refine zC fun ca ag=>zA ?_
   obtain ⟨d,t,c⟩:=zD c
   obtain ⟨ah,ai,cb,cc,aj,ak,al,am,an⟩:=dQ (H.item (i:=2) rfl) t
   obtain ⟨l,rfl,ao⟩:=rMoveT_open ak
   have H:=H.fzs [.at ah (ai+q.toNat * 9) _,.sl fD l d.When.Kids] ⟨⟨al,am,an⟩,ao,trivial⟩
   refine zH (xJ u23 sz122 aj rfl (yE t).1 (yE t).2.1 rfl rfl)<| zH (yJ (yM (cs:=[sb d.From,sb d.To,i6 d.When.Kind,sb d.When.Name,sb d.When.Other,i6 d.When.Op,i6 d.When.N,i6 d.When.Frames,l]) agg122 rfl sz122 rfl (H.item (i:=5) rfl).2.2) rfl)<| yP rfl rfl (xH zero122 H) ?_
   rintro _ cd ⟨ce,rfl,H⟩
   refine yV rfl (yQ (vs:=[sb d.From,sb d.To,i6 d.When.Kind,sb d.When.Name,sb d.When.Other,i6 d.When.Op,i6 d.When.N,i6 d.When.Frames,l]) H 7 rfl sz122 rfl rfl rfl ⟨rfl,rfl,rfl,rfl,rfl,rfl,rfl,rfl,(wH (H.item (i:=6) rfl)),trivial⟩ rfl) ?_
   rintro cf H
   refine zF (zB (ag _ _ ?_))
   refine zA ?_
   refine zI C<| zH (fa122_2 rfl)<| zH (yJ (yM (cs:=[i6 d.When.Kind,sb d.When.Name,sb d.When.Other,i6 d.When.Op,i6 d.When.N,i6 d.When.Frames,l]) dI rfl dB rfl (Cells.drop (Hbc H 7 rfl) 2 7)) rfl) ?_
   obtain ⟨cg,ap,c⟩:=zD c
   refine yA rfl rfl (zV en152 rfl) (Fb2w d.When l _ ap _ _ _ (H.enter [] [6] (by decide) rfl)) ?_
   rintro _ ch ⟨ci,rfl,aq⟩
   have H:=H.back1 [6] rfl aq
   refine ⟨_,rfl,?_⟩
   obtain ⟨ar,au,c⟩:=zD c
   refine yP rfl rfl (aO H (i:=0) rfl u22 el9 rfl rfl (Sr.of_own (H.item (i:=8) rfl)) au) ?_
   rintro D cj H
   refine zK D<| (zF (yK (zB (af _ _ ?_))))
   refine zA ?_
   obtain ⟨F,av,c⟩:=zG c
   refine zH (xQ (a:=q) (b:=1) rfl rfl av)<| zI (i6 F) ?_
   exact (zF (zB (meet ⟨(aa,ar,F,D),(zL rfl (zL rfl zO)),⟨H.pick [0,1,2,3,4] (by decide),c⟩,Nat.lt_succ_self _⟩)))
  have c:=zU s c
  obtain rfl:=gI c
  exact (xK (yH (yH (yU (zB (meet ⟨C,(zL rfl zO),H.pick [0,1,2,3,4] (by decide)⟩))))))
 rintro aw ρ ck H
 have c:=R
 obtain ⟨u,c,ax⟩:=zD c
 refine yL [3,7,21,22,23,24,25,26,27,28,29,30,31,32,33] (fun (g:Value)=>[(3,g)]) (fun g wl=>Hd O w wl S [.own Rp.str g 9 u]) ?_ ?_
 ·skip
  refine zC fun cl ay=>zA<| zH (fa26_2 rfl)<| Ld one24 H 4 2 rfl rfl ?_
  obtain ⟨az,a0,c⟩:=zG c
  obtain ⟨cm,cn,a1⟩:=SlF.len ((H.item (i:=3) rfl))
  refine zH (yJ (xN u24 a1) (congrArg (Value.int .i64) a0))<| zI (i6 0)<| zF (zB (ay _ _ ?_))
  refine yF ?_
  unfold Fcx at c
  obtain ⟨a2,G,a3,c⟩:=yR c
  refine xG [3,7,24,25,26,27,28,29,30,31,32,33] (fun (g:Nat×(List Str)×Int×Value)=>[(3,g.2.2.2),(24,i6 g.2.2.1)]) (fun g wl=>Hd O w wl S [.own Rp.str g.2.2.2 9 g.2.1,f1 fC j h.Rules]∧eF a2 g.1 (g.2.1,g.2.2.1)=some u) (fun g=>g.1) (G,p,0,aw) (zL rfl (zL rfl zO)) ⟨H.pick [0,3] (by decide),c⟩ ?_
  clear H c
  rintro ⟨G,co,v,I⟩ ρ cp ⟨H,c⟩
  obtain ⟨a4,rfl,c⟩:=yX c
  have c:=yY a3 c
  refine zC fun cq a5=>zA ?_
  obtain ⟨a6,a7,c⟩:=zG c
  refine zH (zQ (xR (a:=v) (b:=az) rfl rfl) a7)<| zF (zB (a5 _ _ ?_))
  refine zC fun cr a8=>?_
  refine yC (b:=a6) rfl (fun x=>?_) (fun x=>?_)
  ·have c:=zT x c
   refine yB (zB (a8 _ _ ?_))
   refine zC fun ct a9=>?_
   refine yF ?_
   refine zC fun cu ba=>zA ?_
   obtain ⟨f,y,c⟩:=zD c
   obtain ⟨bb,bc,cv,cw,bd,be,bf,bg,bh⟩:=dQ (H.item (i:=1) rfl) y
   obtain ⟨m,rfl,bi⟩:=rRule_open be
   have H:=H.fzs [.at bb (bc+v.toNat * 8) _,.sl fD m f.When.Kids] ⟨⟨bf,bg,bh⟩,bi,trivial⟩
   refine zH (xJ u24 sz95 bd rfl (yE y).1 (yE y).2.1 rfl rfl)<| zH (yJ (yM (cs:=[sb f.Name,i6 f.When.Kind,sb f.When.Name,sb f.When.Other,i6 f.When.Op,i6 f.When.N,i6 f.When.Frames,m]) agg95 rfl sz95 rfl (H.item (i:=2) rfl).2.2) rfl)<| yP rfl rfl (xH zero95 H) ?_
   rintro _ cx ⟨cy,rfl,H⟩
   refine yV rfl (yQ (vs:=[sb f.Name,i6 f.When.Kind,sb f.When.Name,sb f.When.Other,i6 f.When.Op,i6 f.When.N,i6 f.When.Frames,m]) H 4 rfl sz95 rfl rfl rfl ⟨rfl,rfl,rfl,rfl,rfl,rfl,rfl,(wH (H.item (i:=3) rfl)),trivial⟩ rfl) ?_
   rintro cz H
   refine zF (zB (ba _ _ ?_))
   refine zA ?_
   refine zI I<| zH (fa95_1 rfl)<| zH (yJ (yM (cs:=[i6 f.When.Kind,sb f.When.Name,sb f.When.Other,i6 f.When.Op,i6 f.When.N,i6 f.When.Frames,m]) dI rfl dB rfl (Cells.drop (Hbc H 4 rfl) 1 7)) rfl) ?_
   obtain ⟨c0,bj,c⟩:=zD c
   refine yA rfl rfl (zV en152 rfl) (Fb2w f.When m _ bj _ _ _ (H.enter [] [3] (by decide) rfl)) ?_
   rintro _ c1 ⟨c2,rfl,bk⟩
   have H:=H.back1 [3] rfl bk
   refine ⟨_,rfl,?_⟩
   obtain ⟨bl,bm,c⟩:=zD c
   refine yP rfl rfl (aO H (i:=0) rfl u22 el9 rfl rfl (Sr.of_own (H.item (i:=5) rfl)) bm) ?_
   rintro J c3 H
   refine zK J<| (zF (yK (zB (a9 _ _ ?_))))
   refine zA ?_
   obtain ⟨K,bn,c⟩:=zG c
   refine zH (xQ (a:=v) (b:=1) rfl rfl bn)<| zI (i6 K) ?_
   exact (zF (zB (meet ⟨(a4,bl,K,J),(zL rfl (zL rfl zO)),⟨H.pick [0,1] (by decide),c⟩,Nat.lt_succ_self _⟩)))
  have c:=zU x c
  obtain rfl:=gI c
  exact (xK (yH (yH (yU (zB (meet ⟨I,(zL rfl zO),H.pick [0] (by decide)⟩))))))
 rintro n ρ c4 H
 have c:=ax
 refine zC fun c5 bo=>zA<| zI n ?_
 obtain ⟨L,bp,c⟩:=zD c
 refine yA rfl rfl (zV en153 rfl) (E.Fdyw u n _ bp _ _ _ (H.enter [0] [] (by decide) rfl)) ?_
 rintro _ bq ⟨rfl,br⟩
 have H:Hd _ _ bq _ [.own Rp.str n 9 L]:=H.back [0] [] rfl br
 refine ⟨_,rfl,?_⟩
 refine zF (zB (bo _ _ ?_))
 refine zC fun c6 bt=>zA<| zI n ?_
 obtain ⟨bu,bv,c⟩:=zD c
 refine yA rfl rfl (zV en155 rfl) (E.Fdkw L n _ bv _ _ _ (H.enter [0] [] (by decide) rfl)) ?_
 rintro _ bw ⟨o,rfl,bx⟩
 have H:Hd _ _ bw _ [.own Rp.str o 9 bu]:=H.back [0] [] rfl bx
 refine ⟨_,rfl,?_⟩
 refine zK o<| zF (zB (bt _ _ ?_))
 obtain rfl:=gI c
 refine (zY (fF (v1:=o) rfl rfl ?_))
 exact ⟨o,rfl,H.pick [0] (by decide)⟩
theorem Fd2w (a:fP)(b:Str)(v1:Value)(d:Nat)(r:Bool)(c:Fd2 a b=some r)(O S:List Nat)(w:World)(H:Hd O w w S [.blk d [sb b] 9,f1 dC v1 a.Series.Samples]):
  Cl 135 [.agg [sb a.Name,i6 a.Series.Den,v1,i6 a.Long].toArray,gU d] w fun e h=>e= .returned (.bool r)∧Hd O w h S [.blk d [sb b] 9]:=by
 unfold Fd2 at c
 refine zS 8 Tryz.func135 rfl rfl rfl ?_
 refine zC fun l i=>zA<| yP rfl rfl (xW (cs:=[sb a.Name,i6 a.Series.Den,v1,i6 a.Long]) rfl H) ?_
 rintro _ m ⟨n,rfl,H⟩
 refine zK (.bool false)<| zF (zB (i _ _ ?_))
 refine zC fun o j=>zA<| zH (fa37_0 rfl)<| Ld bC H 2 0 rfl rfl<| Ld bC H 0 0 rfl rfl ?_
 obtain ⟨f,k,c⟩:=zG c
 refine zH (zQ (wE (s1:=a.Name) (s2:=b) rfl rfl) k)<| zK (.bool f)<| zF (zB (j _ _ ?_))
 obtain rfl:=gI c
 refine (zY (fF (v1:= .bool f) rfl rfl ?_))
 exact ⟨rfl,H.pick [0] (by decide)⟩
theorem Fcqw (k:List fP)(p1c0:Str)(v1:Value)(h:Nat)(r:Int)(c:Fcq k p1c0=some r)(O S:List Nat)(w:World)(H:Hd O w w S [.blk h [sb p1c0] 9,f1 eU v1 k]):
  Cl 189 [v1,.func (.func 135) #[] #[gU h]] w fun e t=>e= .returned (i6 r)∧Hd O w t S [.blk h [sb p1c0] 9]:=by
 unfold Fcq at c
 refine zS 19 Tryz.func189 rfl rfl rfl ?_
 refine zC fun K5 u=>zA<| zK (i6 0)<| zF (zB (u _ _ ?_))
 obtain ⟨v,x,c⟩:=wJ c
 refine yL [4,5,6,7,8,9,10,11,12,13,14,15,16,17,18] (fun (g:Unit)=>[]) (fun g wl=>Hd O w wl S [.blk h [sb p1c0] 9]∧v ()=some r) ?_ ?_
 ·skip
  refine zC fun ae y=>zA<| zI v1 ?_
  obtain ⟨z,A,c⟩:=zG c
  obtain ⟨af,ag,B⟩:=SlF.len ((H.item (i:=1) rfl))
  refine zH (yJ (xN u27 B) (congrArg (Value.int .i64) A))<| zI (i6 0)<| zF (zB (y _ _ ?_))
  refine yF ?_
  unfold Feo at c
  obtain ⟨C,o,D,c⟩:=yR c
  refine xG [4,5,8,9,10,11,12,13,14,15,16,17,18] (fun (g:Nat×Int)=>[(8,i6 g.2)]) (fun g wl=>Hd O w wl S [.blk h [sb p1c0] 9,f1 eU v1 k]∧eF C g.1 g.2=some r) (fun g=>g.1) (o,0) (zL rfl zO) ⟨H.pick [0,1] (by decide),c⟩ ?_
  clear H c
  rintro ⟨o,d⟩ ρ ah ⟨H,c⟩
  obtain ⟨E,rfl,c⟩:=yX c
  have c:=yY D c
  refine zC fun ai F=>zA ?_
  obtain ⟨G,I,c⟩:=zG c
  refine zH (zQ (xR (a:=d) (b:=z) rfl rfl) I)<| zF (zB (F _ _ ?_))
  refine zC fun aj J=>?_
  refine yC (b:=G) rfl (fun l=>?_) (fun l=>?_)
  ·have c:=zT l c
   refine yB (zB (J _ _ ?_))
   refine zC fun ak K=>?_
   refine yF ?_
   refine zC fun al L=>zA<| zI (i6 d)<| zK (i6 d)<| zF (zB (L _ _ ?_))
   refine zC fun am M=>zA<| zI (.func (.func 135) #[] #[gU h])<| zI v1<| zI (i6 d) ?_
   obtain ⟨f,m,c⟩:=zD c
   obtain ⟨p,q,an,ao,N,P,Q,R,T⟩:=dQ (H.item (i:=1) rfl) m
   obtain ⟨j,rfl,U⟩:=rTrack_open P
   have H:=H.fzs [.at p (q+d.toNat * 4) _,.sl dC j f.Series.Samples] ⟨⟨Q,R,T⟩,U,trivial⟩
   refine zH (xJ u27 sz37 N rfl (yE m).1 (yE m).2.1 rfl rfl)<| zH (yJ (yM (cs:=[sb f.Name,i6 f.Series.Den,j,i6 f.Long]) agg37 rfl sz37 rfl (H.item (i:=2) rfl).2.2) rfl) ?_
   obtain ⟨V,X,c⟩:=zD c
   refine yA rfl rfl (aP en135 rfl rfl) (Fd2w f p1c0 j h _ X _ _ _ (H.enter [0] [3] (by decide) rfl)) ?_
   rintro _ Y ⟨rfl,Z⟩
   have H:Hd _ _ Y _ [f1 eU v1 k,.fz (.at p (q+d.toNat * 4) [sb f.Name,i6 f.Series.Den,j,i6 f.Long]),f1 dC j f.Series.Samples,.blk h [sb p1c0] 9]:=H.back [0] [3] rfl Z
   refine ⟨_,rfl,?_⟩
   refine zF (zB (M _ _ ?_))
   refine yC (b:=V) rfl (fun n=>?_) (fun n=>?_)
   ·have c:=zT n c
    refine zC fun ap aa=>zA<| zI (i6 d)<| zK (i6 d)<| zF (zB (aa _ _ ?_))
    obtain rfl:=gI c
    refine (zY (yG (zZ (zZ (yG (zZ (fF (v1:=i6 d) rfl rfl ?_)))))))
    exact ⟨rfl,H.pick [3] (by decide)⟩
   have c:=zU n c
   refine (yB (yK (zB (K _ _ ?_))))
   refine zA ?_
   obtain ⟨s,ab,c⟩:=zG c
   refine zH (xQ (a:=d) (b:=1) rfl rfl ab)<| zI (i6 s) ?_
   exact (zF (zB (meet ⟨(E,s),(zL rfl zO),⟨H.pick [3,0] (by decide),c⟩,Nat.lt_succ_self _⟩)))
  have c:=zU l c
  exact (xK (yH (yH (yU (zB (meet ⟨(),zO,⟨H.pick [0] (by decide),c⟩⟩))))))
 rintro _ ρ aq ⟨H,c⟩
 have c:=dE x c
 refine zC fun ar ac=>zA<| zK (i6 (-1))<| zF (zB (ac _ _ ?_))
 obtain rfl:=gI c
 refine (zY (fF (v1:=i6 (-1)) rfl rfl ?_))
 exact ⟨rfl,H.pick [0] (by decide)⟩
theorem Fcgw (f:List fP)(p1c0:Str)(v1:Value)(c:Nat)(r:Bool)(d:Fcg f p1c0=some r)(O S:List Nat)(w:World)(H:Hd O w w S [.blk c [sb p1c0] 9,f1 eU v1 f]):
  Cl 134 [v1,.func (.func 135) #[] #[gU c]] w fun e i=>e= .returned (.bool r)∧Hd O w i S [.blk c [sb p1c0] 9]:=by
 unfold Fcg at d
 refine zS 9 Tryz.func134 rfl rfl rfl ?_
 refine zC fun q j=>zA<| zK (.bool false)<| zF (zB (j _ _ ?_))
 refine zC fun s k=>zA<| zI v1<| zI (.func (.func 135) #[] #[gU c]) ?_
 obtain ⟨l,m,d⟩:=zD d
 refine yA rfl rfl (zV en189 rfl) (Fcqw f p1c0 v1 c _ m _ _ _ (H.enter [0] [1] (by decide) rfl)) ?_
 rintro _ n ⟨rfl,o⟩
 have H:Hd _ _ n _ [f1 eU v1 f,.blk c [sb p1c0] 9]:=H.back [0] [1] rfl o
 refine ⟨_,rfl,?_⟩
 obtain ⟨h,p,d⟩:=zG d
 refine zH (zQ (Do_geq (a:=l) (b:=0) rfl rfl) p)<| zK (.bool h)<| zF (zB (k _ _ ?_))
 obtain rfl:=gI d
 refine (zY (fF (v1:= .bool h) rfl rfl ?_))
 exact ⟨rfl,H.pick [1] (by decide)⟩
set_option maxRecDepth 100000 in
theorem Fcdw (j:Rules)(k:List fP)(v1:Value)(f:Value)(h:Value)(d:Value)(r:Int)(c:Fcd j k=some r)(O S:List Nat)(w:World)(H:Hd O w w S [f1 Rp.str v1 j.Phases,f1 fA f j.Moves,f1 fC h j.Rules,f1 eU d k]):
  Cl 73 [.agg [v1,f,h].toArray,d] w fun e D=>e= .returned (i6 r)∧Hd O w D S []:=by
 unfold Fcd at c
 refine zS 31 Tryz.func73 rfl rfl rfl ?_
 refine zC fun K9 E=>zA<| yP rfl rfl (xW (cs:=[v1,f,h]) rfl H) ?_
 rintro _ a9 ⟨ba,rfl,H⟩
 refine zK (i6 0)<| zF (zB (E _ _ ?_))
 refine zC fun bb F=>?_
 refine zC fun bc G=>zA<| zH (yJ (yM (cs:=[v1,f,h]) agg26 rfl sz26 rfl (Hbc H 4 rfl)) rfl) ?_
 have I:=H
 obtain ⟨l,J,c⟩:=zD c
 refine yA rfl rfl (zV en31 rfl) (Fa1w j v1 f h _ J _ _ _ (H.enter [] [0,1,2] (by decide) rfl)) ?_
 rintro _ bd ⟨rfl,K⟩
 have H:=I.step (K.only:Only [] _ _)
 refine ⟨_,rfl,?_⟩
 refine zK (i6 l)<| zF (zB (G _ _ ?_))
 refine zC fun be L=>zA<| zI (i6 l) ?_
 obtain ⟨M,N,c⟩:=zG c
 refine zH (zQ (dH (a:=l) (b:=0) rfl rfl) N)<| zF (zB (L _ _ ?_))
 refine yC (b:=M) rfl (fun o=>?_) (fun o=>?_)
 ·have c:=zT o c
  refine zC fun bf P=>zA<| zI (i6 l)<| zK (i6 l)<| zF (zB (P _ _ ?_))
  obtain rfl:=gI c
  refine (zY (zZ (fF (v1:=i6 l) rfl rfl ?_)))
  exact ⟨rfl,H.pick [] (by decide)⟩
 have c:=zU o c
 refine yB (zB (F _ _ ?_))
 refine zC fun bg Q=>?_
 refine zC fun bh R=>zA<| zI d ?_
 have T:=H
 obtain ⟨m,U,c⟩:=zD c
 refine yA rfl rfl (zV en75 rfl) (Fcbw k d _ U _ _ _ (H.enter [] [3] (by decide) rfl)) ?_
 rintro _ bi ⟨rfl,V⟩
 have H:=T.step (V.only:Only [] _ _)
 refine ⟨_,rfl,?_⟩
 refine zK (i6 m)<| zF (zB (R _ _ ?_))
 refine zC fun bj X=>zA<| zI (i6 m) ?_
 obtain ⟨Y,Z,c⟩:=zG c
 refine zH (zQ (dH (a:=m) (b:=0) rfl rfl) Z)<| zF (zB (X _ _ ?_))
 refine yC (b:=Y) rfl (fun q=>?_) (fun q=>?_)
 ·have c:=zT q c
  refine zC fun bk aa=>zA<| zI (i6 m)<| zK (i6 m)<| zF (zB (aa _ _ ?_))
  obtain rfl:=gI c
  refine (zY (zZ (fF (v1:=i6 m) rfl rfl ?_)))
  exact ⟨rfl,H.pick [] (by decide)⟩
 have c:=zU q c
 refine yB (zB (Q _ _ ?_))
 obtain ⟨ab,ac,c⟩:=wJ c
 refine yL [4,8,19,20,21,22,23,24,25,26,27,28,29,30] (fun (g:Unit)=>[]) (fun g wl=>Hd O w wl S []∧ab ()=some r) ?_ ?_
 ·skip
  refine zC fun bl ad=>zA<| zH (yJ (yM (cs:=[v1,f,h]) agg26 rfl sz26 rfl (Hbc H 4 rfl)) rfl) ?_
  obtain ⟨x,ae,c⟩:=zD c
  refine yA rfl rfl (zV en95 rfl) (Fbqw j v1 f h _ ae _ _ _ (H.enter [] [0,1,2] (by decide) rfl)) ?_
  rintro _ bm ⟨y,rfl,af⟩
  have H:=H.back1 [0,1,2] rfl af
  refine ⟨_,rfl,?_⟩
  obtain ⟨ag,ah,c⟩:=zG c
  obtain ⟨bn,bo,ai⟩:=Sr.len (Sr.of_own (H.item (i:=5) rfl))
  refine zH (yJ (xN u22 ai) (congrArg (Value.int .i64) ah))<| zI (i6 0)<| zF (zB (ad _ _ ?_))
  refine yF ?_
  unfold Ffl at c
  obtain ⟨aj,z,ak,c⟩:=yR c
  refine xG [4,8,22,23,24,25,26,27,28,29,30] (fun (g:Nat×Int)=>[(22,i6 g.2)]) (fun g wl=>Hd O w wl S [f1 eU d k,.own Rp.str y 9 x]∧eF aj g.1 g.2=some r) (fun g=>g.1) (z,0) (zL rfl zO) ⟨H.pick [3,5] (by decide),c⟩ ?_
  clear H c
  rintro ⟨z,A⟩ ρ bp ⟨H,c⟩
  obtain ⟨al,rfl,c⟩:=yX c
  have c:=yY ak c
  refine zC fun bq am=>zA ?_
  obtain ⟨an,ao,c⟩:=zG c
  refine zH (zQ (xR (a:=A) (b:=ag) rfl rfl) ao)<| zF (zB (am _ _ ?_))
  refine zC fun br ap=>?_
  refine yC (b:=an) rfl (fun s=>?_) (fun s=>?_)
  ·have c:=zT s c
   refine yB (zB (ap _ _ ?_))
   refine zC fun bt aq=>?_
   refine yF ?_
   refine zC fun bu ar=>zA ?_
   obtain ⟨n,t,c⟩:=zD c
   obtain ⟨bv,bw,au,av,aw,ax⟩:=kT (H.item (i:=1) rfl) t
   obtain rfl:au= [sb n]:=aw
   refine zH (xJ u22 sz9 av rfl (yE t).1 (yE t).2.1 rfl rfl)<| zH (xA bC rfl (Cells.get ax (i:=0) rfl))<| yP rfl rfl (xH zero9 H) ?_
   rintro _ bx ⟨B,rfl,H⟩
   refine yV rfl (xE H 2 rfl sz9 rfl (v:=sb n) rfl rfl rfl) ?_
   rintro bz H
   refine zF (zB (ar _ _ ?_))
   refine zC fun b0 ay=>zA<| zI d<| zH (cZ rfl) ?_
   obtain ⟨az,a0,c⟩:=zD c
   refine yA rfl rfl (zV en134 rfl) (Fcgw k n d B _ a0 _ _ _ (H.enter [2] [0] (by decide) rfl)) ?_
   rintro _ a1 ⟨rfl,a2⟩
   have H:Hd _ _ a1 _ [f1 eU d k,.own Rp.str y 9 x,.blk B [sb n] 9]:=H.back [2] [0] rfl a2
   refine ⟨_,rfl,?_⟩
   obtain ⟨a3,a4,c⟩:=zG c
   refine zH (zQ (wL (p:=az) rfl) a4)<| zF (zB (ay _ _ ?_))
   refine yC (b:=a3) rfl (fun u=>?_) (fun u=>?_)
   ·have c:=zT u c
    refine zC fun b1 a5=>zA<| zK (i6 4)<| zF (zB (a5 _ _ ?_))
    obtain rfl:=gI c
    refine (zY (yG (zZ (zZ (yG (zZ (fF (v1:=i6 4) rfl rfl ?_)))))))
    exact ⟨rfl,H.pick [] (by decide)⟩
   have c:=zU u c
   refine (yB (yK (zB (aq _ _ ?_))))
   refine zA ?_
   obtain ⟨C,a6,c⟩:=zG c
   refine zH (xQ (a:=A) (b:=1) rfl rfl a6)<| zI (i6 C) ?_
   exact (zF (zB (meet ⟨(al,C),(zL rfl zO),⟨H.pick [0,1] (by decide),c⟩,Nat.lt_succ_self _⟩)))
  have c:=zU s c
  exact (xK (yH (yH (yU (zB (meet ⟨(),zO,⟨H.pick [] (by decide),c⟩⟩))))))
 rintro _ ρ b2 ⟨H,c⟩
 have c:=dE ac c
 refine zC fun b3 a7=>zA<| zK (i6 0)<| zF (zB (a7 _ _ ?_))
 obtain rfl:=gI c
 refine (zY (fF (v1:=i6 0) rfl rfl ?_))
 exact ⟨rfl,H.pick [] (by decide)⟩
theorem Fbxw (f:List Str)(v1:Value)(r:(List Str))(a:Fbx f=some r)(O S:List Nat)(w:World)(H:Hd O w w S [f1 Rp.str v1 f]):
  Cl 100 [v1] w fun e h=> ∃u3,e= .returned (u3)∧Hd O w h S [.own Rp.str u3 9 r]:=by
 unfold Fbx at a
 refine zS 8 Tryz.func100 rfl rfl rfl ?_
 refine zC fun u j=>zA<| zK (.slice none 0 0)<| zF (zB (j _ _ ?_))
 refine zC fun v k=>?_
 refine zC fun x l=>zA<| zI v1 ?_
 obtain ⟨y,z,m,n⟩:=slf_nilq (H.item (i:=0) rfl)
 obtain ⟨o,p,a⟩:=nilO_some a n
 refine zH (yJ (Do_eqlnils u22 m rfl) (congrArg Value.bool p))<| zF (zB (l _ _ ?_))
 refine yC (b:=o) rfl (fun c=>?_) (fun c=>?_)
 ·have a:=zT c a
  refine zC fun A q=>zA<| zK (.slice none 0 0)<| zF (zB (q _ _ ?_))
  have H:=dY H Rp.str 9
  obtain rfl:=gI a
  refine (zY (zZ (fF (v1:= .slice none 0 0) rfl rfl ?_)))
  exact ⟨.slice none 0 0,rfl,H.pick [1] (by decide)⟩
 have a:=zU c a
 refine yB (zB (k _ _ ?_))
 refine zC fun B s=>zA<| yP rfl rfl (Lx_bs0 (r:=Rp.str) u22 el9 H) ?_
 rintro C D H
 refine zI v1 ?_
 obtain ⟨E,t,a⟩:=zD a
 refine yP rfl rfl (aO H (i:=1) rfl u22 el9 rfl rfl (Sr.of_rd (H.item (i:=0) rfl)) t) ?_
 rintro d F H
 refine zK d<| zF (zB (s _ _ ?_))
 obtain rfl:=gI a
 refine (zY (fF (v1:=d) rfl rfl ?_))
 exact ⟨d,rfl,H.pick [1] (by decide)⟩
abbrev Fdb (f:fZ→Cond→Option Nd):Prop:= ∀(p0:fZ) (p1:Cond) (b1:Nat) (b2:Nat) (v3:Value) (v4:Value) (b5:Nat) (v11:Value) (r:Nd) (_:f p0 p1=some r) (O S:List Nat) (w:World) (_:Hd O w w S [.mp b2 (fB Ky.str (fun v=>Value.int .i64 v) p0.tracks),.own (Rp.int .i64) v3 3 p0.dens,.mp b5 (fB Ky.str (fun v=>Value.int .i64 v) p0.rules),.blk b1 [.map (some b2),v3,v4,.map (some b5)] 215,f1 Rp.str v4 p0.phases,f1 fD v11 p1.Kids]),
  Cl 137 [gU b1,.agg [i6 p1.Kind,sb p1.Name,sb p1.Other,i6 p1.Op,i6 p1.N,i6 p1.Frames,v11].toArray] w fun e w'=> ∃u13 u14,e= .returned (u13)∧Hd O w w' S [.tr gY [u13] u14 r,.mp b2 (fB Ky.str (fun v=>Value.int .i64 v) p0.tracks),.own (Rp.int .i64) v3 3 p0.dens,.mp b5 (fB Ky.str (fun v=>Value.int .i64 v) p0.rules),.blk b1 [.map (some b2),v3,v4,.map (some b5)] 215]
theorem Fbyw (rfH:fZ→Cond→Option Nd)(rhH:Fdb rfH)(f:fZ)(p:List Cond)(n:Nat)(h:Nat)(j:Value)(l:Value)(k:Nat)(o:Value)(r:(List Nd))(d:Fby rfH f p=some r)(O S:List Nat)(w:World)(H:Hd O w w S [.mp h (fB Ky.str (fun v=>Value.int .i64 v) f.tracks),.own (Rp.int .i64) j 3 f.dens,.mp k (fB Ky.str (fun v=>Value.int .i64 v) f.rules),.blk n [.map (some h),j,l,.map (some k)] 215,f1 Rp.str l f.phases,f1 fD o p]):
  Cl 190 [gU n,o] w fun e M=> ∃D P,e= .returned (D)∧Hd O w M S [.tr fG [D] P r,.mp h (fB Ky.str (fun v=>Value.int .i64 v) f.tracks),.own (Rp.int .i64) j 3 f.dens,.mp k (fB Ky.str (fun v=>Value.int .i64 v) f.rules),.blk n [.map (some h),j,l,.map (some k)] 215]:=by
 unfold Fby at d
 refine zS 22 Tryz.func190 rfl rfl rfl ?_
 refine zC fun a1 Q=>zA<| zK (.slice none 0 0)<| zF (zB (Q _ _ ?_))
 refine zC fun a2 R=>zA<| zK (.slice none 0 0)<| zF (zB (R _ _ ?_))
 obtain ⟨E,d,T⟩:=zD d
 refine yL [5,7,8,9,10,11,12,13,14,15,16,17,18,19,20] (fun (g:Value×(List Nat))=>[(5,g.1)]) (fun g wl=>Hd O w wl S [.tr fG [g.1] g.2 E,.mp h (fB Ky.str (fun v=>Value.int .i64 v) f.tracks),.own (Rp.int .i64) j 3 f.dens,.mp k (fB Ky.str (fun v=>Value.int .i64 v) f.rules),.blk n [.map (some h),j,l,.map (some k)] 215,f1 Rp.str l f.phases]) ?_ ?_
 ·skip
  refine zC fun a3 U=>zA<| zI o ?_
  obtain ⟨V,X,d⟩:=zG d
  obtain ⟨a4,a5,Y⟩:=SlF.len ((H.item (i:=5) rfl))
  refine zH (yJ (xN u68 Y) (congrArg (Value.int .i64) X))<| zI (i6 0)<| zF (zB (U _ _ ?_))
  refine yF ?_
  have H:=row_nil H gY 170
  unfold Few at d
  obtain ⟨Z,F,aa,d⟩:=yR d
  refine xG [5,7,10,11,12,13,14,15,16,17,18,19,20] (fun (g:Nat×(List Nd)×Int×Value×(List Nat))=>[(5,g.2.2.2.1),(10,i6 g.2.2.1)]) (fun g wl=>Hd O w wl S [.tr fG [g.2.2.2.1] g.2.2.2.2 g.2.1,.mp h (fB Ky.str (fun v=>Value.int .i64 v) f.tracks),.own (Rp.int .i64) j 3 f.dens,.mp k (fB Ky.str (fun v=>Value.int .i64 v) f.rules),.blk n [.map (some h),j,l,.map (some k)] 215,f1 Rp.str l f.phases,f1 fD o p]∧eF Z g.1 (g.2.1,g.2.2.1)=some E) (fun g=>g.1) (F,[],0,.slice none 0 0,[]) (zL rfl (zL rfl zO)) ⟨H.pick [6,0,1,2,3,4,5] (by decide),d⟩ ?_
  clear H d
  rintro ⟨F,G,q,s,y⟩ ρ a6 ⟨H,d⟩
  obtain ⟨ab,rfl,d⟩:=yX d
  have d:=yY aa d
  refine zC fun a7 ac=>zA ?_
  obtain ⟨ad,ae,d⟩:=zG d
  refine zH (zQ (xR (a:=q) (b:=V) rfl rfl) ae)<| zF (zB (ac _ _ ?_))
  refine zC fun a8 af=>?_
  refine yC (b:=ad) rfl (fun z=>?_) (fun z=>?_)
  ·have d:=zT z d
   refine yB (zB (af _ _ ?_))
   refine zC fun a9 ag=>?_
   refine yF ?_
   refine zC fun ba ah=>zA ?_
   obtain ⟨c,A,d⟩:=zD d
   obtain ⟨t,u,bb,bc,ai,aj,ak,al,am⟩:=dQ (H.item (i:=6) rfl) A
   obtain ⟨m,rfl,an⟩:=bQ aj
   have H:=H.fzs [.at t (u+q.toNat * 7) _,.sl fD m c.Kids] ⟨⟨ak,al,am⟩,an,trivial⟩
   refine zH (xJ u68 dB ai rfl (yE A).1 (yE A).2.1 rfl rfl)<| zH (yJ (yM (cs:=[i6 c.Kind,sb c.Name,sb c.Other,i6 c.Op,i6 c.N,i6 c.Frames,m]) dI rfl dB rfl (H.item (i:=7) rfl).2.2) rfl)<| yP rfl rfl (xH kF H) ?_
   rintro _ bd ⟨B,rfl,H⟩
   refine yV rfl (yQ (vs:=[i6 c.Kind,sb c.Name,sb c.Other,i6 c.Op,i6 c.N,i6 c.Frames,m]) H 9 rfl dB rfl rfl rfl ⟨rfl,rfl,rfl,rfl,rfl,rfl,(wH (H.item (i:=8) rfl)),trivial⟩ rfl) ?_
   rintro be H
   refine zF (zB (ah _ _ ?_))
   refine zA ?_
   refine zI s<| zI (gU n)<| zH (yJ (yM (cs:=[i6 c.Kind,sb c.Name,sb c.Other,i6 c.Op,i6 c.N,i6 c.Frames,m]) dI rfl dB rfl (Hbc H 9 rfl)) rfl) ?_
   obtain ⟨I,ao,d⟩:=zD d
   refine yA rfl rfl (zV en137 rfl) (rhH (fZ.mk f.tracks f.dens f.phases f.rules) c n h j l k m _ ao _ _ _ (H.enter [1,2,3,4] [5,8] (by decide) rfl)) ?_
   rintro _ ap ⟨aq,ar,rfl,au⟩
   have H:Hd _ _ ap _ [.tr fG [s] y G,f1 Rp.str l f.phases,f1 fD o p,.fz (.at t (u+q.toNat * 7) [i6 c.Kind,sb c.Name,sb c.Other,i6 c.Op,i6 c.N,i6 c.Frames,m]),f1 fD m c.Kids,.blk B [i6 c.Kind,sb c.Name,sb c.Other,i6 c.Op,i6 c.N,i6 c.Frames,m] 70,.tr gY [aq] ar I,.mp h (fB Ky.str (fun v=>Value.int .i64 v) f.tracks),.own (Rp.int .i64) j 3 f.dens,.mp k (fB Ky.str (fun v=>Value.int .i64 v) f.rules),.blk n [.map (some h),j,l,.map (some k)] 215]:=H.back [1,2,3,4] [5,8] rfl au
   refine ⟨_,rfl,?_⟩
   refine yP rfl rfl (Lx_bsT1 H 6 rfl u143 el170 (by decide) (by decide) (fillB_ones rfl rfl ⟨(bF (H.item (i:=6) rfl)),trivial⟩)) ?_
   rintro av bf ⟨aw,H⟩
   have H:Hd _ _ _ _ [.tr fG [s] y G,f1 Rp.str l f.phases,f1 fD o p,.fz (.at t (u+q.toNat * 7) [i6 c.Kind,sb c.Name,sb c.Other,i6 c.Op,i6 c.N,i6 c.Frames,m]),f1 fD m c.Kids,.blk B [i6 c.Kind,sb c.Name,sb c.Other,i6 c.Op,i6 c.N,i6 c.Frames,m] 70,.mp h (fB Ky.str (fun v=>Value.int .i64 v) f.tracks),.own (Rp.int .i64) j 3 f.dens,.mp k (fB Ky.str (fun v=>Value.int .i64 v) f.rules),.blk n [.map (some h),j,l,.map (some k)] 215,.tr fG [av] aw [I]]:=H
   obtain ⟨J,ax,d⟩:=zD d
   refine yP rfl rfl (Lx_appT H 0 10 rfl rfl (by decide) u143 el170 rfl rfl ax) ?_
   rintro C bg ⟨K,H⟩
   have H:Hd _ _ _ _ [f1 Rp.str l f.phases,f1 fD o p,.fz (.at t (u+q.toNat * 7) [i6 c.Kind,sb c.Name,sb c.Other,i6 c.Op,i6 c.N,i6 c.Frames,m]),f1 fD m c.Kids,.blk B [i6 c.Kind,sb c.Name,sb c.Other,i6 c.Op,i6 c.N,i6 c.Frames,m] 70,.mp h (fB Ky.str (fun v=>Value.int .i64 v) f.tracks),.own (Rp.int .i64) j 3 f.dens,.mp k (fB Ky.str (fun v=>Value.int .i64 v) f.rules),.blk n [.map (some h),j,l,.map (some k)] 215,.tr fG [C] K J]:=H
   refine zK C<| (zF (yK (zB (ag _ _ ?_))))
   refine zA ?_
   obtain ⟨L,ay,d⟩:=zG d
   refine zH (xQ (a:=q) (b:=1) rfl rfl ay)<| zI (i6 L) ?_
   exact (zF (zB (meet ⟨(ab,J,L,C,K),(zL rfl (zL rfl zO)),⟨H.pick [9,5,6,7,8,0,1] (by decide),d⟩,Nat.lt_succ_self _⟩)))
  have d:=zU z d
  obtain rfl:=gI d
  exact (xK (yH (yH (yU (zB (meet ⟨(s,y),(zL rfl zO),H.pick [0,1,2,3,4,5] (by decide)⟩))))))
 rintro ⟨x,az⟩ ρ bh H
 have d:=T
 refine zC fun bi a0=>zA<| zI x<| zK x<| zF (zB (a0 _ _ ?_))
 obtain rfl:=gI d
 refine (zY (fF (v1:=x) rfl rfl ?_))
 exact ⟨x,az,rfl,H.pick [0,1,2,3,4] (by decide)⟩
end Go.Proofs.YtckmiljbaejijaaGreatDoor.L
