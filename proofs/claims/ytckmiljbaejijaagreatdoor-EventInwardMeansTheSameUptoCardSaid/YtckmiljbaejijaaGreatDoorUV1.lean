/- Walks: what each function computes, for every argument; no condition but those that stand in the statements. -/
import Derived.Test.YtckmiljbaejijaaGreatDoorUV0
namespace Go.Proofs.YtckmiljbaejijaaGreatDoor.L
open Go.RowKit Go.OB Go.Lf
set_option maxHeartbeats 4000000
set_option maxRecDepth 100000 in
theorem Fabw (d:Int)(r:dQ×Bool)(c:Fab d=some r)(O S:List Nat)(w:World)(H:Hd O w w S []):
  Cl 142 [i6 d] w fun e Q=>e= .returned (.tuple #[.agg [.bool r.1.name,.bool r.1.other,.bool r.1.op,.bool r.1.n,.bool r.1.frames,i6 r.1.least,i6 r.1.most].toArray,.bool r.2])∧Hd O w Q S []:=by
 unfold Fab at c
 refine CW 41 Tryz.func142 ?_
 refine zB fun K1 R=>zA<| yQ rfl rfl (xA aRt H) ?_
 rintro _ w4 ⟨f,rfl,H⟩
 refine zI (.bool false)<| RN R<| zB fun bk T=>zB fun bl U=>zA<| zH (i6 d)<| RN U<| yD ?_
 obtain ⟨z,c,V⟩:=zC c
 refine yK [5,6,7] (fun (g:Unit)=>[(5,.bool z)]) (fun g wl=>Hd O w wl S [.blk f [.bool false,.bool false,.bool false,.bool false,.bool false,i6 0,i6 0] 226]) ?_ ?_
 ·skip
  refine zB fun bm X=>zA ?_
  obtain ⟨A,Y,c⟩:=zD c
  refine zG (zL (yR (a:=d) (b:=1) rfl rfl) Y)<| zI (.bool A)<| RN X<| zY (b:=A) rfl (fun h=>?_) (fun h=>?_)
  ·have c:=zO h c
   obtain rfl:=gI c
   exact (zX (zF (meet ⟨(),(zJ rfl zK),H.pick [0]⟩)))
  have c:=zQ h c
  refine zA ?_
  obtain ⟨Z,aa,c⟩:=zD c
  refine zG (zL (yR (a:=d) (b:=2) rfl rfl) aa)<| zI (.bool Z) ?_
  obtain rfl:=gI c
  exact (yA (zF (meet ⟨(),(zJ rfl zK),H.pick [0]⟩)))
 rintro _ ρ bn H
 have c:=V
 refine zY (b:=z) rfl (fun i=>?_) (fun i=>?_)
 ·have c:=zO i c
  refine zB fun bo ab=>zA<| zG (xJ (cs:=[.bool false,.bool false,.bool false,.bool false,.bool false,i6 0,i6 0]) bz226)<| yP rfl (yL (vs:=[.bool false,.bool false,.bool false,.bool false,.bool false,i6 0,i6 0]) H 0 rfl kC rfl rfl rfl ⟨rfl,rfl,rfl,rfl,rfl,rfl,rfl,trivial⟩ rfl) ?_
  rintro bp H
  refine zI (.bool true)<| RN ab ?_
  obtain rfl:=gI c
  refine (zW (yE (zV (kE (v1:= .bool true) rfl rfl (yN qG kC rfl (Hbc H 0 rfl)) rfl ?_))))
  exact ⟨rfl,H.pick []⟩
 have c:=zQ i c
 refine zB fun bq ac=>zA ?_
 obtain ⟨B,ad,c⟩:=zD c
 refine zG (zL (yR (a:=d) (b:=3) rfl rfl) ad)<| zI (.bool B)<| RN ac<| zY (b:=B) rfl (fun j=>?_) (fun j=>?_)
 ·have c:=zO j c
  refine zB fun br ae=>zA<| zG (xJ (cs:=[.bool true,.bool false,.bool true,.bool true,.bool false,i6 0,i6 0]) (aNu _ _ _))<| yP rfl (yL (vs:=[.bool true,.bool false,.bool true,.bool true,.bool false,i6 0,i6 0]) H 0 rfl kC rfl rfl rfl ⟨rfl,rfl,rfl,rfl,rfl,rfl,rfl,trivial⟩ rfl) ?_
  rintro bt H
  refine zI (.bool true)<| RN ae ?_
  obtain rfl:=gI c
  refine (zW (yE (zV (kE (v1:= .bool true) rfl rfl (yN qG kC rfl (Hbc H 0 rfl)) rfl ?_))))
  exact ⟨rfl,H.pick []⟩
 have c:=zQ j c
 refine zB fun bu af=>zA ?_
 obtain ⟨C,ag,c⟩:=zD c
 refine zG (zL (yR (a:=d) (b:=4) rfl rfl) ag)<| zI (.bool C)<| RN af<| zY (b:=C) rfl (fun k=>?_) (fun k=>?_)
 ·have c:=zO k c
  refine zB fun bv ah=>zA<| zG (xJ (cs:=[.bool true,.bool true,.bool true,.bool false,.bool false,i6 0,i6 0]) (aMp _ _ _))<| yP rfl (yL (vs:=[.bool true,.bool true,.bool true,.bool false,.bool false,i6 0,i6 0]) H 0 rfl kC rfl rfl rfl ⟨rfl,rfl,rfl,rfl,rfl,rfl,rfl,trivial⟩ rfl) ?_
  rintro bw H
  refine zI (.bool true)<| RN ah ?_
  obtain rfl:=gI c
  refine (zW (yE (zV (kE (v1:= .bool true) rfl rfl (yN qG kC rfl (Hbc H 0 rfl)) rfl ?_))))
  exact ⟨rfl,H.pick []⟩
 have c:=zQ k c
 refine zB fun bx ai=>zA ?_
 obtain ⟨D,aj,c⟩:=zD c
 refine zG (zL (yR (a:=d) (b:=5) rfl rfl) aj)<| zI (.bool D)<| RN ai<| zY (b:=D) rfl (fun l=>?_) (fun l=>?_)
 ·have c:=zO l c
  refine zB fun bz ak=>zA<| zG (xJ (cs:=[.bool true,.bool false,.bool false,.bool true,.bool true,i6 0,i6 0]) (aMl _ _ _))<| yP rfl (yL (vs:=[.bool true,.bool false,.bool false,.bool true,.bool true,i6 0,i6 0]) H 0 rfl kC rfl rfl rfl ⟨rfl,rfl,rfl,rfl,rfl,rfl,rfl,trivial⟩ rfl) ?_
  rintro b0 H
  refine zI (.bool true)<| RN ak ?_
  obtain rfl:=gI c
  refine (zW (yE (zV (kE (v1:= .bool true) rfl rfl (yN qG kC rfl (Hbc H 0 rfl)) rfl ?_))))
  exact ⟨rfl,H.pick []⟩
 have c:=zQ l c
 obtain ⟨E,c,al⟩:=zC c
 refine yK [18,19,20] (fun (g:Unit)=>[(18,.bool E)]) (fun g wl=>Hd O w wl S [.blk f [.bool false,.bool false,.bool false,.bool false,.bool false,i6 0,i6 0] 226]) ?_ ?_
 ·skip
  refine zB fun b1 am=>zA ?_
  obtain ⟨F,an,c⟩:=zD c
  refine zG (zL (yR (a:=d) (b:=6) rfl rfl) an)<| zI (.bool F)<| RN am<| zY (b:=F) rfl (fun m=>?_) (fun m=>?_)
  ·have c:=zO m c
   obtain rfl:=gI c
   exact (zX (zF (meet ⟨(),(zJ rfl zK),H.pick [0]⟩)))
  have c:=zQ m c
  refine zA ?_
  obtain ⟨ao,ap,c⟩:=zD c
  refine zG (zL (yR (a:=d) (b:=7) rfl rfl) ap)<| zI (.bool ao) ?_
  obtain rfl:=gI c
  exact (yA (zF (meet ⟨(),(zJ rfl zK),H.pick [0]⟩)))
 rintro _ ρ b2 H
 have c:=al
 refine zY (b:=E) rfl (fun o=>?_) (fun o=>?_)
 ·have c:=zO o c
  refine zB fun b3 aq=>zA<| zG (xJ (cs:=[.bool true,.bool false,.bool false,.bool false,.bool false,i6 0,i6 0]) (bt226_0 _))<| yP rfl (yL (vs:=[.bool true,.bool false,.bool false,.bool false,.bool false,i6 0,i6 0]) H 0 rfl kC rfl rfl rfl ⟨rfl,rfl,rfl,rfl,rfl,rfl,rfl,trivial⟩ rfl) ?_
  rintro b4 H
  refine zI (.bool true)<| RN aq ?_
  obtain rfl:=gI c
  refine (zW (yE (zV (kE (v1:= .bool true) rfl rfl (yN qG kC rfl (Hbc H 0 rfl)) rfl ?_))))
  exact ⟨rfl,H.pick []⟩
 have c:=zQ o c
 obtain ⟨G,c,ar⟩:=zC c
 refine yK [22,23,24] (fun (g:Unit)=>[(22,.bool G)]) (fun g wl=>Hd O w wl S [.blk f [.bool false,.bool false,.bool false,.bool false,.bool false,i6 0,i6 0] 226]) ?_ ?_
 ·skip
  refine zB fun b5 au=>zA ?_
  obtain ⟨I,av,c⟩:=zD c
  refine zG (zL (yR (a:=d) (b:=8) rfl rfl) av)<| zI (.bool I)<| RN au<| zY (b:=I) rfl (fun p=>?_) (fun p=>?_)
  ·have c:=zO p c
   obtain rfl:=gI c
   exact (zX (zF (meet ⟨(),(zJ rfl zK),H.pick [0]⟩)))
  have c:=zQ p c
  refine zA ?_
  obtain ⟨aw,ax,c⟩:=zD c
  refine zG (zL (yR (a:=d) (b:=15) rfl rfl) ax)<| zI (.bool aw) ?_
  obtain rfl:=gI c
  exact (yA (zF (meet ⟨(),(zJ rfl zK),H.pick [0]⟩)))
 rintro _ ρ b6 H
 have c:=ar
 refine zY (b:=G) rfl (fun q=>?_) (fun q=>?_)
 ·have c:=zO q c
  refine zB fun b7 ay=>zA<| zG (xJ (cs:=[.bool false,.bool false,.bool false,.bool false,.bool false,i6 1,i6 1]) (aCb _ _))<| yP rfl (yL (vs:=[.bool false,.bool false,.bool false,.bool false,.bool false,i6 1,i6 1]) H 0 rfl kC rfl rfl rfl ⟨rfl,rfl,rfl,rfl,rfl,rfl,rfl,trivial⟩ rfl) ?_
  rintro b8 H
  refine zI (.bool true)<| RN ay ?_
  obtain rfl:=gI c
  refine (zW (yE (zV (kE (v1:= .bool true) rfl rfl (yN qG kC rfl (Hbc H 0 rfl)) rfl ?_))))
  exact ⟨rfl,H.pick []⟩
 have c:=zQ q c
 obtain ⟨J,c,az⟩:=zC c
 refine yK [26,27,28] (fun (g:Unit)=>[(26,.bool J)]) (fun g wl=>Hd O w wl S [.blk f [.bool false,.bool false,.bool false,.bool false,.bool false,i6 0,i6 0] 226]) ?_ ?_
 ·skip
  refine zB fun b9 a0=>zA ?_
  obtain ⟨K,a1,c⟩:=zD c
  refine zG (zL (yR (a:=d) (b:=9) rfl rfl) a1)<| zI (.bool K)<| RN a0<| zY (b:=K) rfl (fun s=>?_) (fun s=>?_)
  ·have c:=zO s c
   obtain rfl:=gI c
   exact (zX (zF (meet ⟨(),(zJ rfl zK),H.pick [0]⟩)))
  have c:=zQ s c
  refine zA ?_
  obtain ⟨a2,a3,c⟩:=zD c
  refine zG (zL (yR (a:=d) (b:=10) rfl rfl) a3)<| zI (.bool a2) ?_
  obtain rfl:=gI c
  exact (yA (zF (meet ⟨(),(zJ rfl zK),H.pick [0]⟩)))
 rintro _ ρ ca H
 have c:=az
 refine zY (b:=J) rfl (fun t=>?_) (fun t=>?_)
 ·have c:=zO t c
  refine zB fun cb a4=>zA<| zG (xJ (cs:=[.bool false,.bool false,.bool false,.bool false,.bool false,i6 2,i6 200]) (aCb _ _))<| yP rfl (yL (vs:=[.bool false,.bool false,.bool false,.bool false,.bool false,i6 2,i6 200]) H 0 rfl kC rfl rfl rfl ⟨rfl,rfl,rfl,rfl,rfl,rfl,rfl,trivial⟩ rfl) ?_
  rintro cc H
  refine zI (.bool true)<| RN a4 ?_
  obtain rfl:=gI c
  refine (zW (yE (zV (kE (v1:= .bool true) rfl rfl (yN qG kC rfl (Hbc H 0 rfl)) rfl ?_))))
  exact ⟨rfl,H.pick []⟩
 have c:=zQ t c
 obtain ⟨L,c,a5⟩:=zC c
 refine yK [30,31,32] (fun (g:Unit)=>[(30,.bool L)]) (fun g wl=>Hd O w wl S [.blk f [.bool false,.bool false,.bool false,.bool false,.bool false,i6 0,i6 0] 226]) ?_ ?_
 ·skip
  refine zB fun cd a6=>zA ?_
  obtain ⟨M,a7,c⟩:=zD c
  refine zG (zL (yR (a:=d) (b:=11) rfl rfl) a7)<| zI (.bool M)<| RN a6<| zY (b:=M) rfl (fun u=>?_) (fun u=>?_)
  ·have c:=zO u c
   obtain rfl:=gI c
   exact (zX (zF (meet ⟨(),(zJ rfl zK),H.pick [0]⟩)))
  have c:=zQ u c
  refine zA ?_
  obtain ⟨a8,a9,c⟩:=zD c
  refine zG (zL (yR (a:=d) (b:=12) rfl rfl) a9)<| zI (.bool a8) ?_
  obtain rfl:=gI c
  exact (yA (zF (meet ⟨(),(zJ rfl zK),H.pick [0]⟩)))
 rintro _ ρ ce H
 have c:=a5
 refine zY (b:=L) rfl (fun v=>?_) (fun v=>?_)
 ·have c:=zO v c
  refine zB fun cf ba=>zA<| zG (xJ (cs:=[.bool false,.bool false,.bool false,.bool false,.bool true,i6 1,i6 1]) (aKu _ _ _))<| yP rfl (yL (vs:=[.bool false,.bool false,.bool false,.bool false,.bool true,i6 1,i6 1]) H 0 rfl kC rfl rfl rfl ⟨rfl,rfl,rfl,rfl,rfl,rfl,rfl,trivial⟩ rfl) ?_
  rintro cg H
  refine zI (.bool true)<| RN ba ?_
  obtain rfl:=gI c
  refine (zW (yE (zV (kE (v1:= .bool true) rfl rfl (yN qG kC rfl (Hbc H 0 rfl)) rfl ?_))))
  exact ⟨rfl,H.pick []⟩
 have c:=zQ v c
 refine zB fun ch bb=>zA ?_
 obtain ⟨N,bc,c⟩:=zD c
 refine zG (zL (yR (a:=d) (b:=13) rfl rfl) bc)<| zI (.bool N)<| RN bb<| zY (b:=N) rfl (fun x=>?_) (fun x=>?_)
 ·have c:=zO x c
  refine zB fun ci bd=>zA<| zG (xJ (cs:=[.bool false,.bool false,.bool false,.bool true,.bool true,i6 1,i6 1]) (aGj _ _ _ _))<| yP rfl (yL (vs:=[.bool false,.bool false,.bool false,.bool true,.bool true,i6 1,i6 1]) H 0 rfl kC rfl rfl rfl ⟨rfl,rfl,rfl,rfl,rfl,rfl,rfl,trivial⟩ rfl) ?_
  rintro cj H
  refine zI (.bool true)<| RN bd ?_
  obtain rfl:=gI c
  refine (zW (yE (zV (kE (v1:= .bool true) rfl rfl (yN qG kC rfl (Hbc H 0 rfl)) rfl ?_))))
  exact ⟨rfl,H.pick []⟩
 have c:=zQ x c
 refine zB fun ck be=>zA ?_
 obtain ⟨P,bf,c⟩:=zD c
 refine zG (zL (yR (a:=d) (b:=14) rfl rfl) bf)<| zI (.bool P)<| RN be<| zY (b:=P) rfl (fun y=>?_) (fun y=>?_)
 ·have c:=zO y c
  refine zB fun cl bg=>zA<| zG (xJ (cs:=[.bool false,.bool false,.bool false,.bool false,.bool false,i6 2,i6 2]) (aCb _ _))<| yP rfl (yL (vs:=[.bool false,.bool false,.bool false,.bool false,.bool false,i6 2,i6 2]) H 0 rfl kC rfl rfl rfl ⟨rfl,rfl,rfl,rfl,rfl,rfl,rfl,trivial⟩ rfl) ?_
  rintro cm H
  refine zI (.bool true)<| RN bg ?_
  obtain rfl:=gI c
  refine (zW (yE (zV (kE (v1:= .bool true) rfl rfl (yN qG kC rfl (Hbc H 0 rfl)) rfl ?_))))
  exact ⟨rfl,H.pick []⟩
 have c:=zQ y c
 refine (zX (yH (zF (T _ _ ?_))))
 refine zB fun cn bh=>zA<| zG (xJ (cs:=[.bool false,.bool false,.bool false,.bool false,.bool false,i6 0,i6 0]) bz226)<| yP rfl (yL (vs:=[.bool false,.bool false,.bool false,.bool false,.bool false,i6 0,i6 0]) H 0 rfl kC rfl rfl rfl ⟨rfl,rfl,rfl,rfl,rfl,rfl,rfl,trivial⟩ rfl) ?_
 rintro co H
 refine zI (.bool false)<| RN bh ?_
 obtain rfl:=gI c
 refine (zW (kE (v1:= .bool false) rfl rfl (yN qG kC rfl (Hbc H 0 rfl)) rfl ?_))
 exact ⟨rfl,H.pick []⟩
set_option maxRecDepth 100000 in
theorem Fanw (f:Cond)(v1:Value)(r:Int)(c:Fan f=some r)(O S:List Nat)(w:World)(H:Hd O w w S [f1 fA v1 f.Kids]):
  Cl 82 [.agg [i6 f.Kind,sb f.Name,sb f.Other,i6 f.Op,i6 f.N,i6 f.Frames,v1].toArray] w fun e w'=>e= .returned (i6 r)∧Hd O w w' S []:=by
 unfold Fan at c
 refine CW 140 Tryz.func82 ?_
 refine zB fun K3 au=>zA<| yQ rfl rfl (xR (cs:=[i6 f.Kind,sb f.Name,sb f.Other,i6 f.Op,i6 f.N,i6 f.Frames,v1]) rfl H) ?_
 rintro _ w6 ⟨h,rfl,H⟩
 refine zI (i6 0)<| RN au<| zB fun K7 av=>zA<| zG (jB rfl)<| Ld fM H 1 0 rfl rfl ?_
 have H8:=H
 obtain ⟨⟨d,k⟩,ax,c⟩:=zC c
 refine zZ rfl rfl (zS en142 rfl) (Fabw f.Kind _ ax _ _ _ (H.enter [] [])) ?_
 rintro _ dm ⟨rfl,ay⟩
 have H:=H8.step (ay.only:Only [] _ _)
 refine ⟨_,rfl,?_⟩
 refine zH (.tuple #[.agg [.bool d.name,.bool d.other,.bool d.op,.bool d.n,.bool d.frames,i6 d.least,i6 d.most].toArray,.bool k])<| zG (xQ (v:= .agg [.bool d.name,.bool d.other,.bool d.op,.bool d.n,.bool d.frames,i6 d.least,i6 d.most].toArray) rfl rfl)<| zG (xQ (v:= .bool k) rfl rfl)<| yQ rfl rfl (xA aRt H) ?_
 rintro _ dn ⟨j,rfl,H⟩
 refine yP rfl (yL (vs:=[.bool d.name,.bool d.other,.bool d.op,.bool d.n,.bool d.frames,i6 d.least,i6 d.most]) H 2 rfl kC rfl rfl rfl ⟨rfl,rfl,rfl,rfl,rfl,rfl,rfl,trivial⟩ rfl) ?_
 rintro dp H
 refine zI (.bool k)<| RN av<| zB fun dq az=>zB fun dr a0=>zA<| zH (.bool k) ?_
 obtain ⟨a1,a2,c⟩:=zD c
 refine zG (zL (wH (p:=k) rfl) a2)<| RN a0<| zY (b:=a1) rfl (fun l=>?_) (fun l=>?_)
 ·have c:=zO l c
  refine zB fun ds a3=>zA<| zI (i6 7)<| RN a3 ?_
  obtain rfl:=gI c
  refine (zW (zV (fC (v1:=i6 7) rfl rfl ?_)))
  exact ⟨rfl,H.pick []⟩
 have c:=zQ l c
 refine zX (zF (az _ _ ?_))
 refine zB fun dt a4=>?_
 obtain ⟨X,c,a5⟩:=zC c
 refine yK [13,14,15,16,17,18,19,20,21,22,23,24,25,26,27,28,29,30,31,32,33,34,35,36,37,38,39,40,41,42,43,44,45,46,47,48,49,50,51,52,53,54,55,56,57,58,59,60,61,62,63,64,65,66,67,68,69,70,71] (fun (g:Unit)=>[(71,.bool X)]) (fun g wl=>Hd O w wl S [f1 fA v1 f.Kids,.blk h [i6 f.Kind,sb f.Name,sb f.Other,i6 f.Op,i6 f.N,i6 f.Frames,v1] 70,.blk j [.bool d.name,.bool d.other,.bool d.op,.bool d.n,.bool d.frames,i6 d.least,i6 d.most] 226]) ?_ ?_
 ·skip
  refine zA ?_
  refine zG (aRi rfl)<| Ld qY H 2 0 rfl rfl ?_
  obtain ⟨a6,a7,c⟩:=zD c
  refine zG (zL (wH (p:=d.name) rfl) a7) ?_
  obtain ⟨Y,c,a8⟩:=zC c
  refine bJ 5 [16,17,18,19,20] [(20,.bool Y)] (fun wl=>Hd O w wl S [f1 fA v1 f.Kids,.blk h [i6 f.Kind,sb f.Name,sb f.Other,i6 f.Op,i6 f.N,i6 f.Frames,v1] 70,.blk j [.bool d.name,.bool d.other,.bool d.op,.bool d.n,.bool d.frames,i6 d.least,i6 d.most] 226]) ?_ ?_
  ·skip
   refine yS (b:=a6) rfl rfl rfl (fun m=>?_) (fun m=>?_)
   ·have c:=zO m c
    refine zG (nK rfl)<| Ld bF H 1 1 rfl rfl ?_
    obtain ⟨a9,ba,c⟩:=zD c
    refine zG (zL (aSt (s1:=f.Name) (s2:=[]) rfl rfl) ba)<| zG (yO (v:= .bool a9) rfl rfl) ?_
    obtain rfl:=gI c
    exact yA (zF (meet ⟨(zJ rfl zK),H.pick [0,1,2]⟩))
   have c:=zQ m c
   refine yG ?_
   refine yG ?_
   refine yG ?_
   refine zG (yM (v:= .bool false) rfl rfl) ?_
   obtain rfl:=gI c
   exact yA (zF (meet ⟨(zJ rfl zK),H.pick [0,1,2]⟩))
  rintro ρ du H
  have c:=a8
  obtain ⟨Z,c,bb⟩:=zC c
  refine bJ 10 [21,22,23,24,25,26,27,28,29,30] [(30,.bool Z)] (fun wl=>Hd O w wl S [f1 fA v1 f.Kids,.blk h [i6 f.Kind,sb f.Name,sb f.Other,i6 f.Op,i6 f.N,i6 f.Frames,v1] 70,.blk j [.bool d.name,.bool d.other,.bool d.op,.bool d.n,.bool d.frames,i6 d.least,i6 d.most] 226]) ?_ ?_
  ·skip
   refine yS (b:=Y) rfl rfl rfl (fun o=>?_) (fun o=>?_)
   ·have c:=zO o c
    refine yG ?_
    refine yG ?_
    refine yG ?_
    refine yG ?_
    refine yG ?_
    refine yG ?_
    refine yG ?_
    refine yG ?_
    refine zG (yO (v:= .bool true) rfl rfl) ?_
    obtain rfl:=gI c
    exact yA (zF (meet ⟨(zJ rfl zK),H.pick [0,1,2]⟩))
   have c:=zQ o c
   refine zG (aQy rfl)<| Ld qY H 2 1 rfl rfl ?_
   obtain ⟨bc,bd,c⟩:=zD c
   refine zG (zL (wH (p:=d.other) rfl) bd)<| yS (b:=bc) rfl rfl rfl (fun q=>?_) (fun q=>?_)
   ·have c:=zO q c
    refine zG (aIt rfl)<| Ld bF H 1 2 rfl rfl ?_
    obtain ⟨aa,be,c⟩:=zD c
    refine zG (zL (aSt (s1:=f.Other) (s2:=[]) rfl rfl) be)<| zG (yO (v:= .bool aa) rfl rfl)<| zG (yM (v:= .bool aa) rfl rfl) ?_
    obtain rfl:=gI c
    exact yA (zF (meet ⟨(zJ rfl zK),H.pick [0,1,2]⟩))
   have c:=zQ q c
   refine yG ?_
   refine yG ?_
   refine yG ?_
   refine zG (yM (v:= .bool false) rfl rfl)<| zG (yM (v:= .bool false) rfl rfl) ?_
   obtain rfl:=gI c
   exact yA (zF (meet ⟨(zJ rfl zK),H.pick [0,1,2]⟩))
  rintro ρ dv H
  have c:=bb
  obtain ⟨ab,c,bf⟩:=zC c
  refine bJ 10 [31,32,33,34,35,36,37,38,39,40] [(40,.bool ab)] (fun wl=>Hd O w wl S [f1 fA v1 f.Kids,.blk h [i6 f.Kind,sb f.Name,sb f.Other,i6 f.Op,i6 f.N,i6 f.Frames,v1] 70,.blk j [.bool d.name,.bool d.other,.bool d.op,.bool d.n,.bool d.frames,i6 d.least,i6 d.most] 226]) ?_ ?_
  ·skip
   refine yS (b:=Z) rfl rfl rfl (fun s=>?_) (fun s=>?_)
   ·have c:=zO s c
    refine yG ?_
    refine yG ?_
    refine yG ?_
    refine yG ?_
    refine yG ?_
    refine yG ?_
    refine yG ?_
    refine yG ?_
    refine zG (yO (v:= .bool true) rfl rfl) ?_
    obtain rfl:=gI c
    exact yA (zF (meet ⟨(zJ rfl zK),H.pick [0,1,2]⟩))
   have c:=zQ s c
   refine zG (aTb rfl)<| Ld qY H 2 2 rfl rfl ?_
   obtain ⟨bg,bh,c⟩:=zD c
   refine zG (zL (wH (p:=d.op) rfl) bh)<| yS (b:=bg) rfl rfl rfl (fun t=>?_) (fun t=>?_)
   ·have c:=zO t c
    refine zG (rY rfl)<| Ld fM H 1 3 rfl rfl ?_
    obtain ⟨ac,bi,c⟩:=zD c
    refine zG (zL (dC (a:=f.Op) (b:=0) rfl rfl) bi)<| zG (yO (v:= .bool ac) rfl rfl)<| zG (yM (v:= .bool ac) rfl rfl) ?_
    obtain rfl:=gI c
    exact yA (zF (meet ⟨(zJ rfl zK),H.pick [0,1,2]⟩))
   have c:=zQ t c
   refine yG ?_
   refine yG ?_
   refine yG ?_
   refine zG (yM (v:= .bool false) rfl rfl)<| zG (yM (v:= .bool false) rfl rfl) ?_
   obtain rfl:=gI c
   exact yA (zF (meet ⟨(zJ rfl zK),H.pick [0,1,2]⟩))
  rintro ρ dw H
  have c:=bf
  obtain ⟨ad,c,bj⟩:=zC c
  refine bJ 10 [41,42,43,44,45,46,47,48,49,50] [(50,.bool ad)] (fun wl=>Hd O w wl S [f1 fA v1 f.Kids,.blk h [i6 f.Kind,sb f.Name,sb f.Other,i6 f.Op,i6 f.N,i6 f.Frames,v1] 70,.blk j [.bool d.name,.bool d.other,.bool d.op,.bool d.n,.bool d.frames,i6 d.least,i6 d.most] 226]) ?_ ?_
  ·skip
   refine yS (b:=ab) rfl rfl rfl (fun u=>?_) (fun u=>?_)
   ·have c:=zO u c
    refine yG ?_
    refine yG ?_
    refine yG ?_
    refine yG ?_
    refine yG ?_
    refine yG ?_
    refine yG ?_
    refine yG ?_
    refine zG (yO (v:= .bool true) rfl rfl) ?_
    obtain rfl:=gI c
    exact yA (zF (meet ⟨(zJ rfl zK),H.pick [0,1,2]⟩))
   have c:=zQ u c
   refine zG (aQp rfl)<| Ld qY H 2 3 rfl rfl ?_
   obtain ⟨bk,bl,c⟩:=zD c
   refine zG (zL (wH (p:=d.n) rfl) bl)<| yS (b:=bk) rfl rfl rfl (fun x=>?_) (fun x=>?_)
   ·have c:=zO x c
    refine zG (pM rfl)<| Ld fM H 1 4 rfl rfl ?_
    obtain ⟨ae,bm,c⟩:=zD c
    refine zG (zL (dC (a:=f.N) (b:=0) rfl rfl) bm)<| zG (yO (v:= .bool ae) rfl rfl)<| zG (yM (v:= .bool ae) rfl rfl) ?_
    obtain rfl:=gI c
    exact yA (zF (meet ⟨(zJ rfl zK),H.pick [0,1,2]⟩))
   have c:=zQ x c
   refine yG ?_
   refine yG ?_
   refine yG ?_
   refine zG (yM (v:= .bool false) rfl rfl)<| zG (yM (v:= .bool false) rfl rfl) ?_
   obtain rfl:=gI c
   exact yA (zF (meet ⟨(zJ rfl zK),H.pick [0,1,2]⟩))
  rintro ρ dx H
  have c:=bj
  obtain ⟨af,c,bn⟩:=zC c
  refine bJ 10 [51,52,53,54,55,56,57,58,59,60] [(60,.bool af)] (fun wl=>Hd O w wl S [f1 fA v1 f.Kids,.blk h [i6 f.Kind,sb f.Name,sb f.Other,i6 f.Op,i6 f.N,i6 f.Frames,v1] 70,.blk j [.bool d.name,.bool d.other,.bool d.op,.bool d.n,.bool d.frames,i6 d.least,i6 d.most] 226]) ?_ ?_
  ·skip
   refine yS (b:=ad) rfl rfl rfl (fun y=>?_) (fun y=>?_)
   ·have c:=zO y c
    refine yG ?_
    refine yG ?_
    refine yG ?_
    refine yG ?_
    refine yG ?_
    refine yG ?_
    refine yG ?_
    refine yG ?_
    refine zG (yO (v:= .bool true) rfl rfl) ?_
    obtain rfl:=gI c
    exact yA (zF (meet ⟨(zJ rfl zK),H.pick [0,1,2]⟩))
   have c:=zQ y c
   refine zG (aRy rfl)<| Ld qY H 2 4 rfl rfl ?_
   obtain ⟨bo,bp,c⟩:=zD c
   refine zG (zL (wH (p:=d.frames) rfl) bp)<| yS (b:=bo) rfl rfl rfl (fun z=>?_) (fun z=>?_)
   ·have c:=zO z c
    refine zG (sQ rfl)<| Ld fM H 1 5 rfl rfl ?_
    obtain ⟨ag,bq,c⟩:=zD c
    refine zG (zL (dC (a:=f.Frames) (b:=0) rfl rfl) bq)<| zG (yO (v:= .bool ag) rfl rfl)<| zG (yM (v:= .bool ag) rfl rfl) ?_
    obtain rfl:=gI c
    exact yA (zF (meet ⟨(zJ rfl zK),H.pick [0,1,2]⟩))
   have c:=zQ z c
   refine yG ?_
   refine yG ?_
   refine yG ?_
   refine zG (yM (v:= .bool false) rfl rfl)<| zG (yM (v:= .bool false) rfl rfl) ?_
   obtain rfl:=gI c
   exact yA (zF (meet ⟨(zJ rfl zK),H.pick [0,1,2]⟩))
  rintro ρ dy H
  have c:=bn
  refine yS (b:=af) rfl rfl rfl (fun A=>?_) (fun A=>?_)
  ·have c:=zO A c
   refine yG ?_
   refine yG ?_
   refine yG ?_
   refine yG ?_
   refine yG ?_
   refine yG ?_
   refine yG ?_
   refine yG ?_
   refine yG ?_
   refine zG (yO (v:= .bool true) rfl rfl) ?_
   obtain rfl:=gI c
   exact (yA (zF (meet ⟨(),(zJ rfl zK),H.pick [0,1,2]⟩)))
  have c:=zQ A c
  refine zG (jJ rfl)<| Ld tJ H 1 6 rfl rfl ?_
  obtain ⟨br,bt,c⟩:=zD c
  obtain ⟨dz,d0,bu⟩:=SlF.len ((H.item (i:=0) rfl))
  refine zG (yJ (xO u68 bu) (congrArg (Value.int .i64) bt))<| zG (fa226_5 rfl)<| Ld fM H 2 5 rfl rfl<| zG (fa226_6 rfl)<| Ld fM H 2 6 rfl rfl ?_
  have bv:=H
  obtain ⟨bw,bx,c⟩:=zC c
  refine zZ rfl rfl (zS aQe rfl) (aPb br d.least d.most _ bx _ _ _ (H.enter [] [])) ?_
  rintro _ d1 ⟨rfl,bz⟩
  have H:=bv.step (bz.only:Only [] _ _)
  refine ⟨_,rfl,?_⟩
  obtain ⟨b0,b1,c⟩:=zD c
  refine zG (zL (wH (p:=bw) rfl) b1)<| zG (yM (v:= .bool b0) rfl rfl) ?_
  obtain rfl:=gI c
  exact (yA (zF (meet ⟨(),(zJ rfl zK),H.pick [0,1,2]⟩)))
 rintro _ ρ d2 H
 have c:=a5
 refine zY (b:=X) rfl (fun B=>?_) (fun B=>?_)
 ·have c:=zO B c
  refine zB fun d3 b2=>zA<| zI (i6 2)<| RN b2 ?_
  obtain rfl:=gI c
  refine (zW (zV (fC (v1:=i6 2) rfl rfl ?_)))
  exact ⟨rfl,H.pick []⟩
 have c:=zQ B c
 refine zX (zF (a4 _ _ ?_))
 refine zB fun d4 b3=>?_
 refine yD ?_
 obtain ⟨ah,c,b4⟩:=zC c
 refine yK [72,73,74,75,76,77,78,79,80,81,82,83,84,85,86,87,88,89,90] (fun (g:Unit)=>[(72,.bool ah)]) (fun g wl=>Hd O w wl S [f1 fA v1 f.Kids,.blk h [i6 f.Kind,sb f.Name,sb f.Other,i6 f.Op,i6 f.N,i6 f.Frames,v1] 70,.blk j [.bool d.name,.bool d.other,.bool d.op,.bool d.n,.bool d.frames,i6 d.least,i6 d.most] 226]) ?_ ?_
 ·skip
  refine zA ?_
  refine zG (aRi rfl)<| Ld qY H 2 0 rfl rfl ?_
  obtain ⟨ai,c,b5⟩:=zC c
  refine bJ 6 [75,76,77,78,79,80] [(80,.bool ai)] (fun wl=>Hd O w wl S [f1 fA v1 f.Kids,.blk h [i6 f.Kind,sb f.Name,sb f.Other,i6 f.Op,i6 f.N,i6 f.Frames,v1] 70,.blk j [.bool d.name,.bool d.other,.bool d.op,.bool d.n,.bool d.frames,i6 d.least,i6 d.most] 226]) ?_ ?_
  ·skip
   refine yS (b:=d.name) rfl rfl rfl (fun C=>?_) (fun C=>?_)
   ·have c:=zO C c
    refine zG (nK rfl)<| Ld bF H 1 1 rfl rfl ?_
    have b6:=H
    obtain ⟨b7,b8,c⟩:=zC c
    refine zZ rfl rfl (zS en86 rfl) (Fagw f.Name _ b8 _ _ _ (H.enter [] [])) ?_
    rintro _ d5 ⟨rfl,b9⟩
    have H:=b6.step (b9.only:Only [] _ _)
    refine ⟨_,rfl,?_⟩
    obtain ⟨ca,cb,c⟩:=zD c
    refine zG (zL (wH (p:=b7) rfl) cb)<| zG (yO (v:= .bool ca) rfl rfl) ?_
    obtain rfl:=gI c
    exact yA (zF (meet ⟨(zJ rfl zK),H.pick [0,1,2]⟩))
   have c:=zQ C c
   refine yG ?_
   refine yG ?_
   refine yG ?_
   refine yG ?_
   refine zG (yM (v:= .bool false) rfl rfl) ?_
   obtain rfl:=gI c
   exact yA (zF (meet ⟨(zJ rfl zK),H.pick [0,1,2]⟩))
  rintro ρ d6 H
  have c:=b5
  refine yS (b:=ai) rfl rfl rfl (fun D=>?_) (fun D=>?_)
  ·have c:=zO D c
   refine yG ?_
   refine yG ?_
   refine yG ?_
   refine yG ?_
   refine yG ?_
   refine yG ?_
   refine yG ?_
   refine yG ?_
   refine zG (yO (v:= .bool true) rfl rfl)<| zI (.bool true) ?_
   obtain rfl:=gI c
   exact (yA (zF (meet ⟨(),(zJ rfl zK),H.pick [0,1,2]⟩)))
  have c:=zQ D c
  refine zG (aQy rfl)<| Ld qY H 2 1 rfl rfl<| yS (b:=d.other) rfl rfl rfl (fun E=>?_) (fun E=>?_)
  ·have c:=zO E c
   refine zG (aIt rfl)<| Ld bF H 1 2 rfl rfl ?_
   have cc:=H
   obtain ⟨cd,ce,c⟩:=zC c
   refine zZ rfl rfl (zS en86 rfl) (Fagw f.Other _ ce _ _ _ (H.enter [] [])) ?_
   rintro _ d7 ⟨rfl,cf⟩
   have H:=cc.step (cf.only:Only [] _ _)
   refine ⟨_,rfl,?_⟩
   obtain ⟨F,cg,c⟩:=zD c
   refine zG (zL (wH (p:=cd) rfl) cg)<| zG (yO (v:= .bool F) rfl rfl)<| zG (yM (v:= .bool F) rfl rfl)<| zI (.bool F) ?_
   obtain rfl:=gI c
   exact (yA (zF (meet ⟨(),(zJ rfl zK),H.pick [0,1,2]⟩)))
  have c:=zQ E c
  refine yG ?_
  refine yG ?_
  refine yG ?_
  refine yG ?_
  refine zG (yM (v:= .bool false) rfl rfl)<| zG (yM (v:= .bool false) rfl rfl)<| zI (.bool false) ?_
  obtain rfl:=gI c
  exact (yA (zF (meet ⟨(),(zJ rfl zK),H.pick [0,1,2]⟩)))
 rintro _ ρ d8 H
 have c:=b4
 refine zY (b:=ah) rfl (fun G=>?_) (fun G=>?_)
 ·have c:=zO G c
  refine zB fun d9 ch=>zA<| zI (i6 8)<| RN ch ?_
  obtain rfl:=gI c
  refine (zW (yE (zV (fC (v1:=i6 8) rfl rfl ?_))))
  exact ⟨rfl,H.pick []⟩
 have c:=zQ G c
 obtain ⟨aj,c,ci⟩:=zC c
 refine yK [91,92,93,94,95,96,97,98,99] (fun (g:Unit)=>[(91,.bool aj)]) (fun g wl=>Hd O w wl S [f1 fA v1 f.Kids,.blk h [i6 f.Kind,sb f.Name,sb f.Other,i6 f.Op,i6 f.N,i6 f.Frames,v1] 70,.blk j [.bool d.name,.bool d.other,.bool d.op,.bool d.n,.bool d.frames,i6 d.least,i6 d.most] 226]) ?_ ?_
 ·skip
  refine zA ?_
  refine zG (aTb rfl)<| Ld qY H 2 2 rfl rfl<| yS (b:=d.op) rfl rfl rfl (fun I=>?_) (fun I=>?_)
  ·have c:=zO I c
   refine zG (rY rfl)<| Ld fM H 1 3 rfl rfl ?_
   have cj:=H
   obtain ⟨ck,cl,c⟩:=zC c
   refine zZ rfl rfl (zS aQe rfl) (aPb f.Op 1 6 _ cl _ _ _ (H.enter [] [])) ?_
   rintro _ ea ⟨rfl,cm⟩
   have H:=cj.step (cm.only:Only [] _ _)
   refine ⟨_,rfl,?_⟩
   obtain ⟨ak,cn,c⟩:=zD c
   refine zG (zL (wH (p:=ck) rfl) cn)<| zG (yO (v:= .bool ak) rfl rfl)<| zI (.bool ak) ?_
   obtain rfl:=gI c
   exact (yA (zF (meet ⟨(),(zJ rfl zK),H.pick [0,1,2]⟩)))
  have c:=zQ I c
  refine yG ?_
  refine yG ?_
  refine yG ?_
  refine yG ?_
  refine zG (yM (v:= .bool false) rfl rfl)<| zI (.bool false) ?_
  obtain rfl:=gI c
  exact (yA (zF (meet ⟨(),(zJ rfl zK),H.pick [0,1,2]⟩)))
 rintro _ ρ eb H
 have c:=ci
 refine zY (b:=aj) rfl (fun J=>?_) (fun J=>?_)
 ·have c:=zO J c
  refine zB fun ec co=>zA<| zI (i6 7)<| RN co ?_
  obtain rfl:=gI c
  refine (zW (yE (zV (fC (v1:=i6 7) rfl rfl ?_))))
  exact ⟨rfl,H.pick []⟩
 have c:=zQ J c
 obtain ⟨al,c,cp⟩:=zC c
 refine yK [100,101,102,103,104,105,106,107,108] (fun (g:Unit)=>[(100,.bool al)]) (fun g wl=>Hd O w wl S [f1 fA v1 f.Kids,.blk h [i6 f.Kind,sb f.Name,sb f.Other,i6 f.Op,i6 f.N,i6 f.Frames,v1] 70,.blk j [.bool d.name,.bool d.other,.bool d.op,.bool d.n,.bool d.frames,i6 d.least,i6 d.most] 226]) ?_ ?_
 ·skip
  refine zA ?_
  refine zG (aRy rfl)<| Ld qY H 2 4 rfl rfl<| yS (b:=d.frames) rfl rfl rfl (fun K=>?_) (fun K=>?_)
  ·have c:=zO K c
   refine zG (sQ rfl)<| Ld fM H 1 5 rfl rfl ?_
   have cq:=H
   obtain ⟨cr,ct,c⟩:=zC c
   refine zZ rfl rfl (zS aQe rfl) (aPb f.Frames 1 4096 _ ct _ _ _ (H.enter [] [])) ?_
   rintro _ ed ⟨rfl,cu⟩
   have H:=cq.step (cu.only:Only [] _ _)
   refine ⟨_,rfl,?_⟩
   obtain ⟨am,cv,c⟩:=zD c
   refine zG (zL (wH (p:=cr) rfl) cv)<| zG (yO (v:= .bool am) rfl rfl)<| zI (.bool am) ?_
   obtain rfl:=gI c
   exact (yA (zF (meet ⟨(),(zJ rfl zK),H.pick [0,1,2]⟩)))
  have c:=zQ K c
  refine yG ?_
  refine yG ?_
  refine yG ?_
  refine yG ?_
  refine zG (yM (v:= .bool false) rfl rfl)<| zI (.bool false) ?_
  obtain rfl:=gI c
  exact (yA (zF (meet ⟨(),(zJ rfl zK),H.pick [0,1,2]⟩)))
 rintro _ ρ ee H
 have c:=cp
 refine zY (b:=al) rfl (fun L=>?_) (fun L=>?_)
 ·have c:=zO L c
  refine zB fun ef cw=>zA<| zI (i6 9)<| RN cw ?_
  obtain rfl:=gI c
  refine (zW (yE (zV (fC (v1:=i6 9) rfl rfl ?_))))
  exact ⟨rfl,H.pick []⟩
 have c:=zQ L c
 obtain ⟨an,c,cx⟩:=zC c
 refine yK [109,110,111,112,113,114,115,116,117,118,119,120] (fun (g:Unit)=>[(109,.bool an)]) (fun g wl=>Hd O w wl S [f1 fA v1 f.Kids,.blk h [i6 f.Kind,sb f.Name,sb f.Other,i6 f.Op,i6 f.N,i6 f.Frames,v1] 70,.blk j [.bool d.name,.bool d.other,.bool d.op,.bool d.n,.bool d.frames,i6 d.least,i6 d.most] 226]) ?_ ?_
 ·skip
  refine zA ?_
  refine zG (jB rfl)<| Ld fM H 1 0 rfl rfl ?_
  obtain ⟨cy,cz,c⟩:=zD c
  refine zG (zL (yR (a:=f.Kind) (b:=13) rfl rfl) cz)<| yS (b:=cy) rfl rfl rfl (fun M=>?_) (fun M=>?_)
  ·have c:=zO M c
   refine zG (pM rfl)<| Ld fM H 1 4 rfl rfl<| zG (sQ rfl)<| Ld fM H 1 5 rfl rfl ?_
   have c0:=H
   obtain ⟨c1,c2,c⟩:=zC c
   refine zZ rfl rfl (zS aQe rfl) (aPb f.N 1 f.Frames _ c2 _ _ _ (H.enter [] [])) ?_
   rintro _ eg ⟨rfl,c3⟩
   have H:=c0.step (c3.only:Only [] _ _)
   refine ⟨_,rfl,?_⟩
   obtain ⟨ao,c4,c⟩:=zD c
   refine zG (zL (wH (p:=c1) rfl) c4)<| zG (yO (v:= .bool ao) rfl rfl)<| zI (.bool ao) ?_
   obtain rfl:=gI c
   exact (yA (zF (meet ⟨(),(zJ rfl zK),H.pick [0,1,2]⟩)))
  have c:=zQ M c
  refine yG ?_
  refine yG ?_
  refine yG ?_
  refine yG ?_
  refine yG ?_
  refine yG ?_
  refine zG (yM (v:= .bool false) rfl rfl)<| zI (.bool false) ?_
  obtain rfl:=gI c
  exact (yA (zF (meet ⟨(),(zJ rfl zK),H.pick [0,1,2]⟩)))
 rintro _ ρ eh H
 have c:=cx
 refine zY (b:=an) rfl (fun P=>?_) (fun P=>?_)
 ·have c:=zO P c
  refine zB fun ei c5=>zA<| zI (i6 9)<| RN c5 ?_
  obtain rfl:=gI c
  refine (zW (yE (zV (fC (v1:=i6 9) rfl rfl ?_))))
  exact ⟨rfl,H.pick []⟩
 have c:=zQ P c
 obtain ⟨ap,c,c6⟩:=zC c
 refine yK [121,122,123,124,125,126,127,128,129,130,131,132,133,134,135,136,137,138,139] (fun (g:Unit)=>[(121,.bool ap)]) (fun g wl=>Hd O w wl S []) ?_ ?_
 ·skip
  refine zA ?_
  refine zG (aQp rfl)<| Ld qY H 2 3 rfl rfl ?_
  obtain ⟨aq,c,c7⟩:=zC c
  refine bJ 6 [124,125,126,127,128,129] [(129,.bool aq)] (fun wl=>Hd O w wl S [f1 fA v1 f.Kids,.blk h [i6 f.Kind,sb f.Name,sb f.Other,i6 f.Op,i6 f.N,i6 f.Frames,v1] 70,.blk j [.bool d.name,.bool d.other,.bool d.op,.bool d.n,.bool d.frames,i6 d.least,i6 d.most] 226]) ?_ ?_
  ·skip
   refine yS (b:=d.n) rfl rfl rfl (fun Q=>?_) (fun Q=>?_)
   ·have c:=zO Q c
    refine zG (pM rfl)<| Ld fM H 1 4 rfl rfl ?_
    have c8:=H
    obtain ⟨c9,da,c⟩:=zC c
    refine zZ rfl rfl (zS aQe rfl) (aPb f.N (-1125899906842624) 1125899906842624 _ da _ _ _ (H.enter [] [])) ?_
    rintro _ ej ⟨rfl,db⟩
    have H:=c8.step (db.only:Only [] _ _)
    refine ⟨_,rfl,?_⟩
    obtain ⟨dc,dd,c⟩:=zD c
    refine zG (zL (wH (p:=c9) rfl) dd)<| zG (yO (v:= .bool dc) rfl rfl) ?_
    obtain rfl:=gI c
    exact yA (zF (meet ⟨(zJ rfl zK),H.pick [0,1,2]⟩))
   have c:=zQ Q c
   refine yG ?_
   refine yG ?_
   refine yG ?_
   refine yG ?_
   refine zG (yM (v:= .bool false) rfl rfl) ?_
   obtain rfl:=gI c
   exact yA (zF (meet ⟨(zJ rfl zK),H.pick [0,1,2]⟩))
  rintro ρ ek H
  have c:=c7
  refine yS (b:=aq) rfl rfl rfl (fun R=>?_) (fun R=>?_)
  ·have c:=zO R c
   refine yG ?_
   refine yG ?_
   refine yG ?_
   refine yG ?_
   refine yG ?_
   refine yG ?_
   refine yG ?_
   refine yG ?_
   refine zG (yO (v:= .bool true) rfl rfl)<| zI (.bool true) ?_
   obtain rfl:=gI c
   exact (yA (zF (meet ⟨(),(zJ rfl zK),H.pick []⟩)))
  have c:=zQ R c
  refine zG (jB rfl)<| Ld fM H 1 0 rfl rfl ?_
  obtain ⟨de,df,c⟩:=zD c
  refine zG (zL (yR (a:=f.Kind) (b:=5) rfl rfl) df)<| yS (b:=de) rfl rfl rfl (fun T=>?_) (fun T=>?_)
  ·have c:=zO T c
   refine zG (pM rfl)<| Ld fM H 1 4 rfl rfl ?_
   obtain ⟨U,dg,c⟩:=zD c
   refine zG (zL (xP (a:=f.N) (b:=0) rfl rfl) dg)<| zG (yO (v:= .bool U) rfl rfl)<| zG (yM (v:= .bool U) rfl rfl)<| zI (.bool U) ?_
   obtain rfl:=gI c
   exact (yA (zF (meet ⟨(),(zJ rfl zK),H.pick []⟩)))
  have c:=zQ T c
  refine yG ?_
  refine yG ?_
  refine yG ?_
  refine zG (yM (v:= .bool false) rfl rfl)<| zG (yM (v:= .bool false) rfl rfl)<| zI (.bool false) ?_
  obtain rfl:=gI c
  exact (yA (zF (meet ⟨(),(zJ rfl zK),H.pick []⟩)))
 rintro _ ρ el H
 have c:=c6
 refine zY (b:=ap) rfl (fun V=>?_) (fun V=>?_)
 ·have c:=zO V c
  refine zB fun em dh=>zA<| zI (i6 9)<| RN dh ?_
  obtain rfl:=gI c
  refine (zW (yE (zV (fC (v1:=i6 9) rfl rfl ?_))))
  exact ⟨rfl,H.pick []⟩
 have c:=zQ V c
 refine (zX (yH (zF (b3 _ _ ?_))))
 refine zB fun en di=>zA<| zI (i6 0)<| RN di ?_
 obtain rfl:=gI c
 refine (zW (fC (v1:=i6 0) rfl rfl ?_))
 exact ⟨rfl,H.pick []⟩
abbrev Fei (f:Cond→Option Int):Prop:= ∀(p0:Cond) (v1:Value) (r:Int) (_:f p0=some r) (O S:List Nat) (w:World) (_:Hd O w w S [f1 fA v1 p0.Kids]),
  Cl 81 [.agg [i6 p0.Kind,sb p0.Name,sb p0.Other,i6 p0.Op,i6 p0.N,i6 p0.Frames,v1].toArray,.func (.func 82) #[] #[]] w fun e w'=>e= .returned (i6 r)∧Hd O w w' S []
theorem Fctw (rfD:Cond→Option Int)(rhD:Fei rfD)(d:Cond)(v1:Value)(r:Int)(c:Fct rfD d=some r)(O S:List Nat)(w:World)(H:Hd O w w S [f1 fA v1 d.Kids]):
  Cl 81 [.agg [i6 d.Kind,sb d.Name,sb d.Other,i6 d.Op,i6 d.N,i6 d.Frames,v1].toArray,.func (.func 82) #[] #[]] w fun e t=>e= .returned (i6 r)∧Hd O w t S []:=by
 unfold Fct at c
 refine CW 29 Tryz.func81 ?_
 refine zB fun K3 u=>zA<| yQ rfl rfl (xR (cs:=[i6 d.Kind,sb d.Name,sb d.Other,i6 d.Op,i6 d.N,i6 d.Frames,v1]) rfl H) ?_
 rintro _ w6 ⟨b4,rfl,H⟩
 refine zI (i6 0)<| RN u<| zB fun aw v=>zB fun ax x=>zA<| zH (.func (.func 82) #[] #[])<| zG (yJ (yF (cs:=[i6 d.Kind,sb d.Name,sb d.Other,i6 d.Op,i6 d.N,i6 d.Frames,v1]) eG rfl fZ rfl (Hbc H 1 rfl)) rfl) ?_
 have y:=H
 obtain ⟨h,z,c⟩:=zC c
 refine zZ rfl rfl (bQ en82 rfl rfl) (Fanw d v1 _ z _ _ _ (H.enter [] [0])) ?_
 rintro _ ay ⟨rfl,A⟩
 have H:=y.step (A.only:Only [] _ _)
 refine ⟨_,rfl,?_⟩
 refine zI (i6 h)<| RN x<| zB fun az B=>zA<| zH (i6 h) ?_
 obtain ⟨C,D,c⟩:=zD c
 refine zG (zL (dC (a:=h) (b:=0) rfl rfl) D)<| RN B<| zY (b:=C) rfl (fun l=>?_) (fun l=>?_)
 ·have c:=zO l c
  refine zB fun a0 E=>zA<| zH (i6 h)<| zI (i6 h)<| RN E ?_
  obtain rfl:=gI c
  refine (zW (zV (fC (v1:=i6 h) rfl rfl ?_)))
  exact ⟨rfl,H.pick []⟩
 have c:=zQ l c
 refine zX (zF (v _ _ ?_))
 obtain ⟨F,G,c⟩:=wI c
 refine yK [4,7,8,15,16,17,18,19,20,21,22,23,24,25,26,27,28] (fun (g:Unit)=>[]) (fun g wl=>Hd O w wl S []∧F ()=some r) ?_ ?_
 ·skip
  refine zB fun a1 I=>zA<| zG (jJ rfl)<| Ld tJ H 1 6 rfl rfl ?_
  obtain ⟨J,K,c⟩:=zD c
  obtain ⟨a2,a3,L⟩:=SlF.len ((H.item (i:=0) rfl))
  refine zG (yJ (xO u68 L) (congrArg (Value.int .i64) K))<| zH (i6 0)<| RN I<| yD ?_
  unfold Ffi at c
  obtain ⟨M,q,P,c⟩:=yT c
  refine xB [4,7,8,18,19,20,21,22,23,24,25,26,27,28] (fun (g:Nat×Int)=>[(18,i6 g.2)]) (fun g wl=>Hd O w wl S [f1 fA v1 d.Kids]∧fV M g.1 g.2=some r) (fun g=>g.1) (q,0) (zJ rfl zK) ⟨H.pick [0],c⟩ ?_
  clear H c
  rintro ⟨q,m⟩ ρ a4 ⟨H,c⟩
  obtain ⟨Q,rfl,c⟩:=yZ c
  have c:=yY P c
  refine zB fun a5 R=>zA ?_
  obtain ⟨T,U,c⟩:=zD c
  refine zG (zL (xP (a:=m) (b:=J) rfl rfl) U)<| RN R<| zB fun a6 V=>zY (b:=T) rfl (fun n=>?_) (fun n=>?_)
  ·have c:=zO n c
   refine zX (zF (V _ _ ?_))
   refine zB fun a7 X=>?_
   refine yD ?_
   refine zB fun a8 Y=>zA ?_
   obtain ⟨f,o,c⟩:=zC c
   obtain ⟨Z,aa,a9,ba,ab,ac,ad,ae,af⟩:=dI (H.item (i:=0) rfl) o
   obtain ⟨k,rfl,ag⟩:=cO ac
   have H:=H.fzs [.at Z (aa+m.toNat * 7) _,.sl fA k f.Kids] ⟨⟨ad,ae,af⟩,ag,trivial⟩
   refine zG (xC u68 fZ ab rfl (yC o).1 (yC o).2.1 rfl rfl)<| zG (yJ (yF (cs:=[i6 f.Kind,sb f.Name,sb f.Other,i6 f.Op,i6 f.N,i6 f.Frames,k]) eG rfl fZ rfl (H.item (i:=1) rfl).2.2) rfl)<| yQ rfl rfl (xA aB H) ?_
   rintro _ bb ⟨bc,rfl,H⟩
   refine yP rfl (yL (vs:=[i6 f.Kind,sb f.Name,sb f.Other,i6 f.Op,i6 f.N,i6 f.Frames,k]) H 3 rfl fZ rfl rfl rfl ⟨rfl,rfl,rfl,rfl,rfl,rfl,(xY (H.item (i:=2) rfl)),trivial⟩ rfl) ?_
   rintro bd H
   refine RN Y<| zB fun be ah=>zA<| zG (yJ (yF (cs:=[i6 f.Kind,sb f.Name,sb f.Other,i6 f.Op,i6 f.N,i6 f.Frames,k]) eG rfl fZ rfl (Hbc H 3 rfl)) rfl)<| zH (.func (.func 82) #[] #[]) ?_
   have ai:=H
   obtain ⟨j,aj,c⟩:=zC c
   refine zZ rfl rfl (zS aNh rfl) (rhD f k _ aj _ _ _ (H.enter [] [2])) ?_
   rintro _ bf ⟨rfl,ak⟩
   have H:=ai.step (ak.only:Only [] _ _)
   refine ⟨_,rfl,?_⟩
   refine zI (i6 j)<| RN ah<| zB fun bg al=>zA<| zH (i6 j) ?_
   obtain ⟨am,an,c⟩:=zD c
   refine zG (zL (dC (a:=j) (b:=0) rfl rfl) an)<| RN al<| zY (b:=am) rfl (fun p=>?_) (fun p=>?_)
   ·have c:=zO p c
    refine zB fun bh ao=>zA<| zH (i6 j)<| zI (i6 j)<| RN ao ?_
    obtain rfl:=gI c
    refine (zW (yE (zV (zV (yE (zV (fC (v1:=i6 j) rfl rfl ?_)))))))
    exact ⟨rfl,H.pick []⟩
   have c:=zQ p c
   refine (zX (yH (zF (X _ _ ?_))))
   refine zA ?_
   obtain ⟨s,ap,c⟩:=zD c
   refine zG (xM (a:=m) (b:=1) rfl rfl ap)<| zH (i6 s) ?_
   exact (yA (zF (meet ⟨(Q,s),(zJ rfl zK),⟨H.pick [0],c⟩,Nat.lt_succ_self _⟩)))
  have c:=zQ n c
  exact (xI (yI (yI (yV (zF (meet ⟨(),zK,⟨H.pick [],c⟩⟩))))))
 rintro _ ρ bi ⟨H,c⟩
 have c:=dF G c
 refine zB fun bj aq=>zA<| zI (i6 0)<| RN aq ?_
 obtain rfl:=gI c
 refine (zW (fC (v1:=i6 0) rfl rfl ?_))
 exact ⟨rfl,H.pick []⟩
theorem Fgq:Fei (Ffx):=by
 have h: ∀n,Fei (Fbn n):=by
  intro n
  induction n with
  | zero=>intro b c r a; cases a
  | succ n ih=>intro b c r a; exact Fctw (Fbn n) ih b c r a
 exact h FU
theorem Fasw (a:Cond)(v1:Value)(r:Int)(c:Fas a=some r)(O S:List Nat)(w:World)(H:Hd O w w S [f1 fA v1 a.Kids]):
  Cl 29 [.agg [i6 a.Kind,sb a.Name,sb a.Other,i6 a.Op,i6 a.N,i6 a.Frames,v1].toArray] w fun e i=>e= .returned (i6 r)∧Hd O w i S []:=by
 unfold Fas at c
 refine CW 9 Tryz.func29 ?_
 refine zB fun E j=>zA<| yQ rfl rfl (xR (cs:=[i6 a.Kind,sb a.Name,sb a.Other,i6 a.Op,i6 a.N,i6 a.Frames,v1]) rfl H) ?_
 rintro _ F ⟨k,rfl,H⟩
 refine zI (i6 0)<| RN j<| zB fun G l=>zA<| yQ rfl rfl (xA zero3 H) ?_
 rintro _ I ⟨f,rfl,H⟩
 refine yP rfl (xE H 2 rfl sz3 rfl (v:=i6 0) rfl rfl rfl) ?_
 rintro J H
 refine RN l<| zB fun K m=>zB fun L n=>zA<| zG (yJ (yF (cs:=[i6 a.Kind,sb a.Name,sb a.Other,i6 a.Op,i6 a.N,i6 a.Frames,v1]) eG rfl fZ rfl (Hbc H 1 rfl)) rfl) ?_
 obtain ⟨⟨o,q⟩,s,c⟩:=zC c
 refine zZ rfl rfl (zS en80 rfl) (Fgl a 20 0 v1 f _ s _ _ _ (H.enter [2] [0])) ?_
 rintro _ t ⟨rfl,u⟩
 have H:Hd _ _ t _ [f1 fA v1 a.Kids,.blk k [i6 a.Kind,sb a.Name,sb a.Other,i6 a.Op,i6 a.N,i6 a.Frames,v1] 70,.blk f [i6 q] 3]:=H.back [2] [0] rfl u
 refine ⟨_,rfl,?_⟩
 obtain ⟨x,y,c⟩:=zD c
 refine zG (zL (wH (p:=o) rfl) y)<| RN n<| zY (b:=x) rfl (fun d=>?_) (fun d=>?_)
 ·have c:=zO d c
  refine zB fun M z=>zA<| zI (i6 3)<| RN z ?_
  obtain rfl:=gI c
  refine (zW (zV (fC (v1:=i6 3) rfl rfl ?_)))
  exact ⟨rfl,H.pick []⟩
 have c:=zQ d c
 refine zX (zF (m _ _ ?_))
 refine zB fun P A=>zA<| zG (yJ (yF (cs:=[i6 a.Kind,sb a.Name,sb a.Other,i6 a.Op,i6 a.N,i6 a.Frames,v1]) eG rfl fZ rfl (Hbc H 1 rfl)) rfl) ?_
 have B:=H
 obtain ⟨h,C,c⟩:=zC c
 refine zZ rfl rfl (zS aNh rfl) (Fgq a v1 _ C _ _ _ (H.enter [] [0])) ?_
 rintro _ Q ⟨rfl,D⟩
 have H:=B.step (D.only:Only [] _ _)
 refine ⟨_,rfl,?_⟩
 refine zI (i6 h)<| RN A ?_
 obtain rfl:=gI c
 refine (zW (fC (v1:=i6 h) rfl rfl ?_))
 exact ⟨rfl,H.pick []⟩
theorem Fczw (d:Cond)(v1:Value)(r:Int)(c:Fcz d=some r)(O S:List Nat)(w:World)(H:Hd O w w S [f1 fA v1 d.Kids]):
  Cl 146 [.agg [i6 d.Kind,sb d.Name,sb d.Other,i6 d.Op,i6 d.N,i6 d.Frames,v1].toArray] w fun e j=>e= .returned (i6 r)∧Hd O w j S []:=by
 unfold Fcz at c
 refine CW 11 Tryz.func146 ?_
 refine zB fun u k=>zA<| yQ rfl rfl (xR (cs:=[i6 d.Kind,sb d.Name,sb d.Other,i6 d.Op,i6 d.N,i6 d.Frames,v1]) rfl H) ?_
 rintro _ x ⟨y,rfl,H⟩
 refine zI (i6 0)<| RN k<| zB fun z l=>?_
 obtain ⟨i,c,m⟩:=zC c
 refine yK [3,4,5,6,7,8,9,10] (fun (g:Unit)=>[(10,.bool i)]) (fun g wl=>Hd O w wl S []) ?_ ?_
 ·skip
  refine zA ?_
  refine zG (jB rfl)<| Ld fM H 1 0 rfl rfl ?_
  obtain ⟨n,o,c⟩:=zD c
  refine zG (zL (yR (a:=d.Kind) (b:=6) rfl rfl) o)<| yS (b:=n) rfl rfl rfl (fun f=>?_) (fun f=>?_)
  ·have c:=zO f c
   refine yG ?_
   refine yG ?_
   refine yG ?_
   refine zG (yO (v:= .bool true) rfl rfl) ?_
   obtain rfl:=gI c
   exact (yA (zF (meet ⟨(),(zJ rfl zK),H.pick []⟩)))
  have c:=zQ f c
  refine zG (jB rfl)<| Ld fM H 1 0 rfl rfl ?_
  obtain ⟨p,q,c⟩:=zD c
  refine zG (zL (yR (a:=d.Kind) (b:=7) rfl rfl) q)<| zG (yM (v:= .bool p) rfl rfl) ?_
  obtain rfl:=gI c
  exact (yA (zF (meet ⟨(),(zJ rfl zK),H.pick []⟩)))
 rintro _ ρ A H
 have c:=m
 refine zY (b:=i) rfl (fun h=>?_) (fun h=>?_)
 ·have c:=zO h c
  refine zB fun B s=>zA<| zI (i6 2)<| RN s ?_
  obtain rfl:=gI c
  refine (zW (zV (fC (v1:=i6 2) rfl rfl ?_)))
  exact ⟨rfl,H.pick []⟩
 have c:=zQ h c
 refine zX (zF (l _ _ ?_))
 refine zB fun C t=>zA<| zI (i6 0)<| RN t ?_
 obtain rfl:=gI c
 refine (zW (fC (v1:=i6 0) rfl rfl ?_))
 exact ⟨rfl,H.pick []⟩
abbrev Fe3 (f:Cond→Option Int):Prop:= ∀(p0:Cond) (v1:Value) (r:Int) (_:f p0=some r) (O S:List Nat) (w:World) (_:Hd O w w S [f1 fA v1 p0.Kids]),
  Cl 81 [.agg [i6 p0.Kind,sb p0.Name,sb p0.Other,i6 p0.Op,i6 p0.N,i6 p0.Frames,v1].toArray,.func (.func 146) #[] #[]] w fun e w'=>e= .returned (i6 r)∧Hd O w w' S []
theorem Fcbw (rfE:Cond→Option Int)(rhE:Fe3 rfE)(d:Cond)(v1:Value)(r:Int)(c:Fcb rfE d=some r)(O S:List Nat)(w:World)(H:Hd O w w S [f1 fA v1 d.Kids]):
  Cl 81 [.agg [i6 d.Kind,sb d.Name,sb d.Other,i6 d.Op,i6 d.N,i6 d.Frames,v1].toArray,.func (.func 146) #[] #[]] w fun e t=>e= .returned (i6 r)∧Hd O w t S []:=by
 unfold Fcb at c
 refine CW 29 Tryz.func81 ?_
 refine zB fun K3 u=>zA<| yQ rfl rfl (xR (cs:=[i6 d.Kind,sb d.Name,sb d.Other,i6 d.Op,i6 d.N,i6 d.Frames,v1]) rfl H) ?_
 rintro _ w6 ⟨b4,rfl,H⟩
 refine zI (i6 0)<| RN u<| zB fun aw v=>zB fun ax x=>zA<| zH (.func (.func 146) #[] #[])<| zG (yJ (yF (cs:=[i6 d.Kind,sb d.Name,sb d.Other,i6 d.Op,i6 d.N,i6 d.Frames,v1]) eG rfl fZ rfl (Hbc H 1 rfl)) rfl) ?_
 have y:=H
 obtain ⟨h,z,c⟩:=zC c
 refine zZ rfl rfl (bQ en146 rfl rfl) (Fczw d v1 _ z _ _ _ (H.enter [] [0])) ?_
 rintro _ ay ⟨rfl,A⟩
 have H:=y.step (A.only:Only [] _ _)
 refine ⟨_,rfl,?_⟩
 refine zI (i6 h)<| RN x<| zB fun az B=>zA<| zH (i6 h) ?_
 obtain ⟨C,D,c⟩:=zD c
 refine zG (zL (dC (a:=h) (b:=0) rfl rfl) D)<| RN B<| zY (b:=C) rfl (fun l=>?_) (fun l=>?_)
 ·have c:=zO l c
  refine zB fun a0 E=>zA<| zH (i6 h)<| zI (i6 h)<| RN E ?_
  obtain rfl:=gI c
  refine (zW (zV (fC (v1:=i6 h) rfl rfl ?_)))
  exact ⟨rfl,H.pick []⟩
 have c:=zQ l c
 refine zX (zF (v _ _ ?_))
 obtain ⟨F,G,c⟩:=wI c
 refine yK [4,7,8,15,16,17,18,19,20,21,22,23,24,25,26,27,28] (fun (g:Unit)=>[]) (fun g wl=>Hd O w wl S []∧F ()=some r) ?_ ?_
 ·skip
  refine zB fun a1 I=>zA<| zG (jJ rfl)<| Ld tJ H 1 6 rfl rfl ?_
  obtain ⟨J,K,c⟩:=zD c
  obtain ⟨a2,a3,L⟩:=SlF.len ((H.item (i:=0) rfl))
  refine zG (yJ (xO u68 L) (congrArg (Value.int .i64) K))<| zH (i6 0)<| RN I<| yD ?_
  unfold Ffw at c
  obtain ⟨M,q,P,c⟩:=yT c
  refine xB [4,7,8,18,19,20,21,22,23,24,25,26,27,28] (fun (g:Nat×Int)=>[(18,i6 g.2)]) (fun g wl=>Hd O w wl S [f1 fA v1 d.Kids]∧fV M g.1 g.2=some r) (fun g=>g.1) (q,0) (zJ rfl zK) ⟨H.pick [0],c⟩ ?_
  clear H c
  rintro ⟨q,m⟩ ρ a4 ⟨H,c⟩
  obtain ⟨Q,rfl,c⟩:=yZ c
  have c:=yY P c
  refine zB fun a5 R=>zA ?_
  obtain ⟨T,U,c⟩:=zD c
  refine zG (zL (xP (a:=m) (b:=J) rfl rfl) U)<| RN R<| zB fun a6 V=>zY (b:=T) rfl (fun n=>?_) (fun n=>?_)
  ·have c:=zO n c
   refine zX (zF (V _ _ ?_))
   refine zB fun a7 X=>?_
   refine yD ?_
   refine zB fun a8 Y=>zA ?_
   obtain ⟨f,o,c⟩:=zC c
   obtain ⟨Z,aa,a9,ba,ab,ac,ad,ae,af⟩:=dI (H.item (i:=0) rfl) o
   obtain ⟨k,rfl,ag⟩:=cO ac
   have H:=H.fzs [.at Z (aa+m.toNat * 7) _,.sl fA k f.Kids] ⟨⟨ad,ae,af⟩,ag,trivial⟩
   refine zG (xC u68 fZ ab rfl (yC o).1 (yC o).2.1 rfl rfl)<| zG (yJ (yF (cs:=[i6 f.Kind,sb f.Name,sb f.Other,i6 f.Op,i6 f.N,i6 f.Frames,k]) eG rfl fZ rfl (H.item (i:=1) rfl).2.2) rfl)<| yQ rfl rfl (xA aB H) ?_
   rintro _ bb ⟨bc,rfl,H⟩
   refine yP rfl (yL (vs:=[i6 f.Kind,sb f.Name,sb f.Other,i6 f.Op,i6 f.N,i6 f.Frames,k]) H 3 rfl fZ rfl rfl rfl ⟨rfl,rfl,rfl,rfl,rfl,rfl,(xY (H.item (i:=2) rfl)),trivial⟩ rfl) ?_
   rintro bd H
   refine RN Y<| zB fun be ah=>zA<| zG (yJ (yF (cs:=[i6 f.Kind,sb f.Name,sb f.Other,i6 f.Op,i6 f.N,i6 f.Frames,k]) eG rfl fZ rfl (Hbc H 3 rfl)) rfl)<| zH (.func (.func 146) #[] #[]) ?_
   have ai:=H
   obtain ⟨j,aj,c⟩:=zC c
   refine zZ rfl rfl (zS aNh rfl) (rhE f k _ aj _ _ _ (H.enter [] [2])) ?_
   rintro _ bf ⟨rfl,ak⟩
   have H:=ai.step (ak.only:Only [] _ _)
   refine ⟨_,rfl,?_⟩
   refine zI (i6 j)<| RN ah<| zB fun bg al=>zA<| zH (i6 j) ?_
   obtain ⟨am,an,c⟩:=zD c
   refine zG (zL (dC (a:=j) (b:=0) rfl rfl) an)<| RN al<| zY (b:=am) rfl (fun p=>?_) (fun p=>?_)
   ·have c:=zO p c
    refine zB fun bh ao=>zA<| zH (i6 j)<| zI (i6 j)<| RN ao ?_
    obtain rfl:=gI c
    refine (zW (yE (zV (zV (yE (zV (fC (v1:=i6 j) rfl rfl ?_)))))))
    exact ⟨rfl,H.pick []⟩
   have c:=zQ p c
   refine (zX (yH (zF (X _ _ ?_))))
   refine zA ?_
   obtain ⟨s,ap,c⟩:=zD c
   refine zG (xM (a:=m) (b:=1) rfl rfl ap)<| zH (i6 s) ?_
   exact (yA (zF (meet ⟨(Q,s),(zJ rfl zK),⟨H.pick [0],c⟩,Nat.lt_succ_self _⟩)))
  have c:=zQ n c
  exact (xI (yI (yI (yV (zF (meet ⟨(),zK,⟨H.pick [],c⟩⟩))))))
 rintro _ ρ bi ⟨H,c⟩
 have c:=dF G c
 refine zB fun bj aq=>zA<| zI (i6 0)<| RN aq ?_
 obtain rfl:=gI c
 refine (zW (fC (v1:=i6 0) rfl rfl ?_))
 exact ⟨rfl,H.pick []⟩
theorem Fgp:Fe3 (Ffe):=by
 have h: ∀n,Fe3 (Fa9 n):=by
  intro n
  induction n with
  | zero=>intro b c r a; cases a
  | succ n ih=>intro b c r a; exact Fcbw (Fa9 n) ih b c r a
 exact h FU
theorem Fcww (h:Rules)(c:aF)(v1:Value)(k:Value)(l:Value)(f:Value)(r:Int)(d:Fcw h c=some r)(O S:List Nat)(w:World)(H:Hd O w w S [f1 Rp.str v1 h.Phases,f1 gX k h.Moves,f1 fB l h.Rules,f1 fA f c.When.Kids]):
  Cl 88 [.agg [v1,k,l].toArray,.agg [sb c.From,sb c.To,i6 c.When.Kind,sb c.When.Name,sb c.When.Other,i6 c.When.Op,i6 c.When.N,i6 c.When.Frames,f].toArray] w fun e z=>e= .returned (i6 r)∧Hd O w z S []:=by
 unfold Fcw at d
 refine CW 33 Tryz.func88 ?_
 refine zB fun K9 A=>zA<| yQ rfl rfl (xR (cs:=[v1,k,l]) rfl H) ?_
 rintro _ a1 ⟨B,rfl,H⟩
 refine yQ rfl rfl (xR (cs:=[sb c.From,sb c.To,i6 c.When.Kind,sb c.When.Name,sb c.When.Other,i6 c.When.Op,i6 c.When.N,i6 c.When.Frames,f]) rfl H) ?_
 rintro _ a2 ⟨t,rfl,H⟩
 refine zI (i6 0)<| RN A ?_
 obtain ⟨C,D,d⟩:=wI d
 refine yK [4,6,8,9,10,11,12,13,14,15,16,17,18,19,20,21,22,23] (fun (g:Unit)=>[]) (fun g wl=>Hd O w wl S [f1 fA f c.When.Kids,.blk t [sb c.From,sb c.To,i6 c.When.Kind,sb c.When.Name,sb c.When.Other,i6 c.When.Op,i6 c.When.N,i6 c.When.Frames,f] 122]∧C ()=some r) ?_ ?_
 ·skip
  refine zB fun a3 E=>zA<| zG (aSm rfl)<| Ld bF H 5 0 rfl rfl<| zG (aRa rfl)<| Ld bF H 5 1 rfl rfl ?_
  obtain ⟨a4,F,d⟩:=zD d
  subst F
  refine yQ rfl rfl (aX (r:=Rp.str) (xl:=[c.From,c.To]) (cs:=[sb c.From,sb c.To]) u22 el9 (by decide) (by decide) rfl (xH (vs:=[sb c.From,sb c.To]) (by decide) rfl rfl ⟨rfl,rfl,trivial⟩ rfl) H ⟨[sb c.From],[sb c.To],rfl,rfl,⟨[sb c.To],[],rfl,rfl,rfl⟩⟩) ?_
  rintro G a5 H
  obtain ⟨I,J,d⟩:=zD d
  obtain ⟨a6,a7,K⟩:=Sr.len (Sr.of_own (H.item (i:=6) rfl))
  refine zG (yJ (xO u22 K) (congrArg (Value.int .i64) J))<| zH (i6 0)<| RN E<| yD ?_
  unfold Feu at d
  obtain ⟨L,u,M,d⟩:=yT d
  refine xB [4,6,14,15,16,17,18,19,20,21,22,23] (fun (g:Nat×Int)=>[(14,i6 g.2)]) (fun g wl=>Hd O w wl S [f1 Rp.str v1 h.Phases,f1 gX k h.Moves,f1 fB l h.Rules,f1 fA f c.When.Kids,.blk B [v1,k,l] 26,.blk t [sb c.From,sb c.To,i6 c.When.Kind,sb c.When.Name,sb c.When.Other,i6 c.When.Op,i6 c.When.N,i6 c.When.Frames,f] 122,.own Rp.str G 9 ([c.From,c.To]:List Str)]∧fV L g.1 g.2=some r) (fun g=>g.1) (u,0) (zJ rfl zK) ⟨H.pick [0,1,2,3,4,5,6],d⟩ ?_
  clear H d
  rintro ⟨u,v⟩ ρ a8 ⟨H,d⟩
  obtain ⟨P,rfl,d⟩:=yZ d
  have d:=yY M d
  refine zB fun a9 Q=>zA ?_
  obtain ⟨R,T,d⟩:=zD d
  refine zG (zL (xP (a:=v) (b:=I) rfl rfl) T)<| RN Q<| zB fun ba U=>zY (b:=R) rfl (fun n=>?_) (fun n=>?_)
  ·have d:=zO n d
   refine zX (zF (U _ _ ?_))
   refine zB fun bb V=>?_
   refine yD ?_
   refine zB fun bc X=>zA ?_
   obtain ⟨m,o,d⟩:=zC d
   obtain ⟨bd,be,Y,Z,aa,ab⟩:=jD (H.item (i:=6) rfl) o
   obtain rfl:Y= [sb m]:=aa
   refine zG (xC u22 sz9 Z rfl (yC o).1 (yC o).2.1 rfl rfl)<| zG (xG bF rfl (Cells.get ab (i:=0) rfl))<| zI (sb m)<| RN X<| zB fun bf ac=>zA<| zG (jY rfl)<| Ld jS H 4 0 rfl rfl<| zH (sb m) ?_
   have ad:=H
   obtain ⟨ae,af,d⟩:=zC d
   refine zZ rfl rfl (zS en87 rfl) (Fapw h.Phases m v1 _ af _ _ _ (H.enter [] [0])) ?_
   rintro _ bg ⟨rfl,ag⟩
   have H:=ad.step (ag.only:Only [] _ _)
   refine ⟨_,rfl,?_⟩
   obtain ⟨ah,ai,d⟩:=zD d
   refine zG (zL (wH (p:=ae) rfl) ai)<| RN ac<| zY (b:=ah) rfl (fun q=>?_) (fun q=>?_)
   ·have d:=zO q d
    refine zB fun bh aj=>zA<| zI (i6 4)<| RN aj ?_
    obtain rfl:=gI d
    refine (zW (yE (zV (zV (yE (zV (fC (v1:=i6 4) rfl rfl ?_)))))))
    exact ⟨rfl,H.pick []⟩
   have d:=zQ q d
   refine (zX (yH (zF (V _ _ ?_))))
   refine zA ?_
   obtain ⟨x,ak,d⟩:=zD d
   refine zG (xM (a:=v) (b:=1) rfl rfl ak)<| zH (i6 x) ?_
   exact (yA (zF (meet ⟨(P,x),(zJ rfl zK),⟨H.pick [0,1,2,3,4,5,6],d⟩,Nat.lt_succ_self _⟩)))
  have d:=zQ n d
  exact (xI (yI (yI (yV (zF (meet ⟨(),zK,⟨H.pick [3,5],d⟩⟩))))))
 rintro _ ρ bi ⟨H,d⟩
 have d:=dF D d
 refine zB fun bj al=>?_
 refine zB fun bk am=>zA<| zG (aDb rfl)<| zG (yJ (yF (cs:=[i6 c.When.Kind,sb c.When.Name,sb c.When.Other,i6 c.When.Op,i6 c.When.N,i6 c.When.Frames,f]) eG rfl fZ rfl (Cells.drop (Hbc H 1 rfl) 2 7)) rfl) ?_
 have an:=H
 obtain ⟨j,ao,d⟩:=zC d
 refine zZ rfl rfl (zS en29 rfl) (Fasw c.When f _ ao _ _ _ (H.enter [] [0])) ?_
 rintro _ bl ⟨rfl,ap⟩
 have H:=an.step (ap.only:Only [] _ _)
 refine ⟨_,rfl,?_⟩
 refine zI (i6 j)<| RN am<| zB fun bm aq=>zA<| zH (i6 j) ?_
 obtain ⟨ar,au,d⟩:=zD d
 refine zG (zL (dC (a:=j) (b:=0) rfl rfl) au)<| RN aq<| zY (b:=ar) rfl (fun s=>?_) (fun s=>?_)
 ·have d:=zO s d
  refine zB fun bn av=>zA<| zH (i6 j)<| zI (i6 j)<| RN av ?_
  obtain rfl:=gI d
  refine (zW (zV (fC (v1:=i6 j) rfl rfl ?_)))
  exact ⟨rfl,H.pick []⟩
 have d:=zQ s d
 refine zX (zF (al _ _ ?_))
 refine zB fun bo aw=>zA<| zG (aDb rfl)<| zG (yJ (yF (cs:=[i6 c.When.Kind,sb c.When.Name,sb c.When.Other,i6 c.When.Op,i6 c.When.N,i6 c.When.Frames,f]) eG rfl fZ rfl (Cells.drop (Hbc H 1 rfl) 2 7)) rfl) ?_
 have ax:=H
 obtain ⟨y,ay,d⟩:=zC d
 refine zZ rfl rfl (zS aNh rfl) (Fgp c.When f _ ay _ _ _ (H.enter [] [0])) ?_
 rintro _ bp ⟨rfl,az⟩
 have H:=ax.step (az.only:Only [] _ _)
 refine ⟨_,rfl,?_⟩
 refine zI (i6 y)<| RN aw ?_
 obtain rfl:=gI d
 refine (zW (fC (v1:=i6 y) rfl rfl ?_))
 exact ⟨rfl,H.pick []⟩
theorem Fdlw (a:dH)(b:Str)(v1:Value)(d:Nat)(r:Bool)(c:Fdl a b=some r)(O S:List Nat)(w:World)(H:Hd O w w S [.blk d [sb b] 9,f1 fA v1 a.When.Kids]):
  Cl 149 [.agg [sb a.Name,i6 a.When.Kind,sb a.When.Name,sb a.When.Other,i6 a.When.Op,i6 a.When.N,i6 a.When.Frames,v1].toArray,gV d] w fun e h=>e= .returned (.bool r)∧Hd O w h S [.blk d [sb b] 9]:=by
 unfold Fdl at c
 refine CW 8 Tryz.func149 ?_
 refine zB fun l i=>zA<| yQ rfl rfl (xR (cs:=[sb a.Name,i6 a.When.Kind,sb a.When.Name,sb a.When.Other,i6 a.When.Op,i6 a.When.N,i6 a.When.Frames,v1]) rfl H) ?_
 rintro _ m ⟨n,rfl,H⟩
 refine zI (.bool false)<| RN i<| zB fun o j=>zA<| zG (aBn rfl)<| Ld bF H 2 0 rfl rfl<| Ld bF H 0 0 rfl rfl ?_
 obtain ⟨f,k,c⟩:=zD c
 refine zG (zL (wB (s1:=a.Name) (s2:=b) rfl rfl) k)<| zI (.bool f)<| RN j ?_
 obtain rfl:=gI c
 refine (zW (fC (v1:= .bool f) rfl rfl ?_))
 exact ⟨rfl,H.pick [0]⟩
theorem Fdxw (k:List dH)(p1c0:Str)(v1:Value)(h:Nat)(r:Int)(c:Fdx k p1c0=some r)(O S:List Nat)(w:World)(H:Hd O w w S [.blk h [sb p1c0] 9,f1 fB v1 k]):
  Cl 194 [v1,.func (.func 149) #[] #[gV h]] w fun e t=>e= .returned (i6 r)∧Hd O w t S [.blk h [sb p1c0] 9]:=by
 unfold Fdx at c
 refine CW 19 Tryz.func194 ?_
 refine zB fun K5 u=>zA<| zI (i6 0)<| RN u ?_
 obtain ⟨v,x,c⟩:=wI c
 refine yK [4,5,6,7,8,9,10,11,12,13,14,15,16,17,18] (fun (g:Unit)=>[]) (fun g wl=>Hd O w wl S [.blk h [sb p1c0] 9]∧v ()=some r) ?_ ?_
 ·skip
  refine zB fun af y=>zA<| zH v1 ?_
  obtain ⟨z,A,c⟩:=zD c
  obtain ⟨ag,ah,B⟩:=SlF.len ((H.item (i:=1) rfl))
  refine zG (yJ (xO u24 B) (congrArg (Value.int .i64) A))<| zH (i6 0)<| RN y<| yD ?_
  unfold Ffn at c
  obtain ⟨C,o,D,c⟩:=yT c
  refine xB [4,5,8,9,10,11,12,13,14,15,16,17,18] (fun (g:Nat×Int)=>[(8,i6 g.2)]) (fun g wl=>Hd O w wl S [.blk h [sb p1c0] 9,f1 fB v1 k]∧fV C g.1 g.2=some r) (fun g=>g.1) (o,0) (zJ rfl zK) ⟨H.pick [0,1],c⟩ ?_
  clear H c
  rintro ⟨o,f⟩ ρ ai ⟨H,c⟩
  obtain ⟨E,rfl,c⟩:=yZ c
  have c:=yY D c
  refine zB fun aj F=>zA ?_
  obtain ⟨G,I,c⟩:=zD c
  refine zG (zL (xP (a:=f) (b:=z) rfl rfl) I)<| RN F<| zB fun ak J=>zY (b:=G) rfl (fun l=>?_) (fun l=>?_)
  ·have c:=zO l c
   refine zX (zF (J _ _ ?_))
   refine zB fun al K=>?_
   refine yD ?_
   refine zB fun am L=>zA<| zH (i6 f)<| zI (i6 f)<| RN L<| zB fun an M=>zA<| zH (.func (.func 149) #[] #[gV h])<| zH v1<| zH (i6 f) ?_
   obtain ⟨d,m,c⟩:=zC c
   obtain ⟨p,q,ao,ap,P,Q,R,T,U⟩:=dI (H.item (i:=1) rfl) m
   obtain ⟨j,rfl,V⟩:=jE Q
   have H:=H.fzs [.at p (q+f.toNat * 8) _,.sl fA j d.When.Kids] ⟨⟨R,T,U⟩,V,trivial⟩
   refine zG (xC u24 rZ P rfl (yC m).1 (yC m).2.1 rfl rfl)<| zG (yJ (yF (cs:=[sb d.Name,i6 d.When.Kind,sb d.When.Name,sb d.When.Other,i6 d.When.Op,i6 d.When.N,i6 d.When.Frames,j]) aHe rfl rZ rfl (H.item (i:=2) rfl).2.2) rfl) ?_
   obtain ⟨X,Y,c⟩:=zC c
   refine zZ rfl rfl (bQ en149 rfl rfl) (Fdlw d p1c0 j h _ Y _ _ _ (H.enter [0] [3])) ?_
   rintro _ Z ⟨rfl,aa⟩
   have H:Hd _ _ Z _ [f1 fB v1 k,.fz (.at p (q+f.toNat * 8) [sb d.Name,i6 d.When.Kind,sb d.When.Name,sb d.When.Other,i6 d.When.Op,i6 d.When.N,i6 d.When.Frames,j]),f1 fA j d.When.Kids,.blk h [sb p1c0] 9]:=H.back [0] [3] rfl aa
   refine ⟨_,rfl,?_⟩
   refine RN M<| zY (b:=X) rfl (fun n=>?_) (fun n=>?_)
   ·have c:=zO n c
    refine zB fun aq ab=>zA<| zH (i6 f)<| zI (i6 f)<| RN ab ?_
    obtain rfl:=gI c
    refine (zW (yE (zV (zV (yE (zV (fC (v1:=i6 f) rfl rfl ?_)))))))
    exact ⟨rfl,H.pick [3]⟩
   have c:=zQ n c
   refine (zX (yH (zF (K _ _ ?_))))
   refine zA ?_
   obtain ⟨s,ac,c⟩:=zD c
   refine zG (xM (a:=f) (b:=1) rfl rfl ac)<| zH (i6 s) ?_
   exact (yA (zF (meet ⟨(E,s),(zJ rfl zK),⟨H.pick [3,0],c⟩,Nat.lt_succ_self _⟩)))
  have c:=zQ l c
  exact (xI (yI (yI (yV (zF (meet ⟨(),zK,⟨H.pick [0],c⟩⟩))))))
 rintro _ ρ ar ⟨H,c⟩
 have c:=dF x c
 refine zB fun au ad=>zA<| zI (i6 (-1))<| RN ad ?_
 obtain rfl:=gI c
 refine (zW (fC (v1:=i6 (-1)) rfl rfl ?_))
 exact ⟨rfl,H.pick [0]⟩
theorem Fdbw (f:List dH)(p1c0:Str)(v1:Value)(c:Nat)(r:Bool)(d:Fdb f p1c0=some r)(O S:List Nat)(w:World)(H:Hd O w w S [.blk c [sb p1c0] 9,f1 fB v1 f]):
  Cl 148 [v1,.func (.func 149) #[] #[gV c]] w fun e i=>e= .returned (.bool r)∧Hd O w i S [.blk c [sb p1c0] 9]:=by
 unfold Fdb at d
 refine CW 9 Tryz.func148 ?_
 refine zB fun q j=>zA<| zI (.bool false)<| RN j<| zB fun s k=>zA<| zH v1<| zH (.func (.func 149) #[] #[gV c]) ?_
 obtain ⟨l,m,d⟩:=zC d
 refine zZ rfl rfl (zS en194 rfl) (Fdxw f p1c0 v1 c _ m _ _ _ (H.enter [0] [1])) ?_
 rintro _ n ⟨rfl,o⟩
 have H:Hd _ _ n _ [f1 fB v1 f,.blk c [sb p1c0] 9]:=H.back [0] [1] rfl o
 refine ⟨_,rfl,?_⟩
 obtain ⟨h,p,d⟩:=zD d
 refine zG (zL (kZ (a:=l) (b:=0) rfl rfl) p)<| zI (.bool h)<| RN k ?_
 obtain rfl:=gI d
 refine (zW (fC (v1:= .bool h) rfl rfl ?_))
 exact ⟨rfl,H.pick [1]⟩
theorem Fbaw (h:Str)(a:Rules)(j:Int)(k:Nat)(c:Value)(d:Value)(f:Value)(l:Nat)(r:Bool)(b:Fba h a j=some r)(O S:List Nat)(w:World)(H:Hd O w w S [.blk k [c,d,f] 26,.blk l [i6 j] 3,f1 Rp.str c a.Phases,f1 gX d a.Moves,f1 fB f a.Rules]):
  Cl 147 [sb h,gV k,gV l] w fun e q=>e= .returned (.bool r)∧Hd O w q S [.blk k [c,d,f] 26,.blk l [i6 j] 3]:=by
 unfold Fba at b
 refine CW 11 Tryz.func147 ?_
 refine zB fun A s=>zA<| yQ rfl rfl (uZ rfl rfl H) ?_
 rintro _ B ⟨o,rfl,H⟩
 refine zI (.bool false)<| RN s<| zB fun C t=>zA<| zG (kY rfl)<| Ld rJ H 0 2 rfl rfl<| Ld fM H 1 0 rfl rfl ?_
 obtain ⟨m,u,b⟩:=zC b
 refine aEe rfl rfl (wU u24 rZ (H.item (i:=4) rfl) rfl rfl u) ?_
 rintro n v
 have H:=H.fz (.sl fB n m) v
 refine zG (dV rfl) ?_
 obtain ⟨p,x,b⟩:=zC b
 refine zZ rfl rfl (zS en148 rfl) (Fdbw m h n o _ x _ _ _ (H.enter [5] [6])) ?_
 rintro _ y ⟨rfl,z⟩
 have H:Hd _ _ y _ [.blk k [c,d,f] 26,.blk l [i6 j] 3,f1 Rp.str c a.Phases,f1 gX d a.Moves,f1 fB f a.Rules,f1 fB n m,.blk o [sb h] 9]:=H.back [5] [6] rfl z
 refine ⟨_,rfl,?_⟩
 refine zI (.bool p)<| RN t ?_
 obtain rfl:=gI b
 refine (zW (fC (v1:= .bool p) rfl rfl ?_))
 exact ⟨rfl,H.pick [0,1]⟩
end Go.Proofs.YtckmiljbaejijaaGreatDoor.L
