/- Walks: what each function computes, for every argument; no condition but those that stand in the statements. -/
import Derived.Test.YtckmiljbaejijaaGreatDoorUV0
namespace Go.Proofs.YtckmiljbaejijaaGreatDoor.L
open Go.RowKit Go.OB Go.Lf
set_option maxHeartbeats 4000000
set_option maxRecDepth 100000 in
theorem Fb5w (rfC:Cond→Int→Int→Option (Bool×Int))(rhC:Ffk rfC)(f:Cond)(k:Int)(n:Int)(v1:Value)(h:Nat)(r:Bool×Int)(c:Fb5 rfC f k n=some r)(O S:List Nat)(w:World)(H:Hd O w w S [.blk h [i6 n] 3,f1 fD v1 f.Kids]):
  Cl 80 [.agg [i6 f.Kind,sb f.Name,sb f.Other,i6 f.Op,i6 f.N,i6 f.Frames,v1].toArray,i6 k,gU h] w fun e E=>e= .returned (.bool r.1)∧Hd O w E S [.blk h [i6 r.2] 3]:=by
 unfold Fb5 at c
 refine zS 36 Tryz.func80 rfl rfl rfl ?_
 refine zC fun K5 F=>zA<| yP rfl rfl (xW (cs:=[i6 f.Kind,sb f.Name,sb f.Other,i6 f.Op,i6 f.N,i6 f.Frames,v1]) rfl H) ?_
 rintro _ w8 ⟨G,rfl,H⟩
 refine zK (.bool false)<| zF (zB (F _ _ ?_))
 refine zC fun K9 I=>zA<| zI (gU h)<| zH (zN rfl)<| Ld fU H 0 0 rfl rfl ?_
 obtain ⟨l,J,c⟩:=zG c
 refine zH (xQ (a:=n) (b:=1) rfl rfl J)<| zH (zN rfl)<| yV rfl (xE H 0 rfl sz3 rfl (v:=i6 l) rfl rfl rfl) ?_
 rintro a8 H
 refine zF (zB (I _ _ ?_))
 refine zC fun a9 K=>?_
 obtain ⟨x,c,L⟩:=zD c
 refine yL [14,15,16,17,18,19,20,21] (fun (g:Unit)=>[(21,.bool x)]) (fun g wl=>Hd O w wl S [.blk h [i6 l] 3,f1 fD v1 f.Kids,.blk G [i6 f.Kind,sb f.Name,sb f.Other,i6 f.Op,i6 f.N,i6 f.Frames,v1] 70]) ?_ ?_
 ·skip
  refine zA ?_
  refine zI (i6 k) ?_
  obtain ⟨M,P,c⟩:=zG c
  refine zH (zQ (yT (a:=k) (b:=0) rfl rfl) P)<| yS (b:=M) rfl rfl rfl (fun o=>?_) (fun o=>?_)
  ·have c:=zT o c
   refine yI ?_
   refine yI ?_
   refine yI ?_
   refine yI ?_
   refine zH (yO (v:= .bool true) rfl rfl) ?_
   obtain rfl:=gI c
   exact (zF (zB (meet ⟨(),(zL rfl zO),H.pick [0,1,2] (by decide)⟩)))
  have c:=zU o c
  refine zI (gU h)<| zH (zN rfl)<| Ld fU H 0 0 rfl rfl ?_
  obtain ⟨Q,R,c⟩:=zG c
  refine zH (zQ (kH (a:=l) (b:=200) rfl rfl) R)<| zH (yN (v:= .bool Q) rfl rfl) ?_
  obtain rfl:=gI c
  exact (zF (zB (meet ⟨(),(zL rfl zO),H.pick [0,1,2] (by decide)⟩)))
 rintro _ ρ ba H
 have c:=L
 refine yC (b:=x) rfl (fun q=>?_) (fun q=>?_)
 ·have c:=zT q c
  refine zC fun bb T=>zA<| zK (.bool false)<| zF (zB (T _ _ ?_))
  obtain rfl:=gI c
  refine (zY (zZ (fF (v1:= .bool false) rfl rfl ?_)))
  exact ⟨rfl,H.pick [0] (by decide)⟩
 have c:=zU q c
 refine yB (zB (K _ _ ?_))
 obtain ⟨U,V,c⟩:=wJ c
 refine yL [6,8,22,23,24,25,26,27,28,29,30,31,32,33,34,35] (fun (g:Int)=>[]) (fun g wl=>Hd O w wl S [.blk h [i6 g] 3]∧U g=some r) ?_ ?_
 ·skip
  refine zC fun bc X=>zA<| zH (fa70_6 rfl)<| Ld one68 H 2 6 rfl rfl ?_
  obtain ⟨Y,Z,c⟩:=zG c
  obtain ⟨bd,be,aa⟩:=SlF.len ((H.item (i:=1) rfl))
  refine zH (yJ (xN u68 aa) (congrArg (Value.int .i64) Z))<| zI (i6 0)<| zF (zB (X _ _ ?_))
  refine yF ?_
  unfold Fee at c
  obtain ⟨ab,y,ac,c⟩:=yR c
  refine xG [6,8,25,26,27,28,29,30,31,32,33,34,35] (fun (g:Nat×Int×Int)=>[(25,i6 g.2.1)]) (fun g wl=>Hd O w wl S [.blk h [i6 g.2.2] 3,f1 fD v1 f.Kids]∧eF ab g.1 (g.2.1,g.2.2)=some r) (fun g=>g.1) (y,0,l) (zL rfl zO) ⟨H.pick [0,1] (by decide),c⟩ ?_
  clear H c
  rintro ⟨y,m,z⟩ ρ bf ⟨H,c⟩
  obtain ⟨ad,rfl,c⟩:=yX c
  have c:=yY ac c
  refine zC fun bg ae=>zA ?_
  obtain ⟨af,ag,c⟩:=zG c
  refine zH (zQ (xR (a:=m) (b:=Y) rfl rfl) ag)<| zF (zB (ae _ _ ?_))
  refine zC fun bh ah=>?_
  refine yC (b:=af) rfl (fun s=>?_) (fun s=>?_)
  ·have c:=zT s c
   refine yB (zB (ah _ _ ?_))
   refine zC fun bi ai=>?_
   refine yF ?_
   refine zC fun bj aj=>zA ?_
   obtain ⟨d,t,c⟩:=zD c
   obtain ⟨A,B,bk,bl,ak,al,am,an,ao⟩:=dQ (H.item (i:=1) rfl) t
   obtain ⟨j,rfl,ap⟩:=bQ al
   have H:=H.fzs [.at A (B+m.toNat * 7) _,.sl fD j d.Kids] ⟨⟨am,an,ao⟩,ap,trivial⟩
   refine zH (xJ u68 dB ak rfl (yE t).1 (yE t).2.1 rfl rfl)<| zH (yJ (yM (cs:=[i6 d.Kind,sb d.Name,sb d.Other,i6 d.Op,i6 d.N,i6 d.Frames,j]) dI rfl dB rfl (H.item (i:=2) rfl).2.2) rfl)<| yP rfl rfl (xH kF H) ?_
   rintro _ bm ⟨aq,rfl,H⟩
   refine yV rfl (yQ (vs:=[i6 d.Kind,sb d.Name,sb d.Other,i6 d.Op,i6 d.N,i6 d.Frames,j]) H 4 rfl dB rfl rfl rfl ⟨rfl,rfl,rfl,rfl,rfl,rfl,(wH (H.item (i:=3) rfl)),trivial⟩ rfl) ?_
   rintro bn H
   refine zF (zB (aj _ _ ?_))
   refine zC fun bo ar=>zA<| zH (yJ (yM (cs:=[i6 d.Kind,sb d.Name,sb d.Other,i6 d.Op,i6 d.N,i6 d.Frames,j]) dI rfl dB rfl (Hbc H 4 rfl)) rfl)<| zI (i6 k) ?_
   obtain ⟨au,av,c⟩:=zG c
   refine zH (Do_sub (a:=k) (b:=1) rfl rfl av)<| zI (gU h) ?_
   obtain ⟨⟨aw,C⟩,ax,c⟩:=zD c
   refine yA rfl rfl (zV en80 rfl) (rhC d au z j h _ ax _ _ _ (H.enter [0] [3] (by decide) rfl)) ?_
   rintro _ ay ⟨rfl,az⟩
   have H:Hd _ _ ay _ [f1 fD v1 f.Kids,.fz (.at A (B+m.toNat * 7) [i6 d.Kind,sb d.Name,sb d.Other,i6 d.Op,i6 d.N,i6 d.Frames,j]),f1 fD j d.Kids,.blk aq [i6 d.Kind,sb d.Name,sb d.Other,i6 d.Op,i6 d.N,i6 d.Frames,j] 70,.blk h [i6 C] 3]:=H.back [0] [3] rfl az
   refine ⟨_,rfl,?_⟩
   obtain ⟨a0,a1,c⟩:=zG c
   refine zH (zQ (wL (p:=aw) rfl) a1)<| zF (zB (ar _ _ ?_))
   refine yC (b:=a0) rfl (fun u=>?_) (fun u=>?_)
   ·have c:=zT u c
    refine zC fun bp a2=>zA<| zK (.bool false)<| zF (zB (a2 _ _ ?_))
    obtain rfl:=gI c
    refine (zY (yG (zZ (zZ (yG (zZ (fF (v1:= .bool false) rfl rfl ?_)))))))
    exact ⟨rfl,H.pick [4] (by decide)⟩
   have c:=zU u c
   refine (yB (yK (zB (ai _ _ ?_))))
   refine zA ?_
   obtain ⟨D,a3,c⟩:=zG c
   refine zH (xQ (a:=m) (b:=1) rfl rfl a3)<| zI (i6 D) ?_
   exact (zF (zB (meet ⟨(ad,D,C),(zL rfl zO),⟨H.pick [4,0] (by decide),c⟩,Nat.lt_succ_self _⟩)))
  have c:=zU s c
  exact (xK (yH (yH (yU (zB (meet ⟨z,zO,⟨H.pick [0] (by decide),c⟩⟩))))))
 rintro bq ρ br ⟨H,c⟩
 have c:=dE V c
 refine zC fun bt a4=>zA<| zK (.bool true)<| zF (zB (a4 _ _ ?_))
 obtain rfl:=gI c
 refine (zY (fF (v1:= .bool true) rfl rfl ?_))
 exact ⟨rfl,H.pick [0] (by decide)⟩
theorem Fgu:Ffk (Fds):=by
 have h: ∀n,Ffk (Fap n):=by
  intro n
  induction n with
  | zero=>intro b c d e f r a; cases a
  | succ n ih=>intro b c d e f r a; exact Fb5w (Fap n) ih b c d e f r a
 exact h FU
set_option maxRecDepth 100000 in
theorem Faaw (d:Int)(r:dO×Bool)(c:Faa d=some r)(O S:List Nat)(w:World)(H:Hd O w w S []):
  Cl 142 [i6 d] w fun e Q=>e= .returned (.tuple #[.agg [.bool r.1.name,.bool r.1.other,.bool r.1.op,.bool r.1.n,.bool r.1.frames,i6 r.1.least,i6 r.1.most].toArray,.bool r.2])∧Hd O w Q S []:=by
 unfold Faa at c
 refine zS 41 Tryz.func142 rfl rfl rfl ?_
 refine zC fun K1 R=>zA<| yP rfl rfl (xH zero226 H) ?_
 rintro _ w4 ⟨f,rfl,H⟩
 refine zK (.bool false)<| zF (zB (R _ _ ?_))
 refine zC fun bk T=>?_
 refine zC fun bl U=>zA<| zI (i6 d)<| zF (zB (U _ _ ?_))
 refine yF ?_
 obtain ⟨z,c,V⟩:=zD c
 refine yL [5,6,7] (fun (g:Unit)=>[(5,.bool z)]) (fun g wl=>Hd O w wl S [.blk f [.bool false,.bool false,.bool false,.bool false,.bool false,i6 0,i6 0] 226]) ?_ ?_
 ·skip
  refine zC fun bm X=>zA ?_
  obtain ⟨A,Y,c⟩:=zG c
  refine zH (zQ (yT (a:=d) (b:=1) rfl rfl) Y)<| zK (.bool A)<| zF (zB (X _ _ ?_))
  refine yC (b:=A) rfl (fun h=>?_) (fun h=>?_)
  ·have c:=zT h c
   obtain rfl:=gI c
   exact (yB (zB (meet ⟨(),(zL rfl zO),H.pick [0] (by decide)⟩)))
  have c:=zU h c
  refine zA ?_
  obtain ⟨Z,aa,c⟩:=zG c
  refine zH (zQ (yT (a:=d) (b:=2) rfl rfl) aa)<| zK (.bool Z) ?_
  obtain rfl:=gI c
  exact (zF (zB (meet ⟨(),(zL rfl zO),H.pick [0] (by decide)⟩)))
 rintro _ ρ bn H
 have c:=V
 refine yC (b:=z) rfl (fun i=>?_) (fun i=>?_)
 ·have c:=zT i c
  refine zC fun bo ab=>zA<| zH (xM (cs:=[.bool false,.bool false,.bool false,.bool false,.bool false,i6 0,i6 0]) bz226)<| yV rfl (yQ (vs:=[.bool false,.bool false,.bool false,.bool false,.bool false,i6 0,i6 0]) H 0 rfl kC rfl rfl rfl ⟨rfl,rfl,rfl,rfl,rfl,rfl,rfl,trivial⟩ rfl) ?_
  rintro bp H
  refine zK (.bool true)<| zF (zB (ab _ _ ?_))
  obtain rfl:=gI c
  refine (zY (yG (zZ (postc1 (v1:= .bool true) rfl rfl (xB agg226 kC rfl (Hbc H 0 rfl)) rfl ?_))))
  exact ⟨rfl,H.pick [] (by decide)⟩
 have c:=zU i c
 refine zC fun bq ac=>zA ?_
 obtain ⟨B,ad,c⟩:=zG c
 refine zH (zQ (yT (a:=d) (b:=3) rfl rfl) ad)<| zK (.bool B)<| zF (zB (ac _ _ ?_))
 refine yC (b:=B) rfl (fun j=>?_) (fun j=>?_)
 ·have c:=zT j c
  refine zC fun br ae=>zA<| zH (xM (cs:=[.bool true,.bool false,.bool true,.bool true,.bool false,i6 0,i6 0]) (bt226_0_2_3 _ _ _))<| yV rfl (yQ (vs:=[.bool true,.bool false,.bool true,.bool true,.bool false,i6 0,i6 0]) H 0 rfl kC rfl rfl rfl ⟨rfl,rfl,rfl,rfl,rfl,rfl,rfl,trivial⟩ rfl) ?_
  rintro bt H
  refine zK (.bool true)<| zF (zB (ae _ _ ?_))
  obtain rfl:=gI c
  refine (zY (yG (zZ (postc1 (v1:= .bool true) rfl rfl (xB agg226 kC rfl (Hbc H 0 rfl)) rfl ?_))))
  exact ⟨rfl,H.pick [] (by decide)⟩
 have c:=zU j c
 refine zC fun bu af=>zA ?_
 obtain ⟨C,ag,c⟩:=zG c
 refine zH (zQ (yT (a:=d) (b:=4) rfl rfl) ag)<| zK (.bool C)<| zF (zB (af _ _ ?_))
 refine yC (b:=C) rfl (fun k=>?_) (fun k=>?_)
 ·have c:=zT k c
  refine zC fun bv ah=>zA<| zH (xM (cs:=[.bool true,.bool true,.bool true,.bool false,.bool false,i6 0,i6 0]) (bt226_0_1_2 _ _ _))<| yV rfl (yQ (vs:=[.bool true,.bool true,.bool true,.bool false,.bool false,i6 0,i6 0]) H 0 rfl kC rfl rfl rfl ⟨rfl,rfl,rfl,rfl,rfl,rfl,rfl,trivial⟩ rfl) ?_
  rintro bw H
  refine zK (.bool true)<| zF (zB (ah _ _ ?_))
  obtain rfl:=gI c
  refine (zY (yG (zZ (postc1 (v1:= .bool true) rfl rfl (xB agg226 kC rfl (Hbc H 0 rfl)) rfl ?_))))
  exact ⟨rfl,H.pick [] (by decide)⟩
 have c:=zU k c
 refine zC fun bx ai=>zA ?_
 obtain ⟨D,aj,c⟩:=zG c
 refine zH (zQ (yT (a:=d) (b:=5) rfl rfl) aj)<| zK (.bool D)<| zF (zB (ai _ _ ?_))
 refine yC (b:=D) rfl (fun l=>?_) (fun l=>?_)
 ·have c:=zT l c
  refine zC fun bz ak=>zA<| zH (xM (cs:=[.bool true,.bool false,.bool false,.bool true,.bool true,i6 0,i6 0]) (bt226_0_3_4 _ _ _))<| yV rfl (yQ (vs:=[.bool true,.bool false,.bool false,.bool true,.bool true,i6 0,i6 0]) H 0 rfl kC rfl rfl rfl ⟨rfl,rfl,rfl,rfl,rfl,rfl,rfl,trivial⟩ rfl) ?_
  rintro b0 H
  refine zK (.bool true)<| zF (zB (ak _ _ ?_))
  obtain rfl:=gI c
  refine (zY (yG (zZ (postc1 (v1:= .bool true) rfl rfl (xB agg226 kC rfl (Hbc H 0 rfl)) rfl ?_))))
  exact ⟨rfl,H.pick [] (by decide)⟩
 have c:=zU l c
 obtain ⟨E,c,al⟩:=zD c
 refine yL [18,19,20] (fun (g:Unit)=>[(18,.bool E)]) (fun g wl=>Hd O w wl S [.blk f [.bool false,.bool false,.bool false,.bool false,.bool false,i6 0,i6 0] 226]) ?_ ?_
 ·skip
  refine zC fun b1 am=>zA ?_
  obtain ⟨F,an,c⟩:=zG c
  refine zH (zQ (yT (a:=d) (b:=6) rfl rfl) an)<| zK (.bool F)<| zF (zB (am _ _ ?_))
  refine yC (b:=F) rfl (fun m=>?_) (fun m=>?_)
  ·have c:=zT m c
   obtain rfl:=gI c
   exact (yB (zB (meet ⟨(),(zL rfl zO),H.pick [0] (by decide)⟩)))
  have c:=zU m c
  refine zA ?_
  obtain ⟨ao,ap,c⟩:=zG c
  refine zH (zQ (yT (a:=d) (b:=7) rfl rfl) ap)<| zK (.bool ao) ?_
  obtain rfl:=gI c
  exact (zF (zB (meet ⟨(),(zL rfl zO),H.pick [0] (by decide)⟩)))
 rintro _ ρ b2 H
 have c:=al
 refine yC (b:=E) rfl (fun o=>?_) (fun o=>?_)
 ·have c:=zT o c
  refine zC fun b3 aq=>zA<| zH (xM (cs:=[.bool true,.bool false,.bool false,.bool false,.bool false,i6 0,i6 0]) (bt226_0 _))<| yV rfl (yQ (vs:=[.bool true,.bool false,.bool false,.bool false,.bool false,i6 0,i6 0]) H 0 rfl kC rfl rfl rfl ⟨rfl,rfl,rfl,rfl,rfl,rfl,rfl,trivial⟩ rfl) ?_
  rintro b4 H
  refine zK (.bool true)<| zF (zB (aq _ _ ?_))
  obtain rfl:=gI c
  refine (zY (yG (zZ (postc1 (v1:= .bool true) rfl rfl (xB agg226 kC rfl (Hbc H 0 rfl)) rfl ?_))))
  exact ⟨rfl,H.pick [] (by decide)⟩
 have c:=zU o c
 obtain ⟨G,c,ar⟩:=zD c
 refine yL [22,23,24] (fun (g:Unit)=>[(22,.bool G)]) (fun g wl=>Hd O w wl S [.blk f [.bool false,.bool false,.bool false,.bool false,.bool false,i6 0,i6 0] 226]) ?_ ?_
 ·skip
  refine zC fun b5 au=>zA ?_
  obtain ⟨I,av,c⟩:=zG c
  refine zH (zQ (yT (a:=d) (b:=8) rfl rfl) av)<| zK (.bool I)<| zF (zB (au _ _ ?_))
  refine yC (b:=I) rfl (fun p=>?_) (fun p=>?_)
  ·have c:=zT p c
   obtain rfl:=gI c
   exact (yB (zB (meet ⟨(),(zL rfl zO),H.pick [0] (by decide)⟩)))
  have c:=zU p c
  refine zA ?_
  obtain ⟨aw,ax,c⟩:=zG c
  refine zH (zQ (yT (a:=d) (b:=15) rfl rfl) ax)<| zK (.bool aw) ?_
  obtain rfl:=gI c
  exact (zF (zB (meet ⟨(),(zL rfl zO),H.pick [0] (by decide)⟩)))
 rintro _ ρ b6 H
 have c:=ar
 refine yC (b:=G) rfl (fun q=>?_) (fun q=>?_)
 ·have c:=zT q c
  refine zC fun b7 ay=>zA<| zH (xM (cs:=[.bool false,.bool false,.bool false,.bool false,.bool false,i6 1,i6 1]) (bt226_5_6 _ _))<| yV rfl (yQ (vs:=[.bool false,.bool false,.bool false,.bool false,.bool false,i6 1,i6 1]) H 0 rfl kC rfl rfl rfl ⟨rfl,rfl,rfl,rfl,rfl,rfl,rfl,trivial⟩ rfl) ?_
  rintro b8 H
  refine zK (.bool true)<| zF (zB (ay _ _ ?_))
  obtain rfl:=gI c
  refine (zY (yG (zZ (postc1 (v1:= .bool true) rfl rfl (xB agg226 kC rfl (Hbc H 0 rfl)) rfl ?_))))
  exact ⟨rfl,H.pick [] (by decide)⟩
 have c:=zU q c
 obtain ⟨J,c,az⟩:=zD c
 refine yL [26,27,28] (fun (g:Unit)=>[(26,.bool J)]) (fun g wl=>Hd O w wl S [.blk f [.bool false,.bool false,.bool false,.bool false,.bool false,i6 0,i6 0] 226]) ?_ ?_
 ·skip
  refine zC fun b9 a0=>zA ?_
  obtain ⟨K,a1,c⟩:=zG c
  refine zH (zQ (yT (a:=d) (b:=9) rfl rfl) a1)<| zK (.bool K)<| zF (zB (a0 _ _ ?_))
  refine yC (b:=K) rfl (fun s=>?_) (fun s=>?_)
  ·have c:=zT s c
   obtain rfl:=gI c
   exact (yB (zB (meet ⟨(),(zL rfl zO),H.pick [0] (by decide)⟩)))
  have c:=zU s c
  refine zA ?_
  obtain ⟨a2,a3,c⟩:=zG c
  refine zH (zQ (yT (a:=d) (b:=10) rfl rfl) a3)<| zK (.bool a2) ?_
  obtain rfl:=gI c
  exact (zF (zB (meet ⟨(),(zL rfl zO),H.pick [0] (by decide)⟩)))
 rintro _ ρ ca H
 have c:=az
 refine yC (b:=J) rfl (fun t=>?_) (fun t=>?_)
 ·have c:=zT t c
  refine zC fun cb a4=>zA<| zH (xM (cs:=[.bool false,.bool false,.bool false,.bool false,.bool false,i6 2,i6 200]) (bt226_5_6 _ _))<| yV rfl (yQ (vs:=[.bool false,.bool false,.bool false,.bool false,.bool false,i6 2,i6 200]) H 0 rfl kC rfl rfl rfl ⟨rfl,rfl,rfl,rfl,rfl,rfl,rfl,trivial⟩ rfl) ?_
  rintro cc H
  refine zK (.bool true)<| zF (zB (a4 _ _ ?_))
  obtain rfl:=gI c
  refine (zY (yG (zZ (postc1 (v1:= .bool true) rfl rfl (xB agg226 kC rfl (Hbc H 0 rfl)) rfl ?_))))
  exact ⟨rfl,H.pick [] (by decide)⟩
 have c:=zU t c
 obtain ⟨L,c,a5⟩:=zD c
 refine yL [30,31,32] (fun (g:Unit)=>[(30,.bool L)]) (fun g wl=>Hd O w wl S [.blk f [.bool false,.bool false,.bool false,.bool false,.bool false,i6 0,i6 0] 226]) ?_ ?_
 ·skip
  refine zC fun cd a6=>zA ?_
  obtain ⟨M,a7,c⟩:=zG c
  refine zH (zQ (yT (a:=d) (b:=11) rfl rfl) a7)<| zK (.bool M)<| zF (zB (a6 _ _ ?_))
  refine yC (b:=M) rfl (fun u=>?_) (fun u=>?_)
  ·have c:=zT u c
   obtain rfl:=gI c
   exact (yB (zB (meet ⟨(),(zL rfl zO),H.pick [0] (by decide)⟩)))
  have c:=zU u c
  refine zA ?_
  obtain ⟨a8,a9,c⟩:=zG c
  refine zH (zQ (yT (a:=d) (b:=12) rfl rfl) a9)<| zK (.bool a8) ?_
  obtain rfl:=gI c
  exact (zF (zB (meet ⟨(),(zL rfl zO),H.pick [0] (by decide)⟩)))
 rintro _ ρ ce H
 have c:=a5
 refine yC (b:=L) rfl (fun v=>?_) (fun v=>?_)
 ·have c:=zT v c
  refine zC fun cf ba=>zA<| zH (xM (cs:=[.bool false,.bool false,.bool false,.bool false,.bool true,i6 1,i6 1]) (bt226_4_5_6 _ _ _))<| yV rfl (yQ (vs:=[.bool false,.bool false,.bool false,.bool false,.bool true,i6 1,i6 1]) H 0 rfl kC rfl rfl rfl ⟨rfl,rfl,rfl,rfl,rfl,rfl,rfl,trivial⟩ rfl) ?_
  rintro cg H
  refine zK (.bool true)<| zF (zB (ba _ _ ?_))
  obtain rfl:=gI c
  refine (zY (yG (zZ (postc1 (v1:= .bool true) rfl rfl (xB agg226 kC rfl (Hbc H 0 rfl)) rfl ?_))))
  exact ⟨rfl,H.pick [] (by decide)⟩
 have c:=zU v c
 refine zC fun ch bb=>zA ?_
 obtain ⟨N,bc,c⟩:=zG c
 refine zH (zQ (yT (a:=d) (b:=13) rfl rfl) bc)<| zK (.bool N)<| zF (zB (bb _ _ ?_))
 refine yC (b:=N) rfl (fun x=>?_) (fun x=>?_)
 ·have c:=zT x c
  refine zC fun ci bd=>zA<| zH (xM (cs:=[.bool false,.bool false,.bool false,.bool true,.bool true,i6 1,i6 1]) (bt226_3_4_5_6 _ _ _ _))<| yV rfl (yQ (vs:=[.bool false,.bool false,.bool false,.bool true,.bool true,i6 1,i6 1]) H 0 rfl kC rfl rfl rfl ⟨rfl,rfl,rfl,rfl,rfl,rfl,rfl,trivial⟩ rfl) ?_
  rintro cj H
  refine zK (.bool true)<| zF (zB (bd _ _ ?_))
  obtain rfl:=gI c
  refine (zY (yG (zZ (postc1 (v1:= .bool true) rfl rfl (xB agg226 kC rfl (Hbc H 0 rfl)) rfl ?_))))
  exact ⟨rfl,H.pick [] (by decide)⟩
 have c:=zU x c
 refine zC fun ck be=>zA ?_
 obtain ⟨P,bf,c⟩:=zG c
 refine zH (zQ (yT (a:=d) (b:=14) rfl rfl) bf)<| zK (.bool P)<| zF (zB (be _ _ ?_))
 refine yC (b:=P) rfl (fun y=>?_) (fun y=>?_)
 ·have c:=zT y c
  refine zC fun cl bg=>zA<| zH (xM (cs:=[.bool false,.bool false,.bool false,.bool false,.bool false,i6 2,i6 2]) (bt226_5_6 _ _))<| yV rfl (yQ (vs:=[.bool false,.bool false,.bool false,.bool false,.bool false,i6 2,i6 2]) H 0 rfl kC rfl rfl rfl ⟨rfl,rfl,rfl,rfl,rfl,rfl,rfl,trivial⟩ rfl) ?_
  rintro cm H
  refine zK (.bool true)<| zF (zB (bg _ _ ?_))
  obtain rfl:=gI c
  refine (zY (yG (zZ (postc1 (v1:= .bool true) rfl rfl (xB agg226 kC rfl (Hbc H 0 rfl)) rfl ?_))))
  exact ⟨rfl,H.pick [] (by decide)⟩
 have c:=zU y c
 refine (yB (yK (zB (T _ _ ?_))))
 refine zC fun cn bh=>zA<| zH (xM (cs:=[.bool false,.bool false,.bool false,.bool false,.bool false,i6 0,i6 0]) bz226)<| yV rfl (yQ (vs:=[.bool false,.bool false,.bool false,.bool false,.bool false,i6 0,i6 0]) H 0 rfl kC rfl rfl rfl ⟨rfl,rfl,rfl,rfl,rfl,rfl,rfl,trivial⟩ rfl) ?_
 rintro co H
 refine zK (.bool false)<| zF (zB (bh _ _ ?_))
 obtain rfl:=gI c
 refine (zY (postc1 (v1:= .bool false) rfl rfl (xB agg226 kC rfl (Hbc H 0 rfl)) rfl ?_))
 exact ⟨rfl,H.pick [] (by decide)⟩
set_option maxRecDepth 100000 in
theorem Famw (f:Cond)(v1:Value)(r:Int)(c:Fam f=some r)(O S:List Nat)(w:World)(H:Hd O w w S [f1 fD v1 f.Kids]):
  Cl 82 [.agg [i6 f.Kind,sb f.Name,sb f.Other,i6 f.Op,i6 f.N,i6 f.Frames,v1].toArray] w fun e w'=>e= .returned (i6 r)∧Hd O w w' S []:=by
 unfold Fam at c
 refine zS 140 Tryz.func82 rfl rfl rfl ?_
 refine zC fun K3 au=>zA<| yP rfl rfl (xW (cs:=[i6 f.Kind,sb f.Name,sb f.Other,i6 f.Op,i6 f.N,i6 f.Frames,v1]) rfl H) ?_
 rintro _ w6 ⟨h,rfl,H⟩
 refine zK (i6 0)<| zF (zB (au _ _ ?_))
 refine zC fun K7 av=>zA<| zH (fa70_0 rfl)<| Ld fU H 1 0 rfl rfl ?_
 have H8:=H
 obtain ⟨⟨d,k⟩,ax,c⟩:=zD c
 refine yA rfl rfl (zV en142 rfl) (Faaw f.Kind _ ax _ _ _ (H.enter [] [] (by decide) rfl)) ?_
 rintro _ dm ⟨rfl,ay⟩
 have H:=H8.step (ay.only:Only [] _ _)
 refine ⟨_,rfl,?_⟩
 refine zI (.tuple #[.agg [.bool d.name,.bool d.other,.bool d.op,.bool d.n,.bool d.frames,i6 d.least,i6 d.most].toArray,.bool k])<| zH (xY (v:= .agg [.bool d.name,.bool d.other,.bool d.op,.bool d.n,.bool d.frames,i6 d.least,i6 d.most].toArray) rfl rfl)<| zH (xY (v:= .bool k) rfl rfl)<| yP rfl rfl (xH zero226 H) ?_
 rintro _ dn ⟨j,rfl,H⟩
 refine yV rfl (yQ (vs:=[.bool d.name,.bool d.other,.bool d.op,.bool d.n,.bool d.frames,i6 d.least,i6 d.most]) H 2 rfl kC rfl rfl rfl ⟨rfl,rfl,rfl,rfl,rfl,rfl,rfl,trivial⟩ rfl) ?_
 rintro dp H
 refine zK (.bool k)<| zF (zB (av _ _ ?_))
 refine zC fun dq az=>?_
 refine zC fun dr a0=>zA<| zI (.bool k) ?_
 obtain ⟨a1,a2,c⟩:=zG c
 refine zH (zQ (wL (p:=k) rfl) a2)<| zF (zB (a0 _ _ ?_))
 refine yC (b:=a1) rfl (fun l=>?_) (fun l=>?_)
 ·have c:=zT l c
  refine zC fun ds a3=>zA<| zK (i6 7)<| zF (zB (a3 _ _ ?_))
  obtain rfl:=gI c
  refine (zY (zZ (fF (v1:=i6 7) rfl rfl ?_)))
  exact ⟨rfl,H.pick [] (by decide)⟩
 have c:=zU l c
 refine yB (zB (az _ _ ?_))
 refine zC fun dt a4=>?_
 obtain ⟨X,c,a5⟩:=zD c
 refine yL [13,14,15,16,17,18,19,20,21,22,23,24,25,26,27,28,29,30,31,32,33,34,35,36,37,38,39,40,41,42,43,44,45,46,47,48,49,50,51,52,53,54,55,56,57,58,59,60,61,62,63,64,65,66,67,68,69,70,71] (fun (g:Unit)=>[(71,.bool X)]) (fun g wl=>Hd O w wl S [f1 fD v1 f.Kids,.blk h [i6 f.Kind,sb f.Name,sb f.Other,i6 f.Op,i6 f.N,i6 f.Frames,v1] 70,.blk j [.bool d.name,.bool d.other,.bool d.op,.bool d.n,.bool d.frames,i6 d.least,i6 d.most] 226]) ?_ ?_
 ·skip
  refine zA ?_
  refine zH (fa226_0 rfl)<| Ld one4 H 2 0 rfl rfl ?_
  obtain ⟨a6,a7,c⟩:=zG c
  refine zH (zQ (wL (p:=d.name) rfl) a7) ?_
  obtain ⟨Y,c,a8⟩:=zD c
  refine bW 5 [16,17,18,19,20] [(20,.bool Y)] (fun wl=>Hd O w wl S [f1 fD v1 f.Kids,.blk h [i6 f.Kind,sb f.Name,sb f.Other,i6 f.Op,i6 f.N,i6 f.Frames,v1] 70,.blk j [.bool d.name,.bool d.other,.bool d.op,.bool d.n,.bool d.frames,i6 d.least,i6 d.most] 226]) ?_ ?_
  ·skip
   refine yS (b:=a6) rfl rfl rfl (fun m=>?_) (fun m=>?_)
   ·have c:=zT m c
    refine zH (fa70_1 rfl)<| Ld bC H 1 1 rfl rfl ?_
    obtain ⟨a9,ba,c⟩:=zG c
    refine zH (zQ (Do_neqs (s1:=f.Name) (s2:=[]) rfl rfl) ba)<| zH (yO (v:= .bool a9) rfl rfl) ?_
    obtain rfl:=gI c
    exact zF (zB (meet ⟨(zL rfl zO),H.pick [0,1,2] (by decide)⟩))
   have c:=zU m c
   refine yI ?_
   refine yI ?_
   refine yI ?_
   refine zH (yN (v:= .bool false) rfl rfl) ?_
   obtain rfl:=gI c
   exact zF (zB (meet ⟨(zL rfl zO),H.pick [0,1,2] (by decide)⟩))
  rintro ρ du H
  have c:=a8
  obtain ⟨Z,c,bb⟩:=zD c
  refine bW 10 [21,22,23,24,25,26,27,28,29,30] [(30,.bool Z)] (fun wl=>Hd O w wl S [f1 fD v1 f.Kids,.blk h [i6 f.Kind,sb f.Name,sb f.Other,i6 f.Op,i6 f.N,i6 f.Frames,v1] 70,.blk j [.bool d.name,.bool d.other,.bool d.op,.bool d.n,.bool d.frames,i6 d.least,i6 d.most] 226]) ?_ ?_
  ·skip
   refine yS (b:=Y) rfl rfl rfl (fun o=>?_) (fun o=>?_)
   ·have c:=zT o c
    refine yI ?_
    refine yI ?_
    refine yI ?_
    refine yI ?_
    refine yI ?_
    refine yI ?_
    refine yI ?_
    refine yI ?_
    refine zH (yO (v:= .bool true) rfl rfl) ?_
    obtain rfl:=gI c
    exact zF (zB (meet ⟨(zL rfl zO),H.pick [0,1,2] (by decide)⟩))
   have c:=zU o c
   refine zH (fa226_1 rfl)<| Ld one4 H 2 1 rfl rfl ?_
   obtain ⟨bc,bd,c⟩:=zG c
   refine zH (zQ (wL (p:=d.other) rfl) bd)<| yS (b:=bc) rfl rfl rfl (fun q=>?_) (fun q=>?_)
   ·have c:=zT q c
    refine zH (fa70_2 rfl)<| Ld bC H 1 2 rfl rfl ?_
    obtain ⟨aa,be,c⟩:=zG c
    refine zH (zQ (Do_neqs (s1:=f.Other) (s2:=[]) rfl rfl) be)<| zH (yO (v:= .bool aa) rfl rfl)<| zH (yN (v:= .bool aa) rfl rfl) ?_
    obtain rfl:=gI c
    exact zF (zB (meet ⟨(zL rfl zO),H.pick [0,1,2] (by decide)⟩))
   have c:=zU q c
   refine yI ?_
   refine yI ?_
   refine yI ?_
   refine zH (yN (v:= .bool false) rfl rfl)<| zH (yN (v:= .bool false) rfl rfl) ?_
   obtain rfl:=gI c
   exact zF (zB (meet ⟨(zL rfl zO),H.pick [0,1,2] (by decide)⟩))
  rintro ρ dv H
  have c:=bb
  obtain ⟨ab,c,bf⟩:=zD c
  refine bW 10 [31,32,33,34,35,36,37,38,39,40] [(40,.bool ab)] (fun wl=>Hd O w wl S [f1 fD v1 f.Kids,.blk h [i6 f.Kind,sb f.Name,sb f.Other,i6 f.Op,i6 f.N,i6 f.Frames,v1] 70,.blk j [.bool d.name,.bool d.other,.bool d.op,.bool d.n,.bool d.frames,i6 d.least,i6 d.most] 226]) ?_ ?_
  ·skip
   refine yS (b:=Z) rfl rfl rfl (fun s=>?_) (fun s=>?_)
   ·have c:=zT s c
    refine yI ?_
    refine yI ?_
    refine yI ?_
    refine yI ?_
    refine yI ?_
    refine yI ?_
    refine yI ?_
    refine yI ?_
    refine zH (yO (v:= .bool true) rfl rfl) ?_
    obtain rfl:=gI c
    exact zF (zB (meet ⟨(zL rfl zO),H.pick [0,1,2] (by decide)⟩))
   have c:=zU s c
   refine zH (fa226_2 rfl)<| Ld one4 H 2 2 rfl rfl ?_
   obtain ⟨bg,bh,c⟩:=zG c
   refine zH (zQ (wL (p:=d.op) rfl) bh)<| yS (b:=bg) rfl rfl rfl (fun t=>?_) (fun t=>?_)
   ·have c:=zT t c
    refine zH (fa70_3 rfl)<| Ld fU H 1 3 rfl rfl ?_
    obtain ⟨ac,bi,c⟩:=zG c
    refine zH (zQ (dH (a:=f.Op) (b:=0) rfl rfl) bi)<| zH (yO (v:= .bool ac) rfl rfl)<| zH (yN (v:= .bool ac) rfl rfl) ?_
    obtain rfl:=gI c
    exact zF (zB (meet ⟨(zL rfl zO),H.pick [0,1,2] (by decide)⟩))
   have c:=zU t c
   refine yI ?_
   refine yI ?_
   refine yI ?_
   refine zH (yN (v:= .bool false) rfl rfl)<| zH (yN (v:= .bool false) rfl rfl) ?_
   obtain rfl:=gI c
   exact zF (zB (meet ⟨(zL rfl zO),H.pick [0,1,2] (by decide)⟩))
  rintro ρ dw H
  have c:=bf
  obtain ⟨ad,c,bj⟩:=zD c
  refine bW 10 [41,42,43,44,45,46,47,48,49,50] [(50,.bool ad)] (fun wl=>Hd O w wl S [f1 fD v1 f.Kids,.blk h [i6 f.Kind,sb f.Name,sb f.Other,i6 f.Op,i6 f.N,i6 f.Frames,v1] 70,.blk j [.bool d.name,.bool d.other,.bool d.op,.bool d.n,.bool d.frames,i6 d.least,i6 d.most] 226]) ?_ ?_
  ·skip
   refine yS (b:=ab) rfl rfl rfl (fun u=>?_) (fun u=>?_)
   ·have c:=zT u c
    refine yI ?_
    refine yI ?_
    refine yI ?_
    refine yI ?_
    refine yI ?_
    refine yI ?_
    refine yI ?_
    refine yI ?_
    refine zH (yO (v:= .bool true) rfl rfl) ?_
    obtain rfl:=gI c
    exact zF (zB (meet ⟨(zL rfl zO),H.pick [0,1,2] (by decide)⟩))
   have c:=zU u c
   refine zH (fa226_3 rfl)<| Ld one4 H 2 3 rfl rfl ?_
   obtain ⟨bk,bl,c⟩:=zG c
   refine zH (zQ (wL (p:=d.n) rfl) bl)<| yS (b:=bk) rfl rfl rfl (fun x=>?_) (fun x=>?_)
   ·have c:=zT x c
    refine zH (fa70_4 rfl)<| Ld fU H 1 4 rfl rfl ?_
    obtain ⟨ae,bm,c⟩:=zG c
    refine zH (zQ (dH (a:=f.N) (b:=0) rfl rfl) bm)<| zH (yO (v:= .bool ae) rfl rfl)<| zH (yN (v:= .bool ae) rfl rfl) ?_
    obtain rfl:=gI c
    exact zF (zB (meet ⟨(zL rfl zO),H.pick [0,1,2] (by decide)⟩))
   have c:=zU x c
   refine yI ?_
   refine yI ?_
   refine yI ?_
   refine zH (yN (v:= .bool false) rfl rfl)<| zH (yN (v:= .bool false) rfl rfl) ?_
   obtain rfl:=gI c
   exact zF (zB (meet ⟨(zL rfl zO),H.pick [0,1,2] (by decide)⟩))
  rintro ρ dx H
  have c:=bj
  obtain ⟨af,c,bn⟩:=zD c
  refine bW 10 [51,52,53,54,55,56,57,58,59,60] [(60,.bool af)] (fun wl=>Hd O w wl S [f1 fD v1 f.Kids,.blk h [i6 f.Kind,sb f.Name,sb f.Other,i6 f.Op,i6 f.N,i6 f.Frames,v1] 70,.blk j [.bool d.name,.bool d.other,.bool d.op,.bool d.n,.bool d.frames,i6 d.least,i6 d.most] 226]) ?_ ?_
  ·skip
   refine yS (b:=ad) rfl rfl rfl (fun y=>?_) (fun y=>?_)
   ·have c:=zT y c
    refine yI ?_
    refine yI ?_
    refine yI ?_
    refine yI ?_
    refine yI ?_
    refine yI ?_
    refine yI ?_
    refine yI ?_
    refine zH (yO (v:= .bool true) rfl rfl) ?_
    obtain rfl:=gI c
    exact zF (zB (meet ⟨(zL rfl zO),H.pick [0,1,2] (by decide)⟩))
   have c:=zU y c
   refine zH (fa226_4 rfl)<| Ld one4 H 2 4 rfl rfl ?_
   obtain ⟨bo,bp,c⟩:=zG c
   refine zH (zQ (wL (p:=d.frames) rfl) bp)<| yS (b:=bo) rfl rfl rfl (fun z=>?_) (fun z=>?_)
   ·have c:=zT z c
    refine zH (fa70_5 rfl)<| Ld fU H 1 5 rfl rfl ?_
    obtain ⟨ag,bq,c⟩:=zG c
    refine zH (zQ (dH (a:=f.Frames) (b:=0) rfl rfl) bq)<| zH (yO (v:= .bool ag) rfl rfl)<| zH (yN (v:= .bool ag) rfl rfl) ?_
    obtain rfl:=gI c
    exact zF (zB (meet ⟨(zL rfl zO),H.pick [0,1,2] (by decide)⟩))
   have c:=zU z c
   refine yI ?_
   refine yI ?_
   refine yI ?_
   refine zH (yN (v:= .bool false) rfl rfl)<| zH (yN (v:= .bool false) rfl rfl) ?_
   obtain rfl:=gI c
   exact zF (zB (meet ⟨(zL rfl zO),H.pick [0,1,2] (by decide)⟩))
  rintro ρ dy H
  have c:=bn
  refine yS (b:=af) rfl rfl rfl (fun A=>?_) (fun A=>?_)
  ·have c:=zT A c
   refine yI ?_
   refine yI ?_
   refine yI ?_
   refine yI ?_
   refine yI ?_
   refine yI ?_
   refine yI ?_
   refine yI ?_
   refine yI ?_
   refine zH (yO (v:= .bool true) rfl rfl) ?_
   obtain rfl:=gI c
   exact (zF (zB (meet ⟨(),(zL rfl zO),H.pick [0,1,2] (by decide)⟩)))
  have c:=zU A c
  refine zH (fa70_6 rfl)<| Ld one68 H 1 6 rfl rfl ?_
  obtain ⟨br,bt,c⟩:=zG c
  obtain ⟨dz,d0,bu⟩:=SlF.len ((H.item (i:=0) rfl))
  refine zH (yJ (xN u68 bu) (congrArg (Value.int .i64) bt))<| zH (fa226_5 rfl)<| Ld fU H 2 5 rfl rfl<| zH (fa226_6 rfl)<| Ld fU H 2 6 rfl rfl ?_
  have bv:=H
  obtain ⟨bw,bx,c⟩:=zD c
  refine yA rfl rfl (zV en76 rfl) (Faew br d.least d.most _ bx _ _ _ (H.enter [] [] (by decide) rfl)) ?_
  rintro _ d1 ⟨rfl,bz⟩
  have H:=bv.step (bz.only:Only [] _ _)
  refine ⟨_,rfl,?_⟩
  obtain ⟨b0,b1,c⟩:=zG c
  refine zH (zQ (wL (p:=bw) rfl) b1)<| zH (yN (v:= .bool b0) rfl rfl) ?_
  obtain rfl:=gI c
  exact (zF (zB (meet ⟨(),(zL rfl zO),H.pick [0,1,2] (by decide)⟩)))
 rintro _ ρ d2 H
 have c:=a5
 refine yC (b:=X) rfl (fun B=>?_) (fun B=>?_)
 ·have c:=zT B c
  refine zC fun d3 b2=>zA<| zK (i6 2)<| zF (zB (b2 _ _ ?_))
  obtain rfl:=gI c
  refine (zY (zZ (fF (v1:=i6 2) rfl rfl ?_)))
  exact ⟨rfl,H.pick [] (by decide)⟩
 have c:=zU B c
 refine yB (zB (a4 _ _ ?_))
 refine zC fun d4 b3=>?_
 refine yF ?_
 obtain ⟨ah,c,b4⟩:=zD c
 refine yL [72,73,74,75,76,77,78,79,80,81,82,83,84,85,86,87,88,89,90] (fun (g:Unit)=>[(72,.bool ah)]) (fun g wl=>Hd O w wl S [f1 fD v1 f.Kids,.blk h [i6 f.Kind,sb f.Name,sb f.Other,i6 f.Op,i6 f.N,i6 f.Frames,v1] 70,.blk j [.bool d.name,.bool d.other,.bool d.op,.bool d.n,.bool d.frames,i6 d.least,i6 d.most] 226]) ?_ ?_
 ·skip
  refine zA ?_
  refine zH (fa226_0 rfl)<| Ld one4 H 2 0 rfl rfl ?_
  obtain ⟨ai,c,b5⟩:=zD c
  refine bW 6 [75,76,77,78,79,80] [(80,.bool ai)] (fun wl=>Hd O w wl S [f1 fD v1 f.Kids,.blk h [i6 f.Kind,sb f.Name,sb f.Other,i6 f.Op,i6 f.N,i6 f.Frames,v1] 70,.blk j [.bool d.name,.bool d.other,.bool d.op,.bool d.n,.bool d.frames,i6 d.least,i6 d.most] 226]) ?_ ?_
  ·skip
   refine yS (b:=d.name) rfl rfl rfl (fun C=>?_) (fun C=>?_)
   ·have c:=zT C c
    refine zH (fa70_1 rfl)<| Ld bC H 1 1 rfl rfl ?_
    have b6:=H
    obtain ⟨b7,b8,c⟩:=zD c
    refine yA rfl rfl (zV en86 rfl) (Fahw f.Name _ b8 _ _ _ (H.enter [] [] (by decide) rfl)) ?_
    rintro _ d5 ⟨rfl,b9⟩
    have H:=b6.step (b9.only:Only [] _ _)
    refine ⟨_,rfl,?_⟩
    obtain ⟨ca,cb,c⟩:=zG c
    refine zH (zQ (wL (p:=b7) rfl) cb)<| zH (yO (v:= .bool ca) rfl rfl) ?_
    obtain rfl:=gI c
    exact zF (zB (meet ⟨(zL rfl zO),H.pick [0,1,2] (by decide)⟩))
   have c:=zU C c
   refine yI ?_
   refine yI ?_
   refine yI ?_
   refine yI ?_
   refine zH (yN (v:= .bool false) rfl rfl) ?_
   obtain rfl:=gI c
   exact zF (zB (meet ⟨(zL rfl zO),H.pick [0,1,2] (by decide)⟩))
  rintro ρ d6 H
  have c:=b5
  refine yS (b:=ai) rfl rfl rfl (fun D=>?_) (fun D=>?_)
  ·have c:=zT D c
   refine yI ?_
   refine yI ?_
   refine yI ?_
   refine yI ?_
   refine yI ?_
   refine yI ?_
   refine yI ?_
   refine yI ?_
   refine zH (yO (v:= .bool true) rfl rfl)<| zK (.bool true) ?_
   obtain rfl:=gI c
   exact (zF (zB (meet ⟨(),(zL rfl zO),H.pick [0,1,2] (by decide)⟩)))
  have c:=zU D c
  refine zH (fa226_1 rfl)<| Ld one4 H 2 1 rfl rfl<| yS (b:=d.other) rfl rfl rfl (fun E=>?_) (fun E=>?_)
  ·have c:=zT E c
   refine zH (fa70_2 rfl)<| Ld bC H 1 2 rfl rfl ?_
   have cc:=H
   obtain ⟨cd,ce,c⟩:=zD c
   refine yA rfl rfl (zV en86 rfl) (Fahw f.Other _ ce _ _ _ (H.enter [] [] (by decide) rfl)) ?_
   rintro _ d7 ⟨rfl,cf⟩
   have H:=cc.step (cf.only:Only [] _ _)
   refine ⟨_,rfl,?_⟩
   obtain ⟨F,cg,c⟩:=zG c
   refine zH (zQ (wL (p:=cd) rfl) cg)<| zH (yO (v:= .bool F) rfl rfl)<| zH (yN (v:= .bool F) rfl rfl)<| zK (.bool F) ?_
   obtain rfl:=gI c
   exact (zF (zB (meet ⟨(),(zL rfl zO),H.pick [0,1,2] (by decide)⟩)))
  have c:=zU E c
  refine yI ?_
  refine yI ?_
  refine yI ?_
  refine yI ?_
  refine zH (yN (v:= .bool false) rfl rfl)<| zH (yN (v:= .bool false) rfl rfl)<| zK (.bool false) ?_
  obtain rfl:=gI c
  exact (zF (zB (meet ⟨(),(zL rfl zO),H.pick [0,1,2] (by decide)⟩)))
 rintro _ ρ d8 H
 have c:=b4
 refine yC (b:=ah) rfl (fun G=>?_) (fun G=>?_)
 ·have c:=zT G c
  refine zC fun d9 ch=>zA<| zK (i6 8)<| zF (zB (ch _ _ ?_))
  obtain rfl:=gI c
  refine (zY (yG (zZ (fF (v1:=i6 8) rfl rfl ?_))))
  exact ⟨rfl,H.pick [] (by decide)⟩
 have c:=zU G c
 obtain ⟨aj,c,ci⟩:=zD c
 refine yL [91,92,93,94,95,96,97,98,99] (fun (g:Unit)=>[(91,.bool aj)]) (fun g wl=>Hd O w wl S [f1 fD v1 f.Kids,.blk h [i6 f.Kind,sb f.Name,sb f.Other,i6 f.Op,i6 f.N,i6 f.Frames,v1] 70,.blk j [.bool d.name,.bool d.other,.bool d.op,.bool d.n,.bool d.frames,i6 d.least,i6 d.most] 226]) ?_ ?_
 ·skip
  refine zA ?_
  refine zH (fa226_2 rfl)<| Ld one4 H 2 2 rfl rfl<| yS (b:=d.op) rfl rfl rfl (fun I=>?_) (fun I=>?_)
  ·have c:=zT I c
   refine zH (fa70_3 rfl)<| Ld fU H 1 3 rfl rfl ?_
   have cj:=H
   obtain ⟨ck,cl,c⟩:=zD c
   refine yA rfl rfl (zV en76 rfl) (Faew f.Op 1 6 _ cl _ _ _ (H.enter [] [] (by decide) rfl)) ?_
   rintro _ ea ⟨rfl,cm⟩
   have H:=cj.step (cm.only:Only [] _ _)
   refine ⟨_,rfl,?_⟩
   obtain ⟨ak,cn,c⟩:=zG c
   refine zH (zQ (wL (p:=ck) rfl) cn)<| zH (yO (v:= .bool ak) rfl rfl)<| zK (.bool ak) ?_
   obtain rfl:=gI c
   exact (zF (zB (meet ⟨(),(zL rfl zO),H.pick [0,1,2] (by decide)⟩)))
  have c:=zU I c
  refine yI ?_
  refine yI ?_
  refine yI ?_
  refine yI ?_
  refine zH (yN (v:= .bool false) rfl rfl)<| zK (.bool false) ?_
  obtain rfl:=gI c
  exact (zF (zB (meet ⟨(),(zL rfl zO),H.pick [0,1,2] (by decide)⟩)))
 rintro _ ρ eb H
 have c:=ci
 refine yC (b:=aj) rfl (fun J=>?_) (fun J=>?_)
 ·have c:=zT J c
  refine zC fun ec co=>zA<| zK (i6 7)<| zF (zB (co _ _ ?_))
  obtain rfl:=gI c
  refine (zY (yG (zZ (fF (v1:=i6 7) rfl rfl ?_))))
  exact ⟨rfl,H.pick [] (by decide)⟩
 have c:=zU J c
 obtain ⟨al,c,cp⟩:=zD c
 refine yL [100,101,102,103,104,105,106,107,108] (fun (g:Unit)=>[(100,.bool al)]) (fun g wl=>Hd O w wl S [f1 fD v1 f.Kids,.blk h [i6 f.Kind,sb f.Name,sb f.Other,i6 f.Op,i6 f.N,i6 f.Frames,v1] 70,.blk j [.bool d.name,.bool d.other,.bool d.op,.bool d.n,.bool d.frames,i6 d.least,i6 d.most] 226]) ?_ ?_
 ·skip
  refine zA ?_
  refine zH (fa226_4 rfl)<| Ld one4 H 2 4 rfl rfl<| yS (b:=d.frames) rfl rfl rfl (fun K=>?_) (fun K=>?_)
  ·have c:=zT K c
   refine zH (fa70_5 rfl)<| Ld fU H 1 5 rfl rfl ?_
   have cq:=H
   obtain ⟨cr,ct,c⟩:=zD c
   refine yA rfl rfl (zV en76 rfl) (Faew f.Frames 1 4096 _ ct _ _ _ (H.enter [] [] (by decide) rfl)) ?_
   rintro _ ed ⟨rfl,cu⟩
   have H:=cq.step (cu.only:Only [] _ _)
   refine ⟨_,rfl,?_⟩
   obtain ⟨am,cv,c⟩:=zG c
   refine zH (zQ (wL (p:=cr) rfl) cv)<| zH (yO (v:= .bool am) rfl rfl)<| zK (.bool am) ?_
   obtain rfl:=gI c
   exact (zF (zB (meet ⟨(),(zL rfl zO),H.pick [0,1,2] (by decide)⟩)))
  have c:=zU K c
  refine yI ?_
  refine yI ?_
  refine yI ?_
  refine yI ?_
  refine zH (yN (v:= .bool false) rfl rfl)<| zK (.bool false) ?_
  obtain rfl:=gI c
  exact (zF (zB (meet ⟨(),(zL rfl zO),H.pick [0,1,2] (by decide)⟩)))
 rintro _ ρ ee H
 have c:=cp
 refine yC (b:=al) rfl (fun L=>?_) (fun L=>?_)
 ·have c:=zT L c
  refine zC fun ef cw=>zA<| zK (i6 9)<| zF (zB (cw _ _ ?_))
  obtain rfl:=gI c
  refine (zY (yG (zZ (fF (v1:=i6 9) rfl rfl ?_))))
  exact ⟨rfl,H.pick [] (by decide)⟩
 have c:=zU L c
 obtain ⟨an,c,cx⟩:=zD c
 refine yL [109,110,111,112,113,114,115,116,117,118,119,120] (fun (g:Unit)=>[(109,.bool an)]) (fun g wl=>Hd O w wl S [f1 fD v1 f.Kids,.blk h [i6 f.Kind,sb f.Name,sb f.Other,i6 f.Op,i6 f.N,i6 f.Frames,v1] 70,.blk j [.bool d.name,.bool d.other,.bool d.op,.bool d.n,.bool d.frames,i6 d.least,i6 d.most] 226]) ?_ ?_
 ·skip
  refine zA ?_
  refine zH (fa70_0 rfl)<| Ld fU H 1 0 rfl rfl ?_
  obtain ⟨cy,cz,c⟩:=zG c
  refine zH (zQ (yT (a:=f.Kind) (b:=13) rfl rfl) cz)<| yS (b:=cy) rfl rfl rfl (fun M=>?_) (fun M=>?_)
  ·have c:=zT M c
   refine zH (fa70_4 rfl)<| Ld fU H 1 4 rfl rfl<| zH (fa70_5 rfl)<| Ld fU H 1 5 rfl rfl ?_
   have c0:=H
   obtain ⟨c1,c2,c⟩:=zD c
   refine yA rfl rfl (zV en76 rfl) (Faew f.N 1 f.Frames _ c2 _ _ _ (H.enter [] [] (by decide) rfl)) ?_
   rintro _ eg ⟨rfl,c3⟩
   have H:=c0.step (c3.only:Only [] _ _)
   refine ⟨_,rfl,?_⟩
   obtain ⟨ao,c4,c⟩:=zG c
   refine zH (zQ (wL (p:=c1) rfl) c4)<| zH (yO (v:= .bool ao) rfl rfl)<| zK (.bool ao) ?_
   obtain rfl:=gI c
   exact (zF (zB (meet ⟨(),(zL rfl zO),H.pick [0,1,2] (by decide)⟩)))
  have c:=zU M c
  refine yI ?_
  refine yI ?_
  refine yI ?_
  refine yI ?_
  refine yI ?_
  refine yI ?_
  refine zH (yN (v:= .bool false) rfl rfl)<| zK (.bool false) ?_
  obtain rfl:=gI c
  exact (zF (zB (meet ⟨(),(zL rfl zO),H.pick [0,1,2] (by decide)⟩)))
 rintro _ ρ eh H
 have c:=cx
 refine yC (b:=an) rfl (fun P=>?_) (fun P=>?_)
 ·have c:=zT P c
  refine zC fun ei c5=>zA<| zK (i6 9)<| zF (zB (c5 _ _ ?_))
  obtain rfl:=gI c
  refine (zY (yG (zZ (fF (v1:=i6 9) rfl rfl ?_))))
  exact ⟨rfl,H.pick [] (by decide)⟩
 have c:=zU P c
 obtain ⟨ap,c,c6⟩:=zD c
 refine yL [121,122,123,124,125,126,127,128,129,130,131,132,133,134,135,136,137,138,139] (fun (g:Unit)=>[(121,.bool ap)]) (fun g wl=>Hd O w wl S []) ?_ ?_
 ·skip
  refine zA ?_
  refine zH (fa226_3 rfl)<| Ld one4 H 2 3 rfl rfl ?_
  obtain ⟨aq,c,c7⟩:=zD c
  refine bW 6 [124,125,126,127,128,129] [(129,.bool aq)] (fun wl=>Hd O w wl S [f1 fD v1 f.Kids,.blk h [i6 f.Kind,sb f.Name,sb f.Other,i6 f.Op,i6 f.N,i6 f.Frames,v1] 70,.blk j [.bool d.name,.bool d.other,.bool d.op,.bool d.n,.bool d.frames,i6 d.least,i6 d.most] 226]) ?_ ?_
  ·skip
   refine yS (b:=d.n) rfl rfl rfl (fun Q=>?_) (fun Q=>?_)
   ·have c:=zT Q c
    refine zH (fa70_4 rfl)<| Ld fU H 1 4 rfl rfl ?_
    have c8:=H
    obtain ⟨c9,da,c⟩:=zD c
    refine yA rfl rfl (zV en76 rfl) (Faew f.N (-1125899906842624) 1125899906842624 _ da _ _ _ (H.enter [] [] (by decide) rfl)) ?_
    rintro _ ej ⟨rfl,db⟩
    have H:=c8.step (db.only:Only [] _ _)
    refine ⟨_,rfl,?_⟩
    obtain ⟨dc,dd,c⟩:=zG c
    refine zH (zQ (wL (p:=c9) rfl) dd)<| zH (yO (v:= .bool dc) rfl rfl) ?_
    obtain rfl:=gI c
    exact zF (zB (meet ⟨(zL rfl zO),H.pick [0,1,2] (by decide)⟩))
   have c:=zU Q c
   refine yI ?_
   refine yI ?_
   refine yI ?_
   refine yI ?_
   refine zH (yN (v:= .bool false) rfl rfl) ?_
   obtain rfl:=gI c
   exact zF (zB (meet ⟨(zL rfl zO),H.pick [0,1,2] (by decide)⟩))
  rintro ρ ek H
  have c:=c7
  refine yS (b:=aq) rfl rfl rfl (fun R=>?_) (fun R=>?_)
  ·have c:=zT R c
   refine yI ?_
   refine yI ?_
   refine yI ?_
   refine yI ?_
   refine yI ?_
   refine yI ?_
   refine yI ?_
   refine yI ?_
   refine zH (yO (v:= .bool true) rfl rfl)<| zK (.bool true) ?_
   obtain rfl:=gI c
   exact (zF (zB (meet ⟨(),(zL rfl zO),H.pick [] (by decide)⟩)))
  have c:=zU R c
  refine zH (fa70_0 rfl)<| Ld fU H 1 0 rfl rfl ?_
  obtain ⟨de,df,c⟩:=zG c
  refine zH (zQ (yT (a:=f.Kind) (b:=5) rfl rfl) df)<| yS (b:=de) rfl rfl rfl (fun T=>?_) (fun T=>?_)
  ·have c:=zT T c
   refine zH (fa70_4 rfl)<| Ld fU H 1 4 rfl rfl ?_
   obtain ⟨U,dg,c⟩:=zG c
   refine zH (zQ (xR (a:=f.N) (b:=0) rfl rfl) dg)<| zH (yO (v:= .bool U) rfl rfl)<| zH (yN (v:= .bool U) rfl rfl)<| zK (.bool U) ?_
   obtain rfl:=gI c
   exact (zF (zB (meet ⟨(),(zL rfl zO),H.pick [] (by decide)⟩)))
  have c:=zU T c
  refine yI ?_
  refine yI ?_
  refine yI ?_
  refine zH (yN (v:= .bool false) rfl rfl)<| zH (yN (v:= .bool false) rfl rfl)<| zK (.bool false) ?_
  obtain rfl:=gI c
  exact (zF (zB (meet ⟨(),(zL rfl zO),H.pick [] (by decide)⟩)))
 rintro _ ρ el H
 have c:=c6
 refine yC (b:=ap) rfl (fun V=>?_) (fun V=>?_)
 ·have c:=zT V c
  refine zC fun em dh=>zA<| zK (i6 9)<| zF (zB (dh _ _ ?_))
  obtain rfl:=gI c
  refine (zY (yG (zZ (fF (v1:=i6 9) rfl rfl ?_))))
  exact ⟨rfl,H.pick [] (by decide)⟩
 have c:=zU V c
 refine (yB (yK (zB (b3 _ _ ?_))))
 refine zC fun en di=>zA<| zK (i6 0)<| zF (zB (di _ _ ?_))
 obtain rfl:=gI c
 refine (zY (fF (v1:=i6 0) rfl rfl ?_))
 exact ⟨rfl,H.pick [] (by decide)⟩
abbrev Fe7 (f:Cond→Option Int):Prop:= ∀(p0:Cond) (v1:Value) (r:Int) (_:f p0=some r) (O S:List Nat) (w:World) (_:Hd O w w S [f1 fD v1 p0.Kids]),
  Cl 81 [.agg [i6 p0.Kind,sb p0.Name,sb p0.Other,i6 p0.Op,i6 p0.N,i6 p0.Frames,v1].toArray,.func (.func 82) #[] #[]] w fun e w'=>e= .returned (i6 r)∧Hd O w w' S []
theorem Fcow (rfD:Cond→Option Int)(rhD:Fe7 rfD)(d:Cond)(v1:Value)(r:Int)(c:Fco rfD d=some r)(O S:List Nat)(w:World)(H:Hd O w w S [f1 fD v1 d.Kids]):
  Cl 81 [.agg [i6 d.Kind,sb d.Name,sb d.Other,i6 d.Op,i6 d.N,i6 d.Frames,v1].toArray,.func (.func 82) #[] #[]] w fun e t=>e= .returned (i6 r)∧Hd O w t S []:=by
 unfold Fco at c
 refine zS 29 Tryz.func81 rfl rfl rfl ?_
 refine zC fun K3 u=>zA<| yP rfl rfl (xW (cs:=[i6 d.Kind,sb d.Name,sb d.Other,i6 d.Op,i6 d.N,i6 d.Frames,v1]) rfl H) ?_
 rintro _ w6 ⟨b4,rfl,H⟩
 refine zK (i6 0)<| zF (zB (u _ _ ?_))
 refine zC fun aw v=>?_
 refine zC fun ax x=>zA<| zI (.func (.func 82) #[] #[])<| zH (yJ (yM (cs:=[i6 d.Kind,sb d.Name,sb d.Other,i6 d.Op,i6 d.N,i6 d.Frames,v1]) dI rfl dB rfl (Hbc H 1 rfl)) rfl) ?_
 have y:=H
 obtain ⟨h,z,c⟩:=zD c
 refine yA rfl rfl (aP en82 rfl rfl) (Famw d v1 _ z _ _ _ (H.enter [] [0] (by decide) rfl)) ?_
 rintro _ ay ⟨rfl,A⟩
 have H:=y.step (A.only:Only [] _ _)
 refine ⟨_,rfl,?_⟩
 refine zK (i6 h)<| zF (zB (x _ _ ?_))
 refine zC fun az B=>zA<| zI (i6 h) ?_
 obtain ⟨C,D,c⟩:=zG c
 refine zH (zQ (dH (a:=h) (b:=0) rfl rfl) D)<| zF (zB (B _ _ ?_))
 refine yC (b:=C) rfl (fun l=>?_) (fun l=>?_)
 ·have c:=zT l c
  refine zC fun a0 E=>zA<| zI (i6 h)<| zK (i6 h)<| zF (zB (E _ _ ?_))
  obtain rfl:=gI c
  refine (zY (zZ (fF (v1:=i6 h) rfl rfl ?_)))
  exact ⟨rfl,H.pick [] (by decide)⟩
 have c:=zU l c
 refine yB (zB (v _ _ ?_))
 obtain ⟨F,G,c⟩:=wJ c
 refine yL [4,7,8,15,16,17,18,19,20,21,22,23,24,25,26,27,28] (fun (g:Unit)=>[]) (fun g wl=>Hd O w wl S []∧F ()=some r) ?_ ?_
 ·skip
  refine zC fun a1 I=>zA<| zH (fa70_6 rfl)<| Ld one68 H 1 6 rfl rfl ?_
  obtain ⟨J,K,c⟩:=zG c
  obtain ⟨a2,a3,L⟩:=SlF.len ((H.item (i:=0) rfl))
  refine zH (yJ (xN u68 L) (congrArg (Value.int .i64) K))<| zI (i6 0)<| zF (zB (I _ _ ?_))
  refine yF ?_
  unfold Fe9 at c
  obtain ⟨M,q,P,c⟩:=yR c
  refine xG [4,7,8,18,19,20,21,22,23,24,25,26,27,28] (fun (g:Nat×Int)=>[(18,i6 g.2)]) (fun g wl=>Hd O w wl S [f1 fD v1 d.Kids]∧eF M g.1 g.2=some r) (fun g=>g.1) (q,0) (zL rfl zO) ⟨H.pick [0] (by decide),c⟩ ?_
  clear H c
  rintro ⟨q,m⟩ ρ a4 ⟨H,c⟩
  obtain ⟨Q,rfl,c⟩:=yX c
  have c:=yY P c
  refine zC fun a5 R=>zA ?_
  obtain ⟨T,U,c⟩:=zG c
  refine zH (zQ (xR (a:=m) (b:=J) rfl rfl) U)<| zF (zB (R _ _ ?_))
  refine zC fun a6 V=>?_
  refine yC (b:=T) rfl (fun n=>?_) (fun n=>?_)
  ·have c:=zT n c
   refine yB (zB (V _ _ ?_))
   refine zC fun a7 X=>?_
   refine yF ?_
   refine zC fun a8 Y=>zA ?_
   obtain ⟨f,o,c⟩:=zD c
   obtain ⟨Z,aa,a9,ba,ab,ac,ad,ae,af⟩:=dQ (H.item (i:=0) rfl) o
   obtain ⟨k,rfl,ag⟩:=bQ ac
   have H:=H.fzs [.at Z (aa+m.toNat * 7) _,.sl fD k f.Kids] ⟨⟨ad,ae,af⟩,ag,trivial⟩
   refine zH (xJ u68 dB ab rfl (yE o).1 (yE o).2.1 rfl rfl)<| zH (yJ (yM (cs:=[i6 f.Kind,sb f.Name,sb f.Other,i6 f.Op,i6 f.N,i6 f.Frames,k]) dI rfl dB rfl (H.item (i:=1) rfl).2.2) rfl)<| yP rfl rfl (xH kF H) ?_
   rintro _ bb ⟨bc,rfl,H⟩
   refine yV rfl (yQ (vs:=[i6 f.Kind,sb f.Name,sb f.Other,i6 f.Op,i6 f.N,i6 f.Frames,k]) H 3 rfl dB rfl rfl rfl ⟨rfl,rfl,rfl,rfl,rfl,rfl,(wH (H.item (i:=2) rfl)),trivial⟩ rfl) ?_
   rintro bd H
   refine zF (zB (Y _ _ ?_))
   refine zC fun be ah=>zA<| zH (yJ (yM (cs:=[i6 f.Kind,sb f.Name,sb f.Other,i6 f.Op,i6 f.N,i6 f.Frames,k]) dI rfl dB rfl (Hbc H 3 rfl)) rfl)<| zI (.func (.func 82) #[] #[]) ?_
   have ai:=H
   obtain ⟨j,aj,c⟩:=zD c
   refine yA rfl rfl (zV en81 rfl) (rhD f k _ aj _ _ _ (H.enter [] [2] (by decide) rfl)) ?_
   rintro _ bf ⟨rfl,ak⟩
   have H:=ai.step (ak.only:Only [] _ _)
   refine ⟨_,rfl,?_⟩
   refine zK (i6 j)<| zF (zB (ah _ _ ?_))
   refine zC fun bg al=>zA<| zI (i6 j) ?_
   obtain ⟨am,an,c⟩:=zG c
   refine zH (zQ (dH (a:=j) (b:=0) rfl rfl) an)<| zF (zB (al _ _ ?_))
   refine yC (b:=am) rfl (fun p=>?_) (fun p=>?_)
   ·have c:=zT p c
    refine zC fun bh ao=>zA<| zI (i6 j)<| zK (i6 j)<| zF (zB (ao _ _ ?_))
    obtain rfl:=gI c
    refine (zY (yG (zZ (zZ (yG (zZ (fF (v1:=i6 j) rfl rfl ?_)))))))
    exact ⟨rfl,H.pick [] (by decide)⟩
   have c:=zU p c
   refine (yB (yK (zB (X _ _ ?_))))
   refine zA ?_
   obtain ⟨s,ap,c⟩:=zG c
   refine zH (xQ (a:=m) (b:=1) rfl rfl ap)<| zI (i6 s) ?_
   exact (zF (zB (meet ⟨(Q,s),(zL rfl zO),⟨H.pick [0] (by decide),c⟩,Nat.lt_succ_self _⟩)))
  have c:=zU n c
  exact (xK (yH (yH (yU (zB (meet ⟨(),zO,⟨H.pick [] (by decide),c⟩⟩))))))
 rintro _ ρ bi ⟨H,c⟩
 have c:=dE G c
 refine zC fun bj aq=>zA<| zK (i6 0)<| zF (zB (aq _ _ ?_))
 obtain rfl:=gI c
 refine (zY (fF (v1:=i6 0) rfl rfl ?_))
 exact ⟨rfl,H.pick [] (by decide)⟩
theorem Fgt:Fe7 (Fes):=by
 have h: ∀n,Fe7 (Fa9 n):=by
  intro n
  induction n with
  | zero=>intro b c r a; cases a
  | succ n ih=>intro b c r a; exact Fcow (Fa9 n) ih b c r a
 exact h FU
theorem Fbtw (a:Cond)(v1:Value)(r:Int)(c:Fbt a=some r)(O S:List Nat)(w:World)(H:Hd O w w S [f1 fD v1 a.Kids]):
  Cl 29 [.agg [i6 a.Kind,sb a.Name,sb a.Other,i6 a.Op,i6 a.N,i6 a.Frames,v1].toArray] w fun e i=>e= .returned (i6 r)∧Hd O w i S []:=by
 unfold Fbt at c
 refine zS 9 Tryz.func29 rfl rfl rfl ?_
 refine zC fun E j=>zA<| yP rfl rfl (xW (cs:=[i6 a.Kind,sb a.Name,sb a.Other,i6 a.Op,i6 a.N,i6 a.Frames,v1]) rfl H) ?_
 rintro _ F ⟨k,rfl,H⟩
 refine zK (i6 0)<| zF (zB (j _ _ ?_))
 refine zC fun G l=>zA<| yP rfl rfl (xH zero3 H) ?_
 rintro _ I ⟨f,rfl,H⟩
 refine yV rfl (xE H 2 rfl sz3 rfl (v:=i6 0) rfl rfl rfl) ?_
 rintro J H
 refine zF (zB (l _ _ ?_))
 refine zC fun K m=>?_
 refine zC fun L n=>zA<| zH (yJ (yM (cs:=[i6 a.Kind,sb a.Name,sb a.Other,i6 a.Op,i6 a.N,i6 a.Frames,v1]) dI rfl dB rfl (Hbc H 1 rfl)) rfl) ?_
 obtain ⟨⟨o,q⟩,s,c⟩:=zD c
 refine yA rfl rfl (zV en80 rfl) (Fgu a 20 0 v1 f _ s _ _ _ (H.enter [2] [0] (by decide) rfl)) ?_
 rintro _ t ⟨rfl,u⟩
 have H:Hd _ _ t _ [f1 fD v1 a.Kids,.blk k [i6 a.Kind,sb a.Name,sb a.Other,i6 a.Op,i6 a.N,i6 a.Frames,v1] 70,.blk f [i6 q] 3]:=H.back [2] [0] rfl u
 refine ⟨_,rfl,?_⟩
 obtain ⟨x,y,c⟩:=zG c
 refine zH (zQ (wL (p:=o) rfl) y)<| zF (zB (n _ _ ?_))
 refine yC (b:=x) rfl (fun d=>?_) (fun d=>?_)
 ·have c:=zT d c
  refine zC fun M z=>zA<| zK (i6 3)<| zF (zB (z _ _ ?_))
  obtain rfl:=gI c
  refine (zY (zZ (fF (v1:=i6 3) rfl rfl ?_)))
  exact ⟨rfl,H.pick [] (by decide)⟩
 have c:=zU d c
 refine yB (zB (m _ _ ?_))
 refine zC fun P A=>zA<| zH (yJ (yM (cs:=[i6 a.Kind,sb a.Name,sb a.Other,i6 a.Op,i6 a.N,i6 a.Frames,v1]) dI rfl dB rfl (Hbc H 1 rfl)) rfl) ?_
 have B:=H
 obtain ⟨h,C,c⟩:=zD c
 refine yA rfl rfl (zV en81 rfl) (Fgt a v1 _ C _ _ _ (H.enter [] [0] (by decide) rfl)) ?_
 rintro _ Q ⟨rfl,D⟩
 have H:=B.step (D.only:Only [] _ _)
 refine ⟨_,rfl,?_⟩
 refine zK (i6 h)<| zF (zB (A _ _ ?_))
 obtain rfl:=gI c
 refine (zY (fF (v1:=i6 h) rfl rfl ?_))
 exact ⟨rfl,H.pick [] (by decide)⟩
theorem Fcuw (d:Cond)(v1:Value)(r:Int)(c:Fcu d=some r)(O S:List Nat)(w:World)(H:Hd O w w S [f1 fD v1 d.Kids]):
  Cl 146 [.agg [i6 d.Kind,sb d.Name,sb d.Other,i6 d.Op,i6 d.N,i6 d.Frames,v1].toArray] w fun e j=>e= .returned (i6 r)∧Hd O w j S []:=by
 unfold Fcu at c
 refine zS 11 Tryz.func146 rfl rfl rfl ?_
 refine zC fun u k=>zA<| yP rfl rfl (xW (cs:=[i6 d.Kind,sb d.Name,sb d.Other,i6 d.Op,i6 d.N,i6 d.Frames,v1]) rfl H) ?_
 rintro _ x ⟨y,rfl,H⟩
 refine zK (i6 0)<| zF (zB (k _ _ ?_))
 refine zC fun z l=>?_
 obtain ⟨i,c,m⟩:=zD c
 refine yL [3,4,5,6,7,8,9,10] (fun (g:Unit)=>[(10,.bool i)]) (fun g wl=>Hd O w wl S []) ?_ ?_
 ·skip
  refine zA ?_
  refine zH (fa70_0 rfl)<| Ld fU H 1 0 rfl rfl ?_
  obtain ⟨n,o,c⟩:=zG c
  refine zH (zQ (yT (a:=d.Kind) (b:=6) rfl rfl) o)<| yS (b:=n) rfl rfl rfl (fun f=>?_) (fun f=>?_)
  ·have c:=zT f c
   refine yI ?_
   refine yI ?_
   refine yI ?_
   refine zH (yO (v:= .bool true) rfl rfl) ?_
   obtain rfl:=gI c
   exact (zF (zB (meet ⟨(),(zL rfl zO),H.pick [] (by decide)⟩)))
  have c:=zU f c
  refine zH (fa70_0 rfl)<| Ld fU H 1 0 rfl rfl ?_
  obtain ⟨p,q,c⟩:=zG c
  refine zH (zQ (yT (a:=d.Kind) (b:=7) rfl rfl) q)<| zH (yN (v:= .bool p) rfl rfl) ?_
  obtain rfl:=gI c
  exact (zF (zB (meet ⟨(),(zL rfl zO),H.pick [] (by decide)⟩)))
 rintro _ ρ A H
 have c:=m
 refine yC (b:=i) rfl (fun h=>?_) (fun h=>?_)
 ·have c:=zT h c
  refine zC fun B s=>zA<| zK (i6 2)<| zF (zB (s _ _ ?_))
  obtain rfl:=gI c
  refine (zY (zZ (fF (v1:=i6 2) rfl rfl ?_)))
  exact ⟨rfl,H.pick [] (by decide)⟩
 have c:=zU h c
 refine yB (zB (l _ _ ?_))
 refine zC fun C t=>zA<| zK (i6 0)<| zF (zB (t _ _ ?_))
 obtain rfl:=gI c
 refine (zY (fF (v1:=i6 0) rfl rfl ?_))
 exact ⟨rfl,H.pick [] (by decide)⟩
abbrev Fe0 (f:Cond→Option Int):Prop:= ∀(p0:Cond) (v1:Value) (r:Int) (_:f p0=some r) (O S:List Nat) (w:World) (_:Hd O w w S [f1 fD v1 p0.Kids]),
  Cl 81 [.agg [i6 p0.Kind,sb p0.Name,sb p0.Other,i6 p0.Op,i6 p0.N,i6 p0.Frames,v1].toArray,.func (.func 146) #[] #[]] w fun e w'=>e= .returned (i6 r)∧Hd O w w' S []
theorem Fcvw (rfE:Cond→Option Int)(rhE:Fe0 rfE)(d:Cond)(v1:Value)(r:Int)(c:Fcv rfE d=some r)(O S:List Nat)(w:World)(H:Hd O w w S [f1 fD v1 d.Kids]):
  Cl 81 [.agg [i6 d.Kind,sb d.Name,sb d.Other,i6 d.Op,i6 d.N,i6 d.Frames,v1].toArray,.func (.func 146) #[] #[]] w fun e t=>e= .returned (i6 r)∧Hd O w t S []:=by
 unfold Fcv at c
 refine zS 29 Tryz.func81 rfl rfl rfl ?_
 refine zC fun K3 u=>zA<| yP rfl rfl (xW (cs:=[i6 d.Kind,sb d.Name,sb d.Other,i6 d.Op,i6 d.N,i6 d.Frames,v1]) rfl H) ?_
 rintro _ w6 ⟨b4,rfl,H⟩
 refine zK (i6 0)<| zF (zB (u _ _ ?_))
 refine zC fun aw v=>?_
 refine zC fun ax x=>zA<| zI (.func (.func 146) #[] #[])<| zH (yJ (yM (cs:=[i6 d.Kind,sb d.Name,sb d.Other,i6 d.Op,i6 d.N,i6 d.Frames,v1]) dI rfl dB rfl (Hbc H 1 rfl)) rfl) ?_
 have y:=H
 obtain ⟨h,z,c⟩:=zD c
 refine yA rfl rfl (aP en146 rfl rfl) (Fcuw d v1 _ z _ _ _ (H.enter [] [0] (by decide) rfl)) ?_
 rintro _ ay ⟨rfl,A⟩
 have H:=y.step (A.only:Only [] _ _)
 refine ⟨_,rfl,?_⟩
 refine zK (i6 h)<| zF (zB (x _ _ ?_))
 refine zC fun az B=>zA<| zI (i6 h) ?_
 obtain ⟨C,D,c⟩:=zG c
 refine zH (zQ (dH (a:=h) (b:=0) rfl rfl) D)<| zF (zB (B _ _ ?_))
 refine yC (b:=C) rfl (fun l=>?_) (fun l=>?_)
 ·have c:=zT l c
  refine zC fun a0 E=>zA<| zI (i6 h)<| zK (i6 h)<| zF (zB (E _ _ ?_))
  obtain rfl:=gI c
  refine (zY (zZ (fF (v1:=i6 h) rfl rfl ?_)))
  exact ⟨rfl,H.pick [] (by decide)⟩
 have c:=zU l c
 refine yB (zB (v _ _ ?_))
 obtain ⟨F,G,c⟩:=wJ c
 refine yL [4,7,8,15,16,17,18,19,20,21,22,23,24,25,26,27,28] (fun (g:Unit)=>[]) (fun g wl=>Hd O w wl S []∧F ()=some r) ?_ ?_
 ·skip
  refine zC fun a1 I=>zA<| zH (fa70_6 rfl)<| Ld one68 H 1 6 rfl rfl ?_
  obtain ⟨J,K,c⟩:=zG c
  obtain ⟨a2,a3,L⟩:=SlF.len ((H.item (i:=0) rfl))
  refine zH (yJ (xN u68 L) (congrArg (Value.int .i64) K))<| zI (i6 0)<| zF (zB (I _ _ ?_))
  refine yF ?_
  unfold Ffu at c
  obtain ⟨M,q,P,c⟩:=yR c
  refine xG [4,7,8,18,19,20,21,22,23,24,25,26,27,28] (fun (g:Nat×Int)=>[(18,i6 g.2)]) (fun g wl=>Hd O w wl S [f1 fD v1 d.Kids]∧eF M g.1 g.2=some r) (fun g=>g.1) (q,0) (zL rfl zO) ⟨H.pick [0] (by decide),c⟩ ?_
  clear H c
  rintro ⟨q,m⟩ ρ a4 ⟨H,c⟩
  obtain ⟨Q,rfl,c⟩:=yX c
  have c:=yY P c
  refine zC fun a5 R=>zA ?_
  obtain ⟨T,U,c⟩:=zG c
  refine zH (zQ (xR (a:=m) (b:=J) rfl rfl) U)<| zF (zB (R _ _ ?_))
  refine zC fun a6 V=>?_
  refine yC (b:=T) rfl (fun n=>?_) (fun n=>?_)
  ·have c:=zT n c
   refine yB (zB (V _ _ ?_))
   refine zC fun a7 X=>?_
   refine yF ?_
   refine zC fun a8 Y=>zA ?_
   obtain ⟨f,o,c⟩:=zD c
   obtain ⟨Z,aa,a9,ba,ab,ac,ad,ae,af⟩:=dQ (H.item (i:=0) rfl) o
   obtain ⟨k,rfl,ag⟩:=bQ ac
   have H:=H.fzs [.at Z (aa+m.toNat * 7) _,.sl fD k f.Kids] ⟨⟨ad,ae,af⟩,ag,trivial⟩
   refine zH (xJ u68 dB ab rfl (yE o).1 (yE o).2.1 rfl rfl)<| zH (yJ (yM (cs:=[i6 f.Kind,sb f.Name,sb f.Other,i6 f.Op,i6 f.N,i6 f.Frames,k]) dI rfl dB rfl (H.item (i:=1) rfl).2.2) rfl)<| yP rfl rfl (xH kF H) ?_
   rintro _ bb ⟨bc,rfl,H⟩
   refine yV rfl (yQ (vs:=[i6 f.Kind,sb f.Name,sb f.Other,i6 f.Op,i6 f.N,i6 f.Frames,k]) H 3 rfl dB rfl rfl rfl ⟨rfl,rfl,rfl,rfl,rfl,rfl,(wH (H.item (i:=2) rfl)),trivial⟩ rfl) ?_
   rintro bd H
   refine zF (zB (Y _ _ ?_))
   refine zC fun be ah=>zA<| zH (yJ (yM (cs:=[i6 f.Kind,sb f.Name,sb f.Other,i6 f.Op,i6 f.N,i6 f.Frames,k]) dI rfl dB rfl (Hbc H 3 rfl)) rfl)<| zI (.func (.func 146) #[] #[]) ?_
   have ai:=H
   obtain ⟨j,aj,c⟩:=zD c
   refine yA rfl rfl (zV en81 rfl) (rhE f k _ aj _ _ _ (H.enter [] [2] (by decide) rfl)) ?_
   rintro _ bf ⟨rfl,ak⟩
   have H:=ai.step (ak.only:Only [] _ _)
   refine ⟨_,rfl,?_⟩
   refine zK (i6 j)<| zF (zB (ah _ _ ?_))
   refine zC fun bg al=>zA<| zI (i6 j) ?_
   obtain ⟨am,an,c⟩:=zG c
   refine zH (zQ (dH (a:=j) (b:=0) rfl rfl) an)<| zF (zB (al _ _ ?_))
   refine yC (b:=am) rfl (fun p=>?_) (fun p=>?_)
   ·have c:=zT p c
    refine zC fun bh ao=>zA<| zI (i6 j)<| zK (i6 j)<| zF (zB (ao _ _ ?_))
    obtain rfl:=gI c
    refine (zY (yG (zZ (zZ (yG (zZ (fF (v1:=i6 j) rfl rfl ?_)))))))
    exact ⟨rfl,H.pick [] (by decide)⟩
   have c:=zU p c
   refine (yB (yK (zB (X _ _ ?_))))
   refine zA ?_
   obtain ⟨s,ap,c⟩:=zG c
   refine zH (xQ (a:=m) (b:=1) rfl rfl ap)<| zI (i6 s) ?_
   exact (zF (zB (meet ⟨(Q,s),(zL rfl zO),⟨H.pick [0] (by decide),c⟩,Nat.lt_succ_self _⟩)))
  have c:=zU n c
  exact (xK (yH (yH (yU (zB (meet ⟨(),zO,⟨H.pick [] (by decide),c⟩⟩))))))
 rintro _ ρ bi ⟨H,c⟩
 have c:=dE G c
 refine zC fun bj aq=>zA<| zK (i6 0)<| zF (zB (aq _ _ ?_))
 obtain rfl:=gI c
 refine (zY (fF (v1:=i6 0) rfl rfl ?_))
 exact ⟨rfl,H.pick [] (by decide)⟩
theorem Fgv:Fe0 (Fel):=by
 have h: ∀n,Fe0 (Fbp n):=by
  intro n
  induction n with
  | zero=>intro b c r a; cases a
  | succ n ih=>intro b c r a; exact Fcvw (Fbp n) ih b c r a
 exact h FU
end Go.Proofs.YtckmiljbaejijaaGreatDoor.L
