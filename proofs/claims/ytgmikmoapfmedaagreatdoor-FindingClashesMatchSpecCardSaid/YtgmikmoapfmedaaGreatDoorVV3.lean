/- Walks: what each function computes, for every argument; no condition but those that stand in the statements. -/
import Derived.Test.YtgmikmoapfmedaaGreatDoorVV0
import Derived.Test.YtgmikmoapfmedaaGreatDoorVV1
import Derived.Test.YtgmikmoapfmedaaGreatDoorVV2
namespace Go.Proofs.YtgmikmoapfmedaaGreatDoor.L
open Go.RowKit Go.OB Go.Lf
set_option maxHeartbeats 4000000
theorem Fbbw (d:Int)(f:Int)(h:Int)(r:Int)(c:Fbb d f h=some r)(O S:List Nat)(w:World)(H:Hd O w w S []):
  Cl 25 [i6 d,i6 f,i6 h] w fun e o=>e= .returned (i6 r)∧Hd O w o S []:=by
 unfold Fbb at c
 refine CW 24 Tryz.func25 ?_
 refine zB fun P p=>zA<| zI (i6 0)<| RN p<| zB fun Q q=>?_
 obtain ⟨m,c,s⟩:=zD c
 refine yL [7,8,9,10,11,12,13,14,15,16,17] (fun (g:Unit)=>[(17,.bool m)]) (fun g wl=>Hd O w wl S []) ?_ ?_
 ·skip
  refine zA ?_
  refine zH (i6 d) ?_
  obtain ⟨t,u,c⟩:=zC c
  refine zF (zL (xC (a:=d) (b:=0) rfl rfl) u) ?_
  obtain ⟨n,c,x⟩:=zD c
  refine eF 5 [9,10,11,12,13] [(13,.bool n)] (fun wl=>Hd O w wl S []) ?_ ?_
  ·skip
   refine yR (b:=t) rfl rfl rfl (fun i=>?_) (fun i=>?_)
   ·have c:=zT i c
    refine yC ?_
    refine yC ?_
    refine yC ?_
    refine zF (yD (v:= .bool true) rfl rfl) ?_
    obtain rfl:=gI c
    exact zQ (zG (meet ⟨(zJ rfl zK),H.pick []⟩))
   have c:=zU i c
   refine zH (i6 d)<| zH (i6 f) ?_
   obtain ⟨y,z,c⟩:=zC c
   refine zF (zL (eQ (a:=d) (b:=f) rfl rfl) z)<| zF (zY (v:= .bool y) rfl rfl) ?_
   obtain rfl:=gI c
   exact zQ (zG (meet ⟨(zJ rfl zK),H.pick []⟩))
  rintro ρ R H
  have c:=x
  refine yR (b:=n) rfl rfl rfl (fun j=>?_) (fun j=>?_)
  ·have c:=zT j c
   refine yC ?_
   refine yC ?_
   refine zF (yD (v:= .bool true) rfl rfl) ?_
   obtain rfl:=gI c
   exact (zQ (zG (meet ⟨(),(zJ rfl zK),H.pick []⟩)))
  have c:=zU j c
  refine zH (i6 f) ?_
  obtain ⟨A,B,c⟩:=zC c
  refine zF (zL (eQ (a:=f) (b:=4194303) rfl rfl) B)<| zF (zY (v:= .bool A) rfl rfl) ?_
  obtain rfl:=gI c
  exact (zQ (zG (meet ⟨(),(zJ rfl zK),H.pick []⟩)))
 rintro _ ρ T H
 have c:=s
 refine yB (b:=m) rfl (fun k=>?_) (fun k=>?_)
 ·have c:=zT k c
  refine zB fun U C=>zA<| zI (i6 9)<| RN C ?_
  obtain rfl:=gI c
  refine (zW (zV (gZ (v1:=i6 9) rfl rfl ?_)))
  exact ⟨rfl,H.pick []⟩
 have c:=zU k c
 refine zS (zG (q _ _ ?_))
 refine zB fun V D=>?_
 refine zB fun X E=>zA<| zH (i6 f)<| zH (i6 d) ?_
 obtain ⟨F,G,c⟩:=zC c
 refine zF (bI (a:=f) (b:=d) rfl rfl G) ?_
 obtain ⟨I,J,c⟩:=zC c
 refine zF (xN (a:=F) (b:=1) rfl rfl J)<| zH (i6 h) ?_
 obtain ⟨K,L,c⟩:=zC c
 refine zF (zL (eQ (a:=I) (b:=h) rfl rfl) L)<| RN E<| yB (b:=K) rfl (fun l=>?_) (fun l=>?_)
 ·have c:=zT l c
  refine zB fun Y M=>zA<| zI (i6 3)<| RN M ?_
  obtain rfl:=gI c
  refine (zW (zV (gZ (v1:=i6 3) rfl rfl ?_)))
  exact ⟨rfl,H.pick []⟩
 have c:=zU l c
 refine zS (zG (D _ _ ?_))
 refine zB fun Z N=>zA<| zI (i6 0)<| RN N ?_
 obtain rfl:=gI c
 refine (zW (gZ (v1:=i6 0) rfl rfl ?_))
 exact ⟨rfl,H.pick []⟩
theorem Fb9w (c:Int)(r:Bool)(d:Fb9 c=some r)(O S:List Nat)(w:World)(H:Hd O w w S []):
  Cl 51 [i6 c] w fun e g=>e= .returned (.bool r)∧Hd O w g S []:=by
 unfold Fb9 at d
 refine CW 5 Tryz.func51 ?_
 refine zB fun k h=>zA<| zI (.bool false)<| RN h<| zB fun l i=>zA<| zH (i6 c) ?_
 obtain ⟨f,j,d⟩:=zC d
 refine zF (zL (bK (a:=c) (b:=3) rfl rfl) j)<| zI (.bool f)<| RN i ?_
 obtain rfl:=gI d
 refine (zW (gZ (v1:= .bool f) rfl rfl ?_))
 exact ⟨rfl,H.pick []⟩
theorem Fatw (f:Series)(k:Int)(o:Int)(v1:Value)(r:fF×Bool)(c:Fat f k o=some r)(O S:List Nat)(w:World)(H:Hd O w w S [f1 gY v1 f.Samples]):
  Cl 26 [.agg [i6 f.Den,v1].toArray,i6 k,i6 o] w fun e J=>e= .returned (.tuple #[.agg [i6 r.1.At,i6 r.1.N,i6 r.1.Mark].toArray,.bool r.2])∧Hd O w J S []:=by
 unfold Fat at c
 refine CW 56 Tryz.func26 ?_
 refine zB fun K3 K=>zA<| yQ rfl rfl (xQ (cs:=[i6 f.Den,v1]) rfl H) ?_
 rintro _ w6 ⟨C,rfl,H⟩
 refine yQ rfl rfl (xB nG H) ?_
 rintro _ w9 ⟨s,rfl,H⟩
 refine zI (.bool false)<| RN K<| zB fun bp L=>?_
 have M:=H
 have H:=H.rebase
 have bq:=H
 refine WP_mix0 H [0,1,2,3,4] (kz [0,1,0,0,0]) mixed ?_
 refine XP (fun _ _=>aA rfl)<| XR kS H 1 1 rfl rfl ?_
 obtain ⟨D,P,c⟩:=zC c
 obtain ⟨br,bt,Q⟩:=SlF.len ((H.item (i:=0) rfl))
 refine XP (fun _ _=>yK (xI u37 Q) (congrArg (Value.int .i64) P))<| XP (fun _ _=>dQ (v:=i6 0) rfl)<| XP (fun _ _=>dQ (v:=i6 D) rfl)<| MxM.XL_nil fun bu hS=>?_
 have H:=H.sees hS
 have H:=M.rejoin H
 refine (zG (L _ _ ?_))
 obtain ⟨l,c,R⟩:=zD c
 refine yL [8,9,10,15,16,17,18,19,20,21,22,23,24,25,26,27,28,29,30,31,32] (fun (g:Unit)=>[(8,i6 l)]) (fun g wl=>Hd O w wl S [f1 gY v1 f.Samples,.blk C [i6 f.Den,v1] 39,.blk s [i6 0,i6 0,i6 0] 46]) ?_ ?_
 ·skip
  refine yA ?_
  unfold Fcb at c
  obtain ⟨T,E,U,c⟩:=yM c
  refine xA [8,9,10,15,16,17,18,19,20,21,22,23,24,25,26,27,28,29,30,31,32] (fun (g:Nat×Int×Int)=>[(8,i6 g.2.1),(9,i6 g.2.2)]) (fun g wl=>Hd O w wl S [f1 gY v1 f.Samples,.blk C [i6 f.Den,v1] 39,.blk s [i6 0,i6 0,i6 0] 46]∧fJ T g.1 (g.2.1,g.2.2)=some l) (fun g=>g.1) (E,0,D) (zJ rfl (zJ rfl zK)) ⟨H.pick [0,1,2],c⟩ ?_
  clear H c
  rintro ⟨E,m,n⟩ ρ bv ⟨H,c⟩
  obtain ⟨F,rfl,c⟩:=yS c
  have c:=yT U c
  refine zB fun bw V=>?_
  refine zB fun bx X=>zA<| zH (i6 m)<| zH (i6 n) ?_
  obtain ⟨Y,Z,c⟩:=zC c
  refine zF (zL (xC (a:=m) (b:=n) rfl rfl) Z)<| RN X<| yB (b:=Y) rfl (fun t=>?_) (fun t=>?_)
  ·have c:=zT t c
   refine zS (zG (V _ _ ?_))
   refine yA ?_
   refine zB fun bz aa=>zA<| zH (i6 m)<| zH (i6 n) ?_
   obtain ⟨ab,ac,c⟩:=zC c
   refine zF (xN (a:=m) (b:=n) rfl rfl ac) ?_
   obtain ⟨h,ad,c⟩:=zD c
   refine zF (Do_quo' (j:=ab) (q:=2) rfl rfl ad)<| zI (i6 h)<| RN aa<| zB fun b0 ae=>zA<| zF (aA rfl)<| Ld kS H 1 1 rfl rfl<| zH (i6 h) ?_
   obtain ⟨af,u,c⟩:=zD c
   obtain ⟨ag,ah,b1,b2,ai,aj,ak,al,am⟩:=fQ (H.item (i:=0) rfl) u
   obtain rfl:=eG aj
   have H:=H.fz (.at ag (ah+h.toNat * 3) _) ⟨ak,al,am⟩
   refine zF (xG u37 bF ai rfl (zZ u).1 (zZ u).2.1 rfl rfl)<| zF (jB rfl)<| zF (xO fK rfl (Cells.get (H.item (i:=3) rfl).2.2 (i:=0) rfl))<| zH (i6 k) ?_
   obtain ⟨an,ao,c⟩:=zC c
   refine zF (zL (aB (a:=af.At) (b:=k) rfl rfl) ao)<| RN ae<| yB (b:=an) rfl (fun x=>?_) (fun x=>?_)
   ·have c:=zT x c
    refine zA ?_
    refine zH (i6 h) ?_
    obtain ⟨G,ap,c⟩:=zC c
    refine zF (xN (a:=h) (b:=1) rfl rfl ap)<| zI (i6 G) ?_
    exact (zQ (yV (zG (meet ⟨(F,G,n),(zJ rfl (zJ rfl zK)),⟨H.pick [0,1,2],c⟩,Nat.lt_succ_self _⟩))))
   have c:=zU x c
   refine zA ?_
   refine zH (i6 h)<| zI (i6 h) ?_
   exact (zQ (yV (zG (meet ⟨(F,m,h),(zJ rfl (zJ rfl zK)),⟨H.pick [0,1,2],c⟩,Nat.lt_succ_self _⟩))))
  have c:=zU t c
  obtain rfl:=gI c
  exact (xH (yI (yI (yU (zG (meet ⟨(),(zJ rfl zK),H.pick [0,1,2]⟩))))))
 rintro _ ρ b3 H
 have c:=R
 refine zB fun b4 aq=>?_
 refine zB fun b5 ar=>zA<| zH (i6 l) ?_
 obtain ⟨au,av,c⟩:=zC c
 refine zF (zL (xW (a:=l) (b:=0) rfl rfl) av)<| RN ar<| yB (b:=au) rfl (fun y=>?_) (fun y=>?_)
 ·have c:=zT y c
  refine zB fun b6 aw=>zA<| zF (dB (cs:=[i6 0,i6 0,i6 0]) bz46)<| yZ rfl (yN (vs:=[i6 0,i6 0,i6 0]) H 2 rfl bF rfl rfl rfl ⟨rfl,rfl,rfl,trivial⟩ rfl) ?_
  rintro b7 H
  refine zI (.bool false)<| RN aw ?_
  obtain rfl:=gI c
  refine (zW (zV (pF (v1:= .bool false) rfl rfl (yX kW bF rfl (Hbc H 2 rfl)) rfl ?_)))
  exact ⟨rfl,H.pick []⟩
 have c:=zU y c
 refine zS (zG (aq _ _ ?_))
 refine zB fun b8 ax=>zA<| zF (aA rfl)<| Ld kS H 1 1 rfl rfl<| zH (i6 l) ?_
 obtain ⟨ay,az,c⟩:=zC c
 refine zF (bI (a:=l) (b:=1) rfl rfl az) ?_
 obtain ⟨d,z,c⟩:=zD c
 obtain ⟨a0,a1,b9,ca,a2,a3,a4,a5,a6⟩:=fQ (H.item (i:=0) rfl) z
 obtain rfl:=eG a3
 have H:=H.fz (.at a0 (a1+ay.toNat * 3) _) ⟨a4,a5,a6⟩
 refine zF (xG u37 bF a2 rfl (zZ z).1 (zZ z).2.1 rfl rfl)<| zF (yK (yH (cs:=[i6 d.At,i6 d.N,i6 d.Mark]) kW rfl bF rfl (H.item (i:=3) rfl).2.2) rfl)<| yQ rfl rfl (xB nG H) ?_
 rintro _ cb ⟨a7,rfl,H⟩
 refine yZ rfl (yN (vs:=[i6 d.At,i6 d.N,i6 d.Mark]) H 4 rfl bF rfl rfl rfl ⟨rfl,rfl,rfl,trivial⟩ rfl) ?_
 rintro cc H
 refine RN ax<| zB fun cd a8=>?_
 obtain ⟨I,c,a9⟩:=zD c
 refine yL [42,43,44,45,46,47,48,49,50,51,52,53] (fun (g:Unit)=>[(53,.bool I)]) (fun g wl=>Hd O w wl S [.blk s [i6 0,i6 0,i6 0] 46,.blk a7 [i6 d.At,i6 d.N,i6 d.Mark] 46]) ?_ ?_
 ·skip
  refine zA ?_
  refine zF (rX rfl)<| Ld fK H 4 2 rfl rfl ?_
  have ba:=H
  obtain ⟨bb,bc,c⟩:=zD c
  refine zO rfl rfl (zM en51 rfl) (Fb9w d.Mark _ bc _ _ _ (H.enter [] [])) ?_
  rintro _ ce ⟨rfl,bd⟩
  have H:=ba.step (bd.only:Only [] _ _)
  refine ⟨_,rfl,?_⟩
  obtain ⟨be,bf,c⟩:=zC c
  refine zF (zL (xX (p:=bb) rfl) bf)<| yR (b:=be) rfl rfl rfl (fun A=>?_) (fun A=>?_)
  ·have c:=zT A c
   refine yC ?_
   refine yC ?_
   refine yC ?_
   refine yC ?_
   refine yC ?_
   refine yC ?_
   refine zF (yD (v:= .bool true) rfl rfl) ?_
   obtain rfl:=gI c
   exact (zQ (zG (meet ⟨(),(zJ rfl zK),H.pick [2,4]⟩)))
  have c:=zU A c
  refine zH (i6 k)<| zF (jB rfl)<| Ld fK H 4 0 rfl rfl ?_
  obtain ⟨bg,bh,c⟩:=zC c
  refine zF (bI (a:=k) (b:=d.At) rfl rfl bh)<| zH (i6 o) ?_
  obtain ⟨bi,bj,c⟩:=zC c
  refine zF (zL (eQ (a:=bg) (b:=o) rfl rfl) bj)<| zF (zY (v:= .bool bi) rfl rfl) ?_
  obtain rfl:=gI c
  exact (zQ (zG (meet ⟨(),(zJ rfl zK),H.pick [2,4]⟩)))
 rintro _ ρ cf H
 have c:=a9
 refine yB (b:=I) rfl (fun B=>?_) (fun B=>?_)
 ·have c:=zT B c
  refine zB fun cg bk=>zA<| zF (dB (cs:=[i6 0,i6 0,i6 0]) bz46)<| yZ rfl (yN (vs:=[i6 0,i6 0,i6 0]) H 0 rfl bF rfl rfl rfl ⟨rfl,rfl,rfl,trivial⟩ rfl) ?_
  rintro ch H
  refine zI (.bool false)<| RN bk ?_
  obtain rfl:=gI c
  refine (zW (zV (pF (v1:= .bool false) rfl rfl (yX kW bF rfl (Hbc H 0 rfl)) rfl ?_)))
  exact ⟨rfl,H.pick []⟩
 have c:=zU B c
 refine zS (zG (a8 _ _ ?_))
 refine zB fun ci bl=>zA<| zF (yK (yH (cs:=[i6 d.At,i6 d.N,i6 d.Mark]) kW rfl bF rfl (Hbc H 1 rfl)) rfl)<| yZ rfl (yN (vs:=[i6 d.At,i6 d.N,i6 d.Mark]) H 0 rfl bF rfl rfl rfl ⟨rfl,rfl,rfl,trivial⟩ rfl) ?_
 rintro cj H
 refine zI (.bool true)<| RN bl ?_
 obtain rfl:=gI c
 refine (zW (pF (v1:= .bool true) rfl rfl (yX kW bF rfl (Hbc H 0 rfl)) rfl ?_))
 exact ⟨rfl,H.pick []⟩
theorem Fanw (d:Int)(j:Int)(r:fC)(c:Fan d j=some r)(O S:List Nat)(w:World)(H:Hd O w w S []):
  Cl 52 [i6 d,i6 j] w fun e m=>e= .returned (.agg [.bool r.neg,.int .u64 r.high,.int .u64 r.low].toArray)∧Hd O w m S []:=by
 unfold Fan at c
 refine CW 25 Tryz.func52 ?_
 refine zB fun I n=>zA<| yQ rfl rfl (xB aAr H) ?_
 rintro _ J ⟨o,rfl,H⟩
 refine RN n<| zB fun K p=>zA<| zH (i6 d) ?_
 obtain ⟨f,q,c⟩:=zC c
 refine zF (zL (xC (a:=d) (b:=0) rfl rfl) q)<| zI (.bool f)<| RN p ?_
 obtain ⟨l,c,s⟩:=zD c
 refine yL [0,10,11,12] (fun (g:Unit)=>[(0,i6 l)]) (fun g wl=>Hd O w wl S [.blk o [.bool false,.int .u64 0,.int .u64 0] 98]) ?_ ?_
 ·skip
  refine zB fun L t=>zA<| zH (.bool f)<| RN t<| yB (b:=f) rfl (fun k=>?_) (fun k=>?_)
  ·have c:=zT k c
   refine zA ?_
   refine zH (i6 d) ?_
   obtain ⟨u,x,c⟩:=zC c
   refine zF (aCm (a:=d) rfl x)<| zI (i6 u) ?_
   obtain rfl:=gI c
   exact (zQ (zG (meet ⟨(),(zJ rfl zK),H.pick [0]⟩)))
  have c:=zU k c
  obtain rfl:=gI c
  exact (zS (zG (meet ⟨(),(zJ rfl zK),H.pick [0]⟩)))
 rintro _ ρ M H
 have c:=s
 refine zB fun N y=>zA<| zH (i6 l) ?_
 obtain ⟨z,A,c⟩:=zC c
 refine zF (aW u3 u96 rfl A)<| zH (i6 j) ?_
 obtain ⟨B,C,c⟩:=zC c
 refine zF (aW u3 u96 rfl C) ?_
 have D:=H
 obtain ⟨⟨h,i⟩,E,c⟩:=zD c
 refine zO rfl rfl (zM en73 rfl) (Faqw z B _ E _ _ _ (H.enter [] [])) ?_
 rintro _ P ⟨rfl,F⟩
 have H:=D.step (F.only:Only [] _ _)
 refine ⟨_,rfl,?_⟩
 refine zH (.tuple #[.int .u64 h,.int .u64 i])<| zF (yP (v:= .int .u64 h) rfl rfl)<| zF (yP (v:= .int .u64 i) rfl rfl)<| zI (.int .u64 h)<| zI (.int .u64 i)<| RN y<| zB fun Q G=>zA<| zH (.bool f)<| zH (.int .u64 h)<| zH (.int .u64 i)<| zF (dB (cs:=[.bool f,.int .u64 h,.int .u64 i]) (pM _ _ _)) ?_
 refine yZ rfl (yN (vs:=[.bool f,.int .u64 h,.int .u64 i]) H 0 rfl nU rfl rfl rfl ⟨rfl,rfl,rfl,trivial⟩ rfl) ?_
 rintro R H
 refine RN G ?_
 obtain rfl:=gI c
 refine (zW (jL rfl rfl (yX qW nU rfl (Hbc H 0 rfl)) ?_))
 exact ⟨rfl,H.pick []⟩
theorem Faow (d:fC)(f:fC)(r:Bool)(c:Fao d f=some r)(O S:List Nat)(w:World)(H:Hd O w w S []):
  Cl 53 [.agg [.bool d.neg,.int .u64 d.high,.int .u64 d.low].toArray,.agg [.bool f.neg,.int .u64 f.high,.int .u64 f.low].toArray] w fun e l=>e= .returned (.bool r)∧Hd O w l S []:=by
 unfold Fao at c
 refine CW 24 Tryz.func53 ?_
 refine zB fun u m=>zA<| yQ rfl rfl (xQ (cs:=[.bool d.neg,.int .u64 d.high,.int .u64 d.low]) rfl H) ?_
 rintro _ x ⟨y,rfl,H⟩
 refine yQ rfl rfl (xQ (cs:=[.bool f.neg,.int .u64 f.high,.int .u64 f.low]) rfl H) ?_
 rintro _ z ⟨A,rfl,H⟩
 refine zI (.bool false)<| RN m ?_
 obtain ⟨k,c,n⟩:=zD c
 refine yL [4,5,6,7,8,9,10,11,12,13,14,15,16,17,18,19,20,21,22,23] (fun (g:Unit)=>[(4,.bool k)]) (fun g wl=>Hd O w wl S []) ?_ ?_
 ·skip
  refine zA ?_
  refine zF (mY rfl)<| Ld kG H 0 1 rfl rfl<| zF (mY rfl)<| Ld kG H 1 1 rfl rfl ?_
  obtain ⟨o,p,c⟩:=zC c
  refine zF (zL (eQ (a:=d.high) (b:=f.high) rfl rfl) p)<| yR (b:=o) rfl rfl rfl (fun h=>?_) (fun h=>?_)
  ·have c:=zT h c
   refine yC ?_
   refine yC ?_
   refine yC ?_
   refine yC ?_
   refine yC ?_
   refine yC ?_
   refine yC ?_
   refine yC ?_
   refine yC ?_
   refine yC ?_
   refine yC ?_
   refine yC ?_
   refine zF (yD (v:= .bool true) rfl rfl)<| zI (.bool true) ?_
   obtain rfl:=gI c
   exact (zQ (zG (meet ⟨(),(zJ rfl zK),H.pick []⟩)))
  have c:=zU h c
  refine zF (mY rfl)<| Ld kG H 0 1 rfl rfl<| zF (mY rfl)<| Ld kG H 1 1 rfl rfl ?_
  obtain ⟨q,s,c⟩:=zC c
  refine zF (zL (xW (a:=d.high) (b:=f.high) rfl rfl) s)<| yR (b:=q) rfl rfl rfl (fun i=>?_) (fun i=>?_)
  ·have c:=zT i c
   refine zF (rU rfl)<| Ld kG H 0 2 rfl rfl<| zF (rU rfl)<| Ld kG H 1 2 rfl rfl ?_
   obtain ⟨j,t,c⟩:=zC c
   refine zF (zL (eQ (a:=d.low) (b:=f.low) rfl rfl) t)<| zF (yD (v:= .bool j) rfl rfl)<| zF (zY (v:= .bool j) rfl rfl)<| zI (.bool j) ?_
   obtain rfl:=gI c
   exact (zQ (zG (meet ⟨(),(zJ rfl zK),H.pick []⟩)))
  have c:=zU i c
  refine yC ?_
  refine yC ?_
  refine yC ?_
  refine yC ?_
  refine yC ?_
  refine zF (zY (v:= .bool false) rfl rfl)<| zF (zY (v:= .bool false) rfl rfl)<| zI (.bool false) ?_
  obtain rfl:=gI c
  exact (zQ (zG (meet ⟨(),(zJ rfl zK),H.pick []⟩)))
 rintro _ ρ B H
 have c:=n
 obtain rfl:=gI c
 refine (zW (gZ (v1:= .bool k) rfl rfl ?_))
 exact ⟨rfl,H.pick []⟩
theorem Fbgw (c:fC)(d:fC)(r:fC)(a:Fbg c d=some r)(O S:List Nat)(w:World)(H:Hd O w w S []):
  Cl 54 [.agg [.bool c.neg,.int .u64 c.high,.int .u64 c.low].toArray,.agg [.bool d.neg,.int .u64 d.high,.int .u64 d.low].toArray] w fun e y=>e= .returned (.agg [.bool r.neg,.int .u64 r.high,.int .u64 r.low].toArray)∧Hd O w y S []:=by
 unfold Fbg at a
 refine CW 71 Tryz.func54 ?_
 refine zB fun K1 z=>zA<| yQ rfl rfl (xQ (cs:=[.bool c.neg,.int .u64 c.high,.int .u64 c.low]) rfl H) ?_
 rintro _ w4 ⟨A,rfl,H⟩
 refine yQ rfl rfl (xQ (cs:=[.bool d.neg,.int .u64 d.high,.int .u64 d.low]) rfl H) ?_
 rintro _ w7 ⟨B,rfl,H⟩
 refine yQ rfl rfl (xB aAr H) ?_
 rintro _ ah ⟨C,rfl,H⟩
 refine RN z<| zB fun ai D=>zA<| zF (rV rfl)<| Ld jS H 1 0 rfl rfl ?_
 obtain ⟨h,F,a⟩:=zC a
 refine zF (zL (xX (p:=d.neg) rfl) F)<| zF (rV rfl)<| yZ rfl (xP H 1 rfl sz4 rfl (v:= .bool h) rfl rfl rfl) ?_
 rintro aj H
 refine RN D<| zB fun ak G=>zB fun al I=>zA<| zF (rV rfl)<| Ld jS H 0 0 rfl rfl<| zF (rV rfl)<| Ld jS H 1 0 rfl rfl ?_
 obtain ⟨J,K,a⟩:=zC a
 refine zF (zL (Do_eqlb (p:=c.neg) (q:=h) u4 rfl rfl) K)<| RN I<| yB (b:=J) rfl (fun o=>?_) (fun o=>?_)
 ·have a:=zT o a
  refine zB fun am L=>zA<| zF (rU rfl)<| Ld kG H 0 2 rfl rfl<| zF (rU rfl)<| Ld kG H 1 2 rfl rfl ?_
  obtain ⟨⟨i,m⟩,M,a⟩:=zD a
  refine zF (E.Feh M rfl)<| zH (.tuple #[.int .u64 i,.int .u64 m])<| zF (yP (v:= .int .u64 i) rfl rfl)<| zF (yP (v:= .int .u64 m) rfl rfl)<| zI (.int .u64 i)<| zI (.int .u64 m)<| RN L<| zB fun an N=>zA<| zF (mY rfl)<| Ld kG H 0 1 rfl rfl<| zF (mY rfl)<| Ld kG H 1 1 rfl rfl<| zH (.int .u64 m) ?_
  obtain ⟨⟨j,s⟩,P,a⟩:=zD a
  refine zF (E.Feh P rfl)<| zH (.tuple #[.int .u64 j,.int .u64 s])<| zF (yP (v:= .int .u64 j) rfl rfl)<| zF (yP (v:= .int .u64 s) rfl rfl)<| zI (.int .u64 j)<| zI (.int .u64 s)<| RN N<| zB fun ao Q=>zA<| zF (rV rfl)<| Ld jS H 0 0 rfl rfl<| zH (.int .u64 j)<| zH (.int .u64 i)<| zF (dB (cs:=[.bool c.neg,.int .u64 j,.int .u64 i]) (pM _ _ _)) ?_
  refine yZ rfl (yN (vs:=[.bool c.neg,.int .u64 j,.int .u64 i]) H 2 rfl nU rfl rfl rfl ⟨rfl,rfl,rfl,trivial⟩ rfl) ?_
  rintro ap H
  refine RN Q ?_
  obtain rfl:=gI a
  refine (zW (zV (jL rfl rfl (yX qW nU rfl (Hbc H 2 rfl)) ?_)))
  exact ⟨rfl,H.pick []⟩
 have a:=zU o a
 refine zS (zG (G _ _ ?_))
 obtain ⟨f,a,R⟩:=zD a
 refine yL [44,45,46,47,48] (fun (g:Unit)=>[]) (fun g wl=>Hd O w wl S [.blk A [.bool f.1,.int .u64 f.2.1,.int .u64 f.2.2.1] 98,.blk B [.bool f.2.2.2.1,.int .u64 f.2.2.2.2.1,.int .u64 f.2.2.2.2.2] 98,.blk C [.bool false,.int .u64 0,.int .u64 0] 98]) ?_ ?_
 ·skip
  refine zB fun aq T=>zA<| zF (yK (yH (cs:=[.bool h,.int .u64 d.high,.int .u64 d.low]) qW rfl nU rfl (Hbc H 1 rfl)) rfl)<| zF (yK (yH (cs:=[.bool c.neg,.int .u64 c.high,.int .u64 c.low]) qW rfl nU rfl (Hbc H 0 rfl)) rfl) ?_
  have U:=H
  obtain ⟨V,X,a⟩:=zD a
  refine zO rfl rfl (zM en53 rfl) (Faow (fC.mk h d.high d.low) c _ X _ _ _ (H.enter [] [])) ?_
  rintro _ ar ⟨rfl,Y⟩
  have H:=U.step (Y.only:Only [] _ _)
  refine ⟨_,rfl,?_⟩
  refine RN T<| yB (b:=V) rfl (fun t=>?_) (fun t=>?_)
  ·have a:=zT t a
   refine zA ?_
   refine zF (yK (yH (cs:=[.bool h,.int .u64 d.high,.int .u64 d.low]) qW rfl nU rfl (Hbc H 1 rfl)) rfl)<| zF (yK (yH (cs:=[.bool c.neg,.int .u64 c.high,.int .u64 c.low]) qW rfl nU rfl (Hbc H 0 rfl)) rfl)<| yZ rfl (yN (vs:=[.bool h,.int .u64 d.high,.int .u64 d.low]) H 0 rfl nU rfl rfl rfl ⟨rfl,rfl,rfl,trivial⟩ rfl) ?_
   rintro au H
   refine yZ rfl (yN (vs:=[.bool c.neg,.int .u64 c.high,.int .u64 c.low]) H 1 rfl nU rfl rfl rfl ⟨rfl,rfl,rfl,trivial⟩ rfl) ?_
   rintro av H
   obtain rfl:=gI a
   exact (zQ (zG (meet ⟨(),zK,H.pick [0,1,2]⟩)))
  have a:=zU t a
  obtain rfl:=gI a
  exact (zS (zG (meet ⟨(),zK,H.pick [0,1,2]⟩)))
 rintro _ ρ aw H
 have a:=R
 obtain ⟨x,ax,ay,az,a0,a1⟩:=f
 refine zB fun a2 Z=>zA<| zF (rU rfl)<| Ld kG H 0 2 rfl rfl<| zF (rU rfl)<| Ld kG H 1 2 rfl rfl ?_
 obtain ⟨⟨k,n⟩,aa,a⟩:=zD a
 refine zF (E.Feg aa rfl)<| zH (.tuple #[.int .u64 k,.int .u64 n])<| zF (yP (v:= .int .u64 k) rfl rfl)<| zF (yP (v:= .int .u64 n) rfl rfl)<| zI (.int .u64 k)<| zI (.int .u64 n)<| RN Z<| zB fun a3 ab=>zA<| zF (mY rfl)<| Ld kG H 0 1 rfl rfl<| zF (mY rfl)<| Ld kG H 1 1 rfl rfl<| zH (.int .u64 n) ?_
 obtain ⟨⟨l,u⟩,ac,a⟩:=zD a
 refine zF (E.Feg ac rfl)<| zH (.tuple #[.int .u64 l,.int .u64 u])<| zF (yP (v:= .int .u64 l) rfl rfl)<| zF (yP (v:= .int .u64 u) rfl rfl)<| zI (.int .u64 l)<| zI (.int .u64 u)<| RN ab<| zB fun a4 ad=>zA<| zF (rV rfl)<| Ld jS H 0 0 rfl rfl<| zH (.int .u64 l)<| zH (.int .u64 k)<| zF (dB (cs:=[.bool x,.int .u64 l,.int .u64 k]) (pM _ _ _)) ?_
 refine yZ rfl (yN (vs:=[.bool x,.int .u64 l,.int .u64 k]) H 2 rfl nU rfl rfl rfl ⟨rfl,rfl,rfl,trivial⟩ rfl) ?_
 rintro a5 H
 refine RN ad ?_
 obtain rfl:=gI a
 refine (zW (jL rfl rfl (yX qW nU rfl (Hbc H 2 rfl)) ?_))
 exact ⟨rfl,H.pick []⟩
theorem Faiw (f:Int)(g:Int)(h:Int)(d:Int)(i:Int)(r:Bool)(a:Fai f g h d i=some r)(O S:List Nat)(w:World)(H:Hd O w w S []):
  Cl 27 [i6 f,i6 g,i6 h,i6 d,i6 i] w fun e k=>e= .returned (.bool r)∧Hd O w k S []:=by
 unfold Fai at a
 refine CW 26 Tryz.func27 ?_
 refine zB fun I l=>zA<| zI (.bool false)<| RN l<| zB fun J m=>zA<| zH (i6 f)<| zH (i6 d) ?_
 have n:=H
 obtain ⟨b,o,a⟩:=zD a
 refine zO rfl rfl (zM en52 rfl) (Fanw f d _ o _ _ _ (H.enter [] [])) ?_
 rintro _ K ⟨rfl,p⟩
 have H:=n.step (p.only:Only [] _ _)
 refine ⟨_,rfl,?_⟩
 refine zH (i6 h)<| zH (i6 g) ?_
 have q:=H
 obtain ⟨c,s,a⟩:=zD a
 refine zO rfl rfl (zM en52 rfl) (Fanw h g _ s _ _ _ (H.enter [] [])) ?_
 rintro _ L ⟨rfl,t⟩
 have H:=q.step (t.only:Only [] _ _)
 refine ⟨_,rfl,?_⟩
 refine yQ rfl rfl (xB aAr H) ?_
 rintro _ M ⟨N,rfl,H⟩
 refine yQ rfl rfl (xB aAr H) ?_
 rintro _ P ⟨Q,rfl,H⟩
 refine yZ rfl (yN (vs:=[.bool b.neg,.int .u64 b.high,.int .u64 b.low]) H 0 rfl nU rfl rfl rfl ⟨rfl,rfl,rfl,trivial⟩ rfl) ?_
 rintro R H
 refine yZ rfl (yN (vs:=[.bool c.neg,.int .u64 c.high,.int .u64 c.low]) H 1 rfl nU rfl rfl rfl ⟨rfl,rfl,rfl,trivial⟩ rfl) ?_
 rintro T H
 refine RN m<| zB fun U u=>zA<| zF (yK (yH (cs:=[.bool b.neg,.int .u64 b.high,.int .u64 b.low]) qW rfl nU rfl (Hbc H 0 rfl)) rfl)<| zF (yK (yH (cs:=[.bool c.neg,.int .u64 c.high,.int .u64 c.low]) qW rfl nU rfl (Hbc H 1 rfl)) rfl) ?_
 have v:=H
 obtain ⟨x,y,a⟩:=zD a
 refine zO rfl rfl (zM en54 rfl) (Fbgw b c _ y _ _ _ (H.enter [] [])) ?_
 rintro _ V ⟨rfl,z⟩
 have H:=v.step (z.only:Only [] _ _)
 refine ⟨_,rfl,?_⟩
 refine zH (i6 i)<| zH (i6 d) ?_
 have A:=H
 obtain ⟨B,C,a⟩:=zD a
 refine zO rfl rfl (zM en52 rfl) (Fanw i d _ C _ _ _ (H.enter [] [])) ?_
 rintro _ X ⟨rfl,D⟩
 have H:=A.step (D.only:Only [] _ _)
 refine ⟨_,rfl,?_⟩
 have E:=H
 obtain ⟨j,F,a⟩:=zD a
 refine zO rfl rfl (zM en53 rfl) (Faow x B _ F _ _ _ (H.enter [] [])) ?_
 rintro _ Y ⟨rfl,G⟩
 have H:=E.step (G.only:Only [] _ _)
 refine ⟨_,rfl,?_⟩
 refine zI (.bool j)<| RN u ?_
 obtain rfl:=gI a
 refine (zW (gZ (v1:= .bool j) rfl rfl ?_))
 exact ⟨rfl,H.pick []⟩
set_option maxRecDepth 100000 in
theorem Fbfw (m:List gW)(s:List Twins)(C:Int)(D:Int)(v1:Value)(j:Value)(r:(List fE)×Int)(c:Fbf m s C D=some r)(O S:List Nat)(w:World)(H:Hd O w w S [f1 fH v1 m,f1 dD j s]):
  Cl 7 [v1,j,i6 C,i6 D] w fun e k=> ∃u5,e= .returned (.tuple #[u5,i6 r.2])∧Hd O w k S [.own fV u5 64 r.1]:=by
 unfold Fbf at c
 refine CW 167 Tryz.func7 ?_
 refine zB fun K6 bd=>zA<| zI (.slice none 0 0)<| zI (i6 0)<| RN bd<| zB fun ha be=>zB fun hb bf=>zA<| zH v1 ?_
 have bg:=H
 obtain ⟨E,bh,c⟩:=zD c
 refine zO rfl rfl (zM en22 rfl) (Fa4w m v1 _ bh _ _ _ (H.enter [] [0])) ?_
 rintro _ hc ⟨rfl,bi⟩
 have H:=bg.step (bi.only:Only [] _ _)
 refine ⟨_,rfl,?_⟩
 refine zI (i6 E)<| RN bf<| zB fun he bj=>zA<| zH (i6 E) ?_
 obtain ⟨bk,bl,c⟩:=zC c
 refine zF (zL (dJ (a:=E) (b:=0) rfl rfl) bl)<| RN bj<| yB (b:=bk) rfl (fun Q=>?_) (fun Q=>?_)
 ·have c:=zT Q c
  refine zB fun hf bm=>zA<| zH (i6 E)<| zI (.slice none 0 0)<| zI (i6 E)<| RN bm ?_
  have H:=dL H fV 64
  obtain rfl:=gI c
  refine (zW (zV (cZ (v1:= .slice none 0 0) (v2:=i6 E) rfl rfl rfl ?_)))
  exact ⟨.slice none 0 0,rfl,H.pick [2]⟩
 have c:=zU Q c
 refine zS (zG (be _ _ ?_))
 refine zB fun hg bn=>?_
 refine zB fun hh bo=>zA<| zH j ?_
 obtain ⟨bp,bq,c⟩:=zC c
 obtain ⟨hi,hj,br⟩:=SlF.len ((H.item (i:=1) rfl))
 refine zF (yK (xI u23 br) (congrArg (Value.int .i64) bq)) ?_
 obtain ⟨bt,bu,c⟩:=zC c
 refine zF (zL (eQ (a:=bp) (b:=30) rfl rfl) bu)<| RN bo<| yB (b:=bt) rfl (fun R=>?_) (fun R=>?_)
 ·have c:=zT R c
  refine zB fun hk bv=>zA<| zI (.slice none 0 0)<| zI (i6 3)<| RN bv ?_
  have H:=dL H fV 64
  obtain rfl:=gI c
  refine (zW (zV (cZ (v1:= .slice none 0 0) (v2:=i6 3) rfl rfl rfl ?_)))
  exact ⟨.slice none 0 0,rfl,H.pick [2]⟩
 have c:=zU R c
 refine zS (zG (bn _ _ ?_))
 obtain ⟨bw,bx,c⟩:=xM c
 refine yL [8,9,11,32,33,34,35,36,37,38,39,40,41,42,43,44,45,46,47,48,49,50,51,52,53,54,55,56,57,58,59,60,61] (fun (g:Unit)=>[]) (fun g wl=>Hd O w wl S [f1 fH v1 m,f1 dD j s]∧bw ()=some r) ?_ ?_
 ·skip
  refine zB fun hl bz=>zA<| zI (i6 0)<| RN bz<| yA ?_
  unfold Fck at c
  obtain ⟨b0,au,b1,c⟩:=yM c
  refine xA [8,9,11,32,33,34,35,36,37,38,39,40,41,42,43,44,45,46,47,48,49,50,51,52,53,54,55,56,57,58,59,60,61] (fun (g:Nat×Int)=>[(11,i6 g.2)]) (fun g wl=>Hd O w wl S [f1 fH v1 m,f1 dD j s]∧fJ b0 g.1 g.2=some r) (fun g=>g.1) (au,0) (zJ rfl zK) ⟨H.pick [0,1],c⟩ ?_
  clear H c
  rintro ⟨au,t⟩ ρ hn ⟨H,c⟩
  obtain ⟨b2,rfl,c⟩:=yS c
  have c:=yT b1 c
  refine zB fun ho b3=>?_
  refine zB fun hp b4=>zA<| zH (i6 t)<| zH j ?_
  obtain ⟨b5,b6,c⟩:=zC c
  obtain ⟨hq,hr,b7⟩:=SlF.len ((H.item (i:=1) rfl))
  refine zF (yK (xI u23 b7) (congrArg (Value.int .i64) b6)) ?_
  obtain ⟨b8,b9,c⟩:=zC c
  refine zF (zL (xC (a:=t) (b:=b5) rfl rfl) b9)<| RN b4<| yB (b:=b8) rfl (fun T=>?_) (fun T=>?_)
  ·have c:=zT T c
   refine zS (zG (b3 _ _ ?_))
   refine zB fun hs ca=>?_
   refine yA ?_
   refine zB fun ht cb=>?_
   obtain ⟨av,c,cc⟩:=zD c
   refine yL [38,39,40,41,42,43,44,45,46,47,48,49,50,51,52,53,54,55] (fun (g:Unit)=>[(55,.bool av)]) (fun g wl=>Hd O w wl S [f1 fH v1 m,f1 dD j s]) ?_ ?_
   ·skip
    refine zA ?_
    refine zH v1<| zH j<| zH (i6 t) ?_
    obtain ⟨cd,U,c⟩:=zD c
    obtain ⟨ce,cf,hu,hv,cg,ch,ci,cj,ck⟩:=fQ (H.item (i:=1) rfl) U
    obtain rfl:=dZ ch
    have H:=H.fz (.at ce (cf+t.toNat * 3) _) ⟨ci,cj,ck⟩
    refine zF (xG u23 sN cg rfl (zZ U).1 (zZ U).2.1 rfl rfl)<| zF (wW rfl)<| zF (xO dW rfl (Cells.get (H.item (i:=2) rfl).2.2 (i:=0) rfl)) ?_
    have cl:=H
    obtain ⟨cm,cn,c⟩:=zD c
    refine zO rfl rfl (zM en23 rfl) (Falw m cd.A v1 _ cn _ _ _ (H.enter [] [0])) ?_
    rintro _ hw ⟨rfl,co⟩
    have H:=cl.step (co.only:Only [] _ _)
    refine ⟨_,rfl,?_⟩
    obtain ⟨cp,cq,c⟩:=zC c
    refine zF (zL (xC (a:=cm) (b:=0) rfl rfl) cq)<| yR (b:=cp) rfl rfl rfl (fun V=>?_) (fun V=>?_)
    ·have c:=zT V c
     refine yC ?_
     refine yC ?_
     refine yC ?_
     refine yC ?_
     refine yC ?_
     refine yC ?_
     refine yC ?_
     refine yC ?_
     refine zF (yD (v:= .bool true) rfl rfl) ?_
     obtain rfl:=gI c
     exact (zQ (zG (meet ⟨(),(zJ rfl zK),H.pick [0,1]⟩)))
    have c:=zU V c
    refine zH v1<| zH j<| zH (i6 t) ?_
    obtain ⟨cr,X,c⟩:=zD c
    obtain ⟨ct,cu,hx,hy,cv,cw,cx,cy,cz⟩:=fQ (H.item (i:=1) rfl) X
    obtain rfl:=dZ cw
    have H:=H.fz (.at ct (cu+t.toNat * 3) _) ⟨cx,cy,cz⟩
    refine zF (xG u23 sN cv rfl (zZ X).1 (zZ X).2.1 rfl rfl)<| zF (aAm rfl)<| zF (xO dW rfl (Cells.get (H.item (i:=3) rfl).2.2 (i:=1) rfl)) ?_
    have c0:=H
    obtain ⟨c1,c2,c⟩:=zD c
    refine zO rfl rfl (zM en23 rfl) (Falw m cr.B v1 _ c2 _ _ _ (H.enter [] [0])) ?_
    rintro _ hz ⟨rfl,c3⟩
    have H:=c0.step (c3.only:Only [] _ _)
    refine ⟨_,rfl,?_⟩
    obtain ⟨c4,c5,c⟩:=zC c
    refine zF (zL (xC (a:=c1) (b:=0) rfl rfl) c5)<| zF (zY (v:= .bool c4) rfl rfl) ?_
    obtain rfl:=gI c
    exact (zQ (zG (meet ⟨(),(zJ rfl zK),H.pick [0,1]⟩)))
   rintro _ ρ h0 H
   have c:=cc
   refine yB (b:=av) rfl (fun Y=>?_) (fun Y=>?_)
   ·have c:=zT Y c
    refine zB fun h1 c6=>zA<| zI (.slice none 0 0)<| zI (i6 4)<| RN c6 ?_
    have H:=dL H fV 64
    obtain rfl:=gI c
    refine (zW (zV (yJ (zV (zV (yJ (zV (cZ (v1:= .slice none 0 0) (v2:=i6 4) rfl rfl rfl ?_))))))))
    exact ⟨.slice none 0 0,rfl,H.pick [2]⟩
   have c:=zU Y c
   refine zS (zG (cb _ _ ?_))
   refine zB fun h2 c7=>zA<| zH j<| zH (i6 t) ?_
   obtain ⟨c8,Z,c⟩:=zD c
   obtain ⟨c9,da,h3,h4,db,dc,dd,de,df⟩:=fQ (H.item (i:=1) rfl) Z
   obtain rfl:=dZ dc
   have H:=H.fz (.at c9 (da+t.toNat * 3) _) ⟨dd,de,df⟩
   refine zF (xG u23 sN db rfl (zZ Z).1 (zZ Z).2.1 rfl rfl)<| zF (aAj rfl)<| zF (xO fK rfl (Cells.get (H.item (i:=2) rfl).2.2 (i:=2) rfl)) ?_
   have dg:=H
   obtain ⟨dh,di,c⟩:=zD c
   refine zO rfl rfl (zM en24 rfl) (Fbow c8.Most 0 1125899906842624 _ di _ _ _ (H.enter [] [])) ?_
   rintro _ h5 ⟨rfl,dj⟩
   have H:=dg.step (dj.only:Only [] _ _)
   refine ⟨_,rfl,?_⟩
   refine RN c7<| yB (b:=dh) rfl (fun aa=>?_) (fun aa=>?_)
   ·have c:=zT aa c
    refine zB fun h6 dk=>zA<| zI (.slice none 0 0)<| zI (i6 9)<| RN dk ?_
    have H:=dL H fV 64
    obtain rfl:=gI c
    refine (zW (yJ (zV (zV (yJ (zV (cZ (v1:= .slice none 0 0) (v2:=i6 9) rfl rfl rfl ?_)))))))
    exact ⟨.slice none 0 0,rfl,H.pick [3]⟩
   have c:=zU aa c
   refine (zS (yV (zG (ca _ _ ?_))))
   refine zA ?_
   refine zH (i6 t) ?_
   obtain ⟨aw,dl,c⟩:=zC c
   refine zF (xN (a:=t) (b:=1) rfl rfl dl)<| zI (i6 aw) ?_
   exact (zQ (zG (meet ⟨(b2,aw),(zJ rfl zK),⟨H.pick [0,1],c⟩,Nat.lt_succ_self _⟩)))
  have c:=zU T c
  exact (xH (yI (yI (yU (zG (meet ⟨(),zK,⟨H.pick [0,1],c⟩⟩))))))
 rintro _ ρ h7 ⟨H,c⟩
 have c:=xR bx c
 refine zB fun h8 dm=>?_
 refine zB fun h9 dn=>zA<| zH (i6 C)<| zH (i6 D) ?_
 have dp:=H
 obtain ⟨F,dq,c⟩:=zD c
 refine zO rfl rfl (zM en25 rfl) (Fbbw C D 20000 _ dq _ _ _ (H.enter [] [])) ?_
 rintro _ ia ⟨rfl,dr⟩
 have H:=dp.step (dr.only:Only [] _ _)
 refine ⟨_,rfl,?_⟩
 refine zI (i6 F)<| RN dn<| zB fun ib ds=>zA<| zH (i6 F) ?_
 obtain ⟨dt,du,c⟩:=zC c
 refine zF (zL (dJ (a:=F) (b:=0) rfl rfl) du)<| RN ds<| yB (b:=dt) rfl (fun ab=>?_) (fun ab=>?_)
 ·have c:=zT ab c
  refine zB fun id dv=>zA<| zH (i6 F)<| zI (.slice none 0 0)<| zI (i6 F)<| RN dv ?_
  have H:=dL H fV 64
  obtain rfl:=gI c
  refine (zW (zV (cZ (v1:= .slice none 0 0) (v2:=i6 F) rfl rfl rfl ?_)))
  exact ⟨.slice none 0 0,rfl,H.pick [2]⟩
 have c:=zU ab c
 refine zS (zG (dm _ _ ?_))
 refine zB fun ie dw=>zA<| zI (.slice none 0 0)<| RN dw ?_
 obtain ⟨ax,c,dx⟩:=zD c
 refine yL [13,14,15,16,17,18,19,20,21,22,23,68,69,70,71,72,73,74,75,76,77,78,79,80,81,82,83,84,85,86,87,88,89,90,91,92,93,94,95,96,97,98,99,100,101,102,103,104,105,106,107,108,109,110,111,112,113,114,115,116,117,118,119,120,121,122,123,124,125,126,127,128,129,130,131,132,133,134,135,136,137,138,139,140,141,142,143,144,145,146,147,148,149,150,151,152,153,154,155,156,157,158,159,160,161,162,163,164,165] (fun (g:Value)=>[(13,g)]) (fun g wl=>Hd O w wl S [.own fV g 64 ax]) ?_ ?_
 ·skip
  refine zB fun ig dy=>zA<| zI (i6 0)<| RN dy<| yA ?_
  have H:=dL H fV 64
  unfold Fcc at c
  obtain ⟨dz,ay,d0,c⟩:=yM c
  refine xA [13,14,15,16,17,18,19,20,21,22,23,68,69,70,71,72,73,74,75,76,77,78,79,80,81,82,83,84,85,86,87,88,89,90,91,92,93,94,95,96,97,98,99,100,101,102,103,104,105,106,107,108,109,110,111,112,113,114,115,116,117,118,119,120,121,122,123,124,125,126,127,128,129,130,131,132,133,134,135,136,137,138,139,140,141,142,143,144,145,146,147,148,149,150,151,152,153,154,155,156,157,158,159,160,161,162,163,164,165] (fun (g:Nat×(List fE)×Int×Value)=>[(13,g.2.2.2),(14,i6 g.2.2.1)]) (fun g wl=>Hd O w wl S [.own fV g.2.2.2 64 g.2.1,f1 fH v1 m,f1 dD j s]∧fJ dz g.1 (g.2.1,g.2.2.1)=some ax) (fun g=>g.1) (ay,[],0,.slice none 0 0) (zJ rfl (zJ rfl zK)) ⟨H.pick [2,0,1],c⟩ ?_
  clear H c
  rintro ⟨ay,d1,n,az⟩ ρ a0 ⟨H,c⟩
  obtain ⟨d2,rfl,c⟩:=yS c
  have c:=yT d0 c
  refine zB fun ih d3=>?_
  refine zB fun ii d4=>zA<| zH (i6 n)<| zH j ?_
  obtain ⟨d5,d6,c⟩:=zC c
  obtain ⟨ij,ik,d7⟩:=SlF.len ((H.item (i:=2) rfl))
  refine zF (yK (xI u23 d7) (congrArg (Value.int .i64) d6)) ?_
  obtain ⟨d8,d9,c⟩:=zC c
  refine zF (zL (xC (a:=n) (b:=d5) rfl rfl) d9)<| RN d4<| yB (b:=d8) rfl (fun ac=>?_) (fun ac=>?_)
  ·have c:=zT ac c
   refine zS (zG (d3 _ _ ?_))
   obtain ⟨ad,c,ea⟩:=zD c
   refine yL [13,15,16,17,18,19,20,21,22,23,74,75,76,77,78,79,80,81,82,83,84,85,86,87,88,89,90,91,92,93,94,95,96,97,98,99,100,101,102,103,104,105,106,107,108,109,110,111,112,113,114,115,116,117,118,119,120,121,122,123,124,125,126,127,128,129,130,131,132,133,134,135,136,137,138,139,140,141,142,143,144,145,146,147,148,149,150,151,152,153,154,155,156,157,158,159,160,161,162,163,164,165] (fun (g:Value)=>[(13,g)]) (fun g wl=>Hd O w wl S [.own fV g 64 ad,f1 fH v1 m,f1 dD j s]) ?_ ?_
   ·skip
    refine yA ?_
    refine zB fun il eb=>?_
    have ec:=H
    have H:=H.rebase
    have ed:=H
    have im:=H.firm (i:=1) rfl
    refine aAp H [0,1,2,3,4,5,6,7,8,9,10,11,12,13,14,15,16,17,18,19,20,21,22,23] [.pure,.pure,.pure,.pure,.pure,.pure,.read,.read,.pure,.read,.pure,.pure,.pure,.pure,.pure,.pure,.read,.read,.pure,.pure,.mk (World.heap a0).size,.mk (World.heap a0).size,.eff,.eff] ⟨trivial,trivial,trivial,trivial,trivial,trivial,trivial,trivial,trivial,trivial,trivial,trivial,trivial,trivial,trivial,trivial,trivial,trivial,trivial,trivial,rfl,rfl,trivial,trivial,trivial⟩ mixed (by kernel_rfl) (by kernel_rfl) (by kernel_rfl) (by decide) ?_
    have H:=H.hm
    refine XM v1<| XM v1<| XM j<| XM (i6 n) ?_
    obtain ⟨ee,ae,c⟩:=zD c
    obtain ⟨ef,eg,io,ip,eh,ei,ej,ek,el⟩:=fQ (H.item (i:=2) rfl) ae
    obtain rfl:=dZ ei
    have H:=H.fz (.at ef (eg+n.toNat * 3) _) ⟨ej,ek,el⟩
    refine XP (fun _ _=>xG u23 sN eh rfl (zZ ae).1 (zZ ae).2.1 rfl rfl)<| XP (fun _ _=>wW rfl)<| MxM.XL_read oS rfl rfl rfl (fun k h=>xO dW rfl (Cells.get ((H.sees h).item (i:=3) rfl).2.2 (i:=0) rfl)) ?_
    have em:=H
    have H:=H.hd
    obtain ⟨a1,en,c⟩:=zD c
    refine MxM.XL_call oS rfl rfl rfl (v:=i6 a1) (fun k h=>zM en23 rfl) (fun k h=>aU (Falw m ee.A v1 _ en _ _ _ ((H.sees h).enter [] [1]))) ?_
    have H:=em
    obtain ⟨d,af,c⟩:=zD c
    obtain ⟨eo,ep,iq,ir,eq,er,es,et,eu⟩:=fQ (H.item (i:=1) rfl) af
    obtain ⟨o,rfl,ew⟩:=fZ er
    have H:=H.fzs [.at eo (ep+a1.toNat * 4) _,.sl gY o d.Series.Samples] ⟨⟨es,et,eu⟩,ew,trivial⟩
    refine XP (fun _ _=>xG u22 bQ eq rfl (zZ af).1 (zZ af).2.1 rfl rfl)<| MxM.XL_read oS rfl rfl rfl (fun k h=>yK (yH (cs:=[sb d.Name,i6 d.Series.Den,o,i6 d.Long]) mP rfl bQ rfl ((H.sees h).item (i:=4) rfl).2.2) rfl)<| XM v1<| XM v1<| XM j<| XM (i6 n) ?_
    obtain ⟨ex,ag,c⟩:=zD c
    obtain ⟨ey,ez,it,iu,e0,e1,e2,e3,e4⟩:=fQ (H.item (i:=2) rfl) ag
    obtain rfl:=dZ e1
    have H:=H.fz (.at ey (ez+n.toNat * 3) _) ⟨e2,e3,e4⟩
    refine XP (fun _ _=>xG u23 sN e0 rfl (zZ ag).1 (zZ ag).2.1 rfl rfl)<| XP (fun _ _=>aAm rfl)<| MxM.XL_read oS rfl rfl rfl (fun k h=>xO dW rfl (Cells.get ((H.sees h).item (i:=6) rfl).2.2 (i:=1) rfl)) ?_
    have e5:=H
    have H:=H.hd
    obtain ⟨a2,e6,c⟩:=zD c
    refine MxM.XL_call oS rfl rfl rfl (v:=i6 a2) (fun k h=>zM en23 rfl) (fun k h=>aU (Falw m ex.B v1 _ e6 _ _ _ ((H.sees h).enter [] [1]))) ?_
    have H:=e5
    obtain ⟨f,ah,c⟩:=zD c
    obtain ⟨e7,e8,iv,iw,e9,fa,fb,fc,fd⟩:=fQ (H.item (i:=1) rfl) ah
    obtain ⟨q,rfl,fe⟩:=fZ fa
    have H:=H.fzs [.at e7 (e8+a2.toNat * 4) _,.sl gY q f.Series.Samples] ⟨⟨fb,fc,fd⟩,fe,trivial⟩
    refine XP (fun _ _=>xG u22 bQ e9 rfl (zZ ah).1 (zZ ah).2.1 rfl rfl) ?_
    have ff:=ed.firmC (H.item (i:=7) rfl).1.1 (H.item (i:=7) rfl).2.1 (H.item (i:=7) rfl).2.2
    refine XP (fun k h=>yK (yH (cs:=[sb f.Name,i6 f.Series.Den,q,i6 f.Long]) mP rfl bQ rfl (ff k h)) rfl)<| H.alloc_rule rfl rfl rfl rfl rW ?_
    rintro I iy H
    refine H.alloc_rule rfl rfl rfl rfl rW ?_
    rintro J iz H
    have H:=H.hd
    refine MxM.XL_exU oS rfl rfl (fun k h=>yN (vs:=[sb d.Name,i6 d.Series.Den,o,i6 d.Long]) (H.sees h) 9 rfl bQ rfl rfl rfl ⟨rfl,rfl,(dK ((H.sees h).item (i:=5) rfl)),rfl,trivial⟩ rfl) ?_
    rintro k i0 h H
    refine ⟨H.only,?_⟩
    refine MxM.XL_exU oS rfl rfl (fun k h=>yN (vs:=[sb f.Name,i6 f.Series.Den,q,i6 f.Long]) (H.sees h) 10 rfl bQ rfl rfl rfl ⟨rfl,rfl,(dK ((H.sees h).item (i:=8) rfl)),rfl,trivial⟩ rfl) ?_
    rintro k i1 h H
    refine ⟨H.only,?_⟩
    refine MxM.XL_nil fun i2 hS=>?_
    have H:=H.sees hS
    have H:=ec.rejoin H
    refine (zG (eb _ _ ?_))
    refine zB fun i3 fg=>zA<| zI (.bool false)<| RN fg<| zB fun i4 fh=>zA<| zH (i6 C)<| zI (i6 C)<| RN fh<| yA ?_
    unfold Fb7 at c
    obtain ⟨fi,a3,fj,c⟩:=yM c
    refine xA [13,17,18,19,20,21,22,23,95,96,97,98,99,100,101,102,103,104,105,106,107,108,109,110,111,112,113,114,115,116,117,118,119,120,121,122,123,124,125,126,127,128,129,130,131,132,133,134,135,136,137,138,139,140,141,142,143,144,145,146,147,148,149,150,151,152,153,154,155,156,157,158,159,160,161,162,163,164,165] (fun (g:Nat×(List fE)×Bool×Int×Value)=>[(13,g.2.2.2.2),(17,.bool g.2.2.1),(18,i6 g.2.2.2.1)]) (fun g wl=>Hd O w wl S [.own fV g.2.2.2.2 64 g.2.1,f1 fH v1 m,f1 dD j s,f1 gY o d.Series.Samples,f1 gY q f.Series.Samples,.blk I [sb d.Name,i6 d.Series.Den,o,i6 d.Long] 41,.blk J [sb f.Name,i6 f.Series.Den,q,i6 f.Long] 41]∧fJ fi g.1 (g.2.1,g.2.2.1,g.2.2.2.1)=some ad) (fun g=>g.1) (a3,d1,false,C,az) (zJ rfl (zJ rfl (zJ rfl zK))) ⟨H.pick [0,1,2,5,8,9,10],c⟩ ?_
    clear H c
    rintro ⟨a3,a4,a5,l,K⟩ ρ i5 ⟨H,c⟩
    obtain ⟨fk,rfl,c⟩:=yS c
    have c:=yT fj c
    refine zB fun i7 fm=>?_
    refine zB fun i8 fn=>zA<| zH (i6 l)<| zH (i6 D) ?_
    obtain ⟨fo,fp,c⟩:=zC c
    refine zF (zL (aB (a:=l) (b:=D) rfl rfl) fp)<| RN fn<| yB (b:=fo) rfl (fun ai=>?_) (fun ai=>?_)
    ·have c:=zT ai c
     refine zS (zG (fm _ _ ?_))
     refine zB fun i9 fq=>?_
     refine yA ?_
     refine zB fun ja fr=>zA<| zF (kV rfl)<| zF (yK (yH (cs:=[i6 d.Series.Den,o]) qB rfl wZ rfl (Cells.drop (Hbc H 5 rfl) 1 2)) rfl)<| zH (i6 l) ?_
     obtain ⟨fs,ft,c⟩:=zC c
     refine zF (kQ (a:=64) (b:=l) rfl rfl ft) ?_
     obtain ⟨fu,fv,c⟩:=zC c
     refine zF (xN (a:=fs) (b:=64) rfl rfl fv) ?_
     obtain ⟨fw,fx,c⟩:=zC c
     refine zF (bI (a:=fu) (b:=1) rfl rfl fx)<| zF (vF rfl)<| Ld fK H 5 3 rfl rfl ?_
     have fy:=H
     obtain ⟨⟨u,L⟩,f0,c⟩:=zD c
     refine zO rfl rfl (zM en26 rfl) (Fatw d.Series fw d.Long o _ f0 _ _ _ (H.enter [] [3])) ?_
     rintro _ jb ⟨rfl,f2⟩
     have H:=fy.step (f2.only:Only [] _ _)
     refine ⟨_,rfl,?_⟩
     refine zH (.tuple #[.agg [i6 u.At,i6 u.N,i6 u.Mark].toArray,.bool L])<| zF (yP (v:= .agg [i6 u.At,i6 u.N,i6 u.Mark].toArray) rfl rfl)<| zF (yP (v:= .bool L) rfl rfl)<| yQ rfl rfl (xB nG H) ?_
     rintro _ jc ⟨jd,rfl,H⟩
     refine yZ rfl (yN (vs:=[i6 u.At,i6 u.N,i6 u.Mark]) H 7 rfl bF rfl rfl rfl ⟨rfl,rfl,rfl,trivial⟩ rfl) ?_
     rintro je H
     refine zI (.bool L)<| RN fr<| zB fun jf f3=>zA<| zF (kV rfl)<| zF (yK (yH (cs:=[i6 f.Series.Den,q]) qB rfl wZ rfl (Cells.drop (Hbc H 6 rfl) 1 2)) rfl)<| zH (i6 l) ?_
     obtain ⟨f4,f5,c⟩:=zC c
     refine zF (kQ (a:=64) (b:=l) rfl rfl f5) ?_
     obtain ⟨f6,f7,c⟩:=zC c
     refine zF (xN (a:=f4) (b:=64) rfl rfl f7) ?_
     obtain ⟨f8,f9,c⟩:=zC c
     refine zF (bI (a:=f6) (b:=1) rfl rfl f9)<| zF (vF rfl)<| Ld fK H 6 3 rfl rfl ?_
     have ga:=H
     obtain ⟨⟨y,G⟩,gb,c⟩:=zD c
     refine zO rfl rfl (zM en26 rfl) (Fatw f.Series f8 f.Long q _ gb _ _ _ (H.enter [] [4])) ?_
     rintro _ jg ⟨rfl,gc⟩
     have H:=ga.step (gc.only:Only [] _ _)
     refine ⟨_,rfl,?_⟩
     refine zH (.tuple #[.agg [i6 y.At,i6 y.N,i6 y.Mark].toArray,.bool G])<| zF (yP (v:= .agg [i6 y.At,i6 y.N,i6 y.Mark].toArray) rfl rfl)<| zF (yP (v:= .bool G) rfl rfl)<| yQ rfl rfl (xB nG H) ?_
     rintro _ jh ⟨ji,rfl,H⟩
     refine yZ rfl (yN (vs:=[i6 y.At,i6 y.N,i6 y.Mark]) H 8 rfl bF rfl rfl rfl ⟨rfl,rfl,rfl,trivial⟩ rfl) ?_
     rintro jj H
     refine zI (.bool G)<| RN f3 ?_
     obtain ⟨z,c,gd⟩:=zD c
     refine yL [23,124,125,126,127,128,129,130,131,132,133,134,135,136,137,138,139,140,141,142,143,144,145] (fun (g:Unit)=>[(23,.bool z)]) (fun g wl=>Hd O w wl S [.own fV K 64 a4,f1 fH v1 m,f1 dD j s,f1 gY o d.Series.Samples,f1 gY q f.Series.Samples,.blk I [sb d.Name,i6 d.Series.Den,o,i6 d.Long] 41,.blk J [sb f.Name,i6 f.Series.Den,q,i6 f.Long] 41]) ?_ ?_
     ·skip
      have aj:=H
      have H:=H.rebase
      have jk:=H
      refine WP_mix0 H [0,1,2,3,4,5,6,7,8,9,10,11,12,13,14,15,16,17,18,19,20,21,22] (kz [0,0,0,0,0,0,1,0,0,1,0,1,0,0,1,0,0,0,0,1,4,0,0]) mixed ?_
      refine XM (.bool L)<| MxM.XL_splitb (b:=L) rfl rfl rfl rfl (fun ak=>?_) (fun ak=>?_)
      ·have c:=zT ak c
       refine XM (.bool G)<| XP (fun _ _=>yD (v:= .bool G) rfl rfl)<| MxM.XL_splitb (b:=G) rfl rfl rfl rfl (fun al=>?_) (fun al=>?_)
       ·have c:=zT al c
        refine XP (fun _ _=>qA rfl)<| XR fK H 7 1 rfl rfl<| XP (fun _ _=>kV rfl)<| XP (fun _ _=>nC rfl)<| XR fK H 5 1 rfl rfl<| XP (fun _ _=>qA rfl)<| XR fK H 8 1 rfl rfl<| XP (fun _ _=>kV rfl)<| XP (fun _ _=>nC rfl)<| XR fK H 6 1 rfl rfl<| XM j<| XM (i6 n) ?_
        obtain ⟨ge,am,c⟩:=zD c
        obtain ⟨gf,gg,jl,jm,gh,gj,gk,gl,gm⟩:=fQ (H.item (i:=2) rfl) am
        obtain rfl:=dZ gj
        have H:=H.fz (.at gf (gg+n.toNat * 3) _) ⟨gk,gl,gm⟩
        refine XP (fun _ _=>xG u23 sN gh rfl (zZ am).1 (zZ am).2.1 rfl rfl)<| XP (fun _ _=>aAj rfl)<| MxM.XL_read oS rfl rfl rfl (fun k h=>xO fK rfl (Cells.get ((H.sees h).item (i:=9) rfl).2.2 (i:=2) rfl)) ?_
        have gn:=H
        obtain ⟨an,go,c⟩:=zD c
        refine MxM.XL_fcall oS rfl rfl rfl (v:= .bool an) (fun k h=>zM en27 rfl) (fun k h=>aU (Faiw u.N d.Series.Den y.N f.Series.Den ge.Most _ go _ _ _ (Hd.fresh0 k))) ?_
        have H:=gn
        refine XP (fun _ _=>yD (v:= .bool an) rfl rfl)<| XP (fun _ _=>dQ (v:= .bool an) rfl)<| MxM.XL_nil fun jn hS=>?_
        have H:=H.sees hS
        have H:=aj.rejoin H
        obtain rfl:=gI c
        exact (zG (meet ⟨(),(zJ rfl zK),H.pick [0,1,2,3,4,5,6]⟩))
       have c:=zU al c
       refine XO<| MxM.XL_offr oS rfl rfl rfl ?_
       refine XO<| XO<| MxM.XL_offr oS rfl rfl rfl ?_
       refine XO<| MxM.XL_offr oS rfl rfl rfl ?_
       refine XO<| XO<| MxM.XL_offr oS rfl rfl rfl ?_
       refine XO<| XO<| XO<| XO<| MxM.XL_offr oS rfl rfl rfl ?_
       refine MxM.XL_offf oS rfl rfl rfl ?_
       refine XP (fun _ _=>zY (v:= .bool false) rfl rfl)<| XP (fun _ _=>dQ (v:= .bool false) rfl)<| MxM.XL_nil fun jo hS=>?_
       have H:=H.sees hS
       have H:=aj.rejoin H
       obtain rfl:=gI c
       exact (zG (meet ⟨(),(zJ rfl zK),H.pick [0,1,2,3,4,5,6]⟩))
      have c:=zU ak c
      refine XO<| XP (fun _ _=>zY (v:= .bool false) rfl rfl)<| XM (.bool false)<| XO<| MxM.XL_offr oS rfl rfl rfl<| XO<| XO<| MxM.XL_offr oS rfl rfl rfl<| XO<| MxM.XL_offr oS rfl rfl rfl<| XO<| XO<| MxM.XL_offr oS rfl rfl rfl<| XO<| XO<| XO<| XO<| MxM.XL_offr oS rfl rfl rfl<| MxM.XL_offf oS rfl rfl rfl<| XP (fun _ _=>zY (v:= .bool false) rfl rfl) ?_
      refine XP (fun _ _=>dQ (v:= .bool false) rfl)<| MxM.XL_nil fun jp hS=>?_
      have H:=H.sees hS
      have H:=aj.rejoin H
      obtain rfl:=gI c
      exact (zG (meet ⟨(),(zJ rfl zK),H.pick [0,1,2,3,4,5,6]⟩))
     rintro _ ρ jq H
     have c:=gd
     obtain ⟨gp,c,gq⟩:=zD c
     refine yL [13,146,147,148,149,150,151,152,153,154,155,156] (fun (g:Value)=>[(13,g)]) (fun g wl=>Hd O w wl S [.own fV g 64 gp,f1 fH v1 m,f1 dD j s,f1 gY o d.Series.Samples,f1 gY q f.Series.Samples,.blk I [sb d.Name,i6 d.Series.Den,o,i6 d.Long] 41,.blk J [sb f.Name,i6 f.Series.Den,q,i6 f.Long] 41]) ?_ ?_
     ·skip
      obtain ⟨a6,c,gr⟩:=zD c
      refine yL [146,147,148,149,150] (fun (g:Unit)=>[(150,.bool a6)]) (fun g wl=>Hd O w wl S [.own fV K 64 a4,f1 fH v1 m,f1 dD j s,f1 gY o d.Series.Samples,f1 gY q f.Series.Samples,.blk I [sb d.Name,i6 d.Series.Den,o,i6 d.Long] 41,.blk J [sb f.Name,i6 f.Series.Den,q,i6 f.Long] 41]) ?_ ?_
      ·skip
       refine zA ?_
       refine zH (.bool z)<| yR (b:=z) rfl rfl rfl (fun ao=>?_) (fun ao=>?_)
       ·have c:=zT ao c
        refine zH (.bool a5) ?_
        obtain ⟨gs,gt,c⟩:=zC c
        refine zF (zL (xX (p:=a5) rfl) gt)<| zF (yD (v:= .bool gs) rfl rfl) ?_
        obtain rfl:=gI c
        exact (zQ (zG (meet ⟨(),(zJ rfl zK),H.pick [0,1,2,3,4,5,6]⟩)))
       have c:=zU ao c
       refine yC ?_
       refine yC ?_
       refine zF (zY (v:= .bool false) rfl rfl) ?_
       obtain rfl:=gI c
       exact (zQ (zG (meet ⟨(),(zJ rfl zK),H.pick [0,1,2,3,4,5,6]⟩)))
      rintro _ ρ jr H
      have c:=gr
      refine yB (b:=a6) rfl (fun ap=>?_) (fun ap=>?_)
      ·have c:=zT ap c
       refine zA ?_
       refine zH K<| zH (i6 n)<| zH (i6 l)<| zF (dB (cs:=[i6 n,i6 l,i6 0]) (bt64_0_1 _ _)) ?_
       obtain ⟨js,gu,c⟩:=zC c
       subst gu
       refine yQ rfl rfl (kX (r:=fV) (xl:=[fE.mk n l 0]) (cs:=[i6 n,i6 l,i6 0]) u28 el64 (by decide) (by decide) rfl (xU (vs:=[.agg [i6 n,i6 l,i6 0].toArray]) (by decide) rfl rfl ⟨rfl,trivial⟩ rfl) H ⟨[i6 n,i6 l,i6 0],[],rfl,(nP (x:=fE.mk n l 0)),rfl⟩) ?_
       rintro jt ju H
       obtain ⟨jv,gv,c⟩:=zD c
       refine yQ rfl rfl (jD H (i:=0) rfl u28 el64 rfl rfl (Sr.of_own (H.item (i:=7) rfl)) gv) ?_
       rintro a7 jw H
       refine zI a7 ?_
       obtain rfl:=gI c
       exact (zQ (zG (meet ⟨a7,(zJ rfl zK),H.pick [0,1,2,3,4,5,6]⟩)))
      have c:=zU ap c
      obtain rfl:=gI c
      exact (zS (zG (meet ⟨K,(zJ rfl zK),H.pick [0,1,2,3,4,5,6]⟩)))
     rintro M ρ jx H
     have c:=gq
     obtain ⟨a8,c,gw⟩:=zD c
     refine yL [157,158,159,160,161,162,163,164] (fun (g:Unit)=>[]) (fun g wl=>Hd O w wl S [.own fV M 64 a8,f1 fH v1 m,f1 dD j s,f1 gY o d.Series.Samples,f1 gY q f.Series.Samples,.blk I [sb d.Name,i6 d.Series.Den,o,i6 d.Long] 41,.blk J [sb f.Name,i6 f.Series.Den,q,i6 f.Long] 41]) ?_ ?_
     ·skip
      refine zB fun jy gx=>zA<| zH (.bool z)<| RN gx<| yB (b:=z) rfl (fun aq=>?_) (fun aq=>?_)
      ·have c:=zT aq c
       refine zA ?_
       refine zH M<| zH M ?_
       obtain ⟨gy,gz,c⟩:=zC c
       obtain ⟨jz,j0,g0⟩:=Sr.len (Sr.of_own (H.item (i:=0) rfl))
       refine zF (yK (xI u28 g0) (congrArg (Value.int .i64) gz)) ?_
       obtain ⟨j1,g1,c⟩:=zC c
       refine zF (bI (a:=gy) (b:=1) rfl rfl g1)<| zH (i6 l) ?_
       obtain ⟨a9,ar,c⟩:=zD c
       obtain ⟨j2,j3,j4,ba,g2,g3⟩:=pK (H.item (i:=0) rfl) ar
       obtain rfl:=aZ g2
       refine zF (xG u28 sz64 ba rfl (zZ ar).1 (zZ ar).2.1 rfl rfl)<| zF (aCp rfl) ?_
       obtain ⟨j5,g4,c⟩:=zD c
       refine yZ rfl (qF (vs:=[i6 l]) (off:=2) H 0 rfl ba g3 rfl sz3 rfl rfl rfl (mJ ⟨rfl,trivial⟩) g4 (by decide) rfl (nP (x:=fE.mk a9.Twins a9.From l))) ?_
       rintro j6 H
       obtain rfl:=gI c
       exact (zQ (zG (meet ⟨(),zK,H.pick [0,1,2,3,4,5,6]⟩)))
      have c:=zU aq c
      obtain rfl:=gI c
      exact (zS (zG (meet ⟨(),zK,H.pick [0,1,2,3,4,5,6]⟩)))
     rintro _ ρ j7 H
     have c:=gw
     refine zA ?_
     refine zH (.bool z)<| zI (.bool z)<| (zQ (yV (zG (fq _ _ ?_))))
     refine zA ?_
     refine zH (i6 l) ?_
     obtain ⟨bb,g5,c⟩:=zC c
     refine zF (xN (a:=l) (b:=1) rfl rfl g5)<| zI (i6 bb) ?_
     exact (zQ (zG (meet ⟨(fk,a8,z,bb,M),(zJ rfl (zJ rfl (zJ rfl zK))),⟨H.pick [0,1,2,3,4,5,6],c⟩,Nat.lt_succ_self _⟩)))
    have c:=zU ai c
    obtain rfl:=gI c
    exact (xH (yI (yI (yU (yV (zG (meet ⟨K,(zJ rfl zK),H.pick [0,1,2]⟩)))))))
   rintro g6 ρ j8 H
   have c:=ea
   refine zA ?_
   refine zH (i6 n) ?_
   obtain ⟨bc,g7,c⟩:=zC c
   refine zF (xN (a:=n) (b:=1) rfl rfl g7)<| zI (i6 bc) ?_
   exact (zQ (zG (meet ⟨(d2,ad,bc,g6),(zJ rfl (zJ rfl zK)),⟨H.pick [0,1,2],c⟩,Nat.lt_succ_self _⟩)))
  have c:=zU ac c
  obtain rfl:=gI c
  exact (xH (yI (yI (yU (zG (meet ⟨az,(zJ rfl zK),H.pick [0]⟩))))))
 rintro P ρ j9 H
 have c:=dx
 refine zB fun ka g8=>zA<| zH P<| zI P<| zI (i6 0)<| RN g8 ?_
 obtain rfl:=gI c
 refine (zW (cZ (v1:=P) (v2:=i6 0) rfl rfl rfl ?_))
 exact ⟨P,rfl,H.pick [0]⟩
theorem Fa8w (n:List Int)(d:Int)(h:Int)(v1:Value)(r:(List Int))(c:Fa8 n d h=some r)(O S:List Nat)(w:World)(H:Hd O w w S [.own (Rp.int .u8) v1 5 n,.fz (.at 0 0 ((Fl.arr 20 (Fl.int .u64)).f zX))]):
  Cl 76 [v1,i6 d,i6 h] w fun e s=> ∃u4,e= .returned (u4)∧Hd O w s S [.own (Rp.int .u8) u4 5 r]:=by
 unfold Fa8 at c
 refine CW 21 Tryz.func76 ?_
 refine zB fun M t=>zA<| zI (.slice none 0 0)<| RN t<| zB fun N u=>zA<| zH (i6 d) ?_
 obtain ⟨j,v,c⟩:=zC c
 refine zF (aW u2 u96 rfl v)<| zI (.int .u64 j)<| RN u ?_
 obtain ⟨k,c,x⟩:=zD c
 refine yL [0,7,10,11,12,13,14,15,16] (fun (g:Value)=>[(0,g),(7,.int .u64 k.2)]) (fun g wl=>Hd O w wl S [.own (Rp.int .u8) g 5 k.1,.fz (.at 0 0 ((Fl.arr 20 (Fl.int .u64)).f zX))]) ?_ ?_
 ·skip
  refine zB fun P y=>zA<| zH (i6 d) ?_
  obtain ⟨z,A,c⟩:=zC c
  refine zF (zL (xC (a:=d) (b:=0) rfl rfl) A)<| RN y<| yB (b:=z) rfl (fun l=>?_) (fun l=>?_)
  ·have c:=zT l c
   refine zB fun Q B=>zA<| zH v1 ?_
   obtain ⟨R,C,c⟩:=zC c
   subst C
   refine yQ rfl rfl (kX (r:=(Rp.int .u8)) (xl:=[45]) (cs:=[.int .u8 45]) u25 el5 (by decide) (by decide) rfl (xU (vs:=[.int .u8 45]) (by decide) rfl rfl ⟨rfl,trivial⟩ rfl) H ⟨[.int .u8 45],[],rfl,rfl,rfl⟩) ?_
   rintro T U H
   obtain ⟨V,D,c⟩:=zD c
   refine yQ rfl rfl (jD H (i:=0) rfl u25 el5 rfl rfl (Sr.of_own (H.item (i:=2) rfl)) D) ?_
   rintro o X H
   refine zI o<| RN B<| zA<| zH (.int .u64 j) ?_
   obtain ⟨F,G,c⟩:=zC c
   refine zF (aCm (a:=j) rfl G)<| zI (.int .u64 F) ?_
   obtain rfl:=gI c
   exact (zQ (zG (meet ⟨o,(zJ rfl (zJ rfl zK)),H.pick [0,1]⟩)))
  have c:=zU l c
  obtain rfl:=gI c
  exact (zS (zG (meet ⟨v1,(zJ rfl (zJ rfl zK)),H.pick [0,1]⟩)))
 rintro p ρ Y H
 have c:=x
 obtain ⟨I,q⟩:=k
 refine zB fun Z J=>zA<| zH p<| zH (.int .u64 q)<| zH (i6 h) ?_
 obtain ⟨aa,K,c⟩:=zD c
 refine zO rfl rfl (zM en100 rfl) (E.Fbmw I q h p _ K _ _ _ (H.enter [0] [1])) ?_
 rintro _ ab ⟨m,rfl,L⟩
 have H:Hd _ _ _ _ [_,_]:=H.back [0] [1] rfl L
 refine ⟨_,rfl,?_⟩
 refine zI m<| RN J ?_
 obtain rfl:=gI c
 refine (zW (gZ (v1:=m) rfl rfl ?_))
 exact ⟨m,rfl,H.pick [1]⟩
theorem Fbaw (d:List Int)(a:Int)(b:Int)(v1:Value)(r:(List Int))(c:Fba d a b=some r)(O S:List Nat)(w:World)(H:Hd O w w S [.own (Rp.int .u8) v1 5 d,.fz (.at 0 0 ((Fl.arr 20 (Fl.int .u64)).f zX))]):
  Cl 55 [v1,i6 a,i6 b] w fun e h=> ∃u4,e= .returned (u4)∧Hd O w h S [.own (Rp.int .u8) u4 5 r]:=by
 unfold Fba at c
 refine CW 11 Tryz.func55 ?_
 refine zB fun m i=>zA<| zI (.slice none 0 0)<| RN i<| zB fun n j=>zA<| zH v1<| zH (i6 a)<| zH (i6 b) ?_
 obtain ⟨o,k,c⟩:=zD c
 refine zO rfl rfl (zM en76 rfl) (Fa8w d a b v1 _ k _ _ _ (H.enter [0] [1])) ?_
 rintro _ p ⟨g,rfl,l⟩
 have H:Hd _ _ _ _ [_,_]:=H.back [0] [1] rfl l
 refine ⟨_,rfl,?_⟩
 refine zI g<| RN j ?_
 obtain rfl:=gI c
 refine (zW (gZ (v1:=g) rfl rfl ?_))
 exact ⟨g,rfl,H.pick [1]⟩
theorem Fapw (d:gK)(c:Int)(b:Nat)(g:Value)(r:gK)(a:Fap d c=some r)(O S:List Nat)(w:World)(H:Hd O w w S [.own (Rp.int .u8) g 5 d.out,.blk b [g] 27,.fz (.at 0 0 ((Fl.arr 20 (Fl.int .u64)).f zX))]):
  Cl 28 [fA b,i6 c] w fun e k=> ∃h,e= .returned (.tuple #[])∧Hd O w k S [.own (Rp.int .u8) h 5 r.out,.blk b [h] 27]:=by
 unfold Fap at a
 refine CW 22 Tryz.func28 ?_
 refine zB fun s l=>zA<| zH (fA b)<| zH (fA b)<| zF (yE rfl)<| zF (uG rfl)<| Ld one25 H 1 0 rfl rfl<| zH (i6 c) ?_
 obtain ⟨t,m,a⟩:=zD a
 refine zO rfl rfl (zM en55 rfl) (Fbaw d.out c 10 g _ m _ _ _ (H.enter [0] [2])) ?_
 rintro _ u ⟨n,rfl,o⟩
 have H:Hd _ _ _ _ [_,_,_]:=H.back [0] [2] rfl o
 refine ⟨_,rfl,?_⟩
 refine zF (yE rfl)<| zF (uG rfl)<| yZ rfl (xP H 0 rfl sz25 rfl (v:=n) rfl (kL (H.item (i:=2) rfl)) rfl) ?_
 rintro x H
 refine RN l<| zA<| zH (fA b)<| zH (fA b)<| zF (yE rfl)<| zF (uG rfl)<| Ld one25 H 0 0 rfl rfl ?_
 obtain ⟨y,p,a⟩:=zC a
 subst p
 refine yQ rfl rfl (kX (r:=(Rp.int .u8)) (xl:=[32]) (cs:=[.int .u8 32]) u25 el5 (by decide) (by decide) rfl (xU (vs:=[.int .u8 32]) (by decide) rfl rfl ⟨rfl,trivial⟩ rfl) H ⟨[.int .u8 32],[],rfl,rfl,rfl⟩) ?_
 rintro z A H
 obtain ⟨B,q,a⟩:=zD a
 refine yQ rfl rfl (jD H (i:=2) rfl u25 el5 rfl rfl (Sr.of_own (H.item (i:=3) rfl)) q) ?_
 rintro j C H
 refine zF (yE rfl)<| zF (uG rfl)<| yZ rfl (xP H 0 rfl sz25 rfl (v:=j) rfl (kL (H.item (i:=2) rfl)) rfl) ?_
 rintro D H
 obtain rfl:=gI a
 refine (zQ (kP rfl ?_))
 exact ⟨j,rfl,H.pick [2,0]⟩
theorem Fa0w (k:gK)(l:List Int)(d:Nat)(m:Value)(h:Value)(r:gK)(c:Fa0 k l=some r)(O S:List Nat)(w:World)(H:Hd O w w S [.own (Rp.int .u8) m 5 k.out,.blk d [m] 27,f1 (Rp.int .i64) h l,.fz (.at 0 0 ((Fl.arr 20 (Fl.int .u64)).f zX))]):
  Cl 29 [fA d,h] w fun e u=> ∃u8,e= .returned (.tuple #[])∧Hd O w u S [.own (Rp.int .u8) u8 5 r.out,.blk d [u8] 27]:=by
 unfold Fa0 at c
 refine CW 21 Tryz.func29 ?_
 refine zB fun K9 v=>zA<| zH (fA d)<| zH h ?_
 obtain ⟨x,y,c⟩:=zC c
 obtain ⟨aj,ak,z⟩:=SlF.len ((H.item (i:=2) rfl))
 refine zF (yK (xI u42 z) (congrArg (Value.int .i64) y)) ?_
 obtain ⟨A,B,c⟩:=zD c
 refine zO rfl rfl (zM en28 rfl) (Fapw (gK.mk k.out) x d m _ B _ _ _ (H.enter [0,1] [3])) ?_
 rintro _ al ⟨C,rfl,D⟩
 have H:Hd _ _ _ _ [_,_,_,_]:=H.back [0,1] [3] rfl D
 refine ⟨_,rfl,?_⟩
 refine RN v<| zB fun am E=>zA<| zI (i6 0)<| RN E<| yA ?_
 unfold Fct at c
 obtain ⟨F,p,G,c⟩:=yM c
 refine xA [4,9,10,11,12,13,14,15,16,17,18,19,20] (fun (g:Nat×Int×(List Int)×Value)=>[(4,i6 g.2.1)]) (fun g wl=>Hd O w wl S [f1 (Rp.int .i64) h l,.fz (.at 0 0 ((Fl.arr 20 (Fl.int .u64)).f zX)),.blk d [g.2.2.2] 27,.own (Rp.int .u8) g.2.2.2 5 g.2.2.1]∧fJ F g.1 (g.2.1,g.2.2.1)=some r) (fun g=>g.1) (p,0,A.out,C) (zJ rfl zK) ⟨H.pick [0,1,3,2],c⟩ ?_
 clear H c
 rintro ⟨p,j,I,q⟩ ρ an ⟨H,c⟩
 obtain ⟨J,rfl,c⟩:=yS c
 have c:=yT G c
 refine zB fun ao K=>?_
 refine zB fun ap L=>zA<| zH (i6 j)<| zH h ?_
 obtain ⟨M,N,c⟩:=zC c
 obtain ⟨aq,ar,P⟩:=SlF.len ((H.item (i:=0) rfl))
 refine zF (yK (xI u42 P) (congrArg (Value.int .i64) N)) ?_
 obtain ⟨Q,R,c⟩:=zC c
 refine zF (zL (xC (a:=j) (b:=M) rfl rfl) R)<| RN L<| yB (b:=Q) rfl (fun n=>?_) (fun n=>?_)
 ·have c:=zT n c
  refine zS (zG (K _ _ ?_))
  refine zB fun au T=>?_
  refine yA ?_
  refine zA ?_
  refine zH (fA d)<| zH h<| zH (i6 j) ?_
  obtain ⟨s,o,c⟩:=zD c
  obtain ⟨U,V,av,X,Y,Z,aa,ab,ac⟩:=fQ (H.item (i:=0) rfl) o
  obtain rfl:X= [i6 s]:=Z
  have H:=H.fz (.at U (V+j.toNat * 1) _) ⟨aa,ab,ac⟩
  refine zF (xG u42 sz3 Y rfl (zZ o).1 (zZ o).2.1 rfl rfl)<| zF (xO fK rfl (Cells.get (H.item (i:=4) rfl).2.2 (i:=0) rfl)) ?_
  obtain ⟨ad,ae,c⟩:=zD c
  refine zO rfl rfl (zM en28 rfl) (Fapw (gK.mk I) s d q _ ae _ _ _ (H.enter [3,2] [1])) ?_
  rintro _ aw ⟨af,rfl,ag⟩
  have H:Hd _ _ _ _ [_,_,_,_,_]:=H.back [3,2] [1] rfl ag
  refine ⟨_,rfl,?_⟩
  refine (zQ (yV (zG (T _ _ ?_))))
  refine zA ?_
  refine zH (i6 j) ?_
  obtain ⟨t,ah,c⟩:=zC c
  refine zF (xN (a:=j) (b:=1) rfl rfl ah)<| zI (i6 t) ?_
  exact (zQ (zG (meet ⟨(J,t,ad.out,af),(zJ rfl zK),⟨H.pick [0,1,4,3],c⟩,Nat.lt_succ_self _⟩)))
 have c:=zU n c
 obtain rfl:=gI c
 refine (xH (yI (yI (yU (kP rfl ?_)))))
 exact ⟨q,rfl,H.pick [3,2]⟩
theorem Faxw (p:gK)(q:List fE)(l:Nat)(s:Value)(m:Value)(r:gK)(c:Fax p q=some r)(O S:List Nat)(w:World)(H:Hd O w w S [.own (Rp.int .u8) s 5 p.out,.blk l [s] 27,f1 fV m q,.fz (.at 0 0 ((Fl.arr 20 (Fl.int .u64)).f zX))]):
  Cl 8 [fA l,m] w fun e j=> ∃u8,e= .returned (.tuple #[])∧Hd O w j S [.own (Rp.int .u8) u8 5 r.out,.blk l [u8] 27]:=by
 unfold Fax at c
 refine CW 33 Tryz.func8 ?_
 refine zB fun K9 B=>zA<| zH (fA l)<| zH m ?_
 obtain ⟨C,D,c⟩:=zC c
 obtain ⟨a6,a7,E⟩:=SlF.len ((H.item (i:=2) rfl))
 refine zF (yK (xI u28 E) (congrArg (Value.int .i64) D)) ?_
 obtain ⟨F,G,c⟩:=zD c
 refine zO rfl rfl (zM en28 rfl) (Fapw (gK.mk p.out) C l s _ G _ _ _ (H.enter [0,1] [3])) ?_
 rintro _ a8 ⟨I,rfl,J⟩
 have H:Hd _ _ _ _ [_,_,_,_]:=H.back [0,1] [3] rfl J
 refine ⟨_,rfl,?_⟩
 refine RN B<| zB fun a9 K=>zA<| zI (i6 0)<| RN K<| yA ?_
 unfold Fdr at c
 obtain ⟨L,y,M,c⟩:=yM c
 refine xA [4,9,10,11,12,13,14,15,16,17,18,19,20,21,22,23,24,25,26,27,28,29,30,31,32] (fun (g:Nat×Int×(List Int)×Value)=>[(4,i6 g.2.1)]) (fun g wl=>Hd O w wl S [f1 fV m q,.fz (.at 0 0 ((Fl.arr 20 (Fl.int .u64)).f zX)),.blk l [g.2.2.2] 27,.own (Rp.int .u8) g.2.2.2 5 g.2.2.1]∧fJ L g.1 (g.2.1,g.2.2.1)=some r) (fun g=>g.1) (y,0,F.out,I) (zJ rfl zK) ⟨H.pick [0,1,3,2],c⟩ ?_
 clear H c
 rintro ⟨y,h,N,z⟩ ρ ba ⟨H,c⟩
 obtain ⟨P,rfl,c⟩:=yS c
 have c:=yT M c
 refine zB fun bb Q=>?_
 refine zB fun bc R=>zA<| zH (i6 h)<| zH m ?_
 obtain ⟨T,U,c⟩:=zC c
 obtain ⟨bd,be,V⟩:=SlF.len ((H.item (i:=0) rfl))
 refine zF (yK (xI u28 V) (congrArg (Value.int .i64) U)) ?_
 obtain ⟨X,Y,c⟩:=zC c
 refine zF (zL (xC (a:=h) (b:=T) rfl rfl) Y)<| RN R<| yB (b:=X) rfl (fun t=>?_) (fun t=>?_)
 ·have c:=zT t c
  refine zS (zG (Q _ _ ?_))
  refine zB fun bf Z=>?_
  refine yA ?_
  have aa:=H
  have H:=H.rebase
  have bg:=H
  refine WP_mix0 H [0,1,2,3,4,5,6,7,8,9,10,11,12,13,14,15,16,17] (kz [0,0,0,0,0,1,0,0,0,0,1,0,0,0,0,1,2,3]) mixed ?_
  refine XM (fA l)<| XM m<| XM (i6 h) ?_
  obtain ⟨o,u,c⟩:=zD c
  obtain ⟨ab,ac,bh,bi,ad,ae,af,ag,ah⟩:=fQ (H.item (i:=0) rfl) u
  obtain rfl:=aZ ae
  have H:=H.fz (.at ab (ac+h.toNat * 3) _) ⟨af,ag,ah⟩
  refine XP (fun _ _=>xG u28 sz64 ad rfl (zZ u).1 (zZ u).2.1 rfl rfl)<| XP (fun _ _=>fa64_0 rfl)<| MxM.XL_read oS rfl rfl rfl (fun j d=>xO fK rfl (Cells.get ((H.sees d).item (i:=4) rfl).2.2 (i:=0) rfl))<| XM m<| XM (i6 h) ?_
  obtain ⟨n,v,c⟩:=zD c
  obtain ⟨ai,aj,bj,bk,ak,al,am,an,ao⟩:=fQ (H.item (i:=0) rfl) v
  obtain rfl:=aZ al
  have H:=H.fz (.at ai (aj+h.toNat * 3) _) ⟨am,an,ao⟩
  refine XP (fun _ _=>xG u28 sz64 ak rfl (zZ v).1 (zZ v).2.1 rfl rfl)<| XP (fun _ _=>fa64_1 rfl)<| MxM.XL_read oS rfl rfl rfl (fun j d=>xO fK rfl (Cells.get ((H.sees d).item (i:=5) rfl).2.2 (i:=1) rfl))<| XM m<| XM (i6 h) ?_
  obtain ⟨k,x,c⟩:=zD c
  obtain ⟨ap,aq,bl,bm,ar,au,av,aw,ax⟩:=fQ (H.item (i:=0) rfl) x
  obtain rfl:=aZ au
  have H:=H.fz (.at ap (aq+h.toNat * 3) _) ⟨av,aw,ax⟩
  refine XP (fun _ _=>xG u28 sz64 ar rfl (zZ x).1 (zZ x).2.1 rfl rfl)<| XP (fun _ _=>aCp rfl)<| MxM.XL_read oS rfl rfl rfl (fun j d=>xO fK rfl (Cells.get ((H.sees d).item (i:=6) rfl).2.2 (i:=2) rfl)) ?_
  obtain ⟨bn,ay,c⟩:=zC c
  subst ay
  refine MxM.XL_exN oS rfl rfl rfl (fun j d=>Ls_of (kX (r:=(Rp.int .i64)) (xl:=[o.Twins,n.From,k.To]) (cs:=[i6 o.Twins,i6 n.From,i6 k.To]) u42 el3 (by decide) (by decide) rfl (xU (vs:=[i6 o.Twins,i6 n.From,i6 k.To]) (by decide) rfl rfl ⟨rfl,rfl,rfl,trivial⟩ rfl) (H.sees d) ⟨[i6 o.Twins],[i6 n.From,i6 k.To],rfl,rfl,⟨[i6 n.From],[i6 k.To],rfl,rfl,⟨[i6 k.To],[],rfl,rfl,rfl⟩⟩⟩) (Ys_bs (cs:=[i6 o.Twins,i6 n.From,i6 k.To]) u42 el3 (by decide) (by decide) (xU (vs:=[i6 o.Twins,i6 n.From,i6 k.To]) (by decide) rfl rfl ⟨rfl,rfl,rfl,trivial⟩ rfl))) ?_
  rintro j az bo d H
  have H:=H.freeze (i:=7) rfl
  obtain ⟨a0,a1,c⟩:=zD c
  refine MxM.XL_effC oS rfl rfl rfl (fun j d=>zM en29 rfl) (fun j d=>Fa0w (gK.mk N) ([o.Twins,n.From,k.To]:List Int) l z az _ a1 _ _ _ ((H.sees d).enter [3,2] [7,1])) ?_
  rintro j _ bp d ⟨a2,rfl,a3⟩
  have H:Hd _ _ _ _ [_,_,_,_,_,_,_,_]:=(H.sees d).back [3,2] [7,1] rfl a3
  refine ⟨_,rfl,H.only,?_⟩
  refine MxM.XL_nil fun bq hS=>?_
  have H:=H.sees hS
  have H:=aa.rejoin H
  refine yV (zG (Z _ _ ?_))
  refine zA ?_
  refine zH (i6 h) ?_
  obtain ⟨A,a4,c⟩:=zC c
  refine zF (xN (a:=h) (b:=1) rfl rfl a4)<| zI (i6 A) ?_
  exact (zQ (zG (meet ⟨(P,A,a0.out,a2),(zJ rfl zK),⟨H.pick [0,1,7,6],c⟩,Nat.lt_succ_self _⟩)))
 have c:=zU t c
 obtain rfl:=gI c
 refine (xH (yI (yI (yU (kP rfl ?_)))))
 exact ⟨z,rfl,H.pick [3,2]⟩
theorem Fblw (b:Option gK)(v1:Option Addr)(r:Str)(a:Fbl b=some r)(O S:List Nat)(w:World)(H:Hd O w w S [.fz (.pt dS v1 b)]):
  Cl 9 [.pointer v1] w fun e h=>e= .returned (sb r)∧Hd O w h S []:=by
 unfold Fbl at a
 refine CW 8 Tryz.func9 ?_
 refine zB fun x j=>zA<| zI (.string (bs []))<| RN j<| zB fun y k=>zA<| zH (.pointer v1) ?_
 obtain ⟨c,l,a⟩:=zD a
 obtain ⟨d,f,z,m,n,o,p,q⟩:=nM ((H.item (i:=0) rfl):PtF _ _ _ _ _) l
 obtain ⟨t,rfl,u⟩:=jU p
 have H:=H.fzs [.at d f _,.sl (Rp.int .u8) t c.out] ⟨⟨n,o,q⟩,u,trivial⟩
 refine zF (yE (ad:=⟨d,f,none⟩) (congrArg Value.pointer m))<| zF (uG rfl)<| zF (xO one25 rfl (Cells.get (H.item (i:=1) rfl).2.2 (i:=0) rfl)) ?_
 obtain ⟨g,v,a⟩:=zC a
 refine zF (yK (aDd (xl:=c.out) u25 u5 u9 rfl (Sr.of_rd (H.item (i:=2) rfl))) (congrArg (fun s=>Value.string (bs s)) v))<| zI (sb g)<| RN k ?_
 obtain rfl:=gI a
 refine (zW (gZ (v1:=sb g) rfl rfl ?_))
 exact ⟨rfl,H.pick []⟩
end Go.Proofs.YtgmikmoapfmedaaGreatDoor.L
