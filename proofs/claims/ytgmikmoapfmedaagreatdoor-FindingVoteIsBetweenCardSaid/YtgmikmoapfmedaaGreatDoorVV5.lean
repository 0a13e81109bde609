/- Walks: what each function computes, for every argument; no condition but those that stand in the statements. -/
import Derived.Test.YtgmikmoapfmedaaGreatDoorVV0
import Derived.Test.YtgmikmoapfmedaaGreatDoorVV4
namespace Go.Proofs.YtgmikmoapfmedaaGreatDoor.L
open Go.RowKit Go.OB Go.Lf
set_option maxHeartbeats 4000000
set_option maxRecDepth 100000 in
theorem Fbhw (d:Str)(r:Bool)(c:Fbh d=some r)(O S:List Nat)(w:World)(H:Hd O w w S []):
  Cl 49 [sb d] w fun e F=>e= .returned (.bool r)∧Hd O w F S []:=by
 unfold Fbh at c
 refine CW 49 Tryz.func49 ?_
 refine zB fun K1 G=>zA<| zI (.bool false)<| RN G ?_
 obtain ⟨I,J,c⟩:=xH c
 refine yI [2,3,4,5,6,7,8,9,10,11,12,13,14,15,16,17,18,19,20,21,22,23,24,25,26,27,28,29,30,31,32,33,34,35,36] (fun (g:Unit)=>[]) (fun g wl=>Hd O w wl S []∧I ()=some r) ?_ ?_
 ·skip
  refine zB fun a7 K=>zA<| zI (i6 0)<| RN K<| zY ?_
  unfold Fbp at c
  obtain ⟨L,x,M,c⟩:=yK c
  refine yX [2,3,4,5,6,7,8,9,10,11,12,13,14,15,16,17,18,19,20,21,22,23,24,25,26,27,28,29,30,31,32,33,34,35,36] (fun (g:Nat×Int)=>[(3,i6 g.2)]) (fun g wl=>Hd O w wl S []∧fE L g.1 g.2=some r) (fun g=>g.1) (x,0) (zJ rfl zK) ⟨H.pick [],c⟩ ?_
  clear H c
  rintro ⟨x,h⟩ ρ a8 ⟨H,c⟩
  obtain ⟨N,rfl,c⟩:=yO c
  have c:=yN M c
  refine zB fun a9 P=>?_
  refine zB fun ba Q=>zA<| zH (i6 h)<| zH (sb d) ?_
  obtain ⟨R,T,c⟩:=zC c
  refine zG (yJ (bQ (s1:=d) u9 rfl) (congrArg (Value.int .i64) T)) ?_
  obtain ⟨U,V,c⟩:=zC c
  refine zG (zL (xI (a:=h) (b:=R) rfl rfl) V)<| RN Q<| yC (b:=U) rfl (fun j=>?_) (fun j=>?_)
  ·have c:=zU j c
   refine zQ (zF (P _ _ ?_))
   refine zB fun bb X=>?_
   refine zY ?_
   refine zB fun bc Y=>zA<| zH (sb d)<| zH (i6 h) ?_
   obtain ⟨f,Z,c⟩:=zD c
   refine zG (nN (s1:=d) (q:=h) u9 rfl rfl Z)<| zI (.int .u8 f)<| RN Y ?_
   obtain ⟨y,c,aa⟩:=zD c
   refine yI [14,15,16,17,18,19,20,21,22,23,24,25,26,27,28,29,30,31,32,33,34,35,36] (fun (g:Unit)=>[(36,.bool y)]) (fun g wl=>Hd O w wl S []) ?_ ?_
   ·skip
    refine zA ?_
    refine zH (.int .u8 f) ?_
    obtain ⟨ab,ac,c⟩:=zC c
    refine zG (zL (bI (a:=f) (b:=97) rfl rfl) ac) ?_
    obtain ⟨z,c,ad⟩:=zD c
    refine eH 4 [16,17,18,19] [(19,.bool z)] (fun wl=>Hd O w wl S []) ?_ ?_
    ·skip
     refine xC (b:=ab) rfl rfl rfl (fun k=>?_) (fun k=>?_)
     ·have c:=zU k c
      refine zH (.int .u8 f) ?_
      obtain ⟨ae,af,c⟩:=zC c
      refine zG (zL (bV (a:=f) (b:=122) rfl rfl) af)<| zG (yG (v:= .bool ae) rfl rfl) ?_
      obtain rfl:=gI c
      exact zZ (zF (meet ⟨(zJ rfl zK),H.pick []⟩))
     have c:=zV k c
     refine yH ?_
     refine yH ?_
     refine zG (yB (v:= .bool false) rfl rfl) ?_
     obtain rfl:=gI c
     exact zZ (zF (meet ⟨(zJ rfl zK),H.pick []⟩))
    rintro ρ bd H
    have c:=ad
    refine xC (b:=z) rfl rfl rfl (fun l=>?_) (fun l=>?_)
    ·have c:=zU l c
     refine yH ?_
     refine yH ?_
     refine yH ?_
     refine yH ?_
     refine yH ?_
     refine yH ?_
     refine yH ?_
     refine yH ?_
     refine yH ?_
     refine yH ?_
     refine yH ?_
     refine yH ?_
     refine yH ?_
     refine yH ?_
     refine zG (yG (v:= .bool true) rfl rfl)<| zG (fU (p:=true) rfl) ?_
     obtain rfl:=gI c
     exact (zZ (zF (meet ⟨(),(zJ rfl zK),H.pick []⟩)))
    have c:=zV l c
    refine zH (i6 h) ?_
    obtain ⟨ag,ah,c⟩:=zC c
    refine zG (zL (dD (a:=h) (b:=0) rfl rfl) ah)<| xC (b:=ag) rfl rfl rfl (fun m=>?_) (fun m=>?_)
    ·have c:=zU m c
     refine zH (.int .u8 f) ?_
     obtain ⟨ai,aj,c⟩:=zC c
     refine zG (zL (bI (a:=f) (b:=48) rfl rfl) aj) ?_
     obtain ⟨A,c,ak⟩:=zD c
     refine eH 4 [26,27,28,29] [(29,.bool A)] (fun wl=>Hd O w wl S []) ?_ ?_
     ·skip
      refine xC (b:=ai) rfl rfl rfl (fun n=>?_) (fun n=>?_)
      ·have c:=zU n c
       refine zH (.int .u8 f) ?_
       obtain ⟨al,am,c⟩:=zC c
       refine zG (zL (bV (a:=f) (b:=57) rfl rfl) am)<| zG (yG (v:= .bool al) rfl rfl) ?_
       obtain rfl:=gI c
       exact zZ (zF (meet ⟨(zJ rfl zK),H.pick []⟩))
      have c:=zV n c
      refine yH ?_
      refine yH ?_
      refine zG (yB (v:= .bool false) rfl rfl) ?_
      obtain rfl:=gI c
      exact zZ (zF (meet ⟨(zJ rfl zK),H.pick []⟩))
     rintro ρ be H
     have c:=ak
     refine xC (b:=A) rfl rfl rfl (fun o=>?_) (fun o=>?_)
     ·have c:=zU o c
      refine yH ?_
      refine yH ?_
      refine zG (yG (v:= .bool true) rfl rfl)<| zG (yG (v:= .bool true) rfl rfl)<| zG (yB (v:= .bool true) rfl rfl)<| zG (fU (p:=true) rfl) ?_
      obtain rfl:=gI c
      exact (zZ (zF (meet ⟨(),(zJ rfl zK),H.pick []⟩)))
     have c:=zV o c
     refine zH (.int .u8 f) ?_
     obtain ⟨i,an,c⟩:=zC c
     refine zG (zL (fV (a:=f) (b:=45) rfl rfl) an)<| zG (yB (v:= .bool i) rfl rfl)<| zG (yG (v:= .bool i) rfl rfl)<| zG (yB (v:= .bool i) rfl rfl) ?_
     obtain ⟨bf,ao,c⟩:=zC c
     refine zG (zL (fU (p:=i) rfl) ao) ?_
     obtain rfl:=gI c
     exact (zZ (zF (meet ⟨(),(zJ rfl zK),H.pick []⟩)))
    have c:=zV m c
    refine yH ?_
    refine yH ?_
    refine yH ?_
    refine yH ?_
    refine yH ?_
    refine yH ?_
    refine yH ?_
    refine yH ?_
    refine yH ?_
    refine yH ?_
    refine zG (yB (v:= .bool false) rfl rfl)<| zG (yB (v:= .bool false) rfl rfl)<| zG (fU (p:=false) rfl) ?_
    obtain rfl:=gI c
    exact (zZ (zF (meet ⟨(),(zJ rfl zK),H.pick []⟩)))
   rintro _ ρ bg H
   have c:=aa
   refine yC (b:=y) rfl (fun s=>?_) (fun s=>?_)
   ·have c:=zU s c
    refine zB fun bh ap=>zA<| zI (.bool false)<| RN ap ?_
    obtain rfl:=gI c
    refine (zX (yE (zS (zS (yE (zS (fB (v1:= .bool false) rfl rfl ?_)))))))
    exact ⟨rfl,H.pick []⟩
   have c:=zV s c
   refine (zQ (yV (zF (X _ _ ?_))))
   refine zA ?_
   refine zH (i6 h) ?_
   obtain ⟨B,aq,c⟩:=zC c
   refine zG (xP (a:=h) (b:=1) rfl rfl aq)<| zI (i6 B) ?_
   exact (zZ (zF (meet ⟨(N,B),(zJ rfl zK),⟨H.pick [],c⟩,Nat.lt_succ_self _⟩)))
  have c:=zV j c
  exact (xG (yD (yD (yS (zF (meet ⟨(),zK,⟨H.pick [],c⟩⟩))))))
 rintro _ ρ bi ⟨H,c⟩
 have c:=xO J c
 obtain ⟨C,c,ar⟩:=zD c
 refine yI [2,37,38,39,40,41,42,43,44,45,46,47,48] (fun (g:Unit)=>[(2,.bool C)]) (fun g wl=>Hd O w wl S []) ?_ ?_
 ·skip
  refine zA ?_
  refine zH (sb d) ?_
  obtain ⟨au,av,c⟩:=zC c
  refine zG (zL (aEp (s1:=d) (s2:=[]) rfl rfl) av) ?_
  obtain ⟨D,c,aw⟩:=zD c
  refine eH 5 [39,40,41,42,43] [(43,.bool D)] (fun wl=>Hd O w wl S []) ?_ ?_
  ·skip
   refine xC (b:=au) rfl rfl rfl (fun t=>?_) (fun t=>?_)
   ·have c:=zU t c
    refine zH (sb d) ?_
    obtain ⟨ax,ay,c⟩:=zC c
    refine zG (yJ (bQ (s1:=d) u9 rfl) (congrArg (Value.int .i64) ay)) ?_
    obtain ⟨az,a0,c⟩:=zC c
    refine zG (zL (bV (a:=ax) (b:=30) rfl rfl) a0)<| zG (yG (v:= .bool az) rfl rfl) ?_
    obtain rfl:=gI c
    exact zZ (zF (meet ⟨(zJ rfl zK),H.pick []⟩))
   have c:=zV t c
   refine yH ?_
   refine yH ?_
   refine yH ?_
   refine zG (yB (v:= .bool false) rfl rfl) ?_
   obtain rfl:=gI c
   exact zZ (zF (meet ⟨(zJ rfl zK),H.pick []⟩))
  rintro ρ bj H
  have c:=aw
  refine xC (b:=D) rfl rfl rfl (fun u=>?_) (fun u=>?_)
  ·have c:=zU u c
   refine zH (sb d) ?_
   have a1:=H
   obtain ⟨a2,a3,c⟩:=zD c
   refine zT rfl rfl (zO en71 rfl) (Fbgw d _ a3 _ _ _ (H.enter [] [])) ?_
   rintro _ bk ⟨rfl,a4⟩
   have H:=a1.step (a4.only:Only [] _ _)
   refine ⟨_,rfl,?_⟩
   obtain ⟨E,a5,c⟩:=zC c
   refine zG (zL (fU (p:=a2) rfl) a5)<| zG (yG (v:= .bool E) rfl rfl)<| zI (.bool E) ?_
   obtain rfl:=gI c
   exact (zZ (zF (meet ⟨(),(zJ rfl zK),H.pick []⟩)))
  have c:=zV u c
  refine yH ?_
  refine yH ?_
  refine yH ?_
  refine zG (yB (v:= .bool false) rfl rfl)<| zI (.bool false) ?_
  obtain rfl:=gI c
  exact (zZ (zF (meet ⟨(),(zJ rfl zK),H.pick []⟩)))
 rintro _ ρ bl H
 have c:=ar
 obtain rfl:=gI c
 refine (zX (fB (v1:= .bool C) rfl rfl ?_))
 exact ⟨rfl,H.pick []⟩
theorem Faew (d:Int)(f:Int)(h:Int)(r:Bool)(c:Fae d f h=some r)(O S:List Nat)(w:World)(H:Hd O w w S []):
  Cl 98 [i6 d,i6 f,i6 h] w fun e l=>e= .returned (.bool r)∧Hd O w l S []:=by
 unfold Fae at c
 refine CW 15 Tryz.func98 ?_
 refine zB fun s m=>zA<| zI (.bool false)<| RN m ?_
 obtain ⟨j,c,n⟩:=zD c
 refine yI [6,7,8,9,10,11,12,13,14] (fun (g:Unit)=>[(6,.bool j)]) (fun g wl=>Hd O w wl S []) ?_ ?_
 ·skip
  refine zA ?_
  refine zH (i6 d)<| zH (i6 f) ?_
  obtain ⟨o,p,c⟩:=zC c
  refine zG (zL (xI (a:=d) (b:=f) rfl rfl) p)<| xC (b:=o) rfl rfl rfl (fun i=>?_) (fun i=>?_)
  ·have c:=zU i c
   refine yH ?_
   refine yH ?_
   refine yH ?_
   refine zG (yG (v:= .bool true) rfl rfl)<| zI (.bool true) ?_
   obtain rfl:=gI c
   exact (zZ (zF (meet ⟨(),(zJ rfl zK),H.pick []⟩)))
  have c:=zV i c
  refine zH (i6 d)<| zH (i6 h) ?_
  obtain ⟨k,q,c⟩:=zC c
  refine zG (zL (dD (a:=d) (b:=h) rfl rfl) q)<| zG (yB (v:= .bool k) rfl rfl)<| zI (.bool k) ?_
  obtain rfl:=gI c
  exact (zZ (zF (meet ⟨(),(zJ rfl zK),H.pick []⟩)))
 rintro _ ρ t H
 have c:=n
 obtain rfl:=gI c
 refine (zX (fB (v1:= .bool j) rfl rfl ?_))
 exact ⟨rfl,H.pick []⟩
theorem Fb0w (c:Int)(r:Bool)(d:Fb0 c=some r)(O S:List Nat)(w:World)(H:Hd O w w S []):
  Cl 131 [i6 c] w fun e g=>e= .returned (.bool r)∧Hd O w g S []:=by
 unfold Fb0 at d
 refine CW 5 Tryz.func131 ?_
 refine zB fun k h=>zA<| zI (.bool false)<| RN h<| zB fun l i=>zA<| zH (i6 c) ?_
 obtain ⟨f,j,d⟩:=zC d
 refine zG (zL (bI (a:=c) (b:=2) rfl rfl) j)<| zI (.bool f)<| RN i ?_
 obtain rfl:=gI d
 refine (zX (fB (v1:= .bool f) rfl rfl ?_))
 exact ⟨rfl,H.pick []⟩
theorem Fa4w (d:fC)(r:Int)(c:Fa4 d=some r)(O S:List Nat)(w:World)(H:Hd O w w S []):
  Cl 99 [.agg [i6 d.At,i6 d.N,i6 d.Mark].toArray] w fun e q=>e= .returned (i6 r)∧Hd O w q S []:=by
 unfold Fa4 at c
 refine CW 25 Tryz.func99 ?_
 refine zB fun K1 s=>zA<| yT rfl rfl (fQ (cs:=[i6 d.At,i6 d.N,i6 d.Mark]) rfl H) ?_
 rintro _ w4 ⟨l,rfl,H⟩
 refine zI (i6 0)<| RN s<| zB fun ae t=>?_
 obtain ⟨m,c,u⟩:=zD c
 refine yI [3,4,5,6,7,8,9,10,11,12,13,14,15] (fun (g:Unit)=>[(15,.bool m)]) (fun g wl=>Hd O w wl S [.blk l [i6 d.At,i6 d.N,i6 d.Mark] 46]) ?_ ?_
 ·skip
  refine zA ?_
  refine zG (jF rfl)<| Ld fJ H 0 0 rfl rfl ?_
  have x:=H
  obtain ⟨y,z,c⟩:=zD c
  refine zT rfl rfl (zO en98 rfl) (Faew d.At 0 1099511627776 _ z _ _ _ (H.enter [] [])) ?_
  rintro _ af ⟨rfl,A⟩
  have H:=x.step (A.only:Only [] _ _)
  refine ⟨_,rfl,?_⟩
  obtain ⟨n,c,B⟩:=zD c
  refine eH 5 [6,7,8,9,10] [(10,.bool n)] (fun wl=>Hd O w wl S [.blk l [i6 d.At,i6 d.N,i6 d.Mark] 46]) ?_ ?_
  ·skip
   refine xC (b:=y) rfl rfl rfl (fun f=>?_) (fun f=>?_)
   ·have c:=zU f c
    refine yH ?_
    refine yH ?_
    refine yH ?_
    refine zG (yG (v:= .bool true) rfl rfl) ?_
    obtain rfl:=gI c
    exact zZ (zF (meet ⟨(zJ rfl zK),H.pick [0]⟩))
   have c:=zV f c
   refine zG (mZ rfl)<| Ld fJ H 0 1 rfl rfl ?_
   have C:=H
   obtain ⟨D,E,c⟩:=zD c
   refine zT rfl rfl (zO en98 rfl) (Faew d.N (-1125899906842624) 1125899906842624 _ E _ _ _ (H.enter [] [])) ?_
   rintro _ ag ⟨rfl,F⟩
   have H:=C.step (F.only:Only [] _ _)
   refine ⟨_,rfl,?_⟩
   refine zG (yB (v:= .bool D) rfl rfl) ?_
   obtain rfl:=gI c
   exact zZ (zF (meet ⟨(zJ rfl zK),H.pick [0]⟩))
  rintro ρ ah H
  have c:=B
  refine xC (b:=n) rfl rfl rfl (fun h=>?_) (fun h=>?_)
  ·have c:=zU h c
   refine yH ?_
   refine yH ?_
   refine yH ?_
   refine zG (yG (v:= .bool true) rfl rfl) ?_
   obtain rfl:=gI c
   exact (zZ (zF (meet ⟨(),(zJ rfl zK),H.pick [0]⟩)))
  have c:=zV h c
  refine zG (pK rfl)<| Ld fJ H 0 2 rfl rfl ?_
  have G:=H
  obtain ⟨I,J,c⟩:=zD c
  refine zT rfl rfl (zO en98 rfl) (Faew d.Mark 0 4 _ J _ _ _ (H.enter [] [])) ?_
  rintro _ ai ⟨rfl,K⟩
  have H:=G.step (K.only:Only [] _ _)
  refine ⟨_,rfl,?_⟩
  refine zG (yB (v:= .bool I) rfl rfl) ?_
  obtain rfl:=gI c
  exact (zZ (zF (meet ⟨(),(zJ rfl zK),H.pick [0]⟩)))
 rintro _ ρ aj H
 have c:=u
 refine yC (b:=m) rfl (fun i=>?_) (fun i=>?_)
 ·have c:=zU i c
  refine zB fun ak L=>zA<| zI (i6 9)<| RN L ?_
  obtain rfl:=gI c
  refine (zX (zS (fB (v1:=i6 9) rfl rfl ?_)))
  exact ⟨rfl,H.pick []⟩
 have c:=zV i c
 refine zQ (zF (t _ _ ?_))
 refine zB fun al M=>?_
 obtain ⟨o,c,P⟩:=zD c
 refine yI [16,17,18,19,20,21,22,23,24] (fun (g:Unit)=>[(24,.bool o)]) (fun g wl=>Hd O w wl S []) ?_ ?_
 ·skip
  refine zA ?_
  refine zG (mZ rfl)<| Ld fJ H 0 1 rfl rfl ?_
  obtain ⟨Q,R,c⟩:=zC c
  refine zG (zL (eQ (a:=d.N) (b:=0) rfl rfl) R)<| xC (b:=Q) rfl rfl rfl (fun j=>?_) (fun j=>?_)
  ·have c:=zU j c
   refine zG (pK rfl)<| Ld fJ H 0 2 rfl rfl ?_
   have T:=H
   obtain ⟨U,V,c⟩:=zD c
   refine zT rfl rfl (zO en131 rfl) (Fb0w d.Mark _ V _ _ _ (H.enter [] [])) ?_
   rintro _ am ⟨rfl,X⟩
   have H:=T.step (X.only:Only [] _ _)
   refine ⟨_,rfl,?_⟩
   obtain ⟨Y,Z,c⟩:=zC c
   refine zG (zL (fU (p:=U) rfl) Z)<| zG (yG (v:= .bool Y) rfl rfl) ?_
   obtain rfl:=gI c
   exact (zZ (zF (meet ⟨(),(zJ rfl zK),H.pick []⟩)))
  have c:=zV j c
  refine yH ?_
  refine yH ?_
  refine yH ?_
  refine yH ?_
  refine zG (yB (v:= .bool false) rfl rfl) ?_
  obtain rfl:=gI c
  exact (zZ (zF (meet ⟨(),(zJ rfl zK),H.pick []⟩)))
 rintro _ ρ an H
 have c:=P
 refine yC (b:=o) rfl (fun k=>?_) (fun k=>?_)
 ·have c:=zU k c
  refine zB fun ao aa=>zA<| zI (i6 2)<| RN aa ?_
  obtain rfl:=gI c
  refine (zX (zS (fB (v1:=i6 2) rfl rfl ?_)))
  exact ⟨rfl,H.pick []⟩
 have c:=zV k c
 refine zQ (zF (M _ _ ?_))
 refine zB fun ap ab=>zA<| zI (i6 0)<| RN ab ?_
 obtain rfl:=gI c
 refine (zX (fB (v1:=i6 0) rfl rfl ?_))
 exact ⟨rfl,H.pick []⟩
set_option maxRecDepth 100000 in
theorem Fa9w (f:Series)(v1:Value)(r:Int×Int)(c:Fa9 f=some r)(O S:List Nat)(w:World)(H:Hd O w w S [f1 gW v1 f.Samples]):
  Cl 72 [.agg [i6 f.Den,v1].toArray] w fun e k=>e= .returned (.tuple #[i6 r.1,i6 r.2])∧Hd O w k S []:=by
 unfold Fa9 at c
 refine CW 49 Tryz.func72 ?_
 refine zB fun K3 D=>zA<| yT rfl rfl (fQ (cs:=[i6 f.Den,v1]) rfl H) ?_
 rintro _ w6 ⟨y,rfl,H⟩
 refine zI (i6 0)<| zI (i6 0)<| RN D<| zB fun bx E=>zB fun bz F=>zA<| zG (uU rfl)<| Ld fJ H 1 0 rfl rfl ?_
 have G:=H
 obtain ⟨I,J,c⟩:=zD c
 refine zT rfl rfl (zO en98 rfl) (Faew f.Den 1 1000000 _ J _ _ _ (H.enter [] [])) ?_
 rintro _ b0 ⟨rfl,K⟩
 have H:=G.step (K.only:Only [] _ _)
 refine ⟨_,rfl,?_⟩
 refine RN F<| yC (b:=I) rfl (fun l=>?_) (fun l=>?_)
 ·have c:=zU l c
  refine zB fun b1 L=>zA<| zI (i6 (-1))<| zI (i6 9)<| RN L ?_
  obtain rfl:=gI c
  refine (zX (zS (kC (v1:=i6 (-1)) (v2:=i6 9) rfl rfl rfl ?_)))
  exact ⟨rfl,H.pick []⟩
 have c:=zV l c
 refine zQ (zF (E _ _ ?_))
 refine zB fun b2 M=>?_
 refine zB fun b3 P=>zA<| zG (dS rfl)<| Ld bY H 1 1 rfl rfl ?_
 obtain ⟨Q,R,c⟩:=zC c
 obtain ⟨b4,b5,T⟩:=SlF.len ((H.item (i:=0) rfl))
 refine zG (yJ (xJ u37 T) (congrArg (Value.int .i64) R)) ?_
 obtain ⟨U,V,c⟩:=zC c
 refine zG (zL (dD (a:=Q) (b:=20000) rfl rfl) V)<| RN P<| yC (b:=U) rfl (fun m=>?_) (fun m=>?_)
 ·have c:=zU m c
  refine zB fun b6 X=>zA<| zI (i6 (-1))<| zI (i6 3)<| RN X ?_
  obtain rfl:=gI c
  refine (zX (zS (kC (v1:=i6 (-1)) (v2:=i6 3) rfl rfl rfl ?_)))
  exact ⟨rfl,H.pick []⟩
 have c:=zV m c
 refine zQ (zF (M _ _ ?_))
 obtain ⟨Y,Z,c⟩:=xH c
 refine yI [2,3,4,5,13,14,15,16,17,18,19,20,21,22,23,24,25,26,27,28,29,30,31,32,33,34,35,36,37,38,39,40,41,42,43,44,45,46,47,48] (fun (g:Unit)=>[]) (fun g wl=>Hd O w wl S []∧Y ()=some r) ?_ ?_
 ·skip
  refine zB fun b7 aa=>zA<| zI (i6 0)<| RN aa<| zY ?_
  unfold Fbv at c
  obtain ⟨ab,z,ac,c⟩:=yK c
  refine yX [2,3,4,5,13,14,15,16,17,18,19,20,21,22,23,24,25,26,27,28,29,30,31,32,33,34,35,36,37,38,39,40,41,42,43,44,45,46,47,48] (fun (g:Nat×Int)=>[(4,i6 g.2)]) (fun g wl=>Hd O w wl S [f1 gW v1 f.Samples,.blk y [i6 f.Den,v1] 39]∧fE ab g.1 g.2=some r) (fun g=>g.1) (z,0) (zJ rfl zK) ⟨H.pick [0,1],c⟩ ?_
  clear H c
  rintro ⟨z,d⟩ ρ b8 ⟨H,c⟩
  obtain ⟨ad,rfl,c⟩:=yO c
  have c:=yN ac c
  refine zB fun b9 ae=>?_
  refine zB fun ca af=>zA<| zH (i6 d)<| zG (dS rfl)<| Ld bY H 1 1 rfl rfl ?_
  obtain ⟨ag,ah,c⟩:=zC c
  obtain ⟨cb,cc,ai⟩:=SlF.len ((H.item (i:=0) rfl))
  refine zG (yJ (xJ u37 ai) (congrArg (Value.int .i64) ah)) ?_
  obtain ⟨aj,ak,c⟩:=zC c
  refine zG (zL (xI (a:=d) (b:=ag) rfl rfl) ak)<| RN af<| yC (b:=aj) rfl (fun n=>?_) (fun n=>?_)
  ·have c:=zU n c
   refine zQ (zF (ae _ _ ?_))
   refine zB fun cd al=>?_
   refine zY ?_
   refine zB fun ce am=>?_
   refine zB fun cf an=>zA<| zG (dS rfl)<| Ld bY H 1 1 rfl rfl<| zH (i6 d) ?_
   obtain ⟨j,o,c⟩:=zD c
   obtain ⟨ao,ap,cg,ch,aq,ar,au,av,aw⟩:=xU (H.item (i:=0) rfl) o
   obtain rfl:=xW ar
   have H:=H.fz (.at ao (ap+d.toNat * 3) _) ⟨au,av,aw⟩
   refine zG (yU u37 dV aq rfl (zN o).1 (zN o).2.1 rfl rfl)<| zG (yJ (yL (cs:=[i6 j.At,i6 j.N,i6 j.Mark]) aZ rfl dV rfl (H.item (i:=2) rfl).2.2) rfl) ?_
   have ax:=H
   obtain ⟨h,ay,c⟩:=zD c
   refine zT rfl rfl (zO en99 rfl) (Fa4w j _ ay _ _ _ (H.enter [] [])) ?_
   rintro _ ci ⟨rfl,az⟩
   have H:=ax.step (az.only:Only [] _ _)
   refine ⟨_,rfl,?_⟩
   refine zI (i6 h)<| RN an<| zB fun cj a0=>zA<| zH (i6 h) ?_
   obtain ⟨a1,a2,c⟩:=zC c
   refine zG (zL (eQ (a:=h) (b:=0) rfl rfl) a2)<| RN a0<| yC (b:=a1) rfl (fun p=>?_) (fun p=>?_)
   ·have c:=zU p c
    refine zB fun ck a3=>zA<| zH (i6 d)<| zH (i6 h)<| zI (i6 d)<| zI (i6 h)<| RN a3 ?_
    obtain rfl:=gI c
    refine (zX (zS (yE (zS (zS (yE (zS (kC (v1:=i6 d) (v2:=i6 h) rfl rfl rfl ?_))))))))
    exact ⟨rfl,H.pick []⟩
   have c:=zV p c
   refine zQ (zF (am _ _ ?_))
   obtain ⟨A,c,a4⟩:=zD c
   refine yI [30,31,32,33,34,35,36,37,38,39,40,41,42,43,44,45,46,47] (fun (g:Unit)=>[(47,.bool A)]) (fun g wl=>Hd O w wl S [f1 gW v1 f.Samples,.blk y [i6 f.Den,v1] 39]) ?_ ?_
   ·skip
    have B:=H
    have H:=H.rebase
    have cl:=H
    refine WP_mix0 H [0,1,2,3,4,5,6,7,8,9,10,11,12,13,14,15,16,17] (kz [0,0,0,0,1,0,0,0,1,0,1,0,0,0,0,1,0,0]) mixed ?_
    refine XM (i6 d) ?_
    obtain ⟨a5,a6,c⟩:=zC c
    refine XP (fun _ _=>zL (dD (a:=d) (b:=0) rfl rfl) a6)<| MxM.XL_splitb (b:=a5) rfl rfl rfl rfl (fun q=>?_) (fun q=>?_)
    ·have c:=zU q c
     refine XP (fun _ _=>dS rfl)<| XR bY H 1 1 rfl rfl<| XM (i6 d) ?_
     obtain ⟨a7,s,c⟩:=zD c
     obtain ⟨a8,a9,cm,cn,ba,bb,bc,bd,be⟩:=xU (H.item (i:=0) rfl) s
     obtain rfl:=xW bb
     have H:=H.fz (.at a8 (a9+d.toNat * 3) _) ⟨bc,bd,be⟩
     refine XP (fun _ _=>yU u37 dV ba rfl (zN s).1 (zN s).2.1 rfl rfl)<| XP (fun _ _=>jF rfl)<| MxM.xN oS rfl rfl rfl (fun k t=>yZ fJ rfl (Cells.get ((H.sees t).item (i:=3) rfl).2.2 (i:=0) rfl))<| XP (fun _ _=>dS rfl)<| XR bY H 1 1 rfl rfl<| XM (i6 d) ?_
     obtain ⟨bf,bg,c⟩:=zC c
     refine XP (fun _ _=>dH (a:=d) (b:=1) rfl rfl bg) ?_
     obtain ⟨bh,u,c⟩:=zD c
     obtain ⟨bi,bj,co,cp,bk,bl,bm,bn,bo⟩:=xU (H.item (i:=0) rfl) u
     obtain rfl:=xW bl
     have H:=H.fz (.at bi (bj+bf.toNat * 3) _) ⟨bm,bn,bo⟩
     refine XP (fun _ _=>yU u37 dV bk rfl (zN u).1 (zN u).2.1 rfl rfl)<| XP (fun _ _=>jF rfl)<| MxM.xN oS rfl rfl rfl (fun k t=>yZ fJ rfl (Cells.get ((H.sees t).item (i:=4) rfl).2.2 (i:=0) rfl)) ?_
     obtain ⟨bp,bq,c⟩:=zC c
     refine XP (fun _ _=>zL (bV (a:=a7.At) (b:=bh.At) rfl rfl) bq)<| XP (fun _ _=>yG (v:= .bool bp) rfl rfl)<| MxM.XL_nil fun cq hS=>?_
     have H:=H.sees hS
     have H:=B.rejoin H
     obtain rfl:=gI c
     exact (zF (meet ⟨(),(zJ rfl zK),H.pick [0,1]⟩))
    have c:=zV q c
    refine XO<| MxM.XL_offr oS rfl rfl rfl ?_
    refine XO<| XO<| XO<| MxM.XL_offr oS rfl rfl rfl ?_
    refine XO<| MxM.XL_offr oS rfl rfl rfl ?_
    refine XO<| XO<| XO<| XO<| MxM.XL_offr oS rfl rfl rfl ?_
    refine XO<| XP (fun _ _=>yB (v:= .bool false) rfl rfl)<| MxM.XL_nil fun cr hS=>?_
    have H:=H.sees hS
    have H:=B.rejoin H
    obtain rfl:=gI c
    exact (zF (meet ⟨(),(zJ rfl zK),H.pick [0,1]⟩))
   rintro _ ρ ct H
   have c:=a4
   refine yC (b:=A) rfl (fun x=>?_) (fun x=>?_)
   ·have c:=zU x c
    refine zB fun cu br=>zA<| zH (i6 d)<| zI (i6 d)<| zI (i6 10)<| RN br ?_
    obtain rfl:=gI c
    refine (zX (yE (zS (zS (yE (zS (kC (v1:=i6 d) (v2:=i6 10) rfl rfl rfl ?_)))))))
    exact ⟨rfl,H.pick []⟩
   have c:=zV x c
   refine (zQ (yV (zF (al _ _ ?_))))
   refine zA ?_
   refine zH (i6 d) ?_
   obtain ⟨C,bt,c⟩:=zC c
   refine zG (xP (a:=d) (b:=1) rfl rfl bt)<| zI (i6 C) ?_
   exact (zZ (zF (meet ⟨(ad,C),(zJ rfl zK),⟨H.pick [0,1],c⟩,Nat.lt_succ_self _⟩)))
  have c:=zV n c
  exact (xG (yD (yD (yS (zF (meet ⟨(),zK,⟨H.pick [],c⟩⟩))))))
 rintro _ ρ cv ⟨H,c⟩
 have c:=xO Z c
 refine zB fun cw bu=>zA<| zI (i6 (-1))<| zI (i6 0)<| RN bu ?_
 obtain rfl:=gI c
 refine (zX (kC (v1:=i6 (-1)) (v2:=i6 0) rfl rfl rfl ?_))
 exact ⟨rfl,H.pick []⟩
theorem Faww (a:Series)(v1:Value)(r:Int)(c:Faw a=some r)(O S:List Nat)(w:World)(H:Hd O w w S [f1 gW v1 a.Samples]):
  Cl 50 [.agg [i6 a.Den,v1].toArray] w fun e f=>e= .returned (i6 r)∧Hd O w f S []:=by
 unfold Faw at c
 refine CW 11 Tryz.func50 ?_
 refine zB fun m g=>zA<| yT rfl rfl (fQ (cs:=[i6 a.Den,v1]) rfl H) ?_
 rintro _ n ⟨o,rfl,H⟩
 refine zI (i6 0)<| RN g<| zB fun p h=>zA<| zG (yJ (yL (cs:=[i6 a.Den,v1]) rF rfl aBo rfl (Hbc H 1 rfl)) rfl) ?_
 have i:=H
 obtain ⟨⟨d,b⟩,j,c⟩:=zD c
 refine zT rfl rfl (zO en72 rfl) (Fa9w a v1 _ j _ _ _ (H.enter [] [0])) ?_
 rintro _ q ⟨rfl,k⟩
 have H:=i.step (k.only:Only [] _ _)
 refine ⟨_,rfl,?_⟩
 refine zH (.tuple #[i6 d,i6 b])<| zG (xA (v:=i6 d) rfl rfl)<| zG (xA (v:=i6 b) rfl rfl)<| zI (i6 d)<| zI (i6 b)<| RN h<| zB fun s l=>zA<| zH (i6 b)<| zI (i6 b)<| RN l ?_
 obtain rfl:=gI c
 refine (zX (fB (v1:=i6 b) rfl rfl ?_))
 exact ⟨rfl,H.pick []⟩
set_option maxRecDepth 100000 in
theorem Fa1w (f:List gV)(v1:Value)(r:Int)(c:Fa1 f=some r)(O S:List Nat)(w:World)(H:Hd O w w S [f1 fD v1 f]):
  Cl 22 [v1] w fun e k=>e= .returned (i6 r)∧Hd O w k S []:=by
 unfold Fa1 at c
 refine CW 53 Tryz.func22 ?_
 refine zB fun K3 M=>zA<| zI (i6 0)<| RN M<| zB fun c8 N=>zB fun c9 P=>zA<| zH v1 ?_
 obtain ⟨Q,R,c⟩:=zC c
 obtain ⟨da,db,T⟩:=SlF.len ((H.item (i:=0) rfl))
 refine zG (yJ (xJ u22 T) (congrArg (Value.int .i64) R)) ?_
 obtain ⟨U,V,c⟩:=zC c
 refine zG (zL (dD (a:=Q) (b:=50) rfl rfl) V)<| RN P<| yC (b:=U) rfl (fun l=>?_) (fun l=>?_)
 ·have c:=zU l c
  refine zB fun dc X=>zA<| zI (i6 3)<| RN X ?_
  obtain rfl:=gI c
  refine (zX (zS (fB (v1:=i6 3) rfl rfl ?_)))
  exact ⟨rfl,H.pick []⟩
 have c:=zV l c
 refine zQ (zF (N _ _ ?_))
 obtain ⟨Y,Z,c⟩:=xH c
 refine yI [2,3,4,5,9,10,11,12,13,14,15,16,17,18,19,20,21,22,23,24,25,26,27,28,29,30,31,32,33,34,35,36,37,38,39,40,41,42,43,44,45,46,47,48,49,50,51,52] (fun (g:Unit)=>[]) (fun g wl=>Hd O w wl S []∧Y ()=some r) ?_ ?_
 ·skip
  refine zB fun dd aa=>zA<| zI (i6 0)<| RN aa<| zY ?_
  unfold Fch at c
  obtain ⟨ab,D,ac,c⟩:=yK c
  refine yX [2,3,4,5,9,10,11,12,13,14,15,16,17,18,19,20,21,22,23,24,25,26,27,28,29,30,31,32,33,34,35,36,37,38,39,40,41,42,43,44,45,46,47,48,49,50,51,52] (fun (g:Nat×Int)=>[(3,i6 g.2)]) (fun g wl=>Hd O w wl S [f1 fD v1 f]∧fE ab g.1 g.2=some r) (fun g=>g.1) (D,0) (zJ rfl zK) ⟨H.pick [0],c⟩ ?_
  clear H c
  rintro ⟨D,d⟩ ρ de ⟨H,c⟩
  obtain ⟨ad,rfl,c⟩:=yO c
  have c:=yN ac c
  refine zB fun df ae=>?_
  refine zB fun dg af=>zA<| zH (i6 d)<| zH v1 ?_
  obtain ⟨ag,ah,c⟩:=zC c
  obtain ⟨dh,di,ai⟩:=SlF.len ((H.item (i:=0) rfl))
  refine zG (yJ (xJ u22 ai) (congrArg (Value.int .i64) ah)) ?_
  obtain ⟨aj,ak,c⟩:=zC c
  refine zG (zL (xI (a:=d) (b:=ag) rfl rfl) ak)<| RN af<| yC (b:=aj) rfl (fun m=>?_) (fun m=>?_)
  ·have c:=zU m c
   refine zQ (zF (ae _ _ ?_))
   obtain ⟨al,am,c⟩:=xH c
   refine yI [2,4,5,15,16,17,18,19,20,21,22,23,24,25,26,27,28,29,30,31,32,33,34,35,36,37,38,39,40,41,42,43,44,45,46,47,48,49,50,51,52] (fun (g:Unit)=>[]) (fun g wl=>Hd O w wl S [f1 fD v1 f]∧al ()=some r) ?_ ?_
   ·skip
    refine zY ?_
    refine zB fun dj an=>?_
    refine zB fun dk ao=>zA<| zH v1<| zH (i6 d) ?_
    obtain ⟨E,n,c⟩:=zD c
    obtain ⟨ap,aq,dl,dm,ar,au,av,aw,ax⟩:=xU (H.item (i:=0) rfl) n
    obtain ⟨ay,rfl,az⟩:=xR au
    have H:=H.fzs [.at ap (aq+d.toNat * 4) _,.sl gW ay E.Series.Samples] ⟨⟨av,aw,ax⟩,az,trivial⟩
    refine zG (yU u22 cO ar rfl (zN n).1 (zN n).2.1 rfl rfl)<| zG (jE rfl)<| zG (yZ dQ rfl (Cells.get (H.item (i:=1) rfl).2.2 (i:=0) rfl)) ?_
    have a0:=H
    obtain ⟨a1,a2,c⟩:=zD c
    refine zT rfl rfl (zO en49 rfl) (Fbhw E.Name _ a2 _ _ _ (H.enter [] [])) ?_
    rintro _ dn ⟨rfl,a3⟩
    have H:=a0.step (a3.only:Only [] _ _)
    refine ⟨_,rfl,?_⟩
    obtain ⟨a4,a5,c⟩:=zC c
    refine zG (zL (fU (p:=a1) rfl) a5)<| RN ao<| yC (b:=a4) rfl (fun o=>?_) (fun o=>?_)
    ·have c:=zU o c
     refine zB fun dp a6=>zA<| zI (i6 8)<| RN a6 ?_
     obtain rfl:=gI c
     refine (zX (zS (yE (zS (zS (yE (zS (fB (v1:=i6 8) rfl rfl ?_))))))))
     exact ⟨rfl,H.pick []⟩
    have c:=zV o c
    refine zQ (zF (an _ _ ?_))
    obtain ⟨a7,a8,c⟩:=xH c
    refine yI [2,4,22,23,24,25,26,27,28,29,30,31,32,33,34,35,36,37] (fun (g:Unit)=>[]) (fun g wl=>Hd O w wl S [f1 fD v1 f]∧a7 ()=some r) ?_ ?_
    ·skip
     refine zB fun dq a9=>zA<| zI (i6 0)<| RN a9<| zY ?_
     unfold Fb4 at c
     obtain ⟨ba,F,bb,c⟩:=yK c
     refine yX [2,4,22,23,24,25,26,27,28,29,30,31,32,33,34,35,36,37] (fun (g:Nat×Int)=>[(4,i6 g.2)]) (fun g wl=>Hd O w wl S [f1 fD v1 f]∧fE ba g.1 g.2=some r) (fun g=>g.1) (F,0) (zJ rfl zK) ⟨H.pick [0],c⟩ ?_
     clear H c
     rintro ⟨F,h⟩ ρ dr ⟨H,c⟩
     obtain ⟨bc,rfl,c⟩:=yO c
     have c:=yN bb c
     refine zB fun ds bd=>?_
     refine zB fun dt be=>zA<| zH (i6 h)<| zH (i6 d) ?_
     obtain ⟨bf,bg,c⟩:=zC c
     refine zG (zL (xI (a:=h) (b:=d) rfl rfl) bg)<| RN be<| yC (b:=bf) rfl (fun q=>?_) (fun q=>?_)
     ·have c:=zU q c
      refine zQ (zF (bd _ _ ?_))
      refine zB fun du bh=>?_
      refine zY ?_
      refine zB fun dv bi=>?_
      have bj:=H
      have H:=H.rebase
      have dw:=H
      refine WP_mix0 H [0,1,2,3,4,5,6,7,8,9,10] (kz [0,0,0,0,1,0,0,0,0,1,0]) mixed ?_
      refine XM v1<| XM (i6 h) ?_
      obtain ⟨G,s,c⟩:=zD c
      obtain ⟨bk,bl,dx,dy,bm,bn,bo,bp,bq⟩:=xU (H.item (i:=0) rfl) s
      obtain ⟨br,rfl,bt⟩:=xR bn
      have H:=H.fzs [.at bk (bl+h.toNat * 4) _,.sl gW br G.Series.Samples] ⟨⟨bo,bp,bq⟩,bt,trivial⟩
      refine XP (fun _ _=>yU u22 cO bm rfl (zN s).1 (zN s).2.1 rfl rfl)<| XP (fun _ _=>jE rfl)<| MxM.xN oS rfl rfl rfl (fun k t=>yZ dQ rfl (Cells.get ((H.sees t).item (i:=1) rfl).2.2 (i:=0) rfl))<| XM v1<| XM (i6 d) ?_
      obtain ⟨I,u,c⟩:=zD c
      obtain ⟨bu,bv,dz,d0,bw,bx,bz,b0,b1⟩:=xU (H.item (i:=0) rfl) u
      obtain ⟨b2,rfl,b3⟩:=xR bx
      have H:=H.fzs [.at bu (bv+d.toNat * 4) _,.sl gW b2 I.Series.Samples] ⟨⟨bz,b0,b1⟩,b3,trivial⟩
      refine XP (fun _ _=>yU u22 cO bw rfl (zN u).1 (zN u).2.1 rfl rfl)<| XP (fun _ _=>jE rfl)<| MxM.xN oS rfl rfl rfl (fun k t=>yZ dQ rfl (Cells.get ((H.sees t).item (i:=3) rfl).2.2 (i:=0) rfl)) ?_
      obtain ⟨b4,b5,c⟩:=zC c
      refine XP (fun _ _=>zL (fO (s1:=G.Name) (s2:=I.Name) rfl rfl) b5)<| MxM.XL_nil fun d1 hS=>?_
      have H:=H.sees hS
      have H:=bj.rejoin H
      refine (zF (bi _ _ ?_))
      refine yC (b:=b4) rfl (fun v=>?_) (fun v=>?_)
      ·have c:=zU v c
       refine zB fun d2 b6=>zA<| zI (i6 5)<| RN b6 ?_
       obtain rfl:=gI c
       refine (zX (yE (zS (zS (yE (zS (yE (zS (zS (yE (zS (fB (v1:=i6 5) rfl rfl ?_))))))))))))
       exact ⟨rfl,H.pick []⟩
      have c:=zV v c
      refine (zQ (yV (zF (bh _ _ ?_))))
      refine zA ?_
      refine zH (i6 h) ?_
      obtain ⟨J,b7,c⟩:=zC c
      refine zG (xP (a:=h) (b:=1) rfl rfl b7)<| zI (i6 J) ?_
      exact (zZ (zF (meet ⟨(bc,J),(zJ rfl zK),⟨H.pick [0],c⟩,Nat.lt_succ_self _⟩)))
     have c:=zV q c
     exact (xG (yD (yD (yS (zF (meet ⟨(),zK,⟨H.pick [0],c⟩⟩))))))
    rintro _ ρ d3 ⟨H,c⟩
    have c:=xO a8 c
    refine zB fun d4 b8=>?_
    refine zB fun d5 b9=>zA<| zH v1<| zH (i6 d) ?_
    obtain ⟨x,y,c⟩:=zD c
    obtain ⟨ca,cb,d6,d7,cc,cd,ce,cf,cg⟩:=xU (H.item (i:=0) rfl) y
    obtain ⟨z,rfl,ch⟩:=xR cd
    have H:=H.fzs [.at ca (cb+d.toNat * 4) _,.sl gW z x.Series.Samples] ⟨⟨ce,cf,cg⟩,ch,trivial⟩
    refine zG (yU u22 cO cc rfl (zN y).1 (zN y).2.1 rfl rfl)<| zG (aV rfl)<| zG (yJ (yL (cs:=[i6 x.Series.Den,z]) rF rfl aBo rfl (Cells.drop (H.item (i:=1) rfl).2.2 1 2)) rfl) ?_
    have ci:=H
    obtain ⟨j,cj,c⟩:=zD c
    refine zT rfl rfl (zO en50 rfl) (Faww x.Series z _ cj _ _ _ (H.enter [] [2])) ?_
    rintro _ d8 ⟨rfl,ck⟩
    have H:=ci.step (ck.only:Only [] _ _)
    refine ⟨_,rfl,?_⟩
    refine zI (i6 j)<| RN b9<| zB fun d9 cl=>zA<| zH (i6 j) ?_
    obtain ⟨cm,cn,c⟩:=zC c
    refine zG (zL (eQ (a:=j) (b:=0) rfl rfl) cn)<| RN cl<| yC (b:=cm) rfl (fun A=>?_) (fun A=>?_)
    ·have c:=zU A c
     refine zB fun ea co=>zA<| zH (i6 j)<| zI (i6 j)<| RN co ?_
     obtain rfl:=gI c
     refine (zX (zS (yE (zS (zS (yE (zS (fB (v1:=i6 j) rfl rfl ?_))))))))
     exact ⟨rfl,H.pick []⟩
    have c:=zV A c
    refine zQ (zF (b8 _ _ ?_))
    refine zB fun eb cp=>zA<| zH v1<| zH (i6 d) ?_
    obtain ⟨K,B,c⟩:=zD c
    obtain ⟨cq,cr,ec,ed,ct,cu,cv,cw,cx⟩:=xU (H.item (i:=0) rfl) B
    obtain ⟨cy,rfl,cz⟩:=xR cu
    have H:=H.fzs [.at cq (cr+d.toNat * 4) _,.sl gW cy K.Series.Samples] ⟨⟨cv,cw,cx⟩,cz,trivial⟩
    refine zG (yU u22 cO ct rfl (zN B).1 (zN B).2.1 rfl rfl)<| zG (aAf rfl)<| zG (yZ fJ rfl (Cells.get (H.item (i:=3) rfl).2.2 (i:=3) rfl)) ?_
    have c0:=H
    obtain ⟨c1,c2,c⟩:=zD c
    refine zT rfl rfl (zO en36 rfl) (Fasw K.Long 0 1099511627776 _ c2 _ _ _ (H.enter [] [])) ?_
    rintro _ ee ⟨rfl,c3⟩
    have H:=c0.step (c3.only:Only [] _ _)
    refine ⟨_,rfl,?_⟩
    refine RN cp<| yC (b:=c1) rfl (fun C=>?_) (fun C=>?_)
    ·have c:=zU C c
     refine zB fun ef c4=>zA<| zI (i6 9)<| RN c4 ?_
     obtain rfl:=gI c
     refine (zX (yE (zS (zS (yE (zS (fB (v1:=i6 9) rfl rfl ?_)))))))
     exact ⟨rfl,H.pick []⟩
    have c:=zV C c
    exact (zQ (yV (zF (meet ⟨(),zK,⟨H.pick [0],c⟩⟩))))
   rintro _ ρ eg ⟨H,c⟩
   have c:=xO am c
   refine zA ?_
   refine zH (i6 d) ?_
   obtain ⟨L,c5,c⟩:=zC c
   refine zG (xP (a:=d) (b:=1) rfl rfl c5)<| zI (i6 L) ?_
   exact (zZ (zF (meet ⟨(ad,L),(zJ rfl zK),⟨H.pick [0],c⟩,Nat.lt_succ_self _⟩)))
  have c:=zV m c
  exact (xG (yD (yD (yS (zF (meet ⟨(),zK,⟨H.pick [],c⟩⟩))))))
 rintro _ ρ eh ⟨H,c⟩
 have c:=xO Z c
 refine zB fun ei c6=>zA<| zI (i6 0)<| RN c6 ?_
 obtain rfl:=gI c
 refine (zX (fB (v1:=i6 0) rfl rfl ?_))
 exact ⟨rfl,H.pick []⟩
theorem Fbqw (c:Int)(r:Bool)(d:Fbq c=some r)(O S:List Nat)(w:World)(H:Hd O w w S []):
  Cl 51 [i6 c] w fun e g=>e= .returned (.bool r)∧Hd O w g S []:=by
 unfold Fbq at d
 refine CW 5 Tryz.func51 ?_
 refine zB fun k h=>zA<| zI (.bool false)<| RN h<| zB fun l i=>zA<| zH (i6 c) ?_
 obtain ⟨f,j,d⟩:=zC d
 refine zG (zL (bI (a:=c) (b:=3) rfl rfl) j)<| zI (.bool f)<| RN i ?_
 obtain rfl:=gI d
 refine (zX (fB (v1:= .bool f) rfl rfl ?_))
 exact ⟨rfl,H.pick []⟩
theorem Fa0w (f:Series)(k:Int)(o:Int)(v1:Value)(r:fC×Bool)(c:Fa0 f k o=some r)(O S:List Nat)(w:World)(H:Hd O w w S [f1 gW v1 f.Samples]):
  Cl 26 [.agg [i6 f.Den,v1].toArray,i6 k,i6 o] w fun e J=>e= .returned (.tuple #[.agg [i6 r.1.At,i6 r.1.N,i6 r.1.Mark].toArray,.bool r.2])∧Hd O w J S []:=by
 unfold Fa0 at c
 refine CW 56 Tryz.func26 ?_
 refine zB fun K3 K=>zA<| yT rfl rfl (fQ (cs:=[i6 f.Den,v1]) rfl H) ?_
 rintro _ w6 ⟨C,rfl,H⟩
 refine yT rfl rfl (xE jU H) ?_
 rintro _ w9 ⟨s,rfl,H⟩
 refine zI (.bool false)<| RN K<| zB fun bp L=>?_
 have M:=H
 have H:=H.rebase
 have bq:=H
 refine WP_mix0 H [0,1,2,3,4] (kz [0,1,0,0,0]) mixed ?_
 refine XP (fun _ _=>dS rfl)<| XR bY H 1 1 rfl rfl ?_
 obtain ⟨D,P,c⟩:=zC c
 obtain ⟨br,bt,Q⟩:=SlF.len ((H.item (i:=0) rfl))
 refine XP (fun _ _=>yJ (xJ u37 Q) (congrArg (Value.int .i64) P))<| XP (fun _ _=>dU (v:=i6 0) rfl)<| XP (fun _ _=>dU (v:=i6 D) rfl)<| MxM.XL_nil fun bu hS=>?_
 have H:=H.sees hS
 have H:=M.rejoin H
 refine (zF (L _ _ ?_))
 obtain ⟨l,c,R⟩:=zD c
 refine yI [8,9,10,15,16,17,18,19,20,21,22,23,24,25,26,27,28,29,30,31,32] (fun (g:Unit)=>[(8,i6 l)]) (fun g wl=>Hd O w wl S [f1 gW v1 f.Samples,.blk C [i6 f.Den,v1] 39,.blk s [i6 0,i6 0,i6 0] 46]) ?_ ?_
 ·skip
  refine zY ?_
  unfold Fby at c
  obtain ⟨T,E,U,c⟩:=yK c
  refine yX [8,9,10,15,16,17,18,19,20,21,22,23,24,25,26,27,28,29,30,31,32] (fun (g:Nat×Int×Int)=>[(8,i6 g.2.1),(9,i6 g.2.2)]) (fun g wl=>Hd O w wl S [f1 gW v1 f.Samples,.blk C [i6 f.Den,v1] 39,.blk s [i6 0,i6 0,i6 0] 46]∧fE T g.1 (g.2.1,g.2.2)=some l) (fun g=>g.1) (E,0,D) (zJ rfl (zJ rfl zK)) ⟨H.pick [0,1,2],c⟩ ?_
  clear H c
  rintro ⟨E,m,n⟩ ρ bv ⟨H,c⟩
  obtain ⟨F,rfl,c⟩:=yO c
  have c:=yN U c
  refine zB fun bw V=>?_
  refine zB fun bx X=>zA<| zH (i6 m)<| zH (i6 n) ?_
  obtain ⟨Y,Z,c⟩:=zC c
  refine zG (zL (xI (a:=m) (b:=n) rfl rfl) Z)<| RN X<| yC (b:=Y) rfl (fun t=>?_) (fun t=>?_)
  ·have c:=zU t c
   refine zQ (zF (V _ _ ?_))
   refine zY ?_
   refine zB fun bz aa=>zA<| zH (i6 m)<| zH (i6 n) ?_
   obtain ⟨ab,ac,c⟩:=zC c
   refine zG (xP (a:=m) (b:=n) rfl rfl ac) ?_
   obtain ⟨h,ad,c⟩:=zD c
   refine zG (Do_quo' (j:=ab) (q:=2) rfl rfl ad)<| zI (i6 h)<| RN aa<| zB fun b0 ae=>zA<| zG (dS rfl)<| Ld bY H 1 1 rfl rfl<| zH (i6 h) ?_
   obtain ⟨af,u,c⟩:=zD c
   obtain ⟨ag,ah,b1,b2,ai,aj,ak,al,am⟩:=xU (H.item (i:=0) rfl) u
   obtain rfl:=xW aj
   have H:=H.fz (.at ag (ah+h.toNat * 3) _) ⟨ak,al,am⟩
   refine zG (yU u37 dV ai rfl (zN u).1 (zN u).2.1 rfl rfl)<| zG (jF rfl)<| zG (yZ fJ rfl (Cells.get (H.item (i:=3) rfl).2.2 (i:=0) rfl))<| zH (i6 k) ?_
   obtain ⟨an,ao,c⟩:=zC c
   refine zG (zL (bV (a:=af.At) (b:=k) rfl rfl) ao)<| RN ae<| yC (b:=an) rfl (fun x=>?_) (fun x=>?_)
   ·have c:=zU x c
    refine zA ?_
    refine zH (i6 h) ?_
    obtain ⟨G,ap,c⟩:=zC c
    refine zG (xP (a:=h) (b:=1) rfl rfl ap)<| zI (i6 G) ?_
    exact (zZ (yV (zF (meet ⟨(F,G,n),(zJ rfl (zJ rfl zK)),⟨H.pick [0,1,2],c⟩,Nat.lt_succ_self _⟩))))
   have c:=zV x c
   refine zA ?_
   refine zH (i6 h)<| zI (i6 h) ?_
   exact (zZ (yV (zF (meet ⟨(F,m,h),(zJ rfl (zJ rfl zK)),⟨H.pick [0,1,2],c⟩,Nat.lt_succ_self _⟩))))
  have c:=zV t c
  obtain rfl:=gI c
  exact (xG (yD (yD (yS (zF (meet ⟨(),(zJ rfl zK),H.pick [0,1,2]⟩))))))
 rintro _ ρ b3 H
 have c:=R
 refine zB fun b4 aq=>?_
 refine zB fun b5 ar=>zA<| zH (i6 l) ?_
 obtain ⟨au,av,c⟩:=zC c
 refine zG (zL (fV (a:=l) (b:=0) rfl rfl) av)<| RN ar<| yC (b:=au) rfl (fun y=>?_) (fun y=>?_)
 ·have c:=zU y c
  refine zB fun b6 aw=>zA<| zG (eY (cs:=[i6 0,i6 0,i6 0]) bz46)<| xB rfl (yQ (vs:=[i6 0,i6 0,i6 0]) H 2 rfl dV rfl rfl rfl ⟨rfl,rfl,rfl,trivial⟩ rfl) ?_
  rintro b7 H
  refine zI (.bool false)<| RN aw ?_
  obtain rfl:=gI c
  refine (zX (zS (nV (v1:= .bool false) rfl rfl (yP aZ dV rfl (Hbc H 2 rfl)) rfl ?_)))
  exact ⟨rfl,H.pick []⟩
 have c:=zV y c
 refine zQ (zF (aq _ _ ?_))
 refine zB fun b8 ax=>zA<| zG (dS rfl)<| Ld bY H 1 1 rfl rfl<| zH (i6 l) ?_
 obtain ⟨ay,az,c⟩:=zC c
 refine zG (dH (a:=l) (b:=1) rfl rfl az) ?_
 obtain ⟨d,z,c⟩:=zD c
 obtain ⟨a0,a1,b9,ca,a2,a3,a4,a5,a6⟩:=xU (H.item (i:=0) rfl) z
 obtain rfl:=xW a3
 have H:=H.fz (.at a0 (a1+ay.toNat * 3) _) ⟨a4,a5,a6⟩
 refine zG (yU u37 dV a2 rfl (zN z).1 (zN z).2.1 rfl rfl)<| zG (yJ (yL (cs:=[i6 d.At,i6 d.N,i6 d.Mark]) aZ rfl dV rfl (H.item (i:=3) rfl).2.2) rfl)<| yT rfl rfl (xE jU H) ?_
 rintro _ cb ⟨a7,rfl,H⟩
 refine xB rfl (yQ (vs:=[i6 d.At,i6 d.N,i6 d.Mark]) H 4 rfl dV rfl rfl rfl ⟨rfl,rfl,rfl,trivial⟩ rfl) ?_
 rintro cc H
 refine RN ax<| zB fun cd a8=>?_
 obtain ⟨I,c,a9⟩:=zD c
 refine yI [42,43,44,45,46,47,48,49,50,51,52,53] (fun (g:Unit)=>[(53,.bool I)]) (fun g wl=>Hd O w wl S [.blk s [i6 0,i6 0,i6 0] 46,.blk a7 [i6 d.At,i6 d.N,i6 d.Mark] 46]) ?_ ?_
 ·skip
  refine zA ?_
  refine zG (pK rfl)<| Ld fJ H 4 2 rfl rfl ?_
  have ba:=H
  obtain ⟨bb,bc,c⟩:=zD c
  refine zT rfl rfl (zO en51 rfl) (Fbqw d.Mark _ bc _ _ _ (H.enter [] [])) ?_
  rintro _ ce ⟨rfl,bd⟩
  have H:=ba.step (bd.only:Only [] _ _)
  refine ⟨_,rfl,?_⟩
  obtain ⟨be,bf,c⟩:=zC c
  refine zG (zL (fU (p:=bb) rfl) bf)<| xC (b:=be) rfl rfl rfl (fun A=>?_) (fun A=>?_)
  ·have c:=zU A c
   refine yH ?_
   refine yH ?_
   refine yH ?_
   refine yH ?_
   refine yH ?_
   refine yH ?_
   refine zG (yG (v:= .bool true) rfl rfl) ?_
   obtain rfl:=gI c
   exact (zZ (zF (meet ⟨(),(zJ rfl zK),H.pick [2,4]⟩)))
  have c:=zV A c
  refine zH (i6 k)<| zG (jF rfl)<| Ld fJ H 4 0 rfl rfl ?_
  obtain ⟨bg,bh,c⟩:=zC c
  refine zG (dH (a:=k) (b:=d.At) rfl rfl bh)<| zH (i6 o) ?_
  obtain ⟨bi,bj,c⟩:=zC c
  refine zG (zL (dD (a:=bg) (b:=o) rfl rfl) bj)<| zG (yB (v:= .bool bi) rfl rfl) ?_
  obtain rfl:=gI c
  exact (zZ (zF (meet ⟨(),(zJ rfl zK),H.pick [2,4]⟩)))
 rintro _ ρ cf H
 have c:=a9
 refine yC (b:=I) rfl (fun B=>?_) (fun B=>?_)
 ·have c:=zU B c
  refine zB fun cg bk=>zA<| zG (eY (cs:=[i6 0,i6 0,i6 0]) bz46)<| xB rfl (yQ (vs:=[i6 0,i6 0,i6 0]) H 0 rfl dV rfl rfl rfl ⟨rfl,rfl,rfl,trivial⟩ rfl) ?_
  rintro ch H
  refine zI (.bool false)<| RN bk ?_
  obtain rfl:=gI c
  refine (zX (zS (nV (v1:= .bool false) rfl rfl (yP aZ dV rfl (Hbc H 0 rfl)) rfl ?_)))
  exact ⟨rfl,H.pick []⟩
 have c:=zV B c
 refine zQ (zF (a8 _ _ ?_))
 refine zB fun ci bl=>zA<| zG (yJ (yL (cs:=[i6 d.At,i6 d.N,i6 d.Mark]) aZ rfl dV rfl (Hbc H 1 rfl)) rfl)<| xB rfl (yQ (vs:=[i6 d.At,i6 d.N,i6 d.Mark]) H 0 rfl dV rfl rfl rfl ⟨rfl,rfl,rfl,trivial⟩ rfl) ?_
 rintro cj H
 refine zI (.bool true)<| RN bl ?_
 obtain rfl:=gI c
 refine (zX (nV (v1:= .bool true) rfl rfl (yP aZ dV rfl (Hbc H 0 rfl)) rfl ?_))
 exact ⟨rfl,H.pick []⟩
theorem Fauw (n:List gV)(l:Int)(v1:Value)(r:(List fG))(c:Fau n l=some r)(O S:List Nat)(w:World)(H:Hd O w w S [f1 fD v1 n]):
  Cl 37 [v1,i6 l] w fun e j=> ∃u3,e= .returned (u3)∧Hd O w j S [.own dK u3 51 r]:=by
 unfold Fau at c
 refine CW 41 Tryz.func37 ?_
 refine zB fun K4 E=>zA<| zI (.slice none 0 0)<| RN E<| zB fun K5 F=>zA<| zI (.slice none 0 0)<| RN F ?_
 obtain ⟨y,c,G⟩:=zD c
 refine yI [5,6,7,8,9,10,11,12,13,14,15,16,17,18,19,20,21,22,23,24,25,26,27,28,29,30,31,32,33,34,35,36,37,38,39] (fun (g:Value)=>[(5,g)]) (fun g wl=>Hd O w wl S [.own dK g 51 y]) ?_ ?_
 ·skip
  refine zB fun a8 I=>zA<| zI (i6 0)<| RN I<| zY ?_
  have H:=dE H dK 51
  unfold Fdu at c
  obtain ⟨J,z,K,c⟩:=yK c
  refine yX [5,6,7,8,9,10,11,12,13,14,15,16,17,18,19,20,21,22,23,24,25,26,27,28,29,30,31,32,33,34,35,36,37,38,39] (fun (g:Nat×(List fG)×Int×Value)=>[(5,g.2.2.2),(6,i6 g.2.2.1)]) (fun g wl=>Hd O w wl S [.own dK g.2.2.2 51 g.2.1,f1 fD v1 n]∧fE J g.1 (g.2.1,g.2.2.1)=some y) (fun g=>g.1) (z,[],0,.slice none 0 0) (zJ rfl (zJ rfl zK)) ⟨H.pick [1,0],c⟩ ?_
  clear H c
  rintro ⟨z,a9,k,A⟩ ρ ba ⟨H,c⟩
  obtain ⟨L,rfl,c⟩:=yO c
  have c:=yN K c
  refine zB fun bb M=>?_
  refine zB fun bc P=>zA<| zH (i6 k)<| zH v1 ?_
  obtain ⟨Q,R,c⟩:=zC c
  obtain ⟨bd,be,T⟩:=SlF.len ((H.item (i:=1) rfl))
  refine zG (yJ (xJ u22 T) (congrArg (Value.int .i64) R)) ?_
  obtain ⟨U,V,c⟩:=zC c
  refine zG (zL (xI (a:=k) (b:=Q) rfl rfl) V)<| RN P<| yC (b:=U) rfl (fun o=>?_) (fun o=>?_)
  ·have c:=zU o c
   refine zQ (zF (M _ _ ?_))
   refine zB fun bf X=>?_
   refine zY ?_
   refine zB fun bg Y=>?_
   have Z:=H
   have H:=H.rebase
   have bh:=H
   refine WP_mix0 H [0,1,2,3,4,5,6,7,8,9,10,11,12,13,14,15,16,17,18,19,20] (kz [0,0,0,0,1,0,0,0,0,0,0,0,0,1,1,0,0,0,2,3,0]) mixed ?_
   refine XM v1<| XM (i6 k) ?_
   obtain ⟨p,s,c⟩:=zD c
   obtain ⟨aa,ab,bi,bj,ac,ad,ae,af,ag⟩:=xU (H.item (i:=1) rfl) s
   obtain ⟨t,rfl,ah⟩:=xR ad
   have H:=H.fzs [.at aa (ab+k.toNat * 4) _,.sl gW t p.Series.Samples] ⟨⟨ae,af,ag⟩,ah,trivial⟩
   refine XP (fun _ _=>yU u22 cO ac rfl (zN s).1 (zN s).2.1 rfl rfl)<| XP (fun _ _=>aV rfl)<| MxM.xN oS rfl rfl rfl (fun j f=>yJ (yL (cs:=[i6 p.Series.Den,t]) rF rfl aBo rfl (Cells.drop ((H.sees f).item (i:=2) rfl).2.2 1 2)) rfl)<| XM (i6 l) ?_
   obtain ⟨ai,aj,c⟩:=zC c
   refine XP (fun _ _=>aCl (a:=64) (b:=l) rfl rfl aj) ?_
   obtain ⟨ak,al,c⟩:=zC c
   refine XP (fun _ _=>xP (a:=ai) (b:=64) rfl rfl al) ?_
   obtain ⟨am,an,c⟩:=zC c
   refine XP (fun _ _=>dH (a:=ak) (b:=1) rfl rfl an)<| XM v1<| XM (i6 k) ?_
   obtain ⟨B,u,c⟩:=zD c
   obtain ⟨ao,ap,bk,bl,aq,ar,au,av,aw⟩:=xU (H.item (i:=1) rfl) u
   obtain ⟨ax,rfl,ay⟩:=xR ar
   have H:=H.fzs [.at ao (ap+k.toNat * 4) _,.sl gW ax B.Series.Samples] ⟨⟨au,av,aw⟩,ay,trivial⟩
   refine XP (fun _ _=>yU u22 cO aq rfl (zN u).1 (zN u).2.1 rfl rfl)<| XP (fun _ _=>aAf rfl)<| MxM.xN oS rfl rfl rfl (fun j f=>yZ fJ rfl (Cells.get ((H.sees f).item (i:=4) rfl).2.2 (i:=3) rfl)) ?_
   have az:=H
   obtain ⟨⟨d,h⟩,a0,c⟩:=zD c
   refine MxM.XL_call oS rfl rfl rfl (v:= .tuple #[.agg [i6 d.At,i6 d.N,i6 d.Mark].toArray,.bool h]) (fun j f=>zO en26 rfl) (fun j f=>by have q:=jO (Fa0w p.Series am B.Long t _ a0 _ _ _ ((H.sees f).enter [] [3])); exact q) ?_
   have H:=az
   refine XM (.tuple #[.agg [i6 d.At,i6 d.N,i6 d.Mark].toArray,.bool h])<| XP (fun _ _=>xA (v:= .agg [i6 d.At,i6 d.N,i6 d.Mark].toArray) rfl rfl)<| XP (fun _ _=>xA (v:= .bool h) rfl rfl)<| MxM.XL_exN oS rfl rfl rfl (fun j f=>Ls_of (xE jU (H.sees f)) (aBp jU)) ?_
   rintro j _ bm f ⟨bn,rfl,H⟩
   refine MxM.XL_exU oS rfl rfl (fun j f=>yQ (vs:=[i6 d.At,i6 d.N,i6 d.Mark]) (H.sees f) 6 rfl dV rfl rfl rfl ⟨rfl,rfl,rfl,trivial⟩ rfl) ?_
   rintro j bo f H
   refine ⟨H.only,?_⟩
   refine XP (fun _ _=>dU (v:= .bool h) rfl)<| MxM.XL_nil fun bp hS=>?_
   have H:=H.sees hS
   have H:=Z.rejoin H
   refine (zF (Y _ _ ?_))
   refine zA ?_
   refine zH A<| zG (mZ rfl)<| Ld fJ H 6 1 rfl rfl<| zH (.bool h)<| zG (eY (cs:=[i6 d.N,.bool h]) (aBq _ _)) ?_
   obtain ⟨bq,a1,c⟩:=zC c
   subst a1
   refine yT rfl rfl (jG (r:=dK) (xl:=[fG.mk d.N h]) (cs:=[i6 d.N,.bool h]) u47 el51 (by decide) (by decide) rfl (fP (vs:=[.agg [i6 d.N,.bool h].toArray]) (by decide) rfl rfl ⟨rfl,trivial⟩ rfl) H ⟨[i6 d.N,.bool h],[],rfl,(vX (x:=fG.mk d.N h)),rfl⟩) ?_
   rintro br bt H
   obtain ⟨a2,a3,c⟩:=zD c
   refine yT rfl rfl (kU H (i:=0) rfl u47 el51 rfl rfl (Sr.of_own (H.item (i:=7) rfl)) a3) ?_
   rintro C bu H
   refine zI C<| (zZ (yV (zF (X _ _ ?_))))
   refine zA ?_
   refine zH (i6 k) ?_
   obtain ⟨D,a4,c⟩:=zC c
   refine zG (xP (a:=k) (b:=1) rfl rfl a4)<| zI (i6 D) ?_
   exact (zZ (zF (meet ⟨(L,a2,D,C),(zJ rfl (zJ rfl zK)),⟨H.pick [0,1],c⟩,Nat.lt_succ_self _⟩)))
  have c:=zV o c
  obtain rfl:=gI c
  exact (xG (yD (yD (yS (zF (meet ⟨A,(zJ rfl zK),H.pick [0]⟩))))))
 rintro m ρ bv H
 have c:=G
 refine zB fun bw a5=>zA<| zH m<| zI m<| RN a5 ?_
 obtain rfl:=gI c
 refine (zX (fB (v1:=m) rfl rfl ?_))
 exact ⟨m,rfl,H.pick [0]⟩
theorem Fbaw (g:List gV)(d:Int)(v1:Value)(r:(List fG)×Int)(c:Fba g d=some r)(O S:List Nat)(w:World)(H:Hd O w w S [f1 fD v1 g]):
  Cl 12 [v1,i6 d] w fun e k=> ∃u3,e= .returned (.tuple #[u3,i6 r.2])∧Hd O w k S [.own dK u3 51 r.1]:=by
 unfold Fba at c
 refine CW 17 Tryz.func12 ?_
 refine zB fun I l=>zA<| zI (.slice none 0 0)<| zI (i6 0)<| RN l<| zB fun J m=>zB fun K n=>zA<| zH v1 ?_
 have o:=H
 obtain ⟨f,p,c⟩:=zD c
 refine zT rfl rfl (zO en22 rfl) (Fa1w g v1 _ p _ _ _ (H.enter [] [0])) ?_
 rintro _ L ⟨rfl,q⟩
 have H:=o.step (q.only:Only [] _ _)
 refine ⟨_,rfl,?_⟩
 refine zI (i6 f)<| RN n<| zB fun M s=>zA<| zH (i6 f) ?_
 obtain ⟨t,u,c⟩:=zC c
 refine zG (zL (eQ (a:=f) (b:=0) rfl rfl) u)<| RN s<| yC (b:=t) rfl (fun h=>?_) (fun h=>?_)
 ·have c:=zU h c
  refine zB fun N v=>zA<| zH (i6 f)<| zI (.slice none 0 0)<| zI (i6 f)<| RN v ?_
  have H:=dE H dK 51
  obtain rfl:=gI c
  refine (zX (zS (kC (v1:= .slice none 0 0) (v2:=i6 f) rfl rfl rfl ?_)))
  exact ⟨.slice none 0 0,rfl,H.pick [1]⟩
 have c:=zV h c
 refine zQ (zF (m _ _ ?_))
 refine zB fun P x=>?_
 refine zB fun Q y=>zA<| zH (i6 d) ?_
 have z:=H
 obtain ⟨A,B,c⟩:=zD c
 refine zT rfl rfl (zO en36 rfl) (Fasw d 0 4194303 _ B _ _ _ (H.enter [] [])) ?_
 rintro _ R ⟨rfl,C⟩
 have H:=z.step (C.only:Only [] _ _)
 refine ⟨_,rfl,?_⟩
 refine RN y<| yC (b:=A) rfl (fun i=>?_) (fun i=>?_)
 ·have c:=zU i c
  refine zB fun T D=>zA<| zI (.slice none 0 0)<| zI (i6 9)<| RN D ?_
  have H:=dE H dK 51
  obtain rfl:=gI c
  refine (zX (zS (kC (v1:= .slice none 0 0) (v2:=i6 9) rfl rfl rfl ?_)))
  exact ⟨.slice none 0 0,rfl,H.pick [1]⟩
 have c:=zV i c
 refine zQ (zF (x _ _ ?_))
 refine zB fun U E=>zA<| zH v1<| zH (i6 d) ?_
 obtain ⟨V,F,c⟩:=zD c
 refine zT rfl rfl (zO en37 rfl) (Fauw g d v1 _ F _ _ _ (H.enter [] [0])) ?_
 rintro _ X ⟨j,rfl,G⟩
 have H:=H.back1 [0] rfl G
 refine ⟨_,rfl,?_⟩
 refine zI j<| zI (i6 0)<| RN E ?_
 obtain rfl:=gI c
 refine (zX (kC (v1:=j) (v2:=i6 0) rfl rfl rfl ?_))
 exact ⟨j,rfl,H.pick [1]⟩
end Go.Proofs.YtgmikmoapfmedaaGreatDoor.L
