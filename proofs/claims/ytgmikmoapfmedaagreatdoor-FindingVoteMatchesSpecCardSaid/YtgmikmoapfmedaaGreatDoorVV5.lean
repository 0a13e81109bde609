/- Walks: what each function computes, for every argument; no condition but those that stand in the statements. -/
import Derived.Test.YtgmikmoapfmedaaGreatDoorVV0
import Derived.Test.YtgmikmoapfmedaaGreatDoorVV4
namespace Go.Proofs.YtgmikmoapfmedaaGreatDoor.L
open Go.RowKit Go.OB Go.Lf
set_option maxHeartbeats 4000000
theorem Fbbw (d:fA)(r:Int)(c:Fbb d=some r)(O S:List Nat)(w:World)(H:Hd O w w S []):
  Cl 99 [.agg [i6 d.At,i6 d.N,i6 d.Mark].toArray] w fun e q=>e= .returned (i6 r)∧Hd O w q S []:=by
 unfold Fbb at c
 refine CW 25 Tryz.func99 ?_
 refine zB fun K1 s=>zA<| yS rfl rfl (xZ (cs:=[i6 d.At,i6 d.N,i6 d.Mark]) rfl H) ?_
 rintro _ w4 ⟨l,rfl,H⟩
 refine zI (i6 0)<| RN s<| zB fun ae t=>?_
 obtain ⟨m,c,u⟩:=zC c
 refine yH [3,4,5,6,7,8,9,10,11,12,13,14,15] (fun (g:Unit)=>[(15,.bool m)]) (fun g wl=>Hd O w wl S [.blk l [i6 d.At,i6 d.N,i6 d.Mark] 46]) ?_ ?_
 ·skip
  refine zA ?_
  refine zG (kY rfl)<| Ld fK H 0 0 rfl rfl ?_
  have x:=H
  obtain ⟨y,z,c⟩:=zC c
  refine zS rfl rfl (zN en98 rfl) (Faew d.At 0 1099511627776 _ z _ _ _ (H.enter [] [])) ?_
  rintro _ af ⟨rfl,A⟩
  have H:=x.step (A.only:Only [] _ _)
  refine ⟨_,rfl,?_⟩
  obtain ⟨n,c,B⟩:=zC c
  refine eU 5 [6,7,8,9,10] [(10,.bool n)] (fun wl=>Hd O w wl S [.blk l [i6 d.At,i6 d.N,i6 d.Mark] 46]) ?_ ?_
  ·skip
   refine xI (b:=y) rfl rfl rfl (fun f=>?_) (fun f=>?_)
   ·have c:=zU f c
    refine yT ?_
    refine yT ?_
    refine yT ?_
    refine zG (yL (v:= .bool true) rfl rfl) ?_
    obtain rfl:=gJ c
    exact zX (zF (meet ⟨(zJ rfl zK),H.pick [0]⟩))
   have c:=zV f c
   refine zG (mQ rfl)<| Ld fK H 0 1 rfl rfl ?_
   have C:=H
   obtain ⟨D,E,c⟩:=zC c
   refine zS rfl rfl (zN en98 rfl) (Faew d.N (-1125899906842624) 1125899906842624 _ E _ _ _ (H.enter [] [])) ?_
   rintro _ ag ⟨rfl,F⟩
   have H:=C.step (F.only:Only [] _ _)
   refine ⟨_,rfl,?_⟩
   refine zG (yD (v:= .bool D) rfl rfl) ?_
   obtain rfl:=gJ c
   exact zX (zF (meet ⟨(zJ rfl zK),H.pick [0]⟩))
  rintro ρ ah H
  have c:=B
  refine xI (b:=n) rfl rfl rfl (fun h=>?_) (fun h=>?_)
  ·have c:=zU h c
   refine yT ?_
   refine yT ?_
   refine yT ?_
   refine zG (yL (v:= .bool true) rfl rfl) ?_
   obtain rfl:=gJ c
   exact (zX (zF (meet ⟨(),(zJ rfl zK),H.pick [0]⟩)))
  have c:=zV h c
  refine zG (jW rfl)<| Ld fK H 0 2 rfl rfl ?_
  have G:=H
  obtain ⟨I,J,c⟩:=zC c
  refine zS rfl rfl (zN en98 rfl) (Faew d.Mark 0 4 _ J _ _ _ (H.enter [] [])) ?_
  rintro _ ai ⟨rfl,K⟩
  have H:=G.step (K.only:Only [] _ _)
  refine ⟨_,rfl,?_⟩
  refine zG (yD (v:= .bool I) rfl rfl) ?_
  obtain rfl:=gJ c
  exact (zX (zF (meet ⟨(),(zJ rfl zK),H.pick [0]⟩)))
 rintro _ ρ aj H
 have c:=u
 refine yB (b:=m) rfl (fun i=>?_) (fun i=>?_)
 ·have c:=zU i c
  refine zB fun ak L=>zA<| zI (i6 9)<| RN L ?_
  obtain rfl:=gJ c
  refine (zZ (zW (fB (v1:=i6 9) rfl rfl ?_)))
  exact ⟨rfl,H.pick []⟩
 have c:=zV i c
 refine zQ (zF (t _ _ ?_))
 refine zB fun al M=>?_
 obtain ⟨o,c,P⟩:=zC c
 refine yH [16,17,18,19,20,21,22,23,24] (fun (g:Unit)=>[(24,.bool o)]) (fun g wl=>Hd O w wl S []) ?_ ?_
 ·skip
  refine zA ?_
  refine zG (mQ rfl)<| Ld fK H 0 1 rfl rfl ?_
  obtain ⟨Q,R,c⟩:=zD c
  refine zG (zM (dG (a:=d.N) (b:=0) rfl rfl) R)<| xI (b:=Q) rfl rfl rfl (fun j=>?_) (fun j=>?_)
  ·have c:=zU j c
   refine zG (jW rfl)<| Ld fK H 0 2 rfl rfl ?_
   have T:=H
   obtain ⟨U,V,c⟩:=zC c
   refine zS rfl rfl (zN en131 rfl) (Fctw d.Mark _ V _ _ _ (H.enter [] [])) ?_
   rintro _ am ⟨rfl,X⟩
   have H:=T.step (X.only:Only [] _ _)
   refine ⟨_,rfl,?_⟩
   obtain ⟨Y,Z,c⟩:=zD c
   refine zG (zM (fV (p:=U) rfl) Z)<| zG (yL (v:= .bool Y) rfl rfl) ?_
   obtain rfl:=gJ c
   exact (zX (zF (meet ⟨(),(zJ rfl zK),H.pick []⟩)))
  have c:=zV j c
  refine yT ?_
  refine yT ?_
  refine yT ?_
  refine yT ?_
  refine zG (yD (v:= .bool false) rfl rfl) ?_
  obtain rfl:=gJ c
  exact (zX (zF (meet ⟨(),(zJ rfl zK),H.pick []⟩)))
 rintro _ ρ an H
 have c:=P
 refine yB (b:=o) rfl (fun k=>?_) (fun k=>?_)
 ·have c:=zU k c
  refine zB fun ao aa=>zA<| zI (i6 2)<| RN aa ?_
  obtain rfl:=gJ c
  refine (zZ (zW (fB (v1:=i6 2) rfl rfl ?_)))
  exact ⟨rfl,H.pick []⟩
 have c:=zV k c
 refine zQ (zF (M _ _ ?_))
 refine zB fun ap ab=>zA<| zI (i6 0)<| RN ab ?_
 obtain rfl:=gJ c
 refine (zZ (fB (v1:=i6 0) rfl rfl ?_))
 exact ⟨rfl,H.pick []⟩
set_option maxRecDepth 100000 in
theorem Fbvw (f:Series)(v1:Value)(r:Int×Int)(c:Fbv f=some r)(O S:List Nat)(w:World)(H:Hd O w w S [f1 gX v1 f.Samples]):
  Cl 72 [.agg [i6 f.Den,v1].toArray] w fun e k=>e= .returned (.tuple #[i6 r.1,i6 r.2])∧Hd O w k S []:=by
 unfold Fbv at c
 refine CW 49 Tryz.func72 ?_
 refine zB fun K3 D=>zA<| yS rfl rfl (xZ (cs:=[i6 f.Den,v1]) rfl H) ?_
 rintro _ w6 ⟨y,rfl,H⟩
 refine zI (i6 0)<| zI (i6 0)<| RN D<| zB fun bx E=>zB fun bz F=>zA<| zG (nC rfl)<| Ld fK H 1 0 rfl rfl ?_
 have G:=H
 obtain ⟨I,J,c⟩:=zC c
 refine zS rfl rfl (zN en98 rfl) (Faew f.Den 1 1000000 _ J _ _ _ (H.enter [] [])) ?_
 rintro _ b0 ⟨rfl,K⟩
 have H:=G.step (K.only:Only [] _ _)
 refine ⟨_,rfl,?_⟩
 refine RN F<| yB (b:=I) rfl (fun l=>?_) (fun l=>?_)
 ·have c:=zU l c
  refine zB fun b1 L=>zA<| zI (i6 (-1))<| zI (i6 9)<| RN L ?_
  obtain rfl:=gJ c
  refine (zZ (zW (jB (v1:=i6 (-1)) (v2:=i6 9) rfl rfl rfl ?_)))
  exact ⟨rfl,H.pick []⟩
 have c:=zV l c
 refine zQ (zF (E _ _ ?_))
 refine zB fun b2 M=>?_
 refine zB fun b3 P=>zA<| zG (dX rfl)<| Ld aO H 1 1 rfl rfl ?_
 obtain ⟨Q,R,c⟩:=zD c
 obtain ⟨b4,b5,T⟩:=SlF.len ((H.item (i:=0) rfl))
 refine zG (yK (xK u37 T) (congrArg (Value.int .i64) R)) ?_
 obtain ⟨U,V,c⟩:=zD c
 refine zG (zM (eX (a:=Q) (b:=20000) rfl rfl) V)<| RN P<| yB (b:=U) rfl (fun m=>?_) (fun m=>?_)
 ·have c:=zU m c
  refine zB fun b6 X=>zA<| zI (i6 (-1))<| zI (i6 3)<| RN X ?_
  obtain rfl:=gJ c
  refine (zZ (zW (jB (v1:=i6 (-1)) (v2:=i6 3) rfl rfl rfl ?_)))
  exact ⟨rfl,H.pick []⟩
 have c:=zV m c
 refine zQ (zF (M _ _ ?_))
 obtain ⟨Y,Z,c⟩:=xJ c
 refine yH [2,3,4,5,13,14,15,16,17,18,19,20,21,22,23,24,25,26,27,28,29,30,31,32,33,34,35,36,37,38,39,40,41,42,43,44,45,46,47,48] (fun (g:Unit)=>[]) (fun g wl=>Hd O w wl S []∧Y ()=some r) ?_ ?_
 ·skip
  refine zB fun b7 aa=>zA<| zI (i6 0)<| RN aa<| zY ?_
  unfold Fck at c
  obtain ⟨ab,z,ac,c⟩:=yF c
  refine xA [2,3,4,5,13,14,15,16,17,18,19,20,21,22,23,24,25,26,27,28,29,30,31,32,33,34,35,36,37,38,39,40,41,42,43,44,45,46,47,48] (fun (g:Nat×Int)=>[(4,i6 g.2)]) (fun g wl=>Hd O w wl S [f1 gX v1 f.Samples,.blk y [i6 f.Den,v1] 39]∧fF ab g.1 g.2=some r) (fun g=>g.1) (z,0) (zJ rfl zK) ⟨H.pick [0,1],c⟩ ?_
  clear H c
  rintro ⟨z,d⟩ ρ b8 ⟨H,c⟩
  obtain ⟨ad,rfl,c⟩:=yN c
  have c:=yO ac c
  refine zB fun b9 ae=>?_
  refine zB fun ca af=>zA<| zH (i6 d)<| zG (dX rfl)<| Ld aO H 1 1 rfl rfl ?_
  obtain ⟨ag,ah,c⟩:=zD c
  obtain ⟨cb,cc,ai⟩:=SlF.len ((H.item (i:=0) rfl))
  refine zG (yK (xK u37 ai) (congrArg (Value.int .i64) ah)) ?_
  obtain ⟨aj,ak,c⟩:=zD c
  refine zG (zM (xG (a:=d) (b:=ag) rfl rfl) ak)<| RN af<| yB (b:=aj) rfl (fun n=>?_) (fun n=>?_)
  ·have c:=zU n c
   refine zQ (zF (ae _ _ ?_))
   refine zB fun cd al=>?_
   refine zY ?_
   refine zB fun ce am=>?_
   refine zB fun cf an=>zA<| zG (dX rfl)<| Ld aO H 1 1 rfl rfl<| zH (i6 d) ?_
   obtain ⟨j,o,c⟩:=zC c
   obtain ⟨ao,ap,cg,ch,aq,ar,au,av,aw⟩:=xY (H.item (i:=0) rfl) o
   obtain rfl:=fU ar
   have H:=H.fz (.at ao (ap+d.toNat * 3) _) ⟨au,av,aw⟩
   refine zG (yV u37 bD aq rfl (zO o).1 (zO o).2.1 rfl rfl)<| zG (yK (yP (cs:=[i6 j.At,i6 j.N,i6 j.Mark]) kH rfl bD rfl (H.item (i:=2) rfl).2.2) rfl) ?_
   have ax:=H
   obtain ⟨h,ay,c⟩:=zC c
   refine zS rfl rfl (zN en99 rfl) (Fbbw j _ ay _ _ _ (H.enter [] [])) ?_
   rintro _ ci ⟨rfl,az⟩
   have H:=ax.step (az.only:Only [] _ _)
   refine ⟨_,rfl,?_⟩
   refine zI (i6 h)<| RN an<| zB fun cj a0=>zA<| zH (i6 h) ?_
   obtain ⟨a1,a2,c⟩:=zD c
   refine zG (zM (dG (a:=h) (b:=0) rfl rfl) a2)<| RN a0<| yB (b:=a1) rfl (fun p=>?_) (fun p=>?_)
   ·have c:=zU p c
    refine zB fun ck a3=>zA<| zH (i6 d)<| zH (i6 h)<| zI (i6 d)<| zI (i6 h)<| RN a3 ?_
    obtain rfl:=gJ c
    refine (zZ (zW (yG (zW (zW (yG (zW (jB (v1:=i6 d) (v2:=i6 h) rfl rfl rfl ?_))))))))
    exact ⟨rfl,H.pick []⟩
   have c:=zV p c
   refine zQ (zF (am _ _ ?_))
   obtain ⟨A,c,a4⟩:=zC c
   refine yH [30,31,32,33,34,35,36,37,38,39,40,41,42,43,44,45,46,47] (fun (g:Unit)=>[(47,.bool A)]) (fun g wl=>Hd O w wl S [f1 gX v1 f.Samples,.blk y [i6 f.Den,v1] 39]) ?_ ?_
   ·skip
    have B:=H
    have H:=H.rebase
    have cl:=H
    refine WP_mix0 H [0,1,2,3,4,5,6,7,8,9,10,11,12,13,14,15,16,17] (kz [0,0,0,0,1,0,0,0,1,0,1,0,0,0,0,1,0,0]) mixed ?_
    refine XM (i6 d) ?_
    obtain ⟨a5,a6,c⟩:=zD c
    refine XP (fun _ _=>zM (eX (a:=d) (b:=0) rfl rfl) a6)<| MxM.XL_splitb (b:=a5) rfl rfl rfl rfl (fun q=>?_) (fun q=>?_)
    ·have c:=zU q c
     refine XP (fun _ _=>dX rfl)<| XR aO H 1 1 rfl rfl<| XM (i6 d) ?_
     obtain ⟨a7,s,c⟩:=zC c
     obtain ⟨a8,a9,cm,cn,ba,bb,bc,bd,be⟩:=xY (H.item (i:=0) rfl) s
     obtain rfl:=fU bb
     have H:=H.fz (.at a8 (a9+d.toNat * 3) _) ⟨bc,bd,be⟩
     refine XP (fun _ _=>yV u37 bD ba rfl (zO s).1 (zO s).2.1 rfl rfl)<| XP (fun _ _=>kY rfl)<| MxM.xP oS rfl rfl rfl (fun k t=>yU fK rfl (Cells.get ((H.sees t).item (i:=3) rfl).2.2 (i:=0) rfl))<| XP (fun _ _=>dX rfl)<| XR aO H 1 1 rfl rfl<| XM (i6 d) ?_
     obtain ⟨bf,bg,c⟩:=zD c
     refine XP (fun _ _=>dH (a:=d) (b:=1) rfl rfl bg) ?_
     obtain ⟨bh,u,c⟩:=zC c
     obtain ⟨bi,bj,co,cp,bk,bl,bm,bn,bo⟩:=xY (H.item (i:=0) rfl) u
     obtain rfl:=fU bl
     have H:=H.fz (.at bi (bj+bf.toNat * 3) _) ⟨bm,bn,bo⟩
     refine XP (fun _ _=>yV u37 bD bk rfl (zO u).1 (zO u).2.1 rfl rfl)<| XP (fun _ _=>kY rfl)<| MxM.xP oS rfl rfl rfl (fun k t=>yU fK rfl (Cells.get ((H.sees t).item (i:=4) rfl).2.2 (i:=0) rfl)) ?_
     obtain ⟨bp,bq,c⟩:=zD c
     refine XP (fun _ _=>zM (bV (a:=a7.At) (b:=bh.At) rfl rfl) bq)<| XP (fun _ _=>yL (v:= .bool bp) rfl rfl)<| MxM.XL_nil fun cq hS=>?_
     have H:=H.sees hS
     have H:=B.rejoin H
     obtain rfl:=gJ c
     exact (zF (meet ⟨(),(zJ rfl zK),H.pick [0,1]⟩))
    have c:=zV q c
    refine XO<| MxM.XL_offr oS rfl rfl rfl ?_
    refine XO<| XO<| XO<| MxM.XL_offr oS rfl rfl rfl ?_
    refine XO<| MxM.XL_offr oS rfl rfl rfl ?_
    refine XO<| XO<| XO<| XO<| MxM.XL_offr oS rfl rfl rfl ?_
    refine XO<| XP (fun _ _=>yD (v:= .bool false) rfl rfl)<| MxM.XL_nil fun cr hS=>?_
    have H:=H.sees hS
    have H:=B.rejoin H
    obtain rfl:=gJ c
    exact (zF (meet ⟨(),(zJ rfl zK),H.pick [0,1]⟩))
   rintro _ ρ ct H
   have c:=a4
   refine yB (b:=A) rfl (fun x=>?_) (fun x=>?_)
   ·have c:=zU x c
    refine zB fun cu br=>zA<| zH (i6 d)<| zI (i6 d)<| zI (i6 10)<| RN br ?_
    obtain rfl:=gJ c
    refine (zZ (yG (zW (zW (yG (zW (jB (v1:=i6 d) (v2:=i6 10) rfl rfl rfl ?_)))))))
    exact ⟨rfl,H.pick []⟩
   have c:=zV x c
   refine (zQ (yX (zF (al _ _ ?_))))
   refine zA ?_
   refine zH (i6 d) ?_
   obtain ⟨C,bt,c⟩:=zD c
   refine zG (xM (a:=d) (b:=1) rfl rfl bt)<| zI (i6 C) ?_
   exact (zX (zF (meet ⟨(ad,C),(zJ rfl zK),⟨H.pick [0,1],c⟩,Nat.lt_succ_self _⟩)))
  have c:=zV n c
  exact (xE (yC (yC (yQ (zF (meet ⟨(),zK,⟨H.pick [],c⟩⟩))))))
 rintro _ ρ cv ⟨H,c⟩
 have c:=xO Z c
 refine zB fun cw bu=>zA<| zI (i6 (-1))<| zI (i6 0)<| RN bu ?_
 obtain rfl:=gJ c
 refine (zZ (jB (v1:=i6 (-1)) (v2:=i6 0) rfl rfl rfl ?_))
 exact ⟨rfl,H.pick []⟩
theorem Fayw (a:Series)(v1:Value)(r:Int)(c:Fay a=some r)(O S:List Nat)(w:World)(H:Hd O w w S [f1 gX v1 a.Samples]):
  Cl 50 [.agg [i6 a.Den,v1].toArray] w fun e f=>e= .returned (i6 r)∧Hd O w f S []:=by
 unfold Fay at c
 refine CW 11 Tryz.func50 ?_
 refine zB fun m g=>zA<| yS rfl rfl (xZ (cs:=[i6 a.Den,v1]) rfl H) ?_
 rintro _ n ⟨o,rfl,H⟩
 refine zI (i6 0)<| RN g<| zB fun p h=>zA<| zG (yK (yP (cs:=[i6 a.Den,v1]) qA rfl wZ rfl (Hbc H 1 rfl)) rfl) ?_
 have i:=H
 obtain ⟨⟨d,b⟩,j,c⟩:=zC c
 refine zS rfl rfl (zN en72 rfl) (Fbvw a v1 _ j _ _ _ (H.enter [] [0])) ?_
 rintro _ q ⟨rfl,k⟩
 have H:=i.step (k.only:Only [] _ _)
 refine ⟨_,rfl,?_⟩
 refine zH (.tuple #[i6 d,i6 b])<| zG (xC (v:=i6 d) rfl rfl)<| zG (xC (v:=i6 b) rfl rfl)<| zI (i6 d)<| zI (i6 b)<| RN h<| zB fun s l=>zA<| zH (i6 b)<| zI (i6 b)<| RN l ?_
 obtain rfl:=gJ c
 refine (zZ (fB (v1:=i6 b) rfl rfl ?_))
 exact ⟨rfl,H.pick []⟩
theorem Fbkw (d:Int)(f:Int)(h:Int)(r:Bool)(c:Fbk d f h=some r)(O S:List Nat)(w:World)(H:Hd O w w S []):
  Cl 36 [i6 d,i6 f,i6 h] w fun e l=>e= .returned (.bool r)∧Hd O w l S []:=by
 unfold Fbk at c
 refine CW 15 Tryz.func36 ?_
 refine zB fun s m=>zA<| zI (.bool false)<| RN m ?_
 obtain ⟨j,c,n⟩:=zC c
 refine yH [6,7,8,9,10,11,12,13,14] (fun (g:Unit)=>[(6,.bool j)]) (fun g wl=>Hd O w wl S []) ?_ ?_
 ·skip
  refine zA ?_
  refine zH (i6 d)<| zH (i6 f) ?_
  obtain ⟨o,p,c⟩:=zD c
  refine zG (zM (xG (a:=d) (b:=f) rfl rfl) p)<| xI (b:=o) rfl rfl rfl (fun i=>?_) (fun i=>?_)
  ·have c:=zU i c
   refine yT ?_
   refine yT ?_
   refine yT ?_
   refine zG (yL (v:= .bool true) rfl rfl)<| zI (.bool true) ?_
   obtain rfl:=gJ c
   exact (zX (zF (meet ⟨(),(zJ rfl zK),H.pick []⟩)))
  have c:=zV i c
  refine zH (i6 d)<| zH (i6 h) ?_
  obtain ⟨k,q,c⟩:=zD c
  refine zG (zM (eX (a:=d) (b:=h) rfl rfl) q)<| zG (yD (v:= .bool k) rfl rfl)<| zI (.bool k) ?_
  obtain rfl:=gJ c
  exact (zX (zF (meet ⟨(),(zJ rfl zK),H.pick []⟩)))
 rintro _ ρ t H
 have c:=n
 obtain rfl:=gJ c
 refine (zZ (fB (v1:= .bool j) rfl rfl ?_))
 exact ⟨rfl,H.pick []⟩
set_option maxRecDepth 100000 in
theorem Fbww (f:List gV)(v1:Value)(r:Int)(c:Fbw f=some r)(O S:List Nat)(w:World)(H:Hd O w w S [f1 fE v1 f]):
  Cl 22 [v1] w fun e k=>e= .returned (i6 r)∧Hd O w k S []:=by
 unfold Fbw at c
 refine CW 53 Tryz.func22 ?_
 refine zB fun K3 M=>zA<| zI (i6 0)<| RN M<| zB fun c8 N=>zB fun c9 P=>zA<| zH v1 ?_
 obtain ⟨Q,R,c⟩:=zD c
 obtain ⟨da,db,T⟩:=SlF.len ((H.item (i:=0) rfl))
 refine zG (yK (xK u22 T) (congrArg (Value.int .i64) R)) ?_
 obtain ⟨U,V,c⟩:=zD c
 refine zG (zM (eX (a:=Q) (b:=50) rfl rfl) V)<| RN P<| yB (b:=U) rfl (fun l=>?_) (fun l=>?_)
 ·have c:=zU l c
  refine zB fun dc X=>zA<| zI (i6 3)<| RN X ?_
  obtain rfl:=gJ c
  refine (zZ (zW (fB (v1:=i6 3) rfl rfl ?_)))
  exact ⟨rfl,H.pick []⟩
 have c:=zV l c
 refine zQ (zF (N _ _ ?_))
 obtain ⟨Y,Z,c⟩:=xJ c
 refine yH [2,3,4,5,9,10,11,12,13,14,15,16,17,18,19,20,21,22,23,24,25,26,27,28,29,30,31,32,33,34,35,36,37,38,39,40,41,42,43,44,45,46,47,48,49,50,51,52] (fun (g:Unit)=>[]) (fun g wl=>Hd O w wl S []∧Y ()=some r) ?_ ?_
 ·skip
  refine zB fun dd aa=>zA<| zI (i6 0)<| RN aa<| zY ?_
  unfold Fel at c
  obtain ⟨ab,D,ac,c⟩:=yF c
  refine xA [2,3,4,5,9,10,11,12,13,14,15,16,17,18,19,20,21,22,23,24,25,26,27,28,29,30,31,32,33,34,35,36,37,38,39,40,41,42,43,44,45,46,47,48,49,50,51,52] (fun (g:Nat×Int)=>[(3,i6 g.2)]) (fun g wl=>Hd O w wl S [f1 fE v1 f]∧fF ab g.1 g.2=some r) (fun g=>g.1) (D,0) (zJ rfl zK) ⟨H.pick [0],c⟩ ?_
  clear H c
  rintro ⟨D,d⟩ ρ de ⟨H,c⟩
  obtain ⟨ad,rfl,c⟩:=yN c
  have c:=yO ac c
  refine zB fun df ae=>?_
  refine zB fun dg af=>zA<| zH (i6 d)<| zH v1 ?_
  obtain ⟨ag,ah,c⟩:=zD c
  obtain ⟨dh,di,ai⟩:=SlF.len ((H.item (i:=0) rfl))
  refine zG (yK (xK u22 ai) (congrArg (Value.int .i64) ah)) ?_
  obtain ⟨aj,ak,c⟩:=zD c
  refine zG (zM (xG (a:=d) (b:=ag) rfl rfl) ak)<| RN af<| yB (b:=aj) rfl (fun m=>?_) (fun m=>?_)
  ·have c:=zU m c
   refine zQ (zF (ae _ _ ?_))
   obtain ⟨al,am,c⟩:=xJ c
   refine yH [2,4,5,15,16,17,18,19,20,21,22,23,24,25,26,27,28,29,30,31,32,33,34,35,36,37,38,39,40,41,42,43,44,45,46,47,48,49,50,51,52] (fun (g:Unit)=>[]) (fun g wl=>Hd O w wl S [f1 fE v1 f]∧al ()=some r) ?_ ?_
   ·skip
    refine zY ?_
    refine zB fun dj an=>?_
    refine zB fun dk ao=>zA<| zH v1<| zH (i6 d) ?_
    obtain ⟨E,n,c⟩:=zC c
    obtain ⟨ap,aq,dl,dm,ar,au,av,aw,ax⟩:=xY (H.item (i:=0) rfl) n
    obtain ⟨ay,rfl,az⟩:=xU au
    have H:=H.fzs [.at ap (aq+d.toNat * 4) _,.sl gX ay E.Series.Samples] ⟨⟨av,aw,ax⟩,az,trivial⟩
    refine zG (yV u22 eF ar rfl (zO n).1 (zO n).2.1 rfl rfl)<| zG (mJ rfl)<| zG (yU dQ rfl (Cells.get (H.item (i:=1) rfl).2.2 (i:=0) rfl)) ?_
    have a0:=H
    obtain ⟨a1,a2,c⟩:=zC c
    refine zS rfl rfl (zN en49 rfl) (Fa6w E.Name _ a2 _ _ _ (H.enter [] [])) ?_
    rintro _ dn ⟨rfl,a3⟩
    have H:=a0.step (a3.only:Only [] _ _)
    refine ⟨_,rfl,?_⟩
    obtain ⟨a4,a5,c⟩:=zD c
    refine zG (zM (fV (p:=a1) rfl) a5)<| RN ao<| yB (b:=a4) rfl (fun o=>?_) (fun o=>?_)
    ·have c:=zU o c
     refine zB fun dp a6=>zA<| zI (i6 8)<| RN a6 ?_
     obtain rfl:=gJ c
     refine (zZ (zW (yG (zW (zW (yG (zW (fB (v1:=i6 8) rfl rfl ?_))))))))
     exact ⟨rfl,H.pick []⟩
    have c:=zV o c
    refine zQ (zF (an _ _ ?_))
    obtain ⟨a7,a8,c⟩:=xJ c
    refine yH [2,4,22,23,24,25,26,27,28,29,30,31,32,33,34,35,36,37] (fun (g:Unit)=>[]) (fun g wl=>Hd O w wl S [f1 fE v1 f]∧a7 ()=some r) ?_ ?_
    ·skip
     refine zB fun dq a9=>zA<| zI (i6 0)<| RN a9<| zY ?_
     unfold Fca at c
     obtain ⟨ba,F,bb,c⟩:=yF c
     refine xA [2,4,22,23,24,25,26,27,28,29,30,31,32,33,34,35,36,37] (fun (g:Nat×Int)=>[(4,i6 g.2)]) (fun g wl=>Hd O w wl S [f1 fE v1 f]∧fF ba g.1 g.2=some r) (fun g=>g.1) (F,0) (zJ rfl zK) ⟨H.pick [0],c⟩ ?_
     clear H c
     rintro ⟨F,h⟩ ρ dr ⟨H,c⟩
     obtain ⟨bc,rfl,c⟩:=yN c
     have c:=yO bb c
     refine zB fun ds bd=>?_
     refine zB fun dt be=>zA<| zH (i6 h)<| zH (i6 d) ?_
     obtain ⟨bf,bg,c⟩:=zD c
     refine zG (zM (xG (a:=h) (b:=d) rfl rfl) bg)<| RN be<| yB (b:=bf) rfl (fun q=>?_) (fun q=>?_)
     ·have c:=zU q c
      refine zQ (zF (bd _ _ ?_))
      refine zB fun du bh=>?_
      refine zY ?_
      refine zB fun dv bi=>?_
      have bj:=H
      have H:=H.rebase
      have dw:=H
      refine WP_mix0 H [0,1,2,3,4,5,6,7,8,9,10] (kz [0,0,0,0,1,0,0,0,0,1,0]) mixed ?_
      refine XM v1<| XM (i6 h) ?_
      obtain ⟨G,s,c⟩:=zC c
      obtain ⟨bk,bl,dx,dy,bm,bn,bo,bp,bq⟩:=xY (H.item (i:=0) rfl) s
      obtain ⟨br,rfl,bt⟩:=xU bn
      have H:=H.fzs [.at bk (bl+h.toNat * 4) _,.sl gX br G.Series.Samples] ⟨⟨bo,bp,bq⟩,bt,trivial⟩
      refine XP (fun _ _=>yV u22 eF bm rfl (zO s).1 (zO s).2.1 rfl rfl)<| XP (fun _ _=>mJ rfl)<| MxM.xP oS rfl rfl rfl (fun k t=>yU dQ rfl (Cells.get ((H.sees t).item (i:=1) rfl).2.2 (i:=0) rfl))<| XM v1<| XM (i6 d) ?_
      obtain ⟨I,u,c⟩:=zC c
      obtain ⟨bu,bv,dz,d0,bw,bx,bz,b0,b1⟩:=xY (H.item (i:=0) rfl) u
      obtain ⟨b2,rfl,b3⟩:=xU bx
      have H:=H.fzs [.at bu (bv+d.toNat * 4) _,.sl gX b2 I.Series.Samples] ⟨⟨bz,b0,b1⟩,b3,trivial⟩
      refine XP (fun _ _=>yV u22 eF bw rfl (zO u).1 (zO u).2.1 rfl rfl)<| XP (fun _ _=>mJ rfl)<| MxM.xP oS rfl rfl rfl (fun k t=>yU dQ rfl (Cells.get ((H.sees t).item (i:=3) rfl).2.2 (i:=0) rfl)) ?_
      obtain ⟨b4,b5,c⟩:=zD c
      refine XP (fun _ _=>zM (wB (s1:=G.Name) (s2:=I.Name) rfl rfl) b5)<| MxM.XL_nil fun d1 hS=>?_
      have H:=H.sees hS
      have H:=bj.rejoin H
      refine (zF (bi _ _ ?_))
      refine yB (b:=b4) rfl (fun v=>?_) (fun v=>?_)
      ·have c:=zU v c
       refine zB fun d2 b6=>zA<| zI (i6 5)<| RN b6 ?_
       obtain rfl:=gJ c
       refine (zZ (yG (zW (zW (yG (zW (yG (zW (zW (yG (zW (fB (v1:=i6 5) rfl rfl ?_))))))))))))
       exact ⟨rfl,H.pick []⟩
      have c:=zV v c
      refine (zQ (yX (zF (bh _ _ ?_))))
      refine zA ?_
      refine zH (i6 h) ?_
      obtain ⟨J,b7,c⟩:=zD c
      refine zG (xM (a:=h) (b:=1) rfl rfl b7)<| zI (i6 J) ?_
      exact (zX (zF (meet ⟨(bc,J),(zJ rfl zK),⟨H.pick [0],c⟩,Nat.lt_succ_self _⟩)))
     have c:=zV q c
     exact (xE (yC (yC (yQ (zF (meet ⟨(),zK,⟨H.pick [0],c⟩⟩))))))
    rintro _ ρ d3 ⟨H,c⟩
    have c:=xO a8 c
    refine zB fun d4 b8=>?_
    refine zB fun d5 b9=>zA<| zH v1<| zH (i6 d) ?_
    obtain ⟨x,y,c⟩:=zC c
    obtain ⟨ca,cb,d6,d7,cc,cd,ce,cf,cg⟩:=xY (H.item (i:=0) rfl) y
    obtain ⟨z,rfl,ch⟩:=xU cd
    have H:=H.fzs [.at ca (cb+d.toNat * 4) _,.sl gX z x.Series.Samples] ⟨⟨ce,cf,cg⟩,ch,trivial⟩
    refine zG (yV u22 eF cc rfl (zO y).1 (zO y).2.1 rfl rfl)<| zG (aY rfl)<| zG (yK (yP (cs:=[i6 x.Series.Den,z]) qA rfl wZ rfl (Cells.drop (H.item (i:=1) rfl).2.2 1 2)) rfl) ?_
    have ci:=H
    obtain ⟨j,cj,c⟩:=zC c
    refine zS rfl rfl (zN en50 rfl) (Fayw x.Series z _ cj _ _ _ (H.enter [] [2])) ?_
    rintro _ d8 ⟨rfl,ck⟩
    have H:=ci.step (ck.only:Only [] _ _)
    refine ⟨_,rfl,?_⟩
    refine zI (i6 j)<| RN b9<| zB fun d9 cl=>zA<| zH (i6 j) ?_
    obtain ⟨cm,cn,c⟩:=zD c
    refine zG (zM (dG (a:=j) (b:=0) rfl rfl) cn)<| RN cl<| yB (b:=cm) rfl (fun A=>?_) (fun A=>?_)
    ·have c:=zU A c
     refine zB fun ea co=>zA<| zH (i6 j)<| zI (i6 j)<| RN co ?_
     obtain rfl:=gJ c
     refine (zZ (zW (yG (zW (zW (yG (zW (fB (v1:=i6 j) rfl rfl ?_))))))))
     exact ⟨rfl,H.pick []⟩
    have c:=zV A c
    refine zQ (zF (b8 _ _ ?_))
    refine zB fun eb cp=>zA<| zH v1<| zH (i6 d) ?_
    obtain ⟨K,B,c⟩:=zC c
    obtain ⟨cq,cr,ec,ed,ct,cu,cv,cw,cx⟩:=xY (H.item (i:=0) rfl) B
    obtain ⟨cy,rfl,cz⟩:=xU cu
    have H:=H.fzs [.at cq (cr+d.toNat * 4) _,.sl gX cy K.Series.Samples] ⟨⟨cv,cw,cx⟩,cz,trivial⟩
    refine zG (yV u22 eF ct rfl (zO B).1 (zO B).2.1 rfl rfl)<| zG (uM rfl)<| zG (yU fK rfl (Cells.get (H.item (i:=3) rfl).2.2 (i:=3) rfl)) ?_
    have c0:=H
    obtain ⟨c1,c2,c⟩:=zC c
    refine zS rfl rfl (zN en36 rfl) (Fbkw K.Long 0 1099511627776 _ c2 _ _ _ (H.enter [] [])) ?_
    rintro _ ee ⟨rfl,c3⟩
    have H:=c0.step (c3.only:Only [] _ _)
    refine ⟨_,rfl,?_⟩
    refine RN cp<| yB (b:=c1) rfl (fun C=>?_) (fun C=>?_)
    ·have c:=zU C c
     refine zB fun ef c4=>zA<| zI (i6 9)<| RN c4 ?_
     obtain rfl:=gJ c
     refine (zZ (yG (zW (zW (yG (zW (fB (v1:=i6 9) rfl rfl ?_)))))))
     exact ⟨rfl,H.pick []⟩
    have c:=zV C c
    exact (zQ (yX (zF (meet ⟨(),zK,⟨H.pick [0],c⟩⟩))))
   rintro _ ρ eg ⟨H,c⟩
   have c:=xO am c
   refine zA ?_
   refine zH (i6 d) ?_
   obtain ⟨L,c5,c⟩:=zD c
   refine zG (xM (a:=d) (b:=1) rfl rfl c5)<| zI (i6 L) ?_
   exact (zX (zF (meet ⟨(ad,L),(zJ rfl zK),⟨H.pick [0],c⟩,Nat.lt_succ_self _⟩)))
  have c:=zV m c
  exact (xE (yC (yC (yQ (zF (meet ⟨(),zK,⟨H.pick [],c⟩⟩))))))
 rintro _ ρ eh ⟨H,c⟩
 have c:=xO Z c
 refine zB fun ei c6=>zA<| zI (i6 0)<| RN c6 ?_
 obtain rfl:=gJ c
 refine (zZ (fB (v1:=i6 0) rfl rfl ?_))
 exact ⟨rfl,H.pick []⟩
theorem Fafw (h:List gV)(f:Str)(v1:Value)(r:Int)(c:Faf h f=some r)(O S:List Nat)(w:World)(H:Hd O w w S [f1 fE v1 h]):
  Cl 23 [v1,sb f] w fun e p=>e= .returned (i6 r)∧Hd O w p S []:=by
 unfold Faf at c
 refine CW 20 Tryz.func23 ?_
 refine zB fun K3 q=>zA<| zI (i6 0)<| RN q ?_
 obtain ⟨s,t,c⟩:=xJ c
 refine yH [4,5,6,7,8,9,10,11,12,13,14,15,16,17,18,19] (fun (g:Unit)=>[]) (fun g wl=>Hd O w wl S []∧s ()=some r) ?_ ?_
 ·skip
  refine zB fun ab u=>zA<| zI (i6 0)<| RN u<| zY ?_
  unfold Fea at c
  obtain ⟨v,m,x,c⟩:=yF c
  refine xA [4,5,6,7,8,9,10,11,12,13,14,15,16,17,18,19] (fun (g:Nat×Int)=>[(5,i6 g.2)]) (fun g wl=>Hd O w wl S [f1 fE v1 h]∧fF v g.1 g.2=some r) (fun g=>g.1) (m,0) (zJ rfl zK) ⟨H.pick [0],c⟩ ?_
  clear H c
  rintro ⟨m,d⟩ ρ ac ⟨H,c⟩
  obtain ⟨y,rfl,c⟩:=yN c
  have c:=yO x c
  refine zB fun ad z=>?_
  refine zB fun ae A=>zA<| zH (i6 d)<| zH v1 ?_
  obtain ⟨B,C,c⟩:=zD c
  obtain ⟨af,ag,D⟩:=SlF.len ((H.item (i:=0) rfl))
  refine zG (yK (xK u22 D) (congrArg (Value.int .i64) C)) ?_
  obtain ⟨E,F,c⟩:=zD c
  refine zG (zM (xG (a:=d) (b:=B) rfl rfl) F)<| RN A<| yB (b:=E) rfl (fun j=>?_) (fun j=>?_)
  ·have c:=zU j c
   refine zQ (zF (z _ _ ?_))
   refine zB fun ah G=>?_
   refine zY ?_
   refine zB fun ai I=>zA<| zH v1<| zH (i6 d) ?_
   obtain ⟨n,k,c⟩:=zC c
   obtain ⟨J,K,aj,ak,L,M,N,P,Q⟩:=xY (H.item (i:=0) rfl) k
   obtain ⟨R,rfl,T⟩:=xU M
   have H:=H.fzs [.at J (K+d.toNat * 4) _,.sl gX R n.Series.Samples] ⟨⟨N,P,Q⟩,T,trivial⟩
   refine zG (yV u22 eF L rfl (zO k).1 (zO k).2.1 rfl rfl)<| zG (mJ rfl)<| zG (yU dQ rfl (Cells.get (H.item (i:=1) rfl).2.2 (i:=0) rfl))<| zH (sb f) ?_
   obtain ⟨U,V,c⟩:=zD c
   refine zG (zM (wB (s1:=n.Name) (s2:=f) rfl rfl) V)<| RN I<| yB (b:=U) rfl (fun l=>?_) (fun l=>?_)
   ·have c:=zU l c
    refine zB fun al X=>zA<| zH (i6 d)<| zI (i6 d)<| RN X ?_
    obtain rfl:=gJ c
    refine (zZ (yG (zW (zW (yG (zW (fB (v1:=i6 d) rfl rfl ?_)))))))
    exact ⟨rfl,H.pick []⟩
   have c:=zV l c
   refine (zQ (yX (zF (G _ _ ?_))))
   refine zA ?_
   refine zH (i6 d) ?_
   obtain ⟨o,Y,c⟩:=zD c
   refine zG (xM (a:=d) (b:=1) rfl rfl Y)<| zI (i6 o) ?_
   exact (zX (zF (meet ⟨(y,o),(zJ rfl zK),⟨H.pick [0],c⟩,Nat.lt_succ_self _⟩)))
  have c:=zV j c
  exact (xE (yC (yC (yQ (zF (meet ⟨(),zK,⟨H.pick [],c⟩⟩))))))
 rintro _ ρ am ⟨H,c⟩
 have c:=xO t c
 refine zB fun an Z=>zA<| zI (i6 (-1))<| RN Z ?_
 obtain rfl:=gJ c
 refine (zZ (fB (v1:=i6 (-1)) rfl rfl ?_))
 exact ⟨rfl,H.pick []⟩
theorem Fbtw (d:Int)(f:Int)(h:Int)(r:Bool)(c:Fbt d f h=some r)(O S:List Nat)(w:World)(H:Hd O w w S []):
  Cl 24 [i6 d,i6 f,i6 h] w fun e l=>e= .returned (.bool r)∧Hd O w l S []:=by
 unfold Fbt at c
 refine CW 15 Tryz.func24 ?_
 refine zB fun s m=>zA<| zI (.bool false)<| RN m ?_
 obtain ⟨j,c,n⟩:=zC c
 refine yH [6,7,8,9,10,11,12,13,14] (fun (g:Unit)=>[(6,.bool j)]) (fun g wl=>Hd O w wl S []) ?_ ?_
 ·skip
  refine zA ?_
  refine zH (i6 d)<| zH (i6 f) ?_
  obtain ⟨o,p,c⟩:=zD c
  refine zG (zM (xG (a:=d) (b:=f) rfl rfl) p)<| xI (b:=o) rfl rfl rfl (fun i=>?_) (fun i=>?_)
  ·have c:=zU i c
   refine yT ?_
   refine yT ?_
   refine yT ?_
   refine zG (yL (v:= .bool true) rfl rfl)<| zI (.bool true) ?_
   obtain rfl:=gJ c
   exact (zX (zF (meet ⟨(),(zJ rfl zK),H.pick []⟩)))
  have c:=zV i c
  refine zH (i6 d)<| zH (i6 h) ?_
  obtain ⟨k,q,c⟩:=zD c
  refine zG (zM (eX (a:=d) (b:=h) rfl rfl) q)<| zG (yD (v:= .bool k) rfl rfl)<| zI (.bool k) ?_
  obtain rfl:=gJ c
  exact (zX (zF (meet ⟨(),(zJ rfl zK),H.pick []⟩)))
 rintro _ ρ t H
 have c:=n
 obtain rfl:=gJ c
 refine (zZ (fB (v1:= .bool j) rfl rfl ?_))
 exact ⟨rfl,H.pick []⟩
theorem Fa3w (d:Int)(f:Int)(h:Int)(r:Int)(c:Fa3 d f h=some r)(O S:List Nat)(w:World)(H:Hd O w w S []):
  Cl 25 [i6 d,i6 f,i6 h] w fun e o=>e= .returned (i6 r)∧Hd O w o S []:=by
 unfold Fa3 at c
 refine CW 24 Tryz.func25 ?_
 refine zB fun P p=>zA<| zI (i6 0)<| RN p<| zB fun Q q=>?_
 obtain ⟨m,c,s⟩:=zC c
 refine yH [7,8,9,10,11,12,13,14,15,16,17] (fun (g:Unit)=>[(17,.bool m)]) (fun g wl=>Hd O w wl S []) ?_ ?_
 ·skip
  refine zA ?_
  refine zH (i6 d) ?_
  obtain ⟨t,u,c⟩:=zD c
  refine zG (zM (xG (a:=d) (b:=0) rfl rfl) u) ?_
  obtain ⟨n,c,x⟩:=zC c
  refine eU 5 [9,10,11,12,13] [(13,.bool n)] (fun wl=>Hd O w wl S []) ?_ ?_
  ·skip
   refine xI (b:=t) rfl rfl rfl (fun i=>?_) (fun i=>?_)
   ·have c:=zU i c
    refine yT ?_
    refine yT ?_
    refine yT ?_
    refine zG (yL (v:= .bool true) rfl rfl) ?_
    obtain rfl:=gJ c
    exact zX (zF (meet ⟨(zJ rfl zK),H.pick []⟩))
   have c:=zV i c
   refine zH (i6 d)<| zH (i6 f) ?_
   obtain ⟨y,z,c⟩:=zD c
   refine zG (zM (eX (a:=d) (b:=f) rfl rfl) z)<| zG (yD (v:= .bool y) rfl rfl) ?_
   obtain rfl:=gJ c
   exact zX (zF (meet ⟨(zJ rfl zK),H.pick []⟩))
  rintro ρ R H
  have c:=x
  refine xI (b:=n) rfl rfl rfl (fun j=>?_) (fun j=>?_)
  ·have c:=zU j c
   refine yT ?_
   refine yT ?_
   refine zG (yL (v:= .bool true) rfl rfl) ?_
   obtain rfl:=gJ c
   exact (zX (zF (meet ⟨(),(zJ rfl zK),H.pick []⟩)))
  have c:=zV j c
  refine zH (i6 f) ?_
  obtain ⟨A,B,c⟩:=zD c
  refine zG (zM (eX (a:=f) (b:=4194303) rfl rfl) B)<| zG (yD (v:= .bool A) rfl rfl) ?_
  obtain rfl:=gJ c
  exact (zX (zF (meet ⟨(),(zJ rfl zK),H.pick []⟩)))
 rintro _ ρ T H
 have c:=s
 refine yB (b:=m) rfl (fun k=>?_) (fun k=>?_)
 ·have c:=zU k c
  refine zB fun U C=>zA<| zI (i6 9)<| RN C ?_
  obtain rfl:=gJ c
  refine (zZ (zW (fB (v1:=i6 9) rfl rfl ?_)))
  exact ⟨rfl,H.pick []⟩
 have c:=zV k c
 refine zQ (zF (q _ _ ?_))
 refine zB fun V D=>?_
 refine zB fun X E=>zA<| zH (i6 f)<| zH (i6 d) ?_
 obtain ⟨F,G,c⟩:=zD c
 refine zG (dH (a:=f) (b:=d) rfl rfl G) ?_
 obtain ⟨I,J,c⟩:=zD c
 refine zG (xM (a:=F) (b:=1) rfl rfl J)<| zH (i6 h) ?_
 obtain ⟨K,L,c⟩:=zD c
 refine zG (zM (eX (a:=I) (b:=h) rfl rfl) L)<| RN E<| yB (b:=K) rfl (fun l=>?_) (fun l=>?_)
 ·have c:=zU l c
  refine zB fun Y M=>zA<| zI (i6 3)<| RN M ?_
  obtain rfl:=gJ c
  refine (zZ (zW (fB (v1:=i6 3) rfl rfl ?_)))
  exact ⟨rfl,H.pick []⟩
 have c:=zV l c
 refine zQ (zF (D _ _ ?_))
 refine zB fun Z N=>zA<| zI (i6 0)<| RN N ?_
 obtain rfl:=gJ c
 refine (zZ (fB (v1:=i6 0) rfl rfl ?_))
 exact ⟨rfl,H.pick []⟩
theorem Fcww (c:Int)(r:Bool)(d:Fcw c=some r)(O S:List Nat)(w:World)(H:Hd O w w S []):
  Cl 51 [i6 c] w fun e g=>e= .returned (.bool r)∧Hd O w g S []:=by
 unfold Fcw at d
 refine CW 5 Tryz.func51 ?_
 refine zB fun k h=>zA<| zI (.bool false)<| RN h<| zB fun l i=>zA<| zH (i6 c) ?_
 obtain ⟨f,j,d⟩:=zD d
 refine zG (zM (bG (a:=c) (b:=3) rfl rfl) j)<| zI (.bool f)<| RN i ?_
 obtain rfl:=gJ d
 refine (zZ (fB (v1:= .bool f) rfl rfl ?_))
 exact ⟨rfl,H.pick []⟩
theorem Fapw (f:Series)(k:Int)(o:Int)(v1:Value)(r:fA×Bool)(c:Fap f k o=some r)(O S:List Nat)(w:World)(H:Hd O w w S [f1 gX v1 f.Samples]):
  Cl 26 [.agg [i6 f.Den,v1].toArray,i6 k,i6 o] w fun e J=>e= .returned (.tuple #[.agg [i6 r.1.At,i6 r.1.N,i6 r.1.Mark].toArray,.bool r.2])∧Hd O w J S []:=by
 unfold Fap at c
 refine CW 56 Tryz.func26 ?_
 refine zB fun K3 K=>zA<| yS rfl rfl (xZ (cs:=[i6 f.Den,v1]) rfl H) ?_
 rintro _ w6 ⟨C,rfl,H⟩
 refine yS rfl rfl (xB mD H) ?_
 rintro _ w9 ⟨s,rfl,H⟩
 refine zI (.bool false)<| RN K<| zB fun bp L=>?_
 have M:=H
 have H:=H.rebase
 have bq:=H
 refine WP_mix0 H [0,1,2,3,4] (kz [0,1,0,0,0]) mixed ?_
 refine XP (fun _ _=>dX rfl)<| XR aO H 1 1 rfl rfl ?_
 obtain ⟨D,P,c⟩:=zD c
 obtain ⟨br,bt,Q⟩:=SlF.len ((H.item (i:=0) rfl))
 refine XP (fun _ _=>yK (xK u37 Q) (congrArg (Value.int .i64) P))<| XP (fun _ _=>eG (v:=i6 0) rfl)<| XP (fun _ _=>eG (v:=i6 D) rfl)<| MxM.XL_nil fun bu hS=>?_
 have H:=H.sees hS
 have H:=M.rejoin H
 refine (zF (L _ _ ?_))
 obtain ⟨l,c,R⟩:=zC c
 refine yH [8,9,10,15,16,17,18,19,20,21,22,23,24,25,26,27,28,29,30,31,32] (fun (g:Unit)=>[(8,i6 l)]) (fun g wl=>Hd O w wl S [f1 gX v1 f.Samples,.blk C [i6 f.Den,v1] 39,.blk s [i6 0,i6 0,i6 0] 46]) ?_ ?_
 ·skip
  refine zY ?_
  unfold Fcz at c
  obtain ⟨T,E,U,c⟩:=yF c
  refine xA [8,9,10,15,16,17,18,19,20,21,22,23,24,25,26,27,28,29,30,31,32] (fun (g:Nat×Int×Int)=>[(8,i6 g.2.1),(9,i6 g.2.2)]) (fun g wl=>Hd O w wl S [f1 gX v1 f.Samples,.blk C [i6 f.Den,v1] 39,.blk s [i6 0,i6 0,i6 0] 46]∧fF T g.1 (g.2.1,g.2.2)=some l) (fun g=>g.1) (E,0,D) (zJ rfl (zJ rfl zK)) ⟨H.pick [0,1,2],c⟩ ?_
  clear H c
  rintro ⟨E,m,n⟩ ρ bv ⟨H,c⟩
  obtain ⟨F,rfl,c⟩:=yN c
  have c:=yO U c
  refine zB fun bw V=>?_
  refine zB fun bx X=>zA<| zH (i6 m)<| zH (i6 n) ?_
  obtain ⟨Y,Z,c⟩:=zD c
  refine zG (zM (xG (a:=m) (b:=n) rfl rfl) Z)<| RN X<| yB (b:=Y) rfl (fun t=>?_) (fun t=>?_)
  ·have c:=zU t c
   refine zQ (zF (V _ _ ?_))
   refine zY ?_
   refine zB fun bz aa=>zA<| zH (i6 m)<| zH (i6 n) ?_
   obtain ⟨ab,ac,c⟩:=zD c
   refine zG (xM (a:=m) (b:=n) rfl rfl ac) ?_
   obtain ⟨h,ad,c⟩:=zC c
   refine zG (Do_quo' (j:=ab) (q:=2) rfl rfl ad)<| zI (i6 h)<| RN aa<| zB fun b0 ae=>zA<| zG (dX rfl)<| Ld aO H 1 1 rfl rfl<| zH (i6 h) ?_
   obtain ⟨af,u,c⟩:=zC c
   obtain ⟨ag,ah,b1,b2,ai,aj,ak,al,am⟩:=xY (H.item (i:=0) rfl) u
   obtain rfl:=fU aj
   have H:=H.fz (.at ag (ah+h.toNat * 3) _) ⟨ak,al,am⟩
   refine zG (yV u37 bD ai rfl (zO u).1 (zO u).2.1 rfl rfl)<| zG (kY rfl)<| zG (yU fK rfl (Cells.get (H.item (i:=3) rfl).2.2 (i:=0) rfl))<| zH (i6 k) ?_
   obtain ⟨an,ao,c⟩:=zD c
   refine zG (zM (bV (a:=af.At) (b:=k) rfl rfl) ao)<| RN ae<| yB (b:=an) rfl (fun x=>?_) (fun x=>?_)
   ·have c:=zU x c
    refine zA ?_
    refine zH (i6 h) ?_
    obtain ⟨G,ap,c⟩:=zD c
    refine zG (xM (a:=h) (b:=1) rfl rfl ap)<| zI (i6 G) ?_
    exact (zX (yX (zF (meet ⟨(F,G,n),(zJ rfl (zJ rfl zK)),⟨H.pick [0,1,2],c⟩,Nat.lt_succ_self _⟩))))
   have c:=zV x c
   refine zA ?_
   refine zH (i6 h)<| zI (i6 h) ?_
   exact (zX (yX (zF (meet ⟨(F,m,h),(zJ rfl (zJ rfl zK)),⟨H.pick [0,1,2],c⟩,Nat.lt_succ_self _⟩))))
  have c:=zV t c
  obtain rfl:=gJ c
  exact (xE (yC (yC (yQ (zF (meet ⟨(),(zJ rfl zK),H.pick [0,1,2]⟩))))))
 rintro _ ρ b3 H
 have c:=R
 refine zB fun b4 aq=>?_
 refine zB fun b5 ar=>zA<| zH (i6 l) ?_
 obtain ⟨au,av,c⟩:=zD c
 refine zG (zM (wC (a:=l) (b:=0) rfl rfl) av)<| RN ar<| yB (b:=au) rfl (fun y=>?_) (fun y=>?_)
 ·have c:=zU y c
  refine zB fun b6 aw=>zA<| zG (xR (cs:=[i6 0,i6 0,i6 0]) bz46)<| yZ rfl (yM (vs:=[i6 0,i6 0,i6 0]) H 2 rfl bD rfl rfl rfl ⟨rfl,rfl,rfl,trivial⟩ rfl) ?_
  rintro b7 H
  refine zI (.bool false)<| RN aw ?_
  obtain rfl:=gJ c
  refine (zZ (zW (nY (v1:= .bool false) rfl rfl (yI kH bD rfl (Hbc H 2 rfl)) rfl ?_)))
  exact ⟨rfl,H.pick []⟩
 have c:=zV y c
 refine zQ (zF (aq _ _ ?_))
 refine zB fun b8 ax=>zA<| zG (dX rfl)<| Ld aO H 1 1 rfl rfl<| zH (i6 l) ?_
 obtain ⟨ay,az,c⟩:=zD c
 refine zG (dH (a:=l) (b:=1) rfl rfl az) ?_
 obtain ⟨d,z,c⟩:=zC c
 obtain ⟨a0,a1,b9,ca,a2,a3,a4,a5,a6⟩:=xY (H.item (i:=0) rfl) z
 obtain rfl:=fU a3
 have H:=H.fz (.at a0 (a1+ay.toNat * 3) _) ⟨a4,a5,a6⟩
 refine zG (yV u37 bD a2 rfl (zO z).1 (zO z).2.1 rfl rfl)<| zG (yK (yP (cs:=[i6 d.At,i6 d.N,i6 d.Mark]) kH rfl bD rfl (H.item (i:=3) rfl).2.2) rfl)<| yS rfl rfl (xB mD H) ?_
 rintro _ cb ⟨a7,rfl,H⟩
 refine yZ rfl (yM (vs:=[i6 d.At,i6 d.N,i6 d.Mark]) H 4 rfl bD rfl rfl rfl ⟨rfl,rfl,rfl,trivial⟩ rfl) ?_
 rintro cc H
 refine RN ax<| zB fun cd a8=>?_
 obtain ⟨I,c,a9⟩:=zC c
 refine yH [42,43,44,45,46,47,48,49,50,51,52,53] (fun (g:Unit)=>[(53,.bool I)]) (fun g wl=>Hd O w wl S [.blk s [i6 0,i6 0,i6 0] 46,.blk a7 [i6 d.At,i6 d.N,i6 d.Mark] 46]) ?_ ?_
 ·skip
  refine zA ?_
  refine zG (jW rfl)<| Ld fK H 4 2 rfl rfl ?_
  have ba:=H
  obtain ⟨bb,bc,c⟩:=zC c
  refine zS rfl rfl (zN en51 rfl) (Fcww d.Mark _ bc _ _ _ (H.enter [] [])) ?_
  rintro _ ce ⟨rfl,bd⟩
  have H:=ba.step (bd.only:Only [] _ _)
  refine ⟨_,rfl,?_⟩
  obtain ⟨be,bf,c⟩:=zD c
  refine zG (zM (fV (p:=bb) rfl) bf)<| xI (b:=be) rfl rfl rfl (fun A=>?_) (fun A=>?_)
  ·have c:=zU A c
   refine yT ?_
   refine yT ?_
   refine yT ?_
   refine yT ?_
   refine yT ?_
   refine yT ?_
   refine zG (yL (v:= .bool true) rfl rfl) ?_
   obtain rfl:=gJ c
   exact (zX (zF (meet ⟨(),(zJ rfl zK),H.pick [2,4]⟩)))
  have c:=zV A c
  refine zH (i6 k)<| zG (kY rfl)<| Ld fK H 4 0 rfl rfl ?_
  obtain ⟨bg,bh,c⟩:=zD c
  refine zG (dH (a:=k) (b:=d.At) rfl rfl bh)<| zH (i6 o) ?_
  obtain ⟨bi,bj,c⟩:=zD c
  refine zG (zM (eX (a:=bg) (b:=o) rfl rfl) bj)<| zG (yD (v:= .bool bi) rfl rfl) ?_
  obtain rfl:=gJ c
  exact (zX (zF (meet ⟨(),(zJ rfl zK),H.pick [2,4]⟩)))
 rintro _ ρ cf H
 have c:=a9
 refine yB (b:=I) rfl (fun B=>?_) (fun B=>?_)
 ·have c:=zU B c
  refine zB fun cg bk=>zA<| zG (xR (cs:=[i6 0,i6 0,i6 0]) bz46)<| yZ rfl (yM (vs:=[i6 0,i6 0,i6 0]) H 0 rfl bD rfl rfl rfl ⟨rfl,rfl,rfl,trivial⟩ rfl) ?_
  rintro ch H
  refine zI (.bool false)<| RN bk ?_
  obtain rfl:=gJ c
  refine (zZ (zW (nY (v1:= .bool false) rfl rfl (yI kH bD rfl (Hbc H 0 rfl)) rfl ?_)))
  exact ⟨rfl,H.pick []⟩
 have c:=zV B c
 refine zQ (zF (a8 _ _ ?_))
 refine zB fun ci bl=>zA<| zG (yK (yP (cs:=[i6 d.At,i6 d.N,i6 d.Mark]) kH rfl bD rfl (Hbc H 1 rfl)) rfl)<| yZ rfl (yM (vs:=[i6 d.At,i6 d.N,i6 d.Mark]) H 0 rfl bD rfl rfl rfl ⟨rfl,rfl,rfl,trivial⟩ rfl) ?_
 rintro cj H
 refine zI (.bool true)<| RN bl ?_
 obtain rfl:=gJ c
 refine (zZ (nY (v1:= .bool true) rfl rfl (yI kH bD rfl (Hbc H 0 rfl)) rfl ?_))
 exact ⟨rfl,H.pick []⟩
set_option maxRecDepth 100000 in
theorem Fa1w (y:List Int)(v1:Value)(r:(List Int))(c:Fa1 y=some r)(O S:List Nat)(w:World)(H:Hd O w w S [f1 (Rp.int .i64) v1 y]):
  Cl 13 [v1] w fun e j=> ∃u3,e= .returned (u3)∧Hd O w j S [.own (Rp.int .i64) u3 3 r]:=by
 unfold Fa1 at c
 refine CW 48 Tryz.func13 ?_
 refine zB fun K4 N=>zA<| zI (.slice none 0 0)<| RN N<| zB fun K5 P=>zA<| zH v1 ?_
 have H:=fQ H (Rp.int .i64) 3
 obtain ⟨Q,R,c⟩:=zC c
 refine yS rfl rfl (aU H (i:=1) rfl u42 el3 rfl rfl (Sr.of_rd (H.item (i:=0) rfl)) R) ?_
 rintro d bx H
 refine zI d<| RN P ?_
 obtain ⟨z,c,T⟩:=zC c
 refine yH [4,5,8,9,10,11,12,13,14,15,16,17,18,19,20,21,22,23,24,25,26,27,28,29,30,31,32,33,34,35,36,37,38,39,40,41,42,43,44,45,46] (fun (g:Unit)=>[]) (fun g wl=>Hd O w wl S [.own (Rp.int .i64) d 3 z]) ?_ ?_
 ·skip
  refine zB fun bz U=>zA<| zI (i6 1)<| RN U<| zY ?_
  unfold Fb0 at c
  obtain ⟨V,A,X,c⟩:=yF c
  refine xA [4,5,8,9,10,11,12,13,14,15,16,17,18,19,20,21,22,23,24,25,26,27,28,29,30,31,32,33,34,35,36,37,38,39,40,41,42,43,44,45,46] (fun (g:Nat×Int×(List Int))=>[(4,i6 g.2.1)]) (fun g wl=>Hd O w wl S [.own (Rp.int .i64) d 3 g.2.2]∧fF V g.1 (g.2.1,g.2.2)=some z) (fun g=>g.1) (A,1,Q) (zJ rfl zK) ⟨H.pick [1],c⟩ ?_
  clear H c
  rintro ⟨A,k,Y⟩ ρ b0 ⟨H,c⟩
  obtain ⟨Z,rfl,c⟩:=yN c
  have c:=yO X c
  refine zB fun b1 aa=>?_
  refine zB fun b2 ab=>zA<| zH (i6 k)<| zH d ?_
  obtain ⟨ac,ad,c⟩:=zD c
  obtain ⟨b3,b4,ae⟩:=Sr.len (Sr.of_own (H.item (i:=0) rfl))
  refine zG (yK (xK u42 ae) (congrArg (Value.int .i64) ad)) ?_
  obtain ⟨af,ag,c⟩:=zD c
  refine zG (zM (xG (a:=k) (b:=ac) rfl rfl) ag)<| RN ab<| yB (b:=af) rfl (fun l=>?_) (fun l=>?_)
  ·have c:=zU l c
   refine zQ (zF (aa _ _ ?_))
   obtain ⟨m,c,ah⟩:=zC c
   refine yH [5,14,15,16,17,18,19,20,21,22,23,24,25,26,27,28,29,30,31,32,33,34,35,36,37,38,39,40,41,42,43,44,45,46] (fun (g:Unit)=>[]) (fun g wl=>Hd O w wl S [.own (Rp.int .i64) d 3 m]) ?_ ?_
   ·skip
    refine zY ?_
    refine zB fun b5 ai=>zA<| zH (i6 k)<| zI (i6 k)<| RN ai<| zY ?_
    unfold Fcv at c
    obtain ⟨aj,B,ak,c⟩:=yF c
    refine xA [5,15,16,17,18,19,20,21,22,23,24,25,26,27,28,29,30,31,32,33,34,35,36,37,38,39,40,41,42,43,44,45,46] (fun (g:Nat×Int×(List Int))=>[(5,i6 g.2.1)]) (fun g wl=>Hd O w wl S [.own (Rp.int .i64) d 3 g.2.2]∧fF aj g.1 (g.2.1,g.2.2)=some m) (fun g=>g.1) (B,k,Y) (zJ rfl zK) ⟨H.pick [0],c⟩ ?_
    clear H c
    rintro ⟨B,h,al⟩ ρ b6 ⟨H,c⟩
    obtain ⟨am,rfl,c⟩:=yN c
    have c:=yO ak c
    refine zB fun b7 an=>?_
    obtain ⟨C,c,ao⟩:=zC c
    refine yH [15,16,17,18,19,20,21,22,23,24,25,26,27,28] (fun (g:Unit)=>[(28,.bool C)]) (fun g wl=>Hd O w wl S [.own (Rp.int .i64) d 3 al]) ?_ ?_
    ·skip
     have D:=H
     have H:=H.rebase
     have b8:=H
     refine WP_mix0 H [0,1,2,3,4,5,6,7,8,9,10,11,12,13] (kz [0,0,0,0,0,0,1,0,0,0,0,1,0,0]) mixed ?_
     refine XM (i6 h) ?_
     obtain ⟨ap,aq,c⟩:=zD c
     refine XP (fun _ _=>zM (eX (a:=h) (b:=0) rfl rfl) aq)<| MxM.XL_splitb (b:=ap) rfl rfl rfl rfl (fun n=>?_) (fun n=>?_)
     ·have c:=zU n c
      refine XM d<| XM (i6 h) ?_
      obtain ⟨E,o,c⟩:=zC c
      obtain ⟨b9,ca,ar,au,av,aw⟩:=fZ (H.item (i:=0) rfl) o
      obtain rfl:ar= [i6 E]:=av
      refine XP (fun _ _=>yV u42 sz3 au rfl (zO o).1 (zO o).2.1 rfl rfl)<| MxM.xP oS rfl rfl rfl (fun j f=>yU fK rfl (Cells.get (aw.sees f) (i:=0) rfl))<| XM d<| XM (i6 h) ?_
      obtain ⟨cb,ax,c⟩:=zD c
      refine XP (fun _ _=>dH (a:=h) (b:=1) rfl rfl ax) ?_
      obtain ⟨F,p,c⟩:=zC c
      obtain ⟨cc,cd,ay,az,a0,a1⟩:=fZ (H.item (i:=0) rfl) p
      obtain rfl:ay= [i6 F]:=a0
      refine XP (fun _ _=>yV u42 sz3 az rfl (zO p).1 (zO p).2.1 rfl rfl)<| MxM.xP oS rfl rfl rfl (fun j f=>yU fK rfl (Cells.get (a1.sees f) (i:=0) rfl)) ?_
      obtain ⟨a2,a3,c⟩:=zD c
      refine XP (fun _ _=>zM (xG (a:=E) (b:=F) rfl rfl) a3)<| XP (fun _ _=>yL (v:= .bool a2) rfl rfl)<| MxM.XL_nil fun ce hS=>?_
      have H:=H.sees hS
      have H:=D.rejoin H
      obtain rfl:=gJ c
      exact (zF (meet ⟨(),(zJ rfl zK),H.pick [0]⟩))
     have c:=zV n c
     refine XO<| XO<| XO<| MxM.XL_offr oS rfl rfl rfl ?_
     refine XO<| XO<| XO<| XO<| MxM.XL_offr oS rfl rfl rfl ?_
     refine XO<| XP (fun _ _=>yD (v:= .bool false) rfl rfl)<| MxM.XL_nil fun cf hS=>?_
     have H:=H.sees hS
     have H:=D.rejoin H
     obtain rfl:=gJ c
     exact (zF (meet ⟨(),(zJ rfl zK),H.pick [0]⟩))
    rintro _ ρ cg H
    have c:=ao
    refine yB (b:=C) rfl (fun q=>?_) (fun q=>?_)
    ·have c:=zU q c
     refine zQ (zF (an _ _ ?_))
     refine zB fun ch a4=>?_
     refine zY ?_
     have a5:=H
     have H:=H.rebase
     have ci:=H
     refine WP_mix0 H [0,1,2,3,4,5,6,7,8,9,10,11,12,13,14,15,16,17] (kz [0,0,0,0,0,0,0,0,0,1,0,0,0,1,0,3,0,3]) mixed ?_
     refine XM d<| XM (i6 h)<| XM d<| XM (i6 h) ?_
     obtain ⟨cj,a6,c⟩:=zD c
     refine XP (fun _ _=>dH (a:=h) (b:=1) rfl rfl a6)<| XM d<| XM (i6 h) ?_
     obtain ⟨ck,a7,c⟩:=zD c
     refine XP (fun _ _=>dH (a:=h) (b:=1) rfl rfl a7) ?_
     obtain ⟨G,s,c⟩:=zC c
     obtain ⟨cl,cm,a8,a9,ba,bb⟩:=fZ (H.item (i:=0) rfl) s
     obtain rfl:a8= [i6 G]:=ba
     refine XP (fun _ _=>yV u42 sz3 a9 rfl (zO s).1 (zO s).2.1 rfl rfl)<| MxM.xP oS rfl rfl rfl (fun j f=>yU fK rfl (Cells.get (bb.sees f) (i:=0) rfl))<| XM d<| XM (i6 h) ?_
     obtain ⟨I,t,c⟩:=zC c
     obtain ⟨cn,co,bc,bd,be,bf⟩:=fZ (H.item (i:=0) rfl) t
     obtain rfl:bc= [i6 I]:=be
     refine XP (fun _ _=>yV u42 sz3 bd rfl (zO t).1 (zO t).2.1 rfl rfl)<| MxM.xP oS rfl rfl rfl (fun j f=>yU fK rfl (Cells.get (bf.sees f) (i:=0) rfl)) ?_
     obtain ⟨bg,u,c⟩:=zC c
     obtain ⟨cp,cq,bh,J,bi,bj⟩:=fZ (H.item (i:=0) rfl) u
     obtain rfl:bh= [i6 bg]:=bi
     refine XP (fun _ _=>yV u42 sz3 J rfl (zO u).1 (zO u).2.1 rfl rfl) ?_
     obtain ⟨cr,bk,c⟩:=zC c
     refine MxM.XL_exU oS rfl rfl (fun j f=>kP (vs:=[i6 G]) (off:=0) (H.sees f) 0 rfl J (bj.sees f) rfl sz3 rfl rfl rfl (kC ⟨rfl,trivial⟩) bk (by decide) rfl rfl) ?_
     rintro j cs f H
     refine ⟨H.only,?_⟩
     obtain ⟨bl,x,c⟩:=zC c
     obtain ⟨ct,cu,bm,K,bn,bo⟩:=fZ (H.item (i:=0) rfl) x
     obtain rfl:bm= [i6 bl]:=bn
     refine XP (fun _ _=>yV u42 sz3 K rfl (zO x).1 (zO x).2.1 rfl rfl) ?_
     obtain ⟨bp,bq,c⟩:=zC c
     refine MxM.XL_exU oS rfl rfl (fun j f=>kP (vs:=[i6 I]) (off:=0) (H.sees f) 0 rfl K (bo.sees f) rfl sz3 rfl rfl rfl (kC ⟨rfl,trivial⟩) bq (by decide) rfl rfl) ?_
     rintro j cv f H
     refine ⟨H.only,?_⟩
     refine MxM.XL_nil fun cw hS=>?_
     have H:=H.sees hS
     have H:=a5.rejoin H
     refine yX (zF (a4 _ _ ?_))
     refine zA ?_
     refine zH (i6 h) ?_
     obtain ⟨L,br,c⟩:=zD c
     refine zG (dH (a:=h) (b:=1) rfl rfl br)<| zI (i6 L) ?_
     exact (zX (zF (meet ⟨(am,L,bp),(zJ rfl zK),⟨H.pick [0],c⟩,Nat.lt_succ_self _⟩)))
    have c:=zV q c
    obtain rfl:=gJ c
    exact (xE (yC (yC (yQ (yX (zF (meet ⟨(),zK,H.pick [0]⟩)))))))
   rintro _ ρ cx H
   have c:=ah
   refine zA ?_
   refine zH (i6 k) ?_
   obtain ⟨M,bt,c⟩:=zD c
   refine zG (xM (a:=k) (b:=1) rfl rfl bt)<| zI (i6 M) ?_
   exact (zX (zF (meet ⟨(Z,M,m),(zJ rfl zK),⟨H.pick [0],c⟩,Nat.lt_succ_self _⟩)))
  have c:=zV l c
  obtain rfl:=gJ c
  exact (xE (yC (yC (yQ (zF (meet ⟨(),zK,H.pick [0]⟩))))))
 rintro _ ρ cy H
 have c:=T
 refine zB fun cz bu=>zA<| zH d<| zI d<| RN bu ?_
 obtain rfl:=gJ c
 refine (zZ (fB (v1:=d) rfl rfl ?_))
 exact ⟨d,rfl,H.pick [0]⟩
end Go.Proofs.YtgmikmoapfmedaaGreatDoor.L
