/- Walks: what each function computes, for every argument; no condition but those that stand in the statements. -/
import Derived.Test.YtgmikmoapfmedaaGreatDoorVV0
import Derived.Test.YtgmikmoapfmedaaGreatDoorVV5
namespace Go.Proofs.YtgmikmoapfmedaaGreatDoor.L
open Go.RowKit Go.OB Go.Lf
set_option maxHeartbeats 4000000
set_option maxRecDepth 100000 in
theorem Famw (h:Arr 3 fG)(m:Int)(r:Int×Int×Bool)(c:Fam h m=some r)(O S:List Nat)(w:World)(H:Hd O w w S []):
  Cl 38 [.agg ((Fl.arr 3 dN).f h).toArray,i6 m] w fun e k=>e= .returned (.tuple #[i6 r.1,i6 r.2.1,.bool r.2.2])∧Hd O w k S []:=by
 unfold Fam at c
 refine CW 104 Tryz.func38 ?_
 refine zB fun K1 bc=>zA<| yS rfl rfl (xZ (cs:=(Fl.arr 3 dN).f h) rfl H) ?_
 rintro _ w4 ⟨n,rfl,H⟩
 refine zI (i6 0)<| zI (i6 0)<| zI (.bool false)<| RN bc<| zB fun K5 bd=>zA<| zI (.slice none 0 0)<| RN bd ?_
 obtain ⟨B,c,be⟩:=zC c
 refine yH [7,8,13,14,15,16,17,18,19,20,21,22,23,24,25,26,27] (fun (g:Value)=>[(7,g)]) (fun g wl=>Hd O w wl S [.own (Rp.int .i64) g 3 B,.blk n ((Fl.arr 3 dN).f h) 84]) ?_ ?_
 ·skip
  refine zB fun er bf=>zA<| zI (i6 0)<| RN bf<| zY ?_
  have H:=fQ H (Rp.int .i64) 3
  unfold Fb7 at c
  obtain ⟨bg,ai,bh,c⟩:=yF c
  refine xA [7,8,13,14,15,16,17,18,19,20,21,22,23,24,25,26,27] (fun (g:Nat×(List Int)×Int×Value)=>[(7,g.2.2.2),(8,i6 g.2.2.1)]) (fun g wl=>Hd O w wl S [.own (Rp.int .i64) g.2.2.2 3 g.2.1,.blk n ((Fl.arr 3 dN).f h) 84]∧fF bg g.1 (g.2.1,g.2.2.1)=some B) (fun g=>g.1) (ai,[],0,.slice none 0 0) (zJ rfl (zJ rfl zK)) ⟨H.pick [1,0],c⟩ ?_
  clear H c
  rintro ⟨ai,es,s,C⟩ ρ et ⟨H,c⟩
  obtain ⟨bi,rfl,c⟩:=yN c
  have c:=yO bh c
  refine zB fun eu bj=>?_
  refine zB fun ew bk=>zA<| zH (i6 s) ?_
  obtain ⟨bl,bm,c⟩:=zD c
  refine zG (zM (xG (a:=s) (b:=3) rfl rfl) bm)<| RN bk<| yB (b:=bl) rfl (fun D=>?_) (fun D=>?_)
  ·have c:=zU D c
   refine zQ (zF (bj _ _ ?_))
   obtain ⟨aj,c,bn⟩:=zC c
   refine yH [7,17,18,19,20,21,22,23,24,25,26,27] (fun (g:Value)=>[(7,g)]) (fun g wl=>Hd O w wl S [.own (Rp.int .i64) g 3 aj,.blk n ((Fl.arr 3 dN).f h) 84]) ?_ ?_
   ·skip
    refine zY ?_
    refine zB fun ex bo=>zA<| zH (i6 s) ?_
    obtain ⟨bp,ak,c⟩:=zC c
    refine zG (mG (X:=h) u84 qQ rfl rfl ak)<| zG (fa51_1 rfl)<| zG (yU pV rfl (Cells.get (Cells.ix (e:=dN) (x:=h) (Hbc H 1 rfl) ak) (i:=1) rfl))<| RN bo<| yB (b:=bp.Known) rfl (fun E=>?_) (fun E=>?_)
    ·have c:=zU E c
     refine zA ?_
     refine zH C<| zH (i6 s) ?_
     obtain ⟨A,al,c⟩:=zC c
     refine zG (mG (X:=h) u84 qQ rfl rfl al)<| zG (rJ rfl)<| zG (yU fK rfl (Cells.get (Cells.ix (e:=dN) (x:=h) (Hbc H 1 rfl) al) (i:=0) rfl)) ?_
     obtain ⟨ey,bq,c⟩:=zD c
     subst bq
     refine yS rfl rfl (kN (r:=(Rp.int .i64)) (xl:=[A.N]) (cs:=[i6 A.N]) u42 el3 (by decide) (by decide) rfl (xW (vs:=[i6 A.N]) (by decide) rfl rfl ⟨rfl,trivial⟩ rfl) H ⟨[i6 A.N],[],rfl,rfl,rfl⟩) ?_
     rintro ez e0 H
     obtain ⟨e1,br,c⟩:=zC c
     refine yS rfl rfl (aU H (i:=0) rfl u42 el3 rfl rfl (Sr.of_own (H.item (i:=2) rfl)) br) ?_
     rintro am e2 H
     refine zI am ?_
     obtain rfl:=gJ c
     exact (zX (yX (zF (meet ⟨am,(zJ rfl zK),H.pick [0,1]⟩))))
    have c:=zV E c
    obtain rfl:=gJ c
    exact (zQ (yX (zF (meet ⟨C,(zJ rfl zK),H.pick [0,1]⟩))))
   rintro bt ρ e3 H
   have c:=bn
   refine zA ?_
   refine zH (i6 s) ?_
   obtain ⟨an,bu,c⟩:=zD c
   refine zG (xM (a:=s) (b:=1) rfl rfl bu)<| zI (i6 an) ?_
   exact (zX (zF (meet ⟨(bi,aj,an,bt),(zJ rfl (zJ rfl zK)),⟨H.pick [0,1],c⟩,Nat.lt_succ_self _⟩)))
  have c:=zV D c
  obtain rfl:=gJ c
  exact (xE (yC (yC (yQ (zF (meet ⟨C,(zJ rfl zK),H.pick [0,1]⟩))))))
 rintro ao ρ e4 H
 have c:=be
 refine zB fun e5 bv=>zA<| zH ao ?_
 have H:=H.freeze (i:=0) rfl
 obtain ⟨t,bw,c⟩:=zC c
 refine zS rfl rfl (zN en13 rfl) (Fa1w B ao _ bw _ _ _ (H.enter [] [0])) ?_
 rintro _ e6 ⟨j,rfl,bx⟩
 have H:=H.back1 [0] rfl bx
 refine ⟨_,rfl,?_⟩
 refine zI j<| RN bv<| zB fun e7 bz=>?_
 obtain ⟨ap,c,b0⟩:=zC c
 refine yH [30,31,32,33,34,35,36,37,38,39,40,41,42,43] (fun (g:Unit)=>[(43,.bool ap)]) (fun g wl=>Hd O w wl S [.blk n ((Fl.arr 3 dN).f h) 84,.own (Rp.int .i64) j 3 t]) ?_ ?_
 ·skip
  have aq:=H
  have H:=H.rebase
  have e8:=H
  refine WP_mix0 H [0,1,2,3,4,5,6,7,8,9,10,11,12,13] (kz [0,0,0,0,0,0,1,0,0,1,0,0,0,0]) mixed ?_
  refine XM j ?_
  obtain ⟨b1,b2,c⟩:=zD c
  obtain ⟨e9,fa,b3⟩:=Sr.len (Sr.of_own (H.item (i:=2) rfl))
  refine XP (fun _ _=>yK (xK u42 b3) (congrArg (Value.int .i64) b2)) ?_
  obtain ⟨b4,b5,c⟩:=zD c
  refine XP (fun _ _=>zM (wC (a:=b1) (b:=2) rfl rfl) b5)<| MxM.XL_splitb (b:=b4) rfl rfl rfl rfl (fun F=>?_) (fun F=>?_)
  ·have c:=zU F c
   refine XM j ?_
   obtain ⟨ar,G,c⟩:=zC c
   obtain ⟨fb,fc,b6,b7,b8,b9⟩:=fZ (H.item (i:=2) rfl) G
   obtain rfl:b6= [i6 ar]:=b8
   refine XP (fun _ _=>yV u42 sz3 b7 rfl (zO G).1 (zO G).2.1 rfl rfl)<| MxM.xP oS rfl rfl rfl (fun k d=>yU fK rfl (Cells.get (b9.sees d) (i:=0) rfl))<| XM j ?_
   obtain ⟨au,I,c⟩:=zC c
   obtain ⟨fd,fe,ca,cb,cc,cd⟩:=fZ (H.item (i:=2) rfl) I
   obtain rfl:ca= [i6 au]:=cc
   refine XP (fun _ _=>yV u42 sz3 cb rfl (zO I).1 (zO I).2.1 rfl rfl)<| MxM.xP oS rfl rfl rfl (fun k d=>yU fK rfl (Cells.get (cd.sees d) (i:=0) rfl)) ?_
   obtain ⟨ce,cf,c⟩:=zD c
   refine XP (fun _ _=>dH (a:=ar) (b:=au) rfl rfl cf)<| XM (i6 m) ?_
   obtain ⟨cg,ch,c⟩:=zD c
   refine XP (fun _ _=>zM (bV (a:=ce) (b:=m) rfl rfl) ch)<| XP (fun _ _=>yL (v:= .bool cg) rfl rfl)<| MxM.XL_nil fun ff hS=>?_
   have H:=H.sees hS
   have H:=aq.rejoin H
   obtain rfl:=gJ c
   exact (zF (meet ⟨(),(zJ rfl zK),H.pick [1,2]⟩))
  have c:=zV F c
  refine XO<| XO<| MxM.XL_offr oS rfl rfl rfl ?_
  refine XO<| XO<| MxM.XL_offr oS rfl rfl rfl ?_
  refine XO<| XO<| XO<| XP (fun _ _=>yD (v:= .bool false) rfl rfl)<| MxM.XL_nil fun fg hS=>?_
  have H:=H.sees hS
  have H:=aq.rejoin H
  obtain rfl:=gJ c
  exact (zF (meet ⟨(),(zJ rfl zK),H.pick [1,2]⟩))
 rintro _ ρ fh H
 have c:=b0
 refine yB (b:=ap) rfl (fun J=>?_) (fun J=>?_)
 ·have c:=zU J c
  refine zB fun fi ci=>zA<| zH j ?_
  obtain ⟨K,L,c⟩:=zC c
  obtain ⟨fj,fk,cj,ck,cl,cm⟩:=fZ (H.item (i:=1) rfl) L
  obtain rfl:cj= [i6 K]:=cl
  refine zG (yV u42 sz3 ck rfl (zO L).1 (zO L).2.1 rfl rfl)<| zG (yU fK rfl (Cells.get cm (i:=0) rfl))<| zI (i6 K)<| zI (i6 (-1))<| zI (.bool true)<| RN ci ?_
  obtain rfl:=gJ c
  refine (zZ (zW (vC (v1:=i6 K) (v2:=i6 (-1)) (v3:= .bool true) rfl rfl rfl rfl ?_)))
  exact ⟨rfl,H.pick []⟩
 have c:=zV J c
 refine zQ (zF (bz _ _ ?_))
 refine zB fun fm cn=>?_
 refine zB fun fn co=>zA<| zH j ?_
 obtain ⟨cp,cq,c⟩:=zD c
 obtain ⟨fo,fp,cr⟩:=Sr.len (Sr.of_own (H.item (i:=1) rfl))
 refine zG (yK (xK u42 cr) (congrArg (Value.int .i64) cq)) ?_
 obtain ⟨ct,cu,c⟩:=zD c
 refine zG (zM (xG (a:=cp) (b:=3) rfl rfl) cu)<| RN co<| yB (b:=ct) rfl (fun M=>?_) (fun M=>?_)
 ·have c:=zU M c
  refine zB fun fq cv=>zA<| zI (i6 0)<| zI (i6 (-1))<| zI (.bool false)<| RN cv ?_
  obtain rfl:=gJ c
  refine (zZ (zW (vC (v1:=i6 0) (v2:=i6 (-1)) (v3:= .bool false) rfl rfl rfl rfl ?_)))
  exact ⟨rfl,H.pick []⟩
 have c:=zV M c
 refine zQ (zF (cn _ _ ?_))
 refine zB fun fr cw=>zA<| zI (i6 (-1))<| RN cw<| zB fun fs cx=>?_
 have cy:=H
 have H:=H.rebase
 have ft:=H
 refine WP_mix0 H [0,1,2,3,4,5,6,7,8,9,10,11,12,13,14,15,16,17,18,19] (kz [0,0,1,0,0,1,0,0,0,0,0,1,0,0,1,0,0,0,0,0]) mixed ?_
 refine XM j ?_
 obtain ⟨av,P,c⟩:=zC c
 obtain ⟨fu,fv,cz,c0,c1,c2⟩:=fZ (H.item (i:=1) rfl) P
 obtain rfl:cz= [i6 av]:=c1
 refine XP (fun _ _=>yV u42 sz3 c0 rfl (zO P).1 (zO P).2.1 rfl rfl)<| MxM.xP oS rfl rfl rfl (fun k d=>yU fK rfl (Cells.get (c2.sees d) (i:=0) rfl))<| XM j ?_
 obtain ⟨aw,Q,c⟩:=zC c
 obtain ⟨fw,fx,c3,c4,c5,c6⟩:=fZ (H.item (i:=1) rfl) Q
 obtain rfl:c3= [i6 aw]:=c5
 refine XP (fun _ _=>yV u42 sz3 c4 rfl (zO Q).1 (zO Q).2.1 rfl rfl)<| MxM.xP oS rfl rfl rfl (fun k d=>yU fK rfl (Cells.get (c6.sees d) (i:=0) rfl)) ?_
 obtain ⟨c7,c8,c⟩:=zD c
 refine XP (fun _ _=>dH (a:=av) (b:=aw) rfl rfl c8)<| XM (i6 m) ?_
 obtain ⟨u,c9,c⟩:=zD c
 refine XP (fun _ _=>zM (eX (a:=c7) (b:=m) rfl rfl) c9)<| XM j ?_
 obtain ⟨ax,R,c⟩:=zC c
 obtain ⟨fy,f0,da,db,dc,dd⟩:=fZ (H.item (i:=1) rfl) R
 obtain rfl:da= [i6 ax]:=dc
 refine XP (fun _ _=>yV u42 sz3 db rfl (zO R).1 (zO R).2.1 rfl rfl)<| MxM.xP oS rfl rfl rfl (fun k d=>yU fK rfl (Cells.get (dd.sees d) (i:=0) rfl))<| XM j ?_
 obtain ⟨ay,T,c⟩:=zC c
 obtain ⟨f2,f3,de,df,dg,dh⟩:=fZ (H.item (i:=1) rfl) T
 obtain rfl:de= [i6 ay]:=dg
 refine XP (fun _ _=>yV u42 sz3 df rfl (zO T).1 (zO T).2.1 rfl rfl)<| MxM.xP oS rfl rfl rfl (fun k d=>yU fK rfl (Cells.get (dh.sees d) (i:=0) rfl)) ?_
 obtain ⟨di,dj,c⟩:=zD c
 refine XP (fun _ _=>dH (a:=ax) (b:=ay) rfl rfl dj)<| XM (i6 m) ?_
 obtain ⟨o,dk,c⟩:=zD c
 refine XP (fun _ _=>zM (eX (a:=di) (b:=m) rfl rfl) dk)<| XP (fun _ _=>eG (v:= .bool u) rfl)<| XP (fun _ _=>eG (v:= .bool o) rfl)<| MxM.XL_nil fun f4 hS=>?_
 have H:=H.sees hS
 have H:=cy.rejoin H
 refine (zF (cx _ _ ?_))
 obtain ⟨y,c,dl⟩:=zC c
 refine yH [9,12,68,69,70,71,72,73,74,75,76,77,78,79,80,81,82,83,84,85,86,87,88,89,90,91,92,93,94,95,96,97,98,99] (fun (g:Unit)=>[(9,i6 y)]) (fun g wl=>Hd O w wl S [.own (Rp.int .i64) j 3 t]) ?_ ?_
 ·skip
  refine zB fun f5 dm=>zA<| zH (.bool u)<| zH (.bool o) ?_
  obtain ⟨dn,dp,c⟩:=zD c
  refine zG (zM (aFe (p:=u) (q:=o) u4 rfl rfl) dp)<| RN dm<| yB (b:=dn) rfl (fun U=>?_) (fun U=>?_)
  ·have c:=zU U c
   refine zB fun f6 dq=>zA<| zI (i6 0)<| RN dq<| zY ?_
   unfold Fbd at c
   obtain ⟨dr,az,ds,c⟩:=yF c
   refine xA [9,12,71,72,73,74,75,76,77,78,79,80,81,82,83,84,85,86,87,88,89,90,91,92,93,94,95,96,97,98,99] (fun (g:Nat×Int×Int)=>[(9,i6 g.2.1),(12,i6 g.2.2)]) (fun g wl=>Hd O w wl S [.blk n ((Fl.arr 3 dN).f h) 84,.own (Rp.int .i64) j 3 t]∧fF dr g.1 (g.2.1,g.2.2)=some y) (fun g=>g.1) (az,(-1),0) (zJ rfl (zJ rfl zK)) ⟨H.pick [0,1],c⟩ ?_
   clear H c
   rintro ⟨az,f7,l⟩ ρ f8 ⟨H,c⟩
   obtain ⟨dt,rfl,c⟩:=yN c
   have c:=yO ds c
   refine zB fun f9 du=>?_
   refine zB fun ga dv=>zA<| zH (i6 l) ?_
   obtain ⟨dw,dx,c⟩:=zD c
   refine zG (zM (xG (a:=l) (b:=3) rfl rfl) dx)<| RN dv<| yB (b:=dw) rfl (fun V=>?_) (fun V=>?_)
   ·have c:=zU V c
    refine zQ (zF (du _ _ ?_))
    obtain ⟨a0,c,dy⟩:=zC c
    refine yH [9,75,76,77,78,79,80,81,82,83,84,85,86,87,88,89,90,91,92,93,94,95,96,97,98,99] (fun (g:Unit)=>[(9,i6 a0)]) (fun g wl=>Hd O w wl S [.blk n ((Fl.arr 3 dN).f h) 84,.own (Rp.int .i64) j 3 t]) ?_ ?_
    ·skip
     refine zY ?_
     obtain ⟨a1,c,dz⟩:=zC c
     refine yH [75,76,77,78,79,80,81,82,83,84,85,86,87,88,89,90,91,92,93,94,95,96,97,98] (fun (g:Unit)=>[(98,.bool a1)]) (fun g wl=>Hd O w wl S [.blk n ((Fl.arr 3 dN).f h) 84,.own (Rp.int .i64) j 3 t]) ?_ ?_
     ·skip
      have z:=H
      have H:=H.rebase
      have gb:=H
      refine WP_mix0 H [0,1,2,3,4,5,6,7,8,9,10,11,12,13,14,15,16,17,18,19,20,21,22,23] (kz [0,0,0,0,0,1,0,0,1,0,0,0,0,0,0,0,0,1,0,0,1,0,0,0]) mixed ?_
      refine XM (.bool u)<| MxM.XL_splitb (b:=u) rfl rfl rfl rfl (fun Y=>?_) (fun Y=>?_)
      ·have c:=zU Y c
       refine XM (i6 l) ?_
       obtain ⟨d0,a2,c⟩:=zC c
       refine XP (fun _ _=>mG (X:=h) u84 qQ rfl rfl a2)<| XP (fun _ _=>rJ rfl)<| MxM.xP oS rfl rfl rfl (fun k d=>yU fK rfl (Cells.get (Cells.ix (e:=dN) (x:=h) (Blk.cells ((H.sees d).item (i:=0) rfl)) a2) (i:=0) rfl))<| XM j ?_
       obtain ⟨a3,Z,c⟩:=zC c
       obtain ⟨gc,gd,d1,d2,d3,d4⟩:=fZ (H.item (i:=1) rfl) Z
       obtain rfl:d1= [i6 a3]:=d3
       refine XP (fun _ _=>yV u42 sz3 d2 rfl (zO Z).1 (zO Z).2.1 rfl rfl)<| MxM.xP oS rfl rfl rfl (fun k d=>yU fK rfl (Cells.get (d4.sees d) (i:=0) rfl)) ?_
       obtain ⟨a4,d5,c⟩:=zD c
       refine XP (fun _ _=>zM (wC (a:=d0.N) (b:=a3) rfl rfl) d5)<| XP (fun _ _=>yL (v:= .bool a4) rfl rfl)<| MxM.XL_splitb (b:=a4) rfl rfl rfl rfl (fun aa=>?_) (fun aa=>?_)
       ·have c:=zU aa c
        refine XO<| XO<| XO<| XO<| XO<| MxM.XL_offr oS rfl rfl rfl ?_
        refine XO<| XO<| MxM.XL_offr oS rfl rfl rfl ?_
        refine XO<| XO<| XP (fun _ _=>yL (v:= .bool true) rfl rfl)<| MxM.XL_nil fun ge hS=>?_
        have H:=H.sees hS
        have H:=z.rejoin H
        obtain rfl:=gJ c
        exact (zF (meet ⟨(),(zJ rfl zK),H.pick [0,1]⟩))
       have c:=zV aa c
       refine XM (.bool o)<| MxM.XL_splitb (b:=o) rfl rfl rfl rfl (fun ab=>?_) (fun ab=>?_)
       ·have c:=zU ab c
        refine XM (i6 l) ?_
        obtain ⟨d6,a5,c⟩:=zC c
        refine XP (fun _ _=>mG (X:=h) u84 qQ rfl rfl a5)<| XP (fun _ _=>rJ rfl)<| MxM.xP oS rfl rfl rfl (fun k d=>yU fK rfl (Cells.get (Cells.ix (e:=dN) (x:=h) (Blk.cells ((H.sees d).item (i:=0) rfl)) a5) (i:=0) rfl))<| XM j ?_
        obtain ⟨a6,ac,c⟩:=zC c
        obtain ⟨gf,gg,d7,d8,d9,ea⟩:=fZ (H.item (i:=1) rfl) ac
        obtain rfl:d7= [i6 a6]:=d9
        refine XP (fun _ _=>yV u42 sz3 d8 rfl (zO ac).1 (zO ac).2.1 rfl rfl)<| MxM.xP oS rfl rfl rfl (fun k d=>yU fK rfl (Cells.get (ea.sees d) (i:=0) rfl)) ?_
        obtain ⟨a7,eb,c⟩:=zD c
        refine XP (fun _ _=>zM (wC (a:=d6.N) (b:=a6) rfl rfl) eb)<| XP (fun _ _=>yL (v:= .bool a7) rfl rfl)<| XP (fun _ _=>yD (v:= .bool a7) rfl rfl)<| MxM.XL_nil fun gh hS=>?_
        have H:=H.sees hS
        have H:=z.rejoin H
        obtain rfl:=gJ c
        exact (zF (meet ⟨(),(zJ rfl zK),H.pick [0,1]⟩))
       have c:=zV ab c
       refine XO<| XO<| XO<| MxM.XL_offr oS rfl rfl rfl ?_
       refine XO<| XO<| MxM.XL_offr oS rfl rfl rfl ?_
       refine XO<| XP (fun _ _=>yD (v:= .bool false) rfl rfl)<| XP (fun _ _=>yD (v:= .bool false) rfl rfl)<| MxM.XL_nil fun gj hS=>?_
       have H:=H.sees hS
       have H:=z.rejoin H
       obtain rfl:=gJ c
       exact (zF (meet ⟨(),(zJ rfl zK),H.pick [0,1]⟩))
      have c:=zV Y c
      refine XO<| XO<| XO<| MxM.XL_offr oS rfl rfl rfl ?_
      refine XO<| XO<| MxM.XL_offr oS rfl rfl rfl ?_
      refine XO<| XP (fun _ _=>yD (v:= .bool false) rfl rfl)<| XM (.bool false)<| XM (.bool o)<| MxM.XL_splitb (b:=o) rfl rfl rfl rfl (fun ad=>?_) (fun ad=>?_)
      ·have c:=zU ad c
       refine XM (i6 l) ?_
       obtain ⟨ec,a8,c⟩:=zC c
       refine XP (fun _ _=>mG (X:=h) u84 qQ rfl rfl a8)<| XP (fun _ _=>rJ rfl)<| MxM.xP oS rfl rfl rfl (fun k d=>yU fK rfl (Cells.get (Cells.ix (e:=dN) (x:=h) (Blk.cells ((H.sees d).item (i:=0) rfl)) a8) (i:=0) rfl))<| XM j ?_
       obtain ⟨a9,ae,c⟩:=zC c
       obtain ⟨gk,gl,ed,ee,ef,eg⟩:=fZ (H.item (i:=1) rfl) ae
       obtain rfl:ed= [i6 a9]:=ef
       refine XP (fun _ _=>yV u42 sz3 ee rfl (zO ae).1 (zO ae).2.1 rfl rfl)<| MxM.xP oS rfl rfl rfl (fun k d=>yU fK rfl (Cells.get (eg.sees d) (i:=0) rfl)) ?_
       obtain ⟨ba,eh,c⟩:=zD c
       refine XP (fun _ _=>zM (wC (a:=ec.N) (b:=a9) rfl rfl) eh)<| XP (fun _ _=>yL (v:= .bool ba) rfl rfl)<| XP (fun _ _=>yD (v:= .bool ba) rfl rfl)<| MxM.XL_nil fun gm hS=>?_
       have H:=H.sees hS
       have H:=z.rejoin H
       obtain rfl:=gJ c
       exact (zF (meet ⟨(),(zJ rfl zK),H.pick [0,1]⟩))
      have c:=zV ad c
      refine XO<| XO<| XO<| MxM.XL_offr oS rfl rfl rfl ?_
      refine XO<| XO<| MxM.XL_offr oS rfl rfl rfl ?_
      refine XO<| XP (fun _ _=>yD (v:= .bool false) rfl rfl)<| XP (fun _ _=>yD (v:= .bool false) rfl rfl)<| MxM.XL_nil fun gn hS=>?_
      have H:=H.sees hS
      have H:=z.rejoin H
      obtain rfl:=gJ c
      exact (zF (meet ⟨(),(zJ rfl zK),H.pick [0,1]⟩))
     rintro _ ρ go H
     have c:=dz
     refine yB (b:=a1) rfl (fun af=>?_) (fun af=>?_)
     ·have c:=zU af c
      refine zA ?_
      refine zH (i6 l)<| zI (i6 l) ?_
      obtain rfl:=gJ c
      exact (zX (yX (zF (meet ⟨(),(zJ rfl zK),H.pick [0,1]⟩))))
     have c:=zV af c
     obtain rfl:=gJ c
     exact (zQ (yX (zF (meet ⟨(),(zJ rfl zK),H.pick [0,1]⟩))))
    rintro _ ρ gp H
    have c:=dy
    refine zA ?_
    refine zH (i6 l) ?_
    obtain ⟨bb,ei,c⟩:=zD c
    refine zG (xM (a:=l) (b:=1) rfl rfl ei)<| zI (i6 bb) ?_
    exact (zX (zF (meet ⟨(dt,a0,bb),(zJ rfl (zJ rfl zK)),⟨H.pick [0,1],c⟩,Nat.lt_succ_self _⟩)))
   have c:=zV V c
   obtain rfl:=gJ c
   exact (xE (yC (yC (yQ (zF (meet ⟨(),(zJ rfl zK),H.pick [1]⟩))))))
  have c:=zV U c
  obtain rfl:=gJ c
  exact (zQ (zF (meet ⟨(),(zJ rfl zK),H.pick [1]⟩)))
 rintro _ ρ gq H
 have c:=dl
 refine zB fun gr ej=>zA<| zH j ?_
 obtain ⟨ag,ah,c⟩:=zC c
 obtain ⟨gs,gt,ek,el,em,en⟩:=fZ (H.item (i:=0) rfl) ah
 obtain rfl:ek= [i6 ag]:=em
 refine zG (yV u42 sz3 el rfl (zO ah).1 (zO ah).2.1 rfl rfl)<| zG (yU fK rfl (Cells.get en (i:=0) rfl))<| zH (i6 y)<| zI (i6 ag)<| zI (i6 y)<| zI (.bool true)<| RN ej ?_
 obtain rfl:=gJ c
 refine (zZ (vC (v1:=i6 ag) (v2:=i6 y) (v3:= .bool true) rfl rfl rfl rfl ?_))
 exact ⟨rfl,H.pick []⟩
set_option maxRecDepth 100000 in
theorem Faxw (h:List gV)(l:List Str)(E:Int)(z:Int)(F:Int)(v1:Value)(d:Value)(r:gV×(List Int)×Int)(c:Fax h l E z F=some r)(O S:List Nat)(w:World)(H:Hd O w w S [f1 fE v1 h,f1 Rp.str d l]):
  Cl 14 [v1,d,i6 E,i6 z,i6 F] w fun e Z=> ∃u5 u6,e= .returned (.tuple #[.agg [sb r.1.Name,i6 r.1.Series.Den,u5,i6 r.1.Long].toArray,u6,i6 r.2.2])∧Hd O w Z S [f1 gX u5 r.1.Series.Samples,.own (Rp.int .i64) u6 3 r.2.1]:=by
 unfold Fax at c
 refine CW 188 Tryz.func14 ?_
 refine zB fun K7 b1=>zA<| yS rfl rfl (xB jI H) ?_
 rintro _ jr ⟨m,rfl,H⟩
 refine zI (.slice none 0 0)<| zI (i6 0)<| RN b1<| zB fun js b2=>zB fun jt b3=>zA<| zH v1 ?_
 have b4:=H
 obtain ⟨G,b5,c⟩:=zC c
 refine zS rfl rfl (zN en22 rfl) (Fbww h v1 _ b5 _ _ _ (H.enter [] [0])) ?_
 rintro _ ju ⟨rfl,b6⟩
 have H:=b4.step (b6.only:Only [] _ _)
 refine ⟨_,rfl,?_⟩
 refine zI (i6 G)<| RN b3<| zB fun jv b7=>zA<| zH (i6 G) ?_
 obtain ⟨b8,b9,c⟩:=zD c
 refine zG (zM (dG (a:=G) (b:=0) rfl rfl) b9)<| RN b7<| yB (b:=b8) rfl (fun aa=>?_) (fun aa=>?_)
 ·have c:=zU aa c
  refine zB fun jw ca=>zA<| zG (xR (cs:=[.string (bs []),i6 0,.slice none 0 0,i6 0]) rX)<| zH (i6 G)<| yZ rfl (yM (vs:=[.string (bs []),i6 0,.slice none 0 0,i6 0]) H 2 rfl eF rfl rfl rfl ⟨rfl,rfl,rfl,rfl,trivial⟩ rfl) ?_
  rintro jx H
  refine zI (.slice none 0 0)<| zI (i6 G)<| RN ca ?_
  have H:=H.fz (.sl gX (.slice none 0 0) []) SlF.nil
  have H:=fQ H (Rp.int .i64) 3
  obtain rfl:=gJ c
  refine (zZ (zW (aN (v1:= .slice none 0 0) (v2:=i6 G) rfl rfl (yI bP eF rfl (Hbc H 2 rfl)) rfl rfl ?_)))
  exact ⟨.slice none 0 0,.slice none 0 0,rfl,H.pick [3,4]⟩
 have c:=zV aa c
 refine zQ (zF (b2 _ _ ?_))
 refine zB fun jy cb=>?_
 refine zB fun jz cc=>zA<| zH d ?_
 obtain ⟨cd,ce,c⟩:=zD c
 obtain ⟨j0,j1,cf⟩:=SlF.len ((H.item (i:=1) rfl))
 refine zG (yK (xK u36 cf) (congrArg (Value.int .i64) ce)) ?_
 obtain ⟨cg,ch,c⟩:=zD c
 refine zG (zM (dG (a:=cd) (b:=3) rfl rfl) ch)<| RN cc<| yB (b:=cg) rfl (fun ab=>?_) (fun ab=>?_)
 ·have c:=zU ab c
  refine zB fun j2 ci=>zA<| zG (xR (cs:=[.string (bs []),i6 0,.slice none 0 0,i6 0]) rX)<| yZ rfl (yM (vs:=[.string (bs []),i6 0,.slice none 0 0,i6 0]) H 2 rfl eF rfl rfl rfl ⟨rfl,rfl,rfl,rfl,trivial⟩ rfl) ?_
  rintro j3 H
  refine zI (.slice none 0 0)<| zI (i6 2)<| RN ci ?_
  have H:=H.fz (.sl gX (.slice none 0 0) []) SlF.nil
  have H:=fQ H (Rp.int .i64) 3
  obtain rfl:=gJ c
  refine (zZ (zW (aN (v1:= .slice none 0 0) (v2:=i6 2) rfl rfl (yI bP eF rfl (Hbc H 2 rfl)) rfl rfl ?_)))
  exact ⟨.slice none 0 0,.slice none 0 0,rfl,H.pick [3,4]⟩
 have c:=zV ab c
 refine zQ (zF (cb _ _ ?_))
 obtain ⟨cj,ck,c⟩:=xJ c
 refine yH [11,12,14,43,44,45,46,47,48,49,50,51,52,53,54] (fun (g:Unit)=>[]) (fun g wl=>Hd O w wl S [f1 fE v1 h,f1 Rp.str d l,.blk m [.string (bs []),i6 0,.slice none 0 0,i6 0] 41]∧cj ()=some r) ?_ ?_
 ·skip
  refine zB fun j4 cl=>zA<| zI (i6 0)<| RN cl<| zY ?_
  unfold Fb4 at c
  obtain ⟨cm,ba,cn,c⟩:=yF c
  refine xA [11,12,14,43,44,45,46,47,48,49,50,51,52,53,54] (fun (g:Nat×Int)=>[(14,i6 g.2)]) (fun g wl=>Hd O w wl S [f1 fE v1 h,f1 Rp.str d l,.blk m [.string (bs []),i6 0,.slice none 0 0,i6 0] 41]∧fF cm g.1 g.2=some r) (fun g=>g.1) (ba,0) (zJ rfl zK) ⟨H.pick [0,1,2],c⟩ ?_
  clear H c
  rintro ⟨ba,I⟩ ρ j5 ⟨H,c⟩
  obtain ⟨co,rfl,c⟩:=yN c
  have c:=yO cn c
  refine zB fun j6 cp=>?_
  refine zB fun j7 cq=>zA<| zH (i6 I) ?_
  obtain ⟨cr,ct,c⟩:=zD c
  refine zG (zM (xG (a:=I) (b:=3) rfl rfl) ct)<| RN cq<| yB (b:=cr) rfl (fun ac=>?_) (fun ac=>?_)
  ·have c:=zU ac c
   refine zQ (zF (cp _ _ ?_))
   refine zB fun j8 cu=>?_
   refine zY ?_
   refine zB fun j9 cv=>zA<| zH v1<| zH d<| zH (i6 I) ?_
   obtain ⟨bb,ad,c⟩:=zC c
   obtain ⟨cw,cx,ka,cy,cz,c0,c1,c2,c3⟩:=xY (H.item (i:=1) rfl) ad
   obtain rfl:cy= [sb bb]:=c0
   have H:=H.fz (.at cw (cx+I.toNat * 1) _) ⟨c1,c2,c3⟩
   refine zG (yV u36 sz9 cz rfl (zO ad).1 (zO ad).2.1 rfl rfl)<| zG (yU dQ rfl (Cells.get (H.item (i:=3) rfl).2.2 (i:=0) rfl)) ?_
   have c4:=H
   obtain ⟨c5,c6,c⟩:=zC c
   refine zS rfl rfl (zN en23 rfl) (Fafw h bb v1 _ c6 _ _ _ (H.enter [] [0])) ?_
   rintro _ kb ⟨rfl,c7⟩
   have H:=c4.step (c7.only:Only [] _ _)
   refine ⟨_,rfl,?_⟩
   obtain ⟨c8,c9,c⟩:=zD c
   refine zG (zM (xG (a:=c5) (b:=0) rfl rfl) c9)<| RN cv<| yB (b:=c8) rfl (fun ae=>?_) (fun ae=>?_)
   ·have c:=zU ae c
    refine zB fun kc da=>zA<| zG (xR (cs:=[.string (bs []),i6 0,.slice none 0 0,i6 0]) rX)<| yZ rfl (yM (vs:=[.string (bs []),i6 0,.slice none 0 0,i6 0]) H 2 rfl eF rfl rfl rfl ⟨rfl,rfl,rfl,rfl,trivial⟩ rfl) ?_
    rintro kd H
    refine zI (.slice none 0 0)<| zI (i6 4)<| RN da ?_
    have H:=H.fz (.sl gX (.slice none 0 0) []) SlF.nil
    have H:=fQ H (Rp.int .i64) 3
    obtain rfl:=gJ c
    refine (zZ (yG (zW (zW (yG (zW (aN (v1:= .slice none 0 0) (v2:=i6 4) rfl rfl (yI bP eF rfl (Hbc H 2 rfl)) rfl rfl ?_)))))))
    exact ⟨.slice none 0 0,.slice none 0 0,rfl,H.pick [4,5]⟩
   have c:=zV ae c
   refine (zQ (yX (zF (cu _ _ ?_))))
   refine zA ?_
   refine zH (i6 I) ?_
   obtain ⟨bc,db,c⟩:=zD c
   refine zG (xM (a:=I) (b:=1) rfl rfl db)<| zI (i6 bc) ?_
   exact (zX (zF (meet ⟨(co,bc),(zJ rfl zK),⟨H.pick [0,1,2],c⟩,Nat.lt_succ_self _⟩)))
  have c:=zV ac c
  exact (xE (yC (yC (yQ (zF (meet ⟨(),zK,⟨H.pick [0,1,2],c⟩⟩))))))
 rintro _ ρ ke ⟨H,c⟩
 have c:=xO ck c
 obtain ⟨dc,dd,c⟩:=xJ c
 refine yH [11,12,15,16,55,56,57,58,59,60,61,62,63,64,65,66,67,68,69,70,71,72,73] (fun (g:Unit)=>[]) (fun g wl=>Hd O w wl S [f1 fE v1 h,f1 Rp.str d l,.blk m [.string (bs []),i6 0,.slice none 0 0,i6 0] 41]∧dc ()=some r) ?_ ?_
 ·skip
  refine zB fun kf de=>zA<| zI (i6 0)<| RN de<| zY ?_
  unfold Fcn at c
  obtain ⟨df,bd,dg,c⟩:=yF c
  refine xA [11,12,15,16,55,56,57,58,59,60,61,62,63,64,65,66,67,68,69,70,71,72,73] (fun (g:Nat×Int)=>[(15,i6 g.2)]) (fun g wl=>Hd O w wl S [f1 fE v1 h,f1 Rp.str d l,.blk m [.string (bs []),i6 0,.slice none 0 0,i6 0] 41]∧fF df g.1 g.2=some r) (fun g=>g.1) (bd,0) (zJ rfl zK) ⟨H.pick [0,1,2],c⟩ ?_
  clear H c
  rintro ⟨bd,u⟩ ρ kg ⟨H,c⟩
  obtain ⟨dh,rfl,c⟩:=yN c
  have c:=yO dg c
  refine zB fun kh di=>?_
  refine zB fun ki dj=>zA<| zH (i6 u) ?_
  obtain ⟨dk,dl,c⟩:=zD c
  refine zG (zM (xG (a:=u) (b:=3) rfl rfl) dl)<| RN dj<| yB (b:=dk) rfl (fun af=>?_) (fun af=>?_)
  ·have c:=zU af c
   refine zQ (zF (di _ _ ?_))
   obtain ⟨dm,dn,c⟩:=xJ c
   refine yH [11,12,16,59,60,61,62,63,64,65,66,67,68,69,70,71,72,73] (fun (g:Unit)=>[]) (fun g wl=>Hd O w wl S [f1 fE v1 h,f1 Rp.str d l,.blk m [.string (bs []),i6 0,.slice none 0 0,i6 0] 41]∧dm ()=some r) ?_ ?_
   ·skip
    refine zY ?_
    refine zB fun kj dp=>zA<| zI (i6 0)<| RN dp<| zY ?_
    unfold Fcu at c
    obtain ⟨dq,be,dr,c⟩:=yF c
    refine xA [11,12,16,59,60,61,62,63,64,65,66,67,68,69,70,71,72,73] (fun (g:Nat×Int)=>[(16,i6 g.2)]) (fun g wl=>Hd O w wl S [f1 fE v1 h,f1 Rp.str d l,.blk m [.string (bs []),i6 0,.slice none 0 0,i6 0] 41]∧fF dq g.1 g.2=some r) (fun g=>g.1) (be,0) (zJ rfl zK) ⟨H.pick [0,1,2],c⟩ ?_
    clear H c
    rintro ⟨be,J⟩ ρ kk ⟨H,c⟩
    obtain ⟨ds,rfl,c⟩:=yN c
    have c:=yO dr c
    refine zB fun kl dt=>?_
    refine zB fun km du=>zA<| zH (i6 J)<| zH (i6 u) ?_
    obtain ⟨dv,dw,c⟩:=zD c
    refine zG (zM (xG (a:=J) (b:=u) rfl rfl) dw)<| RN du<| yB (b:=dv) rfl (fun ag=>?_) (fun ag=>?_)
    ·have c:=zU ag c
     refine zQ (zF (dt _ _ ?_))
     refine zB fun ko dx=>?_
     refine zY ?_
     refine zB fun kp dy=>?_
     have dz:=H
     have H:=H.rebase
     have kq:=H
     refine WP_mix0 H [0,1,2,3,4,5,6,7,8] (kz [0,0,0,1,0,0,0,1,0]) mixed ?_
     refine XM d<| XM (i6 J) ?_
     obtain ⟨bf,ah,c⟩:=zC c
     obtain ⟨d0,d1,kr,d2,d3,d4,d5,d6,d7⟩:=xY (H.item (i:=1) rfl) ah
     obtain rfl:d2= [sb bf]:=d4
     have H:=H.fz (.at d0 (d1+J.toNat * 1) _) ⟨d5,d6,d7⟩
     refine XP (fun _ _=>yV u36 sz9 d3 rfl (zO ah).1 (zO ah).2.1 rfl rfl)<| MxM.xP oS rfl rfl rfl (fun Z ai=>yU dQ rfl (Cells.get ((H.sees ai).item (i:=3) rfl).2.2 (i:=0) rfl))<| XM d<| XM (i6 u) ?_
     obtain ⟨bg,aj,c⟩:=zC c
     obtain ⟨d8,d9,ks,ea,eb,ec,ed,ee,ef⟩:=xY (H.item (i:=1) rfl) aj
     obtain rfl:ea= [sb bg]:=ec
     have H:=H.fz (.at d8 (d9+u.toNat * 1) _) ⟨ed,ee,ef⟩
     refine XP (fun _ _=>yV u36 sz9 eb rfl (zO aj).1 (zO aj).2.1 rfl rfl)<| MxM.xP oS rfl rfl rfl (fun Z ai=>yU dQ rfl (Cells.get ((H.sees ai).item (i:=4) rfl).2.2 (i:=0) rfl)) ?_
     obtain ⟨eg,eh,c⟩:=zD c
     refine XP (fun _ _=>zM (wB (s1:=bf) (s2:=bg) rfl rfl) eh)<| MxM.XL_nil fun kt hS=>?_
     have H:=H.sees hS
     have H:=dz.rejoin H
     refine (zF (dy _ _ ?_))
     refine yB (b:=eg) rfl (fun ak=>?_) (fun ak=>?_)
     ·have c:=zU ak c
      refine zB fun ku ei=>zA<| zG (xR (cs:=[.string (bs []),i6 0,.slice none 0 0,i6 0]) rX)<| yZ rfl (yM (vs:=[.string (bs []),i6 0,.slice none 0 0,i6 0]) H 2 rfl eF rfl rfl rfl ⟨rfl,rfl,rfl,rfl,trivial⟩ rfl) ?_
      rintro kv H
      refine zI (.slice none 0 0)<| zI (i6 5)<| RN ei ?_
      have H:=H.fz (.sl gX (.slice none 0 0) []) SlF.nil
      have H:=fQ H (Rp.int .i64) 3
      obtain rfl:=gJ c
      refine (zZ (yG (zW (zW (yG (yG (zW (zW (yG (zW (aN (v1:= .slice none 0 0) (v2:=i6 5) rfl rfl (yI bP eF rfl (Hbc H 2 rfl)) rfl rfl ?_)))))))))))
      exact ⟨.slice none 0 0,.slice none 0 0,rfl,H.pick [5,6]⟩
     have c:=zV ak c
     refine (zQ (yX (zF (dx _ _ ?_))))
     refine zA ?_
     refine zH (i6 J) ?_
     obtain ⟨bh,ej,c⟩:=zD c
     refine zG (xM (a:=J) (b:=1) rfl rfl ej)<| zI (i6 bh) ?_
     exact (zX (zF (meet ⟨(ds,bh),(zJ rfl zK),⟨H.pick [0,1,2],c⟩,Nat.lt_succ_self _⟩)))
    have c:=zV ag c
    exact (xE (yC (yC (yQ (yX (zF (meet ⟨(),zK,⟨H.pick [0,1,2],c⟩⟩)))))))
   rintro _ ρ kw ⟨H,c⟩
   have c:=xO dn c
   refine zA ?_
   refine zH (i6 u) ?_
   obtain ⟨bi,ek,c⟩:=zD c
   refine zG (xM (a:=u) (b:=1) rfl rfl ek)<| zI (i6 bi) ?_
   exact (zX (zF (meet ⟨(dh,bi),(zJ rfl zK),⟨H.pick [0,1,2],c⟩,Nat.lt_succ_self _⟩)))
  have c:=zV af c
  exact (xE (yC (yC (yQ (zF (meet ⟨(),zK,⟨H.pick [0,1,2],c⟩⟩))))))
 rintro _ ρ kx ⟨H,c⟩
 have c:=xO dd c
 refine zB fun ky el=>zA<| zH v1<| zH v1<| zH d ?_
 obtain ⟨bj,al,c⟩:=zC c
 obtain ⟨em,en,k0,eo,ep,eq,er,es,et⟩:=xY (H.item (i:=1) rfl) al
 obtain rfl:eo= [sb bj]:=eq
 have H:=H.fz (.at em (en+(0:Int).toNat * 1) _) ⟨er,es,et⟩
 refine zG (yV u36 sz9 ep rfl (zO al).1 (zO al).2.1 rfl rfl)<| zG (yU dQ rfl (Cells.get (H.item (i:=3) rfl).2.2 (i:=0) rfl)) ?_
 have eu:=H
 obtain ⟨ew,ex,c⟩:=zC c
 refine zS rfl rfl (zN en23 rfl) (Fafw h bj v1 _ ex _ _ _ (H.enter [] [0])) ?_
 rintro _ k1 ⟨rfl,ey⟩
 have H:=eu.step (ey.only:Only [] _ _)
 refine ⟨_,rfl,?_⟩
 obtain ⟨k,am,c⟩:=zC c
 obtain ⟨ez,e0,k2,k3,e1,e2,e3,e4,e5⟩:=xY (H.item (i:=0) rfl) am
 obtain ⟨e6,rfl,e7⟩:=xU e2
 have H:=H.fzs [.at ez (e0+ew.toNat * 4) _,.sl gX e6 k.Series.Samples] ⟨⟨e3,e4,e5⟩,e7,trivial⟩
 refine zG (yV u22 eF e1 rfl (zO am).1 (zO am).2.1 rfl rfl)<| zG (aY rfl)<| zG (nC rfl)<| zG (yU fK rfl (Cells.get (H.item (i:=4) rfl).2.2 (i:=1) rfl))<| zI (i6 k.Series.Den)<| RN el ?_
 obtain ⟨e8,e9,c⟩:=xJ c
 refine yH [11,12,18,84,85,86,87,88,89,90,91,92,93,94,95,96,97,98,99,100,101] (fun (g:Unit)=>[]) (fun g wl=>Hd O w wl S [f1 fE v1 h,f1 Rp.str d l,.blk m [.string (bs []),i6 0,.slice none 0 0,i6 0] 41]∧e8 ()=some r) ?_ ?_
 ·skip
  refine zB fun k4 fa=>zA<| zI (i6 0)<| RN fa<| zY ?_
  unfold Fcg at c
  obtain ⟨fb,bk,fc,c⟩:=yF c
  refine xA [11,12,18,84,85,86,87,88,89,90,91,92,93,94,95,96,97,98,99,100,101] (fun (g:Nat×Int)=>[(18,i6 g.2)]) (fun g wl=>Hd O w wl S [f1 fE v1 h,f1 Rp.str d l,.blk m [.string (bs []),i6 0,.slice none 0 0,i6 0] 41]∧fF fb g.1 g.2=some r) (fun g=>g.1) (bk,0) (zJ rfl zK) ⟨H.pick [0,1,2],c⟩ ?_
  clear H c
  rintro ⟨bk,K⟩ ρ k5 ⟨H,c⟩
  obtain ⟨fd,rfl,c⟩:=yN c
  have c:=yO fc c
  refine zB fun k6 fe=>?_
  refine zB fun k7 ff=>zA<| zH (i6 K) ?_
  obtain ⟨fg,fh,c⟩:=zD c
  refine zG (zM (xG (a:=K) (b:=3) rfl rfl) fh)<| RN ff<| yB (b:=fg) rfl (fun an=>?_) (fun an=>?_)
  ·have c:=zU an c
   refine zQ (zF (fe _ _ ?_))
   refine zB fun k8 fi=>?_
   refine zY ?_
   refine zB fun k9 fj=>zA<| zH v1<| zH v1<| zH d<| zH (i6 K) ?_
   obtain ⟨bl,ao,c⟩:=zC c
   obtain ⟨fk,fm,la,fn,fo,fp,fq,fr,fs⟩:=xY (H.item (i:=1) rfl) ao
   obtain rfl:fn= [sb bl]:=fp
   have H:=H.fz (.at fk (fm+K.toNat * 1) _) ⟨fq,fr,fs⟩
   refine zG (yV u36 sz9 fo rfl (zO ao).1 (zO ao).2.1 rfl rfl)<| zG (yU dQ rfl (Cells.get (H.item (i:=3) rfl).2.2 (i:=0) rfl)) ?_
   have ft:=H
   obtain ⟨fu,fv,c⟩:=zC c
   refine zS rfl rfl (zN en23 rfl) (Fafw h bl v1 _ fv _ _ _ (H.enter [] [0])) ?_
   rintro _ lb ⟨rfl,fw⟩
   have H:=ft.step (fw.only:Only [] _ _)
   refine ⟨_,rfl,?_⟩
   obtain ⟨bm,ap,c⟩:=zC c
   obtain ⟨fx,fy,lc,ld,f0,f2,f3,f4,f5⟩:=xY (H.item (i:=0) rfl) ap
   obtain ⟨f6,rfl,f7⟩:=xU f2
   have H:=H.fzs [.at fx (fy+fu.toNat * 4) _,.sl gX f6 bm.Series.Samples] ⟨⟨f3,f4,f5⟩,f7,trivial⟩
   refine zG (yV u22 eF f0 rfl (zO ap).1 (zO ap).2.1 rfl rfl)<| zG (aY rfl)<| zG (nC rfl)<| zG (yU fK rfl (Cells.get (H.item (i:=4) rfl).2.2 (i:=1) rfl))<| zH (i6 k.Series.Den) ?_
   obtain ⟨f8,f9,c⟩:=zD c
   refine zG (zM (dG (a:=bm.Series.Den) (b:=k.Series.Den) rfl rfl) f9)<| RN fj<| yB (b:=f8) rfl (fun aq=>?_) (fun aq=>?_)
   ·have c:=zU aq c
    refine zB fun lf ga=>zA<| zG (xR (cs:=[.string (bs []),i6 0,.slice none 0 0,i6 0]) rX)<| yZ rfl (yM (vs:=[.string (bs []),i6 0,.slice none 0 0,i6 0]) H 2 rfl eF rfl rfl rfl ⟨rfl,rfl,rfl,rfl,trivial⟩ rfl) ?_
    rintro lg H
    refine zI (.slice none 0 0)<| zI (i6 2)<| RN ga ?_
    have H:=H.fz (.sl gX (.slice none 0 0) []) SlF.nil
    have H:=fQ H (Rp.int .i64) 3
    obtain rfl:=gJ c
    refine (zZ (yG (zW (zW (yG (zW (aN (v1:= .slice none 0 0) (v2:=i6 2) rfl rfl (yI bP eF rfl (Hbc H 2 rfl)) rfl rfl ?_)))))))
    exact ⟨.slice none 0 0,.slice none 0 0,rfl,H.pick [6,7]⟩
   have c:=zV aq c
   refine (zQ (yX (zF (fi _ _ ?_))))
   refine zA ?_
   refine zH (i6 K) ?_
   obtain ⟨bn,gb,c⟩:=zD c
   refine zG (xM (a:=K) (b:=1) rfl rfl gb)<| zI (i6 bn) ?_
   exact (zX (zF (meet ⟨(fd,bn),(zJ rfl zK),⟨H.pick [0,1,2],c⟩,Nat.lt_succ_self _⟩)))
  have c:=zV an c
  exact (xE (yC (yC (yQ (zF (meet ⟨(),zK,⟨H.pick [0,1,2],c⟩⟩))))))
 rintro _ ρ lh ⟨H,c⟩
 have c:=xO e9 c
 refine zB fun li gc=>?_
 refine zB fun lj gd=>zA<| zH (i6 E) ?_
 have ge:=H
 obtain ⟨gf,gg,c⟩:=zC c
 refine zS rfl rfl (zN en24 rfl) (Fbtw E 0 1125899906842624 _ gg _ _ _ (H.enter [] [])) ?_
 rintro _ lk ⟨rfl,gh⟩
 have H:=ge.step (gh.only:Only [] _ _)
 refine ⟨_,rfl,?_⟩
 refine RN gd<| yB (b:=gf) rfl (fun ar=>?_) (fun ar=>?_)
 ·have c:=zU ar c
  refine zB fun ll gj=>zA<| zG (xR (cs:=[.string (bs []),i6 0,.slice none 0 0,i6 0]) rX)<| yZ rfl (yM (vs:=[.string (bs []),i6 0,.slice none 0 0,i6 0]) H 2 rfl eF rfl rfl rfl ⟨rfl,rfl,rfl,rfl,trivial⟩ rfl) ?_
  rintro lm H
  refine zI (.slice none 0 0)<| zI (i6 9)<| RN gj ?_
  have H:=H.fz (.sl gX (.slice none 0 0) []) SlF.nil
  have H:=fQ H (Rp.int .i64) 3
  obtain rfl:=gJ c
  refine (zZ (zW (aN (v1:= .slice none 0 0) (v2:=i6 9) rfl rfl (yI bP eF rfl (Hbc H 2 rfl)) rfl rfl ?_)))
  exact ⟨.slice none 0 0,.slice none 0 0,rfl,H.pick [3,4]⟩
 have c:=zV ar c
 refine zQ (zF (gc _ _ ?_))
 refine zB fun ln gk=>?_
 refine zB fun lo gl=>zA<| zH (i6 z)<| zH (i6 F) ?_
 have gm:=H
 obtain ⟨L,gn,c⟩:=zC c
 refine zS rfl rfl (zN en25 rfl) (Fa3w z F 20000 _ gn _ _ _ (H.enter [] [])) ?_
 rintro _ lp ⟨rfl,go⟩
 have H:=gm.step (go.only:Only [] _ _)
 refine ⟨_,rfl,?_⟩
 refine zI (i6 L)<| RN gl<| zB fun lq gp=>zA<| zH (i6 L) ?_
 obtain ⟨gq,gr,c⟩:=zD c
 refine zG (zM (dG (a:=L) (b:=0) rfl rfl) gr)<| RN gp<| yB (b:=gq) rfl (fun au=>?_) (fun au=>?_)
 ·have c:=zU au c
  refine zB fun lr gs=>zA<| zG (xR (cs:=[.string (bs []),i6 0,.slice none 0 0,i6 0]) rX)<| zH (i6 L)<| yZ rfl (yM (vs:=[.string (bs []),i6 0,.slice none 0 0,i6 0]) H 2 rfl eF rfl rfl rfl ⟨rfl,rfl,rfl,rfl,trivial⟩ rfl) ?_
  rintro ls H
  refine zI (.slice none 0 0)<| zI (i6 L)<| RN gs ?_
  have H:=H.fz (.sl gX (.slice none 0 0) []) SlF.nil
  have H:=fQ H (Rp.int .i64) 3
  obtain rfl:=gJ c
  refine (zZ (zW (aN (v1:= .slice none 0 0) (v2:=i6 L) rfl rfl (yI bP eF rfl (Hbc H 2 rfl)) rfl rfl ?_)))
  exact ⟨.slice none 0 0,.slice none 0 0,rfl,H.pick [3,4]⟩
 have c:=zV au c
 refine zQ (zF (gk _ _ ?_))
 refine zB fun lu gt=>zA<| zH d ?_
 obtain ⟨p,av,c⟩:=zC c
 obtain ⟨gu,gv,lv,gw,gx,gy,gz,g0,g1⟩:=xY (H.item (i:=1) rfl) av
 obtain rfl:gw= [sb p]:=gy
 have H:=H.fz (.at gu (gv+(0:Int).toNat * 1) _) ⟨gz,g0,g1⟩
 refine zG (yV u36 sz9 gx rfl (zO av).1 (zO av).2.1 rfl rfl)<| zG (yU dQ rfl (Cells.get (H.item (i:=3) rfl).2.2 (i:=0) rfl))<| zH (i6 k.Series.Den)<| zG (xR (cs:=[i6 k.Series.Den,.slice none 0 0]) (bt39_0 _))<| zG (xR (cs:=[sb p,i6 k.Series.Den,.slice none 0 0,i6 63]) (uZ _ _ none 0 0 _)) ?_
 refine yS rfl rfl (xB jI H) ?_
 rintro _ lw ⟨A,rfl,H⟩
 refine yZ rfl (yM (vs:=[sb p,i6 k.Series.Den,.slice none 0 0,i6 63]) H 4 rfl eF rfl rfl rfl ⟨rfl,rfl,rfl,rfl,trivial⟩ rfl) ?_
 rintro lx H
 refine RN gt<| zB fun ly g2=>zA ?_
 obtain ⟨g3,g4,c⟩:=zC c
 refine yS rfl rfl (aDz (r:=(Rp.int .i64)) (zv:=i6 0) u42 el3 rfl (fun _ _=>rfl) rfl rfl g4 H) ?_
 rintro o lz H
 refine zI o<| RN g2 ?_
 obtain ⟨U,c,g5⟩:=zC c
 refine yH [22,23,24,25,26,27,28,29,30,31,32,119,120,121,122,123,124,125,126,127,128,129,130,131,132,133,134,135,136,137,138,139,140,141,142,143,144,145,146,147,148,149,150,151,152,153,154,155,156,157,158,159,160,161,162,163,164,165,166,167,168,169,170,171,172,173,174,175,176,177,178,179,180,181,182,183,184,185] (fun (g:Value)=>[]) (fun g wl=>Hd O w wl S [.blk m [.string (bs []),i6 0,.slice none 0 0,i6 0] 41,.blk A [sb p,i6 k.Series.Den,g,i6 63] 41,.own gX g 46 U.1,.own (Rp.int .i64) o 3 U.2]) ?_ ?_
 ·skip
  refine zB fun l0 g6=>zA<| zH (i6 z)<| zI (i6 z)<| RN g6<| zY ?_
  have H:=fQ H gX 46
  unfold Fco at c
  obtain ⟨g7,bo,g8,c⟩:=yF c
  refine xA [22,23,24,25,26,27,28,29,30,31,32,120,121,122,123,124,125,126,127,128,129,130,131,132,133,134,135,136,137,138,139,140,141,142,143,144,145,146,147,148,149,150,151,152,153,154,155,156,157,158,159,160,161,162,163,164,165,166,167,168,169,170,171,172,173,174,175,176,177,178,179,180,181,182,183,184,185] (fun (g:Nat×Int×(List fA)×(List Int)×Value)=>[(22,i6 g.2.1)]) (fun g wl=>Hd O w wl S [f1 fE v1 h,f1 Rp.str d l,.blk m [.string (bs []),i6 0,.slice none 0 0,i6 0] 41,.blk A [sb p,i6 k.Series.Den,g.2.2.2.2,i6 63] 41,.own gX g.2.2.2.2 46 g.2.2.1,.own (Rp.int .i64) o 3 g.2.2.2.1]∧fF g7 g.1 (g.2.1,g.2.2.1,g.2.2.2.1)=some U) (fun g=>g.1) (bo,z,[],g3,.slice none 0 0) (zJ rfl zK) ⟨H.pick [0,1,2,4,6,5],c⟩ ?_
  clear H c
  rintro ⟨bo,M,V,aw,t⟩ ρ l1 ⟨H,c⟩
  obtain ⟨g9,rfl,c⟩:=yN c
  have c:=yO g8 c
  refine zB fun l2 ha=>?_
  refine zB fun l3 hb=>zA<| zH (i6 M)<| zH (i6 F) ?_
  obtain ⟨hc,he,c⟩:=zD c
  refine zG (zM (bV (a:=M) (b:=F) rfl rfl) he)<| RN hb<| yB (b:=hc) rfl (fun ax=>?_) (fun ax=>?_)
  ·have c:=zU ax c
   refine zQ (zF (ha _ _ ?_))
   obtain ⟨ay,c,hf⟩:=zC c
   refine yH [23,24,25,26,27,28,29,30,31,32,125,126,127,128,129,130,131,132,133,134,135,136,137,138,139,140,141,142,143,144,145,146,147,148,149,150,151,152,153,154,155,156,157,158,159,160,161,162,163,164,165,166,167,168,169,170,171,172,173,174,175,176,177,178,179,180,181,182,183,184,185] (fun (g:Value)=>[]) (fun g wl=>Hd O w wl S [f1 fE v1 h,f1 Rp.str d l,.blk m [.string (bs []),i6 0,.slice none 0 0,i6 0] 41,.blk A [sb p,i6 k.Series.Den,g,i6 63] 41,.own gX g 46 ay.1,.own (Rp.int .i64) o 3 ay.2]) ?_ ?_
   ·skip
    refine zY ?_
    refine zB fun l4 hg=>zA<| yS rfl rfl (xB zero84 H) ?_
    rintro _ l5 ⟨bp,rfl,H⟩
    refine RN hg<| zB fun l6 hh=>zA<| zH (i6 M) ?_
    obtain ⟨hi,hj,c⟩:=zD c
    refine zG (aAa (a:=64) (b:=M) rfl rfl hj) ?_
    obtain ⟨hk,hl,c⟩:=zD c
    refine zG (xM (a:=hi) (b:=64) rfl rfl hl) ?_
    obtain ⟨n,hn,c⟩:=zD c
    refine zG (dH (a:=hk) (b:=1) rfl rfl hn)<| zI (i6 n)<| RN hh ?_
    obtain ⟨Y,c,ho⟩:=zC c
    refine yH [25,26,27,28,129,130,131,132,133,134,135,136,137,138,139,140,141,142,143,144,145,146,147,148,149,150,151,152,153,154,155,156] (fun (g:Unit)=>[]) (fun g wl=>Hd O w wl S [f1 fE v1 h,f1 Rp.str d l,.blk m [.string (bs []),i6 0,.slice none 0 0,i6 0] 41,.blk A [sb p,i6 k.Series.Den,t,i6 63] 41,.own gX t 46 V,.own (Rp.int .i64) o 3 aw,.blk bp ((Fl.arr 3 dN).f Y) 84]) ?_ ?_
    ·skip
     refine zB fun l7 hp=>zA<| zI (i6 0)<| RN hp<| zY ?_
     unfold Fby at c
     obtain ⟨hq,bq,hr,c⟩:=yF c
     refine xA [25,26,27,28,129,130,131,132,133,134,135,136,137,138,139,140,141,142,143,144,145,146,147,148,149,150,151,152,153,154,155,156] (fun (g:Nat×Int×(Arr 3 fG))=>[(25,i6 g.2.1)]) (fun g wl=>Hd O w wl S [f1 fE v1 h,f1 Rp.str d l,.blk m [.string (bs []),i6 0,.slice none 0 0,i6 0] 41,.blk A [sb p,i6 k.Series.Den,t,i6 63] 41,.own gX t 46 V,.own (Rp.int .i64) o 3 aw,.blk bp ((Fl.arr 3 dN).f g.2.2) 84]∧fF hq g.1 (g.2.1,g.2.2)=some Y) (fun g=>g.1) (bq,0,(Arr.rep 3 (fG.mk 0 false):Arr 3 fG)) (zJ rfl zK) ⟨H.pick [0,1,2,3,4,5,6],c⟩ ?_
     clear H c
     rintro ⟨bq,y,br⟩ ρ l8 ⟨H,c⟩
     obtain ⟨hs,rfl,c⟩:=yN c
     have c:=yO hr c
     refine zB fun l9 ht=>?_
     refine zB fun ma hu=>zA<| zH (i6 y) ?_
     obtain ⟨hv,hw,c⟩:=zD c
     refine zG (zM (xG (a:=y) (b:=3) rfl rfl) hw)<| RN hu<| yB (b:=hv) rfl (fun az=>?_) (fun az=>?_)
     ·have c:=zU az c
      refine zQ (zF (ht _ _ ?_))
      refine zB fun mb hx=>?_
      refine zY ?_
      refine zB fun mc hy=>zA<| zH v1<| zH v1<| zH d<| zH (i6 y) ?_
      obtain ⟨bt,a0,c⟩:=zC c
      obtain ⟨hz,h0,md,h1,h2,h3,h4,h5,h6⟩:=xY (H.item (i:=1) rfl) a0
      obtain rfl:h1= [sb bt]:=h3
      have H:=H.fz (.at hz (h0+y.toNat * 1) _) ⟨h4,h5,h6⟩
      refine zG (yV u36 sz9 h2 rfl (zO a0).1 (zO a0).2.1 rfl rfl)<| zG (yU dQ rfl (Cells.get (H.item (i:=7) rfl).2.2 (i:=0) rfl)) ?_
      have h7:=H
      obtain ⟨h8,h9,c⟩:=zC c
      refine zS rfl rfl (zN en23 rfl) (Fafw h bt v1 _ h9 _ _ _ (H.enter [] [0])) ?_
      rintro _ me ⟨rfl,ia⟩
      have H:=h7.step (ia.only:Only [] _ _)
      refine ⟨_,rfl,?_⟩
      obtain ⟨s,a1,c⟩:=zC c
      obtain ⟨ib,id,mf,mg,ie,ig,ih,ii,ij⟩:=xY (H.item (i:=0) rfl) a1
      obtain ⟨Q,rfl,ik⟩:=xU ig
      have H:=H.fzs [.at ib (id+h8.toNat * 4) _,.sl gX Q s.Series.Samples] ⟨⟨ih,ii,ij⟩,ik,trivial⟩
      refine zG (yV u22 eF ie rfl (zO a1).1 (zO a1).2.1 rfl rfl)<| zG (yK (yP (cs:=[sb s.Name,i6 s.Series.Den,Q,i6 s.Long]) bP rfl eF rfl (H.item (i:=8) rfl).2.2) rfl)<| yS rfl rfl (xB jI H) ?_
      rintro _ mh ⟨mi,rfl,H⟩
      refine yZ rfl (yM (vs:=[sb s.Name,i6 s.Series.Den,Q,i6 s.Long]) H 10 rfl eF rfl rfl rfl ⟨rfl,rfl,(dR (H.item (i:=9) rfl)),rfl,trivial⟩ rfl) ?_
      rintro mj H
      refine RN hy<| zB fun ml il=>zA<| zG (aY rfl)<| zG (yK (yP (cs:=[i6 s.Series.Den,Q]) qA rfl wZ rfl (Cells.drop (Hbc H 10 rfl) 1 2)) rfl)<| zH (i6 n)<| zG (uM rfl)<| Ld fK H 10 3 rfl rfl ?_
      have im:=H
      obtain ⟨⟨q,B⟩,io,c⟩:=zC c
      refine zS rfl rfl (zN en26 rfl) (Fapw s.Series n s.Long Q _ io _ _ _ (H.enter [] [9])) ?_
      rintro _ mm ⟨rfl,ip⟩
      have H:=im.step (ip.only:Only [] _ _)
      refine ⟨_,rfl,?_⟩
      refine zH (.tuple #[.agg [i6 q.At,i6 q.N,i6 q.Mark].toArray,.bool B])<| zG (xC (v:= .agg [i6 q.At,i6 q.N,i6 q.Mark].toArray) rfl rfl)<| zG (xC (v:= .bool B) rfl rfl)<| yS rfl rfl (xB mD H) ?_
      rintro _ mn ⟨mo,rfl,H⟩
      refine yZ rfl (yM (vs:=[i6 q.At,i6 q.N,i6 q.Mark]) H 11 rfl bD rfl rfl rfl ⟨rfl,rfl,rfl,trivial⟩ rfl) ?_
      rintro mq H
      refine zI (.bool B)<| RN il ?_
      have H:Hd _ _ _ _ [_,_,_,_,_,_,_,_]:=H.pick [0,1,2,3,4,5,6,11]
      refine zA ?_
      refine zH (i6 y)<| zG (mQ rfl)<| Ld fK H 7 1 rfl rfl<| zH (.bool B)<| zG (xR (cs:=[i6 q.N,.bool B]) (aBu _ _)) ?_
      obtain ⟨mr,a2,c⟩:=zC c
      refine zG (mG (X:=br) u84 qQ rfl rfl a2) ?_
      obtain ⟨iq,ir,c⟩:=zD c
      refine yZ rfl (Lx_storeA (e:=dN) (X:=br) (a:=fG.mk q.N B) (j:=y) H 6 rfl qQ rfl (v:= .agg [i6 q.N,.bool B].toArray) rfl rfl (Arr.at_lt a2).1 (Arr.at_lt a2).2 ir) ?_
      rintro ms H
      refine (zX (yX (zF (hx _ _ ?_))))
      refine zA ?_
      refine zH (i6 y) ?_
      obtain ⟨bu,it,c⟩:=zD c
      refine zG (xM (a:=y) (b:=1) rfl rfl it)<| zI (i6 bu) ?_
      exact (zX (zF (meet ⟨(hs,bu,iq),(zJ rfl zK),⟨H.pick [0,1,2,3,4,5,6],c⟩,Nat.lt_succ_self _⟩)))
     have c:=zV az c
     obtain rfl:=gJ c
     exact (xE (yC (yC (yQ (zF (meet ⟨(),zK,H.pick [0,1,2,3,4,5,6]⟩))))))
    rintro _ ρ mt H
    have c:=ho
    refine zB fun mu iu=>zA<| zG (Do_loadF (e:=(Fl.arr 3 dN)) (a:=Y) agg84 rfl sz84 (Hbc H 6 rfl))<| zH (i6 E) ?_
    have iv:=H
    obtain ⟨⟨R,P,T⟩,iw,c⟩:=zC c
    refine zS rfl rfl (zN en38 rfl) (Famw Y E _ iw _ _ _ (H.enter [] [])) ?_
    rintro _ mv ⟨rfl,iy⟩
    have H:=iv.step (iy.only:Only [] _ _)
    refine ⟨_,rfl,?_⟩
    refine zH (.tuple #[i6 R,i6 P,.bool T])<| zG (xC (v:=i6 R) rfl rfl)<| zG (xC (v:=i6 P) rfl rfl)<| zG (xC (v:= .bool T) rfl rfl)<| zI (i6 R)<| zI (i6 P)<| zI (.bool T)<| RN iu<| zB fun mw iz=>zA<| zH (i6 n)<| zG (xR (cs:=[i6 n,i6 0,i6 0]) (bt46_0 _)) ?_
    refine yS rfl rfl (xB mD H) ?_
    rintro _ mx ⟨bv,rfl,H⟩
    refine yZ rfl (yM (vs:=[i6 n,i6 0,i6 0]) H 7 rfl bD rfl rfl rfl ⟨rfl,rfl,rfl,trivial⟩ rfl) ?_
    rintro my H
    refine RN iz ?_
    obtain ⟨a3,c,i0⟩:=zC c
    refine yH [166,167,168,169] (fun (g:Unit)=>[]) (fun g wl=>Hd O w wl S [f1 fE v1 h,f1 Rp.str d l,.blk m [.string (bs []),i6 0,.slice none 0 0,i6 0] 41,.blk A [sb p,i6 k.Series.Den,t,i6 63] 41,.own gX t 46 V,.own (Rp.int .i64) o 3 aw,.blk bv [i6 n,i6 a3.1,i6 a3.2] 46]) ?_ ?_
    ·skip
     refine zB fun mz i1=>zA<| zH (.bool T)<| RN i1<| yB (b:=T) rfl (fun a4=>?_) (fun a4=>?_)
     ·have c:=zU a4 c
      refine zA ?_
      refine zH (i6 R)<| zG (mQ rfl)<| yZ rfl (xN H 7 rfl sz3 rfl (v:=i6 R) rfl rfl rfl) ?_
      rintro m0 H
      refine zG (jW rfl)<| yZ rfl (xN H 7 rfl sz3 rfl (v:=i6 4) rfl rfl rfl) ?_
      rintro m1 H
      obtain rfl:=gJ c
      exact (zX (zF (meet ⟨(),zK,H.pick [0,1,2,3,4,5,7]⟩)))
     have c:=zV a4 c
     obtain rfl:=gJ c
     exact (zQ (zF (meet ⟨(),zK,H.pick [0,1,2,3,4,5,7]⟩)))
    rintro _ ρ m2 H
    have c:=i0
    obtain ⟨C,D⟩:=a3
    obtain ⟨i2,c,i3⟩:=zC c
    refine yH [170,171,172,173,174,175,176,177] (fun (g:Unit)=>[]) (fun g wl=>Hd O w wl S [f1 fE v1 h,f1 Rp.str d l,.blk m [.string (bs []),i6 0,.slice none 0 0,i6 0] 41,.blk A [sb p,i6 k.Series.Den,t,i6 63] 41,.own gX t 46 V,.own (Rp.int .i64) o 3 i2,.blk bv [i6 n,i6 C,i6 D] 46]) ?_ ?_
    ·skip
     refine zB fun m3 i4=>zA<| zH (i6 P) ?_
     obtain ⟨i5,i7,c⟩:=zD c
     refine zG (zM (bG (a:=P) (b:=0) rfl rfl) i7)<| RN i4<| yB (b:=i5) rfl (fun a5=>?_) (fun a5=>?_)
     ·have c:=zU a5 c
      refine zA ?_
      refine zH o<| zH (i6 P) ?_
      obtain ⟨bw,a6,c⟩:=zC c
      obtain ⟨m4,m5,i8,i9,ja,jb⟩:=fZ (H.item (i:=5) rfl) a6
      obtain rfl:i8= [i6 bw]:=ja
      refine zG (yV u42 sz3 i9 rfl (zO a6).1 (zO a6).2.1 rfl rfl)<| zG (yU fK rfl (Cells.get jb (i:=0) rfl)) ?_
      obtain ⟨jc,jd,c⟩:=zD c
      refine zG (xM (a:=bw) (b:=1) rfl rfl jd) ?_
      obtain ⟨je,a7,c⟩:=zC c
      obtain ⟨m6,m7,jf,bx,jg,jh⟩:=fZ (H.item (i:=5) rfl) a7
      obtain rfl:jf= [i6 je]:=jg
      refine zG (yV u42 sz3 bx rfl (zO a7).1 (zO a7).2.1 rfl rfl) ?_
      obtain ⟨m8,ji,c⟩:=zC c
      refine yZ rfl (kP (vs:=[i6 jc]) (off:=0) H 5 rfl bx jh rfl sz3 rfl rfl rfl (kC ⟨rfl,trivial⟩) ji (by decide) rfl rfl) ?_
      rintro m9 H
      obtain rfl:=gJ c
      exact (zX (zF (meet ⟨(),zK,H.pick [0,1,2,3,4,5,6]⟩)))
     have c:=zV a5 c
     obtain rfl:=gJ c
     exact (zQ (zF (meet ⟨(),zK,H.pick [0,1,2,3,4,5,6]⟩)))
    rintro _ ρ na H
    have c:=i3
    refine zA ?_
    refine zG (aY rfl)<| zG (dX rfl)<| Ld aO H 3 2 rfl rfl<| zG (yK (yP (cs:=[i6 n,i6 C,i6 D]) kH rfl bD rfl (Hbc H 6 rfl)) rfl) ?_
    obtain ⟨nb,jj,c⟩:=zD c
    subst jj
    refine yS rfl rfl (kN (r:=gX) (xl:=[fA.mk n C D]) (cs:=[i6 n,i6 C,i6 D]) u37 el46 (by decide) (by decide) rfl (xW (vs:=[.agg [i6 n,i6 C,i6 D].toArray]) (by decide) rfl rfl ⟨rfl,trivial⟩ rfl) H ⟨[i6 n,i6 C,i6 D],[],rfl,(uU (x:=fA.mk n C D)),rfl⟩) ?_
    rintro nc nd H
    obtain ⟨ne,jk,c⟩:=zC c
    refine yS rfl rfl (aU H (i:=4) rfl u37 el46 rfl rfl (Sr.of_own (H.item (i:=7) rfl)) jk) ?_
    rintro bz nf H
    refine zG (aY rfl)<| zG (dX rfl)<| yZ rfl (xN H 3 rfl sz37 rfl (v:=bz) rfl (bM (H.item (i:=4) rfl)) rfl) ?_
    rintro ng H
    obtain rfl:=gJ c
    exact (zX (yX (zF (meet ⟨bz,zK,H.pick [0,1,2,3,4,5]⟩))))
   rintro jl ρ nh H
   have c:=hf
   obtain ⟨jm,jn⟩:=ay
   refine zA ?_
   refine zH (i6 M) ?_
   obtain ⟨b0,jo,c⟩:=zD c
   refine zG (xM (a:=M) (b:=1) rfl rfl jo)<| zI (i6 b0) ?_
   exact (zX (zF (meet ⟨(g9,b0,jm,jn,jl),(zJ rfl zK),⟨H.pick [0,1,2,3,4,5],c⟩,Nat.lt_succ_self _⟩)))
  have c:=zV ax c
  obtain rfl:=gJ c
  exact (xE (yC (yC (yQ (zF (meet ⟨t,zK,H.pick [2,3,4,5]⟩))))))
 rintro a8 ρ ni H
 have c:=g5
 obtain ⟨nj,nk⟩:=U
 refine zB fun nl jp=>zA<| zG (yK (yP (cs:=[sb p,i6 k.Series.Den,a8,i6 63]) bP rfl eF rfl (Hbc H 1 rfl)) rfl)<| zH o<| yZ rfl (yM (vs:=[sb p,i6 k.Series.Den,a8,i6 63]) H 0 rfl eF rfl rfl rfl ⟨rfl,rfl,(bM (H.item (i:=2) rfl)),rfl,trivial⟩ rfl) ?_
 rintro nm H
 refine zI o<| zI (i6 0)<| RN jp ?_
 have H:=H.freeze (i:=2) rfl
 obtain rfl:=gJ c
 refine (zZ (aN (v1:=o) (v2:=i6 0) rfl rfl (yI bP eF rfl (Hbc H 0 rfl)) rfl rfl ?_))
 exact ⟨a8,o,rfl,H.pick [2,3]⟩
theorem Fbaw (b:Option gB)(v1:Option Addr)(r:Str)(a:Fba b=some r)(O S:List Nat)(w:World)(H:Hd O w w S [.fz (.pt cO v1 b)]):
  Cl 9 [.pointer v1] w fun e h=>e= .returned (sb r)∧Hd O w h S []:=by
 unfold Fba at a
 refine CW 8 Tryz.func9 ?_
 refine zB fun x j=>zA<| zI (.string (bs []))<| RN j<| zB fun y k=>zA<| zH (.pointer v1) ?_
 obtain ⟨c,l,a⟩:=zC a
 obtain ⟨d,f,z,m,n,o,p,q⟩:=nG ((H.item (i:=0) rfl):PtF _ _ _ _ _) l
 obtain ⟨t,rfl,u⟩:=jX p
 have H:=H.fzs [.at d f _,.sl (Rp.int .u8) t c.out] ⟨⟨n,o,q⟩,u,trivial⟩
 refine zG (yE (ad:=⟨d,f,none⟩) (congrArg Value.pointer m))<| zG (pI rfl)<| zG (yU aEv rfl (Cells.get (H.item (i:=1) rfl).2.2 (i:=0) rfl)) ?_
 obtain ⟨g,v,a⟩:=zD a
 refine zG (yK (aDs (xl:=c.out) u25 u5 u9 rfl (Sr.of_rd (H.item (i:=2) rfl))) (congrArg (fun s=>Value.string (bs s)) v))<| zI (sb g)<| RN k ?_
 obtain rfl:=gJ a
 refine (zZ (fB (v1:=sb g) rfl rfl ?_))
 exact ⟨rfl,H.pick []⟩
theorem Fbfw (n:List Int)(d:Int)(h:Int)(v1:Value)(r:(List Int))(c:Fbf n d h=some r)(O S:List Nat)(w:World)(H:Hd O w w S [.own (Rp.int .u8) v1 5 n,.fz (.at 0 0 ((Fl.arr 20 (Fl.int .u64)).f zT))]):
  Cl 76 [v1,i6 d,i6 h] w fun e s=> ∃u4,e= .returned (u4)∧Hd O w s S [.own (Rp.int .u8) u4 5 r]:=by
 unfold Fbf at c
 refine CW 21 Tryz.func76 ?_
 refine zB fun M t=>zA<| zI (.slice none 0 0)<| RN t<| zB fun N u=>zA<| zH (i6 d) ?_
 obtain ⟨j,v,c⟩:=zD c
 refine zG (sQ u2 u96 rfl v)<| zI (.int .u64 j)<| RN u ?_
 obtain ⟨k,c,x⟩:=zC c
 refine yH [0,7,10,11,12,13,14,15,16] (fun (g:Value)=>[(0,g),(7,.int .u64 k.2)]) (fun g wl=>Hd O w wl S [.own (Rp.int .u8) g 5 k.1,.fz (.at 0 0 ((Fl.arr 20 (Fl.int .u64)).f zT))]) ?_ ?_
 ·skip
  refine zB fun P y=>zA<| zH (i6 d) ?_
  obtain ⟨z,A,c⟩:=zD c
  refine zG (zM (xG (a:=d) (b:=0) rfl rfl) A)<| RN y<| yB (b:=z) rfl (fun l=>?_) (fun l=>?_)
  ·have c:=zU l c
   refine zB fun Q B=>zA<| zH v1 ?_
   obtain ⟨R,C,c⟩:=zD c
   subst C
   refine yS rfl rfl (kN (r:=(Rp.int .u8)) (xl:=[45]) (cs:=[.int .u8 45]) u25 el5 (by decide) (by decide) rfl (xW (vs:=[.int .u8 45]) (by decide) rfl rfl ⟨rfl,trivial⟩ rfl) H ⟨[.int .u8 45],[],rfl,rfl,rfl⟩) ?_
   rintro T U H
   obtain ⟨V,D,c⟩:=zC c
   refine yS rfl rfl (aU H (i:=0) rfl u25 el5 rfl rfl (Sr.of_own (H.item (i:=2) rfl)) D) ?_
   rintro o X H
   refine zI o<| RN B<| zA<| zH (.int .u64 j) ?_
   obtain ⟨F,G,c⟩:=zD c
   refine zG (Do_neg (a:=j) rfl G)<| zI (.int .u64 F) ?_
   obtain rfl:=gJ c
   exact (zX (zF (meet ⟨o,(zJ rfl (zJ rfl zK)),H.pick [0,1]⟩)))
  have c:=zV l c
  obtain rfl:=gJ c
  exact (zQ (zF (meet ⟨v1,(zJ rfl (zJ rfl zK)),H.pick [0,1]⟩)))
 rintro p ρ Y H
 have c:=x
 obtain ⟨I,q⟩:=k
 refine zB fun Z J=>zA<| zH p<| zH (.int .u64 q)<| zH (i6 h) ?_
 obtain ⟨aa,K,c⟩:=zC c
 refine zS rfl rfl (zN en100 rfl) (E.Fblw I q h p _ K _ _ _ (H.enter [0] [1])) ?_
 rintro _ ab ⟨m,rfl,L⟩
 have H:Hd _ _ _ _ [_,_]:=H.back [0] [1] rfl L
 refine ⟨_,rfl,?_⟩
 refine zI m<| RN J ?_
 obtain rfl:=gJ c
 refine (zZ (fB (v1:=m) rfl rfl ?_))
 exact ⟨m,rfl,H.pick [1]⟩
theorem Fbuw (d:List Int)(a:Int)(b:Int)(v1:Value)(r:(List Int))(c:Fbu d a b=some r)(O S:List Nat)(w:World)(H:Hd O w w S [.own (Rp.int .u8) v1 5 d,.fz (.at 0 0 ((Fl.arr 20 (Fl.int .u64)).f zT))]):
  Cl 55 [v1,i6 a,i6 b] w fun e h=> ∃u4,e= .returned (u4)∧Hd O w h S [.own (Rp.int .u8) u4 5 r]:=by
 unfold Fbu at c
 refine CW 11 Tryz.func55 ?_
 refine zB fun m i=>zA<| zI (.slice none 0 0)<| RN i<| zB fun n j=>zA<| zH v1<| zH (i6 a)<| zH (i6 b) ?_
 obtain ⟨o,k,c⟩:=zC c
 refine zS rfl rfl (zN en76 rfl) (Fbfw d a b v1 _ k _ _ _ (H.enter [0] [1])) ?_
 rintro _ p ⟨g,rfl,l⟩
 have H:Hd _ _ _ _ [_,_]:=H.back [0] [1] rfl l
 refine ⟨_,rfl,?_⟩
 refine zI g<| RN j ?_
 obtain rfl:=gJ c
 refine (zZ (fB (v1:=g) rfl rfl ?_))
 exact ⟨g,rfl,H.pick [1]⟩
theorem aBs (d:gB)(c:Int)(b:Nat)(g:Value)(r:gB)(a:Fab d c=some r)(O S:List Nat)(w:World)(H:Hd O w w S [.own (Rp.int .u8) g 5 d.out,.blk b [g] 27,.fz (.at 0 0 ((Fl.arr 20 (Fl.int .u64)).f zT))]):
  Cl 28 [gY b,i6 c] w fun e k=> ∃h,e= .returned (.tuple #[])∧Hd O w k S [.own (Rp.int .u8) h 5 r.out,.blk b [h] 27]:=by
 unfold Fab at a
 refine CW 22 Tryz.func28 ?_
 refine zB fun s l=>zA<| zH (gY b)<| zH (gY b)<| zG (yE rfl)<| zG (pI rfl)<| Ld aEv H 1 0 rfl rfl<| zH (i6 c) ?_
 obtain ⟨t,m,a⟩:=zC a
 refine zS rfl rfl (zN en55 rfl) (Fbuw d.out c 10 g _ m _ _ _ (H.enter [0] [2])) ?_
 rintro _ u ⟨n,rfl,o⟩
 have H:Hd _ _ _ _ [_,_,_]:=H.back [0] [2] rfl o
 refine ⟨_,rfl,?_⟩
 refine zG (yE rfl)<| zG (pI rfl)<| yZ rfl (xN H 0 rfl sz25 rfl (v:=n) rfl (bM (H.item (i:=2) rfl)) rfl) ?_
 rintro x H
 refine RN l<| zA<| zH (gY b)<| zH (gY b)<| zG (yE rfl)<| zG (pI rfl)<| Ld aEv H 0 0 rfl rfl ?_
 obtain ⟨y,p,a⟩:=zD a
 subst p
 refine yS rfl rfl (kN (r:=(Rp.int .u8)) (xl:=[32]) (cs:=[.int .u8 32]) u25 el5 (by decide) (by decide) rfl (xW (vs:=[.int .u8 32]) (by decide) rfl rfl ⟨rfl,trivial⟩ rfl) H ⟨[.int .u8 32],[],rfl,rfl,rfl⟩) ?_
 rintro z A H
 obtain ⟨B,q,a⟩:=zC a
 refine yS rfl rfl (aU H (i:=2) rfl u25 el5 rfl rfl (Sr.of_own (H.item (i:=3) rfl)) q) ?_
 rintro j C H
 refine zG (yE rfl)<| zG (pI rfl)<| yZ rfl (xN H 0 rfl sz25 rfl (v:=j) rfl (bM (H.item (i:=2) rfl)) rfl) ?_
 rintro D H
 obtain rfl:=gJ a
 refine (zX (aJ rfl ?_))
 exact ⟨j,rfl,H.pick [2,0]⟩
theorem Fbhw (d:gB)(c:Str)(b:Nat)(g:Value)(r:gB)(a:Fbh d c=some r)(O S:List Nat)(w:World)(H:Hd O w w S [.own (Rp.int .u8) g 5 d.out,.blk b [g] 27,.fz (.at 0 0 ((Fl.arr 20 (Fl.int .u64)).f zT))]):
  Cl 65 [gY b,sb c] w fun e k=> ∃h,e= .returned (.tuple #[])∧Hd O w k S [.own (Rp.int .u8) h 5 r.out,.blk b [h] 27]:=by
 unfold Fbh at a
 refine CW 17 Tryz.func65 ?_
 refine zB fun s l=>zA<| zH (gY b)<| zH (sb c) ?_
 obtain ⟨m,n,a⟩:=zD a
 refine zG (yK (bK (s1:=c) u9 rfl) (congrArg (Value.int .i64) n)) ?_
 obtain ⟨t,o,a⟩:=zC a
 refine zS rfl rfl (zN aCh rfl) (aBs (gB.mk d.out) m b g _ o _ _ _ (H.enter [0,1] [2])) ?_
 rintro _ u ⟨x,rfl,p⟩
 have H:Hd _ _ _ _ [_,_,_]:=H.back [0,1] [2] rfl p
 refine ⟨_,rfl,?_⟩
 refine RN l<| zA<| zH (gY b)<| zH (gY b)<| zG (yE rfl)<| zG (pI rfl)<| Ld aEv H 2 0 rfl rfl<| zH (sb c) ?_
 obtain ⟨y,q,a⟩:=zC a
 refine yS rfl rfl (wR H (i:=1) rfl u25 u9 z8_5 rfl rfl q) ?_
 rintro j z H
 refine zG (yE rfl)<| zG (pI rfl)<| yZ rfl (xN H 2 rfl sz25 rfl (v:=j) rfl (bM (H.item (i:=1) rfl)) rfl) ?_
 rintro A H
 obtain rfl:=gJ a
 refine (zX (aJ rfl ?_))
 exact ⟨j,rfl,H.pick [1,2]⟩
theorem Fasw (k:gB)(l:List Int)(d:Nat)(m:Value)(h:Value)(r:gB)(c:Fas k l=some r)(O S:List Nat)(w:World)(H:Hd O w w S [.own (Rp.int .u8) m 5 k.out,.blk d [m] 27,f1 (Rp.int .i64) h l,.fz (.at 0 0 ((Fl.arr 20 (Fl.int .u64)).f zT))]):
  Cl 29 [gY d,h] w fun e u=> ∃u8,e= .returned (.tuple #[])∧Hd O w u S [.own (Rp.int .u8) u8 5 r.out,.blk d [u8] 27]:=by
 unfold Fas at c
 refine CW 21 Tryz.func29 ?_
 refine zB fun K9 v=>zA<| zH (gY d)<| zH h ?_
 obtain ⟨x,y,c⟩:=zD c
 obtain ⟨aj,ak,z⟩:=SlF.len ((H.item (i:=2) rfl))
 refine zG (yK (xK u42 z) (congrArg (Value.int .i64) y)) ?_
 obtain ⟨A,B,c⟩:=zC c
 refine zS rfl rfl (zN aCh rfl) (aBs (gB.mk k.out) x d m _ B _ _ _ (H.enter [0,1] [3])) ?_
 rintro _ al ⟨C,rfl,D⟩
 have H:Hd _ _ _ _ [_,_,_,_]:=H.back [0,1] [3] rfl D
 refine ⟨_,rfl,?_⟩
 refine RN v<| zB fun am E=>zA<| zI (i6 0)<| RN E<| zY ?_
 unfold Fc3 at c
 obtain ⟨F,p,G,c⟩:=yF c
 refine xA [4,9,10,11,12,13,14,15,16,17,18,19,20] (fun (g:Nat×Int×(List Int)×Value)=>[(4,i6 g.2.1)]) (fun g wl=>Hd O w wl S [f1 (Rp.int .i64) h l,.fz (.at 0 0 ((Fl.arr 20 (Fl.int .u64)).f zT)),.blk d [g.2.2.2] 27,.own (Rp.int .u8) g.2.2.2 5 g.2.2.1]∧fF F g.1 (g.2.1,g.2.2.1)=some r) (fun g=>g.1) (p,0,A.out,C) (zJ rfl zK) ⟨H.pick [0,1,3,2],c⟩ ?_
 clear H c
 rintro ⟨p,j,I,q⟩ ρ an ⟨H,c⟩
 obtain ⟨J,rfl,c⟩:=yN c
 have c:=yO G c
 refine zB fun ao K=>?_
 refine zB fun ap L=>zA<| zH (i6 j)<| zH h ?_
 obtain ⟨M,N,c⟩:=zD c
 obtain ⟨aq,ar,P⟩:=SlF.len ((H.item (i:=0) rfl))
 refine zG (yK (xK u42 P) (congrArg (Value.int .i64) N)) ?_
 obtain ⟨Q,R,c⟩:=zD c
 refine zG (zM (xG (a:=j) (b:=M) rfl rfl) R)<| RN L<| yB (b:=Q) rfl (fun n=>?_) (fun n=>?_)
 ·have c:=zU n c
  refine zQ (zF (K _ _ ?_))
  refine zB fun au T=>?_
  refine zY ?_
  refine zA ?_
  refine zH (gY d)<| zH h<| zH (i6 j) ?_
  obtain ⟨s,o,c⟩:=zC c
  obtain ⟨U,V,av,X,Y,Z,aa,ab,ac⟩:=xY (H.item (i:=0) rfl) o
  obtain rfl:X= [i6 s]:=Z
  have H:=H.fz (.at U (V+j.toNat * 1) _) ⟨aa,ab,ac⟩
  refine zG (yV u42 sz3 Y rfl (zO o).1 (zO o).2.1 rfl rfl)<| zG (yU fK rfl (Cells.get (H.item (i:=4) rfl).2.2 (i:=0) rfl)) ?_
  obtain ⟨ad,ae,c⟩:=zC c
  refine zS rfl rfl (zN aCh rfl) (aBs (gB.mk I) s d q _ ae _ _ _ (H.enter [3,2] [1])) ?_
  rintro _ aw ⟨af,rfl,ag⟩
  have H:Hd _ _ _ _ [_,_,_,_,_]:=H.back [3,2] [1] rfl ag
  refine ⟨_,rfl,?_⟩
  refine (zX (yX (zF (T _ _ ?_))))
  refine zA ?_
  refine zH (i6 j) ?_
  obtain ⟨t,ah,c⟩:=zD c
  refine zG (xM (a:=j) (b:=1) rfl rfl ah)<| zI (i6 t) ?_
  exact (zX (zF (meet ⟨(J,t,ad.out,af),(zJ rfl zK),⟨H.pick [0,1,4,3],c⟩,Nat.lt_succ_self _⟩)))
 have c:=zV n c
 obtain rfl:=gJ c
 refine (xE (yC (yC (yQ (aJ rfl ?_)))))
 exact ⟨q,rfl,H.pick [3,2]⟩
theorem Fbow (d:gB)(a:fA)(c:Nat)(g:Value)(r:gB)(b:Fbo d a=some r)(O S:List Nat)(w:World)(H:Hd O w w S [.own (Rp.int .u8) g 5 d.out,.blk c [g] 27,.fz (.at 0 0 ((Fl.arr 20 (Fl.int .u64)).f zT))]):
  Cl 94 [gY c,.agg [i6 a.At,i6 a.N,i6 a.Mark].toArray] w fun e j=> ∃h,e= .returned (.tuple #[])∧Hd O w j S [.own (Rp.int .u8) h 5 r.out,.blk c [h] 27]:=by
 unfold Fbo at b
 refine CW 13 Tryz.func94 ?_
 refine zB fun q k=>zA<| yS rfl rfl (xZ (cs:=[i6 a.At,i6 a.N,i6 a.Mark]) rfl H) ?_
 rintro _ s ⟨t,rfl,H⟩
 refine RN k<| zA<| zH (gY c)<| zG (kY rfl)<| Ld fK H 3 0 rfl rfl<| zG (mQ rfl)<| Ld fK H 3 1 rfl rfl<| zG (jW rfl)<| Ld fK H 3 2 rfl rfl ?_
 obtain ⟨u,l,b⟩:=zD b
 subst l
 refine yS rfl rfl (kN (r:=(Rp.int .i64)) (xl:=[a.At,a.N,a.Mark]) (cs:=[i6 a.At,i6 a.N,i6 a.Mark]) u42 el3 (by decide) (by decide) rfl (xW (vs:=[i6 a.At,i6 a.N,i6 a.Mark]) (by decide) rfl rfl ⟨rfl,rfl,rfl,trivial⟩ rfl) H ⟨[i6 a.At],[i6 a.N,i6 a.Mark],rfl,rfl,⟨[i6 a.N],[i6 a.Mark],rfl,rfl,⟨[i6 a.Mark],[],rfl,rfl,rfl⟩⟩⟩) ?_
 rintro m v H
 have H:=H.freeze (i:=4) rfl
 obtain ⟨x,n,b⟩:=zC b
 refine zS rfl rfl (zN en29 rfl) (Fasw (gB.mk d.out) ([a.At,a.N,a.Mark]:List Int) c g m _ n _ _ _ (H.enter [0,1] [4,2])) ?_
 rintro _ y ⟨o,rfl,p⟩
 have H:Hd _ _ _ _ [_,_,_,_,_]:=H.back [0,1] [4,2] rfl p
 refine ⟨_,rfl,?_⟩
 obtain rfl:=gJ b
 refine (zX (aJ rfl ?_))
 exact ⟨o,rfl,H.pick [3,4]⟩
end Go.Proofs.YtgmikmoapfmedaaGreatDoor.L
