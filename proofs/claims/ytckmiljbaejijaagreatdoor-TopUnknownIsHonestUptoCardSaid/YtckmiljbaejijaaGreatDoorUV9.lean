/- Walks: what each function computes, for every argument; no condition but those that stand in the statements. -/
import Derived.Test.YtckmiljbaejijaaGreatDoorUV0
import Derived.Test.YtckmiljbaejijaaGreatDoorUV7
import Derived.Test.YtckmiljbaejijaaGreatDoorUV8
import Derived.Test.YtckmiljbaejijaaGreatDoorUV4
import Derived.Test.YtckmiljbaejijaaGreatDoorUV6
namespace Go.Proofs.YtckmiljbaejijaaGreatDoor.L
open Go.RowKit Go.OB Go.Lf
set_option maxHeartbeats 4000000
set_option maxRecDepth 100000 in
theorem Fa4w (d:gY)(f:gG)(s:Nat)(l:Value)(m:Value)(az:List Nat)(n:Value)(y:List Nat)(o:Value)(u:Nat)(j:Value)(k:Value)(h:Value)(r:gY)(c:Fa4 d f=some r)(O S:List Nat)(w:World)(H:Hd O w w S [.tr fM [m] az d.moves,.tr fK [n] y d.rules,.blk s [l,i6 d.tracks,m,n,o] 146,.own (Rp.int .i64) h 3 f.rules,.blk u [j,k,h] 222,f1 Rp.str l d.phases,f1 Rp.bool o d.possible,f1 gQ j f.told,f1 Rp.bool k f.possible]):
  Calls Tryz.prog 141 ([gW s,gW u]:List Value).toArray w fun e w'=> ∃a0 u22 bq u23 br u24,e= .returned (.tuple #[])∧Hd O w w' S [f1 Rp.str a0 r.phases,.tr fM [u22] bq r.moves,.tr fK [u23] br r.rules,f1 Rp.bool u24 r.possible,.blk s [a0,i6 r.tracks,u22,u23,u24] 146,.own (Rp.int .i64) h 3 f.rules,.blk u [j,k,h] 222]:=by
 unfold Fa4 at c
 refine zZ 94 Tryz.func141 rfl rfl rfl ?_
 refine zC fun fd bt=>zB<| zK (.slice none 0 0)<| zG (zA (bt _ _ ?_))
 obtain ⟨T,c,bu⟩:=zF c
 refine yH [4,6,13,14,15,16,17,18,19,20,21,22,23,24,25,26,27,28,29] (fun (g:Value×(List Nat))=>[(4,g.1)]) (fun g wl=>Hd O w wl S [.own (Rp.int .i64) g.1 3 T.1,.tr fM [m] g.2 T.2,.tr fK [n] y d.rules,.blk s [l,i6 d.tracks,m,n,o] 146,f1 Rp.str l d.phases,f1 Rp.bool o d.possible,.own (Rp.int .i64) h 3 f.rules,.blk u [j,k,h] 222,f1 gQ j f.told,f1 Rp.bool k f.possible]) ?_ ?_
 ·skip
  refine zC fun fe bv=>zB<| zJ (gW s)<| zH (yA rfl)<| zH (fa146_2 rfl)<| Ld one142 H 2 2 rfl rfl ?_
  obtain ⟨bw,bx,c⟩:=zD c
  obtain ⟨ff,fg,bz⟩:=row_len ((H.item (i:=0) rfl))
  refine zH (yO (xI u142 bz) (congrArg (Value.int .i64) bx))<| zJ (i6 0)<| zG (zA (bv _ _ ?_))
  refine yC ?_
  have H:=aU H (Rp.int .i64) 3
  unfold Fdr at c
  obtain ⟨b0,a1,b1,c⟩:=yR c
  refine xA [4,6,18,19,20,21,22,23,24,25,26,27,28,29] (fun (g:Nat×(List Int)×Int×(List fB)×Value×(List Nat))=>[(4,g.2.2.2.2.1),(18,i6 g.2.2.1)]) (fun g wl=>Hd O w wl S [.own (Rp.int .i64) g.2.2.2.2.1 3 g.2.1,.tr fM [m] g.2.2.2.2.2 g.2.2.2.1,.tr fK [n] y d.rules,.blk s [l,i6 d.tracks,m,n,o] 146,f1 Rp.str l d.phases,f1 Rp.bool o d.possible,.own (Rp.int .i64) h 3 f.rules,.blk u [j,k,h] 222,f1 gQ j f.told,f1 Rp.bool k f.possible]∧fV b0 g.1 (g.2.1,g.2.2.1,g.2.2.2.1)=some T) (fun g=>g.1) (a1,[],0,d.moves,.slice none 0 0,az) (zI rfl (zI rfl zL)) ⟨H.pick [9,0,1,2,5,6,3,4,7,8] (by decide),c⟩ ?_
  clear H c
  rintro ⟨a1,a2,M,U,V,b2⟩ ρ fh ⟨H,c⟩
  obtain ⟨b3,rfl,c⟩:=yV c
  have c:=yU b1 c
  refine zC fun fi b4=>zB ?_
  obtain ⟨b5,b6,c⟩:=zD c
  refine zH (zM (xK (a:=M) (b:=bw) rfl rfl) b6)<| zG (zA (b4 _ _ ?_))
  refine zC fun fj b7=>?_
  refine zW (b:=b5) rfl (fun ab=>?_) (fun ab=>?_)
  ·have c:=zN ab c
   refine zX (zA (b7 _ _ ?_))
   refine zC fun fk b8=>?_
   refine yC ?_
   refine zC fun fm b9=>zB ?_
   obtain ⟨t,N,c⟩:=zF c
   obtain ⟨fn,fo,fp,ac⟩:=aX (H.item (i:=1) rfl) N
   refine zH (yT u142 sz172 ac rfl (zS N).1 (zS N).2.1 rfl rfl) ?_
   obtain ⟨fq,X,fr,H⟩:=H.focusV 1 rfl ac N rfl
   obtain ⟨B,a3,rfl,H⟩:=rtEventMove_open H 10 rfl
   have H:Hd _ _ _ _ [.own (Rp.int .i64) V 3 a2,.tr fK [n] y d.rules,.blk s [l,i6 d.tracks,m,n,o] 146,f1 Rp.str l d.phases,f1 Rp.bool o d.possible,.own (Rp.int .i64) h 3 f.rules,.blk u [j,k,h] 222,f1 gQ j f.told,f1 Rp.bool k f.possible,.tr (Rt.row eF 172 [(M.toNat,[i6 t.from_,i6 t.to,B])]) [m] X U,.tr fC [B] a3 t.when]:=H
   refine zH (yO (yN (cs:=[i6 t.from_,i6 t.to,B]) agg172 rfl sz172 rfl (H.holeW 9 rfl ac N rfl eU)) rfl)<| yY rfl rfl (xN zero172 H) ?_
   rintro _ fs ⟨Y,rfl,H⟩
   refine xB rfl (xC (vs:=[i6 t.from_,i6 t.to,B]) H 11 rfl sz172 rfl rfl rfl ⟨rfl,rfl,(tr_one (H.item (i:=10) rfl)),trivial⟩ rfl) ?_
   rintro ft H
   refine zG (zA (b9 _ _ ?_))
   refine zB ?_
   refine zJ V<| zH (fa172_2 rfl)<| Ld kD H 11 2 rfl rfl<| zJ (gW u) ?_
   obtain ⟨ca,cb,a4⟩:=Fak (H.item (i:=10) rfl)
   obtain ⟨F,cc,c⟩:=zF c
   refine yG rfl rfl (DoC_inv a4 rfl rfl) (Fdp t.when (gG.mk f.told f.possible f.rules) B a3 u j k h ca cb a4 _ cc _ _ _ (H.enter [10,5,6] [7,8] (by decide) rfl)) ?_
   rintro _ cd ⟨a5,rfl,ce⟩
   have H:Hd _ _ cd _ [.own (Rp.int .i64) V 3 a2,.tr fK [n] y d.rules,.blk s [l,i6 d.tracks,m,n,o] 146,f1 Rp.str l d.phases,f1 Rp.bool o d.possible,f1 gQ j f.told,f1 Rp.bool k f.possible,.tr (Rt.row eF 172 [(M.toNat,[i6 t.from_,i6 t.to,B])]) [m] X U,.blk Y [i6 t.from_,i6 t.to,B] 172,.tr fC [B] a5 F.2,.own (Rp.int .i64) h 3 f.rules,.blk u [j,k,h] 222]:=H.back [10,5,6] [7,8] rfl ce
   refine ⟨_,rfl,?_⟩
   obtain ⟨fu,cf,c⟩:=zD c
   subst cf
   refine yY rfl rfl (Lx_bs (r:=(Rp.int .i64)) (xl:=[F.1]) (cs:=[i6 F.1]) u38 el3 (by decide) (by decide) rfl (wG (vs:=[i6 F.1]) (by decide) rfl rfl ⟨rfl,trivial⟩ rfl) H ⟨[i6 F.1],[],rfl,rfl,rfl⟩) ?_
   rintro ad fv H
   obtain ⟨Z,cg,c⟩:=zF c
   refine yY rfl rfl (Lx_app H (i:=0) rfl u38 el3 rfl rfl (Sr.of_own (H.item (i:=12) rfl)) cg) ?_
   rintro P fw H
   refine zK P<| (zG (yK (zA (b8 _ _ ?_))))
   refine zB ?_
   obtain ⟨a6,ch,c⟩:=zD c
   refine zH (xJ (a:=M) (b:=1) rfl rfl ch)<| zJ (i6 a6) ?_
   have H:Hd _ _ _ _ [.own (Rp.int .i64) P 3 Z,.tr fK [n] y d.rules,.blk s [l,i6 d.tracks,m,n,o] 146,f1 Rp.str l d.phases,f1 Rp.bool o d.possible,f1 gQ j f.told,f1 Rp.bool k f.possible,.tr (Rt.row eF 172 [(M.toNat,[i6 t.from_,i6 t.to,B])]) [m] X U,.blk Y [i6 t.from_,i6 t.to,B] 172,.tr fC [B] a5 F.2,.own (Rp.int .i64) h 3 f.rules,.blk u [j,k,h] 222,.own (Rp.int .i64) ad 3 ([F.1]:List Int)]:=H
   obtain ⟨ci,H⟩:=rtEventMove_mk (x:=fB.mk t.from_ t.to F.2) H 9 rfl
   have H:Hd _ _ _ _ [.own (Rp.int .i64) P 3 Z,.tr fK [n] y d.rules,.blk s [l,i6 d.tracks,m,n,o] 146,f1 Rp.str l d.phases,f1 Rp.bool o d.possible,f1 gQ j f.told,f1 Rp.bool k f.possible,.tr (Rt.row eF 172 [(M.toNat,[i6 t.from_,i6 t.to,B])]) [m] X U,.blk Y [i6 t.from_,i6 t.to,B] 172,.own (Rp.int .i64) h 3 f.rules,.blk u [j,k,h] 222,.own (Rp.int .i64) ad 3 ([F.1]:List Int),.tr eF [i6 t.from_,i6 t.to,B] ci (fB.mk t.from_ t.to F.2)]:=H
   obtain ⟨a7,cj,c⟩:=zF c
   obtain ⟨a8,H⟩:=H.unfocus 7 12 rfl rfl (by decide) rfl rfl cj
   have H:Hd _ _ _ _ [.own (Rp.int .i64) P 3 Z,.tr fK [n] y d.rules,.blk s [l,i6 d.tracks,m,n,o] 146,f1 Rp.str l d.phases,f1 Rp.bool o d.possible,f1 gQ j f.told,f1 Rp.bool k f.possible,.blk Y [i6 t.from_,i6 t.to,B] 172,.own (Rp.int .i64) h 3 f.rules,.blk u [j,k,h] 222,.own (Rp.int .i64) ad 3 ([F.1]:List Int),.tr fM [m] a8 a7]:=H
   exact (zG (zA (meet ⟨(b3,Z,a6,a7,P,a8),(zI rfl (zI rfl zL)),⟨H.pick [0,11,1,2,3,4,8,9,5,6] (by decide),c⟩,Nat.lt_succ_self _⟩)))
  have c:=zO ab c
  obtain rfl:=gI c
  exact (xH (yL (yL (yS (zA (meet ⟨(V,b2),(zI rfl zL),H.pick [0,1,2,3,4,5,6,7,8,9] (by decide)⟩))))))
 rintro ⟨C,ck⟩ ρ fx H
 have c:=bu
 obtain ⟨E,D⟩:=T
 refine zC fun fy cl=>zB<| zJ (gW s)<| zH (yA rfl)<| zH (fa146_0 rfl)<| Ld aN H 3 0 rfl rfl ?_
 obtain ⟨f0,cm,c⟩:=zD c
 obtain ⟨f4,f5,cn⟩:=SlF.len ((H.item (i:=4) rfl))
 refine zH (yO (xI u22 cn) (congrArg (Value.int .i64) cm)) ?_
 obtain ⟨co,cp,c⟩:=zF c
 refine yY rfl rfl (Lx_make (r:=Rp.bool) (zv:= .bool false) u144 el4 rfl (fun _ _=>rfl) rfl rfl cp H) ?_
 rintro z f6 H
 refine zK z<| zG (zA (cl _ _ ?_))
 obtain ⟨a9,c,cq⟩:=zF c
 refine yH [8,9,10,11,12,36,37,38,39,40,41,42,43,44,45,46,47,48,49,50,51,52,53,54,55,56,57,58,59,60,61,62,63,64,65,66,67,68,69,70,71,72,73,74,75,76,77,78,79,80,81,82,83,84,85,86,87,88,89] (fun (g:(List Nat))=>[]) (fun g wl=>Hd O w wl S [.tr fM [m] g D,.tr fK [n] y d.rules,.blk s [l,i6 d.tracks,m,n,o] 146,f1 Rp.str l d.phases,f1 Rp.bool o d.possible,.own (Rp.int .i64) h 3 f.rules,.blk u [j,k,h] 222,f1 gQ j f.told,f1 Rp.bool k f.possible,.own Rp.bool z 4 a9]) ?_ ?_
 ·skip
  refine zC fun f7 cr=>zB<| zJ (gW s)<| zH (yA rfl)<| zH (fa146_4 rfl)<| Ld one144 H 3 4 rfl rfl ?_
  obtain ⟨ct,cu,c⟩:=zD c
  obtain ⟨f8,f9,cv⟩:=SlF.len ((H.item (i:=5) rfl))
  refine zH (yO (xI u144 cv) (congrArg (Value.int .i64) cu))<| zJ (i6 0)<| zG (zA (cr _ _ ?_))
  refine yC ?_
  unfold Fdl at c
  obtain ⟨cw,ba,cx,c⟩:=yR c
  refine xA [8,9,10,11,12,41,42,43,44,45,46,47,48,49,50,51,52,53,54,55,56,57,58,59,60,61,62,63,64,65,66,67,68,69,70,71,72,73,74,75,76,77,78,79,80,81,82,83,84,85,86,87,88,89] (fun (g:Nat×Int×(List Bool)×(List Nat))=>[(41,i6 g.2.1)]) (fun g wl=>Hd O w wl S [.own (Rp.int .i64) C 3 E,.tr fM [m] g.2.2.2 D,.tr fK [n] y d.rules,.blk s [l,i6 d.tracks,m,n,o] 146,f1 Rp.str l d.phases,f1 Rp.bool o d.possible,.own (Rp.int .i64) h 3 f.rules,.blk u [j,k,h] 222,f1 gQ j f.told,f1 Rp.bool k f.possible,.own Rp.bool z 4 g.2.2.1]∧fV cw g.1 (g.2.1,g.2.2.1)=some a9) (fun g=>g.1) (ba,0,co,ck) (zI rfl zL) ⟨H.pick [0,1,2,3,4,5,6,7,8,9,10] (by decide),c⟩ ?_
  clear H c
  rintro ⟨ba,I,cy,ae⟩ ρ ga ⟨H,c⟩
  obtain ⟨cz,rfl,c⟩:=yV c
  have c:=yU cx c
  refine zC fun gb c0=>zB ?_
  obtain ⟨c1,c2,c⟩:=zD c
  refine zH (zM (xK (a:=I) (b:=ct) rfl rfl) c2)<| zG (zA (c0 _ _ ?_))
  refine zC fun gc c3=>?_
  refine zW (b:=c1) rfl (fun af=>?_) (fun af=>?_)
  ·have c:=zN af c
   refine zX (zA (c3 _ _ ?_))
   obtain ⟨bb,c,c4⟩:=zF c
   refine yH [8,9,10,11,12,43,44,45,46,47,48,49,50,51,52,53,54,55,56,57,58,59,60,61,62,63,64,65,66,67,68,69,70,71,72,73,74,75,76,77,78,79,80,81,82,83,84,85,86,87,88] (fun (g:(List Nat))=>[]) (fun g wl=>Hd O w wl S [.own (Rp.int .i64) C 3 E,.tr fM [m] g D,.tr fK [n] y d.rules,.blk s [l,i6 d.tracks,m,n,o] 146,f1 Rp.str l d.phases,f1 Rp.bool o d.possible,.own (Rp.int .i64) h 3 f.rules,.blk u [j,k,h] 222,f1 gQ j f.told,f1 Rp.bool k f.possible,.own Rp.bool z 4 bb]) ?_ ?_
   ·skip
    refine yC ?_
    refine zC fun gd c5=>zB<| zJ (i6 I) ?_
    obtain ⟨aa,ag,c⟩:=zF c
    obtain ⟨c6,c7,ge,c8,c9,da,db,dc,dd⟩:=wH (H.item (i:=5) rfl) ag
    obtain rfl:c8= [.bool aa]:=da
    have H:=H.fz (.at c6 (c7+I.toNat * 1) _) ⟨db,dc,dd⟩
    refine zH (yT u144 sz4 c9 rfl (zS ag).1 (zS ag).2.1 rfl rfl)<| zH (yX one4 rfl (Cells.get (H.item (i:=11) rfl).2.2 (i:=0) rfl))<| zK (i6 I)<| zK (.bool aa)<| zG (zA (c5 _ _ ?_))
    refine zC fun gf de=>?_
    refine zC fun gg df=>zB<| zJ (.bool aa) ?_
    obtain ⟨dg,dh,c⟩:=zD c
    refine zH (zM (wJ (p:=aa) rfl) dh)<| zG (zA (df _ _ ?_))
    refine zW (b:=dg) rfl (fun ah=>?_) (fun ah=>?_)
    ·have c:=zN ah c
     obtain rfl:=gI c
     exact (xH (yL (yS (zA (meet ⟨ae,zL,H.pick [0,1,2,3,4,5,6,7,8,9,10] (by decide)⟩)))))
    have c:=zO ah c
    refine zX (zA (de _ _ ?_))
    refine zC fun gh di=>zB<| zK (.bool true)<| zG (zA (di _ _ ?_))
    obtain ⟨Q,c,dj⟩:=zF c
    refine yH [10,11,12,48,49,50,51,52,53,54,55,56,57,58,59,60,61,62,63,64,65,66,67,68,69,70,71,72,73,74,75,76,77,78] (fun (g:(List Nat))=>[(10,.bool Q.1)]) (fun g wl=>Hd O w wl S [.own (Rp.int .i64) C 3 E,.tr fM [m] g D,.tr fK [n] y d.rules,.blk s [l,i6 d.tracks,m,n,o] 146,f1 Rp.str l d.phases,f1 Rp.bool o d.possible,.own (Rp.int .i64) h 3 f.rules,.blk u [j,k,h] 222,f1 gQ j f.told,f1 Rp.bool k f.possible,.own Rp.bool z 4 Q.2]) ?_ ?_
    ·skip
     refine zC fun gi dk=>zB<| zJ (gW s)<| zH (yA rfl)<| zH (fa146_2 rfl)<| Ld one142 H 3 2 rfl rfl ?_
     obtain ⟨dl,dm,c⟩:=zD c
     obtain ⟨gj,gl,dn⟩:=row_len ((H.item (i:=1) rfl))
     refine zH (yO (xI u142 dn) (congrArg (Value.int .i64) dm))<| zJ (i6 0)<| zG (zA (dk _ _ ?_))
     refine yC ?_
     unfold Fca at c
     obtain ⟨dp,bc,dq,c⟩:=yR c
     refine xA [10,11,12,53,54,55,56,57,58,59,60,61,62,63,64,65,66,67,68,69,70,71,72,73,74,75,76,77,78] (fun (g:Nat×Int×(List Bool)×(List Nat))=>[(10,.bool true),(53,i6 g.2.1)]) (fun g wl=>Hd O w wl S [.own (Rp.int .i64) C 3 E,.tr fM [m] g.2.2.2 D,.tr fK [n] y d.rules,.blk s [l,i6 d.tracks,m,n,o] 146,f1 Rp.str l d.phases,f1 Rp.bool o d.possible,.own (Rp.int .i64) h 3 f.rules,.blk u [j,k,h] 222,f1 gQ j f.told,f1 Rp.bool k f.possible,.own Rp.bool z 4 g.2.2.1]∧fV dp g.1 (g.2.1,g.2.2.1)=some Q) (fun g=>g.1) (bc,0,cy,ae) (zI rfl (zI rfl zL)) ⟨H.pick [0,1,2,3,4,5,6,7,8,9,10] (by decide),c⟩ ?_
     clear H c
     rintro ⟨bc,G,J,dr⟩ ρ gm ⟨H,c⟩
     obtain ⟨ds,rfl,c⟩:=yV c
     have c:=yU dq c
     refine zC fun gn dt=>zB ?_
     obtain ⟨du,dv,c⟩:=zD c
     refine zH (zM (xK (a:=G) (b:=dl) rfl rfl) dv)<| zG (zA (dt _ _ ?_))
     refine zC fun go dw=>?_
     refine zW (b:=du) rfl (fun ai=>?_) (fun ai=>?_)
     ·have c:=zN ai c
      refine zX (zA (dw _ _ ?_))
      obtain ⟨dx,dy,c⟩:=xU c
      refine yH [10,11,12,55,56,57,58,59,60,61,62,63,64,65,66,67,68,69,70,71,72,73,74,75,76,77] (fun (g:(List Bool)×(List Nat))=>[(10,.bool true)]) (fun g wl=>Hd O w wl S [.own (Rp.int .i64) C 3 E,.tr fM [m] g.2 D,.tr fK [n] y d.rules,.blk s [l,i6 d.tracks,m,n,o] 146,f1 Rp.str l d.phases,f1 Rp.bool o d.possible,.own (Rp.int .i64) h 3 f.rules,.blk u [j,k,h] 222,f1 gQ j f.told,f1 Rp.bool k f.possible,.own Rp.bool z 4 g.1]∧dx g.1=some Q) ?_ ?_
      ·skip
       refine yC ?_
       refine zC fun gp dz=>zB<| zJ (i6 G) ?_
       obtain ⟨q,K,c⟩:=zF c
       obtain ⟨gq,gr,gs,aj⟩:=aX (H.item (i:=1) rfl) K
       refine zH (yT u142 sz172 aj rfl (zS K).1 (zS K).2.1 rfl rfl) ?_
       obtain ⟨gt,R,gu,H⟩:=H.focusV 1 rfl aj K rfl
       obtain ⟨A,ak,rfl,H⟩:=rtEventMove_open H 11 rfl
       have H:Hd _ _ _ _ [.own (Rp.int .i64) C 3 E,.tr fK [n] y d.rules,.blk s [l,i6 d.tracks,m,n,o] 146,f1 Rp.str l d.phases,f1 Rp.bool o d.possible,.own (Rp.int .i64) h 3 f.rules,.blk u [j,k,h] 222,f1 gQ j f.told,f1 Rp.bool k f.possible,.own Rp.bool z 4 J,.tr (Rt.row eF 172 [(G.toNat,[i6 q.from_,i6 q.to,A])]) [m] R D,.tr fC [A] ak q.when]:=H
       refine zH (yO (yN (cs:=[i6 q.from_,i6 q.to,A]) agg172 rfl sz172 rfl (H.holeW 10 rfl aj K rfl eU)) rfl)<| yY rfl rfl (xN zero172 H) ?_
       rintro _ gv ⟨L,rfl,H⟩
       refine zK (i6 G)<| xB rfl (xC (vs:=[i6 q.from_,i6 q.to,A]) H 12 rfl sz172 rfl rfl rfl ⟨rfl,rfl,(tr_one (H.item (i:=11) rfl)),trivial⟩ rfl) ?_
       rintro gw H
       refine zG (zA (dz _ _ ?_))
       refine zC fun gx d0=>?_
       obtain ⟨bd,c,d1⟩:=zF c
       refine yH [58,59,60,61,62,63,64,65,66,67,68] (fun (g:(List Nat))=>[(68,.bool bd)]) (fun g wl=>Hd O w wl S [.own (Rp.int .i64) C 3 E,.tr fK [n] y d.rules,.blk s [l,i6 d.tracks,m,n,o] 146,f1 Rp.str l d.phases,.tr fM [m] g D,f1 Rp.bool o d.possible,.own (Rp.int .i64) h 3 f.rules,.blk u [j,k,h] 222,f1 gQ j f.told,f1 Rp.bool k f.possible,.own Rp.bool z 4 J,.blk L [i6 q.from_,i6 q.to,A] 172]) ?_ ?_
       ·skip
        refine zB ?_
        refine zH (fa172_0 rfl)<| Ld fU H 12 0 rfl rfl<| zJ (i6 I) ?_
        obtain ⟨d2,d3,c⟩:=zD c
        refine zH (zM (wL (a:=q.from_) (b:=I) rfl rfl) d3)<| yM (b:=d2) rfl rfl rfl (fun al=>?_) (fun al=>?_)
        ·have c:=zN al c
         refine yE ?_
         refine yE ?_
         refine yE ?_
         refine yE ?_
         refine yE ?_
         refine zH (yI (v:= .bool true) rfl rfl) ?_
         have H:Hd _ _ _ _ [.own (Rp.int .i64) C 3 E,.tr fK [n] y d.rules,.blk s [l,i6 d.tracks,m,n,o] 146,f1 Rp.str l d.phases,f1 Rp.bool o d.possible,.own (Rp.int .i64) h 3 f.rules,.blk u [j,k,h] 222,f1 gQ j f.told,f1 Rp.bool k f.possible,.own Rp.bool z 4 J,.tr (Rt.row eF 172 [(G.toNat,[i6 q.from_,i6 q.to,A])]) [m] R D,.tr fC [A] ak q.when,.blk L [i6 q.from_,i6 q.to,A] 172]:=H
         obtain ⟨d4,H⟩:=rtEventMove_mk (x:=q) H 11 rfl
         have H:Hd _ _ _ _ [.own (Rp.int .i64) C 3 E,.tr fK [n] y d.rules,.blk s [l,i6 d.tracks,m,n,o] 146,f1 Rp.str l d.phases,f1 Rp.bool o d.possible,.own (Rp.int .i64) h 3 f.rules,.blk u [j,k,h] 222,f1 gQ j f.told,f1 Rp.bool k f.possible,.own Rp.bool z 4 J,.tr (Rt.row eF 172 [(G.toNat,[i6 q.from_,i6 q.to,A])]) [m] R D,.blk L [i6 q.from_,i6 q.to,A] 172,.tr eF [i6 q.from_,i6 q.to,A] d4 q]:=H
         obtain ⟨be,H⟩:=H.unfocus0 10 12 rfl rfl (by decide) rfl rfl K
         have H:Hd _ _ _ _ [.own (Rp.int .i64) C 3 E,.tr fK [n] y d.rules,.blk s [l,i6 d.tracks,m,n,o] 146,f1 Rp.str l d.phases,f1 Rp.bool o d.possible,.own (Rp.int .i64) h 3 f.rules,.blk u [j,k,h] 222,f1 gQ j f.told,f1 Rp.bool k f.possible,.own Rp.bool z 4 J,.blk L [i6 q.from_,i6 q.to,A] 172,.tr fM [m] be D]:=H
         obtain rfl:=gI c
         exact (zG (zA (meet ⟨be,(zI rfl zL),H.pick [0,1,2,3,11,4,5,6,7,8,9,10] (by decide)⟩)))
        have c:=zO al c
        refine zJ C<| zJ (i6 G) ?_
        obtain ⟨bf,am,c⟩:=zF c
        obtain ⟨gy,gz,d5,d6,d7,d8⟩:=bH (H.item (i:=0) rfl) am
        obtain rfl:d5= [i6 bf]:=d7
        refine zH (yT u38 sz3 d6 rfl (zS am).1 (zS am).2.1 rfl rfl)<| zH (yX fU rfl (Cells.get d8 (i:=0) rfl)) ?_
        obtain ⟨d9,ea,c⟩:=zD c
        refine zH (zM (yZ (a:=bf) (b:=1) rfl rfl) ea)<| zH (yF (v:= .bool d9) rfl rfl) ?_
        have H:Hd _ _ _ _ [.own (Rp.int .i64) C 3 E,.tr fK [n] y d.rules,.blk s [l,i6 d.tracks,m,n,o] 146,f1 Rp.str l d.phases,f1 Rp.bool o d.possible,.own (Rp.int .i64) h 3 f.rules,.blk u [j,k,h] 222,f1 gQ j f.told,f1 Rp.bool k f.possible,.own Rp.bool z 4 J,.tr (Rt.row eF 172 [(G.toNat,[i6 q.from_,i6 q.to,A])]) [m] R D,.tr fC [A] ak q.when,.blk L [i6 q.from_,i6 q.to,A] 172]:=H
        obtain ⟨eb,H⟩:=rtEventMove_mk (x:=q) H 11 rfl
        have H:Hd _ _ _ _ [.own (Rp.int .i64) C 3 E,.tr fK [n] y d.rules,.blk s [l,i6 d.tracks,m,n,o] 146,f1 Rp.str l d.phases,f1 Rp.bool o d.possible,.own (Rp.int .i64) h 3 f.rules,.blk u [j,k,h] 222,f1 gQ j f.told,f1 Rp.bool k f.possible,.own Rp.bool z 4 J,.tr (Rt.row eF 172 [(G.toNat,[i6 q.from_,i6 q.to,A])]) [m] R D,.blk L [i6 q.from_,i6 q.to,A] 172,.tr eF [i6 q.from_,i6 q.to,A] eb q]:=H
        obtain ⟨bg,H⟩:=H.unfocus0 10 12 rfl rfl (by decide) rfl rfl K
        have H:Hd _ _ _ _ [.own (Rp.int .i64) C 3 E,.tr fK [n] y d.rules,.blk s [l,i6 d.tracks,m,n,o] 146,f1 Rp.str l d.phases,f1 Rp.bool o d.possible,.own (Rp.int .i64) h 3 f.rules,.blk u [j,k,h] 222,f1 gQ j f.told,f1 Rp.bool k f.possible,.own Rp.bool z 4 J,.blk L [i6 q.from_,i6 q.to,A] 172,.tr fM [m] bg D]:=H
        obtain rfl:=gI c
        exact (zG (zA (meet ⟨bg,(zI rfl zL),H.pick [0,1,2,3,11,4,5,6,7,8,9,10] (by decide)⟩)))
       rintro an ρ g0 H
       have c:=d1
       refine zW (b:=bd) rfl (fun ao=>?_) (fun ao=>?_)
       ·have c:=zN ao c
        exact (xH (yL (yS (zA (meet ⟨(J,an),(zI rfl zL),⟨H.pick [0,4,1,2,3,5,6,7,8,9,10] (by decide),c⟩⟩)))))
       have c:=zO ao c
       refine zX (zA (d0 _ _ ?_))
       refine zC fun g1 ec=>zB<| zJ z<| zH (fa172_1 rfl)<| Ld fU H 11 1 rfl rfl ?_
       obtain ⟨ed,ap,c⟩:=zF c
       obtain ⟨g2,g3,ee,bh,ef,eg⟩:=bH (H.item (i:=10) rfl) ap
       obtain rfl:ee= [.bool ed]:=ef
       refine zH (yT u144 sz4 bh rfl (zS ap).1 (zS ap).2.1 rfl rfl) ?_
       obtain ⟨eh,ei,c⟩:=zF c
       refine xB rfl (aI (vs:=[.bool true]) (off:=0) H 10 rfl bh eg rfl sz4 rfl rfl rfl (bJ ⟨rfl,trivial⟩) ei (by decide) rfl rfl) ?_
       rintro g4 H
       refine zG (zA (ec _ _ ?_))
       refine zC fun g5 ej=>zB<| zJ C<| zJ (i6 G) ?_
       obtain ⟨bi,aq,c⟩:=zF c
       obtain ⟨g6,g7,ek,el,em,en⟩:=bH (H.item (i:=0) rfl) aq
       obtain rfl:ek= [i6 bi]:=em
       refine zH (yT u38 sz3 el rfl (zS aq).1 (zS aq).2.1 rfl rfl)<| zH (yX fU rfl (Cells.get en (i:=0) rfl)) ?_
       obtain ⟨eo,ep,c⟩:=zD c
       refine zH (zM (yZ (a:=bi) (b:=2) rfl rfl) ep)<| zG (zA (ej _ _ ?_))
       refine zW (b:=eo) rfl (fun ar=>?_) (fun ar=>?_)
       ·have c:=zN ar c
        refine zC fun g8 er=>zB<| zK (.bool false)<| zG (zA (er _ _ ?_))
        obtain rfl:=gI c
        exact (xH (blockQ_x rfl (yL (yL (yS (zA (meet ⟨an,(zI rfl zL),H.pick [0,4,1,2,3,5,6,7,8,9,10] (by decide)⟩)))))))
       have c:=zO ar c
       exact (zX (yK (zA (meet ⟨(eh,an),(zI rfl zL),⟨H.pick [0,4,1,2,3,5,6,7,8,9,10] (by decide),c⟩⟩))))
      rintro ⟨es,et⟩ ρ g9 ⟨H,c⟩
      have c:=wE dy c
      refine zB ?_
      obtain ⟨bj,eu,c⟩:=zD c
      refine zH (xJ (a:=G) (b:=1) rfl rfl eu)<| zJ (i6 bj) ?_
      exact (zG (zA (meet ⟨(ds,bj,es,et),(zI rfl (zI rfl zL)),⟨H.pick [0,1,2,3,4,5,6,7,8,9,10] (by decide),c⟩,Nat.lt_succ_self _⟩)))
     have c:=zO ai c
     obtain rfl:=gI c
     exact (xH (yL (yL (yS (zA (meet ⟨dr,(zI rfl zL),H.pick [0,1,2,3,4,5,6,7,8,9,10] (by decide)⟩))))))
    rintro bk ρ ha H
    have c:=dj
    obtain ⟨au,hb⟩:=Q
    refine zB ?_
    refine zJ z<| zJ (i6 I)<| zJ z<| zJ (i6 I) ?_
    obtain ⟨bl,av,c⟩:=zF c
    obtain ⟨hc,he,ew,ex,ey,ez⟩:=bH (H.item (i:=10) rfl) av
    obtain rfl:ew= [.bool bl]:=ey
    refine zH (yT u144 sz4 ex rfl (zS av).1 (zS av).2.1 rfl rfl)<| zH (yX one4 rfl (Cells.get ez (i:=0) rfl))<| yM (b:=bl) rfl rfl rfl (fun aw=>?_) (fun aw=>?_)
    ·have c:=zN aw c
     refine yE ?_
     refine zH (yI (v:= .bool true) rfl rfl) ?_
     obtain ⟨e0,ax,c⟩:=zF c
     obtain ⟨hf,hg,e1,bm,e2,e3⟩:=bH (H.item (i:=10) rfl) ax
     obtain rfl:e1= [.bool e0]:=e2
     refine zH (yT u144 sz4 bm rfl (zS ax).1 (zS ax).2.1 rfl rfl) ?_
     obtain ⟨hh,e4,c⟩:=zF c
     refine xB rfl (aI (vs:=[.bool true]) (off:=0) H 10 rfl bm e3 rfl sz4 rfl rfl rfl (bJ ⟨rfl,trivial⟩) e4 (by decide) rfl rfl) ?_
     rintro hi H
     obtain rfl:=gI c
     exact (zG (yK (zA (meet ⟨bk,zL,H.pick [0,1,2,3,4,5,6,7,8,9,10] (by decide)⟩))))
    have c:=zO aw c
    refine zJ (.bool au)<| zH (yF (v:= .bool au) rfl rfl) ?_
    obtain ⟨e5,ay,c⟩:=zF c
    obtain ⟨hj,hk,e6,bn,e7,e8⟩:=bH (H.item (i:=10) rfl) ay
    obtain rfl:e6= [.bool e5]:=e7
    refine zH (yT u144 sz4 bn rfl (zS ay).1 (zS ay).2.1 rfl rfl) ?_
    obtain ⟨hl,e9,c⟩:=zF c
    refine xB rfl (aI (vs:=[.bool au]) (off:=0) H 10 rfl bn e8 rfl sz4 rfl rfl rfl (bJ ⟨rfl,trivial⟩) e9 (by decide) rfl rfl) ?_
    rintro hn H
    obtain rfl:=gI c
    exact (zG (yK (zA (meet ⟨bk,zL,H.pick [0,1,2,3,4,5,6,7,8,9,10] (by decide)⟩))))
   rintro fa ρ ho H
   have c:=c4
   refine zB ?_
   obtain ⟨bo,fb,c⟩:=zD c
   refine zH (xJ (a:=I) (b:=1) rfl rfl fb)<| zJ (i6 bo) ?_
   exact (zG (zA (meet ⟨(cz,bo,bb,fa),(zI rfl zL),⟨H.pick [0,1,2,3,4,5,6,7,8,9,10] (by decide),c⟩,Nat.lt_succ_self _⟩)))
  have c:=zO af c
  obtain rfl:=gI c
  exact (xH (yL (yL (yS (zA (meet ⟨ae,zL,H.pick [1,2,3,4,5,6,7,8,9,10] (by decide)⟩))))))
 rintro fc ρ hp H
 have c:=cq
 refine zB ?_
 refine zJ (gW s)<| zJ z<| zH (yA rfl)<| zH (fa146_4 rfl)<| xB rfl (wI H 2 rfl sz144 rfl (v:=z) rfl (own_one (H.item (i:=9) rfl)) rfl) ?_
 rintro hq H
 have H:=H.freeze (i:=9) rfl
 obtain rfl:=gI c
 refine (zG (post0n rfl ?_))
 exact ⟨l,m,fc,n,y,z,rfl,H.pick [3,0,1,9,2,5,6] (by decide)⟩
theorem Fagw (z:gY)(s:List fO)(p:Nat)(L:Value)(R:Value)(Y:List Nat)(T:Value)(Z:List Nat)(M:Value)(h:Value)(r:(List Int)×gY)(j:Fag z s=some r)(O S:List Nat)(w:World)(H:Hd O w w S [.tr fM [R] Y z.moves,.tr fK [T] Z z.rules,.blk p [L,i6 z.tracks,R,T,M] 146,f1 Rp.str L z.phases,f1 Rp.bool M z.possible,f1 gQ h s]):
  Calls Tryz.prog 78 ([gW p,h]:List Value).toArray w fun e A=> ∃aa ab ac ap ad aq ae,e= .returned (aa)∧Hd O w A S [.own (Rp.int .i64) aa 3 r.1,f1 Rp.str ab r.2.phases,.tr fM [ac] ap r.2.moves,.tr fK [ad] aq r.2.rules,f1 Rp.bool ae r.2.possible,.blk p [ab,i6 r.2.tracks,ac,ad,ae] 146]:=by
 unfold Fag at j
 refine zZ 47 Tryz.func78 rfl rfl rfl ?_
 refine zC fun b3 ar=>zB<| zK (.slice none 0 0)<| zG (zA (ar _ _ ?_))
 refine zC fun b4 au=>zB<| zJ h ?_
 obtain ⟨av,aw,ax⟩: ∃a c,h= .slice a _ c:=SlF.len ((H.item (i:=5) rfl))
 refine zH (xO (cs:=[h,.slice none 0 0,.slice none 0 0]) (by rw [ax]; exact bt222_0 av _ aw))<| yY rfl rfl (xR (cs:=[h,.slice none 0 0,.slice none 0 0]) rfl H) ?_
 rintro _ b5 ⟨o,rfl,H⟩
 refine zK (gW o)<| zG (zA (au _ _ ?_))
 refine zC fun b6 ay=>zB<| zJ (gW p)<| zJ (gW o) ?_
 have H:=H.fz (.sl Rp.bool (.slice none 0 0) []) SlF.nil
 have H:=aU H (Rp.int .i64) 3
 obtain ⟨d,az,j⟩:=zF j
 refine yG rfl rfl (yB en141 rfl) (Fa4w (gY.mk z.phases z.tracks z.moves z.rules z.possible) (gG.mk s [] []) p L R Y T Z M o h (.slice none 0 0) (.slice none 0 0) _ az _ _ _ (H.enter [0,1,2,8,6] [3,4,5,7] (by decide) rfl)) ?_
 rintro _ a0 ⟨k,l,u,m,af,f,rfl,a1⟩
 have H:Hd _ _ a0 _ [f1 Rp.str L z.phases,f1 Rp.bool M z.possible,f1 gQ h s,.fz (.sl Rp.bool (.slice none 0 0) []),f1 Rp.str k d.phases,.tr fM [l] u d.moves,.tr fK [m] af d.rules,f1 Rp.bool f d.possible,.blk p [k,i6 d.tracks,l,m,f] 146,.own (Rp.int .i64) (.slice none 0 0) 3 [],.blk o [h,.slice none 0 0,.slice none 0 0] 222]:=H.back [0,1,2,8,6] [3,4,5,7] rfl a1
 refine ⟨_,rfl,?_⟩
 refine zG (zA (ay _ _ ?_))
 refine zC fun b7 a2=>zB<| zJ (gW o)<| zJ (gW p)<| zH (yA rfl)<| zH (fa146_4 rfl)<| Ld one144 H 8 4 rfl rfl<| zH (yA rfl)<| zH (fa222_1 rfl)<| xB rfl (wI H 10 rfl sz144 rfl (v:=f) rfl (dU (H.item (i:=7) rfl)) rfl) ?_
 rintro b8 H
 refine zG (zA (a2 _ _ ?_))
 obtain ⟨N,j,a3⟩:=zF j
 refine yH [7,21,22,23,24,25,26,27,28,29,30,31,32,33,34,35,36,37,38,39,40,41,42] (fun (g:(List Nat)×Value)=>[]) (fun g wl=>Hd O w wl S [f1 gQ h s,f1 Rp.str k d.phases,.tr fM [l] u d.moves,.tr fK [m] g.1 N.1,f1 Rp.bool f d.possible,.blk p [k,i6 d.tracks,l,m,f] 146,.own (Rp.int .i64) g.2 3 N.2,.blk o [h,f,g.2] 222]) ?_ ?_
 ·skip
  refine zC fun b9 a4=>zB<| zJ (gW p)<| zH (yA rfl)<| zH (fa146_3 rfl)<| Ld one143 H 8 3 rfl rfl ?_
  obtain ⟨a5,a6,j⟩:=zD j
  obtain ⟨ca,cb,a7⟩:=row_len ((H.item (i:=6) rfl))
  refine zH (yO (xI u143 a7) (congrArg (Value.int .i64) a6))<| zJ (i6 0)<| zG (zA (a4 _ _ ?_))
  refine yC ?_
  unfold Feg at j
  obtain ⟨a8,ag,a9,j⟩:=yR j
  refine xA [7,26,27,28,29,30,31,32,33,34,35,36,37,38,39,40,41,42] (fun (g:Nat×Int×(List Nd)×(List Int)×(List Nat)×Value)=>[(26,i6 g.2.1)]) (fun g wl=>Hd O w wl S [f1 gQ h s,f1 Rp.str k d.phases,.tr fM [l] u d.moves,.tr fK [m] g.2.2.2.2.1 g.2.2.1,f1 Rp.bool f d.possible,.blk p [k,i6 d.tracks,l,m,f] 146,.own (Rp.int .i64) g.2.2.2.2.2 3 g.2.2.2.1,.blk o [h,f,g.2.2.2.2.2] 222]∧fV a8 g.1 (g.2.1,g.2.2.1,g.2.2.2.1)=some N) (fun g=>g.1) (ag,0,d.rules,[],af,.slice none 0 0) (zI rfl zL) ⟨H.pick [2,4,5,6,7,8,9,10] (by decide),j⟩ ?_
  clear H j
  rintro ⟨ag,y,B,D,ba,q⟩ ρ P ⟨H,j⟩
  obtain ⟨bb,rfl,j⟩:=yV j
  have j:=yU a9 j
  refine zC fun cc bc=>zB ?_
  obtain ⟨bd,be,j⟩:=zD j
  refine zH (zM (xK (a:=y) (b:=a5) rfl rfl) be)<| zG (zA (bc _ _ ?_))
  refine zC fun cd bf=>?_
  refine zW (b:=bd) rfl (fun U=>?_) (fun U=>?_)
  ·have j:=zN U j
   refine zX (zA (bf _ _ ?_))
   refine zC fun ce bg=>?_
   refine yC ?_
   refine zC fun cf bh=>zB ?_
   obtain ⟨F,J,j⟩:=zF j
   obtain ⟨cg,ch,ci,V⟩:=aX (H.item (i:=3) rfl) J
   refine zH (yT u143 sz170 V rfl (zS J).1 (zS J).2.1 rfl rfl) ?_
   obtain ⟨cj,C,G,H⟩:=H.focusV 3 rfl V J rfl
   obtain ⟨n,rfl⟩:=tr_cell rfl (H.item (i:=8) rfl)
   have H:Hd _ _ _ _ [f1 gQ h s,f1 Rp.str k d.phases,.tr fM [l] u d.moves,f1 Rp.bool f d.possible,.blk p [k,i6 d.tracks,l,m,f] 146,.own (Rp.int .i64) q 3 D,.blk o [h,f,q] 222,.tr (Rt.row fC 170 [(y.toNat,[n])]) [m] C B,.tr fC [n] G F]:=H
   refine zH (yX kD rfl (Cells.get (H.holeW 7 rfl V J rfl eU) (i:=0) rfl))<| zK n<| zG (zA (bh _ _ ?_))
   have bi:=H
   have H:=H.rebase
   have bj:=H
   have ah:Hd (O++bks (rest [2,4,5,6,7,8] [f1 gQ h s,f1 Rp.str k d.phases,.tr fM [l] u d.moves,f1 Rp.bool f d.possible,.blk p [k,i6 d.tracks,l,m,f] 146,.own (Rp.int .i64) q 3 D,.blk o [h,f,q] 222,.tr (Rt.row fC 170 [(y.toNat,[n])]) [m] C B,.tr fC [n] G F])) P P (bks (Go.Lf.pick ([2,4,5,6,7,8]++ [0,1,3]) [f1 gQ h s,f1 Rp.str k d.phases,.tr fM [l] u d.moves,f1 Rp.bool f d.possible,.blk p [k,i6 d.tracks,l,m,f] 146,.own (Rp.int .i64) q 3 D,.blk o [h,f,q] 222,.tr (Rt.row fC 170 [(y.toNat,[n])]) [m] C B,.tr fC [n] G F])) [.tr fM [l] u d.moves,.blk p [k,i6 d.tracks,l,m,f] 146,.own (Rp.int .i64) q 3 D,.blk o [h,f,q] 222,.tr (Rt.row fC 170 [(y.toNat,[n])]) [m] C B,.tr fC [n] G F,f1 gQ h s,f1 Rp.str k d.phases,f1 Rp.bool f d.possible]:=H.enter [2,4,5,6,7,8] [0,1,3] (by decide) rfl
   refine WP_forkM H ah [0,1,2,3,5,6] 4 7 [8,9,10,11,12] [] [.pure,.pure,.pure,.pure,.read,.pure,.pure,.eff,.new,.eff,.pure,.pure,.eff] ⟨trivial,trivial,trivial,trivial,trivial,trivial,trivial,trivial,trivial,trivial,trivial,trivial,trivial,trivial⟩ mixed (by kernel_rfl) (by kernel_rfl) (by kernel_rfl) (by kernel_rfl) (by kernel_rfl) (by decide) ?_
   have H:=ah
   refine XM (gW o)<| XM (gW o)<| XP (fun _ _=>yA rfl)<| XP (fun _ _=>fa222_2 rfl)<| XM n<| XM (gW o)<| MxM.xE fun ck hS=>?_
   have H:=H.sees hS
   obtain ⟨x,ai,j⟩:=zF j
   refine MxM.XL_join (du:=34) (dv:=37) (fun g1 g2 wl=> ∃(I:List Nat),q=g1∧i6 x.1=g2∧Hd (O++bks (rest [2,4,5,6,7,8] [f1 gQ h s,f1 Rp.str k d.phases,.tr fM [l] u d.moves,f1 Rp.bool f d.possible,.blk p [k,i6 d.tracks,l,m,f] 146,.own (Rp.int .i64) q 3 D,.blk o [h,f,q] 222,.tr (Rt.row fC 170 [(y.toNat,[n])]) [m] C B,.tr fC [n] G F])) P wl (bks (Go.Lf.pick ([2,4,5,6,7,8]++ [0,1,3]) [f1 gQ h s,f1 Rp.str k d.phases,.tr fM [l] u d.moves,f1 Rp.bool f d.possible,.blk p [k,i6 d.tracks,l,m,f] 146,.own (Rp.int .i64) q 3 D,.blk o [h,f,q] 222,.tr (Rt.row fC 170 [(y.toNat,[n])]) [m] C B,.tr fC [n] G F])) [.tr fM [l] u d.moves,.blk p [k,i6 d.tracks,l,m,f] 146,.tr (Rt.row fC 170 [(y.toNat,[n])]) [m] C B,f1 gQ h s,f1 Rp.str k d.phases,f1 Rp.bool f d.possible,.tr fC [n] I x.2,.own (Rp.int .i64) q 3 D,.blk o [h,f,q] 222]) ?_ ?_ ?_
   ·skip
    refine XR kL H 3 2 rfl rfl ?_
    obtain ⟨bm,bn,aj⟩:=Fak (H.item (i:=5) rfl)
    refine MxM.XL_effC oS rfl rfl rfl (fun A t=>DoC_inv aj rfl rfl) (fun A t=>Fdp F (gG.mk s d.possible D) n G o h f q bm bn aj _ ai _ _ _ ((H.sees t).enter [5,2,3] [6,8] (by decide) rfl)) ?_
    rintro A _ bo t ⟨I,rfl,bp⟩
    have H:Hd _ _ bo _ [.tr fM [l] u d.moves,.blk p [k,i6 d.tracks,l,m,f] 146,.tr (Rt.row fC 170 [(y.toNat,[n])]) [m] C B,f1 gQ h s,f1 Rp.str k d.phases,f1 Rp.bool f d.possible,.tr fC [n] I x.2,.own (Rp.int .i64) q 3 D,.blk o [h,f,q] 222]:=(H.sees t).back [5,2,3] [6,8] rfl bp
    refine ⟨_,rfl,H.only,?_⟩
    refine MxM.xE fun cl hS=>?_
    have H:=H.sees hS
    exact ⟨_,_,rfl,H.only,I,rfl,rfl,H⟩
   ·skip
    obtain ⟨bq,br,ak⟩:=Fak (H.item (i:=5) rfl)
    refine MxM.XL_effC oS rfl rfl rfl (fun A t=>DoC_inv ak rfl rfl) (fun A t=>Fdp F (gG.mk s d.possible D) n G o h f q bq br ak _ ai _ _ _ ((H.sees t).enter [5,2,3] [6,8] (by decide) rfl)) ?_
    rintro A _ bt t ⟨al,rfl,bu⟩
    have H:Hd _ _ bt _ [.tr fM [l] u d.moves,.blk p [k,i6 d.tracks,l,m,f] 146,.tr (Rt.row fC 170 [(y.toNat,[n])]) [m] C B,f1 gQ h s,f1 Rp.str k d.phases,f1 Rp.bool f d.possible,.tr fC [n] al x.2,.own (Rp.int .i64) q 3 D,.blk o [h,f,q] 222]:=(H.sees t).back [5,2,3] [6,8] rfl bu
    refine ⟨_,rfl,H.only,?_⟩
    refine XR kL H 8 2 rfl rfl<| MxM.xE fun cm hS=>?_
    have H:=H.sees hS
    exact ⟨_,_,MxM.upd_comm _ (by decide) _ _,H.only,al,rfl,rfl,H⟩
   rintro M' _ _ cn ⟨I,rfl,rfl,H⟩
   obtain ⟨co,bv,j⟩:=zD j
   subst bv
   refine MxM.XL_exN oS rfl rfl rfl (fun A t=>Ls_of (Lx_bs (r:=(Rp.int .i64)) (xl:=[x.1]) (cs:=[i6 x.1]) u38 el3 (by decide) (by decide) rfl (wG (vs:=[i6 x.1]) (by decide) rfl rfl ⟨rfl,trivial⟩ rfl) (H.sees t) ⟨[i6 x.1],[],rfl,rfl,rfl⟩) (Ys_bs (cs:=[i6 x.1]) u38 el3 (by decide) (by decide) (wG (vs:=[i6 x.1]) (by decide) rfl rfl ⟨rfl,trivial⟩ rfl))) ?_
   rintro A Q cp t H
   obtain ⟨K,bw,j⟩:=zF j
   refine MxM.XL_ex oS rfl rfl rfl (fun A t=>Lx_app (H.sees t) (i:=7) rfl u38 el3 rfl rfl (Sr.of_own ((H.sees t).item (i:=9) rfl)) bw) ?_
   rintro A E cq t H
   refine ⟨H.only,?_⟩
   refine XP (fun _ _=>yA rfl)<| XP (fun _ _=>fa222_2 rfl)<| MxM.XL_exU oS rfl rfl (fun A t=>wI (H.sees t) 8 rfl sz38 rfl (v:=E) rfl (own_one ((H.sees t).item (i:=7) rfl)) rfl) ?_
   rintro A cr t H
   refine ⟨H.only,?_⟩
   refine MxM.xE fun bx hS=>?_
   have H:=H.sees hS
   have H:=bj.back [2,4,5,6,7,8] [0,1,3] rfl H
   have H:Hd _ _ _ _ [f1 gQ h s,f1 Rp.str k d.phases,f1 Rp.bool f d.possible,.tr fM [l] u d.moves,.blk p [k,i6 d.tracks,l,m,f] 146,.tr (Rt.row fC 170 [(y.toNat,[n])]) [m] C B,f1 gQ h s,f1 Rp.str k d.phases,f1 Rp.bool f d.possible,.tr fC [n] I x.2,.own (Rp.int .i64) E 3 K,.blk o [h,f,E] 222,.own (Rp.int .i64) Q 3 ([x.1]:List Int)]:=H
   have H:Hd O P bx (bks [f1 gQ h s,f1 Rp.str k d.phases,.tr fM [l] u d.moves,f1 Rp.bool f d.possible,.blk p [k,i6 d.tracks,l,m,f] 146,.own (Rp.int .i64) q 3 D,.blk o [h,f,q] 222,.tr (Rt.row fC 170 [(y.toNat,[n])]) [m] C B,.tr fC [n] G F]) [.tr fM [l] u d.moves,.blk p [k,i6 d.tracks,l,m,f] 146,.tr (Rt.row fC 170 [(y.toNat,[n])]) [m] C B,f1 gQ h s,f1 Rp.str k d.phases,f1 Rp.bool f d.possible,.tr fC [n] I x.2,.own (Rp.int .i64) E 3 K,.blk o [h,f,E] 222,.own (Rp.int .i64) Q 3 ([x.1]:List Int)]:=H.pick [3,4,5,6,7,8,9,10,11,12] (by decide)
   refine ⟨H.only,?_⟩
   refine MxM.xE fun ct hS=>?_
   have H:=H.sees hS
   have H:=bi.rejoin H
   refine yK (zA (bg _ _ ?_))
   refine zB ?_
   obtain ⟨am,bz,j⟩:=zD j
   refine zH (xJ (a:=y) (b:=1) rfl rfl bz)<| zJ (i6 am) ?_
   have H:Hd _ _ _ _ [.tr fM [l] u d.moves,.blk p [k,i6 d.tracks,l,m,f] 146,.tr (Rt.row fC 170 [(y.toNat,[n])]) [m] C B,f1 gQ h s,f1 Rp.str k d.phases,f1 Rp.bool f d.possible,.tr fC [n] I x.2,.own (Rp.int .i64) E 3 K,.blk o [h,f,E] 222,.own (Rp.int .i64) Q 3 ([x.1]:List Int)]:=H
   obtain ⟨an,b0,j⟩:=zF j
   obtain ⟨ao,H⟩:=H.unfocus 2 6 rfl rfl (by decide) rfl rfl b0
   have H:Hd _ _ _ _ [.tr fM [l] u d.moves,.blk p [k,i6 d.tracks,l,m,f] 146,f1 gQ h s,f1 Rp.str k d.phases,f1 Rp.bool f d.possible,.own (Rp.int .i64) E 3 K,.blk o [h,f,E] 222,.own (Rp.int .i64) Q 3 ([x.1]:List Int),.tr fK [m] ao an]:=H
   exact (zG (zA (meet ⟨(bb,am,an,K,ao,E),(zI rfl zL),⟨H.pick [2,3,0,8,4,1,5,6] (by decide),j⟩,Nat.lt_succ_self _⟩)))
  have j:=zO U j
  obtain rfl:=gI j
  exact (xH (yL (yL (yS (zA (meet ⟨(ba,q),zL,H.pick [0,1,2,3,4,5,6,7] (by decide)⟩))))))
 rintro ⟨b1,X⟩ ρ cu H
 have j:=a3
 obtain ⟨cv,cw⟩:=N
 refine zC fun cx b2=>zB<| zJ (gW o)<| zH (yA rfl)<| zH (fa222_2 rfl)<| Ld kL H 7 2 rfl rfl<| zK X<| zG (zA (b2 _ _ ?_))
 obtain rfl:=gI j
 refine (zY (gX (v1:=X) rfl rfl ?_))
 exact ⟨X,k,l,u,m,b1,f,rfl,H.pick [6,1,2,3,4,5] (by decide)⟩
theorem Fahw (d:gY)(l:Nat)(j:Value)(f:Value)(n:List Nat)(h:Value)(o:List Nat)(k:Value)(r:(List Str))(c:Fah d=some r)(O S:List Nat)(w:World)(H:Hd O w w S [.tr fM [f] n d.moves,.tr fK [h] o d.rules,.blk l [j,i6 d.tracks,f,h,k] 146,f1 Rp.str j d.phases,f1 Rp.bool k d.possible]):
  Calls Tryz.prog 27 ([gW l]:List Value).toArray w fun e F=> ∃z G I,e= .returned (z)∧Hd O w F S [.own Rp.str z 9 r,.tr fM [f] G d.moves,.tr fK [h] I d.rules,.blk l [j,i6 d.tracks,f,h,k] 146]:=by
 unfold Fah at c
 refine zZ 29 Tryz.func27 rfl rfl rfl ?_
 refine zC fun a0 J=>zB<| zK (.slice none 0 0)<| zG (zA (J _ _ ?_))
 refine zC fun a1 K=>zB<| zK (.slice none 0 0)<| zG (zA (K _ _ ?_))
 obtain ⟨A,c,L⟩:=zF c
 refine yH [3,4,5,6,7,8,9,10,11,12,13,14,15,16,17,18,19,20,21,22,23,24,25,26,27] (fun (g:Value)=>[(3,g)]) (fun g wl=>Hd O w wl S [.own Rp.str g 9 A,.tr fM [f] n d.moves,.tr fK [h] o d.rules,.blk l [j,i6 d.tracks,f,h,k] 146,f1 Rp.str j d.phases,f1 Rp.bool k d.possible]) ?_ ?_
 ·skip
  refine zC fun a2 M=>zB<| zJ (gW l)<| zH (yA rfl)<| zH (fa146_4 rfl)<| Ld one144 H 2 4 rfl rfl ?_
  obtain ⟨N,P,c⟩:=zD c
  obtain ⟨a3,a4,Q⟩:=SlF.len ((H.item (i:=4) rfl))
  refine zH (yO (xI u144 Q) (congrArg (Value.int .i64) P))<| zJ (i6 0)<| zG (zA (M _ _ ?_))
  refine yC ?_
  have H:=aU H Rp.str 9
  unfold Fee at c
  obtain ⟨R,B,T,c⟩:=yR c
  refine xA [3,4,5,11,12,13,14,15,16,17,18,19,20,21,22,23,24,25,26,27] (fun (g:Nat×(List Str)×Int×Value)=>[(3,g.2.2.2),(11,i6 g.2.2.1)]) (fun g wl=>Hd O w wl S [.own Rp.str g.2.2.2 9 g.2.1,.tr fM [f] n d.moves,.tr fK [h] o d.rules,.blk l [j,i6 d.tracks,f,h,k] 146,f1 Rp.str j d.phases,f1 Rp.bool k d.possible]∧fV R g.1 (g.2.1,g.2.2.1)=some A) (fun g=>g.1) (B,[],0,.slice none 0 0) (zI rfl (zI rfl zL)) ⟨H.pick [5,0,1,2,3,4] (by decide),c⟩ ?_
  clear H c
  rintro ⟨B,a5,m,t⟩ ρ a6 ⟨H,c⟩
  obtain ⟨U,rfl,c⟩:=yV c
  have c:=yU T c
  refine zC fun a7 V=>zB ?_
  obtain ⟨X,Y,c⟩:=zD c
  refine zH (zM (xK (a:=m) (b:=N) rfl rfl) Y)<| zG (zA (V _ _ ?_))
  refine zC fun a8 Z=>?_
  refine zW (b:=X) rfl (fun u=>?_) (fun u=>?_)
  ·have c:=zN u c
   refine zX (zA (Z _ _ ?_))
   obtain ⟨C,c,aa⟩:=zF c
   refine yH [3,4,5,13,14,15,16,17,18,19,20,21,22,23,24,25,26] (fun (g:Value)=>[(3,g)]) (fun g wl=>Hd O w wl S [.own Rp.str g 9 C,.tr fM [f] n d.moves,.tr fK [h] o d.rules,.blk l [j,i6 d.tracks,f,h,k] 146,f1 Rp.str j d.phases,f1 Rp.bool k d.possible]) ?_ ?_
   ·skip
    refine yC ?_
    refine zC fun a9 ab=>zB<| zJ (i6 m) ?_
    obtain ⟨q,v,c⟩:=zF c
    obtain ⟨ac,ad,ba,ae,af,ag,ah,ai,aj⟩:=wH (H.item (i:=5) rfl) v
    obtain rfl:ae= [.bool q]:=ag
    have H:=H.fz (.at ac (ad+m.toNat * 1) _) ⟨ah,ai,aj⟩
    refine zH (yT u144 sz4 af rfl (zS v).1 (zS v).2.1 rfl rfl)<| zH (yX one4 rfl (Cells.get (H.item (i:=6) rfl).2.2 (i:=0) rfl))<| zK (i6 m)<| zK (.bool q)<| zG (zA (ab _ _ ?_))
    refine zC fun bb ak=>zB<| zJ (.bool q)<| zG (zA (ak _ _ ?_))
    refine zW (b:=q) rfl (fun x=>?_) (fun x=>?_)
    ·have c:=zN x c
     refine zB ?_
     refine zJ t<| zJ (gW l)<| zH (yA rfl)<| zH (fa146_0 rfl)<| Ld aN H 3 0 rfl rfl<| zJ (i6 m) ?_
     obtain ⟨p,y,c⟩:=zF c
     obtain ⟨al,am,bc,an,ao,ap,aq,ar,au⟩:=wH (H.item (i:=4) rfl) y
     obtain rfl:an= [sb p]:=ap
     have H:=H.fz (.at al (am+m.toNat * 1) _) ⟨aq,ar,au⟩
     refine zH (yT u22 sz9 ao rfl (zS y).1 (zS y).2.1 rfl rfl)<| zH (yX bW rfl (Cells.get (H.item (i:=7) rfl).2.2 (i:=0) rfl)) ?_
     obtain ⟨bd,av,c⟩:=zD c
     subst av
     refine yY rfl rfl (Lx_bs (r:=Rp.str) (xl:=[p]) (cs:=[sb p]) u22 el9 (by decide) (by decide) rfl (wG (vs:=[sb p]) (by decide) rfl rfl ⟨rfl,trivial⟩ rfl) H ⟨[sb p],[],rfl,rfl,rfl⟩) ?_
     rintro be bf H
     obtain ⟨bg,aw,c⟩:=zF c
     refine yY rfl rfl (Lx_app H (i:=0) rfl u22 el9 rfl rfl (Sr.of_own (H.item (i:=8) rfl)) aw) ?_
     rintro D bh H
     refine zK D ?_
     obtain rfl:=gI c
     exact (zG (yK (zA (meet ⟨D,(zI rfl zL),H.pick [0,1,2,3,4,5] (by decide)⟩))))
    have c:=zO x c
    obtain rfl:=gI c
    exact (zX (yK (zA (meet ⟨t,(zI rfl zL),H.pick [0,1,2,3,4,5] (by decide)⟩))))
   rintro ax ρ bi H
   have c:=aa
   refine zB ?_
   obtain ⟨E,ay,c⟩:=zD c
   refine zH (xJ (a:=m) (b:=1) rfl rfl ay)<| zJ (i6 E) ?_
   exact (zG (zA (meet ⟨(U,C,E,ax),(zI rfl (zI rfl zL)),⟨H.pick [0,1,2,3,4,5] (by decide),c⟩,Nat.lt_succ_self _⟩)))
  have c:=zO u c
  obtain rfl:=gI c
  exact (xH (yL (yL (yS (zA (meet ⟨t,(zI rfl zL),H.pick [0,1,2,3,4,5] (by decide)⟩))))))
 rintro s ρ bj H
 have c:=L
 refine zC fun bk az=>zB<| zJ s<| zK s<| zG (zA (az _ _ ?_))
 obtain rfl:=gI c
 refine (zY (gX (v1:=s) rfl rfl ?_))
 exact ⟨s,n,o,rfl,H.pick [0,1,2,3] (by decide)⟩
theorem Fbjw (l:List Int)(J:List Str)(C:List (List Int))(k:Value)(K:Value)(p:Nat)(h:Value)(L:List Nat)(r:(List (List Int)))(c:Fbj l J C=some r)(O S:List Nat)(w:World)(H:Hd O w w S [.tr (Rt.row (Rt.row (Rt.of (Rp.int .i64)) 3 []) 38 []) [h] L C,.blk p [h] 28,f1 (Rp.int .i64) k l,f1 Rp.str K J]):
  Calls Tryz.prog 54 ([k,K,gW p]:List Value).toArray w fun e o=> ∃M Z,e= .returned (.tuple #[])∧Hd O w o S [.tr (Rt.row (Rt.row (Rt.of (Rp.int .i64)) 3 []) 38 []) [M] Z r,.blk p [M] 28]:=by
 unfold Fbj at c
 refine zZ 25 Tryz.func54 rfl rfl rfl ?_
 refine zC fun a5 aa=>zB<| zJ k ?_
 obtain ⟨ab,ac,c⟩:=zD c
 obtain ⟨a6,a7,ad⟩:=SlF.len ((H.item (i:=2) rfl))
 refine zH (yO (xI u38 ad) (congrArg (Value.int .i64) ac))<| zJ (i6 0)<| zG (zA (aa _ _ ?_))
 refine yC ?_
 unfold Fd6 at c
 obtain ⟨ae,N,af,c⟩:=yR c
 refine xA [5,6,9,10,11,12,13,14,15,16,17,18,19,20,21,22,23,24] (fun (g:Nat×Int×(List (List Int))×(List Nat))=>[(9,i6 g.2.1)]) (fun g wl=>Hd O w wl S [.tr (Rt.row (Rt.row (Rt.of (Rp.int .i64)) 3 []) 38 []) [h] g.2.2.2 g.2.2.1,.blk p [h] 28,f1 (Rp.int .i64) k l]∧fV ae g.1 (g.2.1,g.2.2.1)=some r) (fun g=>g.1) (N,0,C,L) (zI rfl zL) ⟨H.pick [0,1,2] (by decide),c⟩ ?_
 clear H c
 rintro ⟨N,d,q,u⟩ ρ B ⟨H,c⟩
 obtain ⟨ag,rfl,c⟩:=yV c
 have c:=yU af c
 refine zC fun a8 ah=>zB ?_
 obtain ⟨ai,aj,c⟩:=zD c
 refine zH (zM (xK (a:=d) (b:=ab) rfl rfl) aj)<| zG (zA (ah _ _ ?_))
 refine zC fun a9 ak=>?_
 refine zW (b:=ai) rfl (fun D=>?_) (fun D=>?_)
 ·have c:=zN D c
  refine zX (zA (ak _ _ ?_))
  refine zC fun ba al=>?_
  refine yC ?_
  refine zC fun bb am=>zB<| zJ (i6 d) ?_
  obtain ⟨f,E,c⟩:=zF c
  obtain ⟨m,n,bc,an,ao,ap,aq,ar,au⟩:=wH (H.item (i:=2) rfl) E
  obtain rfl:an= [i6 f]:=ap
  have H:=H.fz (.at m (n+d.toNat * 1) _) ⟨aq,ar,au⟩
  refine zH (yT u38 sz3 ao rfl (zS E).1 (zS E).2.1 rfl rfl)<| zH (yX fU rfl (Cells.get (H.item (i:=3) rfl).2.2 (i:=0) rfl))<| zK (i6 d)<| zK (i6 f)<| zG (zA (am _ _ ?_))
  have av:=H
  have H:=H.rebase
  have aw:=H
  have F:Hd (O++bks (rest [0] [.tr (Rt.row (Rt.row (Rt.of (Rp.int .i64)) 3 []) 38 []) [h] u q,.blk p [h] 28,f1 (Rp.int .i64) k l,.fz (.at m (n+d.toNat * 1) [i6 f])])) B B (bks (Go.Lf.pick ([0]++ [2,3]) [.tr (Rt.row (Rt.row (Rt.of (Rp.int .i64)) 3 []) 38 []) [h] u q,.blk p [h] 28,f1 (Rp.int .i64) k l,.fz (.at m (n+d.toNat * 1) [i6 f])])) [.tr (Rt.row (Rt.row (Rt.of (Rp.int .i64)) 3 []) 38 []) [h] u q,f1 (Rp.int .i64) k l,.fz (.at m (n+d.toNat * 1) [i6 f])]:=H.enter [0] [2,3] (by decide) rfl
  have P:=H.firmB F (i:=1) rfl (List.mem_append_right _ List.mem_cons_self)
  refine WP_forkM H F [0,2,3,4,5,6,7] 1 8 [9] [10] [.pure,.pure,.pure,.pure,.pure,.read,.pure,.new,.eff,.pure,.eff] ⟨trivial,trivial,trivial,trivial,trivial,trivial,trivial,trivial,trivial,trivial,trivial,trivial⟩ mixed (by kernel_rfl) (by kernel_rfl) (by kernel_rfl) (by kernel_rfl) (by kernel_rfl) (by decide) ?_
  have H:=F
  refine XP (fun o j=>yX one28 rfl (Cells.get (Blk.cells (P o j)) (i:=0) rfl))<| XP (fun o j=>yX one28 rfl (Cells.get (Blk.cells (P o j)) (i:=0) rfl))<| XM (i6 d) ?_
  obtain ⟨ax,z,c⟩:=zF c
  obtain ⟨bd,be,bf,G⟩:=aX (H.item (i:=0) rfl) z
  refine XP (fun _ _=>yT u28 sz38 G rfl (zS z).1 (zS z).2.1 rfl rfl) ?_
  obtain ⟨bg,v,ay,H⟩:=H.focusV 0 rfl G z rfl
  obtain ⟨x,rfl⟩:=tr_cell rfl (H.item (i:=3) rfl)
  have H:Hd _ _ _ _ [f1 (Rp.int .i64) k l,.fz (.at m (n+d.toNat * 1) [i6 f]),.tr (Rt.row (Rt.row (Rt.of (Rp.int .i64)) 3 []) 38 [(d.toNat,[x])]) [h] v q,.tr (Rt.row (Rt.of (Rp.int .i64)) 3 []) [x] ay ax]:=H
  refine MxM.xP oS rfl rfl rfl (fun o j=>yX kL rfl (Cells.get ((H.sees j).holeW 2 rfl G z rfl eU) (i:=0) rfl)) ?_
  refine XM (i6 f) ?_
  obtain ⟨bh,az,c⟩:=zD c
  subst az
  refine MxM.XL_exN oS rfl rfl rfl (fun o j=>Ls_of (Lx_bs (r:=(Rp.int .i64)) (xl:=[f]) (cs:=[i6 f]) u38 el3 (by decide) (by decide) rfl (wG (vs:=[i6 f]) (by decide) rfl rfl ⟨rfl,trivial⟩ rfl) (H.sees j) ⟨[i6 f],[],rfl,rfl,rfl⟩) (Ys_bs (cs:=[i6 f]) u38 el3 (by decide) (by decide) (wG (vs:=[i6 f]) (by decide) rfl rfl ⟨rfl,trivial⟩ rfl))) ?_
  rintro o y bi j H
  refine MxM.xE fun bj hS=>?_
  have H:=H.sees hS
  obtain ⟨A,Q,c⟩:=zF c
  refine MxM.XL_join (du:=15) (dv:=22) (fun g1 g2 wl=> ∃(s:Value) (t:List Nat),i6 d=g1∧s=g2∧Hd (O++bks (rest [0] [.tr (Rt.row (Rt.row (Rt.of (Rp.int .i64)) 3 []) 38 []) [h] u q,.blk p [h] 28,f1 (Rp.int .i64) k l,.fz (.at m (n+d.toNat * 1) [i6 f])])) B wl (bks (Go.Lf.pick ([0]++ [2,3]) [.tr (Rt.row (Rt.row (Rt.of (Rp.int .i64)) 3 []) 38 []) [h] u q,.blk p [h] 28,f1 (Rp.int .i64) k l,.fz (.at m (n+d.toNat * 1) [i6 f])])) [f1 (Rp.int .i64) k l,.fz (.at m (n+d.toNat * 1) [i6 f]),.tr (Rt.row (Rt.row (Rt.of (Rp.int .i64)) 3 []) 38 [(d.toNat,[x])]) [h] v q,.own (Rp.int .i64) y 3 ([f]:List Int),.tr (Rt.row (Rt.of (Rp.int .i64)) 3 []) [s] t A]) ?_ ?_ ?_
  ·skip
   refine XM (i6 d)<| MxM.XL_ex oS rfl rfl rfl (fun o j=>Lx_appF (H.sees j) 3 rfl u38 el3 rfl rfl (Sr.of_own ((H.sees j).item (i:=4) rfl)) Q) ?_
   rintro o s bk j ⟨t,H⟩
   refine ⟨H.only,?_⟩
   have H:Hd _ _ _ _ [f1 (Rp.int .i64) k l,.fz (.at m (n+d.toNat * 1) [i6 f]),.tr (Rt.row (Rt.row (Rt.of (Rp.int .i64)) 3 []) 38 [(d.toNat,[x])]) [h] v q,.own (Rp.int .i64) y 3 ([f]:List Int),.tr (Rt.row (Rt.of (Rp.int .i64)) 3 []) [s] t A]:=H
   refine MxM.xE fun bl hS=>?_
   have H:=H.sees hS
   exact ⟨_,_,rfl,H.only,s,t,rfl,rfl,H⟩
  ·skip
   refine MxM.XL_ex oS rfl rfl rfl (fun o j=>Lx_appF (H.sees j) 3 rfl u38 el3 rfl rfl (Sr.of_own ((H.sees j).item (i:=4) rfl)) Q) ?_
   rintro o R bm j ⟨T,H⟩
   refine ⟨H.only,?_⟩
   have H:Hd _ _ _ _ [f1 (Rp.int .i64) k l,.fz (.at m (n+d.toNat * 1) [i6 f]),.tr (Rt.row (Rt.row (Rt.of (Rp.int .i64)) 3 []) 38 [(d.toNat,[x])]) [h] v q,.own (Rp.int .i64) y 3 ([f]:List Int),.tr (Rt.row (Rt.of (Rp.int .i64)) 3 []) [R] T A]:=H
   refine XM (i6 d)<| MxM.xE fun bn hS=>?_
   have H:=H.sees hS
   exact ⟨_,_,MxM.upd_comm _ (by decide) _ _,H.only,R,T,rfl,rfl,H⟩
  rintro M' _ _ bo ⟨s,t,rfl,rfl,H⟩
  obtain ⟨bp,I,c⟩:=zF c
  obtain ⟨bq,br,bt,U⟩:=aX (H.item (i:=2) rfl) I
  refine XP (fun _ _=>yT u28 sz38 U rfl (zS I).1 (zS I).2.1 rfl rfl)<| MxM.xE fun a2 hS=>?_
  have H:=H.sees hS
  have H:=aw.back [0] [2,3] rfl H
  have H:Hd _ _ _ _ [.blk p [h] 28,f1 (Rp.int .i64) k l,.fz (.at m (n+d.toNat * 1) [i6 f]),f1 (Rp.int .i64) k l,.fz (.at m (n+d.toNat * 1) [i6 f]),.tr (Rt.row (Rt.row (Rt.of (Rp.int .i64)) 3 []) 38 [(d.toNat,[x])]) [h] v q,.own (Rp.int .i64) y 3 ([f]:List Int),.tr (Rt.row (Rt.of (Rp.int .i64)) 3 []) [s] t A]:=H
  have H:Hd O B a2 (bks [.tr (Rt.row (Rt.row (Rt.of (Rp.int .i64)) 3 []) 38 []) [h] u q,.blk p [h] 28,f1 (Rp.int .i64) k l,.fz (.at m (n+d.toNat * 1) [i6 f])]) [.blk p [h] 28,f1 (Rp.int .i64) k l,.fz (.at m (n+d.toNat * 1) [i6 f]),.tr (Rt.row (Rt.row (Rt.of (Rp.int .i64)) 3 []) 38 [(d.toNat,[x])]) [h] v q,.own (Rp.int .i64) y 3 ([f]:List Int),.tr (Rt.row (Rt.of (Rp.int .i64)) 3 []) [s] t A]:=H.pick [0,3,4,5,6,7] (by decide)
  refine ⟨H.only,?_⟩
  refine MxM.XL_exU oS rfl rfl (fun o j=>Lx_hole_storeW (vs:=[s]) (off:=0) (H.sees j) 3 rfl U z rfl rfl sz38 rfl rfl (one_cells (tr_one ((H.sees j).item (i:=5) rfl))) (bJ ⟨(tr_one ((H.sees j).item (i:=5) rfl)),trivial⟩) (by show _≤1; decide)) ?_
  rintro o bu j H
  refine ⟨H.only,?_⟩
  refine MxM.xE fun bv hS=>?_
  have H:=H.sees hS
  have H:=av.rejoin H
  refine yK (zA (al _ _ ?_))
  refine zB ?_
  obtain ⟨V,a3,c⟩:=zD c
  refine zH (xJ (a:=d) (b:=1) rfl rfl a3)<| zJ (i6 V) ?_
  have H:Hd _ _ _ _ [.blk p [h] 28,f1 (Rp.int .i64) k l,.fz (.at m (n+d.toNat * 1) [i6 f]),.tr (Rt.row (Rt.row (Rt.of (Rp.int .i64)) 3 []) 38 [(d.toNat,[s])]) [h] v q,.own (Rp.int .i64) y 3 ([f]:List Int),.tr (Rt.row (Rt.of (Rp.int .i64)) 3 []) [s] t A]:=H
  obtain ⟨X,a4,c⟩:=zF c
  obtain ⟨Y,H⟩:=H.unfocus 3 5 rfl rfl (by decide) rfl rfl a4
  have H:Hd _ _ _ _ [.blk p [h] 28,f1 (Rp.int .i64) k l,.fz (.at m (n+d.toNat * 1) [i6 f]),.own (Rp.int .i64) y 3 ([f]:List Int),.tr (Rt.row (Rt.row (Rt.of (Rp.int .i64)) 3 []) 38 []) [h] Y X]:=H
  exact (zG (zA (meet ⟨(ag,V,X,Y),(zI rfl zL),⟨H.pick [4,0,1] (by decide),c⟩,Nat.lt_succ_self _⟩)))
 have c:=zO D c
 obtain rfl:=gI c
 refine (xH (yL (yL (yS (post0n rfl ?_)))))
 exact ⟨h,u,rfl,H.pick [0,1] (by decide)⟩
set_option maxRecDepth 100000 in
theorem Fcjw (j:Rules)(k:List gZ)(m:Int)(p:Int)(p4c0:List (List Int))(v1:Value)(n:Value)(o:Value)(f:Value)(h:Nat)(l:Value)(t:List Nat)(r:Int×(List (List Int)))(c:Fcj j k m p p4c0=some r)(O S:List Nat)(w:World)(H:Hd O w w S [.tr (Rt.row (Rt.row (Rt.of (Rp.int .i64)) 3 []) 38 []) [l] t p4c0,.blk h [l] 28,f1 Rp.str v1 j.Phases,f1 fD n j.Moves,f1 fF o j.Rules,f1 fG f k]):
  Calls Tryz.prog 53 ([.agg [v1,n,o].toArray,f,i6 m,i6 p,.func (.func 54) #[] #[gW h]]:List Value).toArray w fun e w'=> ∃ag aw,e= .returned (i6 r.1)∧Hd O w w' S [.tr (Rt.row (Rt.row (Rt.of (Rp.int .i64)) 3 []) 38 []) [ag] aw r.2,.blk h [ag] 28]:=by
 unfold Fcj at c
 refine zZ 54 Tryz.func53 rfl rfl rfl ?_
 refine zC fun ct ax=>zB<| yY rfl rfl (xR (cs:=[v1,n,o]) rfl H) ?_
 rintro _ cu ⟨ah,rfl,H⟩
 refine zK (i6 0)<| zG (zA (ax _ _ ?_))
 refine zC fun cv ay=>?_
 refine zC fun cw az=>zB<| zH (yO (yN (cs:=[v1,n,o]) agg26 rfl sz26 rfl (Hbc H 6 rfl)) rfl)<| zJ f ?_
 have a0:=H
 obtain ⟨A,a1,c⟩:=zF c
 refine yG rfl rfl (yB en73 rfl) (Fbbw j k v1 n o f _ a1 _ _ _ (H.enter [] [2,3,4,5] (by decide) rfl)) ?_
 rintro _ cx ⟨rfl,a2⟩
 have H:=a0.step (a2.only:Only [] _ _)
 refine ⟨_,rfl,?_⟩
 refine zK (i6 A)<| zG (zA (az _ _ ?_))
 refine zC fun cy a3=>zB<| zJ (i6 A) ?_
 obtain ⟨a4,a5,c⟩:=zD c
 refine zH (zM (wL (a:=A) (b:=0) rfl rfl) a5)<| zG (zA (a3 _ _ ?_))
 refine zW (b:=a4) rfl (fun N=>?_) (fun N=>?_)
 ·have c:=zN N c
  refine zC fun cz a6=>zB<| zJ (i6 A)<| zK (i6 A)<| zG (zA (a6 _ _ ?_))
  obtain rfl:=gI c
  refine (zY (zT (gX (v1:=i6 A) rfl rfl ?_)))
  exact ⟨l,t,rfl,H.pick [0,1] (by decide)⟩
 have c:=zO N c
 refine zX (zA (ay _ _ ?_))
 refine zC fun c0 a7=>?_
 obtain ⟨ai,c,a8⟩:=zF c
 refine yH [20,21,22,23,24,25,26,27,28,29,30] (fun (g:Unit)=>[(30,.bool ai)]) (fun g wl=>Hd O w wl S [.tr (Rt.row (Rt.row (Rt.of (Rp.int .i64)) 3 []) 38 []) [l] t p4c0,.blk h [l] 28,f1 Rp.str v1 j.Phases,f1 fD n j.Moves,f1 fF o j.Rules,f1 fG f k,.blk ah [v1,n,o] 26]) ?_ ?_
 ·skip
  refine zB ?_
  refine zJ (i6 m) ?_
  obtain ⟨a9,ba,c⟩:=zD c
  refine zH (zM (xK (a:=m) (b:=0) rfl rfl) ba) ?_
  obtain ⟨aj,c,bb⟩:=zF c
  refine dF 5 [22,23,24,25,26] [(26,.bool aj)] (fun wl=>Hd O w wl S [.tr (Rt.row (Rt.row (Rt.of (Rp.int .i64)) 3 []) 38 []) [l] t p4c0,.blk h [l] 28,f1 Rp.str v1 j.Phases,f1 fD n j.Moves,f1 fF o j.Rules,f1 fG f k,.blk ah [v1,n,o] 26]) ?_ ?_
  ·skip
   refine yM (b:=a9) rfl rfl rfl (fun P=>?_) (fun P=>?_)
   ·have c:=zN P c
    refine yE ?_
    refine yE ?_
    refine yE ?_
    refine zH (yI (v:= .bool true) rfl rfl) ?_
    obtain rfl:=gI c
    exact zG (zA (meet ⟨(zI rfl zL),H.pick [0,1,2,3,4,5,6] (by decide)⟩))
   have c:=zO P c
   refine zJ (i6 m)<| zJ (i6 p) ?_
   obtain ⟨bc,bd,c⟩:=zD c
   refine zH (zM (bM (a:=m) (b:=p) rfl rfl) bd)<| zH (yF (v:= .bool bc) rfl rfl) ?_
   obtain rfl:=gI c
   exact zG (zA (meet ⟨(zI rfl zL),H.pick [0,1,2,3,4,5,6] (by decide)⟩))
  rintro ρ c1 H
  have c:=bb
  refine yM (b:=aj) rfl rfl rfl (fun Q=>?_) (fun Q=>?_)
  ·have c:=zN Q c
   refine yE ?_
   refine yE ?_
   refine zH (yI (v:= .bool true) rfl rfl) ?_
   obtain rfl:=gI c
   exact (zG (zA (meet ⟨(),(zI rfl zL),H.pick [0,1,2,3,4,5,6] (by decide)⟩)))
  have c:=zO Q c
  refine zJ (i6 p) ?_
  obtain ⟨be,bf,c⟩:=zD c
  refine zH (zM (aJ (a:=p) (b:=4194304) rfl rfl) bf)<| zH (yF (v:= .bool be) rfl rfl) ?_
  obtain rfl:=gI c
  exact (zG (zA (meet ⟨(),(zI rfl zL),H.pick [0,1,2,3,4,5,6] (by decide)⟩)))
 rintro _ ρ c2 H
 have c:=a8
 refine zW (b:=ai) rfl (fun R=>?_) (fun R=>?_)
 ·have c:=zN R c
  refine zC fun c3 bg=>zB<| zK (i6 9)<| zG (zA (bg _ _ ?_))
  obtain rfl:=gI c
  refine (zY (zT (gX (v1:=i6 9) rfl rfl ?_)))
  exact ⟨l,t,rfl,H.pick [0,1] (by decide)⟩
 have c:=zO R c
 refine zX (zA (a7 _ _ ?_))
 refine zC fun c4 bh=>?_
 refine zC fun c5 bi=>zB<| zJ (i6 p)<| zJ (i6 m) ?_
 obtain ⟨bj,bk,c⟩:=zD c
 refine zH (aZ (a:=p) (b:=m) rfl rfl bk) ?_
 obtain ⟨bl,bm,c⟩:=zD c
 refine zH (xJ (a:=bj) (b:=1) rfl rfl bm) ?_
 obtain ⟨bn,bo,c⟩:=zD c
 refine zH (zM (bM (a:=bl) (b:=20000) rfl rfl) bo)<| zG (zA (bi _ _ ?_))
 refine zW (b:=bn) rfl (fun T=>?_) (fun T=>?_)
 ·have c:=zN T c
  refine zC fun c6 bp=>zB<| zK (i6 3)<| zG (zA (bp _ _ ?_))
  obtain rfl:=gI c
  refine (zY (zT (gX (v1:=i6 3) rfl rfl ?_)))
  exact ⟨l,t,rfl,H.pick [0,1] (by decide)⟩
 have c:=zO T c
 refine zX (zA (bh _ _ ?_))
 refine zC fun c7 bq=>zB<| zH (yO (yN (cs:=[v1,n,o]) agg26 rfl sz26 rfl (Hbc H 6 rfl)) rfl)<| zJ f ?_
 obtain ⟨q,br,c⟩:=zF c
 refine yG rfl rfl (yB en74 rfl) (Faqw j k v1 n o f _ br _ _ _ (H.enter [] [2,3,4,5] (by decide) rfl)) ?_
 rintro _ bt ⟨s,U,V,ak,X,al,Y,rfl,bu⟩
 have H:=H.back1 [2,3,4,5] rfl bu
 refine ⟨_,rfl,?_⟩
 refine zK (gW s)<| zG (zA (bq _ _ ?_))
 have H:Hd O w bt S [.tr (Rt.row (Rt.row (Rt.of (Rp.int .i64)) 3 []) 38 []) [l] t p4c0,.blk h [l] 28,f1 fG f k,f1 Rp.str U q.phases,.tr fM [V] ak q.moves,.tr fK [X] al q.rules,f1 Rp.bool Y q.possible,.blk s [U,i6 q.tracks,V,X,Y] 146]:=H.pick [0,1,5,7,8,9,10,11] (by decide)
 obtain ⟨am,c,bv⟩:=zF c
 refine yH [13,39,40,41,42,43,44,45,46,47,48,49,50,51,52,53] (fun (g:Value×(List Nat))=>[]) (fun g wl=>Hd O w wl S [.blk h [g.1] 28,.tr (Rt.row (Rt.row (Rt.of (Rp.int .i64)) 3 []) 38 []) [g.1] g.2 am]) ?_ ?_
 ·skip
  refine zC fun c8 bw=>zB<| zJ (i6 m)<| zK (i6 m)<| zG (zA (bw _ _ ?_))
  refine yC ?_
  unfold Fdj at c
  obtain ⟨bx,an,bz,c⟩:=yR c
  refine xA [13,40,41,42,43,44,45,46,47,48,49,50,51,52,53] (fun (g:Nat×Int×(List (List Int))×(List Str)×Int×(List fB)×(List Nd)×(List Bool)×Value×(List Nat)×Value×Value×(List Nat)×Value×(List Nat)×Value)=>[(13,i6 g.2.1)]) (fun g wl=>Hd O w wl S [.blk h [g.2.2.2.2.2.2.2.2.1] 28,.tr (Rt.row (Rt.row (Rt.of (Rp.int .i64)) 3 []) 38 []) [g.2.2.2.2.2.2.2.2.1] g.2.2.2.2.2.2.2.2.2.1 g.2.2.1,f1 fG f k,.blk s [g.2.2.2.2.2.2.2.2.2.2.1,i6 g.2.2.2.2.1,g.2.2.2.2.2.2.2.2.2.2.2.1,g.2.2.2.2.2.2.2.2.2.2.2.2.2.1,g.2.2.2.2.2.2.2.2.2.2.2.2.2.2.2] 146,f1 Rp.str g.2.2.2.2.2.2.2.2.2.2.1 g.2.2.2.1,.tr fM [g.2.2.2.2.2.2.2.2.2.2.2.1] g.2.2.2.2.2.2.2.2.2.2.2.2.1 g.2.2.2.2.2.1,.tr fK [g.2.2.2.2.2.2.2.2.2.2.2.2.2.1] g.2.2.2.2.2.2.2.2.2.2.2.2.2.2.1 g.2.2.2.2.2.2.1,f1 Rp.bool g.2.2.2.2.2.2.2.2.2.2.2.2.2.2.2 g.2.2.2.2.2.2.2.1]∧fV bx g.1 (g.2.1,g.2.2.1,g.2.2.2.1,g.2.2.2.2.1,g.2.2.2.2.2.1,g.2.2.2.2.2.2.1,g.2.2.2.2.2.2.2.1)=some am) (fun g=>g.1) (an,m,p4c0,q.phases,q.tracks,q.moves,q.rules,q.possible,l,t,U,V,ak,X,al,Y) (zI rfl zL) ⟨H.pick [1,0,2,7,3,4,5,6] (by decide),c⟩ ?_
  clear H c
  rintro ⟨an,B,Z,D,b0,b1,b2,E,C,F,G,b3,b4,b5,b6,I⟩ ρ c9 ⟨H,c⟩
  obtain ⟨b7,rfl,c⟩:=yV c
  have c:=yU bz c
  refine zC fun da b8=>?_
  refine zC fun db b9=>zB<| zJ (i6 B)<| zJ (i6 p) ?_
  obtain ⟨ca,cb,c⟩:=zD c
  refine zH (zM (Do_leq (a:=B) (b:=p) rfl rfl) cb)<| zG (zA (b9 _ _ ?_))
  refine zW (b:=ca) rfl (fun aa=>?_) (fun aa=>?_)
  ·have c:=zN aa c
   refine zX (zA (b8 _ _ ?_))
   refine zC fun dc cc=>?_
   refine yC ?_
   refine zB ?_
   refine zJ (.func (.func 54) #[] #[gW h])<| zJ (gW s)<| zJ f<| zJ (i6 B) ?_
   obtain ⟨J,cd,c⟩:=zF c
   refine yG rfl rfl (yB en77 rfl) (Fanw k B f _ cd _ _ _ (H.enter [] [2] (by decide) rfl)) ?_
   rintro _ dd ⟨K,rfl,ce⟩
   have H:=H.back1 [2] rfl ce
   refine ⟨_,rfl,?_⟩
   have H:=H.freeze (i:=8) rfl
   obtain ⟨⟨L,d⟩,cf,c⟩:=zF c
   refine yG rfl rfl (yB en78 rfl) (Fagw (gY.mk D b0 b1 b2 E) J s G b3 b4 b5 b6 I K _ cf _ _ _ (H.enter [5,6,3] [4,7,8] (by decide) rfl)) ?_
   rintro _ cg ⟨M,u,x,ao,y,ap,z,rfl,ch⟩
   have H:Hd _ _ cg _ [.blk h [C] 28,.tr (Rt.row (Rt.row (Rt.of (Rp.int .i64)) 3 []) 38 []) [C] F Z,f1 fG f k,f1 Rp.str G D,f1 Rp.bool I E,f1 gQ K J,.own (Rp.int .i64) M 3 L,f1 Rp.str u d.phases,.tr fM [x] ao d.moves,.tr fK [y] ap d.rules,f1 Rp.bool z d.possible,.blk s [u,i6 d.tracks,x,y,z] 146]:=H.back [5,6,3] [4,7,8] rfl ch
   refine ⟨_,rfl,?_⟩
   refine zJ (gW s) ?_
   obtain ⟨ab,ci,c⟩:=zF c
   refine yG rfl rfl (yB en27 rfl) (Fahw (gY.mk d.phases d.tracks d.moves d.rules d.possible) s u x ao y ap z _ ci _ _ _ (H.enter [8,9,11] [7,10] (by decide) rfl)) ?_
   rintro _ cj ⟨ac,ad,ae,rfl,ck⟩
   have H:Hd _ _ cj _ [.blk h [C] 28,.tr (Rt.row (Rt.row (Rt.of (Rp.int .i64)) 3 []) 38 []) [C] F Z,f1 fG f k,f1 Rp.str G D,f1 Rp.bool I E,f1 gQ K J,.own (Rp.int .i64) M 3 L,f1 Rp.str u d.phases,f1 Rp.bool z d.possible,.own Rp.str ac 9 ab,.tr fM [x] ad d.moves,.tr fK [y] ae d.rules,.blk s [u,i6 d.tracks,x,y,z] 146]:=H.back [8,9,11] [7,10] rfl ck
   refine ⟨_,rfl,?_⟩
   have H:=H.freeze (i:=6) rfl
   have H:=H.freeze (i:=9) rfl
   obtain ⟨aq,cl,c⟩:=zF c
   refine yG rfl rfl (aH en54 rfl rfl) (Fbjw L ab Z M ac h C F _ cl _ _ _ (H.enter [1,0] [6,9] (by decide) rfl)) ?_
   rintro _ cm ⟨af,ar,rfl,cn⟩
   have H:Hd _ _ cm _ [f1 fG f k,f1 Rp.str G D,f1 Rp.bool I E,f1 gQ K J,f1 (Rp.int .i64) M L,f1 Rp.str u d.phases,f1 Rp.bool z d.possible,f1 Rp.str ac ab,.tr fM [x] ad d.moves,.tr fK [y] ae d.rules,.blk s [u,i6 d.tracks,x,y,z] 146,.tr (Rt.row (Rt.row (Rt.of (Rp.int .i64)) 3 []) 38 []) [af] ar aq,.blk h [af] 28]:=H.back [1,0] [6,9] rfl cn
   refine ⟨_,rfl,?_⟩
   refine (zG (yK (zA (cc _ _ ?_))))
   refine zB ?_
   refine zJ (i6 B) ?_
   obtain ⟨au,co,c⟩:=zD c
   refine zH (xJ (a:=B) (b:=1) rfl rfl co)<| zK (i6 au) ?_
   exact (zG (zA (meet ⟨(b7,au,aq,d.phases,d.tracks,d.moves,d.rules,d.possible,af,ar,u,x,ad,y,ae,z),(zI rfl zL),⟨H.pick [12,11,0,10,5,8,9,6] (by decide),c⟩,Nat.lt_succ_self _⟩)))
  have c:=zO aa c
  obtain rfl:=gI c
  exact (xH (yL (yL (yS (zA (meet ⟨(C,F),zL,H.pick [0,1] (by decide)⟩))))))
 rintro ⟨cp,cq⟩ ρ de H
 have c:=bv
 refine zC fun df cr=>zB<| zK (i6 0)<| zG (zA (cr _ _ ?_))
 obtain rfl:=gI c
 refine (zY (gX (v1:=i6 0) rfl rfl ?_))
 exact ⟨cp,cq,rfl,H.pick [1,0] (by decide)⟩
theorem Fa9w (d:Rules)(l:List gZ)(m:Int)(n:Int)(v1:Value)(v2:Value)(f:Value)(j:Value)(r:(List (List Int))×Int)(c:Fa9 d l m n=some r)(O S:List Nat)(w:World)(H:Hd O w w S [f1 Rp.str v1 d.Phases,f1 fD v2 d.Moves,f1 fF f d.Rules,f1 fG j l]):
  Calls Tryz.prog 15 ([.agg [v1,v2,f].toArray,j,i6 m,i6 n]:List Value).toArray w fun e s=> ∃u9,e= .returned (.tuple #[u9,i6 r.2])∧Hd O w s S [.fz (.sl (Rp.sl (Rp.int .i64)) u9 r.1)]:=by
 unfold Fa9 at c
 refine zZ 26 Tryz.func15 rfl rfl rfl ?_
 refine zC fun T t=>zB<| yY rfl rfl (xR (cs:=[v1,v2,f]) rfl H) ?_
 rintro _ U ⟨u,rfl,H⟩
 refine zK (.slice none 0 0)<| zK (i6 0)<| zG (zA (t _ _ ?_))
 refine zC fun V x=>zB<| zH (fa26_2 rfl)<| Ld one24 H 4 2 rfl rfl ?_
 obtain ⟨X,y,c⟩:=zD c
 obtain ⟨Y,Z,z⟩:=SlF.len ((H.item (i:=2) rfl))
 refine zH (yO (xI u24 z) (congrArg (Value.int .i64) y)) ?_
 obtain ⟨A,B,c⟩:=zF c
 refine yY rfl rfl (Lx_makeT (R:=(Rt.row (Rt.of (Rp.int .i64)) 3 [])) u28 el38 rfl (fun _ _=>row_zero) rfl rfl B H) ?_
 rintro p aa ⟨C,H⟩
 refine yY rfl rfl (xN zero28 H) ?_
 rintro _ ab ⟨q,rfl,H⟩
 refine xB rfl (wI H 6 rfl sz28 rfl (v:=p) rfl (tr_one (H.item (i:=5) rfl)) rfl) ?_
 rintro ac H
 refine zG (zA (x _ _ ?_))
 refine zC fun ad D=>zB<| zH (yO (yN (cs:=[v1,v2,f]) agg26 rfl sz26 rfl (Hbc H 4 rfl)) rfl)<| zJ j<| zJ (i6 m)<| zJ (i6 n)<| zH (bG rfl) ?_
 obtain ⟨⟨h,E⟩,F,c⟩:=zF c
 refine yG rfl rfl (yB en53 rfl) (Fcjw d l m n A v1 v2 f j q p C _ F _ _ _ (H.enter [5,6] [0,1,2,3] (by decide) rfl)) ?_
 rintro _ G ⟨k,I,rfl,J⟩
 have H:Hd _ _ G _ [f1 Rp.str v1 d.Phases,f1 fD v2 d.Moves,f1 fF f d.Rules,f1 fG j l,.blk u [v1,v2,f] 26,.tr (Rt.row (Rt.row (Rt.of (Rp.int .i64)) 3 []) 38 []) [k] I E,.blk q [k] 28]:=H.back [5,6] [0,1,2,3] rfl J
 refine ⟨_,rfl,?_⟩
 refine zK (i6 h)<| zG (zA (D _ _ ?_))
 refine zC fun ae K=>?_
 refine zC fun af L=>zB<| zJ (i6 h) ?_
 obtain ⟨M,N,c⟩:=zD c
 refine zH (zM (wL (a:=h) (b:=0) rfl rfl) N)<| zG (zA (L _ _ ?_))
 refine zW (b:=M) rfl (fun o=>?_) (fun o=>?_)
 ·have c:=zN o c
  refine zC fun ag P=>zB<| zJ (i6 h)<| zK (.slice none 0 0)<| zK (i6 h)<| zG (zA (P _ _ ?_))
  have H:=H.fz (.sl (Rp.sl (Rp.int .i64)) (.slice none 0 0) []) SlF.nil
  obtain rfl:=gI c
  refine (zY (zT (post2 (v1:= .slice none 0 0) (v2:=i6 h) rfl rfl rfl ?_)))
  exact ⟨.slice none 0 0,rfl,H.pick [7] (by decide)⟩
 have c:=zO o c
 refine zX (zA (K _ _ ?_))
 refine zC fun ah Q=>zB<| Ld one28 H 6 0 rfl rfl<| zK k<| zK (i6 0)<| zG (zA (Q _ _ ?_))
 have H:=H.freezeT (fr_row fr_of) 5 rfl
 obtain rfl:=gI c
 refine (zY (post2 (v1:=k) (v2:=i6 0) rfl rfl rfl ?_))
 exact ⟨k,rfl,H.pick [5] (by decide)⟩
theorem Fa3w (f:List Int)(c:List Str)(h:List (List Str))(j:Value)(b:Value)(d:Nat)(k:Value)(r:(List (List Str)))(a:Fa3 f c h=some r)(O S:List Nat)(w:World)(H:Hd O w w S [.own (Rp.sl Rp.str) k 22 h,.blk d [k] 41,f1 (Rp.int .i64) j f,f1 Rp.str b c]):
  Calls Tryz.prog 55 ([j,b,gW d]:List Value).toArray w fun e m=> ∃u9,e= .returned (.tuple #[])∧Hd O w m S [.own (Rp.sl Rp.str) u9 22 r,.blk d [u9] 41]:=by
 unfold Fa3 at a
 refine zZ 9 Tryz.func55 rfl rfl rfl ?_
 refine zB ?_
 refine Ld one41 H 1 0 rfl rfl<| zJ b ?_
 obtain ⟨p,n,a⟩:=zD a
 subst n
 refine yY rfl rfl (Lx_bs (r:=(Rp.sl Rp.str)) (xl:=[c]) (cs:=[b]) u41 el22 (by decide) (by decide) rfl (fillB_ones rfl rfl ⟨(dU (H.item (i:=3) rfl)),trivial⟩) H ⟨[b],[],rfl,⟨_,rfl,(H.item (i:=3) rfl)⟩,rfl⟩) ?_
 rintro q s H
 obtain ⟨t,o,a⟩:=zF a
 refine yY rfl rfl (Lx_app H (i:=0) rfl u41 el22 rfl rfl (Sr.of_own (H.item (i:=4) rfl)) o) ?_
 rintro l u H
 refine xB rfl (wI H 1 rfl sz41 rfl (v:=l) rfl (own_one (H.item (i:=0) rfl)) rfl) ?_
 rintro x H
 obtain rfl:=gI a
 refine (zG (post0n rfl ?_))
 exact ⟨l,rfl,H.pick [0,1] (by decide)⟩
end Go.Proofs.YtckmiljbaejijaaGreatDoor.L
