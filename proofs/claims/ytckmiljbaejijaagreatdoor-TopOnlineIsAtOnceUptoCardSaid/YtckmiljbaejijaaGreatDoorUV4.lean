/- Walks: what each function computes, for every argument; no condition but those that stand in the statements. -/
import Derived.Test.YtckmiljbaejijaaGreatDoorUV0
import Derived.Test.YtckmiljbaejijaaGreatDoorUV3
import Derived.Test.YtckmiljbaejijaaGreatDoorUV1
namespace Go.Proofs.YtckmiljbaejijaaGreatDoor.L
open Go.RowKit Go.OB Go.Lf
set_option maxHeartbeats 4000000
set_option maxRecDepth 100000 in
theorem Fbxw (h:Series)(v1:Value)(r:Int×Int)(c:Fbx h=some r)(O S:List Nat)(w:World)(H:Hd O w w S [.fz (.sl rSample v1 h.Samples)]):
  Calls Tryz.prog 191 ([.agg [.int .i64 h.Den,v1].toArray]:List Value).toArray w fun e w'=>e= .returned (.tuple #[.int .i64 r.1,.int .i64 r.2])∧Hd O w w' S []:=by
 unfold Fbx at c
 refine zW 67 Tryz.func191 rfl rfl rfl ?_
 refine zC fun K3 Q=>zB ?_
 refine yY rfl rfl (xX (cs:=[.int .i64 h.Den,v1]) rfl H) ?_
 rintro _ w6 ⟨j,rfl,H⟩
 refine zK (.int .i64 0)<| zK (.int .i64 0)<| (zG (zA (Q _ _ ?_)))
 refine zC fun cg R=>?_
 refine zC fun ch T=>zB ?_
 refine zH (fa35_0 rfl)<| zH (zN one3 rfl (Cells.get (Blk.cells (H.item (i:=1) rfl)) (i:=0) rfl)) ?_
 have U:=H
 obtain ⟨V,X,c⟩:=zF c
 refine yG rfl rfl (yC en226 rfl) (Faqw h.Den 1 1000000 _ X _ _ _ (H.enter [] [] (by decide) rfl)) ?_
 rintro _ ci ⟨rfl,Y⟩
 have H:=U.step (Y.only:Only [] _ _)
 refine ⟨_,rfl,?_⟩
 obtain ⟨Z,aa,c⟩:=zD c
 refine zH (zQ (wI (p:=V) rfl) aa)<| (zG (zA (T _ _ ?_)))
 refine zZ (b:=Z) rfl (fun k=>?_) (fun k=>?_)
 ·have c:=zS k c
  refine zC fun cj ab=>zB ?_
  refine zK (.int .i64 (-1))<| zK (.int .i64 9)<| (zG (zA (ab _ _ ?_)))
  obtain rfl:=someI c
  refine (zY (zV (post2 (v1:= .int .i64 (-1)) (v2:= .int .i64 9) rfl rfl rfl ?_)))
  exact ⟨rfl,H.pick [] (by decide)⟩
 have c:=zT k c
 refine (yA (zA (R _ _ ?_)))
 refine zC fun ck ac=>?_
 refine zC fun cl ad=>zB ?_
 refine zH (fa35_1 rfl)<| zH (zN one33 rfl (Cells.get (Blk.cells (H.item (i:=1) rfl)) (i:=1) rfl)) ?_
 obtain ⟨ae,af,c⟩:=zD c
 obtain ⟨cm,cn,ag⟩:=SlF.len ((H.item (i:=0) rfl))
 refine zH (yS (xP u33 ag) (congrArg (Value.int .i64) af)) ?_
 obtain ⟨ah,ai,c⟩:=zD c
 refine zH (zQ (Do_gtr (a:=ae) (b:=20000) rfl rfl) ai)<| (zG (zA (ad _ _ ?_)))
 refine zZ (b:=ah) rfl (fun l=>?_) (fun l=>?_)
 ·have c:=zS l c
  refine zC fun co aj=>zB ?_
  refine zK (.int .i64 (-1))<| zK (.int .i64 3)<| (zG (zA (aj _ _ ?_)))
  obtain rfl:=someI c
  refine (zY (zV (post2 (v1:= .int .i64 (-1)) (v2:= .int .i64 3) rfl rfl rfl ?_)))
  exact ⟨rfl,H.pick [] (by decide)⟩
 have c:=zT l c
 refine (yA (zA (ac _ _ ?_)))
 obtain ⟨ak,al,c⟩:=xZ c
 refine yK [2,3,4,5,14,15,16,17,18,19,20,21,22,23,24,25,26,27,28,29,30,31,32,33,34,35,36,37,38,39,40,41,42,43,44,45,46,47,48,49,50,51,52,53,54,55,56,57,58,59,60,61,62,63,64,65,66] (fun (g:Unit)=>[]) (fun g wl=>Hd O w wl S []∧ak ()=some r) ?_ ?_
 ·skip
  refine zC fun cp am=>zB ?_
  refine zH (fa35_1 rfl)<| zH (zN one33 rfl (Cells.get (Blk.cells (H.item (i:=1) rfl)) (i:=1) rfl)) ?_
  obtain ⟨an,ao,c⟩:=zD c
  obtain ⟨cq,cr,ap⟩:=SlF.len ((H.item (i:=0) rfl))
  refine zH (yS (xP u33 ap) (congrArg (Value.int .i64) ao))<| zJ (.int .i64 0)<| (zG (zA (am _ _ ?_)))
  refine yH ?_
  unfold Fdb at c
  obtain ⟨aq,B,ar,c⟩:=yX c
  refine xI [2,3,4,5,17,18,19,20,21,22,23,24,25,26,27,28,29,30,31,32,33,34,35,36,37,38,39,40,41,42,43,44,45,46,47,48,49,50,51,52,53,54,55,56,57,58,59,60,61,62,63,64,65,66] (fun (g:Nat×Int)=>[(17,.int .i64 g.2)]) (fun g wl=>Hd O w wl S [.fz (.sl rSample v1 h.Samples),.blk j [.int .i64 h.Den,v1] 35]∧loopN aq g.1 g.2=some r) (fun g=>g.1) (B,0) (zL rfl zM) ⟨H.pick [0,1] (by decide),c⟩ ?_
  clear H c
  rintro ⟨B,f⟩ ρ ct ⟨H,c⟩
  obtain ⟨au,rfl,c⟩:=xC c
  have c:=xB ar c
  refine zC fun cu av=>zB ?_
  obtain ⟨aw,ax,c⟩:=zD c
  refine zH (zQ (xR (a:=f) (b:=an) rfl rfl) ax)<| (zG (zA (av _ _ ?_)))
  refine zC fun cv ay=>?_
  refine zZ (b:=aw) rfl (fun m=>?_) (fun m=>?_)
  ·have c:=zS m c
   refine (yA (zA (ay _ _ ?_)))
   refine zC fun cw az=>?_
   refine yH ?_
   refine zC fun cx a0=>zB ?_
   refine zJ (.int .i64 f) ?_
   obtain ⟨d,n,c⟩:=zF c
   obtain ⟨C,D,cy,cz,a1,a2,a3,a4,a5⟩:=rd_at (H.item (i:=0) rfl) n
   obtain rfl:=rSample_open a2
   have H:=H.fz (.at C (D+f.toNat * 3) _) ⟨a3,a4,a5⟩
   refine zH (xE u33 sz40 a1 rfl (yE n).1 (yE n).2.1 rfl rfl)<| zH (yS (yR (cs:=[.int .i64 d.At,.int .i64 d.N,.int .i64 d.Mark]) agg40 rfl sz40 rfl (H.item (i:=2) rfl).2.2) rfl)<| yY rfl rfl (xQ zero40 H) ?_
   rintro _ c0 ⟨o,rfl,H⟩
   refine zK (.int .i64 f)<| xG rfl (xH (vs:=[.int .i64 d.At,.int .i64 d.N,.int .i64 d.Mark]) H 3 rfl sz40 rfl rfl rfl ⟨rfl,rfl,rfl,trivial⟩ rfl) ?_
   rintro c1 H
   refine (zG (zA (a0 _ _ ?_)))
   refine yH ?_
   obtain ⟨E,c,a6⟩:=zF c
   refine yK [22,23,24,25,26,27,28,29,30,31,32,33,34,35,36,37,38] (fun (g:Unit)=>[(22,.bool E)]) (fun g wl=>Hd O w wl S [.fz (.sl rSample v1 h.Samples),.blk j [.int .i64 h.Den,v1] 35,.blk o [.int .i64 d.At,.int .i64 d.N,.int .i64 d.Mark] 40]) ?_ ?_
   ·skip
    refine zB ?_
    refine zH (fa40_0 rfl)<| zH (zN one3 rfl (Cells.get (Blk.cells (H.item (i:=3) rfl)) (i:=0) rfl)) ?_
    have a7:=H
    obtain ⟨a8,a9,c⟩:=zF c
    refine yG rfl rfl (yC en226 rfl) (Faqw d.At 0 1099511627776 _ a9 _ _ _ (H.enter [] [] (by decide) rfl)) ?_
    rintro _ c2 ⟨rfl,ba⟩
    have H:=a7.step (ba.only:Only [] _ _)
    refine ⟨_,rfl,?_⟩
    obtain ⟨bb,bc,c⟩:=zD c
    refine zH (zQ (wI (p:=a8) rfl) bc) ?_
    obtain ⟨F,c,bd⟩:=zF c
    refine RL_cutS 6 [27,28,29,30,31,32] [(32,.bool F)] (fun wl=>Hd O w wl S [.fz (.sl rSample v1 h.Samples),.blk j [.int .i64 h.Den,v1] 35,.fz (.at C (D+f.toNat * 3) [.int .i64 d.At,.int .i64 d.N,.int .i64 d.Mark]),.blk o [.int .i64 d.At,.int .i64 d.N,.int .i64 d.Mark] 40]) ?_ ?_
    ·skip
     refine yN (b:=bb) rfl rfl rfl (fun q=>?_) (fun q=>?_)
     ·have c:=zS q c
      refine yI ?_
      refine yI ?_
      refine yI ?_
      refine yI ?_
      refine zH (yL (v:= .bool true) rfl rfl) ?_
      obtain rfl:=someI c
      exact zG (zA (meet ⟨(zL rfl zM),H.pick [0,1,2,3] (by decide)⟩))
     have c:=zT q c
     refine zH (fa40_1 rfl)<| zH (zN one3 rfl (Cells.get (Blk.cells (H.item (i:=3) rfl)) (i:=1) rfl)) ?_
     have be:=H
     obtain ⟨bf,bg,c⟩:=zF c
     refine yG rfl rfl (yC en226 rfl) (Faqw d.N (-1125899906842624) 1125899906842624 _ bg _ _ _ (H.enter [] [] (by decide) rfl)) ?_
     rintro _ c3 ⟨rfl,bh⟩
     have H:=be.step (bh.only:Only [] _ _)
     refine ⟨_,rfl,?_⟩
     obtain ⟨bi,bj,c⟩:=zD c
     refine zH (zQ (wI (p:=bf) rfl) bj)<| zH (yJ (v:= .bool bi) rfl rfl) ?_
     obtain rfl:=someI c
     exact zG (zA (meet ⟨(zL rfl zM),H.pick [0,1,2,3] (by decide)⟩))
    rintro ρ c4 H
    have c:=bd
    refine yN (b:=F) rfl rfl rfl (fun s=>?_) (fun s=>?_)
    ·have c:=zS s c
     refine yI ?_
     refine yI ?_
     refine yI ?_
     refine yI ?_
     refine zH (yL (v:= .bool true) rfl rfl)<| zK (.bool true) ?_
     obtain rfl:=someI c
     exact (zG (zA (meet ⟨(),(zL rfl zM),H.pick [0,1,3] (by decide)⟩)))
    have c:=zT s c
    refine zH (fa40_2 rfl)<| zH (zN one3 rfl (Cells.get (Blk.cells (H.item (i:=3) rfl)) (i:=2) rfl)) ?_
    have bk:=H
    obtain ⟨bl,bm,c⟩:=zF c
    refine yG rfl rfl (yC en226 rfl) (Faqw d.Mark 0 4 _ bm _ _ _ (H.enter [] [] (by decide) rfl)) ?_
    rintro _ c5 ⟨rfl,bn⟩
    have H:=bk.step (bn.only:Only [] _ _)
    refine ⟨_,rfl,?_⟩
    obtain ⟨G,bo,c⟩:=zD c
    refine zH (zQ (wI (p:=bl) rfl) bo)<| zH (yJ (v:= .bool G) rfl rfl)<| zK (.bool G) ?_
    obtain rfl:=someI c
    exact (zG (zA (meet ⟨(),(zL rfl zM),H.pick [0,1,3] (by decide)⟩)))
   rintro _ ρ c6 H
   have c:=a6
   refine zZ (b:=E) rfl (fun t=>?_) (fun t=>?_)
   ·have c:=zS t c
    refine zC fun c7 bp=>zB ?_
    refine zJ (.int .i64 f)<| zK (.int .i64 f)<| zK (.int .i64 9)<| (zG (zA (bp _ _ ?_)))
    obtain rfl:=someI c
    refine (zY (yF (yF (zV (zV (yF (zV (post2 (v1:= .int .i64 f) (v2:= .int .i64 9) rfl rfl rfl ?_))))))))
    exact ⟨rfl,H.pick [] (by decide)⟩
   have c:=zT t c
   obtain ⟨I,c,bq⟩:=zF c
   refine yK [40,41,42,43,44,45,46,47,48] (fun (g:Unit)=>[(40,.bool I)]) (fun g wl=>Hd O w wl S [.fz (.sl rSample v1 h.Samples),.blk j [.int .i64 h.Den,v1] 35,.blk o [.int .i64 d.At,.int .i64 d.N,.int .i64 d.Mark] 40]) ?_ ?_
   ·skip
    refine zB ?_
    refine zH (fa40_1 rfl)<| zH (zN one3 rfl (Cells.get (Blk.cells (H.item (i:=2) rfl)) (i:=1) rfl)) ?_
    obtain ⟨br,bt,c⟩:=zD c
    refine zH (zQ (wH (a:=d.N) (b:=0) rfl rfl) bt)<| yN (b:=br) rfl rfl rfl (fun u=>?_) (fun u=>?_)
    ·have c:=zS u c
     refine zH (fa40_2 rfl)<| zH (zN one3 rfl (Cells.get (Blk.cells (H.item (i:=2) rfl)) (i:=2) rfl)) ?_
     obtain ⟨J,bu,c⟩:=zD c
     refine zH (zQ (Do_leq (a:=d.Mark) (b:=1) rfl rfl) bu)<| zH (yL (v:= .bool J) rfl rfl)<| zK (.bool J) ?_
     obtain rfl:=someI c
     exact (zG (zA (meet ⟨(),(zL rfl zM),H.pick [0,1,2] (by decide)⟩)))
    have c:=zT u c
    refine yI ?_
    refine yI ?_
    refine yI ?_
    refine zH (yJ (v:= .bool false) rfl rfl)<| zK (.bool false) ?_
    obtain rfl:=someI c
    exact (zG (zA (meet ⟨(),(zL rfl zM),H.pick [0,1,2] (by decide)⟩)))
   rintro _ ρ c8 H
   have c:=bq
   refine zZ (b:=I) rfl (fun x=>?_) (fun x=>?_)
   ·have c:=zS x c
    refine zC fun c9 bv=>zB ?_
    refine zJ (.int .i64 f)<| zK (.int .i64 f)<| zK (.int .i64 2)<| (zG (zA (bv _ _ ?_)))
    obtain rfl:=someI c
    refine (zY (yF (yF (zV (zV (yF (zV (post2 (v1:= .int .i64 f) (v2:= .int .i64 2) rfl rfl rfl ?_))))))))
    exact ⟨rfl,H.pick [] (by decide)⟩
   have c:=zT x c
   obtain ⟨K,c,bw⟩:=zF c
   refine yK [50,51,52,53,54,55,56,57,58,59,60,61,62,63,64] (fun (g:Unit)=>[(50,.bool K)]) (fun g wl=>Hd O w wl S [.fz (.sl rSample v1 h.Samples),.blk j [.int .i64 h.Den,v1] 35]) ?_ ?_
   ·skip
    have L:=H
    have H:=H.rebase
    have da:=H
    refine wF H [0,1,2,3,4,5,6,7,8,9,10,11,12,13,14] [.pure,.pure,.pure,.pure,.read,.pure,.read,.pure,.pure,.pure,.pure,.read,.pure,.pure,.pure] mixed (by kernel_rfl) (by kernel_rfl) (by kernel_rfl) rfl ?_
    refine Mx.zI rfl rfl rfl (fun w' hw'=>yM (v:= .int .i64 f) rfl) ?_
    obtain ⟨bx,bz,c⟩:=zD c
    refine Mx.zI rfl rfl rfl (fun w' hw'=>zQ (Do_gtr (a:=f) (b:=0) rfl rfl) bz) ?_
    refine Mx.XL_splitb (b:=bx) rfl rfl rfl rfl (fun y=>?_) (fun y=>?_)
    ·have c:=zS y c
     refine Mx.zI rfl rfl rfl (fun w' hw'=>fa40_0 rfl) ?_
     refine Mx.yO oS rfl rfl rfl (fun w' hw'=>zN one3 rfl (Cells.get (Blk.cells ((H.sees hw').item (i:=2) rfl)) (i:=0) rfl)) ?_
     refine Mx.zI rfl rfl rfl (fun w' hw'=>fa35_1 rfl) ?_
     refine Mx.yO oS rfl rfl rfl (fun w' hw'=>zN one33 rfl (Cells.get (Blk.cells ((H.sees hw').item (i:=1) rfl)) (i:=1) rfl)) ?_
     refine Mx.zI rfl rfl rfl (fun w' hw'=>yM (v:= .int .i64 f) rfl) ?_
     obtain ⟨b0,b1,c⟩:=zD c
     refine Mx.zI rfl rfl rfl (fun w' hw'=>Do_sub (a:=f) (b:=1) rfl rfl b1) ?_
     obtain ⟨b2,z,c⟩:=zF c
     obtain ⟨b3,b4,db,dc,b5,b6,b7,b8,b9⟩:=rd_at (H.item (i:=0) rfl) z
     obtain rfl:=rSample_open b6
     have H:=H.fz (.at b3 (b4+b0.toNat * 3) _) ⟨b7,b8,b9⟩
     refine Mx.zI rfl rfl rfl (fun w' hw'=>xE u33 sz40 b5 rfl (yE z).1 (yE z).2.1 rfl rfl) ?_
     refine Mx.zI rfl rfl rfl (fun w' hw'=>fa40_0 rfl) ?_
     refine Mx.yO oS rfl rfl rfl (fun w' hw'=>zN one3 rfl (Cells.get ((H.sees hw').item (i:=3) rfl).2.2 (i:=0) rfl)) ?_
     obtain ⟨M,ca,c⟩:=zD c
     refine Mx.zI rfl rfl rfl (fun w' hw'=>zQ (Do_leq (a:=d.At) (b:=b2.At) rfl rfl) ca) ?_
     refine Mx.zI rfl rfl rfl (fun w' hw'=>yL (v:= .bool M) rfl rfl) ?_
     refine Mx.zI rfl rfl rfl (fun w' hw'=>xN (v:= .bool M) rfl) ?_
     refine Mx.xK fun dd hS=>?_
     have H:=H.sees hS
     have H:=L.rejoin H
     obtain rfl:=someI c
     exact (zA (meet ⟨(),(zL rfl zM),H.pick [0,1] (by decide)⟩))
    have c:=zT y c
    refine Mx.XL_offp rfl rfl rfl ?_
    refine Mx.XL_offr oS rfl rfl rfl ?_
    refine Mx.XL_offp rfl rfl rfl ?_
    refine Mx.XL_offr oS rfl rfl rfl ?_
    refine Mx.XL_offp rfl rfl rfl ?_
    refine Mx.XL_offp rfl rfl rfl ?_
    refine Mx.XL_offp rfl rfl rfl ?_
    refine Mx.XL_offp rfl rfl rfl ?_
    refine Mx.XL_offr oS rfl rfl rfl ?_
    refine Mx.XL_offp rfl rfl rfl ?_
    refine Mx.zI rfl rfl rfl (fun w' hw'=>yJ (v:= .bool false) rfl rfl) ?_
    refine Mx.zI rfl rfl rfl (fun w' hw'=>xN (v:= .bool false) rfl) ?_
    refine Mx.xK fun de hS=>?_
    have H:=H.sees hS
    have H:=L.rejoin H
    obtain rfl:=someI c
    exact (zA (meet ⟨(),(zL rfl zM),H.pick [0,1] (by decide)⟩))
   rintro _ ρ df H
   have c:=bw
   refine zZ (b:=K) rfl (fun A=>?_) (fun A=>?_)
   ·have c:=zS A c
    refine zC fun dg cb=>zB ?_
    refine zJ (.int .i64 f)<| zK (.int .i64 f)<| zK (.int .i64 10)<| (zG (zA (cb _ _ ?_)))
    obtain rfl:=someI c
    refine (zY (yF (yF (zV (zV (yF (zV (post2 (v1:= .int .i64 f) (v2:= .int .i64 10) rfl rfl rfl ?_))))))))
    exact ⟨rfl,H.pick [] (by decide)⟩
   have c:=zT A c
   refine (yA (yP (yP (zA (az _ _ ?_)))))
   refine zB ?_
   obtain ⟨P,cc,c⟩:=zD c
   refine zH (xM (a:=f) (b:=1) rfl rfl cc)<| zJ (.int .i64 P) ?_
   exact (zG (zA (meet ⟨(au,P),(zL rfl zM),⟨H.pick [0,1] (by decide),c⟩,Nat.lt_succ_self _⟩)))
  have c:=zT m c
  exact (xO (yQ (yQ (yZ (zA (meet ⟨(),zM,⟨H.pick [] (by decide),c⟩⟩))))))
 rintro _ ρ dh ⟨H,c⟩
 have c:=wJ al c
 refine zC fun di cd=>zB ?_
 refine zK (.int .i64 (-1))<| zK (.int .i64 0)<| (zG (zA (cd _ _ ?_)))
 obtain rfl:=someI c
 refine (zY (post2 (v1:= .int .i64 (-1)) (v2:= .int .i64 0) rfl rfl rfl ?_))
 exact ⟨rfl,H.pick [] (by decide)⟩
theorem Fb2w (a:Series)(v1:Value)(r:Int)(c:Fb2 a=some r)(O S:List Nat)(w:World)(H:Hd O w w S [.fz (.sl rSample v1 a.Samples)]):
  Calls Tryz.prog 139 ([.agg [.int .i64 a.Den,v1].toArray]:List Value).toArray w fun e w'=>e= .returned (.int .i64 r)∧Hd O w w' S []:=by
 unfold Fb2 at c
 refine zW 11 Tryz.func139 rfl rfl rfl ?_
 refine zC fun n f=>zB ?_
 refine yY rfl rfl (xX (cs:=[.int .i64 a.Den,v1]) rfl H) ?_
 rintro _ o ⟨p,rfl,H⟩
 refine zK (.int .i64 0)<| (zG (zA (f _ _ ?_)))
 refine zC fun q h=>zB ?_
 refine zH (yS (yR (cs:=[.int .i64 a.Den,v1]) agg35 rfl sz35 rfl (Blk.cells (H.item (i:=1) rfl))) rfl) ?_
 have j:=H
 obtain ⟨⟨d,b⟩,k,c⟩:=zF c
 refine yG rfl rfl (yC en191 rfl) (Fbxw a v1 _ k _ _ _ (H.enter [] [0] (by decide) rfl)) ?_
 rintro _ s ⟨rfl,l⟩
 have H:=j.step (l.only:Only [] _ _)
 refine ⟨_,rfl,?_⟩
 refine zJ (.tuple #[.int .i64 d,.int .i64 b])<| zH (xY (v:= .int .i64 d) rfl rfl)<| zH (xY (v:= .int .i64 b) rfl rfl)<| zK (.int .i64 d)<| zK (.int .i64 b)<| (zG (zA (h _ _ ?_)))
 refine zC fun t m=>zB ?_
 refine zJ (.int .i64 b)<| zK (.int .i64 b)<| (zG (zA (m _ _ ?_)))
 obtain rfl:=someI c
 refine (zY (post1 (v1:= .int .i64 b) rfl rfl ?_))
 exact ⟨rfl,H.pick [] (by decide)⟩
set_option maxRecDepth 100000 in
theorem Fbfw (k:List Track)(v1:Value)(r:Int)(c:Fbf k=some r)(O S:List Nat)(w:World)(H:Hd O w w S [.fz (.sl rTrack v1 k)]):
  Calls Tryz.prog 75 ([v1]:List Value).toArray w fun e w'=>e= .returned (.int .i64 r)∧Hd O w w' S []:=by
 unfold Fbf at c
 refine zW 36 Tryz.func75 rfl rfl rfl ?_
 refine zC fun K3 C=>zB ?_
 refine zK (.int .i64 0)<| (zG (zA (C _ _ ?_)))
 refine zC fun bo D=>?_
 refine zC fun bp E=>zB ?_
 refine zJ v1 ?_
 obtain ⟨F,G,c⟩:=zD c
 obtain ⟨bq,br,I⟩:=SlF.len ((H.item (i:=0) rfl))
 refine zH (yS (xP u27 I) (congrArg (Value.int .i64) G)) ?_
 obtain ⟨J,K,c⟩:=zD c
 refine zH (zQ (Do_gtr (a:=F) (b:=50) rfl rfl) K)<| (zG (zA (E _ _ ?_)))
 refine zZ (b:=J) rfl (fun l=>?_) (fun l=>?_)
 ·have c:=zS l c
  refine zC fun bt L=>zB ?_
  refine zK (.int .i64 3)<| (zG (zA (L _ _ ?_)))
  obtain rfl:=someI c
  refine (zY (zV (post1 (v1:= .int .i64 3) rfl rfl ?_)))
  exact ⟨rfl,H.pick [] (by decide)⟩
 have c:=zT l c
 refine (yA (zA (D _ _ ?_)))
 obtain ⟨M,N,c⟩:=xZ c
 refine yK [2,3,4,5,9,10,11,12,13,14,15,16,17,18,19,20,21,22,23,24,25,26,27,28,29,30,31,32,33,34,35] (fun (g:Unit)=>[]) (fun g wl=>Hd O w wl S []∧M ()=some r) ?_ ?_
 ·skip
  refine zC fun bu P=>zB ?_
  refine zJ v1 ?_
  obtain ⟨Q,R,c⟩:=zD c
  obtain ⟨bv,bw,T⟩:=SlF.len ((H.item (i:=0) rfl))
  refine zH (yS (xP u27 T) (congrArg (Value.int .i64) R))<| zJ (.int .i64 0)<| (zG (zA (P _ _ ?_)))
  refine yH ?_
  unfold Fe1 at c
  obtain ⟨U,x,V,c⟩:=yX c
  refine xI [2,3,4,5,11,12,13,14,15,16,17,18,19,20,21,22,23,24,25,26,27,28,29,30,31,32,33,34,35] (fun (g:Nat×Int)=>[(11,.int .i64 g.2)]) (fun g wl=>Hd O w wl S [.fz (.sl rTrack v1 k)]∧loopN U g.1 g.2=some r) (fun g=>g.1) (x,0) (zL rfl zM) ⟨H.pick [0] (by decide),c⟩ ?_
  clear H c
  rintro ⟨x,h⟩ ρ bx ⟨H,c⟩
  obtain ⟨X,rfl,c⟩:=xC c
  have c:=xB V c
  refine zC fun bz Y=>zB ?_
  obtain ⟨Z,aa,c⟩:=zD c
  refine zH (zQ (xR (a:=h) (b:=Q) rfl rfl) aa)<| (zG (zA (Y _ _ ?_)))
  refine zC fun b0 ab=>?_
  refine zZ (b:=Z) rfl (fun m=>?_) (fun m=>?_)
  ·have c:=zS m c
   refine (yA (zA (ab _ _ ?_)))
   refine zC fun b1 ac=>?_
   refine yH ?_
   refine zC fun b2 ad=>zB ?_
   refine zJ (.int .i64 h) ?_
   obtain ⟨d,n,c⟩:=zF c
   obtain ⟨y,z,b3,b4,ae,af,ag,ah,ai⟩:=rd_at (H.item (i:=0) rfl) n
   obtain ⟨f,rfl,aj⟩:=rTrack_open af
   have H:=H.fzs [.at y (z+h.toNat * 4) _,.sl rSample f d.Series.Samples] ⟨⟨ag,ah,ai⟩,aj,trivial⟩
   refine zH (xE u27 sz37 ae rfl (yE n).1 (yE n).2.1 rfl rfl)<| zH (yS (yR (cs:=[.string (bs d.Name),.int .i64 d.Series.Den,f,.int .i64 d.Long]) agg37 rfl sz37 rfl (H.item (i:=1) rfl).2.2) rfl)<| yY rfl rfl (xQ zero37 H) ?_
   rintro _ b5 ⟨A,rfl,H⟩
   refine zK (.int .i64 h)<| xG rfl (xH (vs:=[.string (bs d.Name),.int .i64 d.Series.Den,f,.int .i64 d.Long]) H 3 rfl sz37 rfl rfl rfl ⟨rfl,rfl,(slf_one (H.item (i:=2) rfl)),rfl,trivial⟩ rfl) ?_
   rintro b6 H
   refine (zG (zA (ad _ _ ?_)))
   refine zC fun b7 ak=>?_
   refine zC fun b8 al=>zB ?_
   refine zH (fa37_0 rfl)<| zH (zN one9 rfl (Cells.get (Blk.cells (H.item (i:=3) rfl)) (i:=0) rfl)) ?_
   have am:=H
   obtain ⟨an,ao,c⟩:=zF c
   refine yG rfl rfl (yC en86 rfl) (Fakw d.Name _ ao _ _ _ (H.enter [] [] (by decide) rfl)) ?_
   rintro _ b9 ⟨rfl,ap⟩
   have H:=am.step (ap.only:Only [] _ _)
   refine ⟨_,rfl,?_⟩
   obtain ⟨aq,ar,c⟩:=zD c
   refine zH (zQ (wI (p:=an) rfl) ar)<| (zG (zA (al _ _ ?_)))
   refine zZ (b:=aq) rfl (fun o=>?_) (fun o=>?_)
   ·have c:=zS o c
    refine zC fun ca au=>zB ?_
    refine zK (.int .i64 8)<| (zG (zA (au _ _ ?_)))
    obtain rfl:=someI c
    refine (zY (zV (yF (zV (zV (yF (zV (post1 (v1:= .int .i64 8) rfl rfl ?_))))))))
    exact ⟨rfl,H.pick [] (by decide)⟩
   have c:=zT o c
   refine (yA (zA (ak _ _ ?_)))
   refine zC fun cb av=>?_
   refine zC fun cc aw=>zB ?_
   refine zJ v1<| zJ (.int .i64 h) ?_
   obtain ⟨q,ax,c⟩:=zF c
   refine RL_exP rfl rfl (Lx_slice_h u27 sz37 (H.item (i:=0) rfl) rfl rfl ax) ?_
   rintro s ay
   have H:=H.fz (.sl rTrack s q) ay
   refine zH (Do_makeFunc rfl) ?_
   obtain ⟨az,a0,c⟩:=zF c
   refine yG rfl rfl (yC en134 rfl) (Fbzw q d s A f _ a0 _ _ _ (H.enter [3] [4,2] (by decide) rfl)) ?_
   rintro _ a1 ⟨rfl,a2⟩
   have H:Hd _ _ a1 _ [.fz (.sl rTrack v1 k),.fz (.at y (z+h.toNat * 4) [.string (bs d.Name),.int .i64 d.Series.Den,f,.int .i64 d.Long]),.fz (.sl rSample f d.Series.Samples),.fz (.sl rTrack s q),.blk A [.string (bs d.Name),.int .i64 d.Series.Den,f,.int .i64 d.Long] 37]:=H.back [3] [4,2] rfl a2
   refine ⟨_,rfl,?_⟩
   refine (zG (zA (aw _ _ ?_)))
   refine zZ (b:=az) rfl (fun t=>?_) (fun t=>?_)
   ·have c:=zS t c
    refine zC fun cd a3=>zB ?_
    refine zK (.int .i64 5)<| (zG (zA (a3 _ _ ?_)))
    obtain rfl:=someI c
    refine (zY (zV (yF (zV (zV (yF (zV (post1 (v1:= .int .i64 5) rfl rfl ?_))))))))
    exact ⟨rfl,H.pick [] (by decide)⟩
   have c:=zT t c
   refine (yA (zA (av _ _ ?_)))
   refine zC fun ce a4=>?_
   refine zC fun cf a5=>zB ?_
   refine zH (fa37_1 rfl)<| zH (yS (yR (cs:=[.int .i64 d.Series.Den,f]) agg35 rfl sz35 rfl (Cells.drop (Blk.cells (H.item (i:=4) rfl)) 1 2)) rfl) ?_
   have a6:=H
   obtain ⟨j,a7,c⟩:=zF c
   refine yG rfl rfl (yC en139 rfl) (Fb2w d.Series f _ a7 _ _ _ (H.enter [] [2] (by decide) rfl)) ?_
   rintro _ cg ⟨rfl,a8⟩
   have H:=a6.step (a8.only:Only [] _ _)
   refine ⟨_,rfl,?_⟩
   refine zK (.int .i64 j)<| (zG (zA (a5 _ _ ?_)))
   refine zC fun ch a9=>zB ?_
   refine zJ (.int .i64 j) ?_
   obtain ⟨ba,bb,c⟩:=zD c
   refine zH (zQ (wH (a:=j) (b:=0) rfl rfl) bb)<| (zG (zA (a9 _ _ ?_)))
   refine zZ (b:=ba) rfl (fun u=>?_) (fun u=>?_)
   ·have c:=zS u c
    refine zC fun ci bc=>zB ?_
    refine zJ (.int .i64 j)<| zK (.int .i64 j)<| (zG (zA (bc _ _ ?_)))
    obtain rfl:=someI c
    refine (zY (zV (yF (zV (zV (yF (zV (post1 (v1:= .int .i64 j) rfl rfl ?_))))))))
    exact ⟨rfl,H.pick [] (by decide)⟩
   have c:=zT u c
   refine (yA (zA (a4 _ _ ?_)))
   refine zC fun cj bd=>zB ?_
   refine zH (fa37_2 rfl)<| zH (zN one3 rfl (Cells.get (Blk.cells (H.item (i:=4) rfl)) (i:=3) rfl)) ?_
   have be:=H
   obtain ⟨bf,bg,c⟩:=zF c
   refine yG rfl rfl (yC en76 rfl) (Faew d.Long 0 1099511627776 _ bg _ _ _ (H.enter [] [] (by decide) rfl)) ?_
   rintro _ ck ⟨rfl,bh⟩
   have H:=be.step (bh.only:Only [] _ _)
   refine ⟨_,rfl,?_⟩
   obtain ⟨bi,bj,c⟩:=zD c
   refine zH (zQ (wI (p:=bf) rfl) bj)<| (zG (zA (bd _ _ ?_)))
   refine zZ (b:=bi) rfl (fun v=>?_) (fun v=>?_)
   ·have c:=zS v c
    refine zC fun cl bk=>zB ?_
    refine zK (.int .i64 9)<| (zG (zA (bk _ _ ?_)))
    obtain rfl:=someI c
    refine (zY (yF (zV (zV (yF (zV (post1 (v1:= .int .i64 9) rfl rfl ?_)))))))
    exact ⟨rfl,H.pick [] (by decide)⟩
   have c:=zT v c
   refine (yA (yP (zA (ac _ _ ?_))))
   refine zB ?_
   obtain ⟨B,bl,c⟩:=zD c
   refine zH (xM (a:=h) (b:=1) rfl rfl bl)<| zJ (.int .i64 B) ?_
   exact (zG (zA (meet ⟨(X,B),(zL rfl zM),⟨H.pick [0] (by decide),c⟩,Nat.lt_succ_self _⟩)))
  have c:=zT m c
  exact (xO (yQ (yQ (yZ (zA (meet ⟨(),zM,⟨H.pick [] (by decide),c⟩⟩))))))
 rintro _ ρ cm ⟨H,c⟩
 have c:=wJ N c
 refine zC fun cn bm=>zB ?_
 refine zK (.int .i64 0)<| (zG (zA (bm _ _ ?_)))
 obtain rfl:=someI c
 refine (zY (post1 (v1:= .int .i64 0) rfl rfl ?_))
 exact ⟨rfl,H.pick [] (by decide)⟩
theorem Fbyw (d:Cond)(j:List Str)(v1:Value)(f:Nat)(h:Value)(r:Int×(List Str))(c:Fby d j=some r)(O S:List Nat)(w:World)(H:Hd O w w S [.own Rp.str h 9 j,.blk f [h] 22,.fz (.sl rCond v1 d.Kids)]):
  Calls Tryz.prog 196 ([.agg [.int .i64 d.Kind,.string (bs d.Name),.string (bs d.Other),.int .i64 d.Op,.int .i64 d.N,.int .i64 d.Frames,v1].toArray,ptr0 f]:List Value).toArray w fun e w'=> ∃n,e= .returned (.int .i64 r.1)∧Hd O w w' S [.own Rp.str n 9 r.2,.blk f [n] 22]:=by
 unfold Fby at c
 refine zW 23 Tryz.func196 rfl rfl rfl ?_
 refine zC fun R u=>zB ?_
 refine yY rfl rfl (xX (cs:=[.int .i64 d.Kind,.string (bs d.Name),.string (bs d.Other),.int .i64 d.Op,.int .i64 d.N,.int .i64 d.Frames,v1]) rfl H) ?_
 rintro _ T ⟨x,rfl,H⟩
 refine zK (.int .i64 0)<| (zG (zA (u _ _ ?_)))
 obtain ⟨y,c,z⟩:=zF c
 refine yK [4,5,6,7,8,9,10,11,12,13,14,15,16,17,18,19,20,21,22] (fun (g:Value)=>[]) (fun g wl=>Hd O w wl S [.own Rp.str g 9 y,.blk f [g] 22]) ?_ ?_
 ·skip
  refine zC fun U A=>zB ?_
  refine zH (fa70_0 rfl)<| zH (zN one3 rfl (Cells.get (Blk.cells (H.item (i:=3) rfl)) (i:=0) rfl))<| (zG (zA (A _ _ ?_)))
  refine yH ?_
  obtain ⟨o,c,B⟩:=zF c
  refine yK [6,7,8] (fun (g:Unit)=>[(6,.bool o)]) (fun g wl=>Hd O w wl S [.own Rp.str h 9 j,.blk f [h] 22,.fz (.sl rCond v1 d.Kids),.blk x [.int .i64 d.Kind,.string (bs d.Name),.string (bs d.Other),.int .i64 d.Op,.int .i64 d.N,.int .i64 d.Frames,v1] 70]) ?_ ?_
  ·skip
   refine zC fun V C=>zB ?_
   obtain ⟨p,D,c⟩:=zD c
   refine zH (zQ (xA (a:=d.Kind) (b:=3) rfl rfl) D)<| zK (.bool p)<| (zG (zA (C _ _ ?_)))
   refine zZ (b:=p) rfl (fun k=>?_) (fun k=>?_)
   ·have c:=zS k c
    obtain rfl:=someI c
    exact (yA (zA (meet ⟨(),(zL rfl zM),H.pick [0,1,2,3] (by decide)⟩)))
   have c:=zT k c
   refine zB ?_
   obtain ⟨E,F,c⟩:=zD c
   refine zH (zQ (xA (a:=d.Kind) (b:=5) rfl rfl) F)<| zK (.bool E) ?_
   obtain rfl:=someI c
   exact (zG (zA (meet ⟨(),(zL rfl zM),H.pick [0,1,2,3] (by decide)⟩)))
  rintro _ ρ X H
  have c:=B
  refine zZ (b:=o) rfl (fun l=>?_) (fun l=>?_)
  ·have c:=zS l c
   refine zB ?_
   refine zH (zN one22 rfl (Cells.get (Blk.cells (H.item (i:=1) rfl)) (i:=0) rfl))<| zH (fa70_1 rfl)<| zH (zN one9 rfl (Cells.get (Blk.cells (H.item (i:=3) rfl)) (i:=1) rfl)) ?_
   obtain ⟨Y,G,c⟩:=zD c
   subst G
   refine yY rfl rfl (Lx_bs (r:=Rp.str) (xl:=[d.Name]) (cs:=[.string (bs d.Name)]) u22 el9 (by decide) (by decide) rfl (wC (vs:=[.string (bs d.Name)]) (by decide) rfl rfl ⟨rfl,trivial⟩ rfl) H ⟨[.string (bs d.Name)],[],rfl,rfl,rfl⟩) ?_
   rintro Z aa H
   obtain ⟨ab,I,c⟩:=zF c
   refine yY rfl rfl (Lx_app H (i:=0) rfl u22 el9 rfl rfl (Sr.of_own (H.item (i:=4) rfl)) I) ?_
   rintro q ac H
   refine xG rfl (wE H 1 rfl sz22 rfl (v:=q) rfl (own_one (H.item (i:=0) rfl)) rfl) ?_
   rintro ad H
   obtain rfl:=someI c
   exact (zG (yP (zA (meet ⟨q,zM,H.pick [0,1] (by decide)⟩))))
  have c:=zT l c
  refine zC fun ae J=>zB ?_
  obtain ⟨s,K,c⟩:=zD c
  refine zH (zQ (xA (a:=d.Kind) (b:=4) rfl rfl) K)<| zK (.bool s)<| (zG (zA (J _ _ ?_)))
  refine zZ (b:=s) rfl (fun m=>?_) (fun m=>?_)
  ·have c:=zS m c
   refine zB ?_
   refine zH (zN one22 rfl (Cells.get (Blk.cells (H.item (i:=1) rfl)) (i:=0) rfl))<| zH (fa70_1 rfl)<| zH (zN one9 rfl (Cells.get (Blk.cells (H.item (i:=3) rfl)) (i:=1) rfl))<| zH (fa70_2 rfl)<| zH (zN one9 rfl (Cells.get (Blk.cells (H.item (i:=3) rfl)) (i:=2) rfl)) ?_
   obtain ⟨af,L,c⟩:=zD c
   subst L
   refine yY rfl rfl (Lx_bs (r:=Rp.str) (xl:=[d.Name,d.Other]) (cs:=[.string (bs d.Name),.string (bs d.Other)]) u22 el9 (by decide) (by decide) rfl (wC (vs:=[.string (bs d.Name),.string (bs d.Other)]) (by decide) rfl rfl ⟨rfl,rfl,trivial⟩ rfl) H ⟨[.string (bs d.Name)],[.string (bs d.Other)],rfl,rfl,⟨[.string (bs d.Other)],[],rfl,rfl,rfl⟩⟩) ?_
   rintro ag ah H
   obtain ⟨ai,M,c⟩:=zF c
   refine yY rfl rfl (Lx_app H (i:=0) rfl u22 el9 rfl rfl (Sr.of_own (H.item (i:=4) rfl)) M) ?_
   rintro t aj H
   refine xG rfl (wE H 1 rfl sz22 rfl (v:=t) rfl (own_one (H.item (i:=0) rfl)) rfl) ?_
   rintro ak H
   obtain rfl:=someI c
   exact (zG (yP (zA (meet ⟨t,zM,H.pick [0,1] (by decide)⟩))))
  have c:=zT m c
  obtain rfl:=someI c
  exact (yA (yP (zA (meet ⟨h,zM,H.pick [0,1] (by decide)⟩))))
 rintro P ρ al H
 have c:=z
 refine zC fun am Q=>zB ?_
 refine zK (.int .i64 0)<| (zG (zA (Q _ _ ?_)))
 obtain rfl:=someI c
 refine (zY (post1 (v1:= .int .i64 0) rfl rfl ?_))
 exact ⟨P,rfl,H.pick [0,1] (by decide)⟩
abbrev Fdv (f:Cond→(List Str)→Option (Int×(List Str))):Prop:= ∀(p0:Cond) (p1c0:List Str) (v1:Value) (b3:Nat) (v4:Value) (r:Int×(List Str)) (_:f p0 p1c0=some r) (O S:List Nat) (w:World) (_:Hd O w w S [.own Rp.str v4 9 p1c0,.blk b3 [v4] 22,.fz (.sl rCond v1 p0.Kids)]),
  Calls Tryz.prog 81 ([.agg [.int .i64 p0.Kind,.string (bs p0.Name),.string (bs p0.Other),.int .i64 p0.Op,.int .i64 p0.N,.int .i64 p0.Frames,v1].toArray,.func (.func 196) #[] #[ptr0 b3]]:List Value).toArray w fun e w'=> ∃u7,e= .returned (.int .i64 r.1)∧Hd O w w' S [.own Rp.str u7 9 r.2,.blk b3 [u7] 22]
theorem Fcmw (rfG:Cond→(List Str)→Option (Int×(List Str)))(rhG:Fdv rfG)(f:Cond)(p1c0:List Str)(v1:Value)(h:Nat)(p:Value)(r:Int×(List Str))(c:Fcm rfG f p1c0=some r)(O S:List Nat)(w:World)(H:Hd O w w S [.own Rp.str p 9 p1c0,.blk h [p] 22,.fz (.sl rCond v1 f.Kids)]):
  Calls Tryz.prog 81 ([.agg [.int .i64 f.Kind,.string (bs f.Name),.string (bs f.Other),.int .i64 f.Op,.int .i64 f.N,.int .i64 f.Frames,v1].toArray,.func (.func 196) #[] #[ptr0 h]]:List Value).toArray w fun e w'=> ∃v,e= .returned (.int .i64 r.1)∧Hd O w w' S [.own Rp.str v 9 r.2,.blk h [v] 22]:=by
 unfold Fcm at c
 refine zW 29 Tryz.func81 rfl rfl rfl ?_
 refine zC fun K8 F=>zB ?_
 refine yY rfl rfl (xX (cs:=[.int .i64 f.Kind,.string (bs f.Name),.string (bs f.Other),.int .i64 f.Op,.int .i64 f.N,.int .i64 f.Frames,v1]) rfl H) ?_
 rintro _ a5 ⟨G,rfl,H⟩
 refine zK (.int .i64 0)<| (zG (zA (F _ _ ?_)))
 refine zC fun a6 I=>?_
 refine zC fun a7 J=>zB ?_
 refine zJ (.func (.func 196) #[] #[ptr0 h])<| zH (yS (yR (cs:=[.int .i64 f.Kind,.string (bs f.Name),.string (bs f.Other),.int .i64 f.Op,.int .i64 f.N,.int .i64 f.Frames,v1]) agg70 rfl sz70 rfl (Blk.cells (H.item (i:=3) rfl))) rfl) ?_
 obtain ⟨⟨k,x⟩,K,c⟩:=zF c
 refine yG rfl rfl (DoC_clo en196 rfl rfl) (Fbyw f p1c0 v1 h p _ K _ _ _ (H.enter [0,1] [2] (by decide) rfl)) ?_
 rintro _ L ⟨m,rfl,M⟩
 have H:Hd _ _ L _ [.fz (.sl rCond v1 f.Kids),.blk G [.int .i64 f.Kind,.string (bs f.Name),.string (bs f.Other),.int .i64 f.Op,.int .i64 f.N,.int .i64 f.Frames,v1] 70,.own Rp.str m 9 x,.blk h [m] 22]:=H.back [0,1] [2] rfl M
 refine ⟨_,rfl,?_⟩
 refine zK (.int .i64 k)<| (zG (zA (J _ _ ?_)))
 refine zC fun a8 P=>zB ?_
 refine zJ (.int .i64 k) ?_
 obtain ⟨Q,R,c⟩:=zD c
 refine zH (zQ (wH (a:=k) (b:=0) rfl rfl) R)<| (zG (zA (P _ _ ?_)))
 refine zZ (b:=Q) rfl (fun q=>?_) (fun q=>?_)
 ·have c:=zS q c
  refine zC fun a9 T=>zB ?_
  refine zJ (.int .i64 k)<| zK (.int .i64 k)<| (zG (zA (T _ _ ?_)))
  obtain rfl:=someI c
  refine (zY (zV (post1 (v1:= .int .i64 k) rfl rfl ?_)))
  exact ⟨m,rfl,H.pick [2,3] (by decide)⟩
 have c:=zT q c
 refine (yA (zA (I _ _ ?_)))
 obtain ⟨U,V,c⟩:=xZ c
 refine yK [4,7,8,15,16,17,18,19,20,21,22,23,24,25,26,27,28] (fun (g:(List Str)×Value)=>[]) (fun g wl=>Hd O w wl S [.blk h [g.2] 22,.own Rp.str g.2 9 g.1]∧U g.1=some r) ?_ ?_
 ·skip
  refine zC fun ba X=>zB ?_
  refine zH (fa70_6 rfl)<| zH (zN one68 rfl (Cells.get (Blk.cells (H.item (i:=1) rfl)) (i:=6) rfl)) ?_
  obtain ⟨Y,Z,c⟩:=zD c
  obtain ⟨bb,bc,aa⟩:=SlF.len ((H.item (i:=0) rfl))
  refine zH (yS (xP u68 aa) (congrArg (Value.int .i64) Z))<| zJ (.int .i64 0)<| (zG (zA (X _ _ ?_)))
  refine yH ?_
  unfold Fd3 at c
  obtain ⟨ab,y,ac,c⟩:=yX c
  refine xI [4,7,8,18,19,20,21,22,23,24,25,26,27,28] (fun (g:Nat×Int×(List Str)×Value)=>[(18,.int .i64 g.2.1)]) (fun g wl=>Hd O w wl S [.fz (.sl rCond v1 f.Kids),.blk h [g.2.2.2] 22,.own Rp.str g.2.2.2 9 g.2.2.1]∧loopN ab g.1 (g.2.1,g.2.2.1)=some r) (fun g=>g.1) (y,0,x,m) (zL rfl zM) ⟨H.pick [0,3,2] (by decide),c⟩ ?_
  clear H c
  rintro ⟨y,n,z,A⟩ ρ bd ⟨H,c⟩
  obtain ⟨ad,rfl,c⟩:=xC c
  have c:=xB ac c
  refine zC fun be ae=>zB ?_
  obtain ⟨af,ag,c⟩:=zD c
  refine zH (zQ (xR (a:=n) (b:=Y) rfl rfl) ag)<| (zG (zA (ae _ _ ?_)))
  refine zC fun bf ah=>?_
  refine zZ (b:=af) rfl (fun s=>?_) (fun s=>?_)
  ·have c:=zS s c
   refine (yA (zA (ah _ _ ?_)))
   refine zC fun bg ai=>?_
   refine yH ?_
   refine zC fun bh aj=>zB ?_
   obtain ⟨d,t,c⟩:=zF c
   obtain ⟨B,C,bi,bj,ak,al,am,an,ao⟩:=rd_at (H.item (i:=0) rfl) t
   obtain ⟨j,rfl,ap⟩:=rCond_open al
   have H:=H.fzs [.at B (C+n.toNat * 7) _,.sl rCond j d.Kids] ⟨⟨am,an,ao⟩,ap,trivial⟩
   refine zH (xE u68 sz70 ak rfl (yE t).1 (yE t).2.1 rfl rfl)<| zH (yS (yR (cs:=[.int .i64 d.Kind,.string (bs d.Name),.string (bs d.Other),.int .i64 d.Op,.int .i64 d.N,.int .i64 d.Frames,j]) agg70 rfl sz70 rfl (H.item (i:=3) rfl).2.2) rfl)<| yY rfl rfl (xQ zero70 H) ?_
   rintro _ bk ⟨aq,rfl,H⟩
   refine xG rfl (xH (vs:=[.int .i64 d.Kind,.string (bs d.Name),.string (bs d.Other),.int .i64 d.Op,.int .i64 d.N,.int .i64 d.Frames,j]) H 5 rfl sz70 rfl rfl rfl ⟨rfl,rfl,rfl,rfl,rfl,rfl,(slf_one (H.item (i:=4) rfl)),trivial⟩ rfl) ?_
   rintro bl H
   refine (zG (zA (aj _ _ ?_)))
   refine zC fun bm ar=>zB ?_
   refine zH (yS (yR (cs:=[.int .i64 d.Kind,.string (bs d.Name),.string (bs d.Other),.int .i64 d.Op,.int .i64 d.N,.int .i64 d.Frames,j]) agg70 rfl sz70 rfl (Blk.cells (H.item (i:=5) rfl))) rfl)<| zJ (.func (.func 196) #[] #[ptr0 h]) ?_
   obtain ⟨⟨l,D⟩,au,c⟩:=zF c
   refine yG rfl rfl (yC en81 rfl) (rhG d z j h A _ au _ _ _ (H.enter [2,1] [4] (by decide) rfl)) ?_
   rintro _ av ⟨o,rfl,aw⟩
   have H:Hd _ _ av _ [.fz (.sl rCond v1 f.Kids),.fz (.at B (C+n.toNat * 7) [.int .i64 d.Kind,.string (bs d.Name),.string (bs d.Other),.int .i64 d.Op,.int .i64 d.N,.int .i64 d.Frames,j]),.fz (.sl rCond j d.Kids),.blk aq [.int .i64 d.Kind,.string (bs d.Name),.string (bs d.Other),.int .i64 d.Op,.int .i64 d.N,.int .i64 d.Frames,j] 70,.own Rp.str o 9 D,.blk h [o] 22]:=H.back [2,1] [4] rfl aw
   refine ⟨_,rfl,?_⟩
   refine zK (.int .i64 l)<| (zG (zA (ar _ _ ?_)))
   refine zC fun bn ax=>zB ?_
   refine zJ (.int .i64 l) ?_
   obtain ⟨ay,az,c⟩:=zD c
   refine zH (zQ (wH (a:=l) (b:=0) rfl rfl) az)<| (zG (zA (ax _ _ ?_)))
   refine zZ (b:=ay) rfl (fun u=>?_) (fun u=>?_)
   ·have c:=zS u c
    refine zC fun bo a0=>zB ?_
    refine zJ (.int .i64 l)<| zK (.int .i64 l)<| (zG (zA (a0 _ _ ?_)))
    obtain rfl:=someI c
    refine (zY (yF (zV (zV (yF (zV (post1 (v1:= .int .i64 l) rfl rfl ?_)))))))
    exact ⟨o,rfl,H.pick [4,5] (by decide)⟩
   have c:=zT u c
   refine (yA (yP (zA (ai _ _ ?_))))
   refine zB ?_
   obtain ⟨E,a1,c⟩:=zD c
   refine zH (xM (a:=n) (b:=1) rfl rfl a1)<| zJ (.int .i64 E) ?_
   exact (zG (zA (meet ⟨(ad,E,D,o),(zL rfl zM),⟨H.pick [0,5,4] (by decide),c⟩,Nat.lt_succ_self _⟩)))
  have c:=zT s c
  exact (xO (yQ (yQ (yZ (zA (meet ⟨(z,A),zM,⟨H.pick [1,2] (by decide),c⟩⟩))))))
 rintro ⟨bp,a2⟩ ρ bq ⟨H,c⟩
 have c:=wJ V c
 refine zC fun br a3=>zB ?_
 refine zK (.int .i64 0)<| (zG (zA (a3 _ _ ?_)))
 obtain rfl:=someI c
 refine (zY (post1 (v1:= .int .i64 0) rfl rfl ?_))
 exact ⟨a2,rfl,H.pick [1,0] (by decide)⟩
theorem Ffd:Fdv (Fd4):=by
 have h: ∀n,Fdv (Fay n):=by
  intro n
  induction n with
  | zero=>intro b p1c0 c d e r a; cases a
  | succ n ih=>intro b p1c0 c d e r a; exact Fcmw (Fay n) ih b p1c0 c d e r a
 exact h FU
theorem Fa8w (a:Cond)(v1:Value)(r:(List Str))(c:Fa8 a=some r)(O S:List Nat)(w:World)(H:Hd O w w S [.fz (.sl rCond v1 a.Kids)]):
  Calls Tryz.prog 152 ([.agg [.int .i64 a.Kind,.string (bs a.Name),.string (bs a.Other),.int .i64 a.Op,.int .i64 a.N,.int .i64 a.Frames,v1].toArray]:List Value).toArray w fun e w'=> ∃u3,e= .returned (u3)∧Hd O w w' S [.own Rp.str u3 9 r]:=by
 unfold Fa8 at c
 refine zW 8 Tryz.func152 rfl rfl rfl ?_
 refine zC fun q f=>zB ?_
 refine yY rfl rfl (xX (cs:=[.int .i64 a.Kind,.string (bs a.Name),.string (bs a.Other),.int .i64 a.Op,.int .i64 a.N,.int .i64 a.Frames,v1]) rfl H) ?_
 rintro _ s ⟨h,rfl,H⟩
 refine zK (.slice none 0 0)<| (zG (zA (f _ _ ?_)))
 refine zC fun t j=>zB ?_
 refine yY rfl rfl (xQ zero22 H) ?_
 rintro _ u ⟨d,rfl,H⟩
 refine (zG (zA (j _ _ ?_)))
 refine zC fun v k=>zB ?_
 refine zH (yS (yR (cs:=[.int .i64 a.Kind,.string (bs a.Name),.string (bs a.Other),.int .i64 a.Op,.int .i64 a.N,.int .i64 a.Frames,v1]) agg70 rfl sz70 rfl (Blk.cells (H.item (i:=1) rfl))) rfl)<| zH (Do_makeFunc rfl) ?_
 have H:=own_nil H Rp.str 9
 obtain ⟨⟨x,l⟩,m,c⟩:=zF c
 refine yG rfl rfl (yC en81 rfl) (Ffd a [] v1 d (.slice none 0 0) _ m _ _ _ (H.enter [3,2] [0] (by decide) rfl)) ?_
 rintro _ n ⟨b,rfl,o⟩
 have H:Hd _ _ n _ [.fz (.sl rCond v1 a.Kids),.blk h [.int .i64 a.Kind,.string (bs a.Name),.string (bs a.Other),.int .i64 a.Op,.int .i64 a.N,.int .i64 a.Frames,v1] 70,.own Rp.str b 9 l,.blk d [b] 22]:=H.back [3,2] [0] rfl o
 refine ⟨_,rfl,?_⟩
 refine (zG (zA (k _ _ ?_)))
 refine zC fun y p=>zB ?_
 refine zH (zN one22 rfl (Cells.get (Blk.cells (H.item (i:=3) rfl)) (i:=0) rfl))<| zK b<| (zG (zA (p _ _ ?_)))
 obtain rfl:=someI c
 refine (zY (post1 (v1:=b) rfl rfl ?_))
 exact ⟨b,rfl,H.pick [2] (by decide)⟩
theorem Fa7w (h:Rules)(v1:Value)(k:Value)(j:Value)(r:(List Str))(c:Fa7 h=some r)(O S:List Nat)(w:World)(H:Hd O w w S [.fz (.sl Rp.str v1 h.Phases),.fz (.sl rMoveT k h.Moves),.fz (.sl rRule j h.Rules)]):
  Calls Tryz.prog 95 ([.agg [v1,k,j].toArray]:List Value).toArray w fun e w'=> ∃z,e= .returned (z)∧Hd O w w' S [.own Rp.str z 9 r]:=by
 unfold Fa7 at c
 refine zW 38 Tryz.func95 rfl rfl rfl ?_
 refine zC fun K8 M=>zB ?_
 refine yY rfl rfl (xX (cs:=[v1,k,j]) rfl H) ?_
 rintro _ bz ⟨A,rfl,H⟩
 refine zK (.slice none 0 0)<| (zG (zA (M _ _ ?_)))
 refine zC fun b0 P=>zB ?_
 refine zK (.slice none 0 0)<| (zG (zA (P _ _ ?_)))
 obtain ⟨p,c,Q⟩:=zF c
 refine yK [3,5,8,9,10,11,12,13,14,15,16,17,18,19,20] (fun (g:Value)=>[(3,g)]) (fun g wl=>Hd O w wl S [.own Rp.str g 9 p,.fz (.sl Rp.str v1 h.Phases),.fz (.sl rMoveT k h.Moves),.fz (.sl rRule j h.Rules),.blk A [v1,k,j] 26]) ?_ ?_
 ·skip
  refine zC fun b1 R=>zB ?_
  refine zH (fa26_1 rfl)<| zH (zN one23 rfl (Cells.get (Blk.cells (H.item (i:=3) rfl)) (i:=1) rfl)) ?_
  obtain ⟨T,U,c⟩:=zD c
  obtain ⟨b2,b3,V⟩:=SlF.len ((H.item (i:=1) rfl))
  refine zH (yS (xP u23 V) (congrArg (Value.int .i64) U))<| zJ (.int .i64 0)<| (zG (zA (R _ _ ?_)))
  refine yH ?_
  have H:=own_nil H Rp.str 9
  unfold Fci at c
  obtain ⟨X,B,Y,c⟩:=yX c
  refine xI [3,5,11,12,13,14,15,16,17,18,19,20] (fun (g:Nat×(List Str)×Int×Value)=>[(3,g.2.2.2),(11,.int .i64 g.2.2.1)]) (fun g wl=>Hd O w wl S [.own Rp.str g.2.2.2 9 g.2.1,.fz (.sl Rp.str v1 h.Phases),.fz (.sl rMoveT k h.Moves),.fz (.sl rRule j h.Rules),.blk A [v1,k,j] 26]∧loopN X g.1 (g.2.1,g.2.2.1)=some p) (fun g=>g.1) (B,[],0,.slice none 0 0) (zL rfl (zL rfl zM)) ⟨H.pick [4,0,1,2,3] (by decide),c⟩ ?_
  clear H c
  rintro ⟨B,b4,q,C⟩ ρ b5 ⟨H,c⟩
  obtain ⟨Z,rfl,c⟩:=xC c
  have c:=xB Y c
  refine zC fun b6 aa=>zB ?_
  obtain ⟨ab,ac,c⟩:=zD c
  refine zH (zQ (xR (a:=q) (b:=T) rfl rfl) ac)<| (zG (zA (aa _ _ ?_)))
  refine zC fun b7 ad=>?_
  refine zZ (b:=ab) rfl (fun s=>?_) (fun s=>?_)
  ·have c:=zS s c
   refine (yA (zA (ad _ _ ?_)))
   refine zC fun b8 ae=>?_
   refine yH ?_
   refine zC fun b9 af=>zB ?_
   obtain ⟨d,t,c⟩:=zF c
   obtain ⟨ag,ah,ca,cb,ai,aj,ak,al,am⟩:=rd_at (H.item (i:=2) rfl) t
   obtain ⟨l,rfl,an⟩:=rMoveT_open aj
   have H:=H.fzs [.at ag (ah+q.toNat * 9) _,.sl rCond l d.When.Kids] ⟨⟨ak,al,am⟩,an,trivial⟩
   refine zH (xE u23 sz122 ai rfl (yE t).1 (yE t).2.1 rfl rfl)<| zH (yS (yR (cs:=[.string (bs d.From),.string (bs d.To),.int .i64 d.When.Kind,.string (bs d.When.Name),.string (bs d.When.Other),.int .i64 d.When.Op,.int .i64 d.When.N,.int .i64 d.When.Frames,l]) agg122 rfl sz122 rfl (H.item (i:=5) rfl).2.2) rfl)<| yY rfl rfl (xQ zero122 H) ?_
   rintro _ cc ⟨cd,rfl,H⟩
   refine xG rfl (xH (vs:=[.string (bs d.From),.string (bs d.To),.int .i64 d.When.Kind,.string (bs d.When.Name),.string (bs d.When.Other),.int .i64 d.When.Op,.int .i64 d.When.N,.int .i64 d.When.Frames,l]) H 7 rfl sz122 rfl rfl rfl ⟨rfl,rfl,rfl,rfl,rfl,rfl,rfl,rfl,(slf_one (H.item (i:=6) rfl)),trivial⟩ rfl) ?_
   rintro ce H
   refine (zG (zA (af _ _ ?_)))
   refine zB ?_
   refine zJ C<| zH (fa122_2 rfl)<| zH (yS (yR (cs:=[.int .i64 d.When.Kind,.string (bs d.When.Name),.string (bs d.When.Other),.int .i64 d.When.Op,.int .i64 d.When.N,.int .i64 d.When.Frames,l]) agg70 rfl sz70 rfl (Cells.drop (Blk.cells (H.item (i:=7) rfl)) 2 7)) rfl) ?_
   obtain ⟨cf,ao,c⟩:=zF c
   refine yG rfl rfl (yC en152 rfl) (Fa8w d.When l _ ao _ _ _ (H.enter [] [6] (by decide) rfl)) ?_
   rintro _ cg ⟨ch,rfl,ap⟩
   have H:=H.back1 [6] rfl ap
   refine ⟨_,rfl,?_⟩
   obtain ⟨aq,ar,c⟩:=zF c
   refine yY rfl rfl (Lx_app H (i:=0) rfl u22 el9 rfl rfl (Sr.of_own (H.item (i:=8) rfl)) ar) ?_
   rintro D ci H
   refine zK D<| (zG (yP (zA (ae _ _ ?_))))
   refine zB ?_
   obtain ⟨F,au,c⟩:=zD c
   refine zH (xM (a:=q) (b:=1) rfl rfl au)<| zJ (.int .i64 F) ?_
   exact (zG (zA (meet ⟨(Z,aq,F,D),(zL rfl (zL rfl zM)),⟨H.pick [0,1,2,3,4] (by decide),c⟩,Nat.lt_succ_self _⟩)))
  have c:=zT s c
  obtain rfl:=someI c
  exact (xO (yQ (yQ (yZ (zA (meet ⟨C,(zL rfl zM),H.pick [0,1,2,3,4] (by decide)⟩))))))
 rintro av ρ cj H
 have c:=Q
 obtain ⟨u,c,aw⟩:=zF c
 refine yK [3,7,21,22,23,24,25,26,27,28,29,30,31,32,33] (fun (g:Value)=>[(3,g)]) (fun g wl=>Hd O w wl S [.own Rp.str g 9 u]) ?_ ?_
 ·skip
  refine zC fun ck ax=>zB ?_
  refine zH (fa26_2 rfl)<| zH (zN one24 rfl (Cells.get (Blk.cells (H.item (i:=4) rfl)) (i:=2) rfl)) ?_
  obtain ⟨ay,az,c⟩:=zD c
  obtain ⟨cl,cm,a0⟩:=SlF.len ((H.item (i:=3) rfl))
  refine zH (yS (xP u24 a0) (congrArg (Value.int .i64) az))<| zJ (.int .i64 0)<| (zG (zA (ax _ _ ?_)))
  refine yH ?_
  unfold Fb3 at c
  obtain ⟨a1,G,a2,c⟩:=yX c
  refine xI [3,7,24,25,26,27,28,29,30,31,32,33] (fun (g:Nat×(List Str)×Int×Value)=>[(3,g.2.2.2),(24,.int .i64 g.2.2.1)]) (fun g wl=>Hd O w wl S [.own Rp.str g.2.2.2 9 g.2.1,.fz (.sl rRule j h.Rules)]∧loopN a1 g.1 (g.2.1,g.2.2.1)=some u) (fun g=>g.1) (G,p,0,av) (zL rfl (zL rfl zM)) ⟨H.pick [0,3] (by decide),c⟩ ?_
  clear H c
  rintro ⟨G,cn,v,I⟩ ρ co ⟨H,c⟩
  obtain ⟨a3,rfl,c⟩:=xC c
  have c:=xB a2 c
  refine zC fun cp a4=>zB ?_
  obtain ⟨a5,a6,c⟩:=zD c
  refine zH (zQ (xR (a:=v) (b:=ay) rfl rfl) a6)<| (zG (zA (a4 _ _ ?_)))
  refine zC fun cq a7=>?_
  refine zZ (b:=a5) rfl (fun x=>?_) (fun x=>?_)
  ·have c:=zS x c
   refine (yA (zA (a7 _ _ ?_)))
   refine zC fun cr a8=>?_
   refine yH ?_
   refine zC fun ct a9=>zB ?_
   obtain ⟨f,y,c⟩:=zF c
   obtain ⟨ba,bb,cu,cv,bc,bd,be,bf,bg⟩:=rd_at (H.item (i:=1) rfl) y
   obtain ⟨m,rfl,bh⟩:=rRule_open bd
   have H:=H.fzs [.at ba (bb+v.toNat * 8) _,.sl rCond m f.When.Kids] ⟨⟨be,bf,bg⟩,bh,trivial⟩
   refine zH (xE u24 sz95 bc rfl (yE y).1 (yE y).2.1 rfl rfl)<| zH (yS (yR (cs:=[.string (bs f.Name),.int .i64 f.When.Kind,.string (bs f.When.Name),.string (bs f.When.Other),.int .i64 f.When.Op,.int .i64 f.When.N,.int .i64 f.When.Frames,m]) agg95 rfl sz95 rfl (H.item (i:=2) rfl).2.2) rfl)<| yY rfl rfl (xQ zero95 H) ?_
   rintro _ cw ⟨cx,rfl,H⟩
   refine xG rfl (xH (vs:=[.string (bs f.Name),.int .i64 f.When.Kind,.string (bs f.When.Name),.string (bs f.When.Other),.int .i64 f.When.Op,.int .i64 f.When.N,.int .i64 f.When.Frames,m]) H 4 rfl sz95 rfl rfl rfl ⟨rfl,rfl,rfl,rfl,rfl,rfl,rfl,(slf_one (H.item (i:=3) rfl)),trivial⟩ rfl) ?_
   rintro cy H
   refine (zG (zA (a9 _ _ ?_)))
   refine zB ?_
   refine zJ I<| zH (fa95_1 rfl)<| zH (yS (yR (cs:=[.int .i64 f.When.Kind,.string (bs f.When.Name),.string (bs f.When.Other),.int .i64 f.When.Op,.int .i64 f.When.N,.int .i64 f.When.Frames,m]) agg70 rfl sz70 rfl (Cells.drop (Blk.cells (H.item (i:=4) rfl)) 1 7)) rfl) ?_
   obtain ⟨cz,bi,c⟩:=zF c
   refine yG rfl rfl (yC en152 rfl) (Fa8w f.When m _ bi _ _ _ (H.enter [] [3] (by decide) rfl)) ?_
   rintro _ c0 ⟨c1,rfl,bj⟩
   have H:=H.back1 [3] rfl bj
   refine ⟨_,rfl,?_⟩
   obtain ⟨bk,bl,c⟩:=zF c
   refine yY rfl rfl (Lx_app H (i:=0) rfl u22 el9 rfl rfl (Sr.of_own (H.item (i:=5) rfl)) bl) ?_
   rintro J c2 H
   refine zK J<| (zG (yP (zA (a8 _ _ ?_))))
   refine zB ?_
   obtain ⟨K,bm,c⟩:=zD c
   refine zH (xM (a:=v) (b:=1) rfl rfl bm)<| zJ (.int .i64 K) ?_
   exact (zG (zA (meet ⟨(a3,bk,K,J),(zL rfl (zL rfl zM)),⟨H.pick [0,1] (by decide),c⟩,Nat.lt_succ_self _⟩)))
  have c:=zT x c
  obtain rfl:=someI c
  exact (xO (yQ (yQ (yZ (zA (meet ⟨I,(zL rfl zM),H.pick [0] (by decide)⟩))))))
 rintro n ρ c3 H
 have c:=aw
 refine zC fun c4 bn=>zB ?_
 refine zJ n ?_
 obtain ⟨L,bo,c⟩:=zF c
 refine yG rfl rfl (yC en153 rfl) (E.Fc8w u n _ bo _ _ _ (H.enter [0] [] (by decide) rfl)) ?_
 rintro _ bp ⟨rfl,bq⟩
 have H:Hd _ _ bp _ [.own Rp.str n 9 L]:=H.back [0] [] rfl bq
 refine ⟨_,rfl,?_⟩
 refine (zG (zA (bn _ _ ?_)))
 refine zC fun c5 br=>zB ?_
 refine zJ n ?_
 obtain ⟨bt,bu,c⟩:=zF c
 refine yG rfl rfl (yC en155 rfl) (E.Fcyw L n _ bu _ _ _ (H.enter [0] [] (by decide) rfl)) ?_
 rintro _ bv ⟨o,rfl,bw⟩
 have H:Hd _ _ bv _ [.own Rp.str o 9 bt]:=H.back [0] [] rfl bw
 refine ⟨_,rfl,?_⟩
 refine zK o<| (zG (zA (br _ _ ?_)))
 obtain rfl:=someI c
 refine (zY (post1 (v1:=o) rfl rfl ?_))
 exact ⟨o,rfl,H.pick [0] (by decide)⟩
theorem Fc5w (a:Track)(b:Str)(v1:Value)(d:Nat)(r:Bool)(c:Fc5 a b=some r)(O S:List Nat)(w:World)(H:Hd O w w S [.blk d [.string (bs b)] 9,.fz (.sl rSample v1 a.Series.Samples)]):
  Calls Tryz.prog 135 ([.agg [.string (bs a.Name),.int .i64 a.Series.Den,v1,.int .i64 a.Long].toArray,ptr0 d]:List Value).toArray w fun e w'=>e= .returned (.bool r)∧Hd O w w' S [.blk d [.string (bs b)] 9]:=by
 unfold Fc5 at c
 refine zW 8 Tryz.func135 rfl rfl rfl ?_
 refine zC fun l h=>zB ?_
 refine yY rfl rfl (xX (cs:=[.string (bs a.Name),.int .i64 a.Series.Den,v1,.int .i64 a.Long]) rfl H) ?_
 rintro _ m ⟨n,rfl,H⟩
 refine zK (.bool false)<| (zG (zA (h _ _ ?_)))
 refine zC fun o j=>zB ?_
 refine zH (fa37_0 rfl)<| zH (zN one9 rfl (Cells.get (Blk.cells (H.item (i:=2) rfl)) (i:=0) rfl))<| zH (zN one9 rfl (Cells.get (Blk.cells (H.item (i:=0) rfl)) (i:=0) rfl)) ?_
 obtain ⟨f,k,c⟩:=zD c
 refine zH (zQ (Do_eqls (s1:=a.Name) (s2:=b) rfl rfl) k)<| zK (.bool f)<| (zG (zA (j _ _ ?_)))
 obtain rfl:=someI c
 refine (zY (post1 (v1:= .bool f) rfl rfl ?_))
 exact ⟨rfl,H.pick [0] (by decide)⟩
theorem Fcjw (k:List Track)(p1c0:Str)(v1:Value)(h:Nat)(r:Int)(c:Fcj k p1c0=some r)(O S:List Nat)(w:World)(H:Hd O w w S [.blk h [.string (bs p1c0)] 9,.fz (.sl rTrack v1 k)]):
  Calls Tryz.prog 189 ([v1,.func (.func 135) #[] #[ptr0 h]]:List Value).toArray w fun e w'=>e= .returned (.int .i64 r)∧Hd O w w' S [.blk h [.string (bs p1c0)] 9]:=by
 unfold Fcj at c
 refine zW 19 Tryz.func189 rfl rfl rfl ?_
 refine zC fun K5 t=>zB ?_
 refine zK (.int .i64 0)<| (zG (zA (t _ _ ?_)))
 obtain ⟨u,v,c⟩:=xZ c
 refine yK [4,5,6,7,8,9,10,11,12,13,14,15,16,17,18] (fun (g:Unit)=>[]) (fun g wl=>Hd O w wl S [.blk h [.string (bs p1c0)] 9]∧u ()=some r) ?_ ?_
 ·skip
  refine zC fun ad x=>zB ?_
  refine zJ v1 ?_
  obtain ⟨y,z,c⟩:=zD c
  obtain ⟨ae,af,A⟩:=SlF.len ((H.item (i:=1) rfl))
  refine zH (yS (xP u27 A) (congrArg (Value.int .i64) z))<| zJ (.int .i64 0)<| (zG (zA (x _ _ ?_)))
  refine yH ?_
  unfold Fex at c
  obtain ⟨B,o,C,c⟩:=yX c
  refine xI [4,5,8,9,10,11,12,13,14,15,16,17,18] (fun (g:Nat×Int)=>[(8,.int .i64 g.2)]) (fun g wl=>Hd O w wl S [.blk h [.string (bs p1c0)] 9,.fz (.sl rTrack v1 k)]∧loopN B g.1 g.2=some r) (fun g=>g.1) (o,0) (zL rfl zM) ⟨H.pick [0,1] (by decide),c⟩ ?_
  clear H c
  rintro ⟨o,d⟩ ρ ag ⟨H,c⟩
  obtain ⟨D,rfl,c⟩:=xC c
  have c:=xB C c
  refine zC fun ah E=>zB ?_
  obtain ⟨F,G,c⟩:=zD c
  refine zH (zQ (xR (a:=d) (b:=y) rfl rfl) G)<| (zG (zA (E _ _ ?_)))
  refine zC fun ai I=>?_
  refine zZ (b:=F) rfl (fun l=>?_) (fun l=>?_)
  ·have c:=zS l c
   refine (yA (zA (I _ _ ?_)))
   refine zC fun aj J=>?_
   refine yH ?_
   refine zC fun ak K=>zB ?_
   refine zJ (.int .i64 d)<| zK (.int .i64 d)<| (zG (zA (K _ _ ?_)))
   refine zC fun al L=>zB ?_
   refine zJ (.func (.func 135) #[] #[ptr0 h])<| zJ v1<| zJ (.int .i64 d) ?_
   obtain ⟨f,m,c⟩:=zF c
   obtain ⟨p,q,am,an,M,N,P,Q,R⟩:=rd_at (H.item (i:=1) rfl) m
   obtain ⟨j,rfl,T⟩:=rTrack_open N
   have H:=H.fzs [.at p (q+d.toNat * 4) _,.sl rSample j f.Series.Samples] ⟨⟨P,Q,R⟩,T,trivial⟩
   refine zH (xE u27 sz37 M rfl (yE m).1 (yE m).2.1 rfl rfl)<| zH (yS (yR (cs:=[.string (bs f.Name),.int .i64 f.Series.Den,j,.int .i64 f.Long]) agg37 rfl sz37 rfl (H.item (i:=2) rfl).2.2) rfl) ?_
   obtain ⟨U,V,c⟩:=zF c
   refine yG rfl rfl (DoC_clo en135 rfl rfl) (Fc5w f p1c0 j h _ V _ _ _ (H.enter [0] [3] (by decide) rfl)) ?_
   rintro _ X ⟨rfl,Y⟩
   have H:Hd _ _ X _ [.fz (.sl rTrack v1 k),.fz (.at p (q+d.toNat * 4) [.string (bs f.Name),.int .i64 f.Series.Den,j,.int .i64 f.Long]),.fz (.sl rSample j f.Series.Samples),.blk h [.string (bs p1c0)] 9]:=H.back [0] [3] rfl Y
   refine ⟨_,rfl,?_⟩
   refine (zG (zA (L _ _ ?_)))
   refine zZ (b:=U) rfl (fun n=>?_) (fun n=>?_)
   ·have c:=zS n c
    refine zC fun ao Z=>zB ?_
    refine zJ (.int .i64 d)<| zK (.int .i64 d)<| (zG (zA (Z _ _ ?_)))
    obtain rfl:=someI c
    refine (zY (yF (zV (zV (yF (zV (post1 (v1:= .int .i64 d) rfl rfl ?_)))))))
    exact ⟨rfl,H.pick [3] (by decide)⟩
   have c:=zT n c
   refine (yA (yP (zA (J _ _ ?_))))
   refine zB ?_
   obtain ⟨s,aa,c⟩:=zD c
   refine zH (xM (a:=d) (b:=1) rfl rfl aa)<| zJ (.int .i64 s) ?_
   exact (zG (zA (meet ⟨(D,s),(zL rfl zM),⟨H.pick [3,0] (by decide),c⟩,Nat.lt_succ_self _⟩)))
  have c:=zT l c
  exact (xO (yQ (yQ (yZ (zA (meet ⟨(),zM,⟨H.pick [0] (by decide),c⟩⟩))))))
 rintro _ ρ ap ⟨H,c⟩
 have c:=wJ v c
 refine zC fun aq ab=>zB ?_
 refine zK (.int .i64 (-1))<| (zG (zA (ab _ _ ?_)))
 obtain rfl:=someI c
 refine (zY (post1 (v1:= .int .i64 (-1)) rfl rfl ?_))
 exact ⟨rfl,H.pick [0] (by decide)⟩
theorem Fb5w (f:List Track)(p1c0:Str)(v1:Value)(c:Nat)(r:Bool)(d:Fb5 f p1c0=some r)(O S:List Nat)(w:World)(H:Hd O w w S [.blk c [.string (bs p1c0)] 9,.fz (.sl rTrack v1 f)]):
  Calls Tryz.prog 134 ([v1,.func (.func 135) #[] #[ptr0 c]]:List Value).toArray w fun e w'=>e= .returned (.bool r)∧Hd O w w' S [.blk c [.string (bs p1c0)] 9]:=by
 unfold Fb5 at d
 refine zW 9 Tryz.func134 rfl rfl rfl ?_
 refine zC fun p i=>zB ?_
 refine zK (.bool false)<| (zG (zA (i _ _ ?_)))
 refine zC fun q j=>zB ?_
 refine zJ v1<| zJ (.func (.func 135) #[] #[ptr0 c]) ?_
 obtain ⟨k,l,d⟩:=zF d
 refine yG rfl rfl (yC en189 rfl) (Fcjw f p1c0 v1 c _ l _ _ _ (H.enter [0] [1] (by decide) rfl)) ?_
 rintro _ m ⟨rfl,n⟩
 have H:Hd _ _ m _ [.fz (.sl rTrack v1 f),.blk c [.string (bs p1c0)] 9]:=H.back [0] [1] rfl n
 refine ⟨_,rfl,?_⟩
 obtain ⟨h,o,d⟩:=zD d
 refine zH (zQ (Do_geq (a:=k) (b:=0) rfl rfl) o)<| zK (.bool h)<| (zG (zA (j _ _ ?_)))
 obtain rfl:=someI d
 refine (zY (post1 (v1:= .bool h) rfl rfl ?_))
 exact ⟨rfl,H.pick [1] (by decide)⟩
set_option maxRecDepth 100000 in
theorem Faxw (j:Rules)(k:List Track)(v1:Value)(f:Value)(h:Value)(d:Value)(r:Int)(c:Fax j k=some r)(O S:List Nat)(w:World)(H:Hd O w w S [.fz (.sl Rp.str v1 j.Phases),.fz (.sl rMoveT f j.Moves),.fz (.sl rRule h j.Rules),.fz (.sl rTrack d k)]):
  Calls Tryz.prog 73 ([.agg [v1,f,h].toArray,d]:List Value).toArray w fun e w'=>e= .returned (.int .i64 r)∧Hd O w w' S []:=by
 unfold Fax at c
 refine zW 31 Tryz.func73 rfl rfl rfl ?_
 refine zC fun K9 D=>zB ?_
 refine yY rfl rfl (xX (cs:=[v1,f,h]) rfl H) ?_
 rintro _ a8 ⟨a9,rfl,H⟩
 refine zK (.int .i64 0)<| (zG (zA (D _ _ ?_)))
 refine zC fun ba E=>?_
 refine zC fun bb F=>zB ?_
 refine zH (yS (yR (cs:=[v1,f,h]) agg26 rfl sz26 rfl (Blk.cells (H.item (i:=4) rfl))) rfl) ?_
 have G:=H
 obtain ⟨l,I,c⟩:=zF c
 refine yG rfl rfl (yC en31 rfl) (Fcnw j v1 f h _ I _ _ _ (H.enter [] [0,1,2] (by decide) rfl)) ?_
 rintro _ bc ⟨rfl,J⟩
 have H:=G.step (J.only:Only [] _ _)
 refine ⟨_,rfl,?_⟩
 refine zK (.int .i64 l)<| (zG (zA (F _ _ ?_)))
 refine zC fun bd K=>zB ?_
 refine zJ (.int .i64 l) ?_
 obtain ⟨L,M,c⟩:=zD c
 refine zH (zQ (wH (a:=l) (b:=0) rfl rfl) M)<| (zG (zA (K _ _ ?_)))
 refine zZ (b:=L) rfl (fun o=>?_) (fun o=>?_)
 ·have c:=zS o c
  refine zC fun be N=>zB ?_
  refine zJ (.int .i64 l)<| zK (.int .i64 l)<| (zG (zA (N _ _ ?_)))
  obtain rfl:=someI c
  refine (zY (zV (post1 (v1:= .int .i64 l) rfl rfl ?_)))
  exact ⟨rfl,H.pick [] (by decide)⟩
 have c:=zT o c
 refine (yA (zA (E _ _ ?_)))
 refine zC fun bf P=>?_
 refine zC fun bg Q=>zB ?_
 refine zJ d ?_
 have R:=H
 obtain ⟨m,T,c⟩:=zF c
 refine yG rfl rfl (yC en75 rfl) (Fbfw k d _ T _ _ _ (H.enter [] [3] (by decide) rfl)) ?_
 rintro _ bh ⟨rfl,U⟩
 have H:=R.step (U.only:Only [] _ _)
 refine ⟨_,rfl,?_⟩
 refine zK (.int .i64 m)<| (zG (zA (Q _ _ ?_)))
 refine zC fun bi V=>zB ?_
 refine zJ (.int .i64 m) ?_
 obtain ⟨X,Y,c⟩:=zD c
 refine zH (zQ (wH (a:=m) (b:=0) rfl rfl) Y)<| (zG (zA (V _ _ ?_)))
 refine zZ (b:=X) rfl (fun q=>?_) (fun q=>?_)
 ·have c:=zS q c
  refine zC fun bj Z=>zB ?_
  refine zJ (.int .i64 m)<| zK (.int .i64 m)<| (zG (zA (Z _ _ ?_)))
  obtain rfl:=someI c
  refine (zY (zV (post1 (v1:= .int .i64 m) rfl rfl ?_)))
  exact ⟨rfl,H.pick [] (by decide)⟩
 have c:=zT q c
 refine (yA (zA (P _ _ ?_)))
 obtain ⟨aa,ab,c⟩:=xZ c
 refine yK [4,8,19,20,21,22,23,24,25,26,27,28,29,30] (fun (g:Unit)=>[]) (fun g wl=>Hd O w wl S []∧aa ()=some r) ?_ ?_
 ·skip
  refine zC fun bk ac=>zB ?_
  refine zH (yS (yR (cs:=[v1,f,h]) agg26 rfl sz26 rfl (Blk.cells (H.item (i:=4) rfl))) rfl) ?_
  obtain ⟨x,ad,c⟩:=zF c
  refine yG rfl rfl (yC en95 rfl) (Fa7w j v1 f h _ ad _ _ _ (H.enter [] [0,1,2] (by decide) rfl)) ?_
  rintro _ bl ⟨y,rfl,ae⟩
  have H:=H.back1 [0,1,2] rfl ae
  refine ⟨_,rfl,?_⟩
  obtain ⟨af,ag,c⟩:=zD c
  obtain ⟨bm,bn,ah⟩:=Sr.len (Sr.of_own (H.item (i:=5) rfl))
  refine zH (yS (xP u22 ah) (congrArg (Value.int .i64) ag))<| zJ (.int .i64 0)<| (zG (zA (ac _ _ ?_)))
  refine yH ?_
  unfold Feo at c
  obtain ⟨ai,z,aj,c⟩:=yX c
  refine xI [4,8,22,23,24,25,26,27,28,29,30] (fun (g:Nat×Int)=>[(22,.int .i64 g.2)]) (fun g wl=>Hd O w wl S [.fz (.sl rTrack d k),.own Rp.str y 9 x]∧loopN ai g.1 g.2=some r) (fun g=>g.1) (z,0) (zL rfl zM) ⟨H.pick [3,5] (by decide),c⟩ ?_
  clear H c
  rintro ⟨z,A⟩ ρ bo ⟨H,c⟩
  obtain ⟨ak,rfl,c⟩:=xC c
  have c:=xB aj c
  refine zC fun bp al=>zB ?_
  obtain ⟨am,an,c⟩:=zD c
  refine zH (zQ (xR (a:=A) (b:=af) rfl rfl) an)<| (zG (zA (al _ _ ?_)))
  refine zC fun bq ao=>?_
  refine zZ (b:=am) rfl (fun s=>?_) (fun s=>?_)
  ·have c:=zS s c
   refine (yA (zA (ao _ _ ?_)))
   refine zC fun br ap=>?_
   refine yH ?_
   refine zC fun bt aq=>zB ?_
   obtain ⟨n,t,c⟩:=zF c
   obtain ⟨bu,bv,ar,au,av,aw⟩:=own_at (H.item (i:=1) rfl) t
   obtain rfl:ar= [.string (bs n)]:=av
   refine zH (xE u22 sz9 au rfl (yE t).1 (yE t).2.1 rfl rfl)<| zH (zN one9 rfl (Cells.get aw (i:=0) rfl))<| yY rfl rfl (xQ zero9 H) ?_
   rintro _ bw ⟨B,rfl,H⟩
   refine xG rfl (wE H 2 rfl sz9 rfl (v:= .string (bs n)) rfl rfl rfl) ?_
   rintro bx H
   refine (zG (zA (aq _ _ ?_)))
   refine zC fun bz ax=>zB ?_
   refine zJ d<| zH (Do_makeFunc rfl) ?_
   obtain ⟨ay,az,c⟩:=zF c
   refine yG rfl rfl (yC en134 rfl) (Fb5w k n d B _ az _ _ _ (H.enter [2] [0] (by decide) rfl)) ?_
   rintro _ a0 ⟨rfl,a1⟩
   have H:Hd _ _ a0 _ [.fz (.sl rTrack d k),.own Rp.str y 9 x,.blk B [.string (bs n)] 9]:=H.back [2] [0] rfl a1
   refine ⟨_,rfl,?_⟩
   obtain ⟨a2,a3,c⟩:=zD c
   refine zH (zQ (wI (p:=ay) rfl) a3)<| (zG (zA (ax _ _ ?_)))
   refine zZ (b:=a2) rfl (fun u=>?_) (fun u=>?_)
   ·have c:=zS u c
    refine zC fun b0 a4=>zB ?_
    refine zK (.int .i64 4)<| (zG (zA (a4 _ _ ?_)))
    obtain rfl:=someI c
    refine (zY (yF (zV (zV (yF (zV (post1 (v1:= .int .i64 4) rfl rfl ?_)))))))
    exact ⟨rfl,H.pick [] (by decide)⟩
   have c:=zT u c
   refine (yA (yP (zA (ap _ _ ?_))))
   refine zB ?_
   obtain ⟨C,a5,c⟩:=zD c
   refine zH (xM (a:=A) (b:=1) rfl rfl a5)<| zJ (.int .i64 C) ?_
   exact (zG (zA (meet ⟨(ak,C),(zL rfl zM),⟨H.pick [0,1] (by decide),c⟩,Nat.lt_succ_self _⟩)))
  have c:=zT s c
  exact (xO (yQ (yQ (yZ (zA (meet ⟨(),zM,⟨H.pick [] (by decide),c⟩⟩))))))
 rintro _ ρ b1 ⟨H,c⟩
 have c:=wJ ab c
 refine zC fun b2 a6=>zB ?_
 refine zK (.int .i64 0)<| (zG (zA (a6 _ _ ?_)))
 obtain rfl:=someI c
 refine (zY (post1 (v1:= .int .i64 0) rfl rfl ?_))
 exact ⟨rfl,H.pick [] (by decide)⟩
theorem Fcsw (f:List Str)(v1:Value)(r:(List Str))(a:Fcs f=some r)(O S:List Nat)(w:World)(H:Hd O w w S [.fz (.sl Rp.str v1 f)]):
  Calls Tryz.prog 100 ([v1]:List Value).toArray w fun e w'=> ∃u3,e= .returned (u3)∧Hd O w w' S [.own Rp.str u3 9 r]:=by
 unfold Fcs at a
 refine zW 8 Tryz.func100 rfl rfl rfl ?_
 refine zC fun t h=>zB ?_
 refine zK (.slice none 0 0)<| (zG (zA (h _ _ ?_)))
 refine zC fun u j=>?_
 refine zC fun v k=>zB ?_
 refine zJ v1 ?_
 obtain ⟨x,y,l,m⟩:=slf_nilq (H.item (i:=0) rfl)
 obtain ⟨n,o,a⟩:=nilO_some a m
 refine zH (yS (Do_eqlnils u22 l rfl) (congrArg Value.bool o))<| (zG (zA (k _ _ ?_)))
 refine zZ (b:=n) rfl (fun c=>?_) (fun c=>?_)
 ·have a:=zS c a
  refine zC fun z p=>zB ?_
  refine zK (.slice none 0 0)<| (zG (zA (p _ _ ?_)))
  have H:=own_nil H Rp.str 9
  obtain rfl:=someI a
  refine (zY (zV (post1 (v1:= .slice none 0 0) rfl rfl ?_)))
  exact ⟨.slice none 0 0,rfl,H.pick [1] (by decide)⟩
 have a:=zT c a
 refine (yA (zA (j _ _ ?_)))
 refine zC fun A q=>zB ?_
 refine yY rfl rfl (Lx_bs0 (r:=Rp.str) u22 el9 H) ?_
 rintro B C H
 refine zJ v1 ?_
 obtain ⟨D,s,a⟩:=zF a
 refine yY rfl rfl (Lx_app H (i:=1) rfl u22 el9 rfl rfl (Sr.of_rd (H.item (i:=0) rfl)) s) ?_
 rintro d E H
 refine zK d<| (zG (zA (q _ _ ?_)))
 obtain rfl:=someI a
 refine (zY (post1 (v1:=d) rfl rfl ?_))
 exact ⟨d,rfl,H.pick [1] (by decide)⟩
abbrev Fc9 (f:EventMaker→Cond→Option Nd):Prop:= ∀(p0:EventMaker) (p1:Cond) (b1:Nat) (b2:Nat) (v3:Value) (v4:Value) (b5:Nat) (v11:Value) (r:Nd) (_:f p0 p1=some r) (O S:List Nat) (w:World) (_:Hd O w w S [.mp b2 (mcells Ky.str (fun v=>Value.int .i64 v) p0.tracks),.own (Rp.int .i64) v3 3 p0.dens,.mp b5 (mcells Ky.str (fun v=>Value.int .i64 v) p0.rules),.blk b1 [.map (some b2),v3,v4,.map (some b5)] 215,.fz (.sl Rp.str v4 p0.phases),.fz (.sl rCond v11 p1.Kids)]),
  Calls Tryz.prog 137 ([ptr0 b1,.agg [.int .i64 p1.Kind,.string (bs p1.Name),.string (bs p1.Other),.int .i64 p1.Op,.int .i64 p1.N,.int .i64 p1.Frames,v11].toArray]:List Value).toArray w fun e w'=> ∃u13 u14,e= .returned (u13)∧Hd O w w' S [.tr rtNd [u13] u14 r,.mp b2 (mcells Ky.str (fun v=>Value.int .i64 v) p0.tracks),.own (Rp.int .i64) v3 3 p0.dens,.mp b5 (mcells Ky.str (fun v=>Value.int .i64 v) p0.rules),.blk b1 [.map (some b2),v3,v4,.map (some b5)] 215]
end Go.Proofs.YtckmiljbaejijaaGreatDoor.L
