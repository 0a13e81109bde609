/- Walks: what each function computes, for every argument; no condition but those that stand in the statements. -/
import Derived.Test.YtckmiljbaejijaaGreatDoorUV0
import Derived.Test.YtckmiljbaejijaaGreatDoorUV4
import Derived.Test.YtckmiljbaejijaaGreatDoorUV1
namespace Go.Proofs.YtckmiljbaejijaaGreatDoor.L
open Go.RowKit Go.OB Go.Lf
set_option maxHeartbeats 4000000
theorem Fa6w (rfH:EventMaker→Cond→Option Nd)(rhH:Fc9 rfH)(f:EventMaker)(p:List Cond)(n:Nat)(h:Nat)(j:Value)(l:Value)(k:Nat)(o:Value)(r:(List Nd))(d:Fa6 rfH f p=some r)(O S:List Nat)(w:World)(H:Hd O w w S [.mp h (mcells Ky.str (fun v=>Value.int .i64 v) f.tracks),.own (Rp.int .i64) j 3 f.dens,.mp k (mcells Ky.str (fun v=>Value.int .i64 v) f.rules),.blk n [.map (some h),j,l,.map (some k)] 215,.fz (.sl Rp.str l f.phases),.fz (.sl rCond o p)]):
  Calls Tryz.prog 190 ([ptr0 n,o]:List Value).toArray w fun e w'=> ∃D M,e= .returned (D)∧Hd O w w' S [.tr rowNd [D] M r,.mp h (mcells Ky.str (fun v=>Value.int .i64 v) f.tracks),.own (Rp.int .i64) j 3 f.dens,.mp k (mcells Ky.str (fun v=>Value.int .i64 v) f.rules),.blk n [.map (some h),j,l,.map (some k)] 215]:=by
 unfold Fa6 at d
 refine zW 22 Tryz.func190 rfl rfl rfl ?_
 refine zC fun a0 P=>zB ?_
 refine zK (.slice none 0 0)<| (zG (zA (P _ _ ?_)))
 refine zC fun a1 Q=>zB ?_
 refine zK (.slice none 0 0)<| (zG (zA (Q _ _ ?_)))
 obtain ⟨E,d,R⟩:=zF d
 refine yK [5,7,8,9,10,11,12,13,14,15,16,17,18,19,20] (fun (g:Value×(List Nat))=>[(5,g.1)]) (fun g wl=>Hd O w wl S [.tr rowNd [g.1] g.2 E,.mp h (mcells Ky.str (fun v=>Value.int .i64 v) f.tracks),.own (Rp.int .i64) j 3 f.dens,.mp k (mcells Ky.str (fun v=>Value.int .i64 v) f.rules),.blk n [.map (some h),j,l,.map (some k)] 215,.fz (.sl Rp.str l f.phases)]) ?_ ?_
 ·skip
  refine zC fun a2 T=>zB ?_
  refine zJ o ?_
  obtain ⟨U,V,d⟩:=zD d
  obtain ⟨a3,a4,X⟩:=SlF.len ((H.item (i:=5) rfl))
  refine zH (yS (xP u68 X) (congrArg (Value.int .i64) V))<| zJ (.int .i64 0)<| (zG (zA (T _ _ ?_)))
  refine yH ?_
  have H:=row_nil H rtNd 170
  unfold Fd0 at d
  obtain ⟨Y,F,Z,d⟩:=yX d
  refine xI [5,7,10,11,12,13,14,15,16,17,18,19,20] (fun (g:Nat×(List Nd)×Int×Value×(List Nat))=>[(5,g.2.2.2.1),(10,.int .i64 g.2.2.1)]) (fun g wl=>Hd O w wl S [.tr rowNd [g.2.2.2.1] g.2.2.2.2 g.2.1,.mp h (mcells Ky.str (fun v=>Value.int .i64 v) f.tracks),.own (Rp.int .i64) j 3 f.dens,.mp k (mcells Ky.str (fun v=>Value.int .i64 v) f.rules),.blk n [.map (some h),j,l,.map (some k)] 215,.fz (.sl Rp.str l f.phases),.fz (.sl rCond o p)]∧loopN Y g.1 (g.2.1,g.2.2.1)=some E) (fun g=>g.1) (F,[],0,.slice none 0 0,[]) (zL rfl (zL rfl zM)) ⟨H.pick [6,0,1,2,3,4,5] (by decide),d⟩ ?_
  clear H d
  rintro ⟨F,G,q,s,y⟩ ρ a5 ⟨H,d⟩
  obtain ⟨aa,rfl,d⟩:=xC d
  have d:=xB Z d
  refine zC fun a6 ab=>zB ?_
  obtain ⟨ac,ad,d⟩:=zD d
  refine zH (zQ (xR (a:=q) (b:=U) rfl rfl) ad)<| (zG (zA (ab _ _ ?_)))
  refine zC fun a7 ae=>?_
  refine zZ (b:=ac) rfl (fun z=>?_) (fun z=>?_)
  ·have d:=zS z d
   refine (yA (zA (ae _ _ ?_)))
   refine zC fun a8 af=>?_
   refine yH ?_
   refine zC fun a9 ag=>zB ?_
   obtain ⟨c,A,d⟩:=zF d
   obtain ⟨t,u,ba,bb,ah,ai,aj,ak,al⟩:=rd_at (H.item (i:=6) rfl) A
   obtain ⟨m,rfl,am⟩:=rCond_open ai
   have H:=H.fzs [.at t (u+q.toNat * 7) _,.sl rCond m c.Kids] ⟨⟨aj,ak,al⟩,am,trivial⟩
   refine zH (xE u68 sz70 ah rfl (yE A).1 (yE A).2.1 rfl rfl)<| zH (yS (yR (cs:=[.int .i64 c.Kind,.string (bs c.Name),.string (bs c.Other),.int .i64 c.Op,.int .i64 c.N,.int .i64 c.Frames,m]) agg70 rfl sz70 rfl (H.item (i:=7) rfl).2.2) rfl)<| yY rfl rfl (xQ zero70 H) ?_
   rintro _ bc ⟨B,rfl,H⟩
   refine xG rfl (xH (vs:=[.int .i64 c.Kind,.string (bs c.Name),.string (bs c.Other),.int .i64 c.Op,.int .i64 c.N,.int .i64 c.Frames,m]) H 9 rfl sz70 rfl rfl rfl ⟨rfl,rfl,rfl,rfl,rfl,rfl,(slf_one (H.item (i:=8) rfl)),trivial⟩ rfl) ?_
   rintro bd H
   refine (zG (zA (ag _ _ ?_)))
   refine zB ?_
   refine zJ s<| zJ (ptr0 n)<| zH (yS (yR (cs:=[.int .i64 c.Kind,.string (bs c.Name),.string (bs c.Other),.int .i64 c.Op,.int .i64 c.N,.int .i64 c.Frames,m]) agg70 rfl sz70 rfl (Blk.cells (H.item (i:=9) rfl))) rfl) ?_
   obtain ⟨I,an,d⟩:=zF d
   refine yG rfl rfl (yC en137 rfl) (rhH (EventMaker.mk f.tracks f.dens f.phases f.rules) c n h j l k m _ an _ _ _ (H.enter [1,2,3,4] [5,8] (by decide) rfl)) ?_
   rintro _ ao ⟨ap,aq,rfl,ar⟩
   have H:Hd _ _ ao _ [.tr rowNd [s] y G,.fz (.sl Rp.str l f.phases),.fz (.sl rCond o p),.fz (.at t (u+q.toNat * 7) [.int .i64 c.Kind,.string (bs c.Name),.string (bs c.Other),.int .i64 c.Op,.int .i64 c.N,.int .i64 c.Frames,m]),.fz (.sl rCond m c.Kids),.blk B [.int .i64 c.Kind,.string (bs c.Name),.string (bs c.Other),.int .i64 c.Op,.int .i64 c.N,.int .i64 c.Frames,m] 70,.tr rtNd [ap] aq I,.mp h (mcells Ky.str (fun v=>Value.int .i64 v) f.tracks),.own (Rp.int .i64) j 3 f.dens,.mp k (mcells Ky.str (fun v=>Value.int .i64 v) f.rules),.blk n [.map (some h),j,l,.map (some k)] 215]:=H.back [1,2,3,4] [5,8] rfl ar
   refine ⟨_,rfl,?_⟩
   refine yY rfl rfl (Lx_bsT1 H 6 rfl u143 el170 (by decide) (by decide) (fillB_ones rfl rfl ⟨(tr_one (H.item (i:=6) rfl)),trivial⟩)) ?_
   rintro au be ⟨av,H⟩
   have H:Hd _ _ _ _ [.tr rowNd [s] y G,.fz (.sl Rp.str l f.phases),.fz (.sl rCond o p),.fz (.at t (u+q.toNat * 7) [.int .i64 c.Kind,.string (bs c.Name),.string (bs c.Other),.int .i64 c.Op,.int .i64 c.N,.int .i64 c.Frames,m]),.fz (.sl rCond m c.Kids),.blk B [.int .i64 c.Kind,.string (bs c.Name),.string (bs c.Other),.int .i64 c.Op,.int .i64 c.N,.int .i64 c.Frames,m] 70,.mp h (mcells Ky.str (fun v=>Value.int .i64 v) f.tracks),.own (Rp.int .i64) j 3 f.dens,.mp k (mcells Ky.str (fun v=>Value.int .i64 v) f.rules),.blk n [.map (some h),j,l,.map (some k)] 215,.tr rowNd [au] av [I]]:=H
   obtain ⟨J,aw,d⟩:=zF d
   refine yY rfl rfl (Lx_appT H 0 10 rfl rfl (by decide) u143 el170 rfl rfl aw) ?_
   rintro C bf ⟨K,H⟩
   have H:Hd _ _ _ _ [.fz (.sl Rp.str l f.phases),.fz (.sl rCond o p),.fz (.at t (u+q.toNat * 7) [.int .i64 c.Kind,.string (bs c.Name),.string (bs c.Other),.int .i64 c.Op,.int .i64 c.N,.int .i64 c.Frames,m]),.fz (.sl rCond m c.Kids),.blk B [.int .i64 c.Kind,.string (bs c.Name),.string (bs c.Other),.int .i64 c.Op,.int .i64 c.N,.int .i64 c.Frames,m] 70,.mp h (mcells Ky.str (fun v=>Value.int .i64 v) f.tracks),.own (Rp.int .i64) j 3 f.dens,.mp k (mcells Ky.str (fun v=>Value.int .i64 v) f.rules),.blk n [.map (some h),j,l,.map (some k)] 215,.tr rowNd [C] K J]:=H
   refine zK C<| (zG (yP (zA (af _ _ ?_))))
   refine zB ?_
   obtain ⟨L,ax,d⟩:=zD d
   refine zH (xM (a:=q) (b:=1) rfl rfl ax)<| zJ (.int .i64 L) ?_
   exact (zG (zA (meet ⟨(aa,J,L,C,K),(zL rfl (zL rfl zM)),⟨H.pick [9,5,6,7,8,0,1] (by decide),d⟩,Nat.lt_succ_self _⟩)))
  have d:=zT z d
  obtain rfl:=someI d
  exact (xO (yQ (yQ (yZ (zA (meet ⟨(s,y),(zL rfl zM),H.pick [0,1,2,3,4,5] (by decide)⟩))))))
 rintro ⟨x,ay⟩ ρ bg H
 have d:=R
 refine zC fun bh az=>zB ?_
 refine zJ x<| zK x<| (zG (zA (az _ _ ?_)))
 obtain rfl:=someI d
 refine (zY (post1 (v1:=x) rfl rfl ?_))
 exact ⟨x,ay,rfl,H.pick [0,1,2,3,4] (by decide)⟩
set_option maxRecDepth 100000 in
theorem Fbrw (rfH:EventMaker→Cond→Option Nd)(rhH:Fc9 rfH)(j:EventMaker)(d:Cond)(t:Nat)(l:Nat)(o:Value)(p:Value)(q:Nat)(s:Value)(r:Nd)(h:Fbr rfH j d=some r)(O S:List Nat)(w:World)(H:Hd O w w S [.mp l (mcells Ky.str (fun v=>Value.int .i64 v) j.tracks),.own (Rp.int .i64) o 3 j.dens,.mp q (mcells Ky.str (fun v=>Value.int .i64 v) j.rules),.blk t [.map (some l),o,p,.map (some q)] 215,.fz (.sl Rp.str p j.phases),.fz (.sl rCond s d.Kids)]):
  Calls Tryz.prog 137 ([ptr0 t,.agg [.int .i64 d.Kind,.string (bs d.Name),.string (bs d.Other),.int .i64 d.Op,.int .i64 d.N,.int .i64 d.Frames,s].toArray]:List Value).toArray w fun e w'=> ∃bc ce,e= .returned (bc)∧Hd O w w' S [.tr rtNd [bc] ce r,.mp l (mcells Ky.str (fun v=>Value.int .i64 v) j.tracks),.own (Rp.int .i64) o 3 j.dens,.mp q (mcells Ky.str (fun v=>Value.int .i64 v) j.rules),.blk t [.map (some l),o,p,.map (some q)] 215]:=by
 unfold Fbr at h
 refine zW 180 Tryz.func137 rfl rfl rfl ?_
 refine zC fun fj cf=>zB ?_
 refine yY rfl rfl (xX (cs:=[.int .i64 d.Kind,.string (bs d.Name),.string (bs d.Other),.int .i64 d.Op,.int .i64 d.N,.int .i64 d.Frames,s]) rfl H) ?_
 rintro _ fk ⟨x,rfl,H⟩
 refine zK .nilIface<| (zG (zA (cf _ _ ?_)))
 refine zC fun fm cg=>zB ?_
 refine zJ (ptr0 t)<| zH (fa70_6 rfl)<| zH (zN one68 rfl (Cells.get (Blk.cells (H.item (i:=6) rfl)) (i:=6) rfl)) ?_
 obtain ⟨y,ch,h⟩:=zF h
 refine yG rfl rfl (yC en190 rfl) (Fa6w rfH rhH (EventMaker.mk j.tracks j.dens j.phases j.rules) d.Kids t l o p q s _ ch _ _ _ (H.enter [0,1,2,3] [4,5] (by decide) rfl)) ?_
 rintro _ ci ⟨u,ak,rfl,cj⟩
 have H:Hd _ _ ci _ [.fz (.sl Rp.str p j.phases),.fz (.sl rCond s d.Kids),.blk x [.int .i64 d.Kind,.string (bs d.Name),.string (bs d.Other),.int .i64 d.Op,.int .i64 d.N,.int .i64 d.Frames,s] 70,.tr rowNd [u] ak y,.mp l (mcells Ky.str (fun v=>Value.int .i64 v) j.tracks),.own (Rp.int .i64) o 3 j.dens,.mp q (mcells Ky.str (fun v=>Value.int .i64 v) j.rules),.blk t [.map (some l),o,p,.map (some q)] 215]:=H.back [0,1,2,3] [4,5] rfl cj
 refine ⟨_,rfl,?_⟩
 refine zK u<| (zG (zA (cg _ _ ?_)))
 refine zC fun fn ck=>?_
 refine zC fun fo cl=>zB ?_
 refine zH (fa70_0 rfl)<| zH (zN one3 rfl (Cells.get (Blk.cells (H.item (i:=2) rfl)) (i:=0) rfl))<| (zG (zA (cl _ _ ?_)))
 refine yH ?_
 refine zC fun fp cm=>zB ?_
 obtain ⟨bd,cn,h⟩:=zD h
 refine zH (zQ (xA (a:=d.Kind) (b:=1) rfl rfl) cn)<| zK (.bool bd)<| (zG (zA (cm _ _ ?_)))
 refine zZ (b:=bd) rfl (fun al=>?_) (fun al=>?_)
 ·have h:=zS al h
  refine zC fun fq co=>zB ?_
  refine zH (xW (cs:=[.int .i64 2]) (bt277_0 _)) ?_
  have H:=nd_mk_constant (truth:=2) H
  refine zH (Do_mkI (by kernel_rfl) rfl)<| zK (.iface 277 (.agg ([.int .i64 2]:List Value).toArray))<| (zG (zA (co _ _ ?_)))
  obtain rfl:=someI h
  refine (zY (yF (zV (post1 (v1:=(.iface 277 (.agg ([.int .i64 2]:List Value).toArray))) rfl rfl ?_))))
  exact ⟨(.iface 277 (.agg ([.int .i64 2]:List Value).toArray)),[],rfl,H.pick [8,4,5,6,7] (by decide)⟩
 have h:=zT al h
 refine zC fun fr cp=>zB ?_
 obtain ⟨be,cq,h⟩:=zD h
 refine zH (zQ (xA (a:=d.Kind) (b:=2) rfl rfl) cq)<| zK (.bool be)<| (zG (zA (cp _ _ ?_)))
 refine zZ (b:=be) rfl (fun am=>?_) (fun am=>?_)
 ·have h:=zS am h
  refine zC fun fs cr=>zB ?_
  refine zH (xW (cs:=[.int .i64 1]) (bt277_0 _)) ?_
  have H:=nd_mk_constant (truth:=1) H
  refine zH (Do_mkI (by kernel_rfl) rfl)<| zK (.iface 277 (.agg ([.int .i64 1]:List Value).toArray))<| (zG (zA (cr _ _ ?_)))
  obtain rfl:=someI h
  refine (zY (yF (zV (post1 (v1:=(.iface 277 (.agg ([.int .i64 1]:List Value).toArray))) rfl rfl ?_))))
  exact ⟨(.iface 277 (.agg ([.int .i64 1]:List Value).toArray)),[],rfl,H.pick [8,4,5,6,7] (by decide)⟩
 have h:=zT am h
 refine zC fun ft ct=>zB ?_
 obtain ⟨bf,cu,h⟩:=zD h
 refine zH (zQ (xA (a:=d.Kind) (b:=3) rfl rfl) cu)<| zK (.bool bf)<| (zG (zA (ct _ _ ?_)))
 refine zZ (b:=bf) rfl (fun an=>?_) (fun an=>?_)
 ·have h:=zS an h
  refine zC fun fu cv=>?_
  have cw:=H
  have H:=H.rebase
  have fv:=H
  refine wF H [0,1,2,3,4,5,6,7,8,9,10,11,12,13] [.pure,.pure,.pure,.read,.pure,.read,.read,.pure,.read,.pure,.read,.pure,.pure,.pure] mixed (by kernel_rfl) (by kernel_rfl) (by kernel_rfl) rfl ?_
  refine Mx.zI rfl rfl rfl (fun w' hw'=>yM (v:=ptr0 t) rfl) ?_
  refine Mx.zI rfl rfl rfl (fun w' hw'=>yB rfl) ?_
  refine Mx.zI rfl rfl rfl (fun w' hw'=>fa215_0 rfl) ?_
  refine Mx.yO oS rfl rfl rfl (fun w' hw'=>zN one163 rfl (Cells.get (Blk.cells ((H.sees hw').item (i:=7) rfl)) (i:=0) rfl)) ?_
  refine Mx.zI rfl rfl rfl (fun w' hw'=>fa70_1 rfl) ?_
  refine Mx.yO oS rfl rfl rfl (fun w' hw'=>zN one9 rfl (Cells.get (Blk.cells ((H.sees hw').item (i:=2) rfl)) (i:=1) rfl)) ?_
  obtain ⟨M,cx,h⟩:=zD h
  refine Mx.yO oS rfl rfl rfl (fun w' hw'=>yS (Do_lookup (K:=Ky.str) (G:=(fun v=>Value.int .i64 v)) (m:=j.tracks) (k:=d.Name) (zv:=0) ((H.sees hw').item (i:=4) rfl) u163 u9 rfl rfl (Tryz.zeroValue3 w')) (congrArg (fun v=>Value.int .i64 v) cx)) ?_
  refine Mx.zI rfl rfl rfl (fun w' hw'=>fa70_3 rfl) ?_
  refine Mx.yO oS rfl rfl rfl (fun w' hw'=>zN one3 rfl (Cells.get (Blk.cells ((H.sees hw').item (i:=2) rfl)) (i:=3) rfl)) ?_
  refine Mx.zI rfl rfl rfl (fun w' hw'=>fa70_4 rfl) ?_
  refine Mx.yO oS rfl rfl rfl (fun w' hw'=>zN one3 rfl (Cells.get (Blk.cells ((H.sees hw').item (i:=2) rfl)) (i:=4) rfl)) ?_
  refine Mx.zI rfl rfl rfl (fun w' hw'=>xW (cs:=[.int .i64 M,.int .i64 d.Op,.int .i64 d.N]) (bt279_0_1_2 _ _ _)) ?_
  have H:=nd_mk_number (track:=M) (op:=d.Op) (n:=d.N) H
  refine Mx.zI rfl rfl rfl (fun w' hw'=>Do_mkI (by kernel_rfl) rfl) ?_
  refine Mx.zI rfl rfl rfl (fun w' hw'=>xN (v:=(.iface 279 (.agg ([.int .i64 M,.int .i64 d.Op,.int .i64 d.N]:List Value).toArray))) rfl) ?_
  refine Mx.xK fun fw hS=>?_
  have H:=H.sees hS
  have H:=cw.rejoin H
  refine (zA (cv _ _ ?_))
  obtain rfl:=someI h
  refine (zY (yF (zV (post1 (v1:=(.iface 279 (.agg ([.int .i64 M,.int .i64 d.Op,.int .i64 d.N]:List Value).toArray))) rfl rfl ?_))))
  exact ⟨(.iface 279 (.agg ([.int .i64 M,.int .i64 d.Op,.int .i64 d.N]:List Value).toArray)),[],rfl,H.pick [8,4,5,6,7] (by decide)⟩
 have h:=zT an h
 refine zC fun fx cy=>zB ?_
 obtain ⟨bg,cz,h⟩:=zD h
 refine zH (zQ (xA (a:=d.Kind) (b:=4) rfl rfl) cz)<| zK (.bool bg)<| (zG (zA (cy _ _ ?_)))
 refine zZ (b:=bg) rfl (fun ao=>?_) (fun ao=>?_)
 ·have h:=zS ao h
  refine zC fun fy c0=>?_
  have c1:=H
  have H:=H.rebase
  have f0:=H
  refine wF H [0,1,2,3,4,5,6,7,8,9,10,11,12,13,14,15] [.pure,.pure,.pure,.read,.pure,.read,.read,.pure,.pure,.pure,.read,.pure,.read,.read,.pure,.pure] mixed (by kernel_rfl) (by kernel_rfl) (by kernel_rfl) rfl ?_
  refine Mx.zI rfl rfl rfl (fun w' hw'=>yM (v:=ptr0 t) rfl) ?_
  refine Mx.zI rfl rfl rfl (fun w' hw'=>yB rfl) ?_
  refine Mx.zI rfl rfl rfl (fun w' hw'=>fa215_0 rfl) ?_
  refine Mx.yO oS rfl rfl rfl (fun w' hw'=>zN one163 rfl (Cells.get (Blk.cells ((H.sees hw').item (i:=7) rfl)) (i:=0) rfl)) ?_
  refine Mx.zI rfl rfl rfl (fun w' hw'=>fa70_1 rfl) ?_
  refine Mx.yO oS rfl rfl rfl (fun w' hw'=>zN one9 rfl (Cells.get (Blk.cells ((H.sees hw').item (i:=2) rfl)) (i:=1) rfl)) ?_
  obtain ⟨z,c2,h⟩:=zD h
  refine Mx.yO oS rfl rfl rfl (fun w' hw'=>yS (Do_lookup (K:=Ky.str) (G:=(fun v=>Value.int .i64 v)) (m:=j.tracks) (k:=d.Name) (zv:=0) ((H.sees hw').item (i:=4) rfl) u163 u9 rfl rfl (Tryz.zeroValue3 w')) (congrArg (fun v=>Value.int .i64 v) c2)) ?_
  refine Mx.zI rfl rfl rfl (fun w' hw'=>yM (v:=ptr0 t) rfl) ?_
  refine Mx.zI rfl rfl rfl (fun w' hw'=>yB rfl) ?_
  refine Mx.zI rfl rfl rfl (fun w' hw'=>fa215_0 rfl) ?_
  refine Mx.yO oS rfl rfl rfl (fun w' hw'=>zN one163 rfl (Cells.get (Blk.cells ((H.sees hw').item (i:=7) rfl)) (i:=0) rfl)) ?_
  refine Mx.zI rfl rfl rfl (fun w' hw'=>fa70_2 rfl) ?_
  refine Mx.yO oS rfl rfl rfl (fun w' hw'=>zN one9 rfl (Cells.get (Blk.cells ((H.sees hw').item (i:=2) rfl)) (i:=2) rfl)) ?_
  obtain ⟨A,c3,h⟩:=zD h
  refine Mx.yO oS rfl rfl rfl (fun w' hw'=>yS (Do_lookup (K:=Ky.str) (G:=(fun v=>Value.int .i64 v)) (m:=j.tracks) (k:=d.Other) (zv:=0) ((H.sees hw').item (i:=4) rfl) u163 u9 rfl rfl (Tryz.zeroValue3 w')) (congrArg (fun v=>Value.int .i64 v) c3)) ?_
  refine Mx.zI rfl rfl rfl (fun w' hw'=>xN (v:= .int .i64 z) rfl) ?_
  refine Mx.zI rfl rfl rfl (fun w' hw'=>xN (v:= .int .i64 A) rfl) ?_
  refine Mx.xK fun f1 hS=>?_
  have H:=H.sees hS
  have H:=c1.rejoin H
  refine (zA (c0 _ _ ?_))
  refine zC fun f4 c4=>?_
  have c5:=H
  have H:=H.rebase
  have f5:=H
  refine wF H [0,1,2,3,4,5,6,7,8,9,10,11,12,13,14,15,16,17,18,19,20] [.pure,.pure,.pure,.pure,.pure,.read,.pure,.pure,.read,.pure,.pure,.pure,.read,.pure,.pure,.read,.pure,.read,.pure,.pure,.pure] mixed (by kernel_rfl) (by kernel_rfl) (by kernel_rfl) rfl ?_
  refine Mx.zI rfl rfl rfl (fun w' hw'=>yM (v:= .int .i64 z) rfl) ?_
  refine Mx.zI rfl rfl rfl (fun w' hw'=>yM (v:= .int .i64 A) rfl) ?_
  refine Mx.zI rfl rfl rfl (fun w' hw'=>yM (v:=ptr0 t) rfl) ?_
  refine Mx.zI rfl rfl rfl (fun w' hw'=>yB rfl) ?_
  refine Mx.zI rfl rfl rfl (fun w' hw'=>fa215_1 rfl) ?_
  refine Mx.yO oS rfl rfl rfl (fun w' hw'=>zN one38 rfl (Cells.get (Blk.cells ((H.sees hw').item (i:=7) rfl)) (i:=1) rfl)) ?_
  refine Mx.zI rfl rfl rfl (fun w' hw'=>yM (v:= .int .i64 z) rfl) ?_
  obtain ⟨C,ap,h⟩:=zF h
  obtain ⟨f6,f7,c6,c7,c8,c9⟩:=own_at (H.item (i:=5) rfl) ap
  obtain rfl:c6= [.int .i64 C]:=c8
  refine Mx.zI rfl rfl rfl (fun w' hw'=>xE u38 sz3 c7 rfl (yE ap).1 (yE ap).2.1 rfl rfl) ?_
  refine Mx.yO oS rfl rfl rfl (fun w' hw'=>zN one3 rfl (Cells.get (c9.sees hw') (i:=0) rfl)) ?_
  refine Mx.zI rfl rfl rfl (fun w' hw'=>yM (v:=ptr0 t) rfl) ?_
  refine Mx.zI rfl rfl rfl (fun w' hw'=>yB rfl) ?_
  refine Mx.zI rfl rfl rfl (fun w' hw'=>fa215_1 rfl) ?_
  refine Mx.yO oS rfl rfl rfl (fun w' hw'=>zN one38 rfl (Cells.get (Blk.cells ((H.sees hw').item (i:=7) rfl)) (i:=1) rfl)) ?_
  refine Mx.zI rfl rfl rfl (fun w' hw'=>yM (v:= .int .i64 A) rfl) ?_
  obtain ⟨D,aq,h⟩:=zF h
  obtain ⟨f8,f9,da,db,dc,dd⟩:=own_at (H.item (i:=5) rfl) aq
  obtain rfl:da= [.int .i64 D]:=dc
  refine Mx.zI rfl rfl rfl (fun w' hw'=>xE u38 sz3 db rfl (yE aq).1 (yE aq).2.1 rfl rfl) ?_
  refine Mx.yO oS rfl rfl rfl (fun w' hw'=>zN one3 rfl (Cells.get (dd.sees hw') (i:=0) rfl)) ?_
  refine Mx.zI rfl rfl rfl (fun w' hw'=>fa70_3 rfl) ?_
  refine Mx.yO oS rfl rfl rfl (fun w' hw'=>zN one3 rfl (Cells.get (Blk.cells ((H.sees hw').item (i:=2) rfl)) (i:=3) rfl)) ?_
  refine Mx.zI rfl rfl rfl (fun w' hw'=>xW (cs:=[.int .i64 z,.int .i64 A,.int .i64 C,.int .i64 D,.int .i64 d.Op]) (bt281_0_1_2_3_4 _ _ _ _ _)) ?_
  have H:=nd_mk_pair (a:=z) (b:=A) (denA:=C) (denB:=D) (op:=d.Op) H
  refine Mx.zI rfl rfl rfl (fun w' hw'=>Do_mkI (by kernel_rfl) rfl) ?_
  refine Mx.zI rfl rfl rfl (fun w' hw'=>xN (v:=(.iface 281 (.agg ([.int .i64 z,.int .i64 A,.int .i64 C,.int .i64 D,.int .i64 d.Op]:List Value).toArray))) rfl) ?_
  refine Mx.xK fun ga hS=>?_
  have H:=H.sees hS
  have H:=c5.rejoin H
  refine (zA (c4 _ _ ?_))
  obtain rfl:=someI h
  refine (zY (yF (zV (post1 (v1:=(.iface 281 (.agg ([.int .i64 z,.int .i64 A,.int .i64 C,.int .i64 D,.int .i64 d.Op]:List Value).toArray))) rfl rfl ?_))))
  exact ⟨(.iface 281 (.agg ([.int .i64 z,.int .i64 A,.int .i64 C,.int .i64 D,.int .i64 d.Op]:List Value).toArray)),[],rfl,H.pick [8,4,5,6,7] (by decide)⟩
 have h:=zT ao h
 refine zC fun gb de=>zB ?_
 obtain ⟨bh,df,h⟩:=zD h
 refine zH (zQ (xA (a:=d.Kind) (b:=5) rfl rfl) df)<| zK (.bool bh)<| (zG (zA (de _ _ ?_)))
 refine zZ (b:=bh) rfl (fun ar=>?_) (fun ar=>?_)
 ·have h:=zS ar h
  refine zC fun gc dg=>?_
  have dh:=H
  have H:=H.rebase
  have gd:=H
  refine wF H [0,1,2,3,4,5,6,7,8,9,10,11,12,13,14] [.pure,.pure,.pure,.read,.pure,.read,.read,.pure,.read,.pure,.read,.pure,.new,.pure,.pure] mixed (by kernel_rfl) (by kernel_rfl) (by kernel_rfl) rfl ?_
  refine Mx.zI rfl rfl rfl (fun w' hw'=>yM (v:=ptr0 t) rfl) ?_
  refine Mx.zI rfl rfl rfl (fun w' hw'=>yB rfl) ?_
  refine Mx.zI rfl rfl rfl (fun w' hw'=>fa215_0 rfl) ?_
  refine Mx.yO oS rfl rfl rfl (fun w' hw'=>zN one163 rfl (Cells.get (Blk.cells ((H.sees hw').item (i:=7) rfl)) (i:=0) rfl)) ?_
  refine Mx.zI rfl rfl rfl (fun w' hw'=>fa70_1 rfl) ?_
  refine Mx.yO oS rfl rfl rfl (fun w' hw'=>zN one9 rfl (Cells.get (Blk.cells ((H.sees hw').item (i:=2) rfl)) (i:=1) rfl)) ?_
  obtain ⟨ab,di,h⟩:=zD h
  refine Mx.yO oS rfl rfl rfl (fun w' hw'=>yS (Do_lookup (K:=Ky.str) (G:=(fun v=>Value.int .i64 v)) (m:=j.tracks) (k:=d.Name) (zv:=0) ((H.sees hw').item (i:=4) rfl) u163 u9 rfl rfl (Tryz.zeroValue3 w')) (congrArg (fun v=>Value.int .i64 v) di)) ?_
  refine Mx.zI rfl rfl rfl (fun w' hw'=>fa70_4 rfl) ?_
  refine Mx.yO oS rfl rfl rfl (fun w' hw'=>zN one3 rfl (Cells.get (Blk.cells ((H.sees hw').item (i:=2) rfl)) (i:=4) rfl)) ?_
  refine Mx.zI rfl rfl rfl (fun w' hw'=>fa70_5 rfl) ?_
  refine Mx.yO oS rfl rfl rfl (fun w' hw'=>zN one3 rfl (Cells.get (Blk.cells ((H.sees hw').item (i:=2) rfl)) (i:=5) rfl)) ?_
  refine Mx.zI rfl rfl rfl (fun w' hw'=>xW (cs:=[.int .i64 ab,.int .i64 d.N,.int .i64 d.Frames,.slice none 0 0]) (bt241_0_1_2 _ _ _)) ?_
  refine Mx.XL_exN oS rfl rfl rfl (fun w' hw'=>Ls_of (xX (cs:=[.int .i64 ab,.int .i64 d.N,.int .i64 d.Frames,.slice none 0 0]) rfl (H.sees hw')) (Ys_box (cs:=[.int .i64 ab,.int .i64 d.N,.int .i64 d.Frames,.slice none 0 0]) rfl)) ?_
  rintro w' _ ge hw' ⟨ac,rfl,H⟩
  have H:=row_nil H (Rt.of rToldT) 148
  obtain ⟨bi,H⟩:=nd_mk_steady H 9 8 rfl rfl (by decide)
  have H:Hd _ _ _ _ [.fz (.sl Rp.str p j.phases),.fz (.sl rCond s d.Kids),.blk x [.int .i64 d.Kind,.string (bs d.Name),.string (bs d.Other),.int .i64 d.Op,.int .i64 d.N,.int .i64 d.Frames,s] 70,.tr rowNd [u] ak y,.mp l (mcells Ky.str (fun v=>Value.int .i64 v) j.tracks),.own (Rp.int .i64) o 3 j.dens,.mp q (mcells Ky.str (fun v=>Value.int .i64 v) j.rules),.blk t [.map (some l),o,p,.map (some q)] 215,.tr rtNd [(.iface 239 (ptr0 ac))] bi (.steady ab d.N d.Frames []:Nd)]:=H
  refine Mx.zI rfl rfl rfl (fun w' hw'=>Do_mkI (by kernel_rfl) rfl) ?_
  refine Mx.zI rfl rfl rfl (fun w' hw'=>xN (v:=(.iface 239 (ptr0 ac))) rfl) ?_
  refine Mx.xK fun gf hS=>?_
  have H:=H.sees hS
  have H:=dh.rejoin H
  refine (zA (dg _ _ ?_))
  obtain rfl:=someI h
  refine (zY (yF (zV (post1 (v1:=(.iface 239 (ptr0 ac))) rfl rfl ?_))))
  exact ⟨(.iface 239 (ptr0 ac)),bi,rfl,H.pick [8,4,5,6,7] (by decide)⟩
 have h:=zT ar h
 refine zC fun gg dj=>zB ?_
 obtain ⟨bj,dk,h⟩:=zD h
 refine zH (zQ (xA (a:=d.Kind) (b:=6) rfl rfl) dk)<| zK (.bool bj)<| (zG (zA (dj _ _ ?_)))
 refine zZ (b:=bj) rfl (fun au=>?_) (fun au=>?_)
 ·have h:=zS au h
  refine zC fun gh dl=>?_
  have dm:=H
  have H:=H.rebase
  have gi:=H
  refine wF H [0,1,2,3,4,5,6,7,8,9] [.pure,.pure,.pure,.read,.pure,.read,.read,.pure,.pure,.pure] mixed (by kernel_rfl) (by kernel_rfl) (by kernel_rfl) rfl ?_
  refine Mx.zI rfl rfl rfl (fun w' hw'=>yM (v:=ptr0 t) rfl) ?_
  refine Mx.zI rfl rfl rfl (fun w' hw'=>yB rfl) ?_
  refine Mx.zI rfl rfl rfl (fun w' hw'=>fa215_2 rfl) ?_
  refine Mx.yO oS rfl rfl rfl (fun w' hw'=>zN one22 rfl (Cells.get (Blk.cells ((H.sees hw').item (i:=7) rfl)) (i:=2) rfl)) ?_
  refine Mx.zI rfl rfl rfl (fun w' hw'=>fa70_1 rfl) ?_
  refine Mx.yO oS rfl rfl rfl (fun w' hw'=>zN one9 rfl (Cells.get (Blk.cells ((H.sees hw').item (i:=2) rfl)) (i:=1) rfl)) ?_
  have dn:=H
  obtain ⟨E,dp,h⟩:=zF h
  refine Mx.XL_call oS rfl rfl rfl (v:= .int .i64 E) (fun w' hw'=>yC en136 rfl) (fun w' hw'=>call_read (Fahw j.phases d.Name p _ dp _ _ _ ((H.sees hw').enter [] [0] (by decide) rfl))) ?_
  have H:=dn
  refine Mx.zI rfl rfl rfl (fun w' hw'=>xW (cs:=[.int .i64 E]) (bt283_0 _)) ?_
  have H:=nd_mk_phase (phase:=E) H
  refine Mx.zI rfl rfl rfl (fun w' hw'=>Do_mkI (by kernel_rfl) rfl) ?_
  refine Mx.zI rfl rfl rfl (fun w' hw'=>xN (v:=(.iface 283 (.agg ([.int .i64 E]:List Value).toArray))) rfl) ?_
  refine Mx.xK fun gj hS=>?_
  have H:=H.sees hS
  have H:=dm.rejoin H
  refine (zA (dl _ _ ?_))
  obtain rfl:=someI h
  refine (zY (yF (zV (post1 (v1:=(.iface 283 (.agg ([.int .i64 E]:List Value).toArray))) rfl rfl ?_))))
  exact ⟨(.iface 283 (.agg ([.int .i64 E]:List Value).toArray)),[],rfl,H.pick [8,4,5,6,7] (by decide)⟩
 have h:=zT au h
 refine zC fun gl dq=>zB ?_
 obtain ⟨bk,dr,h⟩:=zD h
 refine zH (zQ (xA (a:=d.Kind) (b:=7) rfl rfl) dr)<| zK (.bool bk)<| (zG (zA (dq _ _ ?_)))
 refine zZ (b:=bk) rfl (fun av=>?_) (fun av=>?_)
 ·have h:=zS av h
  refine zC fun gm ds=>?_
  have dt:=H
  have H:=H.rebase
  have gn:=H
  refine wF H [0,1,2,3,4,5,6,7,8,9] [.pure,.pure,.pure,.read,.pure,.read,.read,.pure,.pure,.pure] mixed (by kernel_rfl) (by kernel_rfl) (by kernel_rfl) rfl ?_
  refine Mx.zI rfl rfl rfl (fun w' hw'=>yM (v:=ptr0 t) rfl) ?_
  refine Mx.zI rfl rfl rfl (fun w' hw'=>yB rfl) ?_
  refine Mx.zI rfl rfl rfl (fun w' hw'=>fa215_3 rfl) ?_
  refine Mx.yO oS rfl rfl rfl (fun w' hw'=>zN one163 rfl (Cells.get (Blk.cells ((H.sees hw').item (i:=7) rfl)) (i:=3) rfl)) ?_
  refine Mx.zI rfl rfl rfl (fun w' hw'=>fa70_1 rfl) ?_
  refine Mx.yO oS rfl rfl rfl (fun w' hw'=>zN one9 rfl (Cells.get (Blk.cells ((H.sees hw').item (i:=2) rfl)) (i:=1) rfl)) ?_
  obtain ⟨P,du,h⟩:=zD h
  refine Mx.yO oS rfl rfl rfl (fun w' hw'=>yS (Do_lookup (K:=Ky.str) (G:=(fun v=>Value.int .i64 v)) (m:=j.rules) (k:=d.Name) (zv:=0) ((H.sees hw').item (i:=6) rfl) u163 u9 rfl rfl (Tryz.zeroValue3 w')) (congrArg (fun v=>Value.int .i64 v) du)) ?_
  refine Mx.zI rfl rfl rfl (fun w' hw'=>xW (cs:=[.int .i64 P]) (bt285_0 _)) ?_
  have H:=nd_mk_rule (rule:=P) H
  refine Mx.zI rfl rfl rfl (fun w' hw'=>Do_mkI (by kernel_rfl) rfl) ?_
  refine Mx.zI rfl rfl rfl (fun w' hw'=>xN (v:=(.iface 285 (.agg ([.int .i64 P]:List Value).toArray))) rfl) ?_
  refine Mx.xK fun go hS=>?_
  have H:=H.sees hS
  have H:=dt.rejoin H
  refine (zA (ds _ _ ?_))
  obtain rfl:=someI h
  refine (zY (yF (zV (post1 (v1:=(.iface 285 (.agg ([.int .i64 P]:List Value).toArray))) rfl rfl ?_))))
  exact ⟨(.iface 285 (.agg ([.int .i64 P]:List Value).toArray)),[],rfl,H.pick [8,4,5,6,7] (by decide)⟩
 have h:=zT av h
 refine zC fun gp dv=>zB ?_
 obtain ⟨bl,dw,h⟩:=zD h
 refine zH (zQ (xA (a:=d.Kind) (b:=8) rfl rfl) dw)<| zK (.bool bl)<| (zG (zA (dv _ _ ?_)))
 refine zZ (b:=bl) rfl (fun aw=>?_) (fun aw=>?_)
 ·have h:=zS aw h
  refine zC fun gq dx=>zB ?_
  refine zJ u ?_
  obtain ⟨bm,Q,h⟩:=zF h
  obtain ⟨gr,gs,gt,ax⟩:=row_at (H.item (i:=3) rfl) Q
  refine zH (xE u143 sz170 ax rfl (yE Q).1 (yE Q).2.1 rfl rfl) ?_
  obtain ⟨gu,bn,dy,H⟩:=H.focusV 3 rfl ax Q rfl
  obtain ⟨R,rfl⟩:=tr_cell rfl (H.item (i:=8) rfl)
  have H:Hd _ _ _ _ [.fz (.sl Rp.str p j.phases),.fz (.sl rCond s d.Kids),.blk x [.int .i64 d.Kind,.string (bs d.Name),.string (bs d.Other),.int .i64 d.Op,.int .i64 d.N,.int .i64 d.Frames,s] 70,.mp l (mcells Ky.str (fun v=>Value.int .i64 v) j.tracks),.own (Rp.int .i64) o 3 j.dens,.mp q (mcells Ky.str (fun v=>Value.int .i64 v) j.rules),.blk t [.map (some l),o,p,.map (some q)] 215,.tr (Rt.row rtNd 170 [((0:Int).toNat,[R])]) [u] bn y,.tr rtNd [R] dy bm]:=H
  refine zH (zN one170 rfl (Cells.get (H.holeW 7 rfl ax Q rfl lookup_eq) (i:=0) rfl)) ?_
  obtain ⟨dz,d0,d1⟩:=nd_if (H.item (i:=8) rfl)
  refine zH (xW (cs:=[R]) (by rw [d1]; exact bt248_0 dz d0))<| yY rfl rfl (xX (cs:=[R]) rfl H) ?_
  rintro _ gv ⟨ad,rfl,H⟩
  obtain ⟨bo,H⟩:=nd_mk_not H 8 9 rfl rfl (by decide)
  have H:Hd _ _ _ _ [.fz (.sl Rp.str p j.phases),.fz (.sl rCond s d.Kids),.blk x [.int .i64 d.Kind,.string (bs d.Name),.string (bs d.Other),.int .i64 d.Op,.int .i64 d.N,.int .i64 d.Frames,s] 70,.mp l (mcells Ky.str (fun v=>Value.int .i64 v) j.tracks),.own (Rp.int .i64) o 3 j.dens,.mp q (mcells Ky.str (fun v=>Value.int .i64 v) j.rules),.blk t [.map (some l),o,p,.map (some q)] 215,.tr (Rt.row rtNd 170 [((0:Int).toNat,[R])]) [u] bn y,.tr rtNd [(.iface 246 (ptr0 ad))] bo (.not bm:Nd)]:=H
  refine zH (Do_mkI (by kernel_rfl) rfl)<| zK (.iface 246 (ptr0 ad))<| (zG (zA (dx _ _ ?_)))
  obtain rfl:=someI h
  refine (zY (yF (zV (post1 (v1:=(.iface 246 (ptr0 ad))) rfl rfl ?_))))
  exact ⟨(.iface 246 (ptr0 ad)),bo,rfl,H.pick [8,3,4,5,6] (by decide)⟩
 have h:=zT aw h
 obtain ⟨bp,h,d2⟩:=zF h
 refine yK [119,120,121] (fun (g:Unit)=>[(119,.bool bp)]) (fun g wl=>Hd O w wl S [.fz (.sl Rp.str p j.phases),.fz (.sl rCond s d.Kids),.blk x [.int .i64 d.Kind,.string (bs d.Name),.string (bs d.Other),.int .i64 d.Op,.int .i64 d.N,.int .i64 d.Frames,s] 70,.tr rowNd [u] ak y,.mp l (mcells Ky.str (fun v=>Value.int .i64 v) j.tracks),.own (Rp.int .i64) o 3 j.dens,.mp q (mcells Ky.str (fun v=>Value.int .i64 v) j.rules),.blk t [.map (some l),o,p,.map (some q)] 215]) ?_ ?_
 ·skip
  refine zC fun gw d3=>zB ?_
  obtain ⟨bq,d4,h⟩:=zD h
  refine zH (zQ (xA (a:=d.Kind) (b:=9) rfl rfl) d4)<| zK (.bool bq)<| (zG (zA (d3 _ _ ?_)))
  refine zZ (b:=bq) rfl (fun ay=>?_) (fun ay=>?_)
  ·have h:=zS ay h
   obtain rfl:=someI h
   exact (yA (zA (meet ⟨(),(zL rfl zM),H.pick [0,1,2,3,4,5,6,7] (by decide)⟩)))
  have h:=zT ay h
  refine zB ?_
  obtain ⟨d5,d6,h⟩:=zD h
  refine zH (zQ (xA (a:=d.Kind) (b:=10) rfl rfl) d6)<| zK (.bool d5) ?_
  obtain rfl:=someI h
  exact (zG (zA (meet ⟨(),(zL rfl zM),H.pick [0,1,2,3,4,5,6,7] (by decide)⟩)))
 rintro _ ρ gx H
 have h:=d2
 refine zZ (b:=bp) rfl (fun az=>?_) (fun az=>?_)
 ·have h:=zS az h
  refine zC fun gy d7=>zB ?_
  refine zJ u<| zH (fa70_0 rfl)<| zH (zN one3 rfl (Cells.get (Blk.cells (H.item (i:=2) rfl)) (i:=0) rfl)) ?_
  obtain ⟨a0,d8,h⟩:=zD h
  refine zH (zQ (xA (a:=d.Kind) (b:=10) rfl rfl) d8) ?_
  obtain ⟨d9,ea,eb⟩: ∃a c,u= .slice a _ c:=row_len ((H.item (i:=3) rfl))
  refine zH (xW (cs:=[u,.bool a0]) (by rw [eb]; exact bt251_0_1 d9 _ ea _))<| yY rfl rfl (xX (cs:=[u,.bool a0]) rfl H) ?_
  rintro _ gz ⟨ae,rfl,H⟩
  obtain ⟨br,H⟩:=nd_mk_group H 3 8 rfl rfl (by decide)
  have H:Hd _ _ _ _ [.fz (.sl Rp.str p j.phases),.fz (.sl rCond s d.Kids),.blk x [.int .i64 d.Kind,.string (bs d.Name),.string (bs d.Other),.int .i64 d.Op,.int .i64 d.N,.int .i64 d.Frames,s] 70,.mp l (mcells Ky.str (fun v=>Value.int .i64 v) j.tracks),.own (Rp.int .i64) o 3 j.dens,.mp q (mcells Ky.str (fun v=>Value.int .i64 v) j.rules),.blk t [.map (some l),o,p,.map (some q)] 215,.tr rtNd [(.iface 249 (ptr0 ae))] br (.group y a0:Nd)]:=H
  refine zH (Do_mkI (by kernel_rfl) rfl)<| zK (.iface 249 (ptr0 ae))<| (zG (zA (d7 _ _ ?_)))
  obtain rfl:=someI h
  refine (zY (yF (zV (post1 (v1:=(.iface 249 (ptr0 ae))) rfl rfl ?_))))
  exact ⟨(.iface 249 (ptr0 ae)),br,rfl,H.pick [7,3,4,5,6] (by decide)⟩
 have h:=zT az h
 refine zC fun g0 ec=>zB ?_
 obtain ⟨bt,ed,h⟩:=zD h
 refine zH (zQ (xA (a:=d.Kind) (b:=11) rfl rfl) ed)<| zK (.bool bt)<| (zG (zA (ec _ _ ?_)))
 refine zZ (b:=bt) rfl (fun a1=>?_) (fun a1=>?_)
 ·have h:=zS a1 h
  refine zC fun g1 ee=>?_
  have ef:=H
  have H:=H.rebase
  have g2:=H
  refine wF H [0,1,2,3,4,5,6,7,8,9,10] [.pure,.pure,.read,.pure,.read,.pure,.read,.pure,.new,.pure,.pure] mixed (by kernel_rfl) (by kernel_rfl) (by kernel_rfl) rfl ?_
  refine Mx.zI rfl rfl rfl (fun w' hw'=>yM (v:=u) rfl) ?_
  obtain ⟨bu,T,h⟩:=zF h
  obtain ⟨g3,g4,g5,a2⟩:=row_at (H.item (i:=3) rfl) T
  refine Mx.zI rfl rfl rfl (fun w' hw'=>xE u143 sz170 a2 rfl (yE T).1 (yE T).2.1 rfl rfl) ?_
  obtain ⟨g6,bv,eg,H⟩:=H.focusV 3 rfl a2 T rfl
  obtain ⟨F,rfl⟩:=tr_cell rfl (H.item (i:=8) rfl)
  have H:Hd _ _ _ _ [.fz (.sl Rp.str p j.phases),.fz (.sl rCond s d.Kids),.blk x [.int .i64 d.Kind,.string (bs d.Name),.string (bs d.Other),.int .i64 d.Op,.int .i64 d.N,.int .i64 d.Frames,s] 70,.mp l (mcells Ky.str (fun v=>Value.int .i64 v) j.tracks),.own (Rp.int .i64) o 3 j.dens,.mp q (mcells Ky.str (fun v=>Value.int .i64 v) j.rules),.blk t [.map (some l),o,p,.map (some q)] 215,.tr (Rt.row rtNd 170 [((0:Int).toNat,[F])]) [u] bv y,.tr rtNd [F] eg bu]:=H
  refine Mx.yO oS rfl rfl rfl (fun w' hw'=>zN one170 rfl (Cells.get ((H.sees hw').holeW 7 rfl a2 T rfl lookup_eq) (i:=0) rfl)) ?_
  refine Mx.zI rfl rfl rfl (fun w' hw'=>fa70_5 rfl) ?_
  refine Mx.yO oS rfl rfl rfl (fun w' hw'=>zN one3 rfl (Cells.get (Blk.cells ((H.sees hw').item (i:=2) rfl)) (i:=5) rfl)) ?_
  refine Mx.zI rfl rfl rfl (fun w' hw'=>fa70_5 rfl) ?_
  refine Mx.yO oS rfl rfl rfl (fun w' hw'=>zN one3 rfl (Cells.get (Blk.cells ((H.sees hw').item (i:=2) rfl)) (i:=5) rfl)) ?_
  obtain ⟨eh,ei,ej⟩:=nd_if (H.item (i:=8) rfl)
  refine Mx.zI rfl rfl rfl (fun w' hw'=>xW (cs:=[F,.int .i64 d.Frames,.int .i64 d.Frames,.slice none 0 0]++((Fl.arr 3 (Fl.int .i64)).f (Arr.rep 3 0:Arr 3 Int))) (by rw [ej]; exact bt245_0_1_2 eh ei _ _)) ?_
  refine Mx.XL_exN oS rfl rfl rfl (fun w' hw'=>Ls_of (xX (cs:=[F,.int .i64 d.Frames,.int .i64 d.Frames,.slice none 0 0]++((Fl.arr 3 (Fl.int .i64)).f (Arr.rep 3 0:Arr 3 Int))) rfl (H.sees hw')) (Ys_box (cs:=[F,.int .i64 d.Frames,.int .i64 d.Frames,.slice none 0 0]++((Fl.arr 3 (Fl.int .i64)).f (Arr.rep 3 0:Arr 3 Int))) rfl)) ?_
  rintro w' _ g7 hw' ⟨af,rfl,H⟩
  have H:=row_nil H (Rt.of (Rp.int .i64)) 3
  obtain ⟨bw,H⟩:=nd_mk_count H 8 10 9 rfl rfl rfl (by decide)
  have H:Hd _ _ _ _ [.fz (.sl Rp.str p j.phases),.fz (.sl rCond s d.Kids),.blk x [.int .i64 d.Kind,.string (bs d.Name),.string (bs d.Other),.int .i64 d.Op,.int .i64 d.N,.int .i64 d.Frames,s] 70,.mp l (mcells Ky.str (fun v=>Value.int .i64 v) j.tracks),.own (Rp.int .i64) o 3 j.dens,.mp q (mcells Ky.str (fun v=>Value.int .i64 v) j.rules),.blk t [.map (some l),o,p,.map (some q)] 215,.tr (Rt.row rtNd 170 [((0:Int).toNat,[F])]) [u] bv y,.tr rtNd [(.iface 242 (ptr0 af))] bw (.count bu d.Frames d.Frames [] (Arr.rep 3 0:Arr 3 Int):Nd)]:=H
  refine Mx.zI rfl rfl rfl (fun w' hw'=>Do_mkI (by kernel_rfl) rfl) ?_
  refine Mx.zI rfl rfl rfl (fun w' hw'=>xN (v:=(.iface 242 (ptr0 af))) rfl) ?_
  refine Mx.xK fun g8 hS=>?_
  have H:=H.sees hS
  have H:=ef.rejoin H
  refine (zA (ee _ _ ?_))
  obtain rfl:=someI h
  refine (zY (yF (zV (post1 (v1:=(.iface 242 (ptr0 af))) rfl rfl ?_))))
  exact ⟨(.iface 242 (ptr0 af)),bw,rfl,H.pick [8,3,4,5,6] (by decide)⟩
 have h:=zT a1 h
 refine zC fun g9 ek=>zB ?_
 obtain ⟨bx,el,h⟩:=zD h
 refine zH (zQ (xA (a:=d.Kind) (b:=12) rfl rfl) el)<| zK (.bool bx)<| (zG (zA (ek _ _ ?_)))
 refine zZ (b:=bx) rfl (fun a3=>?_) (fun a3=>?_)
 ·have h:=zS a3 h
  refine zC fun ha em=>?_
  have en:=H
  have H:=H.rebase
  have hb:=H
  refine wF H [0,1,2,3,4,5,6,7,8] [.pure,.pure,.read,.pure,.read,.pure,.new,.pure,.pure] mixed (by kernel_rfl) (by kernel_rfl) (by kernel_rfl) rfl ?_
  refine Mx.zI rfl rfl rfl (fun w' hw'=>yM (v:=u) rfl) ?_
  obtain ⟨bz,U,h⟩:=zF h
  obtain ⟨hc,he,hf,a4⟩:=row_at (H.item (i:=3) rfl) U
  refine Mx.zI rfl rfl rfl (fun w' hw'=>xE u143 sz170 a4 rfl (yE U).1 (yE U).2.1 rfl rfl) ?_
  obtain ⟨hg,b0,eo,H⟩:=H.focusV 3 rfl a4 U rfl
  obtain ⟨I,rfl⟩:=tr_cell rfl (H.item (i:=8) rfl)
  have H:Hd _ _ _ _ [.fz (.sl Rp.str p j.phases),.fz (.sl rCond s d.Kids),.blk x [.int .i64 d.Kind,.string (bs d.Name),.string (bs d.Other),.int .i64 d.Op,.int .i64 d.N,.int .i64 d.Frames,s] 70,.mp l (mcells Ky.str (fun v=>Value.int .i64 v) j.tracks),.own (Rp.int .i64) o 3 j.dens,.mp q (mcells Ky.str (fun v=>Value.int .i64 v) j.rules),.blk t [.map (some l),o,p,.map (some q)] 215,.tr (Rt.row rtNd 170 [((0:Int).toNat,[I])]) [u] b0 y,.tr rtNd [I] eo bz]:=H
  refine Mx.yO oS rfl rfl rfl (fun w' hw'=>zN one170 rfl (Cells.get ((H.sees hw').holeW 7 rfl a4 U rfl lookup_eq) (i:=0) rfl)) ?_
  refine Mx.zI rfl rfl rfl (fun w' hw'=>fa70_5 rfl) ?_
  refine Mx.yO oS rfl rfl rfl (fun w' hw'=>zN one3 rfl (Cells.get (Blk.cells ((H.sees hw').item (i:=2) rfl)) (i:=5) rfl)) ?_
  obtain ⟨ep,er,es⟩:=nd_if (H.item (i:=8) rfl)
  refine Mx.zI rfl rfl rfl (fun w' hw'=>xW (cs:=[I,.int .i64 1,.int .i64 d.Frames,.slice none 0 0]++((Fl.arr 3 (Fl.int .i64)).f (Arr.rep 3 0:Arr 3 Int))) (by rw [es]; exact bt245_0_1_2 ep er _ _)) ?_
  refine Mx.XL_exN oS rfl rfl rfl (fun w' hw'=>Ls_of (xX (cs:=[I,.int .i64 1,.int .i64 d.Frames,.slice none 0 0]++((Fl.arr 3 (Fl.int .i64)).f (Arr.rep 3 0:Arr 3 Int))) rfl (H.sees hw')) (Ys_box (cs:=[I,.int .i64 1,.int .i64 d.Frames,.slice none 0 0]++((Fl.arr 3 (Fl.int .i64)).f (Arr.rep 3 0:Arr 3 Int))) rfl)) ?_
  rintro w' _ hh hw' ⟨ag,rfl,H⟩
  have H:=row_nil H (Rt.of (Rp.int .i64)) 3
  obtain ⟨b1,H⟩:=nd_mk_count H 8 10 9 rfl rfl rfl (by decide)
  have H:Hd _ _ _ _ [.fz (.sl Rp.str p j.phases),.fz (.sl rCond s d.Kids),.blk x [.int .i64 d.Kind,.string (bs d.Name),.string (bs d.Other),.int .i64 d.Op,.int .i64 d.N,.int .i64 d.Frames,s] 70,.mp l (mcells Ky.str (fun v=>Value.int .i64 v) j.tracks),.own (Rp.int .i64) o 3 j.dens,.mp q (mcells Ky.str (fun v=>Value.int .i64 v) j.rules),.blk t [.map (some l),o,p,.map (some q)] 215,.tr (Rt.row rtNd 170 [((0:Int).toNat,[I])]) [u] b0 y,.tr rtNd [(.iface 242 (ptr0 ag))] b1 (.count bz 1 d.Frames [] (Arr.rep 3 0:Arr 3 Int):Nd)]:=H
  refine Mx.zI rfl rfl rfl (fun w' hw'=>Do_mkI (by kernel_rfl) rfl) ?_
  refine Mx.zI rfl rfl rfl (fun w' hw'=>xN (v:=(.iface 242 (ptr0 ag))) rfl) ?_
  refine Mx.xK fun hi hS=>?_
  have H:=H.sees hS
  have H:=en.rejoin H
  refine (zA (em _ _ ?_))
  obtain rfl:=someI h
  refine (zY (yF (zV (post1 (v1:=(.iface 242 (ptr0 ag))) rfl rfl ?_))))
  exact ⟨(.iface 242 (ptr0 ag)),b1,rfl,H.pick [8,3,4,5,6] (by decide)⟩
 have h:=zT a3 h
 refine zC fun hj et=>zB ?_
 obtain ⟨b2,eu,h⟩:=zD h
 refine zH (zQ (xA (a:=d.Kind) (b:=13) rfl rfl) eu)<| zK (.bool b2)<| (zG (zA (et _ _ ?_)))
 refine zZ (b:=b2) rfl (fun a5=>?_) (fun a5=>?_)
 ·have h:=zS a5 h
  refine zC fun hk ew=>?_
  have ex:=H
  have H:=H.rebase
  have hl:=H
  refine wF H [0,1,2,3,4,5,6,7,8,9,10] [.pure,.pure,.read,.pure,.read,.pure,.read,.pure,.new,.pure,.pure] mixed (by kernel_rfl) (by kernel_rfl) (by kernel_rfl) rfl ?_
  refine Mx.zI rfl rfl rfl (fun w' hw'=>yM (v:=u) rfl) ?_
  obtain ⟨b3,V,h⟩:=zF h
  obtain ⟨hn,ho,hp,a6⟩:=row_at (H.item (i:=3) rfl) V
  refine Mx.zI rfl rfl rfl (fun w' hw'=>xE u143 sz170 a6 rfl (yE V).1 (yE V).2.1 rfl rfl) ?_
  obtain ⟨hq,b4,ey,H⟩:=H.focusV 3 rfl a6 V rfl
  obtain ⟨J,rfl⟩:=tr_cell rfl (H.item (i:=8) rfl)
  have H:Hd _ _ _ _ [.fz (.sl Rp.str p j.phases),.fz (.sl rCond s d.Kids),.blk x [.int .i64 d.Kind,.string (bs d.Name),.string (bs d.Other),.int .i64 d.Op,.int .i64 d.N,.int .i64 d.Frames,s] 70,.mp l (mcells Ky.str (fun v=>Value.int .i64 v) j.tracks),.own (Rp.int .i64) o 3 j.dens,.mp q (mcells Ky.str (fun v=>Value.int .i64 v) j.rules),.blk t [.map (some l),o,p,.map (some q)] 215,.tr (Rt.row rtNd 170 [((0:Int).toNat,[J])]) [u] b4 y,.tr rtNd [J] ey b3]:=H
  refine Mx.yO oS rfl rfl rfl (fun w' hw'=>zN one170 rfl (Cells.get ((H.sees hw').holeW 7 rfl a6 V rfl lookup_eq) (i:=0) rfl)) ?_
  refine Mx.zI rfl rfl rfl (fun w' hw'=>fa70_4 rfl) ?_
  refine Mx.yO oS rfl rfl rfl (fun w' hw'=>zN one3 rfl (Cells.get (Blk.cells ((H.sees hw').item (i:=2) rfl)) (i:=4) rfl)) ?_
  refine Mx.zI rfl rfl rfl (fun w' hw'=>fa70_5 rfl) ?_
  refine Mx.yO oS rfl rfl rfl (fun w' hw'=>zN one3 rfl (Cells.get (Blk.cells ((H.sees hw').item (i:=2) rfl)) (i:=5) rfl)) ?_
  obtain ⟨ez,e0,e1⟩:=nd_if (H.item (i:=8) rfl)
  refine Mx.zI rfl rfl rfl (fun w' hw'=>xW (cs:=[J,.int .i64 d.N,.int .i64 d.Frames,.slice none 0 0]++((Fl.arr 3 (Fl.int .i64)).f (Arr.rep 3 0:Arr 3 Int))) (by rw [e1]; exact bt245_0_1_2 ez e0 _ _)) ?_
  refine Mx.XL_exN oS rfl rfl rfl (fun w' hw'=>Ls_of (xX (cs:=[J,.int .i64 d.N,.int .i64 d.Frames,.slice none 0 0]++((Fl.arr 3 (Fl.int .i64)).f (Arr.rep 3 0:Arr 3 Int))) rfl (H.sees hw')) (Ys_box (cs:=[J,.int .i64 d.N,.int .i64 d.Frames,.slice none 0 0]++((Fl.arr 3 (Fl.int .i64)).f (Arr.rep 3 0:Arr 3 Int))) rfl)) ?_
  rintro w' _ hr hw' ⟨ah,rfl,H⟩
  have H:=row_nil H (Rt.of (Rp.int .i64)) 3
  obtain ⟨b5,H⟩:=nd_mk_count H 8 10 9 rfl rfl rfl (by decide)
  have H:Hd _ _ _ _ [.fz (.sl Rp.str p j.phases),.fz (.sl rCond s d.Kids),.blk x [.int .i64 d.Kind,.string (bs d.Name),.string (bs d.Other),.int .i64 d.Op,.int .i64 d.N,.int .i64 d.Frames,s] 70,.mp l (mcells Ky.str (fun v=>Value.int .i64 v) j.tracks),.own (Rp.int .i64) o 3 j.dens,.mp q (mcells Ky.str (fun v=>Value.int .i64 v) j.rules),.blk t [.map (some l),o,p,.map (some q)] 215,.tr (Rt.row rtNd 170 [((0:Int).toNat,[J])]) [u] b4 y,.tr rtNd [(.iface 242 (ptr0 ah))] b5 (.count b3 d.N d.Frames [] (Arr.rep 3 0:Arr 3 Int):Nd)]:=H
  refine Mx.zI rfl rfl rfl (fun w' hw'=>Do_mkI (by kernel_rfl) rfl) ?_
  refine Mx.zI rfl rfl rfl (fun w' hw'=>xN (v:=(.iface 242 (ptr0 ah))) rfl) ?_
  refine Mx.xK fun hs hS=>?_
  have H:=H.sees hS
  have H:=ex.rejoin H
  refine (zA (ew _ _ ?_))
  obtain rfl:=someI h
  refine (zY (yF (zV (post1 (v1:=(.iface 242 (ptr0 ah))) rfl rfl ?_))))
  exact ⟨(.iface 242 (ptr0 ah)),b5,rfl,H.pick [8,3,4,5,6] (by decide)⟩
 have h:=zT a5 h
 refine zC fun ht e2=>zB ?_
 obtain ⟨b6,e3,h⟩:=zD h
 refine zH (zQ (xA (a:=d.Kind) (b:=14) rfl rfl) e3)<| zK (.bool b6)<| (zG (zA (e2 _ _ ?_)))
 refine zZ (b:=b6) rfl (fun a7=>?_) (fun a7=>?_)
 ·have h:=zS a7 h
  refine zC fun hu e4=>?_
  have e5:=H
  have H:=H.rebase
  have hv:=H
  refine wF H [0,1,2,3,4,5,6,7,8,9] [.pure,.pure,.read,.pure,.pure,.read,.pure,.new,.pure,.pure] mixed (by kernel_rfl) (by kernel_rfl) (by kernel_rfl) rfl ?_
  refine Mx.zI rfl rfl rfl (fun w' hw'=>yM (v:=u) rfl) ?_
  obtain ⟨a8,X,h⟩:=zF h
  obtain ⟨hw,hx,hy,a9⟩:=row_at (H.item (i:=3) rfl) X
  refine Mx.zI rfl rfl rfl (fun w' hw'=>xE u143 sz170 a9 rfl (yE X).1 (yE X).2.1 rfl rfl) ?_
  obtain ⟨hz,e6,b7,H⟩:=H.focusV 3 rfl a9 X rfl
  obtain ⟨B,rfl⟩:=tr_cell rfl (H.item (i:=8) rfl)
  have H:Hd _ _ _ _ [.fz (.sl Rp.str p j.phases),.fz (.sl rCond s d.Kids),.blk x [.int .i64 d.Kind,.string (bs d.Name),.string (bs d.Other),.int .i64 d.Op,.int .i64 d.N,.int .i64 d.Frames,s] 70,.mp l (mcells Ky.str (fun v=>Value.int .i64 v) j.tracks),.own (Rp.int .i64) o 3 j.dens,.mp q (mcells Ky.str (fun v=>Value.int .i64 v) j.rules),.blk t [.map (some l),o,p,.map (some q)] 215,.tr (Rt.row rtNd 170 [((0:Int).toNat,[B])]) [u] e6 y,.tr rtNd [B] b7 a8]:=H
  refine Mx.yO oS rfl rfl rfl (fun w' hw'=>zN one170 rfl (Cells.get ((H.sees hw').holeW 7 rfl a9 X rfl lookup_eq) (i:=0) rfl)) ?_
  refine Mx.zI rfl rfl rfl (fun w' hw'=>yM (v:=u) rfl) ?_
  obtain ⟨b8,Y,h⟩:=zF h
  obtain ⟨h0,h1,h2,ba⟩:=row_at (H.item (i:=7) rfl) Y
  refine Mx.zI rfl rfl rfl (fun w' hw'=>xE u143 sz170 ba rfl (yE Y).1 (yE Y).2.1 rfl rfl) ?_
  obtain ⟨h3,b9,e7,H⟩:=H.focusV 7 rfl ba Y rfl
  obtain ⟨L,rfl⟩:=tr_cell rfl (H.item (i:=9) rfl)
  have H:Hd _ _ _ _ [.fz (.sl Rp.str p j.phases),.fz (.sl rCond s d.Kids),.blk x [.int .i64 d.Kind,.string (bs d.Name),.string (bs d.Other),.int .i64 d.Op,.int .i64 d.N,.int .i64 d.Frames,s] 70,.mp l (mcells Ky.str (fun v=>Value.int .i64 v) j.tracks),.own (Rp.int .i64) o 3 j.dens,.mp q (mcells Ky.str (fun v=>Value.int .i64 v) j.rules),.blk t [.map (some l),o,p,.map (some q)] 215,.tr rtNd [B] b7 a8,.tr (Rt.row rtNd 170 [((1:Int).toNat,[L]),((0:Int).toNat,[B])]) [u] b9 y,.tr rtNd [L] e7 b8]:=H
  refine Mx.yO oS rfl rfl rfl (fun w' hw'=>zN one170 rfl (Cells.get ((H.sees hw').holeW 8 rfl ba Y rfl lookup_eq) (i:=0) rfl)) ?_
  obtain ⟨e8,e9,fa⟩:=nd_if (H.item (i:=7) rfl)
  obtain ⟨fb,fc,fd⟩:=nd_if (H.item (i:=9) rfl)
  refine Mx.zI rfl rfl rfl (fun w' hw'=>xW (cs:=[B,L,.int .i64 0,.bool false]) (by rw [fa,fd]; exact bt255_0_1 e8 e9 fb fc)) ?_
  refine Mx.XL_exN oS rfl rfl rfl (fun w' hw'=>Ls_of (xX (cs:=[B,L,.int .i64 0,.bool false]) rfl (H.sees hw')) (Ys_box (cs:=[B,L,.int .i64 0,.bool false]) rfl)) ?_
  rintro w' _ h4 hw' ⟨ai,rfl,H⟩
  obtain ⟨ca,H⟩:=nd_mk_since H 7 9 10 rfl rfl rfl (by decide)
  have H:Hd _ _ _ _ [.fz (.sl Rp.str p j.phases),.fz (.sl rCond s d.Kids),.blk x [.int .i64 d.Kind,.string (bs d.Name),.string (bs d.Other),.int .i64 d.Op,.int .i64 d.N,.int .i64 d.Frames,s] 70,.mp l (mcells Ky.str (fun v=>Value.int .i64 v) j.tracks),.own (Rp.int .i64) o 3 j.dens,.mp q (mcells Ky.str (fun v=>Value.int .i64 v) j.rules),.blk t [.map (some l),o,p,.map (some q)] 215,.tr (Rt.row rtNd 170 [((1:Int).toNat,[L]),((0:Int).toNat,[B])]) [u] b9 y,.tr rtNd [(.iface 252 (ptr0 ai))] ca (.since a8 b8 0 false:Nd)]:=H
  refine Mx.zI rfl rfl rfl (fun w' hw'=>Do_mkI (by kernel_rfl) rfl) ?_
  refine Mx.zI rfl rfl rfl (fun w' hw'=>xN (v:=(.iface 252 (ptr0 ai))) rfl) ?_
  refine Mx.xK fun h5 hS=>?_
  have H:=H.sees hS
  have H:=e5.rejoin H
  refine (zA (e4 _ _ ?_))
  obtain rfl:=someI h
  refine (zY (yF (zV (post1 (v1:=(.iface 252 (ptr0 ai))) rfl rfl ?_))))
  exact ⟨(.iface 252 (ptr0 ai)),ca,rfl,H.pick [8,3,4,5,6] (by decide)⟩
 have h:=zT a7 h
 refine (yA (yP (zA (ck _ _ ?_))))
 refine zC fun h6 fe=>zB ?_
 refine zJ u ?_
 obtain ⟨cb,Z,h⟩:=zF h
 obtain ⟨h7,h8,h9,bb⟩:=row_at (H.item (i:=3) rfl) Z
 refine zH (xE u143 sz170 bb rfl (yE Z).1 (yE Z).2.1 rfl rfl) ?_
 obtain ⟨ia,cc,ff,H⟩:=H.focusV 3 rfl bb Z rfl
 obtain ⟨aa,rfl⟩:=tr_cell rfl (H.item (i:=8) rfl)
 have H:Hd _ _ _ _ [.fz (.sl Rp.str p j.phases),.fz (.sl rCond s d.Kids),.blk x [.int .i64 d.Kind,.string (bs d.Name),.string (bs d.Other),.int .i64 d.Op,.int .i64 d.N,.int .i64 d.Frames,s] 70,.mp l (mcells Ky.str (fun v=>Value.int .i64 v) j.tracks),.own (Rp.int .i64) o 3 j.dens,.mp q (mcells Ky.str (fun v=>Value.int .i64 v) j.rules),.blk t [.map (some l),o,p,.map (some q)] 215,.tr (Rt.row rtNd 170 [((0:Int).toNat,[aa])]) [u] cc y,.tr rtNd [aa] ff cb]:=H
 refine zH (zN one170 rfl (Cells.get (H.holeW 7 rfl bb Z rfl lookup_eq) (i:=0) rfl)) ?_
 obtain ⟨fg,fh,fi⟩:=nd_if (H.item (i:=8) rfl)
 refine zH (xW (cs:=[aa,.int .i64 0,.bool false]) (by rw [fi]; exact bt258_0 fg fh))<| yY rfl rfl (xX (cs:=[aa,.int .i64 0,.bool false]) rfl H) ?_
 rintro _ ib ⟨aj,rfl,H⟩
 obtain ⟨cd,H⟩:=nd_mk_rises H 8 9 rfl rfl (by decide)
 have H:Hd _ _ _ _ [.fz (.sl Rp.str p j.phases),.fz (.sl rCond s d.Kids),.blk x [.int .i64 d.Kind,.string (bs d.Name),.string (bs d.Other),.int .i64 d.Op,.int .i64 d.N,.int .i64 d.Frames,s] 70,.mp l (mcells Ky.str (fun v=>Value.int .i64 v) j.tracks),.own (Rp.int .i64) o 3 j.dens,.mp q (mcells Ky.str (fun v=>Value.int .i64 v) j.rules),.blk t [.map (some l),o,p,.map (some q)] 215,.tr (Rt.row rtNd 170 [((0:Int).toNat,[aa])]) [u] cc y,.tr rtNd [(.iface 256 (ptr0 aj))] cd (.rises cb 0 false:Nd)]:=H
 refine zH (Do_mkI (by kernel_rfl) rfl)<| zK (.iface 256 (ptr0 aj))<| (zG (zA (fe _ _ ?_)))
 obtain rfl:=someI h
 refine (zY (post1 (v1:=(.iface 256 (ptr0 aj))) rfl rfl ?_))
 exact ⟨(.iface 256 (ptr0 aj)),cd,rfl,H.pick [8,3,4,5,6] (by decide)⟩
theorem Fe4:Fc9 (Fbj):=by
 have h: ∀n,Fc9 (Fat n):=by
  intro n
  induction n with
  | zero=>intro b c d e f i j k r a; cases a
  | succ n ih=>intro b c d e f i j k r a; exact Fbrw (Fat n) ih b c d e f i j k r a
 exact h FU
end Go.Proofs.YtckmiljbaejijaaGreatDoor.L
