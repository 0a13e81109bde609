/- Walks: what each function computes, for every argument; no condition but those that stand in the statements. -/
import Derived.Test.YtckmiljbaejijaaGreatDoorUV0
import Derived.Test.YtckmiljbaejijaaGreatDoorUV3
namespace Go.Proofs.YtckmiljbaejijaaGreatDoor.L
open Go.RowKit Go.OB Go.Lf
set_option maxHeartbeats 4000000
set_option maxRecDepth 100000 in
theorem Fcmw (rfH:fZ→Cond→Option Nd)(rhH:Fdb rfH)(j:fZ)(d:Cond)(u:Nat)(o:Nat)(p:Value)(q:Value)(s:Nat)(t:Value)(r:Nd)(h:Fcm rfH j d=some r)(O S:List Nat)(w:World)(H:Hd O w w S [.mp o (fB Ky.str (fun v=>Value.int .i64 v) j.tracks),.own (Rp.int .i64) p 3 j.dens,.mp s (fB Ky.str (fun v=>Value.int .i64 v) j.rules),.blk u [.map (some o),p,q,.map (some s)] 215,f1 Rp.str q j.phases,f1 fD t d.Kids]):
  Cl 137 [gU u,.agg [i6 d.Kind,sb d.Name,sb d.Other,i6 d.Op,i6 d.N,i6 d.Frames,t].toArray] w fun e x=> ∃be cg,e= .returned (be)∧Hd O w x S [.tr gY [be] cg r,.mp o (fB Ky.str (fun v=>Value.int .i64 v) j.tracks),.own (Rp.int .i64) p 3 j.dens,.mp s (fB Ky.str (fun v=>Value.int .i64 v) j.rules),.blk u [.map (some o),p,q,.map (some s)] 215]:=by
 unfold Fcm at h
 refine zS 180 Tryz.func137 rfl rfl rfl ?_
 refine zC fun fm ch=>zA<| yP rfl rfl (xW (cs:=[i6 d.Kind,sb d.Name,sb d.Other,i6 d.Op,i6 d.N,i6 d.Frames,t]) rfl H) ?_
 rintro _ fn ⟨z,rfl,H⟩
 refine zK .nilIface<| zF (zB (ch _ _ ?_))
 refine zC fun fo ci=>zA<| zI (gU u)<| zH (fa70_6 rfl)<| Ld one68 H 6 6 rfl rfl ?_
 obtain ⟨A,cj,h⟩:=zD h
 refine yA rfl rfl (zV en190 rfl) (Fbyw rfH rhH (fZ.mk j.tracks j.dens j.phases j.rules) d.Kids u o p q s t _ cj _ _ _ (H.enter [0,1,2,3] [4,5] (by decide) rfl)) ?_
 rintro _ ck ⟨y,am,rfl,cl⟩
 have H:Hd _ _ ck _ [f1 Rp.str q j.phases,f1 fD t d.Kids,.blk z [i6 d.Kind,sb d.Name,sb d.Other,i6 d.Op,i6 d.N,i6 d.Frames,t] 70,.tr fG [y] am A,.mp o (fB Ky.str (fun v=>Value.int .i64 v) j.tracks),.own (Rp.int .i64) p 3 j.dens,.mp s (fB Ky.str (fun v=>Value.int .i64 v) j.rules),.blk u [.map (some o),p,q,.map (some s)] 215]:=H.back [0,1,2,3] [4,5] rfl cl
 refine ⟨_,rfl,?_⟩
 refine zK y<| zF (zB (ci _ _ ?_))
 refine zC fun fp cm=>?_
 refine zC fun fq cn=>zA<| zH (fa70_0 rfl)<| Ld fU H 2 0 rfl rfl<| zF (zB (cn _ _ ?_))
 refine yF ?_
 refine zC fun fr co=>zA ?_
 obtain ⟨bf,cp,h⟩:=zG h
 refine zH (zQ (yT (a:=d.Kind) (b:=1) rfl rfl) cp)<| zK (.bool bf)<| zF (zB (co _ _ ?_))
 refine yC (b:=bf) rfl (fun an=>?_) (fun an=>?_)
 ·have h:=zT an h
  refine zC fun fs cq=>zA<| zH (xM (cs:=[i6 2]) (bt277_0 _)) ?_
  have H:=nd_mk_constant (truth:=2) H
  refine zH (bG (by kernel_rfl) rfl)<| zK (.iface 277 (.agg ([i6 2]:List Value).toArray))<| zF (zB (cq _ _ ?_))
  obtain rfl:=gI h
  refine (zY (yG (zZ (fF (v1:=(.iface 277 (.agg ([i6 2]:List Value).toArray))) rfl rfl ?_))))
  exact ⟨(.iface 277 (.agg ([i6 2]:List Value).toArray)),[],rfl,H.pick [8,4,5,6,7] (by decide)⟩
 have h:=zU an h
 refine zC fun ft cr=>zA ?_
 obtain ⟨bg,ct,h⟩:=zG h
 refine zH (zQ (yT (a:=d.Kind) (b:=2) rfl rfl) ct)<| zK (.bool bg)<| zF (zB (cr _ _ ?_))
 refine yC (b:=bg) rfl (fun ao=>?_) (fun ao=>?_)
 ·have h:=zT ao h
  refine zC fun fu cu=>zA<| zH (xM (cs:=[i6 1]) (bt277_0 _)) ?_
  have H:=nd_mk_constant (truth:=1) H
  refine zH (bG (by kernel_rfl) rfl)<| zK (.iface 277 (.agg ([i6 1]:List Value).toArray))<| zF (zB (cu _ _ ?_))
  obtain rfl:=gI h
  refine (zY (yG (zZ (fF (v1:=(.iface 277 (.agg ([i6 1]:List Value).toArray))) rfl rfl ?_))))
  exact ⟨(.iface 277 (.agg ([i6 1]:List Value).toArray)),[],rfl,H.pick [8,4,5,6,7] (by decide)⟩
 have h:=zU ao h
 refine zC fun fv cv=>zA ?_
 obtain ⟨bh,cw,h⟩:=zG h
 refine zH (zQ (yT (a:=d.Kind) (b:=3) rfl rfl) cw)<| zK (.bool bh)<| zF (zB (cv _ _ ?_))
 refine yC (b:=bh) rfl (fun ap=>?_) (fun ap=>?_)
 ·have h:=zT ap h
  refine zC fun fw cx=>?_
  have cy:=H
  have H:=H.rebase
  have fx:=H
  refine wB H [0,1,2,3,4,5,6,7,8,9,10,11,12,13] (kz [0,0,0,1,0,1,1,0,1,0,1,0,0,0]) mixed ?_
  refine XM (gU u)<| XP (fun _ _=>zN rfl)<| XP (fun _ _=>fa215_0 rfl)<| XR one163 H 7 0 rfl rfl<| XP (fun _ _=>fa70_1 rfl)<| XR bC H 2 1 rfl rfl ?_
  obtain ⟨Q,cz,h⟩:=zG h
  refine MxM.XL_read oS rfl rfl rfl (fun x l=>yJ (Do_lookup (K:=Ky.str) (G:=(fun v=>Value.int .i64 v)) (m:=j.tracks) (k:=d.Name) (zv:=0) ((H.sees l).item (i:=4) rfl) u163 u9 rfl rfl (Tryz.zeroValue3 x)) (congrArg (fun v=>Value.int .i64 v) cz)) ?_
  refine XP (fun _ _=>fa70_3 rfl)<| XR fU H 2 3 rfl rfl<| XP (fun _ _=>fa70_4 rfl)<| XR fU H 2 4 rfl rfl<| XP (fun _ _=>xM (cs:=[i6 Q,i6 d.Op,i6 d.N]) (bt279_0_1_2 _ _ _)) ?_
  have H:=nd_mk_number (track:=Q) (op:=d.Op) (n:=d.N) H
  refine XP (fun _ _=>bG (by kernel_rfl) rfl)<| XP (fun _ _=>xO (v:=(.iface 279 (.agg ([i6 Q,i6 d.Op,i6 d.N]:List Value).toArray))) rfl)<| MxM.xI fun fy hS=>?_
  have H:=H.sees hS
  have H:=cy.rejoin H
  refine (zB (cx _ _ ?_))
  obtain rfl:=gI h
  refine (zY (yG (zZ (fF (v1:=(.iface 279 (.agg ([i6 Q,i6 d.Op,i6 d.N]:List Value).toArray))) rfl rfl ?_))))
  exact ⟨(.iface 279 (.agg ([i6 Q,i6 d.Op,i6 d.N]:List Value).toArray)),[],rfl,H.pick [8,4,5,6,7] (by decide)⟩
 have h:=zU ap h
 refine zC fun f0 c0=>zA ?_
 obtain ⟨bi,c1,h⟩:=zG h
 refine zH (zQ (yT (a:=d.Kind) (b:=4) rfl rfl) c1)<| zK (.bool bi)<| zF (zB (c0 _ _ ?_))
 refine yC (b:=bi) rfl (fun aq=>?_) (fun aq=>?_)
 ·have h:=zT aq h
  refine zC fun f4 c2=>?_
  have c3:=H
  have H:=H.rebase
  have f5:=H
  refine wB H [0,1,2,3,4,5,6,7,8,9,10,11,12,13,14,15] (kz [0,0,0,1,0,1,1,0,0,0,1,0,1,1,0,0]) mixed ?_
  refine XM (gU u)<| XP (fun _ _=>zN rfl)<| XP (fun _ _=>fa215_0 rfl)<| XR one163 H 7 0 rfl rfl<| XP (fun _ _=>fa70_1 rfl)<| XR bC H 2 1 rfl rfl ?_
  obtain ⟨B,c4,h⟩:=zG h
  refine MxM.XL_read oS rfl rfl rfl (fun x l=>yJ (Do_lookup (K:=Ky.str) (G:=(fun v=>Value.int .i64 v)) (m:=j.tracks) (k:=d.Name) (zv:=0) ((H.sees l).item (i:=4) rfl) u163 u9 rfl rfl (Tryz.zeroValue3 x)) (congrArg (fun v=>Value.int .i64 v) c4)) ?_
  refine XM (gU u)<| XP (fun _ _=>zN rfl)<| XP (fun _ _=>fa215_0 rfl)<| XR one163 H 7 0 rfl rfl<| XP (fun _ _=>fa70_2 rfl)<| XR bC H 2 2 rfl rfl ?_
  obtain ⟨C,c5,h⟩:=zG h
  refine MxM.XL_read oS rfl rfl rfl (fun x l=>yJ (Do_lookup (K:=Ky.str) (G:=(fun v=>Value.int .i64 v)) (m:=j.tracks) (k:=d.Other) (zv:=0) ((H.sees l).item (i:=4) rfl) u163 u9 rfl rfl (Tryz.zeroValue3 x)) (congrArg (fun v=>Value.int .i64 v) c5)) ?_
  refine XP (fun _ _=>xO (v:=i6 B) rfl)<| XP (fun _ _=>xO (v:=i6 C) rfl)<| MxM.xI fun f6 hS=>?_
  have H:=H.sees hS
  have H:=c3.rejoin H
  refine (zB (c2 _ _ ?_))
  refine zC fun f7 c6=>?_
  have c7:=H
  have H:=H.rebase
  have f8:=H
  refine wB H [0,1,2,3,4,5,6,7,8,9,10,11,12,13,14,15,16,17,18,19,20] (kz [0,0,0,0,0,1,0,0,1,0,0,0,1,0,0,1,0,1,0,0,0]) mixed ?_
  refine XM (i6 B)<| XM (i6 C)<| XM (gU u)<| XP (fun _ _=>zN rfl)<| XP (fun _ _=>fa215_1 rfl)<| XR one38 H 7 1 rfl rfl<| XM (i6 B) ?_
  obtain ⟨E,ar,h⟩:=zD h
  obtain ⟨f9,ga,c8,c9,da,db⟩:=kT (H.item (i:=5) rfl) ar
  obtain rfl:c8= [i6 E]:=da
  refine XP (fun _ _=>xJ u38 sz3 c9 rfl (yE ar).1 (yE ar).2.1 rfl rfl)<| MxM.XL_read oS rfl rfl rfl (fun x l=>xA fU rfl (Cells.get (db.sees l) (i:=0) rfl))<| XM (gU u)<| XP (fun _ _=>zN rfl)<| XP (fun _ _=>fa215_1 rfl)<| XR one38 H 7 1 rfl rfl<| XM (i6 C) ?_
  obtain ⟨F,au,h⟩:=zD h
  obtain ⟨gb,gc,dc,dd,de,df⟩:=kT (H.item (i:=5) rfl) au
  obtain rfl:dc= [i6 F]:=de
  refine XP (fun _ _=>xJ u38 sz3 dd rfl (yE au).1 (yE au).2.1 rfl rfl)<| MxM.XL_read oS rfl rfl rfl (fun x l=>xA fU rfl (Cells.get (df.sees l) (i:=0) rfl))<| XP (fun _ _=>fa70_3 rfl)<| XR fU H 2 3 rfl rfl<| XP (fun _ _=>xM (cs:=[i6 B,i6 C,i6 E,i6 F,i6 d.Op]) (bt281_0_1_2_3_4 _ _ _ _ _)) ?_
  have H:=nd_mk_pair (a:=B) (b:=C) (denA:=E) (denB:=F) (op:=d.Op) H
  refine XP (fun _ _=>bG (by kernel_rfl) rfl)<| XP (fun _ _=>xO (v:=(.iface 281 (.agg ([i6 B,i6 C,i6 E,i6 F,i6 d.Op]:List Value).toArray))) rfl)<| MxM.xI fun gd hS=>?_
  have H:=H.sees hS
  have H:=c7.rejoin H
  refine (zB (c6 _ _ ?_))
  obtain rfl:=gI h
  refine (zY (yG (zZ (fF (v1:=(.iface 281 (.agg ([i6 B,i6 C,i6 E,i6 F,i6 d.Op]:List Value).toArray))) rfl rfl ?_))))
  exact ⟨(.iface 281 (.agg ([i6 B,i6 C,i6 E,i6 F,i6 d.Op]:List Value).toArray)),[],rfl,H.pick [8,4,5,6,7] (by decide)⟩
 have h:=zU aq h
 refine zC fun ge dg=>zA ?_
 obtain ⟨bj,dh,h⟩:=zG h
 refine zH (zQ (yT (a:=d.Kind) (b:=5) rfl rfl) dh)<| zK (.bool bj)<| zF (zB (dg _ _ ?_))
 refine yC (b:=bj) rfl (fun av=>?_) (fun av=>?_)
 ·have h:=zT av h
  refine zC fun gf di=>?_
  have dj:=H
  have H:=H.rebase
  have gg:=H
  refine wB H [0,1,2,3,4,5,6,7,8,9,10,11,12,13,14] (kz [0,0,0,1,0,1,1,0,1,0,1,0,2,0,0]) mixed ?_
  refine XM (gU u)<| XP (fun _ _=>zN rfl)<| XP (fun _ _=>fa215_0 rfl)<| XR one163 H 7 0 rfl rfl<| XP (fun _ _=>fa70_1 rfl)<| XR bC H 2 1 rfl rfl ?_
  obtain ⟨ad,dk,h⟩:=zG h
  refine MxM.XL_read oS rfl rfl rfl (fun x l=>yJ (Do_lookup (K:=Ky.str) (G:=(fun v=>Value.int .i64 v)) (m:=j.tracks) (k:=d.Name) (zv:=0) ((H.sees l).item (i:=4) rfl) u163 u9 rfl rfl (Tryz.zeroValue3 x)) (congrArg (fun v=>Value.int .i64 v) dk)) ?_
  refine XP (fun _ _=>fa70_4 rfl)<| XR fU H 2 4 rfl rfl<| XP (fun _ _=>fa70_5 rfl)<| XR fU H 2 5 rfl rfl<| XP (fun _ _=>xM (cs:=[i6 ad,i6 d.N,i6 d.Frames,.slice none 0 0]) (bt241_0_1_2 _ _ _))<| MxM.XL_exN oS rfl rfl rfl (fun x l=>Ls_of (xW (cs:=[i6 ad,i6 d.N,i6 d.Frames,.slice none 0 0]) rfl (H.sees l)) (Ys_box (cs:=[i6 ad,i6 d.N,i6 d.Frames,.slice none 0 0]) rfl)) ?_
  rintro x _ gh l ⟨ae,rfl,H⟩
  have H:=row_nil H (Rt.of gV) 148
  obtain ⟨bk,H⟩:=nd_mk_steady H 9 8 rfl rfl (by decide)
  have H:Hd _ _ _ _ [f1 Rp.str q j.phases,f1 fD t d.Kids,.blk z [i6 d.Kind,sb d.Name,sb d.Other,i6 d.Op,i6 d.N,i6 d.Frames,t] 70,.tr fG [y] am A,.mp o (fB Ky.str (fun v=>Value.int .i64 v) j.tracks),.own (Rp.int .i64) p 3 j.dens,.mp s (fB Ky.str (fun v=>Value.int .i64 v) j.rules),.blk u [.map (some o),p,q,.map (some s)] 215,.tr gY [(.iface 239 (gU ae))] bk (.steady ad d.N d.Frames []:Nd)]:=H
  refine XP (fun _ _=>bG (by kernel_rfl) rfl)<| XP (fun _ _=>xO (v:=(.iface 239 (gU ae))) rfl)<| MxM.xI fun gj hS=>?_
  have H:=H.sees hS
  have H:=dj.rejoin H
  refine (zB (di _ _ ?_))
  obtain rfl:=gI h
  refine (zY (yG (zZ (fF (v1:=(.iface 239 (gU ae))) rfl rfl ?_))))
  exact ⟨(.iface 239 (gU ae)),bk,rfl,H.pick [8,4,5,6,7] (by decide)⟩
 have h:=zU av h
 refine zC fun gl dl=>zA ?_
 obtain ⟨bl,dm,h⟩:=zG h
 refine zH (zQ (yT (a:=d.Kind) (b:=6) rfl rfl) dm)<| zK (.bool bl)<| zF (zB (dl _ _ ?_))
 refine yC (b:=bl) rfl (fun aw=>?_) (fun aw=>?_)
 ·have h:=zT aw h
  refine zC fun gm dn=>?_
  have dp:=H
  have H:=H.rebase
  have gn:=H
  refine wB H [0,1,2,3,4,5,6,7,8,9] (kz [0,0,0,1,0,1,1,0,0,0]) mixed ?_
  refine XM (gU u)<| XP (fun _ _=>zN rfl)<| XP (fun _ _=>fa215_2 rfl)<| XR one22 H 7 2 rfl rfl<| XP (fun _ _=>fa70_1 rfl)<| XR bC H 2 1 rfl rfl ?_
  have dq:=H
  obtain ⟨I,dr,h⟩:=zD h
  refine MxM.XL_call oS rfl rfl rfl (v:=i6 I) (fun x l=>zV en136 rfl) (fun x l=>bU (Fagw j.phases d.Name q _ dr _ _ _ ((H.sees l).enter [] [0] (by decide) rfl))) ?_
  have H:=dq
  refine XP (fun _ _=>xM (cs:=[i6 I]) (bt283_0 _)) ?_
  have H:=nd_mk_phase (phase:=I) H
  refine XP (fun _ _=>bG (by kernel_rfl) rfl)<| XP (fun _ _=>xO (v:=(.iface 283 (.agg ([i6 I]:List Value).toArray))) rfl)<| MxM.xI fun go hS=>?_
  have H:=H.sees hS
  have H:=dp.rejoin H
  refine (zB (dn _ _ ?_))
  obtain rfl:=gI h
  refine (zY (yG (zZ (fF (v1:=(.iface 283 (.agg ([i6 I]:List Value).toArray))) rfl rfl ?_))))
  exact ⟨(.iface 283 (.agg ([i6 I]:List Value).toArray)),[],rfl,H.pick [8,4,5,6,7] (by decide)⟩
 have h:=zU aw h
 refine zC fun gp ds=>zA ?_
 obtain ⟨bm,dt,h⟩:=zG h
 refine zH (zQ (yT (a:=d.Kind) (b:=7) rfl rfl) dt)<| zK (.bool bm)<| zF (zB (ds _ _ ?_))
 refine yC (b:=bm) rfl (fun ax=>?_) (fun ax=>?_)
 ·have h:=zT ax h
  refine zC fun gq du=>?_
  have dv:=H
  have H:=H.rebase
  have gr:=H
  refine wB H [0,1,2,3,4,5,6,7,8,9] (kz [0,0,0,1,0,1,1,0,0,0]) mixed ?_
  refine XM (gU u)<| XP (fun _ _=>zN rfl)<| XP (fun _ _=>fa215_3 rfl)<| XR one163 H 7 3 rfl rfl<| XP (fun _ _=>fa70_1 rfl)<| XR bC H 2 1 rfl rfl ?_
  obtain ⟨R,dw,h⟩:=zG h
  refine MxM.XL_read oS rfl rfl rfl (fun x l=>yJ (Do_lookup (K:=Ky.str) (G:=(fun v=>Value.int .i64 v)) (m:=j.rules) (k:=d.Name) (zv:=0) ((H.sees l).item (i:=6) rfl) u163 u9 rfl rfl (Tryz.zeroValue3 x)) (congrArg (fun v=>Value.int .i64 v) dw)) ?_
  refine XP (fun _ _=>xM (cs:=[i6 R]) (bt285_0 _)) ?_
  have H:=nd_mk_rule (rule:=R) H
  refine XP (fun _ _=>bG (by kernel_rfl) rfl)<| XP (fun _ _=>xO (v:=(.iface 285 (.agg ([i6 R]:List Value).toArray))) rfl)<| MxM.xI fun gs hS=>?_
  have H:=H.sees hS
  have H:=dv.rejoin H
  refine (zB (du _ _ ?_))
  obtain rfl:=gI h
  refine (zY (yG (zZ (fF (v1:=(.iface 285 (.agg ([i6 R]:List Value).toArray))) rfl rfl ?_))))
  exact ⟨(.iface 285 (.agg ([i6 R]:List Value).toArray)),[],rfl,H.pick [8,4,5,6,7] (by decide)⟩
 have h:=zU ax h
 refine zC fun gt dx=>zA ?_
 obtain ⟨bn,dy,h⟩:=zG h
 refine zH (zQ (yT (a:=d.Kind) (b:=8) rfl rfl) dy)<| zK (.bool bn)<| zF (zB (dx _ _ ?_))
 refine yC (b:=bn) rfl (fun ay=>?_) (fun ay=>?_)
 ·have h:=zT ay h
  refine zC fun gu dz=>zA<| zI y ?_
  obtain ⟨bo,T,h⟩:=zD h
  obtain ⟨gv,gw,gx,az⟩:=kG (H.item (i:=3) rfl) T
  refine zH (xJ u143 sz170 az rfl (yE T).1 (yE T).2.1 rfl rfl) ?_
  obtain ⟨gy,bp,d0,H⟩:=H.focusV 3 rfl az T rfl
  obtain ⟨U,rfl⟩:=tr_cell rfl (H.item (i:=8) rfl)
  have H:Hd _ _ _ _ [f1 Rp.str q j.phases,f1 fD t d.Kids,.blk z [i6 d.Kind,sb d.Name,sb d.Other,i6 d.Op,i6 d.N,i6 d.Frames,t] 70,.mp o (fB Ky.str (fun v=>Value.int .i64 v) j.tracks),.own (Rp.int .i64) p 3 j.dens,.mp s (fB Ky.str (fun v=>Value.int .i64 v) j.rules),.blk u [.map (some o),p,q,.map (some s)] 215,.tr (Rt.row gY 170 [((0:Int).toNat,[U])]) [y] bp A,.tr gY [U] d0 bo]:=H
  refine zH (xA bP rfl (Cells.get (H.holeW 7 rfl az T rfl dK) (i:=0) rfl)) ?_
  obtain ⟨d1,d2,d3⟩:=nd_if (H.item (i:=8) rfl)
  refine zH (xM (cs:=[U]) (by rw [d3]; exact bt248_0 d1 d2))<| yP rfl rfl (xW (cs:=[U]) rfl H) ?_
  rintro _ gz ⟨af,rfl,H⟩
  obtain ⟨bq,H⟩:=nd_mk_not H 8 9 rfl rfl (by decide)
  have H:Hd _ _ _ _ [f1 Rp.str q j.phases,f1 fD t d.Kids,.blk z [i6 d.Kind,sb d.Name,sb d.Other,i6 d.Op,i6 d.N,i6 d.Frames,t] 70,.mp o (fB Ky.str (fun v=>Value.int .i64 v) j.tracks),.own (Rp.int .i64) p 3 j.dens,.mp s (fB Ky.str (fun v=>Value.int .i64 v) j.rules),.blk u [.map (some o),p,q,.map (some s)] 215,.tr (Rt.row gY 170 [((0:Int).toNat,[U])]) [y] bp A,.tr gY [(.iface 246 (gU af))] bq (.not bo:Nd)]:=H
  refine zH (bG (by kernel_rfl) rfl)<| zK (.iface 246 (gU af))<| zF (zB (dz _ _ ?_))
  obtain rfl:=gI h
  refine (zY (yG (zZ (fF (v1:=(.iface 246 (gU af))) rfl rfl ?_))))
  exact ⟨(.iface 246 (gU af)),bq,rfl,H.pick [8,3,4,5,6] (by decide)⟩
 have h:=zU ay h
 obtain ⟨br,h,d4⟩:=zD h
 refine yL [119,120,121] (fun (g:Unit)=>[(119,.bool br)]) (fun g wl=>Hd O w wl S [f1 Rp.str q j.phases,f1 fD t d.Kids,.blk z [i6 d.Kind,sb d.Name,sb d.Other,i6 d.Op,i6 d.N,i6 d.Frames,t] 70,.tr fG [y] am A,.mp o (fB Ky.str (fun v=>Value.int .i64 v) j.tracks),.own (Rp.int .i64) p 3 j.dens,.mp s (fB Ky.str (fun v=>Value.int .i64 v) j.rules),.blk u [.map (some o),p,q,.map (some s)] 215]) ?_ ?_
 ·skip
  refine zC fun g0 d5=>zA ?_
  obtain ⟨bt,d6,h⟩:=zG h
  refine zH (zQ (yT (a:=d.Kind) (b:=9) rfl rfl) d6)<| zK (.bool bt)<| zF (zB (d5 _ _ ?_))
  refine yC (b:=bt) rfl (fun a0=>?_) (fun a0=>?_)
  ·have h:=zT a0 h
   obtain rfl:=gI h
   exact (yB (zB (meet ⟨(),(zL rfl zO),H.pick [0,1,2,3,4,5,6,7] (by decide)⟩)))
  have h:=zU a0 h
  refine zA ?_
  obtain ⟨d7,d8,h⟩:=zG h
  refine zH (zQ (yT (a:=d.Kind) (b:=10) rfl rfl) d8)<| zK (.bool d7) ?_
  obtain rfl:=gI h
  exact (zF (zB (meet ⟨(),(zL rfl zO),H.pick [0,1,2,3,4,5,6,7] (by decide)⟩)))
 rintro _ ρ g1 H
 have h:=d4
 refine yC (b:=br) rfl (fun a1=>?_) (fun a1=>?_)
 ·have h:=zT a1 h
  refine zC fun g2 d9=>zA<| zI y<| zH (fa70_0 rfl)<| Ld fU H 2 0 rfl rfl ?_
  obtain ⟨a2,ea,h⟩:=zG h
  refine zH (zQ (yT (a:=d.Kind) (b:=10) rfl rfl) ea) ?_
  obtain ⟨eb,ec,ed⟩: ∃a c,y= .slice a _ c:=kN ((H.item (i:=3) rfl))
  refine zH (xM (cs:=[y,.bool a2]) (by rw [ed]; exact bt251_0_1 eb _ ec _))<| yP rfl rfl (xW (cs:=[y,.bool a2]) rfl H) ?_
  rintro _ g3 ⟨ag,rfl,H⟩
  obtain ⟨bu,H⟩:=nd_mk_group H 3 8 rfl rfl (by decide)
  have H:Hd _ _ _ _ [f1 Rp.str q j.phases,f1 fD t d.Kids,.blk z [i6 d.Kind,sb d.Name,sb d.Other,i6 d.Op,i6 d.N,i6 d.Frames,t] 70,.mp o (fB Ky.str (fun v=>Value.int .i64 v) j.tracks),.own (Rp.int .i64) p 3 j.dens,.mp s (fB Ky.str (fun v=>Value.int .i64 v) j.rules),.blk u [.map (some o),p,q,.map (some s)] 215,.tr gY [(.iface 249 (gU ag))] bu (.group A a2:Nd)]:=H
  refine zH (bG (by kernel_rfl) rfl)<| zK (.iface 249 (gU ag))<| zF (zB (d9 _ _ ?_))
  obtain rfl:=gI h
  refine (zY (yG (zZ (fF (v1:=(.iface 249 (gU ag))) rfl rfl ?_))))
  exact ⟨(.iface 249 (gU ag)),bu,rfl,H.pick [7,3,4,5,6] (by decide)⟩
 have h:=zU a1 h
 refine zC fun g4 ee=>zA ?_
 obtain ⟨bv,ef,h⟩:=zG h
 refine zH (zQ (yT (a:=d.Kind) (b:=11) rfl rfl) ef)<| zK (.bool bv)<| zF (zB (ee _ _ ?_))
 refine yC (b:=bv) rfl (fun a3=>?_) (fun a3=>?_)
 ·have h:=zT a3 h
  refine zC fun g5 eg=>?_
  have eh:=H
  have H:=H.rebase
  have g6:=H
  refine wB H [0,1,2,3,4,5,6,7,8,9,10] (kz [0,0,1,0,1,0,1,0,2,0,0]) mixed ?_
  refine XM y ?_
  obtain ⟨bw,V,h⟩:=zD h
  obtain ⟨g7,g8,g9,a4⟩:=kG (H.item (i:=3) rfl) V
  refine XP (fun _ _=>xJ u143 sz170 a4 rfl (yE V).1 (yE V).2.1 rfl rfl) ?_
  obtain ⟨ha,bx,ei,H⟩:=H.focusV 3 rfl a4 V rfl
  obtain ⟨J,rfl⟩:=tr_cell rfl (H.item (i:=8) rfl)
  have H:Hd _ _ _ _ [f1 Rp.str q j.phases,f1 fD t d.Kids,.blk z [i6 d.Kind,sb d.Name,sb d.Other,i6 d.Op,i6 d.N,i6 d.Frames,t] 70,.mp o (fB Ky.str (fun v=>Value.int .i64 v) j.tracks),.own (Rp.int .i64) p 3 j.dens,.mp s (fB Ky.str (fun v=>Value.int .i64 v) j.rules),.blk u [.map (some o),p,q,.map (some s)] 215,.tr (Rt.row gY 170 [((0:Int).toNat,[J])]) [y] bx A,.tr gY [J] ei bw]:=H
  refine MxM.XL_read oS rfl rfl rfl (fun x l=>xA bP rfl (Cells.get ((H.sees l).holeW 7 rfl a4 V rfl dK) (i:=0) rfl)) ?_
  refine XP (fun _ _=>fa70_5 rfl)<| XR fU H 2 5 rfl rfl<| XP (fun _ _=>fa70_5 rfl)<| XR fU H 2 5 rfl rfl ?_
  obtain ⟨ej,ek,el⟩:=nd_if (H.item (i:=8) rfl)
  refine XP (fun _ _=>xM (cs:=[J,i6 d.Frames,i6 d.Frames,.slice none 0 0]++((Fl.arr 3 (Fl.int .i64)).f (Arr.rep 3 0:Arr 3 Int))) (by rw [el]; exact bt245_0_1_2 ej ek _ _))<| MxM.XL_exN oS rfl rfl rfl (fun x l=>Ls_of (xW (cs:=[J,i6 d.Frames,i6 d.Frames,.slice none 0 0]++((Fl.arr 3 (Fl.int .i64)).f (Arr.rep 3 0:Arr 3 Int))) rfl (H.sees l)) (Ys_box (cs:=[J,i6 d.Frames,i6 d.Frames,.slice none 0 0]++((Fl.arr 3 (Fl.int .i64)).f (Arr.rep 3 0:Arr 3 Int))) rfl)) ?_
  rintro x _ hb l ⟨ah,rfl,H⟩
  have H:=row_nil H (Rt.of (Rp.int .i64)) 3
  obtain ⟨bz,H⟩:=kW H 8 10 9 rfl rfl rfl (by decide)
  have H:Hd _ _ _ _ [f1 Rp.str q j.phases,f1 fD t d.Kids,.blk z [i6 d.Kind,sb d.Name,sb d.Other,i6 d.Op,i6 d.N,i6 d.Frames,t] 70,.mp o (fB Ky.str (fun v=>Value.int .i64 v) j.tracks),.own (Rp.int .i64) p 3 j.dens,.mp s (fB Ky.str (fun v=>Value.int .i64 v) j.rules),.blk u [.map (some o),p,q,.map (some s)] 215,.tr (Rt.row gY 170 [((0:Int).toNat,[J])]) [y] bx A,.tr gY [(.iface 242 (gU ah))] bz (.count bw d.Frames d.Frames [] (Arr.rep 3 0:Arr 3 Int):Nd)]:=H
  refine XP (fun _ _=>bG (by kernel_rfl) rfl)<| XP (fun _ _=>xO (v:=(.iface 242 (gU ah))) rfl)<| MxM.xI fun hc hS=>?_
  have H:=H.sees hS
  have H:=eh.rejoin H
  refine (zB (eg _ _ ?_))
  obtain rfl:=gI h
  refine (zY (yG (zZ (fF (v1:=(.iface 242 (gU ah))) rfl rfl ?_))))
  exact ⟨(.iface 242 (gU ah)),bz,rfl,H.pick [8,3,4,5,6] (by decide)⟩
 have h:=zU a3 h
 refine zC fun he em=>zA ?_
 obtain ⟨b0,en,h⟩:=zG h
 refine zH (zQ (yT (a:=d.Kind) (b:=12) rfl rfl) en)<| zK (.bool b0)<| zF (zB (em _ _ ?_))
 refine yC (b:=b0) rfl (fun a5=>?_) (fun a5=>?_)
 ·have h:=zT a5 h
  refine zC fun hf eo=>?_
  have ep:=H
  have H:=H.rebase
  have hg:=H
  refine wB H [0,1,2,3,4,5,6,7,8] (kz [0,0,1,0,1,0,2,0,0]) mixed ?_
  refine XM y ?_
  obtain ⟨b1,X,h⟩:=zD h
  obtain ⟨hh,hi,hj,a6⟩:=kG (H.item (i:=3) rfl) X
  refine XP (fun _ _=>xJ u143 sz170 a6 rfl (yE X).1 (yE X).2.1 rfl rfl) ?_
  obtain ⟨hk,b2,er,H⟩:=H.focusV 3 rfl a6 X rfl
  obtain ⟨L,rfl⟩:=tr_cell rfl (H.item (i:=8) rfl)
  have H:Hd _ _ _ _ [f1 Rp.str q j.phases,f1 fD t d.Kids,.blk z [i6 d.Kind,sb d.Name,sb d.Other,i6 d.Op,i6 d.N,i6 d.Frames,t] 70,.mp o (fB Ky.str (fun v=>Value.int .i64 v) j.tracks),.own (Rp.int .i64) p 3 j.dens,.mp s (fB Ky.str (fun v=>Value.int .i64 v) j.rules),.blk u [.map (some o),p,q,.map (some s)] 215,.tr (Rt.row gY 170 [((0:Int).toNat,[L])]) [y] b2 A,.tr gY [L] er b1]:=H
  refine MxM.XL_read oS rfl rfl rfl (fun x l=>xA bP rfl (Cells.get ((H.sees l).holeW 7 rfl a6 X rfl dK) (i:=0) rfl)) ?_
  refine XP (fun _ _=>fa70_5 rfl)<| XR fU H 2 5 rfl rfl ?_
  obtain ⟨es,et,eu⟩:=nd_if (H.item (i:=8) rfl)
  refine XP (fun _ _=>xM (cs:=[L,i6 1,i6 d.Frames,.slice none 0 0]++((Fl.arr 3 (Fl.int .i64)).f (Arr.rep 3 0:Arr 3 Int))) (by rw [eu]; exact bt245_0_1_2 es et _ _))<| MxM.XL_exN oS rfl rfl rfl (fun x l=>Ls_of (xW (cs:=[L,i6 1,i6 d.Frames,.slice none 0 0]++((Fl.arr 3 (Fl.int .i64)).f (Arr.rep 3 0:Arr 3 Int))) rfl (H.sees l)) (Ys_box (cs:=[L,i6 1,i6 d.Frames,.slice none 0 0]++((Fl.arr 3 (Fl.int .i64)).f (Arr.rep 3 0:Arr 3 Int))) rfl)) ?_
  rintro x _ hl l ⟨ai,rfl,H⟩
  have H:=row_nil H (Rt.of (Rp.int .i64)) 3
  obtain ⟨b3,H⟩:=kW H 8 10 9 rfl rfl rfl (by decide)
  have H:Hd _ _ _ _ [f1 Rp.str q j.phases,f1 fD t d.Kids,.blk z [i6 d.Kind,sb d.Name,sb d.Other,i6 d.Op,i6 d.N,i6 d.Frames,t] 70,.mp o (fB Ky.str (fun v=>Value.int .i64 v) j.tracks),.own (Rp.int .i64) p 3 j.dens,.mp s (fB Ky.str (fun v=>Value.int .i64 v) j.rules),.blk u [.map (some o),p,q,.map (some s)] 215,.tr (Rt.row gY 170 [((0:Int).toNat,[L])]) [y] b2 A,.tr gY [(.iface 242 (gU ai))] b3 (.count b1 1 d.Frames [] (Arr.rep 3 0:Arr 3 Int):Nd)]:=H
  refine XP (fun _ _=>bG (by kernel_rfl) rfl)<| XP (fun _ _=>xO (v:=(.iface 242 (gU ai))) rfl)<| MxM.xI fun hn hS=>?_
  have H:=H.sees hS
  have H:=ep.rejoin H
  refine (zB (eo _ _ ?_))
  obtain rfl:=gI h
  refine (zY (yG (zZ (fF (v1:=(.iface 242 (gU ai))) rfl rfl ?_))))
  exact ⟨(.iface 242 (gU ai)),b3,rfl,H.pick [8,3,4,5,6] (by decide)⟩
 have h:=zU a5 h
 refine zC fun ho ew=>zA ?_
 obtain ⟨b4,ex,h⟩:=zG h
 refine zH (zQ (yT (a:=d.Kind) (b:=13) rfl rfl) ex)<| zK (.bool b4)<| zF (zB (ew _ _ ?_))
 refine yC (b:=b4) rfl (fun a7=>?_) (fun a7=>?_)
 ·have h:=zT a7 h
  refine zC fun hp ey=>?_
  have ez:=H
  have H:=H.rebase
  have hq:=H
  refine wB H [0,1,2,3,4,5,6,7,8,9,10] (kz [0,0,1,0,1,0,1,0,2,0,0]) mixed ?_
  refine XM y ?_
  obtain ⟨b5,Y,h⟩:=zD h
  obtain ⟨hr,hs,ht,a8⟩:=kG (H.item (i:=3) rfl) Y
  refine XP (fun _ _=>xJ u143 sz170 a8 rfl (yE Y).1 (yE Y).2.1 rfl rfl) ?_
  obtain ⟨hu,b6,e0,H⟩:=H.focusV 3 rfl a8 Y rfl
  obtain ⟨M,rfl⟩:=tr_cell rfl (H.item (i:=8) rfl)
  have H:Hd _ _ _ _ [f1 Rp.str q j.phases,f1 fD t d.Kids,.blk z [i6 d.Kind,sb d.Name,sb d.Other,i6 d.Op,i6 d.N,i6 d.Frames,t] 70,.mp o (fB Ky.str (fun v=>Value.int .i64 v) j.tracks),.own (Rp.int .i64) p 3 j.dens,.mp s (fB Ky.str (fun v=>Value.int .i64 v) j.rules),.blk u [.map (some o),p,q,.map (some s)] 215,.tr (Rt.row gY 170 [((0:Int).toNat,[M])]) [y] b6 A,.tr gY [M] e0 b5]:=H
  refine MxM.XL_read oS rfl rfl rfl (fun x l=>xA bP rfl (Cells.get ((H.sees l).holeW 7 rfl a8 Y rfl dK) (i:=0) rfl)) ?_
  refine XP (fun _ _=>fa70_4 rfl)<| XR fU H 2 4 rfl rfl<| XP (fun _ _=>fa70_5 rfl)<| XR fU H 2 5 rfl rfl ?_
  obtain ⟨e1,e2,e3⟩:=nd_if (H.item (i:=8) rfl)
  refine XP (fun _ _=>xM (cs:=[M,i6 d.N,i6 d.Frames,.slice none 0 0]++((Fl.arr 3 (Fl.int .i64)).f (Arr.rep 3 0:Arr 3 Int))) (by rw [e3]; exact bt245_0_1_2 e1 e2 _ _))<| MxM.XL_exN oS rfl rfl rfl (fun x l=>Ls_of (xW (cs:=[M,i6 d.N,i6 d.Frames,.slice none 0 0]++((Fl.arr 3 (Fl.int .i64)).f (Arr.rep 3 0:Arr 3 Int))) rfl (H.sees l)) (Ys_box (cs:=[M,i6 d.N,i6 d.Frames,.slice none 0 0]++((Fl.arr 3 (Fl.int .i64)).f (Arr.rep 3 0:Arr 3 Int))) rfl)) ?_
  rintro x _ hv l ⟨aj,rfl,H⟩
  have H:=row_nil H (Rt.of (Rp.int .i64)) 3
  obtain ⟨b7,H⟩:=kW H 8 10 9 rfl rfl rfl (by decide)
  have H:Hd _ _ _ _ [f1 Rp.str q j.phases,f1 fD t d.Kids,.blk z [i6 d.Kind,sb d.Name,sb d.Other,i6 d.Op,i6 d.N,i6 d.Frames,t] 70,.mp o (fB Ky.str (fun v=>Value.int .i64 v) j.tracks),.own (Rp.int .i64) p 3 j.dens,.mp s (fB Ky.str (fun v=>Value.int .i64 v) j.rules),.blk u [.map (some o),p,q,.map (some s)] 215,.tr (Rt.row gY 170 [((0:Int).toNat,[M])]) [y] b6 A,.tr gY [(.iface 242 (gU aj))] b7 (.count b5 d.N d.Frames [] (Arr.rep 3 0:Arr 3 Int):Nd)]:=H
  refine XP (fun _ _=>bG (by kernel_rfl) rfl)<| XP (fun _ _=>xO (v:=(.iface 242 (gU aj))) rfl)<| MxM.xI fun hw hS=>?_
  have H:=H.sees hS
  have H:=ez.rejoin H
  refine (zB (ey _ _ ?_))
  obtain rfl:=gI h
  refine (zY (yG (zZ (fF (v1:=(.iface 242 (gU aj))) rfl rfl ?_))))
  exact ⟨(.iface 242 (gU aj)),b7,rfl,H.pick [8,3,4,5,6] (by decide)⟩
 have h:=zU a7 h
 refine zC fun hx e4=>zA ?_
 obtain ⟨b8,e5,h⟩:=zG h
 refine zH (zQ (yT (a:=d.Kind) (b:=14) rfl rfl) e5)<| zK (.bool b8)<| zF (zB (e4 _ _ ?_))
 refine yC (b:=b8) rfl (fun a9=>?_) (fun a9=>?_)
 ·have h:=zT a9 h
  refine zC fun hy e6=>?_
  have e7:=H
  have H:=H.rebase
  have hz:=H
  refine wB H [0,1,2,3,4,5,6,7,8,9] (kz [0,0,1,0,0,1,0,2,0,0]) mixed ?_
  refine XM y ?_
  obtain ⟨ba,Z,h⟩:=zD h
  obtain ⟨h0,h1,h2,bb⟩:=kG (H.item (i:=3) rfl) Z
  refine XP (fun _ _=>xJ u143 sz170 bb rfl (yE Z).1 (yE Z).2.1 rfl rfl) ?_
  obtain ⟨h3,e8,b9,H⟩:=H.focusV 3 rfl bb Z rfl
  obtain ⟨D,rfl⟩:=tr_cell rfl (H.item (i:=8) rfl)
  have H:Hd _ _ _ _ [f1 Rp.str q j.phases,f1 fD t d.Kids,.blk z [i6 d.Kind,sb d.Name,sb d.Other,i6 d.Op,i6 d.N,i6 d.Frames,t] 70,.mp o (fB Ky.str (fun v=>Value.int .i64 v) j.tracks),.own (Rp.int .i64) p 3 j.dens,.mp s (fB Ky.str (fun v=>Value.int .i64 v) j.rules),.blk u [.map (some o),p,q,.map (some s)] 215,.tr (Rt.row gY 170 [((0:Int).toNat,[D])]) [y] e8 A,.tr gY [D] b9 ba]:=H
  refine MxM.XL_read oS rfl rfl rfl (fun x l=>xA bP rfl (Cells.get ((H.sees l).holeW 7 rfl bb Z rfl dK) (i:=0) rfl)) ?_
  refine XM y ?_
  obtain ⟨ca,aa,h⟩:=zD h
  obtain ⟨h4,h5,h6,bc⟩:=kG (H.item (i:=7) rfl) aa
  refine XP (fun _ _=>xJ u143 sz170 bc rfl (yE aa).1 (yE aa).2.1 rfl rfl) ?_
  obtain ⟨h7,cb,e9,H⟩:=H.focusV 7 rfl bc aa rfl
  obtain ⟨P,rfl⟩:=tr_cell rfl (H.item (i:=9) rfl)
  have H:Hd _ _ _ _ [f1 Rp.str q j.phases,f1 fD t d.Kids,.blk z [i6 d.Kind,sb d.Name,sb d.Other,i6 d.Op,i6 d.N,i6 d.Frames,t] 70,.mp o (fB Ky.str (fun v=>Value.int .i64 v) j.tracks),.own (Rp.int .i64) p 3 j.dens,.mp s (fB Ky.str (fun v=>Value.int .i64 v) j.rules),.blk u [.map (some o),p,q,.map (some s)] 215,.tr gY [D] b9 ba,.tr (Rt.row gY 170 [((1:Int).toNat,[P]),((0:Int).toNat,[D])]) [y] cb A,.tr gY [P] e9 ca]:=H
  refine MxM.XL_read oS rfl rfl rfl (fun x l=>xA bP rfl (Cells.get ((H.sees l).holeW 8 rfl bc aa rfl dK) (i:=0) rfl)) ?_
  obtain ⟨fa,fb,fc⟩:=nd_if (H.item (i:=7) rfl)
  obtain ⟨fd,fe,ff⟩:=nd_if (H.item (i:=9) rfl)
  refine XP (fun _ _=>xM (cs:=[D,P,i6 0,.bool false]) (by rw [fc,ff]; exact bt255_0_1 fa fb fd fe))<| MxM.XL_exN oS rfl rfl rfl (fun x l=>Ls_of (xW (cs:=[D,P,i6 0,.bool false]) rfl (H.sees l)) (Ys_box (cs:=[D,P,i6 0,.bool false]) rfl)) ?_
  rintro x _ h8 l ⟨ak,rfl,H⟩
  obtain ⟨cc,H⟩:=nd_mk_since H 7 9 10 rfl rfl rfl (by decide)
  have H:Hd _ _ _ _ [f1 Rp.str q j.phases,f1 fD t d.Kids,.blk z [i6 d.Kind,sb d.Name,sb d.Other,i6 d.Op,i6 d.N,i6 d.Frames,t] 70,.mp o (fB Ky.str (fun v=>Value.int .i64 v) j.tracks),.own (Rp.int .i64) p 3 j.dens,.mp s (fB Ky.str (fun v=>Value.int .i64 v) j.rules),.blk u [.map (some o),p,q,.map (some s)] 215,.tr (Rt.row gY 170 [((1:Int).toNat,[P]),((0:Int).toNat,[D])]) [y] cb A,.tr gY [(.iface 252 (gU ak))] cc (.since ba ca 0 false:Nd)]:=H
  refine XP (fun _ _=>bG (by kernel_rfl) rfl)<| XP (fun _ _=>xO (v:=(.iface 252 (gU ak))) rfl)<| MxM.xI fun h9 hS=>?_
  have H:=H.sees hS
  have H:=e7.rejoin H
  refine (zB (e6 _ _ ?_))
  obtain rfl:=gI h
  refine (zY (yG (zZ (fF (v1:=(.iface 252 (gU ak))) rfl rfl ?_))))
  exact ⟨(.iface 252 (gU ak)),cc,rfl,H.pick [8,3,4,5,6] (by decide)⟩
 have h:=zU a9 h
 refine (yB (yK (zB (cm _ _ ?_))))
 refine zC fun ia fg=>zA<| zI y ?_
 obtain ⟨cd,ab,h⟩:=zD h
 obtain ⟨ib,id,ie,bd⟩:=kG (H.item (i:=3) rfl) ab
 refine zH (xJ u143 sz170 bd rfl (yE ab).1 (yE ab).2.1 rfl rfl) ?_
 obtain ⟨ig,ce,fh,H⟩:=H.focusV 3 rfl bd ab rfl
 obtain ⟨ac,rfl⟩:=tr_cell rfl (H.item (i:=8) rfl)
 have H:Hd _ _ _ _ [f1 Rp.str q j.phases,f1 fD t d.Kids,.blk z [i6 d.Kind,sb d.Name,sb d.Other,i6 d.Op,i6 d.N,i6 d.Frames,t] 70,.mp o (fB Ky.str (fun v=>Value.int .i64 v) j.tracks),.own (Rp.int .i64) p 3 j.dens,.mp s (fB Ky.str (fun v=>Value.int .i64 v) j.rules),.blk u [.map (some o),p,q,.map (some s)] 215,.tr (Rt.row gY 170 [((0:Int).toNat,[ac])]) [y] ce A,.tr gY [ac] fh cd]:=H
 refine zH (xA bP rfl (Cells.get (H.holeW 7 rfl bd ab rfl dK) (i:=0) rfl)) ?_
 obtain ⟨fi,fj,fk⟩:=nd_if (H.item (i:=8) rfl)
 refine zH (xM (cs:=[ac,i6 0,.bool false]) (by rw [fk]; exact bt258_0 fi fj))<| yP rfl rfl (xW (cs:=[ac,i6 0,.bool false]) rfl H) ?_
 rintro _ ih ⟨al,rfl,H⟩
 obtain ⟨cf,H⟩:=nd_mk_rises H 8 9 rfl rfl (by decide)
 have H:Hd _ _ _ _ [f1 Rp.str q j.phases,f1 fD t d.Kids,.blk z [i6 d.Kind,sb d.Name,sb d.Other,i6 d.Op,i6 d.N,i6 d.Frames,t] 70,.mp o (fB Ky.str (fun v=>Value.int .i64 v) j.tracks),.own (Rp.int .i64) p 3 j.dens,.mp s (fB Ky.str (fun v=>Value.int .i64 v) j.rules),.blk u [.map (some o),p,q,.map (some s)] 215,.tr (Rt.row gY 170 [((0:Int).toNat,[ac])]) [y] ce A,.tr gY [(.iface 256 (gU al))] cf (.rises cd 0 false:Nd)]:=H
 refine zH (bG (by kernel_rfl) rfl)<| zK (.iface 256 (gU al))<| zF (zB (fg _ _ ?_))
 obtain rfl:=gI h
 refine (zY (fF (v1:=(.iface 256 (gU al))) rfl rfl ?_))
 exact ⟨(.iface 256 (gU al)),cf,rfl,H.pick [8,3,4,5,6] (by decide)⟩
theorem Fga:Fdb (Fbn):=by
 have h: ∀n,Fdb (Faw n):=by
  intro n
  induction n with
  | zero=>intro b c d e f i j k r a; cases a
  | succ n ih=>intro b c d e f i j k r a; exact Fcmw (Faw n) ih b c d e f i j k r a
 exact h FU
end Go.Proofs.YtckmiljbaejijaaGreatDoor.L
