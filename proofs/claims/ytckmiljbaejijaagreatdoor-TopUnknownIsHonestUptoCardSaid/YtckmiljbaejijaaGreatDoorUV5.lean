/- Walks: what each function computes, for every argument; no condition but those that stand in the statements. -/
import Derived.Test.YtckmiljbaejijaaGreatDoorUV0
import Derived.Test.YtckmiljbaejijaaGreatDoorUV1
import Derived.Test.YtckmiljbaejijaaGreatDoorUV4
namespace Go.Proofs.YtckmiljbaejijaaGreatDoor.L
open Go.RowKit Go.OB Go.Lf
set_option maxHeartbeats 4000000
set_option maxRecDepth 100000 in
theorem Fb6w (rfH:fQ→Cond→Option Nd)(rhH:Fct rfH)(j:fQ)(d:Cond)(u:Nat)(o:Nat)(p:Value)(q:Value)(s:Nat)(t:Value)(r:Nd)(h:Fb6 rfH j d=some r)(O S:List Nat)(w:World)(H:Hd O w w S [.mp o (gU Ky.str (fun v=>Value.int .i64 v) j.tracks),.own (Rp.int .i64) p 3 j.dens,.mp s (gU Ky.str (fun v=>Value.int .i64 v) j.rules),.blk u [.map (some o),p,q,.map (some s)] 215,f1 Rp.str q j.phases,f1 fA t d.Kids]):
  Calls Tryz.prog 137 ([gW u,.agg [i6 d.Kind,sb d.Name,sb d.Other,i6 d.Op,i6 d.N,i6 d.Frames,t].toArray]:List Value).toArray w fun e x=> ∃be cg,e= .returned (be)∧Hd O w x S [.tr fC [be] cg r,.mp o (gU Ky.str (fun v=>Value.int .i64 v) j.tracks),.own (Rp.int .i64) p 3 j.dens,.mp s (gU Ky.str (fun v=>Value.int .i64 v) j.rules),.blk u [.map (some o),p,q,.map (some s)] 215]:=by
 unfold Fb6 at h
 refine zZ 180 Tryz.func137 rfl rfl rfl ?_
 refine zC fun fm ch=>zB<| yY rfl rfl (xR (cs:=[i6 d.Kind,sb d.Name,sb d.Other,i6 d.Op,i6 d.N,i6 d.Frames,t]) rfl H) ?_
 rintro _ fn ⟨z,rfl,H⟩
 refine zK .nilIface<| zG (zA (ch _ _ ?_))
 refine zC fun fo ci=>zB<| zJ (gW u)<| zH (fa70_6 rfl)<| Ld one68 H 6 6 rfl rfl ?_
 obtain ⟨A,cj,h⟩:=zF h
 refine yG rfl rfl (yB en190 rfl) (Fbew rfH rhH (fQ.mk j.tracks j.dens j.phases j.rules) d.Kids u o p q s t _ cj _ _ _ (H.enter [0,1,2,3] [4,5] (by decide) rfl)) ?_
 rintro _ ck ⟨y,am,rfl,cl⟩
 have H:Hd _ _ ck _ [f1 Rp.str q j.phases,f1 fA t d.Kids,.blk z [i6 d.Kind,sb d.Name,sb d.Other,i6 d.Op,i6 d.N,i6 d.Frames,t] 70,.tr fK [y] am A,.mp o (gU Ky.str (fun v=>Value.int .i64 v) j.tracks),.own (Rp.int .i64) p 3 j.dens,.mp s (gU Ky.str (fun v=>Value.int .i64 v) j.rules),.blk u [.map (some o),p,q,.map (some s)] 215]:=H.back [0,1,2,3] [4,5] rfl cl
 refine ⟨_,rfl,?_⟩
 refine zK y<| zG (zA (ci _ _ ?_))
 refine zC fun fp cm=>?_
 refine zC fun fq cn=>zB<| zH (fa70_0 rfl)<| Ld fU H 2 0 rfl rfl<| zG (zA (cn _ _ ?_))
 refine yC ?_
 refine zC fun fr co=>zB ?_
 obtain ⟨bf,cp,h⟩:=zD h
 refine zH (zM (yZ (a:=d.Kind) (b:=1) rfl rfl) cp)<| zK (.bool bf)<| zG (zA (co _ _ ?_))
 refine zW (b:=bf) rfl (fun an=>?_) (fun an=>?_)
 ·have h:=zN an h
  refine zC fun fs cq=>zB<| zH (xO (cs:=[i6 2]) (bt277_0 _)) ?_
  have H:=nd_mk_constant (truth:=2) H
  refine zH (Do_mkI (by kernel_rfl) rfl)<| zK (.iface 277 (.agg ([i6 2]:List Value).toArray))<| zG (zA (cq _ _ ?_))
  obtain rfl:=gI h
  refine (zY (yD (zT (gX (v1:=(.iface 277 (.agg ([i6 2]:List Value).toArray))) rfl rfl ?_))))
  exact ⟨(.iface 277 (.agg ([i6 2]:List Value).toArray)),[],rfl,H.pick [8,4,5,6,7] (by decide)⟩
 have h:=zO an h
 refine zC fun ft cr=>zB ?_
 obtain ⟨bg,ct,h⟩:=zD h
 refine zH (zM (yZ (a:=d.Kind) (b:=2) rfl rfl) ct)<| zK (.bool bg)<| zG (zA (cr _ _ ?_))
 refine zW (b:=bg) rfl (fun ao=>?_) (fun ao=>?_)
 ·have h:=zN ao h
  refine zC fun fu cu=>zB<| zH (xO (cs:=[i6 1]) (bt277_0 _)) ?_
  have H:=nd_mk_constant (truth:=1) H
  refine zH (Do_mkI (by kernel_rfl) rfl)<| zK (.iface 277 (.agg ([i6 1]:List Value).toArray))<| zG (zA (cu _ _ ?_))
  obtain rfl:=gI h
  refine (zY (yD (zT (gX (v1:=(.iface 277 (.agg ([i6 1]:List Value).toArray))) rfl rfl ?_))))
  exact ⟨(.iface 277 (.agg ([i6 1]:List Value).toArray)),[],rfl,H.pick [8,4,5,6,7] (by decide)⟩
 have h:=zO ao h
 refine zC fun fv cv=>zB ?_
 obtain ⟨bh,cw,h⟩:=zD h
 refine zH (zM (yZ (a:=d.Kind) (b:=3) rfl rfl) cw)<| zK (.bool bh)<| zG (zA (cv _ _ ?_))
 refine zW (b:=bh) rfl (fun ap=>?_) (fun ap=>?_)
 ·have h:=zN ap h
  refine zC fun fw cx=>?_
  have cy:=H
  have H:=H.rebase
  have fx:=H
  refine xX H [0,1,2,3,4,5,6,7,8,9,10,11,12,13] (kz [0,0,0,1,0,1,1,0,1,0,1,0,0,0]) mixed ?_
  refine XM (gW u)<| XP (fun _ _=>yA rfl)<| XP (fun _ _=>fa215_0 rfl)<| XR one163 H 7 0 rfl rfl<| XP (fun _ _=>fa70_1 rfl)<| XR bW H 2 1 rfl rfl ?_
  obtain ⟨Q,cz,h⟩:=zD h
  refine MxM.xP oS rfl rfl rfl (fun x l=>yO (Do_lookup (K:=Ky.str) (G:=(fun v=>Value.int .i64 v)) (m:=j.tracks) (k:=d.Name) (zv:=0) ((H.sees l).item (i:=4) rfl) u163 u9 rfl rfl (Tryz.zeroValue3 x)) (congrArg (fun v=>Value.int .i64 v) cz)) ?_
  refine XP (fun _ _=>fa70_3 rfl)<| XR fU H 2 3 rfl rfl<| XP (fun _ _=>fa70_4 rfl)<| XR fU H 2 4 rfl rfl<| XP (fun _ _=>xO (cs:=[i6 Q,i6 d.Op,i6 d.N]) (bt279_0_1_2 _ _ _)) ?_
  have H:=nd_mk_number (track:=Q) (op:=d.Op) (n:=d.N) H
  refine XP (fun _ _=>Do_mkI (by kernel_rfl) rfl)<| XP (fun _ _=>xM (v:=(.iface 279 (.agg ([i6 Q,i6 d.Op,i6 d.N]:List Value).toArray))) rfl)<| MxM.xE fun fy hS=>?_
  have H:=H.sees hS
  have H:=cy.rejoin H
  refine (zA (cx _ _ ?_))
  obtain rfl:=gI h
  refine (zY (yD (zT (gX (v1:=(.iface 279 (.agg ([i6 Q,i6 d.Op,i6 d.N]:List Value).toArray))) rfl rfl ?_))))
  exact ⟨(.iface 279 (.agg ([i6 Q,i6 d.Op,i6 d.N]:List Value).toArray)),[],rfl,H.pick [8,4,5,6,7] (by decide)⟩
 have h:=zO ap h
 refine zC fun f0 c0=>zB ?_
 obtain ⟨bi,c1,h⟩:=zD h
 refine zH (zM (yZ (a:=d.Kind) (b:=4) rfl rfl) c1)<| zK (.bool bi)<| zG (zA (c0 _ _ ?_))
 refine zW (b:=bi) rfl (fun aq=>?_) (fun aq=>?_)
 ·have h:=zN aq h
  refine zC fun f4 c2=>?_
  have c3:=H
  have H:=H.rebase
  have f5:=H
  refine xX H [0,1,2,3,4,5,6,7,8,9,10,11,12,13,14,15] (kz [0,0,0,1,0,1,1,0,0,0,1,0,1,1,0,0]) mixed ?_
  refine XM (gW u)<| XP (fun _ _=>yA rfl)<| XP (fun _ _=>fa215_0 rfl)<| XR one163 H 7 0 rfl rfl<| XP (fun _ _=>fa70_1 rfl)<| XR bW H 2 1 rfl rfl ?_
  obtain ⟨B,c4,h⟩:=zD h
  refine MxM.xP oS rfl rfl rfl (fun x l=>yO (Do_lookup (K:=Ky.str) (G:=(fun v=>Value.int .i64 v)) (m:=j.tracks) (k:=d.Name) (zv:=0) ((H.sees l).item (i:=4) rfl) u163 u9 rfl rfl (Tryz.zeroValue3 x)) (congrArg (fun v=>Value.int .i64 v) c4)) ?_
  refine XM (gW u)<| XP (fun _ _=>yA rfl)<| XP (fun _ _=>fa215_0 rfl)<| XR one163 H 7 0 rfl rfl<| XP (fun _ _=>fa70_2 rfl)<| XR bW H 2 2 rfl rfl ?_
  obtain ⟨C,c5,h⟩:=zD h
  refine MxM.xP oS rfl rfl rfl (fun x l=>yO (Do_lookup (K:=Ky.str) (G:=(fun v=>Value.int .i64 v)) (m:=j.tracks) (k:=d.Other) (zv:=0) ((H.sees l).item (i:=4) rfl) u163 u9 rfl rfl (Tryz.zeroValue3 x)) (congrArg (fun v=>Value.int .i64 v) c5)) ?_
  refine XP (fun _ _=>xM (v:=i6 B) rfl)<| XP (fun _ _=>xM (v:=i6 C) rfl)<| MxM.xE fun f6 hS=>?_
  have H:=H.sees hS
  have H:=c3.rejoin H
  refine (zA (c2 _ _ ?_))
  refine zC fun f7 c6=>?_
  have c7:=H
  have H:=H.rebase
  have f8:=H
  refine xX H [0,1,2,3,4,5,6,7,8,9,10,11,12,13,14,15,16,17,18,19,20] (kz [0,0,0,0,0,1,0,0,1,0,0,0,1,0,0,1,0,1,0,0,0]) mixed ?_
  refine XM (i6 B)<| XM (i6 C)<| XM (gW u)<| XP (fun _ _=>yA rfl)<| XP (fun _ _=>fa215_1 rfl)<| XR kL H 7 1 rfl rfl<| XM (i6 B) ?_
  obtain ⟨E,ar,h⟩:=zF h
  obtain ⟨f9,ga,c8,c9,da,db⟩:=bH (H.item (i:=5) rfl) ar
  obtain rfl:c8= [i6 E]:=da
  refine XP (fun _ _=>yT u38 sz3 c9 rfl (zS ar).1 (zS ar).2.1 rfl rfl)<| MxM.xP oS rfl rfl rfl (fun x l=>yX fU rfl (Cells.get (db.sees l) (i:=0) rfl))<| XM (gW u)<| XP (fun _ _=>yA rfl)<| XP (fun _ _=>fa215_1 rfl)<| XR kL H 7 1 rfl rfl<| XM (i6 C) ?_
  obtain ⟨F,au,h⟩:=zF h
  obtain ⟨gb,gc,dc,dd,de,df⟩:=bH (H.item (i:=5) rfl) au
  obtain rfl:dc= [i6 F]:=de
  refine XP (fun _ _=>yT u38 sz3 dd rfl (zS au).1 (zS au).2.1 rfl rfl)<| MxM.xP oS rfl rfl rfl (fun x l=>yX fU rfl (Cells.get (df.sees l) (i:=0) rfl))<| XP (fun _ _=>fa70_3 rfl)<| XR fU H 2 3 rfl rfl<| XP (fun _ _=>xO (cs:=[i6 B,i6 C,i6 E,i6 F,i6 d.Op]) (bt281_0_1_2_3_4 _ _ _ _ _)) ?_
  have H:=nd_mk_pair (a:=B) (b:=C) (denA:=E) (denB:=F) (op:=d.Op) H
  refine XP (fun _ _=>Do_mkI (by kernel_rfl) rfl)<| XP (fun _ _=>xM (v:=(.iface 281 (.agg ([i6 B,i6 C,i6 E,i6 F,i6 d.Op]:List Value).toArray))) rfl)<| MxM.xE fun gd hS=>?_
  have H:=H.sees hS
  have H:=c7.rejoin H
  refine (zA (c6 _ _ ?_))
  obtain rfl:=gI h
  refine (zY (yD (zT (gX (v1:=(.iface 281 (.agg ([i6 B,i6 C,i6 E,i6 F,i6 d.Op]:List Value).toArray))) rfl rfl ?_))))
  exact ⟨(.iface 281 (.agg ([i6 B,i6 C,i6 E,i6 F,i6 d.Op]:List Value).toArray)),[],rfl,H.pick [8,4,5,6,7] (by decide)⟩
 have h:=zO aq h
 refine zC fun ge dg=>zB ?_
 obtain ⟨bj,dh,h⟩:=zD h
 refine zH (zM (yZ (a:=d.Kind) (b:=5) rfl rfl) dh)<| zK (.bool bj)<| zG (zA (dg _ _ ?_))
 refine zW (b:=bj) rfl (fun av=>?_) (fun av=>?_)
 ·have h:=zN av h
  refine zC fun gf di=>?_
  have dj:=H
  have H:=H.rebase
  have gg:=H
  refine xX H [0,1,2,3,4,5,6,7,8,9,10,11,12,13,14] (kz [0,0,0,1,0,1,1,0,1,0,1,0,2,0,0]) mixed ?_
  refine XM (gW u)<| XP (fun _ _=>yA rfl)<| XP (fun _ _=>fa215_0 rfl)<| XR one163 H 7 0 rfl rfl<| XP (fun _ _=>fa70_1 rfl)<| XR bW H 2 1 rfl rfl ?_
  obtain ⟨ad,dk,h⟩:=zD h
  refine MxM.xP oS rfl rfl rfl (fun x l=>yO (Do_lookup (K:=Ky.str) (G:=(fun v=>Value.int .i64 v)) (m:=j.tracks) (k:=d.Name) (zv:=0) ((H.sees l).item (i:=4) rfl) u163 u9 rfl rfl (Tryz.zeroValue3 x)) (congrArg (fun v=>Value.int .i64 v) dk)) ?_
  refine XP (fun _ _=>fa70_4 rfl)<| XR fU H 2 4 rfl rfl<| XP (fun _ _=>fa70_5 rfl)<| XR fU H 2 5 rfl rfl<| XP (fun _ _=>xO (cs:=[i6 ad,i6 d.N,i6 d.Frames,.slice none 0 0]) (bt241_0_1_2 _ _ _))<| MxM.XL_exN oS rfl rfl rfl (fun x l=>Ls_of (xR (cs:=[i6 ad,i6 d.N,i6 d.Frames,.slice none 0 0]) rfl (H.sees l)) (Ys_box (cs:=[i6 ad,i6 d.N,i6 d.Frames,.slice none 0 0]) rfl)) ?_
  rintro x _ gh l ⟨ae,rfl,H⟩
  have H:=row_nil H (Rt.of gQ) 148
  obtain ⟨bk,H⟩:=nd_mk_steady H 9 8 rfl rfl (by decide)
  have H:Hd _ _ _ _ [f1 Rp.str q j.phases,f1 fA t d.Kids,.blk z [i6 d.Kind,sb d.Name,sb d.Other,i6 d.Op,i6 d.N,i6 d.Frames,t] 70,.tr fK [y] am A,.mp o (gU Ky.str (fun v=>Value.int .i64 v) j.tracks),.own (Rp.int .i64) p 3 j.dens,.mp s (gU Ky.str (fun v=>Value.int .i64 v) j.rules),.blk u [.map (some o),p,q,.map (some s)] 215,.tr fC [(.iface 239 (gW ae))] bk (.steady ad d.N d.Frames []:Nd)]:=H
  refine XP (fun _ _=>Do_mkI (by kernel_rfl) rfl)<| XP (fun _ _=>xM (v:=(.iface 239 (gW ae))) rfl)<| MxM.xE fun gi hS=>?_
  have H:=H.sees hS
  have H:=dj.rejoin H
  refine (zA (di _ _ ?_))
  obtain rfl:=gI h
  refine (zY (yD (zT (gX (v1:=(.iface 239 (gW ae))) rfl rfl ?_))))
  exact ⟨(.iface 239 (gW ae)),bk,rfl,H.pick [8,4,5,6,7] (by decide)⟩
 have h:=zO av h
 refine zC fun gj dl=>zB ?_
 obtain ⟨bl,dm,h⟩:=zD h
 refine zH (zM (yZ (a:=d.Kind) (b:=6) rfl rfl) dm)<| zK (.bool bl)<| zG (zA (dl _ _ ?_))
 refine zW (b:=bl) rfl (fun aw=>?_) (fun aw=>?_)
 ·have h:=zN aw h
  refine zC fun gl dn=>?_
  have dp:=H
  have H:=H.rebase
  have gm:=H
  refine xX H [0,1,2,3,4,5,6,7,8,9] (kz [0,0,0,1,0,1,1,0,0,0]) mixed ?_
  refine XM (gW u)<| XP (fun _ _=>yA rfl)<| XP (fun _ _=>fa215_2 rfl)<| XR aN H 7 2 rfl rfl<| XP (fun _ _=>fa70_1 rfl)<| XR bW H 2 1 rfl rfl ?_
  have dq:=H
  obtain ⟨I,dr,h⟩:=zF h
  refine MxM.XL_call oS rfl rfl rfl (v:=i6 I) (fun x l=>yB en136 rfl) (fun x l=>dG (Faew j.phases d.Name q _ dr _ _ _ ((H.sees l).enter [] [0] (by decide) rfl))) ?_
  have H:=dq
  refine XP (fun _ _=>xO (cs:=[i6 I]) (bt283_0 _)) ?_
  have H:=nd_mk_phase (phase:=I) H
  refine XP (fun _ _=>Do_mkI (by kernel_rfl) rfl)<| XP (fun _ _=>xM (v:=(.iface 283 (.agg ([i6 I]:List Value).toArray))) rfl)<| MxM.xE fun gn hS=>?_
  have H:=H.sees hS
  have H:=dp.rejoin H
  refine (zA (dn _ _ ?_))
  obtain rfl:=gI h
  refine (zY (yD (zT (gX (v1:=(.iface 283 (.agg ([i6 I]:List Value).toArray))) rfl rfl ?_))))
  exact ⟨(.iface 283 (.agg ([i6 I]:List Value).toArray)),[],rfl,H.pick [8,4,5,6,7] (by decide)⟩
 have h:=zO aw h
 refine zC fun go ds=>zB ?_
 obtain ⟨bm,dt,h⟩:=zD h
 refine zH (zM (yZ (a:=d.Kind) (b:=7) rfl rfl) dt)<| zK (.bool bm)<| zG (zA (ds _ _ ?_))
 refine zW (b:=bm) rfl (fun ax=>?_) (fun ax=>?_)
 ·have h:=zN ax h
  refine zC fun gp du=>?_
  have dv:=H
  have H:=H.rebase
  have gq:=H
  refine xX H [0,1,2,3,4,5,6,7,8,9] (kz [0,0,0,1,0,1,1,0,0,0]) mixed ?_
  refine XM (gW u)<| XP (fun _ _=>yA rfl)<| XP (fun _ _=>fa215_3 rfl)<| XR one163 H 7 3 rfl rfl<| XP (fun _ _=>fa70_1 rfl)<| XR bW H 2 1 rfl rfl ?_
  obtain ⟨R,dw,h⟩:=zD h
  refine MxM.xP oS rfl rfl rfl (fun x l=>yO (Do_lookup (K:=Ky.str) (G:=(fun v=>Value.int .i64 v)) (m:=j.rules) (k:=d.Name) (zv:=0) ((H.sees l).item (i:=6) rfl) u163 u9 rfl rfl (Tryz.zeroValue3 x)) (congrArg (fun v=>Value.int .i64 v) dw)) ?_
  refine XP (fun _ _=>xO (cs:=[i6 R]) (bt285_0 _)) ?_
  have H:=nd_mk_rule (rule:=R) H
  refine XP (fun _ _=>Do_mkI (by kernel_rfl) rfl)<| XP (fun _ _=>xM (v:=(.iface 285 (.agg ([i6 R]:List Value).toArray))) rfl)<| MxM.xE fun gr hS=>?_
  have H:=H.sees hS
  have H:=dv.rejoin H
  refine (zA (du _ _ ?_))
  obtain rfl:=gI h
  refine (zY (yD (zT (gX (v1:=(.iface 285 (.agg ([i6 R]:List Value).toArray))) rfl rfl ?_))))
  exact ⟨(.iface 285 (.agg ([i6 R]:List Value).toArray)),[],rfl,H.pick [8,4,5,6,7] (by decide)⟩
 have h:=zO ax h
 refine zC fun gs dx=>zB ?_
 obtain ⟨bn,dy,h⟩:=zD h
 refine zH (zM (yZ (a:=d.Kind) (b:=8) rfl rfl) dy)<| zK (.bool bn)<| zG (zA (dx _ _ ?_))
 refine zW (b:=bn) rfl (fun ay=>?_) (fun ay=>?_)
 ·have h:=zN ay h
  refine zC fun gt dz=>zB<| zJ y ?_
  obtain ⟨bo,T,h⟩:=zF h
  obtain ⟨gu,gv,gw,az⟩:=aX (H.item (i:=3) rfl) T
  refine zH (yT u143 sz170 az rfl (zS T).1 (zS T).2.1 rfl rfl) ?_
  obtain ⟨gx,bp,d0,H⟩:=H.focusV 3 rfl az T rfl
  obtain ⟨U,rfl⟩:=tr_cell rfl (H.item (i:=8) rfl)
  have H:Hd _ _ _ _ [f1 Rp.str q j.phases,f1 fA t d.Kids,.blk z [i6 d.Kind,sb d.Name,sb d.Other,i6 d.Op,i6 d.N,i6 d.Frames,t] 70,.mp o (gU Ky.str (fun v=>Value.int .i64 v) j.tracks),.own (Rp.int .i64) p 3 j.dens,.mp s (gU Ky.str (fun v=>Value.int .i64 v) j.rules),.blk u [.map (some o),p,q,.map (some s)] 215,.tr (Rt.row fC 170 [((0:Int).toNat,[U])]) [y] bp A,.tr fC [U] d0 bo]:=H
  refine zH (yX kD rfl (Cells.get (H.holeW 7 rfl az T rfl eU) (i:=0) rfl)) ?_
  obtain ⟨d1,d2,d3⟩:=nd_if (H.item (i:=8) rfl)
  refine zH (xO (cs:=[U]) (by rw [d3]; exact bt248_0 d1 d2))<| yY rfl rfl (xR (cs:=[U]) rfl H) ?_
  rintro _ gy ⟨af,rfl,H⟩
  obtain ⟨bq,H⟩:=nd_mk_not H 8 9 rfl rfl (by decide)
  have H:Hd _ _ _ _ [f1 Rp.str q j.phases,f1 fA t d.Kids,.blk z [i6 d.Kind,sb d.Name,sb d.Other,i6 d.Op,i6 d.N,i6 d.Frames,t] 70,.mp o (gU Ky.str (fun v=>Value.int .i64 v) j.tracks),.own (Rp.int .i64) p 3 j.dens,.mp s (gU Ky.str (fun v=>Value.int .i64 v) j.rules),.blk u [.map (some o),p,q,.map (some s)] 215,.tr (Rt.row fC 170 [((0:Int).toNat,[U])]) [y] bp A,.tr fC [(.iface 246 (gW af))] bq (.not bo:Nd)]:=H
  refine zH (Do_mkI (by kernel_rfl) rfl)<| zK (.iface 246 (gW af))<| zG (zA (dz _ _ ?_))
  obtain rfl:=gI h
  refine (zY (yD (zT (gX (v1:=(.iface 246 (gW af))) rfl rfl ?_))))
  exact ⟨(.iface 246 (gW af)),bq,rfl,H.pick [8,3,4,5,6] (by decide)⟩
 have h:=zO ay h
 obtain ⟨br,h,d4⟩:=zF h
 refine yH [119,120,121] (fun (g:Unit)=>[(119,.bool br)]) (fun g wl=>Hd O w wl S [f1 Rp.str q j.phases,f1 fA t d.Kids,.blk z [i6 d.Kind,sb d.Name,sb d.Other,i6 d.Op,i6 d.N,i6 d.Frames,t] 70,.tr fK [y] am A,.mp o (gU Ky.str (fun v=>Value.int .i64 v) j.tracks),.own (Rp.int .i64) p 3 j.dens,.mp s (gU Ky.str (fun v=>Value.int .i64 v) j.rules),.blk u [.map (some o),p,q,.map (some s)] 215]) ?_ ?_
 ·skip
  refine zC fun gz d5=>zB ?_
  obtain ⟨bt,d6,h⟩:=zD h
  refine zH (zM (yZ (a:=d.Kind) (b:=9) rfl rfl) d6)<| zK (.bool bt)<| zG (zA (d5 _ _ ?_))
  refine zW (b:=bt) rfl (fun a0=>?_) (fun a0=>?_)
  ·have h:=zN a0 h
   obtain rfl:=gI h
   exact (zX (zA (meet ⟨(),(zI rfl zL),H.pick [0,1,2,3,4,5,6,7] (by decide)⟩)))
  have h:=zO a0 h
  refine zB ?_
  obtain ⟨d7,d8,h⟩:=zD h
  refine zH (zM (yZ (a:=d.Kind) (b:=10) rfl rfl) d8)<| zK (.bool d7) ?_
  obtain rfl:=gI h
  exact (zG (zA (meet ⟨(),(zI rfl zL),H.pick [0,1,2,3,4,5,6,7] (by decide)⟩)))
 rintro _ ρ g0 H
 have h:=d4
 refine zW (b:=br) rfl (fun a1=>?_) (fun a1=>?_)
 ·have h:=zN a1 h
  refine zC fun g1 d9=>zB<| zJ y<| zH (fa70_0 rfl)<| Ld fU H 2 0 rfl rfl ?_
  obtain ⟨a2,ea,h⟩:=zD h
  refine zH (zM (yZ (a:=d.Kind) (b:=10) rfl rfl) ea) ?_
  obtain ⟨eb,ec,ed⟩: ∃a c,y= .slice a _ c:=row_len ((H.item (i:=3) rfl))
  refine zH (xO (cs:=[y,.bool a2]) (by rw [ed]; exact bt251_0_1 eb _ ec _))<| yY rfl rfl (xR (cs:=[y,.bool a2]) rfl H) ?_
  rintro _ g2 ⟨ag,rfl,H⟩
  obtain ⟨bu,H⟩:=nd_mk_group H 3 8 rfl rfl (by decide)
  have H:Hd _ _ _ _ [f1 Rp.str q j.phases,f1 fA t d.Kids,.blk z [i6 d.Kind,sb d.Name,sb d.Other,i6 d.Op,i6 d.N,i6 d.Frames,t] 70,.mp o (gU Ky.str (fun v=>Value.int .i64 v) j.tracks),.own (Rp.int .i64) p 3 j.dens,.mp s (gU Ky.str (fun v=>Value.int .i64 v) j.rules),.blk u [.map (some o),p,q,.map (some s)] 215,.tr fC [(.iface 249 (gW ag))] bu (.group A a2:Nd)]:=H
  refine zH (Do_mkI (by kernel_rfl) rfl)<| zK (.iface 249 (gW ag))<| zG (zA (d9 _ _ ?_))
  obtain rfl:=gI h
  refine (zY (yD (zT (gX (v1:=(.iface 249 (gW ag))) rfl rfl ?_))))
  exact ⟨(.iface 249 (gW ag)),bu,rfl,H.pick [7,3,4,5,6] (by decide)⟩
 have h:=zO a1 h
 refine zC fun g3 ee=>zB ?_
 obtain ⟨bv,ef,h⟩:=zD h
 refine zH (zM (yZ (a:=d.Kind) (b:=11) rfl rfl) ef)<| zK (.bool bv)<| zG (zA (ee _ _ ?_))
 refine zW (b:=bv) rfl (fun a3=>?_) (fun a3=>?_)
 ·have h:=zN a3 h
  refine zC fun g4 eg=>?_
  have eh:=H
  have H:=H.rebase
  have g5:=H
  refine xX H [0,1,2,3,4,5,6,7,8,9,10] (kz [0,0,1,0,1,0,1,0,2,0,0]) mixed ?_
  refine XM y ?_
  obtain ⟨bw,V,h⟩:=zF h
  obtain ⟨g6,g7,g8,a4⟩:=aX (H.item (i:=3) rfl) V
  refine XP (fun _ _=>yT u143 sz170 a4 rfl (zS V).1 (zS V).2.1 rfl rfl) ?_
  obtain ⟨g9,bx,ei,H⟩:=H.focusV 3 rfl a4 V rfl
  obtain ⟨J,rfl⟩:=tr_cell rfl (H.item (i:=8) rfl)
  have H:Hd _ _ _ _ [f1 Rp.str q j.phases,f1 fA t d.Kids,.blk z [i6 d.Kind,sb d.Name,sb d.Other,i6 d.Op,i6 d.N,i6 d.Frames,t] 70,.mp o (gU Ky.str (fun v=>Value.int .i64 v) j.tracks),.own (Rp.int .i64) p 3 j.dens,.mp s (gU Ky.str (fun v=>Value.int .i64 v) j.rules),.blk u [.map (some o),p,q,.map (some s)] 215,.tr (Rt.row fC 170 [((0:Int).toNat,[J])]) [y] bx A,.tr fC [J] ei bw]:=H
  refine MxM.xP oS rfl rfl rfl (fun x l=>yX kD rfl (Cells.get ((H.sees l).holeW 7 rfl a4 V rfl eU) (i:=0) rfl)) ?_
  refine XP (fun _ _=>fa70_5 rfl)<| XR fU H 2 5 rfl rfl<| XP (fun _ _=>fa70_5 rfl)<| XR fU H 2 5 rfl rfl ?_
  obtain ⟨ej,ek,el⟩:=nd_if (H.item (i:=8) rfl)
  refine XP (fun _ _=>xO (cs:=[J,i6 d.Frames,i6 d.Frames,.slice none 0 0]++((Fl.arr 3 (Fl.int .i64)).f (Arr.rep 3 0:Arr 3 Int))) (by rw [el]; exact bt245_0_1_2 ej ek _ _))<| MxM.XL_exN oS rfl rfl rfl (fun x l=>Ls_of (xR (cs:=[J,i6 d.Frames,i6 d.Frames,.slice none 0 0]++((Fl.arr 3 (Fl.int .i64)).f (Arr.rep 3 0:Arr 3 Int))) rfl (H.sees l)) (Ys_box (cs:=[J,i6 d.Frames,i6 d.Frames,.slice none 0 0]++((Fl.arr 3 (Fl.int .i64)).f (Arr.rep 3 0:Arr 3 Int))) rfl)) ?_
  rintro x _ ha l ⟨ah,rfl,H⟩
  have H:=row_nil H (Rt.of (Rp.int .i64)) 3
  obtain ⟨bz,H⟩:=nd_mk_count H 8 10 9 rfl rfl rfl (by decide)
  have H:Hd _ _ _ _ [f1 Rp.str q j.phases,f1 fA t d.Kids,.blk z [i6 d.Kind,sb d.Name,sb d.Other,i6 d.Op,i6 d.N,i6 d.Frames,t] 70,.mp o (gU Ky.str (fun v=>Value.int .i64 v) j.tracks),.own (Rp.int .i64) p 3 j.dens,.mp s (gU Ky.str (fun v=>Value.int .i64 v) j.rules),.blk u [.map (some o),p,q,.map (some s)] 215,.tr (Rt.row fC 170 [((0:Int).toNat,[J])]) [y] bx A,.tr fC [(.iface 242 (gW ah))] bz (.count bw d.Frames d.Frames [] (Arr.rep 3 0:Arr 3 Int):Nd)]:=H
  refine XP (fun _ _=>Do_mkI (by kernel_rfl) rfl)<| XP (fun _ _=>xM (v:=(.iface 242 (gW ah))) rfl)<| MxM.xE fun hb hS=>?_
  have H:=H.sees hS
  have H:=eh.rejoin H
  refine (zA (eg _ _ ?_))
  obtain rfl:=gI h
  refine (zY (yD (zT (gX (v1:=(.iface 242 (gW ah))) rfl rfl ?_))))
  exact ⟨(.iface 242 (gW ah)),bz,rfl,H.pick [8,3,4,5,6] (by decide)⟩
 have h:=zO a3 h
 refine zC fun hc em=>zB ?_
 obtain ⟨b0,en,h⟩:=zD h
 refine zH (zM (yZ (a:=d.Kind) (b:=12) rfl rfl) en)<| zK (.bool b0)<| zG (zA (em _ _ ?_))
 refine zW (b:=b0) rfl (fun a5=>?_) (fun a5=>?_)
 ·have h:=zN a5 h
  refine zC fun he eo=>?_
  have ep:=H
  have H:=H.rebase
  have hf:=H
  refine xX H [0,1,2,3,4,5,6,7,8] (kz [0,0,1,0,1,0,2,0,0]) mixed ?_
  refine XM y ?_
  obtain ⟨b1,X,h⟩:=zF h
  obtain ⟨hg,hh,hi,a6⟩:=aX (H.item (i:=3) rfl) X
  refine XP (fun _ _=>yT u143 sz170 a6 rfl (zS X).1 (zS X).2.1 rfl rfl) ?_
  obtain ⟨hj,b2,er,H⟩:=H.focusV 3 rfl a6 X rfl
  obtain ⟨L,rfl⟩:=tr_cell rfl (H.item (i:=8) rfl)
  have H:Hd _ _ _ _ [f1 Rp.str q j.phases,f1 fA t d.Kids,.blk z [i6 d.Kind,sb d.Name,sb d.Other,i6 d.Op,i6 d.N,i6 d.Frames,t] 70,.mp o (gU Ky.str (fun v=>Value.int .i64 v) j.tracks),.own (Rp.int .i64) p 3 j.dens,.mp s (gU Ky.str (fun v=>Value.int .i64 v) j.rules),.blk u [.map (some o),p,q,.map (some s)] 215,.tr (Rt.row fC 170 [((0:Int).toNat,[L])]) [y] b2 A,.tr fC [L] er b1]:=H
  refine MxM.xP oS rfl rfl rfl (fun x l=>yX kD rfl (Cells.get ((H.sees l).holeW 7 rfl a6 X rfl eU) (i:=0) rfl)) ?_
  refine XP (fun _ _=>fa70_5 rfl)<| XR fU H 2 5 rfl rfl ?_
  obtain ⟨es,et,eu⟩:=nd_if (H.item (i:=8) rfl)
  refine XP (fun _ _=>xO (cs:=[L,i6 1,i6 d.Frames,.slice none 0 0]++((Fl.arr 3 (Fl.int .i64)).f (Arr.rep 3 0:Arr 3 Int))) (by rw [eu]; exact bt245_0_1_2 es et _ _))<| MxM.XL_exN oS rfl rfl rfl (fun x l=>Ls_of (xR (cs:=[L,i6 1,i6 d.Frames,.slice none 0 0]++((Fl.arr 3 (Fl.int .i64)).f (Arr.rep 3 0:Arr 3 Int))) rfl (H.sees l)) (Ys_box (cs:=[L,i6 1,i6 d.Frames,.slice none 0 0]++((Fl.arr 3 (Fl.int .i64)).f (Arr.rep 3 0:Arr 3 Int))) rfl)) ?_
  rintro x _ hk l ⟨ai,rfl,H⟩
  have H:=row_nil H (Rt.of (Rp.int .i64)) 3
  obtain ⟨b3,H⟩:=nd_mk_count H 8 10 9 rfl rfl rfl (by decide)
  have H:Hd _ _ _ _ [f1 Rp.str q j.phases,f1 fA t d.Kids,.blk z [i6 d.Kind,sb d.Name,sb d.Other,i6 d.Op,i6 d.N,i6 d.Frames,t] 70,.mp o (gU Ky.str (fun v=>Value.int .i64 v) j.tracks),.own (Rp.int .i64) p 3 j.dens,.mp s (gU Ky.str (fun v=>Value.int .i64 v) j.rules),.blk u [.map (some o),p,q,.map (some s)] 215,.tr (Rt.row fC 170 [((0:Int).toNat,[L])]) [y] b2 A,.tr fC [(.iface 242 (gW ai))] b3 (.count b1 1 d.Frames [] (Arr.rep 3 0:Arr 3 Int):Nd)]:=H
  refine XP (fun _ _=>Do_mkI (by kernel_rfl) rfl)<| XP (fun _ _=>xM (v:=(.iface 242 (gW ai))) rfl)<| MxM.xE fun hl hS=>?_
  have H:=H.sees hS
  have H:=ep.rejoin H
  refine (zA (eo _ _ ?_))
  obtain rfl:=gI h
  refine (zY (yD (zT (gX (v1:=(.iface 242 (gW ai))) rfl rfl ?_))))
  exact ⟨(.iface 242 (gW ai)),b3,rfl,H.pick [8,3,4,5,6] (by decide)⟩
 have h:=zO a5 h
 refine zC fun hn ew=>zB ?_
 obtain ⟨b4,ex,h⟩:=zD h
 refine zH (zM (yZ (a:=d.Kind) (b:=13) rfl rfl) ex)<| zK (.bool b4)<| zG (zA (ew _ _ ?_))
 refine zW (b:=b4) rfl (fun a7=>?_) (fun a7=>?_)
 ·have h:=zN a7 h
  refine zC fun ho ey=>?_
  have ez:=H
  have H:=H.rebase
  have hp:=H
  refine xX H [0,1,2,3,4,5,6,7,8,9,10] (kz [0,0,1,0,1,0,1,0,2,0,0]) mixed ?_
  refine XM y ?_
  obtain ⟨b5,Y,h⟩:=zF h
  obtain ⟨hq,hr,hs,a8⟩:=aX (H.item (i:=3) rfl) Y
  refine XP (fun _ _=>yT u143 sz170 a8 rfl (zS Y).1 (zS Y).2.1 rfl rfl) ?_
  obtain ⟨ht,b6,e0,H⟩:=H.focusV 3 rfl a8 Y rfl
  obtain ⟨M,rfl⟩:=tr_cell rfl (H.item (i:=8) rfl)
  have H:Hd _ _ _ _ [f1 Rp.str q j.phases,f1 fA t d.Kids,.blk z [i6 d.Kind,sb d.Name,sb d.Other,i6 d.Op,i6 d.N,i6 d.Frames,t] 70,.mp o (gU Ky.str (fun v=>Value.int .i64 v) j.tracks),.own (Rp.int .i64) p 3 j.dens,.mp s (gU Ky.str (fun v=>Value.int .i64 v) j.rules),.blk u [.map (some o),p,q,.map (some s)] 215,.tr (Rt.row fC 170 [((0:Int).toNat,[M])]) [y] b6 A,.tr fC [M] e0 b5]:=H
  refine MxM.xP oS rfl rfl rfl (fun x l=>yX kD rfl (Cells.get ((H.sees l).holeW 7 rfl a8 Y rfl eU) (i:=0) rfl)) ?_
  refine XP (fun _ _=>fa70_4 rfl)<| XR fU H 2 4 rfl rfl<| XP (fun _ _=>fa70_5 rfl)<| XR fU H 2 5 rfl rfl ?_
  obtain ⟨e1,e2,e3⟩:=nd_if (H.item (i:=8) rfl)
  refine XP (fun _ _=>xO (cs:=[M,i6 d.N,i6 d.Frames,.slice none 0 0]++((Fl.arr 3 (Fl.int .i64)).f (Arr.rep 3 0:Arr 3 Int))) (by rw [e3]; exact bt245_0_1_2 e1 e2 _ _))<| MxM.XL_exN oS rfl rfl rfl (fun x l=>Ls_of (xR (cs:=[M,i6 d.N,i6 d.Frames,.slice none 0 0]++((Fl.arr 3 (Fl.int .i64)).f (Arr.rep 3 0:Arr 3 Int))) rfl (H.sees l)) (Ys_box (cs:=[M,i6 d.N,i6 d.Frames,.slice none 0 0]++((Fl.arr 3 (Fl.int .i64)).f (Arr.rep 3 0:Arr 3 Int))) rfl)) ?_
  rintro x _ hu l ⟨aj,rfl,H⟩
  have H:=row_nil H (Rt.of (Rp.int .i64)) 3
  obtain ⟨b7,H⟩:=nd_mk_count H 8 10 9 rfl rfl rfl (by decide)
  have H:Hd _ _ _ _ [f1 Rp.str q j.phases,f1 fA t d.Kids,.blk z [i6 d.Kind,sb d.Name,sb d.Other,i6 d.Op,i6 d.N,i6 d.Frames,t] 70,.mp o (gU Ky.str (fun v=>Value.int .i64 v) j.tracks),.own (Rp.int .i64) p 3 j.dens,.mp s (gU Ky.str (fun v=>Value.int .i64 v) j.rules),.blk u [.map (some o),p,q,.map (some s)] 215,.tr (Rt.row fC 170 [((0:Int).toNat,[M])]) [y] b6 A,.tr fC [(.iface 242 (gW aj))] b7 (.count b5 d.N d.Frames [] (Arr.rep 3 0:Arr 3 Int):Nd)]:=H
  refine XP (fun _ _=>Do_mkI (by kernel_rfl) rfl)<| XP (fun _ _=>xM (v:=(.iface 242 (gW aj))) rfl)<| MxM.xE fun hv hS=>?_
  have H:=H.sees hS
  have H:=ez.rejoin H
  refine (zA (ey _ _ ?_))
  obtain rfl:=gI h
  refine (zY (yD (zT (gX (v1:=(.iface 242 (gW aj))) rfl rfl ?_))))
  exact ⟨(.iface 242 (gW aj)),b7,rfl,H.pick [8,3,4,5,6] (by decide)⟩
 have h:=zO a7 h
 refine zC fun hw e4=>zB ?_
 obtain ⟨b8,e5,h⟩:=zD h
 refine zH (zM (yZ (a:=d.Kind) (b:=14) rfl rfl) e5)<| zK (.bool b8)<| zG (zA (e4 _ _ ?_))
 refine zW (b:=b8) rfl (fun a9=>?_) (fun a9=>?_)
 ·have h:=zN a9 h
  refine zC fun hx e6=>?_
  have e7:=H
  have H:=H.rebase
  have hy:=H
  refine xX H [0,1,2,3,4,5,6,7,8,9] (kz [0,0,1,0,0,1,0,2,0,0]) mixed ?_
  refine XM y ?_
  obtain ⟨ba,Z,h⟩:=zF h
  obtain ⟨hz,h0,h1,bb⟩:=aX (H.item (i:=3) rfl) Z
  refine XP (fun _ _=>yT u143 sz170 bb rfl (zS Z).1 (zS Z).2.1 rfl rfl) ?_
  obtain ⟨h2,e8,b9,H⟩:=H.focusV 3 rfl bb Z rfl
  obtain ⟨D,rfl⟩:=tr_cell rfl (H.item (i:=8) rfl)
  have H:Hd _ _ _ _ [f1 Rp.str q j.phases,f1 fA t d.Kids,.blk z [i6 d.Kind,sb d.Name,sb d.Other,i6 d.Op,i6 d.N,i6 d.Frames,t] 70,.mp o (gU Ky.str (fun v=>Value.int .i64 v) j.tracks),.own (Rp.int .i64) p 3 j.dens,.mp s (gU Ky.str (fun v=>Value.int .i64 v) j.rules),.blk u [.map (some o),p,q,.map (some s)] 215,.tr (Rt.row fC 170 [((0:Int).toNat,[D])]) [y] e8 A,.tr fC [D] b9 ba]:=H
  refine MxM.xP oS rfl rfl rfl (fun x l=>yX kD rfl (Cells.get ((H.sees l).holeW 7 rfl bb Z rfl eU) (i:=0) rfl)) ?_
  refine XM y ?_
  obtain ⟨ca,aa,h⟩:=zF h
  obtain ⟨h3,h4,h5,bc⟩:=aX (H.item (i:=7) rfl) aa
  refine XP (fun _ _=>yT u143 sz170 bc rfl (zS aa).1 (zS aa).2.1 rfl rfl) ?_
  obtain ⟨h6,cb,e9,H⟩:=H.focusV 7 rfl bc aa rfl
  obtain ⟨P,rfl⟩:=tr_cell rfl (H.item (i:=9) rfl)
  have H:Hd _ _ _ _ [f1 Rp.str q j.phases,f1 fA t d.Kids,.blk z [i6 d.Kind,sb d.Name,sb d.Other,i6 d.Op,i6 d.N,i6 d.Frames,t] 70,.mp o (gU Ky.str (fun v=>Value.int .i64 v) j.tracks),.own (Rp.int .i64) p 3 j.dens,.mp s (gU Ky.str (fun v=>Value.int .i64 v) j.rules),.blk u [.map (some o),p,q,.map (some s)] 215,.tr fC [D] b9 ba,.tr (Rt.row fC 170 [((1:Int).toNat,[P]),((0:Int).toNat,[D])]) [y] cb A,.tr fC [P] e9 ca]:=H
  refine MxM.xP oS rfl rfl rfl (fun x l=>yX kD rfl (Cells.get ((H.sees l).holeW 8 rfl bc aa rfl eU) (i:=0) rfl)) ?_
  obtain ⟨fa,fb,fc⟩:=nd_if (H.item (i:=7) rfl)
  obtain ⟨fd,fe,ff⟩:=nd_if (H.item (i:=9) rfl)
  refine XP (fun _ _=>xO (cs:=[D,P,i6 0,.bool false]) (by rw [fc,ff]; exact bt255_0_1 fa fb fd fe))<| MxM.XL_exN oS rfl rfl rfl (fun x l=>Ls_of (xR (cs:=[D,P,i6 0,.bool false]) rfl (H.sees l)) (Ys_box (cs:=[D,P,i6 0,.bool false]) rfl)) ?_
  rintro x _ h7 l ⟨ak,rfl,H⟩
  obtain ⟨cc,H⟩:=nd_mk_since H 7 9 10 rfl rfl rfl (by decide)
  have H:Hd _ _ _ _ [f1 Rp.str q j.phases,f1 fA t d.Kids,.blk z [i6 d.Kind,sb d.Name,sb d.Other,i6 d.Op,i6 d.N,i6 d.Frames,t] 70,.mp o (gU Ky.str (fun v=>Value.int .i64 v) j.tracks),.own (Rp.int .i64) p 3 j.dens,.mp s (gU Ky.str (fun v=>Value.int .i64 v) j.rules),.blk u [.map (some o),p,q,.map (some s)] 215,.tr (Rt.row fC 170 [((1:Int).toNat,[P]),((0:Int).toNat,[D])]) [y] cb A,.tr fC [(.iface 252 (gW ak))] cc (.since ba ca 0 false:Nd)]:=H
  refine XP (fun _ _=>Do_mkI (by kernel_rfl) rfl)<| XP (fun _ _=>xM (v:=(.iface 252 (gW ak))) rfl)<| MxM.xE fun h8 hS=>?_
  have H:=H.sees hS
  have H:=e7.rejoin H
  refine (zA (e6 _ _ ?_))
  obtain rfl:=gI h
  refine (zY (yD (zT (gX (v1:=(.iface 252 (gW ak))) rfl rfl ?_))))
  exact ⟨(.iface 252 (gW ak)),cc,rfl,H.pick [8,3,4,5,6] (by decide)⟩
 have h:=zO a9 h
 refine (zX (yK (zA (cm _ _ ?_))))
 refine zC fun h9 fg=>zB<| zJ y ?_
 obtain ⟨cd,ab,h⟩:=zF h
 obtain ⟨ia,ib,ic,bd⟩:=aX (H.item (i:=3) rfl) ab
 refine zH (yT u143 sz170 bd rfl (zS ab).1 (zS ab).2.1 rfl rfl) ?_
 obtain ⟨id,ce,fh,H⟩:=H.focusV 3 rfl bd ab rfl
 obtain ⟨ac,rfl⟩:=tr_cell rfl (H.item (i:=8) rfl)
 have H:Hd _ _ _ _ [f1 Rp.str q j.phases,f1 fA t d.Kids,.blk z [i6 d.Kind,sb d.Name,sb d.Other,i6 d.Op,i6 d.N,i6 d.Frames,t] 70,.mp o (gU Ky.str (fun v=>Value.int .i64 v) j.tracks),.own (Rp.int .i64) p 3 j.dens,.mp s (gU Ky.str (fun v=>Value.int .i64 v) j.rules),.blk u [.map (some o),p,q,.map (some s)] 215,.tr (Rt.row fC 170 [((0:Int).toNat,[ac])]) [y] ce A,.tr fC [ac] fh cd]:=H
 refine zH (yX kD rfl (Cells.get (H.holeW 7 rfl bd ab rfl eU) (i:=0) rfl)) ?_
 obtain ⟨fi,fj,fk⟩:=nd_if (H.item (i:=8) rfl)
 refine zH (xO (cs:=[ac,i6 0,.bool false]) (by rw [fk]; exact bt258_0 fi fj))<| yY rfl rfl (xR (cs:=[ac,i6 0,.bool false]) rfl H) ?_
 rintro _ ie ⟨al,rfl,H⟩
 obtain ⟨cf,H⟩:=nd_mk_rises H 8 9 rfl rfl (by decide)
 have H:Hd _ _ _ _ [f1 Rp.str q j.phases,f1 fA t d.Kids,.blk z [i6 d.Kind,sb d.Name,sb d.Other,i6 d.Op,i6 d.N,i6 d.Frames,t] 70,.mp o (gU Ky.str (fun v=>Value.int .i64 v) j.tracks),.own (Rp.int .i64) p 3 j.dens,.mp s (gU Ky.str (fun v=>Value.int .i64 v) j.rules),.blk u [.map (some o),p,q,.map (some s)] 215,.tr (Rt.row fC 170 [((0:Int).toNat,[ac])]) [y] ce A,.tr fC [(.iface 256 (gW al))] cf (.rises cd 0 false:Nd)]:=H
 refine zH (Do_mkI (by kernel_rfl) rfl)<| zK (.iface 256 (gW al))<| zG (zA (fg _ _ ?_))
 obtain rfl:=gI h
 refine (zY (gX (v1:=(.iface 256 (gW al))) rfl rfl ?_))
 exact ⟨(.iface 256 (gW al)),cf,rfl,H.pick [8,3,4,5,6] (by decide)⟩
theorem Fev:Fct (Fbk):=by
 have h: ∀n,Fct (Fap n):=by
  intro n
  induction n with
  | zero=>intro b c d e f i j k r a; cases a
  | succ n ih=>intro b c d e f i j k r a; exact Fb6w (Fap n) ih b c d e f i j k r a
 exact h FU
end Go.Proofs.YtckmiljbaejijaaGreatDoor.L
