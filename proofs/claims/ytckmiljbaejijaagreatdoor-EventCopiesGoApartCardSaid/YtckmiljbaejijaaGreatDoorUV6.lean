/- Walks: what each function computes, for every argument; no condition but those that stand in the statements. -/
import Derived.Test.YtckmiljbaejijaaGreatDoorUV0
import Derived.Test.YtckmiljbaejijaaGreatDoorUV5
namespace Go.Proofs.YtckmiljbaejijaaGreatDoor.L
open Go.RowKit Go.OB Go.Lf
set_option maxHeartbeats 4000000
set_option maxRecDepth 100000 in
theorem Fcnw (i:Int)(o:Int)(l:Int)(p:Int)(r:Int)(c:Fcn i o l p=some r)(O S:List Nat)(w:World)(H:Hd O w w S []):
  Cl 333 [i6 i,i6 o,i6 l,i6 p] w fun e F=>e= .returned (i6 r)∧Hd O w F S []:=by
 unfold Fcn at c
 refine zS 75 Tryz.func333 rfl rfl rfl ?_
 refine zC fun K1 G=>zA<| zK (i6 0)<| zF (zB (G _ _ ?_))
 refine zC fun bg I=>?_
 refine zC fun bh J=>zA<| zI (i6 i) ?_
 have K:=H
 obtain ⟨m,L,c⟩:=zD c
 refine yA rfl rfl (zV en330 rfl) (Falw i _ L _ _ _ (H.enter [] [] (by decide) rfl)) ?_
 rintro _ bi ⟨rfl,M⟩
 have H:=K.step (M.only:Only [] _ _)
 refine ⟨_,rfl,?_⟩
 refine zI (i6 l) ?_
 have N:=H
 obtain ⟨n,P,c⟩:=zD c
 refine yA rfl rfl (zV en330 rfl) (Falw l _ P _ _ _ (H.enter [] [] (by decide) rfl)) ?_
 rintro _ bj ⟨rfl,Q⟩
 have H:=N.step (Q.only:Only [] _ _)
 refine ⟨_,rfl,?_⟩
 refine zK (i6 m)<| zK (i6 n)<| zF (zB (J _ _ ?_))
 refine zC fun bk R=>zA<| zI (i6 m)<| zI (i6 n) ?_
 obtain ⟨T,U,c⟩:=zG c
 refine zH (zQ (dH (a:=m) (b:=n) rfl rfl) U)<| zF (zB (R _ _ ?_))
 refine yC (b:=T) rfl (fun q=>?_) (fun q=>?_)
 ·have c:=zT q c
  refine zC fun bl V=>zA<| zI (i6 m)<| zI (i6 n) ?_
  obtain ⟨X,Y,c⟩:=zG c
  refine zH (Do_sub (a:=m) (b:=n) rfl rfl Y) ?_
  have Z:=H
  obtain ⟨A,aa,c⟩:=zD c
  refine yA rfl rfl (zV en330 rfl) (Falw X _ aa _ _ _ (H.enter [] [] (by decide) rfl)) ?_
  rintro _ bm ⟨rfl,ab⟩
  have H:=Z.step (ab.only:Only [] _ _)
  refine ⟨_,rfl,?_⟩
  refine zK (i6 A)<| zF (zB (V _ _ ?_))
  obtain rfl:=gI c
  refine (zY (zZ (fF (v1:=i6 A) rfl rfl ?_)))
  exact ⟨rfl,H.pick [] (by decide)⟩
 have c:=zU q c
 refine yB (zB (I _ _ ?_))
 refine zC fun bn ac=>zA<| zI (i6 i) ?_
 have ad:=H
 obtain ⟨d,ae,c⟩:=zD c
 refine yA rfl rfl (zV en330 rfl) (Falw i _ ae _ _ _ (H.enter [] [] (by decide) rfl)) ?_
 rintro _ bo ⟨rfl,af⟩
 have H:=ad.step (af.only:Only [] _ _)
 refine ⟨_,rfl,?_⟩
 refine zK (i6 d)<| zF (zB (ac _ _ ?_))
 refine zC fun bp ag=>zA<| zI (i6 i)<| zI (i6 d) ?_
 obtain ⟨bq,ah,c⟩:=zG c
 refine zH (Do_mul (a:=i) (b:=d) rfl rfl ah) ?_
 obtain ⟨ai,aj,c⟩:=zG c
 refine zH (Do_conv u3 u297 rfl aj)<| zI (i6 p) ?_
 obtain ⟨ak,al,c⟩:=zG c
 refine zH (Do_conv u3 u297 rfl al) ?_
 have am:=H
 obtain ⟨⟨f,j⟩,an,c⟩:=zD c
 refine yA rfl rfl (zV en270 rfl) (Fbhw ai ak _ an _ _ _ (H.enter [] [] (by decide) rfl)) ?_
 rintro _ br ⟨rfl,ao⟩
 have H:=am.step (ao.only:Only [] _ _)
 refine ⟨_,rfl,?_⟩
 refine zI (.tuple #[.int .u64 f,.int .u64 j])<| zH (xY (v:= .int .u64 f) rfl rfl)<| zH (xY (v:= .int .u64 j) rfl rfl)<| zK (.int .u64 f)<| zK (.int .u64 j)<| zF (zB (ag _ _ ?_))
 refine zC fun bt ap=>zA<| zI (i6 l)<| zI (i6 d) ?_
 obtain ⟨bu,aq,c⟩:=zG c
 refine zH (Do_mul (a:=l) (b:=d) rfl rfl aq) ?_
 obtain ⟨ar,au,c⟩:=zG c
 refine zH (Do_conv u3 u297 rfl au)<| zI (i6 o) ?_
 obtain ⟨av,aw,c⟩:=zG c
 refine zH (Do_conv u3 u297 rfl aw) ?_
 have ax:=H
 obtain ⟨⟨h,k⟩,ay,c⟩:=zD c
 refine yA rfl rfl (zV en270 rfl) (Fbhw ar av _ ay _ _ _ (H.enter [] [] (by decide) rfl)) ?_
 rintro _ bv ⟨rfl,az⟩
 have H:=ax.step (az.only:Only [] _ _)
 refine ⟨_,rfl,?_⟩
 refine zI (.tuple #[.int .u64 h,.int .u64 k])<| zH (xY (v:= .int .u64 h) rfl rfl)<| zH (xY (v:= .int .u64 k) rfl rfl)<| zK (.int .u64 h)<| zK (.int .u64 k)<| zF (zB (ap _ _ ?_))
 refine zC fun bw a0=>?_
 refine yF ?_
 obtain ⟨B,c,a1⟩:=zD c
 refine yL [49,50,51,52,53,54,55,56,57,58,59,60,61,62] (fun (g:Unit)=>[(49,.bool B)]) (fun g wl=>Hd O w wl S []) ?_ ?_
 ·skip
  refine zA ?_
  refine zI (.int .u64 f)<| zI (.int .u64 h) ?_
  obtain ⟨a2,a3,c⟩:=zG c
  refine zH (zQ (xR (a:=f) (b:=h) rfl rfl) a3)<| yS (b:=a2) rfl rfl rfl (fun s=>?_) (fun s=>?_)
  ·have c:=zT s c
   refine yI ?_
   refine yI ?_
   refine yI ?_
   refine yI ?_
   refine yI ?_
   refine yI ?_
   refine yI ?_
   refine yI ?_
   refine zH (yO (v:= .bool true) rfl rfl)<| zK (.bool true) ?_
   obtain rfl:=gI c
   exact (zF (zB (meet ⟨(),(zL rfl zO),H.pick [] (by decide)⟩)))
  have c:=zU s c
  refine zI (.int .u64 f)<| zI (.int .u64 h) ?_
  obtain ⟨a4,a5,c⟩:=zG c
  refine zH (zQ (yT (a:=f) (b:=h) rfl rfl) a5)<| yS (b:=a4) rfl rfl rfl (fun t=>?_) (fun t=>?_)
  ·have c:=zT t c
   refine zI (.int .u64 j)<| zI (.int .u64 k) ?_
   obtain ⟨u,a6,c⟩:=zG c
   refine zH (zQ (xR (a:=j) (b:=k) rfl rfl) a6)<| zH (yO (v:= .bool u) rfl rfl)<| zH (yN (v:= .bool u) rfl rfl)<| zK (.bool u) ?_
   obtain rfl:=gI c
   exact (zF (zB (meet ⟨(),(zL rfl zO),H.pick [] (by decide)⟩)))
  have c:=zU t c
  refine yI ?_
  refine yI ?_
  refine yI ?_
  refine zH (yN (v:= .bool false) rfl rfl)<| zH (yN (v:= .bool false) rfl rfl)<| zK (.bool false) ?_
  obtain rfl:=gI c
  exact (zF (zB (meet ⟨(),(zL rfl zO),H.pick [] (by decide)⟩)))
 rintro _ ρ bx H
 have c:=a1
 refine yC (b:=B) rfl (fun x=>?_) (fun x=>?_)
 ·have c:=zT x c
  refine zC fun bz a7=>zA<| zI (i6 d) ?_
  obtain ⟨C,a8,c⟩:=zG c
  refine zH (Do_neg (a:=d) rfl a8)<| zK (i6 C)<| zF (zB (a7 _ _ ?_))
  obtain rfl:=gI c
  refine (zY (yG (zZ (fF (v1:=i6 C) rfl rfl ?_))))
  exact ⟨rfl,H.pick [] (by decide)⟩
 have c:=zU x c
 obtain ⟨D,c,a9⟩:=zD c
 refine yL [65,66,67,68,69,70,71,72,73] (fun (g:Unit)=>[(65,.bool D)]) (fun g wl=>Hd O w wl S []) ?_ ?_
 ·skip
  refine zA ?_
  refine zI (.int .u64 f)<| zI (.int .u64 h) ?_
  obtain ⟨ba,bb,c⟩:=zG c
  refine zH (zQ (yT (a:=f) (b:=h) rfl rfl) bb)<| yS (b:=ba) rfl rfl rfl (fun y=>?_) (fun y=>?_)
  ·have c:=zT y c
   refine zI (.int .u64 j)<| zI (.int .u64 k) ?_
   obtain ⟨E,bc,c⟩:=zG c
   refine zH (zQ (yT (a:=j) (b:=k) rfl rfl) bc)<| zH (yO (v:= .bool E) rfl rfl)<| zK (.bool E) ?_
   obtain rfl:=gI c
   exact (zF (zB (meet ⟨(),(zL rfl zO),H.pick [] (by decide)⟩)))
  have c:=zU y c
  refine yI ?_
  refine yI ?_
  refine yI ?_
  refine zH (yN (v:= .bool false) rfl rfl)<| zK (.bool false) ?_
  obtain rfl:=gI c
  exact (zF (zB (meet ⟨(),(zL rfl zO),H.pick [] (by decide)⟩)))
 rintro _ ρ b0 H
 have c:=a9
 refine yC (b:=D) rfl (fun z=>?_) (fun z=>?_)
 ·have c:=zT z c
  refine zC fun b1 bd=>zA<| zK (i6 0)<| zF (zB (bd _ _ ?_))
  obtain rfl:=gI c
  refine (zY (yG (zZ (fF (v1:=i6 0) rfl rfl ?_))))
  exact ⟨rfl,H.pick [] (by decide)⟩
 have c:=zU z c
 refine (yB (yK (zB (a0 _ _ ?_))))
 refine zC fun b2 be=>zA<| zI (i6 d)<| zK (i6 d)<| zF (zB (be _ _ ?_))
 obtain rfl:=gI c
 refine (zY (fF (v1:=i6 d) rfl rfl ?_))
 exact ⟨rfl,H.pick [] (by decide)⟩
theorem Fa0w (c:aK)(f:gJ)(q:Nat)(k:Value)(l:Value)(m:Value)(r:Int)(d:Fa0 c f=some r)(O S:List Nat)(w:World)(H:Hd O w w S [.own (Rp.int .i64) m 3 f.rules,.blk q [k,l,m] 222,f1 gV k f.told,f1 Rp.bool l f.possible]):
  Cl 332 [.agg [i6 c.a,i6 c.b,i6 c.denA,i6 c.denB,i6 c.op].toArray,gU q] w fun e h=>e= .returned (i6 r)∧Hd O w h S [.own (Rp.int .i64) m 3 f.rules,.blk q [k,l,m] 222]:=by
 unfold Fa0 at d
 refine zS 44 Tryz.func332 rfl rfl rfl ?_
 refine zC fun K9 M=>zA<| yP rfl rfl (xW (cs:=[i6 c.a,i6 c.b,i6 c.denA,i6 c.denB,i6 c.op]) rfl H) ?_
 rintro _ t ⟨s,rfl,H⟩
 refine zK (i6 0)<| zF (zB (M _ _ ?_))
 refine zC fun ay P=>?_
 have Q:=H
 have H:=H.rebase
 have R:=H
 have u:Hd (O++bks (rest [0] [.own (Rp.int .i64) m 3 f.rules,.blk q [k,l,m] 222,f1 gV k f.told,f1 Rp.bool l f.possible,.blk s [i6 c.a,i6 c.b,i6 c.denA,i6 c.denB,i6 c.op] 281])) t t (bks (Go.Lf.pick ([0]++ [2,3]) [.own (Rp.int .i64) m 3 f.rules,.blk q [k,l,m] 222,f1 gV k f.told,f1 Rp.bool l f.possible,.blk s [i6 c.a,i6 c.b,i6 c.denA,i6 c.denB,i6 c.op] 281])) [.own (Rp.int .i64) m 3 f.rules,f1 gV k f.told,f1 Rp.bool l f.possible]:=H.enter [0] [2,3] (by decide) rfl
 have G:=H.firmB u (i:=1) rfl (List.mem_append_right _ List.mem_cons_self)
 have I:=H.firmB u (i:=4) rfl (List.mem_append_right _ (List.mem_cons_of_mem _ List.mem_cons_self))
 have H:=u
 have az:=H.firm (i:=1) rfl
 refine WP_mixM H [0,1,2,3,4,5,6,7,8,9,10,11,12,13,14,15,16,17,18,19] [.pure,.pure,.pure,.pure,.pure,.pure,.pure,.read,.pure,.pure,.pure,.pure,.pure,.pure,.pure,.pure,.mk (World.heap t).size,.mk (World.heap t).size,.eff,.eff] ⟨trivial,trivial,trivial,trivial,trivial,trivial,trivial,trivial,trivial,trivial,trivial,trivial,trivial,trivial,trivial,trivial,rfl,rfl,trivial,trivial,trivial⟩ mixed (by kernel_rfl) (by kernel_rfl) (by kernel_rfl) (by decide) ?_
 have H:=H.hm
 refine XM (gU q)<| XP (fun _ _=>zN rfl)<| XP (fun _ _=>fa222_0 rfl)<| XP (fun h j=>xA one55 rfl (Cells.get (Blk.cells (G h j)) (i:=0) rfl))<| XP (fun _ _=>fa281_0 rfl)<| XP (fun h j=>xA fU rfl (Cells.get (Blk.cells (I h j)) (i:=0) rfl)) ?_
 obtain ⟨n,x,d⟩:=zD d
 obtain ⟨y,o23,a0,a1,T,U,V,X,Y⟩:=dQ (H.item (i:=1) rfl) x
 obtain rfl:=kY U
 have H:=H.fz (.at y (o23+c.a.toNat * 2) _) ⟨V,X,Y⟩
 refine XP (fun _ _=>xJ u55 sz148 T rfl (yE x).1 (yE x).2.1 rfl rfl)<| MxM.XL_read oS rfl rfl rfl (fun h j=>yJ (yM (cs:=[i6 n.N,.bool n.Known]) agg148 rfl sz148 rfl ((H.sees j).item (i:=3) rfl).2.2) rfl)<| XM (gU q)<| XP (fun _ _=>zN rfl)<| XP (fun _ _=>fa222_0 rfl)<| XP (fun h j=>xA one55 rfl (Cells.get (Blk.cells (G h j)) (i:=0) rfl)) ?_
 refine XP (fun _ _=>fa281_1 rfl)<| XP (fun h j=>xA fU rfl (Cells.get (Blk.cells (I h j)) (i:=1) rfl)) ?_
 obtain ⟨o,z,d⟩:=zD d
 obtain ⟨A,o35,a2,a3,Z,aa,ab,ac,ad⟩:=dQ (H.item (i:=1) rfl) z
 obtain rfl:=kY aa
 have H:=H.fz (.at A (o35+c.b.toNat * 2) _) ⟨ab,ac,ad⟩
 refine XP (fun _ _=>xJ u55 sz148 Z rfl (yE z).1 (yE z).2.1 rfl rfl) ?_
 have ae:=u.firmC (H.item (i:=4) rfl).1.1 (H.item (i:=4) rfl).2.1 (H.item (i:=4) rfl).2.2
 refine XP (fun h j=>yJ (yM (cs:=[i6 o.N,.bool o.Known]) agg148 rfl sz148 rfl (ae h j)) rfl)<| H.alloc_rule rfl rfl rfl rfl zero148 ?_
 rintro B a4 H
 refine H.alloc_rule rfl rfl rfl rfl zero148 ?_
 rintro C a5 H
 have H:=H.hd
 refine MxM.XL_exU oS rfl rfl (fun h j=>yQ (vs:=[i6 n.N,.bool n.Known]) (H.sees j) 5 rfl sz148 rfl rfl rfl ⟨rfl,rfl,trivial⟩ rfl) ?_
 rintro h a6 j H
 refine ⟨H.only,?_⟩
 refine MxM.XL_exU oS rfl rfl (fun h j=>yQ (vs:=[i6 o.N,.bool o.Known]) (H.sees j) 6 rfl sz148 rfl rfl rfl ⟨rfl,rfl,trivial⟩ rfl) ?_
 rintro h a7 j H
 refine ⟨H.only,?_⟩
 refine MxM.xI fun af hS=>?_
 have H:=H.sees hS
 have H:=R.back [0] [2,3] rfl H
 have H:Hd _ _ _ _ [.blk q [k,l,m] 222,f1 gV k f.told,f1 Rp.bool l f.possible,.blk s [i6 c.a,i6 c.b,i6 c.denA,i6 c.denB,i6 c.op] 281,.own (Rp.int .i64) m 3 f.rules,f1 gV k f.told,f1 Rp.bool l f.possible,.fz (.at y (o23+c.a.toNat * 2) [i6 n.N,.bool n.Known]),.fz (.at A (o35+c.b.toNat * 2) [i6 o.N,.bool o.Known]),.blk B [i6 n.N,.bool n.Known] 148,.blk C [i6 o.N,.bool o.Known] 148]:=H
 have H:Hd O t af (bks [.own (Rp.int .i64) m 3 f.rules,.blk q [k,l,m] 222,f1 gV k f.told,f1 Rp.bool l f.possible,.blk s [i6 c.a,i6 c.b,i6 c.denA,i6 c.denB,i6 c.op] 281]) [.blk q [k,l,m] 222,.blk s [i6 c.a,i6 c.b,i6 c.denA,i6 c.denB,i6 c.op] 281,.own (Rp.int .i64) m 3 f.rules,f1 gV k f.told,f1 Rp.bool l f.possible,.fz (.at y (o23+c.a.toNat * 2) [i6 n.N,.bool n.Known]),.fz (.at A (o35+c.b.toNat * 2) [i6 o.N,.bool o.Known]),.blk B [i6 n.N,.bool n.Known] 148,.blk C [i6 o.N,.bool o.Known] 148]:=H.pick [0,3,4,5,6,7,8,9,10] (by decide)
 have H:=Q.rejoin H
 refine (zB (P _ _ ?_))
 refine zC fun a8 ag=>?_
 obtain ⟨J,d,ah⟩:=zD d
 refine yL [23,24,25,26,27,28,29,30] (fun (g:Unit)=>[(30,.bool J)]) (fun g wl=>Hd O w wl S [.blk q [k,l,m] 222,f1 gV k f.told,f1 Rp.bool l f.possible,.own (Rp.int .i64) m 3 f.rules,.blk s [i6 c.a,i6 c.b,i6 c.denA,i6 c.denB,i6 c.op] 281,.blk B [i6 n.N,.bool n.Known] 148,.blk C [i6 o.N,.bool o.Known] 148]) ?_ ?_
 ·skip
  refine zA ?_
  refine zH (fa148_1 rfl)<| Ld one4 H 7 1 rfl rfl ?_
  obtain ⟨ai,aj,d⟩:=zG d
  refine zH (zQ (wL (p:=n.Known) rfl) aj)<| yS (b:=ai) rfl rfl rfl (fun D=>?_) (fun D=>?_)
  ·have d:=zT D d
   refine yI ?_
   refine yI ?_
   refine yI ?_
   refine zH (yO (v:= .bool true) rfl rfl) ?_
   obtain rfl:=gI d
   exact (zF (zB (meet ⟨(),(zL rfl zO),H.pick [0,3,4,2,1,7,8] (by decide)⟩)))
  have d:=zU D d
  refine zH (fa148_1 rfl)<| Ld one4 H 8 1 rfl rfl ?_
  obtain ⟨ak,al,d⟩:=zG d
  refine zH (zQ (wL (p:=o.Known) rfl) al)<| zH (yN (v:= .bool ak) rfl rfl) ?_
  obtain rfl:=gI d
  exact (zF (zB (meet ⟨(),(zL rfl zO),H.pick [0,3,4,2,1,7,8] (by decide)⟩)))
 rintro _ ρ a9 H
 have d:=ah
 refine yC (b:=J) rfl (fun E=>?_) (fun E=>?_)
 ·have d:=zT E d
  refine zC fun ba am=>zA<| zK (i6 0)<| zF (zB (am _ _ ?_))
  obtain rfl:=gI d
  refine (zY (zZ (fF (v1:=i6 0) rfl rfl ?_)))
  exact ⟨rfl,H.pick [3,0] (by decide)⟩
 have d:=zU E d
 refine yB (zB (ag _ _ ?_))
 refine zC fun bb an=>?_
 have ao:=H
 have H:=H.rebase
 have bc:=H
 refine wB H [0,1,2,3,4,5,6,7,8,9,10,11,12,13] (kz [0,1,0,1,0,1,0,1,0,1,4,4,4,0]) mixed ?_
 refine XP (fun _ _=>fa281_4 rfl)<| XR fU H 4 4 rfl rfl<| XP (fun _ _=>fa148_0 rfl)<| XR fU H 5 0 rfl rfl<| XP (fun _ _=>fa281_2 rfl)<| XR fU H 4 2 rfl rfl<| XP (fun _ _=>fa148_0 rfl)<| XR fU H 6 0 rfl rfl<| XP (fun _ _=>fa281_3 rfl)<| XR fU H 4 3 rfl rfl ?_
 have ap:=H
 obtain ⟨K,aq,d⟩:=zD d
 refine MxM.XL_fcall oS rfl rfl rfl (v:=i6 K) (fun h j=>zV en333 rfl) (fun h j=>bU (Fcnw n.N c.denA o.N c.denB _ aq _ _ _ (Hd.fresh0 h))) ?_
 have H:=ap
 have ar:=H
 obtain ⟨L,au,d⟩:=zD d
 refine MxM.XL_fcall oS rfl rfl rfl (v:= .bool L) (fun h j=>zV en329 rfl) (fun h j=>bU (Fbjw c.op K _ au _ _ _ (Hd.fresh0 h))) ?_
 have H:=ar
 have av:=H
 obtain ⟨F,aw,d⟩:=zD d
 refine MxM.XL_fcall oS rfl rfl rfl (v:=i6 F) (fun h j=>zV en328 rfl) (fun h j=>bU (Fckw L _ aw _ _ _ (Hd.fresh0 h))) ?_
 have H:=av
 refine XP (fun _ _=>xO (v:=i6 F) rfl)<| MxM.xI fun bd hS=>?_
 have H:=H.sees hS
 have H:=ao.rejoin H
 refine (zB (an _ _ ?_))
 obtain rfl:=gI d
 refine (zY (fF (v1:=i6 F) rfl rfl ?_))
 exact ⟨rfl,H.pick [3,0] (by decide)⟩
set_option maxRecDepth 100000 in
theorem Fayw (d:eY)(h:gJ)(o:Nat)(y:Value)(an:List Nat)(t:Nat)(l:Value)(m:Value)(k:Value)(r:Int×eY)(c:Fay d h=some r)(O S:List Nat)(w:World)(H:Hd O w w S [.tr (Rt.row (Rt.of gV) 148 []) [y] an d.last,.blk o [i6 d.track,i6 d.n,i6 d.frames,y] 241,.own (Rp.int .i64) k 3 h.rules,.blk t [l,m,k] 222,f1 gV l h.told,f1 Rp.bool m h.possible]):
  Cl 310 [gU o,gU t] w fun e D=> ∃Y ao,e= .returned (i6 r.1)∧Hd O w D S [.tr (Rt.row (Rt.of gV) 148 []) [Y] ao r.2.last,.blk o [i6 r.2.track,i6 r.2.n,i6 r.2.frames,Y] 241,.own (Rp.int .i64) k 3 h.rules,.blk t [l,m,k] 222]:=by
 unfold Fay at c
 refine zS 83 Tryz.func310 rfl rfl rfl ?_
 refine zC fun ct ap=>zA<| zK (i6 0)<| zF (zB (ap _ _ ?_))
 refine zC fun cu aq=>?_
 have ar:=H
 have H:=H.rebase
 have cv:=H
 refine wB H [0,1,2,3,4,5,6,7,8,9,10,11,12,13,14,15,16] (kz [0,0,0,1,0,0,0,1,0,0,0,1,0,1,2,3,0]) mixed ?_
 refine XM (gU o)<| XP (fun _ _=>zN rfl)<| XP (fun _ _=>fa241_3 rfl)<| XR one55 H 1 3 rfl rfl<| XM (gU t)<| XP (fun _ _=>zN rfl)<| XP (fun _ _=>fa222_0 rfl)<| XR one55 H 3 0 rfl rfl<| XM (gU o)<| XP (fun _ _=>zN rfl)<| XP (fun _ _=>fa241_0 rfl)<| XR fU H 1 0 rfl rfl ?_
 obtain ⟨s,L,c⟩:=zD c
 obtain ⟨Z,o23,cw,cx,au,av,aw,ax,ay⟩:=dQ (H.item (i:=4) rfl) L
 obtain rfl:=kY av
 have H:=H.fz (.at Z (o23+d.track.toNat * 2) _) ⟨aw,ax,ay⟩
 refine XP (fun _ _=>xJ u55 sz148 au rfl (yE L).1 (yE L).2.1 rfl rfl)<| MxM.XL_read oS rfl rfl rfl (fun D A=>yJ (yM (cs:=[i6 s.N,.bool s.Known]) agg148 rfl sz148 rfl ((H.sees A).item (i:=6) rfl).2.2) rfl) ?_
 obtain ⟨cy,az,c⟩:=zG c
 subst az
 refine MxM.XL_exN oS rfl rfl rfl (fun D A=>Ls_of (kM (r:=gV) (xl:=[s]) (cs:=[i6 s.N,.bool s.Known]) u55 el148 (by decide) (by decide) rfl (xP (vs:=[.agg [i6 s.N,.bool s.Known].toArray]) (by decide) rfl rfl ⟨rfl,trivial⟩ rfl) (H.sees A) ⟨[i6 s.N,.bool s.Known],[],rfl,(rToldT_mk (x:=s)),rfl⟩) (Ys_bs (cs:=[i6 s.N,.bool s.Known]) u55 el148 (by decide) (by decide) (xP (vs:=[.agg [i6 s.N,.bool s.Known].toArray]) (by decide) rfl rfl ⟨rfl,trivial⟩ rfl))) ?_
 rintro D a0 cz A H
 obtain ⟨z,a1,c⟩:=zD c
 refine MxM.XL_ex oS rfl rfl rfl (fun D A=>Lx_appF (H.sees A) 0 rfl u55 el148 rfl rfl (Sr.of_own ((H.sees A).item (i:=7) rfl)) a1) ?_
 rintro D u c0 A ⟨aa,H⟩
 refine ⟨H.only,?_⟩
 have H:Hd _ _ _ _ [.blk o [i6 d.track,i6 d.n,i6 d.frames,y] 241,.own (Rp.int .i64) k 3 h.rules,.blk t [l,m,k] 222,f1 gV l h.told,f1 Rp.bool m h.possible,.fz (.at Z (o23+d.track.toNat * 2) [i6 s.N,.bool s.Known]),.own gV a0 148 ([s]:List eH),.tr (Rt.row (Rt.of gV) 148 []) [u] aa z]:=H
 refine XP (fun _ _=>xO (v:=u) rfl)<| MxM.xI fun c1 hS=>?_
 have H:=H.sees hS
 have H:=ar.rejoin H
 refine (zB (aq _ _ ?_))
 refine zC fun c2 a2=>zA<| zK (i6 0)<| zK (i6 0)<| zK (i6 0)<| zF (zB (a2 _ _ ?_))
 obtain ⟨F,c,a3⟩:=zD c
 refine yL [6,7,8,10,27,28,29,30,31,32,33,34,35,36,37,38,39,40,41,42,43,44,45,46,47,48,49,50,51,52] (fun (g:(List Nat))=>[(6,i6 F.1),(7,i6 F.2.1),(8,i6 F.2.2)]) (fun g wl=>Hd O w wl S [.blk o [i6 d.track,i6 d.n,i6 d.frames,y] 241,.tr (Rt.row (Rt.of gV) 148 []) [u] g z,.own (Rp.int .i64) k 3 h.rules,.blk t [l,m,k] 222,f1 gV l h.told,f1 Rp.bool m h.possible]) ?_ ?_
 ·skip
  refine zC fun c3 a4=>zA<| zI u ?_
  obtain ⟨a5,a6,c⟩:=zG c
  obtain ⟨c4,c5,a7⟩:=kN ((H.item (i:=7) rfl))
  refine zH (yJ (xN u55 a7) (congrArg (Value.int .i64) a6))<| zI (i6 0)<| zF (zB (a4 _ _ ?_))
  refine yF ?_
  unfold Fc5 at c
  obtain ⟨a8,ab,a9,c⟩:=yR c
  refine xG [6,7,8,10,29,30,31,32,33,34,35,36,37,38,39,40,41,42,43,44,45,46,47,48,49,50,51,52] (fun (g:Nat×Int×Int×Int×Int×(List Nat))=>[(6,i6 g.2.1),(7,i6 g.2.2.1),(8,i6 g.2.2.2.1),(29,i6 g.2.2.2.2.1)]) (fun g wl=>Hd O w wl S [.blk o [i6 d.track,i6 d.n,i6 d.frames,y] 241,.tr (Rt.row (Rt.of gV) 148 []) [u] g.2.2.2.2.2 z,.own (Rp.int .i64) k 3 h.rules,.blk t [l,m,k] 222,f1 gV l h.told,f1 Rp.bool m h.possible]∧eF a8 g.1 (g.2.1,g.2.2.1,g.2.2.2.1,g.2.2.2.2.1)=some F) (fun g=>g.1) (ab,0,0,0,0,aa) (zL rfl (zL rfl (zL rfl (zL rfl zO)))) ⟨H.pick [0,7,1,2,3,4] (by decide),c⟩ ?_
  clear H c
  rintro ⟨ab,G,c6,c7,E,ba⟩ ρ c8 ⟨H,c⟩
  obtain ⟨bb,rfl,c⟩:=yX c
  have c:=yY a9 c
  refine zC fun c9 bc=>zA ?_
  obtain ⟨bd,be,c⟩:=zG c
  refine zH (zQ (xR (a:=E) (b:=a5) rfl rfl) be)<| zF (zB (bc _ _ ?_))
  refine zC fun da bf=>?_
  refine yC (b:=bd) rfl (fun M=>?_) (fun M=>?_)
  ·have c:=zT M c
   refine yB (zB (bf _ _ ?_))
   obtain ⟨I,c,bg⟩:=zD c
   refine yL [6,7,8,10,31,32,33,34,35,36,37,38,39,40,41,42,43,44,45,46,47,48,49,50,51] (fun (g:(List Nat))=>[(6,i6 I.1),(7,i6 I.2.1),(8,i6 I.2.2)]) (fun g wl=>Hd O w wl S [.blk o [i6 d.track,i6 d.n,i6 d.frames,y] 241,.tr (Rt.row (Rt.of gV) 148 []) [u] g z,.own (Rp.int .i64) k 3 h.rules,.blk t [l,m,k] 222,f1 gV l h.told,f1 Rp.bool m h.possible]) ?_ ?_
   ·skip
    refine yF ?_
    refine zC fun db bh=>zA ?_
    obtain ⟨f,B,c⟩:=zD c
    obtain ⟨dc,dd,de,P⟩:=kG (H.item (i:=1) rfl) B
    refine zH (xJ u55 sz148 P rfl (yE B).1 (yE B).2.1 rfl rfl) ?_
    obtain ⟨df,J,dg,H⟩:=H.focusV 1 rfl P B rfl
    obtain ⟨bi,bj⟩:=trF (H.item (i:=6) rfl)
    subst bi
    obtain rfl:=kY bj
    have H:Hd _ _ _ _ [.blk o [i6 d.track,i6 d.n,i6 d.frames,y] 241,.own (Rp.int .i64) k 3 h.rules,.blk t [l,m,k] 222,f1 gV l h.told,f1 Rp.bool m h.possible,.tr (Rt.row (Rt.of gV) 148 [(E.toNat,[i6 f.N,.bool f.Known])]) [u] J z,.tr (Rt.of gV) [i6 f.N,.bool f.Known] [] f]:=H
    refine zH (yJ (yM (cs:=[i6 f.N,.bool f.Known]) agg148 rfl sz148 rfl (H.holeW 5 rfl P B rfl dK)) rfl)<| yP rfl rfl (xH zero148 H) ?_
    rintro _ dh ⟨C,rfl,H⟩
    refine yV rfl (yQ (vs:=[i6 f.N,.bool f.Known]) H 7 rfl sz148 rfl rfl rfl ⟨rfl,rfl,trivial⟩ rfl) ?_
    rintro di H
    refine zF (zB (bh _ _ ?_))
    refine zC fun dj bk=>?_
    refine zC fun dk bl=>zA<| zH (fa148_1 rfl)<| Ld one4 H 7 1 rfl rfl ?_
    obtain ⟨bm,bn,c⟩:=zG c
    refine zH (zQ (wL (p:=f.Known) rfl) bn)<| zF (zB (bl _ _ ?_))
    refine yC (b:=bm) rfl (fun Q=>?_) (fun Q=>?_)
    ·have c:=zT Q c
     have H:Hd _ _ _ _ [.blk o [i6 d.track,i6 d.n,i6 d.frames,y] 241,.own (Rp.int .i64) k 3 h.rules,.blk t [l,m,k] 222,f1 gV l h.told,f1 Rp.bool m h.possible,.tr (Rt.row (Rt.of gV) 148 [(E.toNat,[i6 f.N,.bool f.Known])]) [u] J z,.tr (Rt.of gV) [i6 f.N,.bool f.Known] [] f,.blk C [i6 f.N,.bool f.Known] 148]:=H
     obtain ⟨ac,H⟩:=H.unfocus0 5 6 rfl rfl (by decide) rfl rfl B
     have H:Hd _ _ _ _ [.blk o [i6 d.track,i6 d.n,i6 d.frames,y] 241,.own (Rp.int .i64) k 3 h.rules,.blk t [l,m,k] 222,f1 gV l h.told,f1 Rp.bool m h.possible,.blk C [i6 f.N,.bool f.Known] 148,.tr (Rt.row (Rt.of gV) 148 []) [u] ac z]:=H
     obtain rfl:=gI c
     exact (xK (yH (yU (zB (meet ⟨ac,(zL rfl (zL rfl (zL rfl zO))),H.pick [0,6,1,2,3,4] (by decide)⟩)))))
    have c:=zU Q c
    refine yB (zB (bk _ _ ?_))
    obtain ⟨R,c,bo⟩:=zD c
    refine yL [7,8,36,37,38,39,40,41] (fun (g:(List Nat))=>[(7,i6 R.1),(8,i6 R.2)]) (fun g wl=>Hd O w wl S [.blk o [i6 d.track,i6 d.n,i6 d.frames,y] 241,.tr (Rt.row (Rt.of gV) 148 []) [u] g z,.own (Rp.int .i64) k 3 h.rules,.blk t [l,m,k] 222,f1 gV l h.told,f1 Rp.bool m h.possible,.blk C [i6 f.N,.bool f.Known] 148]) ?_ ?_
    ·skip
     refine zC fun dl bp=>zA<| zI (i6 G) ?_
     obtain ⟨bq,br,c⟩:=zG c
     refine zH (zQ (yT (a:=G) (b:=0) rfl rfl) br)<| zF (zB (bp _ _ ?_))
     refine yC (b:=bq) rfl (fun T=>?_) (fun T=>?_)
     ·have c:=zT T c
      have bt:=H
      have H:=H.rebase
      have dm:=H
      refine wB H [0,1,2,3,4,5] (kz [0,1,0,1,0,0]) mixed ?_
      refine XP (fun _ _=>fa148_0 rfl)<| XR fU H 7 0 rfl rfl<| XP (fun _ _=>fa148_0 rfl)<| XR fU H 7 0 rfl rfl<| XP (fun _ _=>xO (v:=i6 f.N) rfl)<| XP (fun _ _=>xO (v:=i6 f.N) rfl)<| MxM.xI fun dn hS=>?_
      have H:=H.sees hS
      have H:=bt.rejoin H
      have H:Hd _ _ _ _ [.blk o [i6 d.track,i6 d.n,i6 d.frames,y] 241,.own (Rp.int .i64) k 3 h.rules,.blk t [l,m,k] 222,f1 gV l h.told,f1 Rp.bool m h.possible,.tr (Rt.row (Rt.of gV) 148 [(E.toNat,[i6 f.N,.bool f.Known])]) [u] J z,.tr (Rt.of gV) [i6 f.N,.bool f.Known] [] f,.blk C [i6 f.N,.bool f.Known] 148]:=H
      obtain ⟨ad,H⟩:=H.unfocus0 5 6 rfl rfl (by decide) rfl rfl B
      have H:Hd _ _ _ _ [.blk o [i6 d.track,i6 d.n,i6 d.frames,y] 241,.own (Rp.int .i64) k 3 h.rules,.blk t [l,m,k] 222,f1 gV l h.told,f1 Rp.bool m h.possible,.blk C [i6 f.N,.bool f.Known] 148,.tr (Rt.row (Rt.of gV) 148 []) [u] ad z]:=H
      obtain rfl:=gI c
      exact (zB (meet ⟨ad,(zL rfl (zL rfl zO)),H.pick [0,6,1,2,3,4,5] (by decide)⟩))
     have c:=zU T c
     have H:Hd _ _ _ _ [.blk o [i6 d.track,i6 d.n,i6 d.frames,y] 241,.own (Rp.int .i64) k 3 h.rules,.blk t [l,m,k] 222,f1 gV l h.told,f1 Rp.bool m h.possible,.tr (Rt.row (Rt.of gV) 148 [(E.toNat,[i6 f.N,.bool f.Known])]) [u] J z,.tr (Rt.of gV) [i6 f.N,.bool f.Known] [] f,.blk C [i6 f.N,.bool f.Known] 148]:=H
     obtain ⟨ae,H⟩:=H.unfocus0 5 6 rfl rfl (by decide) rfl rfl B
     have H:Hd _ _ _ _ [.blk o [i6 d.track,i6 d.n,i6 d.frames,y] 241,.own (Rp.int .i64) k 3 h.rules,.blk t [l,m,k] 222,f1 gV l h.told,f1 Rp.bool m h.possible,.blk C [i6 f.N,.bool f.Known] 148,.tr (Rt.row (Rt.of gV) 148 []) [u] ae z]:=H
     obtain rfl:=gI c
     exact (yB (zB (meet ⟨ae,(zL rfl (zL rfl zO)),H.pick [0,6,1,2,3,4,5] (by decide)⟩)))
    rintro bu ρ dp H
    have c:=bo
    obtain ⟨af,ag⟩:=R
    have bv:=H
    have H:=H.rebase
    have dq:=H
    refine wB H [0,1,2,3,4,5,6,7,8,9,10,11,12] (kz [0,0,0,0,1,0,0,0,1,0,0,0,0]) mixed ?_
    refine XM (i6 G) ?_
    obtain ⟨bw,bx,c⟩:=zG c
    refine XP (fun _ _=>xQ (a:=G) (b:=1) rfl rfl bx)<| XM (i6 af)<| XP (fun _ _=>fa148_0 rfl)<| XR fU H 6 0 rfl rfl ?_
    obtain ⟨bz,b0,c⟩:=zG c
    refine XP (fun _ _=>Do_min (j:=af) (q:=f.N) rfl rfl b0)<| XM (i6 ag)<| XP (fun _ _=>fa148_0 rfl)<| XR fU H 6 0 rfl rfl ?_
    obtain ⟨b1,b2,c⟩:=zG c
    refine XP (fun _ _=>Do_max (j:=ag) (q:=f.N) rfl rfl b2)<| XP (fun _ _=>xO (v:=i6 bw) rfl)<| XP (fun _ _=>xO (v:=i6 bz) rfl)<| XP (fun _ _=>xO (v:=i6 b1) rfl)<| MxM.xI fun dr hS=>?_
    have H:=H.sees hS
    have H:=bv.rejoin H
    obtain rfl:=gI c
    exact (yK (zB (meet ⟨bu,(zL rfl (zL rfl (zL rfl zO))),H.pick [0,1,2,3,4,5] (by decide)⟩)))
   rintro b3 ρ ds H
   have c:=bg
   obtain ⟨b4,b5,b6⟩:=I
   refine zA ?_
   obtain ⟨ah,b7,c⟩:=zG c
   refine zH (xQ (a:=E) (b:=1) rfl rfl b7)<| zI (i6 ah) ?_
   exact (zF (zB (meet ⟨(bb,b4,b5,b6,ah,b3),(zL rfl (zL rfl (zL rfl (zL rfl zO)))),⟨H.pick [0,1,2,3,4,5] (by decide),c⟩,Nat.lt_succ_self _⟩)))
  have c:=zU M c
  obtain rfl:=gI c
  exact (xK (yH (yH (yU (zB (meet ⟨ba,(zL rfl (zL rfl (zL rfl zO))),H.pick [0,1,2,3,4,5] (by decide)⟩))))))
 rintro U ρ dt H
 have c:=a3
 obtain ⟨ai,aj,ak⟩:=F
 refine zC fun du b8=>zA<| zI (gU o)<| zI u<| zI u ?_
 obtain ⟨b9,ca,c⟩:=zG c
 obtain ⟨dv,dw,cb⟩:=kN ((H.item (i:=1) rfl))
 refine zH (yJ (xN u55 cb) (congrArg (Value.int .i64) ca))<| zI (gU o)<| zH (zN rfl)<| zH (fa241_2 rfl)<| Ld fU H 0 2 rfl rfl ?_
 obtain ⟨cc,cd,c⟩:=zG c
 refine zH (Do_sub (a:=b9) (b:=d.frames) rfl rfl cd) ?_
 obtain ⟨ce,cf,c⟩:=zG c
 refine zH (xQ (a:=cc) (b:=1) rfl rfl cf) ?_
 obtain ⟨dx,cg,c⟩:=zG c
 refine zH (Do_max (j:=0) (q:=ce) rfl rfl cg) ?_
 obtain ⟨dy,ch,c⟩:=zD c
 refine RL_exP rfl rfl (Lx_rpart_l H 1 rfl u55 sz148 rfl rfl ch) ?_
 rintro K H
 refine zH (zN rfl)<| zH (fa241_3 rfl)<| yV rfl (xE H 0 rfl sz55 rfl (v:=K) rfl (bF (H.item (i:=1) rfl)) rfl) ?_
 rintro dz H
 refine zF (zB (b8 _ _ ?_))
 refine zC fun d0 ci=>?_
 refine yF ?_
 refine zC fun d1 cj=>zA<| zI (i6 ak)<| zI (i6 aj) ?_
 obtain ⟨ck,cl,c⟩:=zG c
 refine zH (Do_sub (a:=ak) (b:=aj) rfl rfl cl)<| zI (gU o)<| zH (zN rfl)<| zH (fa241_1 rfl)<| Ld fU H 0 1 rfl rfl ?_
 obtain ⟨al,cm,c⟩:=zG c
 refine zH (zQ (kH (a:=ck) (b:=d.n) rfl rfl) cm)<| zK (.bool al)<| zF (zB (cj _ _ ?_))
 refine yC (b:=al) rfl (fun V=>?_) (fun V=>?_)
 ·have c:=zT V c
  refine zC fun d2 cn=>zA<| zK (i6 1)<| zF (zB (cn _ _ ?_))
  obtain rfl:=gI c
  refine (zY (yG (zZ (fF (v1:=i6 1) rfl rfl ?_))))
  exact ⟨K,U,rfl,H.pick [1,0,2,3] (by decide)⟩
 have c:=zU V c
 refine zC fun d3 co=>zA<| zI (i6 ai)<| zI (gU o)<| zH (zN rfl)<| zH (fa241_2 rfl)<| Ld fU H 0 2 rfl rfl ?_
 obtain ⟨am,cp,c⟩:=zG c
 refine zH (zQ (yT (a:=ai) (b:=d.frames) rfl rfl) cp)<| zK (.bool am)<| zF (zB (co _ _ ?_))
 refine yC (b:=am) rfl (fun X=>?_) (fun X=>?_)
 ·have c:=zT X c
  refine zC fun d4 cq=>zA<| zK (i6 2)<| zF (zB (cq _ _ ?_))
  obtain rfl:=gI c
  refine (zY (yG (zZ (fF (v1:=i6 2) rfl rfl ?_))))
  exact ⟨K,U,rfl,H.pick [1,0,2,3] (by decide)⟩
 have c:=zU X c
 refine (yB (yK (zB (ci _ _ ?_))))
 refine zC fun d5 cr=>zA<| zK (i6 0)<| zF (zB (cr _ _ ?_))
 obtain rfl:=gI c
 refine (zY (fF (v1:=i6 0) rfl rfl ?_))
 exact ⟨K,U,rfl,H.pick [1,0,2,3] (by decide)⟩
theorem Fa4w (l:bT)(d:gJ)(k:Nat)(h:Value)(j:Value)(f:Value)(r:Int)(c:Fa4 l d=some r)(O S:List Nat)(w:World)(H:Hd O w w S [.own (Rp.int .i64) f 3 d.rules,.blk k [h,j,f] 222,f1 gV h d.told,f1 Rp.bool j d.possible]):
  Cl 335 [.agg [i6 l.phase].toArray,gU k] w fun e A=>e= .returned (i6 r)∧Hd O w A S [.own (Rp.int .i64) f 3 d.rules,.blk k [h,j,f] 222]:=by
 unfold Fa4 at c
 refine zS 34 Tryz.func335 rfl rfl rfl ?_
 refine zC fun K9 J=>zA<| yP rfl rfl (xW (cs:=[i6 l.phase]) rfl H) ?_
 rintro _ a9 ⟨o,rfl,H⟩
 refine zK (i6 0)<| zF (zB (J _ _ ?_))
 refine zC fun ba K=>zA<| zK (i6 0)<| zF (zB (K _ _ ?_))
 obtain ⟨m,c,L⟩:=zD c
 refine yL [5,7,8,9,10,11,12,13,14,15,16,17,18,19,20] (fun (g:Unit)=>[(5,i6 m)]) (fun g wl=>Hd O w wl S [.own (Rp.int .i64) f 3 d.rules,.blk k [h,j,f] 222,f1 gV h d.told,f1 Rp.bool j d.possible,.blk o [i6 l.phase] 283]) ?_ ?_
 ·skip
  refine zC fun bb M=>zA<| zI (gU k)<| zH (zN rfl)<| zH (fa222_1 rfl)<| Ld one144 H 1 1 rfl rfl ?_
  obtain ⟨N,P,c⟩:=zG c
  obtain ⟨bc,bd,Q⟩:=SlF.len ((H.item (i:=3) rfl))
  refine zH (yJ (xN u144 Q) (congrArg (Value.int .i64) P))<| zI (i6 0)<| zF (zB (M _ _ ?_))
  refine yF ?_
  unfold Fc4 at c
  obtain ⟨R,B,T,c⟩:=yR c
  refine xG [5,7,13,14,15,16,17,18,19,20] (fun (g:Nat×Int×Int)=>[(5,i6 g.2.1),(13,i6 g.2.2)]) (fun g wl=>Hd O w wl S [.own (Rp.int .i64) f 3 d.rules,.blk k [h,j,f] 222,f1 gV h d.told,f1 Rp.bool j d.possible,.blk o [i6 l.phase] 283]∧eF R g.1 (g.2.1,g.2.2)=some m) (fun g=>g.1) (B,0,0) (zL rfl (zL rfl zO)) ⟨H.pick [0,1,2,3,4] (by decide),c⟩ ?_
  clear H c
  rintro ⟨B,C,q⟩ ρ be ⟨H,c⟩
  obtain ⟨U,rfl,c⟩:=yX c
  have c:=yY T c
  refine zC fun bf V=>zA ?_
  obtain ⟨X,Y,c⟩:=zG c
  refine zH (zQ (xR (a:=q) (b:=N) rfl rfl) Y)<| zF (zB (V _ _ ?_))
  refine zC fun bg Z=>?_
  refine yC (b:=X) rfl (fun s=>?_) (fun s=>?_)
  ·have c:=zT s c
   refine yB (zB (Z _ _ ?_))
   obtain ⟨D,c,aa⟩:=zD c
   refine yL [5,7,15,16,17,18,19] (fun (g:Unit)=>[(5,i6 D)]) (fun g wl=>Hd O w wl S [.own (Rp.int .i64) f 3 d.rules,.blk k [h,j,f] 222,f1 gV h d.told,f1 Rp.bool j d.possible,.blk o [i6 l.phase] 283]) ?_ ?_
   ·skip
    refine yF ?_
    refine zC fun bh ab=>zA ?_
    obtain ⟨n,t,c⟩:=zD c
    obtain ⟨ac,ad,bi,ae,af,ag,ah,ai,aj⟩:=dQ (H.item (i:=3) rfl) t
    obtain rfl:ae= [.bool n]:=ag
    have H:=H.fz (.at ac (ad+q.toNat * 1) _) ⟨ah,ai,aj⟩
    refine zH (xJ u144 sz4 af rfl (yE t).1 (yE t).2.1 rfl rfl)<| zH (xA one4 rfl (Cells.get (H.item (i:=5) rfl).2.2 (i:=0) rfl))<| zK (.bool n)<| zF (zB (ab _ _ ?_))
    refine zC fun bj ak=>zA<| zI (.bool n)<| zF (zB (ak _ _ ?_))
    refine yC (b:=n) rfl (fun u=>?_) (fun u=>?_)
    ·have c:=zT u c
     refine zA ?_
     refine zI (i6 C) ?_
     obtain ⟨al,am,c⟩:=zG c
     refine zH (xQ (a:=C) (b:=1) rfl rfl am)<| zK (i6 al) ?_
     obtain rfl:=gI c
     exact (zF (yK (zB (meet ⟨(),(zL rfl zO),H.pick [0,1,2,3,4] (by decide)⟩))))
    have c:=zU u c
    obtain rfl:=gI c
    exact (yB (yK (zB (meet ⟨(),(zL rfl zO),H.pick [0,1,2,3,4] (by decide)⟩))))
   rintro _ ρ bk H
   have c:=aa
   refine zA ?_
   obtain ⟨E,an,c⟩:=zG c
   refine zH (xQ (a:=q) (b:=1) rfl rfl an)<| zI (i6 E) ?_
   exact (zF (zB (meet ⟨(U,D,E),(zL rfl (zL rfl zO)),⟨H.pick [0,1,2,3,4] (by decide),c⟩,Nat.lt_succ_self _⟩)))
  have c:=zU s c
  obtain rfl:=gI c
  exact (xK (yH (yH (yU (zB (meet ⟨(),(zL rfl zO),H.pick [0,1,2,3,4] (by decide)⟩))))))
 rintro _ ρ bl H
 have c:=L
 refine zC fun bm ao=>?_
 refine yF ?_
 refine zC fun bn ap=>?_
 have aq:=H
 have H:=H.rebase
 have bo:=H
 refine wB H [0,1,2,3,4,5,6,7,8,9] (kz [0,0,0,1,0,1,0,1,0,0]) mixed ?_
 refine XM (gU k)<| XP (fun _ _=>zN rfl)<| XP (fun _ _=>fa222_1 rfl)<| XR one144 H 1 1 rfl rfl<| XP (fun _ _=>fa283_0 rfl)<| XR fU H 4 0 rfl rfl ?_
 obtain ⟨F,x,c⟩:=zD c
 obtain ⟨ar,au,bp,av,aw,ax,ay,az,a0⟩:=dQ (H.item (i:=3) rfl) x
 obtain rfl:av= [.bool F]:=ax
 have H:=H.fz (.at ar (au+l.phase.toNat * 1) _) ⟨ay,az,a0⟩
 refine XP (fun _ _=>xJ u144 sz4 aw rfl (yE x).1 (yE x).2.1 rfl rfl)<| MxM.XL_read oS rfl rfl rfl (fun A a1=>xA one4 rfl (Cells.get ((H.sees a1).item (i:=5) rfl).2.2 (i:=0) rfl)) ?_
 obtain ⟨G,a2,c⟩:=zG c
 refine XP (fun _ _=>zQ (wL (p:=F) rfl) a2)<| XP (fun _ _=>xO (v:= .bool G) rfl)<| MxM.xI fun bq hS=>?_
 have H:=H.sees hS
 have H:=aq.rejoin H
 refine (zB (ap _ _ ?_))
 refine yC (b:=G) rfl (fun y=>?_) (fun y=>?_)
 ·have c:=zT y c
  refine zC fun br a3=>zA<| zK (i6 1)<| zF (zB (a3 _ _ ?_))
  obtain rfl:=gI c
  refine (zY (yG (zZ (fF (v1:=i6 1) rfl rfl ?_))))
  exact ⟨rfl,H.pick [0,1] (by decide)⟩
 have c:=zU y c
 refine zC fun bt a4=>zA<| zI (i6 m) ?_
 obtain ⟨I,a5,c⟩:=zG c
 refine zH (zQ (yT (a:=m) (b:=1) rfl rfl) a5)<| zK (.bool I)<| zF (zB (a4 _ _ ?_))
 refine yC (b:=I) rfl (fun z=>?_) (fun z=>?_)
 ·have c:=zT z c
  refine zC fun bu a6=>zA<| zK (i6 2)<| zF (zB (a6 _ _ ?_))
  obtain rfl:=gI c
  refine (zY (yG (zZ (fF (v1:=i6 2) rfl rfl ?_))))
  exact ⟨rfl,H.pick [0,1] (by decide)⟩
 have c:=zU z c
 refine (yB (yK (zB (ao _ _ ?_))))
 refine zC fun bv a7=>zA<| zK (i6 0)<| zF (zB (a7 _ _ ?_))
 obtain rfl:=gI c
 refine (zY (fF (v1:=i6 0) rfl rfl ?_))
 exact ⟨rfl,H.pick [0,1] (by decide)⟩
theorem Ffqw (f:kX)(a:gJ)(b:Nat)(h:Value)(j:Value)(c:Value)(r:Int)(d:Ffq f a=some r)(O S:List Nat)(w:World)(H:Hd O w w S [.own (Rp.int .i64) c 3 a.rules,.blk b [h,j,c] 222,f1 gV h a.told,f1 Rp.bool j a.possible]):
  Cl 337 [.agg [i6 f.rule].toArray,gU b] w fun e m=>e= .returned (i6 r)∧Hd O w m S [.own (Rp.int .i64) c 3 a.rules,.blk b [h,j,c] 222]:=by
 unfold Ffq at d
 refine zS 13 Tryz.func337 rfl rfl rfl ?_
 refine zC fun y n=>zA<| yP rfl rfl (xW (cs:=[i6 f.rule]) rfl H) ?_
 rintro _ z ⟨A,rfl,H⟩
 refine zK (i6 0)<| zF (zB (n _ _ ?_))
 refine zC fun B o=>?_
 have p:=H
 have H:=H.rebase
 have C:=H
 refine wB H [0,1,2,3,4,5,6,7,8] (kz [0,0,0,1,0,1,0,1,0]) mixed ?_
 refine XM (gU b)<| XP (fun _ _=>zN rfl)<| XP (fun _ _=>fa222_2 rfl)<| XR one38 H 1 2 rfl rfl<| XP (fun _ _=>fa285_0 rfl)<| XR fU H 4 0 rfl rfl ?_
 obtain ⟨k,l,d⟩:=zD d
 obtain ⟨D,E,q,s,t,u⟩:=kT (H.item (i:=0) rfl) l
 obtain rfl:q= [i6 k]:=t
 refine XP (fun _ _=>xJ u38 sz3 s rfl (yE l).1 (yE l).2.1 rfl rfl)<| MxM.XL_read oS rfl rfl rfl (fun m x=>xA fU rfl (Cells.get (u.sees x) (i:=0) rfl))<| XP (fun _ _=>xO (v:=i6 k) rfl)<| MxM.xI fun F hS=>?_
 have H:=H.sees hS
 have H:=p.rejoin H
 refine (zB (o _ _ ?_))
 obtain rfl:=gI d
 refine (zY (fF (v1:=i6 k) rfl rfl ?_))
 exact ⟨rfl,H.pick [0,1] (by decide)⟩
theorem Fbaw (d:Int)(r:Int)(c:Fba d=some r)(O S:List Nat)(w:World)(H:Hd O w w S []):
  Cl 317 [i6 d] w fun e k=>e= .returned (i6 r)∧Hd O w k S []:=by
 unfold Fba at c
 refine zS 8 Tryz.func317 rfl rfl rfl ?_
 refine zC fun x l=>zA<| zK (i6 0)<| zF (zB (l _ _ ?_))
 refine zC fun y m=>?_
 refine zC fun z n=>zA<| zI (i6 d)<| zF (zB (n _ _ ?_))
 refine yF ?_
 refine zC fun A o=>zA ?_
 obtain ⟨i,p,c⟩:=zG c
 refine zH (zQ (yT (a:=d) (b:=2) rfl rfl) p)<| zK (.bool i)<| zF (zB (o _ _ ?_))
 refine yC (b:=i) rfl (fun f=>?_) (fun f=>?_)
 ·have c:=zT f c
  refine zC fun B q=>zA<| zK (i6 1)<| zF (zB (q _ _ ?_))
  obtain rfl:=gI c
  refine (zY (yG (zZ (fF (v1:=i6 1) rfl rfl ?_))))
  exact ⟨rfl,H.pick [] (by decide)⟩
 have c:=zU f c
 refine zC fun C s=>zA ?_
 obtain ⟨j,t,c⟩:=zG c
 refine zH (zQ (yT (a:=d) (b:=1) rfl rfl) t)<| zK (.bool j)<| zF (zB (s _ _ ?_))
 refine yC (b:=j) rfl (fun h=>?_) (fun h=>?_)
 ·have c:=zT h c
  refine zC fun D u=>zA<| zK (i6 2)<| zF (zB (u _ _ ?_))
  obtain rfl:=gI c
  refine (zY (yG (zZ (fF (v1:=i6 2) rfl rfl ?_))))
  exact ⟨rfl,H.pick [] (by decide)⟩
 have c:=zU h c
 refine (yB (yK (zB (m _ _ ?_))))
 refine zC fun E v=>zA<| zK (i6 0)<| zF (zB (v _ _ ?_))
 obtain rfl:=gI c
 refine (zY (fF (v1:=i6 0) rfl rfl ?_))
 exact ⟨rfl,H.pick [] (by decide)⟩
theorem Fa7w (rfI:Nd→gJ→Option (Int×Nd))(rhI:Fas rfI)(l:bV)(a:gJ)(k:Nat)(c:Value)(m:List Nat)(d:Nat)(f:Value)(h:Value)(b:Value)(r:Int×bV)(j:Fa7 rfI l a=some r)(O S:List Nat)(w:World)(H:Hd O w w S [.tr gY [c] m l.kid,.blk k [c] 248,.own (Rp.int .i64) b 3 a.rules,.blk d [f,h,b] 222,f1 gV f a.told,f1 Rp.bool h a.possible]):
  Cl 316 [gU k,gU d] w fun e t=> ∃n u,e= .returned (i6 r.1)∧Hd O w t S [.tr gY [n] u r.2.kid,.blk k [n] 248,.own (Rp.int .i64) b 3 a.rules,.blk d [f,h,b] 222]:=by
 unfold Fa7 at j
 refine zS 12 Tryz.func316 rfl rfl rfl ?_
 refine zC fun G v=>zA<| zK (i6 0)<| zF (zB (v _ _ ?_))
 refine zC fun I x=>zA<| zI (gU k)<| zH (zN rfl)<| zH (fa248_0 rfl)<| Ld bP H 1 0 rfl rfl<| zI (gU d) ?_
 obtain ⟨y,z,o⟩:=Fao (H.item (i:=0) rfl)
 obtain ⟨p,A,j⟩:=zD j
 refine yA rfl rfl (aA o rfl rfl) (rhI l.kid (gJ.mk a.told a.possible a.rules) c m d f h b y z o _ A _ _ _ (H.enter [0,2,3] [4,5] (by decide) rfl)) ?_
 rintro _ B ⟨q,rfl,C⟩
 have H:Hd _ _ B _ [.blk k [c] 248,f1 gV f a.told,f1 Rp.bool h a.possible,.tr gY [c] q p.2,.own (Rp.int .i64) b 3 a.rules,.blk d [f,h,b] 222]:=H.back [0,2,3] [4,5] rfl C
 refine ⟨_,rfl,?_⟩
 have D:=H
 obtain ⟨s,E,j⟩:=zD j
 refine yA rfl rfl (zV en317 rfl) (Fbaw p.1 _ E _ _ _ (H.enter [] [] (by decide) rfl)) ?_
 rintro _ J ⟨rfl,F⟩
 have H:=D.step (F.only:Only [] _ _)
 refine ⟨_,rfl,?_⟩
 refine zK (i6 s)<| zF (zB (x _ _ ?_))
 obtain rfl:=gI j
 refine (zY (fF (v1:=i6 s) rfl rfl ?_))
 exact ⟨c,q,rfl,H.pick [3,0,4,5] (by decide)⟩
set_option maxRecDepth 100000 in
theorem Fbow (rfI:Nd→gJ→Option (Int×Nd))(rhI:Fas rfI)(l:dA)(d:gJ)(m:Nat)(k:Value)(A:List Nat)(n:Nat)(h:Value)(j:Value)(f:Value)(r:Int×dA)(c:Fbo rfI l d=some r)(O S:List Nat)(w:World)(H:Hd O w w S [.tr fG [k] A l.kids,.blk m [k,.bool l.any] 251,.own (Rp.int .i64) f 3 d.rules,.blk n [h,j,f] 222,f1 gV h d.told,f1 Rp.bool j d.possible]):
  Cl 319 [gU m,gU n] w fun e w'=> ∃L ac,e= .returned (i6 r.1)∧Hd O w w' S [.tr fG [L] ac r.2.kids,.blk m [L,.bool r.2.any] 251,.own (Rp.int .i64) f 3 d.rules,.blk n [h,j,f] 222]:=by
 unfold Fbo at c
 refine zS 38 Tryz.func319 rfl rfl rfl ?_
 refine zC fun bq ad=>zA<| zK (i6 0)<| zF (zB (ad _ _ ?_))
 refine zC fun br ae=>zA<| zK (i6 1)<| zK (i6 2)<| zF (zB (ae _ _ ?_))
 obtain ⟨B,c,af⟩:=zD c
 refine yL [5,6,10,11,12,13] (fun (g:Unit)=>[(5,i6 B.1),(6,i6 B.2)]) (fun g wl=>Hd O w wl S [.tr fG [k] A l.kids,.blk m [k,.bool l.any] 251,.own (Rp.int .i64) f 3 d.rules,.blk n [h,j,f] 222,f1 gV h d.told,f1 Rp.bool j d.possible]) ?_ ?_
 ·skip
  refine zC fun bt ag=>zA<| zI (gU m)<| zH (zN rfl)<| zH (fa251_1 rfl)<| Ld one4 H 1 1 rfl rfl<| zF (zB (ag _ _ ?_))
  refine yC (b:=l.any) rfl (fun C=>?_) (fun C=>?_)
  ·have c:=zT C c
   refine zA ?_
   refine zK (i6 2)<| zK (i6 1) ?_
   obtain rfl:=gI c
   exact (zF (zB (meet ⟨(),(zL rfl (zL rfl zO)),H.pick [0,1,2,3,4,5] (by decide)⟩)))
  have c:=zU C c
  obtain rfl:=gI c
  exact (yB (zB (meet ⟨(),(zL rfl (zL rfl zO)),H.pick [0,1,2,3,4,5] (by decide)⟩)))
 rintro _ ρ bu H
 have c:=af
 obtain ⟨y,u⟩:=B
 refine zC fun bv ah=>zA<| zI (i6 u)<| zK (i6 u)<| zF (zB (ah _ _ ?_))
 obtain ⟨z,c,ai⟩:=zD c
 refine yL [7,9,15,16,17,18,19,20,21,22,23,24,25,26,27,28,29,30,31,32,33,34,35,36] (fun (g:(List Nat))=>[(7,i6 z.1)]) (fun g wl=>Hd O w wl S [.tr fG [k] g z.2,.blk m [k,.bool l.any] 251,.own (Rp.int .i64) f 3 d.rules,.blk n [h,j,f] 222,f1 gV h d.told,f1 Rp.bool j d.possible]) ?_ ?_
 ·skip
  refine zC fun bw aj=>zA<| zI (gU m)<| zH (zN rfl)<| zH (fa251_0 rfl)<| Ld one143 H 1 0 rfl rfl ?_
  obtain ⟨ak,al,c⟩:=zG c
  obtain ⟨bx,bz,am⟩:=kN ((H.item (i:=0) rfl))
  refine zH (yJ (xN u143 am) (congrArg (Value.int .i64) al))<| zI (i6 0)<| zF (zB (aj _ _ ?_))
  refine yF ?_
  unfold Fbz at c
  obtain ⟨an,M,ao,c⟩:=yR c
  refine xG [7,9,20,21,22,23,24,25,26,27,28,29,30,31,32,33,34,35,36] (fun (g:Nat×Int×Int×(List Nd)×(List Nat))=>[(7,i6 g.2.1),(20,i6 g.2.2.1)]) (fun g wl=>Hd O w wl S [.tr fG [k] g.2.2.2.2 g.2.2.2.1,.blk m [k,.bool l.any] 251,.own (Rp.int .i64) f 3 d.rules,.blk n [h,j,f] 222,f1 gV h d.told,f1 Rp.bool j d.possible]∧eF an g.1 (g.2.1,g.2.2.1,g.2.2.2.1)=some z) (fun g=>g.1) (M,u,0,l.kids,A) (zL rfl (zL rfl zO)) ⟨H.pick [0,1,2,3,4,5] (by decide),c⟩ ?_
  clear H c
  rintro ⟨M,N,p,s,ap⟩ ρ b0 ⟨H,c⟩
  obtain ⟨aq,rfl,c⟩:=yX c
  have c:=yY ao c
  refine zC fun b1 ar=>zA ?_
  obtain ⟨au,av,c⟩:=zG c
  refine zH (zQ (xR (a:=p) (b:=ak) rfl rfl) av)<| zF (zB (ar _ _ ?_))
  refine zC fun b2 aw=>?_
  refine yC (b:=au) rfl (fun D=>?_) (fun D=>?_)
  ·have c:=zT D c
   refine yB (zB (aw _ _ ?_))
   obtain ⟨E,c,ax⟩:=zD c
   refine yL [7,9,22,23,24,25,26,27,28,29,30,31,32,33,34,35] (fun (g:(List Nat))=>[(7,i6 E.1)]) (fun g wl=>Hd O w wl S [.tr fG [k] g E.2,.blk m [k,.bool l.any] 251,.own (Rp.int .i64) f 3 d.rules,.blk n [h,j,f] 222,f1 gV h d.told,f1 Rp.bool j d.possible]) ?_ ?_
   ·skip
    refine yF ?_
    refine zC fun b3 ay=>zA ?_
    obtain ⟨P,v,c⟩:=zD c
    obtain ⟨b4,b5,b6,F⟩:=kG (H.item (i:=0) rfl) v
    refine zH (xJ u143 sz170 F rfl (yE v).1 (yE v).2.1 rfl rfl) ?_
    obtain ⟨b7,t,Q,H⟩:=H.focusV 0 rfl F v rfl
    obtain ⟨o,rfl⟩:=tr_cell rfl (H.item (i:=6) rfl)
    have H:Hd _ _ _ _ [.blk m [k,.bool l.any] 251,.own (Rp.int .i64) f 3 d.rules,.blk n [h,j,f] 222,f1 gV h d.told,f1 Rp.bool j d.possible,.tr (Rt.row gY 170 [(p.toNat,[o])]) [k] t s,.tr gY [o] Q P]:=H
    refine zH (xA bP rfl (Cells.get (H.holeW 5 rfl F v rfl dK) (i:=0) rfl))<| zK o<| zF (zB (ay _ _ ?_))
    refine zC fun b8 az=>zA<| zI o<| zI (gU n) ?_
    obtain ⟨a0,a1,R⟩:=Fao (H.item (i:=6) rfl)
    obtain ⟨q,a2,c⟩:=zD c
    refine yA rfl rfl (aA R rfl rfl) (rhI P (gJ.mk d.told d.possible d.rules) o Q n h j f a0 a1 R _ a2 _ _ _ (H.enter [6,1,2] [3,4] (by decide) rfl)) ?_
    rintro _ a3 ⟨x,rfl,a4⟩
    have H:Hd _ _ a3 _ [.blk m [k,.bool l.any] 251,f1 gV h d.told,f1 Rp.bool j d.possible,.tr (Rt.row gY 170 [(p.toNat,[o])]) [k] t s,.tr gY [o] x q.2,.own (Rp.int .i64) f 3 d.rules,.blk n [h,j,f] 222]:=H.back [6,1,2] [3,4] rfl a4
    refine ⟨_,rfl,?_⟩
    refine zF (zB (az _ _ ?_))
    refine yF ?_
    refine zC fun b9 a5=>zA<| zI (i6 y) ?_
    obtain ⟨T,a6,c⟩:=zG c
    refine zH (zQ (yT (a:=q.1) (b:=y) rfl rfl) a6)<| zK (.bool T)<| zF (zB (a5 _ _ ?_))
    refine yC (b:=T) rfl (fun G=>?_) (fun G=>?_)
    ·have c:=zT G c
     refine zA ?_
     refine zI (i6 y)<| zK (i6 y) ?_
     have H:Hd _ _ _ _ [.blk m [k,.bool l.any] 251,f1 gV h d.told,f1 Rp.bool j d.possible,.tr (Rt.row gY 170 [(p.toNat,[o])]) [k] t s,.tr gY [o] x q.2,.own (Rp.int .i64) f 3 d.rules,.blk n [h,j,f] 222]:=H
     obtain ⟨a7,a8,c⟩:=zD c
     obtain ⟨U,H⟩:=H.unfocus 3 4 rfl rfl (by decide) rfl rfl a8
     have H:Hd _ _ _ _ [.blk m [k,.bool l.any] 251,f1 gV h d.told,f1 Rp.bool j d.possible,.own (Rp.int .i64) f 3 d.rules,.blk n [h,j,f] 222,.tr fG [k] U a7]:=H
     obtain rfl:=gI c
     exact (zF (yK (yK (zB (meet ⟨U,(zL rfl zO),H.pick [5,0,3,4,1,2] (by decide)⟩)))))
    have c:=zU G c
    refine zC fun ca a9=>zA ?_
    obtain ⟨V,ba,c⟩:=zG c
    refine zH (zQ (yT (a:=q.1) (b:=0) rfl rfl) ba)<| zK (.bool V)<| zF (zB (a9 _ _ ?_))
    refine yC (b:=V) rfl (fun I=>?_) (fun I=>?_)
    ·have c:=zT I c
     refine zC fun cb bb=>zA<| zI (i6 N)<| zI (i6 u) ?_
     obtain ⟨bc,bd,c⟩:=zG c
     refine zH (zQ (yT (a:=N) (b:=u) rfl rfl) bd)<| zF (zB (bb _ _ ?_))
     refine yC (b:=bc) rfl (fun J=>?_) (fun J=>?_)
     ·have c:=zT J c
      refine zA ?_
      refine zK (i6 0) ?_
      have H:Hd _ _ _ _ [.blk m [k,.bool l.any] 251,f1 gV h d.told,f1 Rp.bool j d.possible,.tr (Rt.row gY 170 [(p.toNat,[o])]) [k] t s,.tr gY [o] x q.2,.own (Rp.int .i64) f 3 d.rules,.blk n [h,j,f] 222]:=H
      obtain ⟨be,bf,c⟩:=zD c
      obtain ⟨X,H⟩:=H.unfocus 3 4 rfl rfl (by decide) rfl rfl bf
      have H:Hd _ _ _ _ [.blk m [k,.bool l.any] 251,f1 gV h d.told,f1 Rp.bool j d.possible,.own (Rp.int .i64) f 3 d.rules,.blk n [h,j,f] 222,.tr fG [k] X be]:=H
      obtain rfl:=gI c
      exact (zF (yK (yK (zB (meet ⟨X,(zL rfl zO),H.pick [5,0,3,4,1,2] (by decide)⟩)))))
     have c:=zU J c
     have H:Hd _ _ _ _ [.blk m [k,.bool l.any] 251,f1 gV h d.told,f1 Rp.bool j d.possible,.tr (Rt.row gY 170 [(p.toNat,[o])]) [k] t s,.tr gY [o] x q.2,.own (Rp.int .i64) f 3 d.rules,.blk n [h,j,f] 222]:=H
     obtain ⟨bg,bh,c⟩:=zD c
     obtain ⟨Y,H⟩:=H.unfocus 3 4 rfl rfl (by decide) rfl rfl bh
     have H:Hd _ _ _ _ [.blk m [k,.bool l.any] 251,f1 gV h d.told,f1 Rp.bool j d.possible,.own (Rp.int .i64) f 3 d.rules,.blk n [h,j,f] 222,.tr fG [k] Y bg]:=H
     obtain rfl:=gI c
     exact (yB (yK (yK (zB (meet ⟨Y,(zL rfl zO),H.pick [5,0,3,4,1,2] (by decide)⟩)))))
    have c:=zU I c
    have H:Hd _ _ _ _ [.blk m [k,.bool l.any] 251,f1 gV h d.told,f1 Rp.bool j d.possible,.tr (Rt.row gY 170 [(p.toNat,[o])]) [k] t s,.tr gY [o] x q.2,.own (Rp.int .i64) f 3 d.rules,.blk n [h,j,f] 222]:=H
    obtain ⟨bi,bj,c⟩:=zD c
    obtain ⟨Z,H⟩:=H.unfocus 3 4 rfl rfl (by decide) rfl rfl bj
    have H:Hd _ _ _ _ [.blk m [k,.bool l.any] 251,f1 gV h d.told,f1 Rp.bool j d.possible,.own (Rp.int .i64) f 3 d.rules,.blk n [h,j,f] 222,.tr fG [k] Z bi]:=H
    obtain rfl:=gI c
    exact (yB (yK (yK (zB (meet ⟨Z,(zL rfl zO),H.pick [5,0,3,4,1,2] (by decide)⟩)))))
   rintro bk ρ cc H
   have c:=ax
   obtain ⟨bl,bm⟩:=E
   refine zA ?_
   obtain ⟨aa,bn,c⟩:=zG c
   refine zH (xQ (a:=p) (b:=1) rfl rfl bn)<| zI (i6 aa) ?_
   exact (zF (zB (meet ⟨(aq,bl,aa,bm,bk),(zL rfl (zL rfl zO)),⟨H.pick [0,1,2,3,4,5] (by decide),c⟩,Nat.lt_succ_self _⟩)))
  have c:=zU D c
  obtain rfl:=gI c
  exact (xK (yH (yH (yU (zB (meet ⟨ap,(zL rfl zO),H.pick [0,1,2,3,4,5] (by decide)⟩))))))
 rintro bo ρ cd H
 have c:=ai
 obtain ⟨K,ce⟩:=z
 refine zC fun cf bp=>zA<| zI (i6 K)<| zK (i6 K)<| zF (zB (bp _ _ ?_))
 obtain rfl:=gI c
 refine (zY (fF (v1:=i6 K) rfl rfl ?_))
 exact ⟨k,bo,rfl,H.pick [0,1,2,3] (by decide)⟩
theorem Fbww (rfI:Nd→gJ→Option (Int×Nd))(rhI:Fas rfI)(d:eQ)(h:gJ)(k:Nat)(l:Value)(V:List Nat)(C:Value)(Y:List Nat)(u:Nat)(p:Value)(q:Value)(o:Value)(r:Int×eQ)(c:Fbw rfI d h=some r)(O S:List Nat)(w:World)(H:Hd O w w S [.tr gY [l] V d.kid,.tr (Rt.row (Rt.of (Rp.int .i64)) 3 []) [C] Y d.last,.blk k ([l,i6 d.n,i6 d.frames,C]++((Fl.arr 3 (Fl.int .i64)).f d.totals)) 245,.own (Rp.int .i64) o 3 h.rules,.blk u [p,q,o] 222,f1 gV p h.told,f1 Rp.bool q h.possible]):
  Cl 313 [gU k,gU u] w fun e y=> ∃Z ay aa az,e= .returned (i6 r.1)∧Hd O w y S [.tr gY [Z] ay r.2.kid,.tr (Rt.row (Rt.of (Rp.int .i64)) 3 []) [aa] az r.2.last,.blk k ([Z,i6 r.2.n,i6 r.2.frames,aa]++((Fl.arr 3 (Fl.int .i64)).f r.2.totals)) 245,.own (Rp.int .i64) o 3 h.rules,.blk u [p,q,o] 222]:=by
 unfold Fbw at c
 refine zS 96 Tryz.func313 rfl rfl rfl ?_
 refine zC fun cc a0=>zA<| zK (i6 0)<| zF (zB (a0 _ _ ?_))
 refine zC fun cd a1=>zA<| zI (gU k)<| zH (zN rfl)<| zH (fa245_0 rfl)<| Ld bP H 2 0 rfl rfl<| zI (gU u) ?_
 obtain ⟨a2,a3,ab⟩:=Fao (H.item (i:=0) rfl)
 obtain ⟨m,a4,c⟩:=zD c
 refine yA rfl rfl (aA ab rfl rfl) (rhI d.kid (gJ.mk h.told h.possible h.rules) l V u p q o a2 a3 ab _ a4 _ _ _ (H.enter [0,3,4] [5,6] (by decide) rfl)) ?_
 rintro _ a5 ⟨z,rfl,a6⟩
 have H:Hd _ _ a5 _ [.tr (Rt.row (Rt.of (Rp.int .i64)) 3 []) [C] Y d.last,.blk k ([l,i6 d.n,i6 d.frames,C]++((Fl.arr 3 (Fl.int .i64)).f d.totals)) 245,f1 gV p h.told,f1 Rp.bool q h.possible,.tr gY [l] z m.2,.own (Rp.int .i64) o 3 h.rules,.blk u [p,q,o] 222]:=H.back [0,3,4] [5,6] rfl a6
 refine ⟨_,rfl,?_⟩
 refine zK (i6 m.1)<| zF (zB (a1 _ _ ?_))
 refine zC fun ce a7=>zA<| zI (gU k)<| zH (zN rfl)<| zH (fa245_4 rfl)<| zH (Do_loadF (e:=(Fl.arr 3 (Fl.int .i64))) (a:=d.totals) agg243 rfl sz243 (Cells.suf (pre:=[l,i6 d.n,i6 d.frames,C]) (Hbc H 1 rfl) rfl))<| yP rfl rfl (xH zero243 H) ?_
 rintro _ cf ⟨E,rfl,H⟩
 refine yV rfl (Lx_storeW (e:=(Fl.arr 3 (Fl.int .i64))) (a:=(Arr.rep 3 0:Arr 3 Int)) (a':=d.totals) H 7 rfl sz243 rfl rfl) ?_
 rintro cg H
 refine zF (zB (a7 _ _ ?_))
 refine zC fun ch a8=>zA<| zI (i6 m.1) ?_
 obtain ⟨ac,ad,c⟩:=zD c
 refine zH (Do_idxA (X:=d.totals) u243 sz3 rfl rfl ad)<| zH (Do_load1 (v:=i6 ac) fU rfl (Cells.ix (e:=(Fl.int .i64)) (x:=d.totals) (Hbc H 7 rfl) ad)) ?_
 obtain ⟨ae,a9,c⟩:=zG c
 refine zH (xQ (a:=ac) (b:=1) rfl rfl a9) ?_
 obtain ⟨ci,J,c⟩:=zD c
 refine zH (Do_idxA (X:=d.totals) u243 sz3 rfl rfl J) ?_
 obtain ⟨A,ba,c⟩:=zG c
 refine yV rfl (Lx_storeA (e:=(Fl.int .i64)) (X:=d.totals) (a:=ae) (j:=m.1) H 7 rfl sz3 rfl (v:=i6 ae) rfl rfl (Arr.at_lt J).1 (Arr.at_lt J).2 ba) ?_
 rintro cj H
 refine zF (zB (a8 _ _ ?_))
 refine zC fun ck bb=>zA<| zI (gU k)<| zI (gU k)<| zH (zN rfl)<| zH (fa245_3 rfl)<| Ld one38 H 1 3 rfl rfl<| zI (i6 m.1) ?_
 obtain ⟨cl,bc,c⟩:=zG c
 subst bc
 refine yP rfl rfl (kM (r:=(Rp.int .i64)) (xl:=[m.1]) (cs:=[i6 m.1]) u38 el3 (by decide) (by decide) rfl (xP (vs:=[i6 m.1]) (by decide) rfl rfl ⟨rfl,trivial⟩ rfl) H ⟨[i6 m.1],[],rfl,rfl,rfl⟩) ?_
 rintro G cm H
 obtain ⟨I,bd,c⟩:=zD c
 refine yP rfl rfl (Lx_appF H 0 rfl u38 el3 rfl rfl (Sr.of_own (H.item (i:=8) rfl)) bd) ?_
 rintro t cn ⟨af,H⟩
 have H:Hd _ _ _ _ [.blk k ([l,i6 d.n,i6 d.frames,C]++((Fl.arr 3 (Fl.int .i64)).f d.totals)) 245,f1 gV p h.told,f1 Rp.bool q h.possible,.tr gY [l] z m.2,.own (Rp.int .i64) o 3 h.rules,.blk u [p,q,o] 222,.blk E ((Fl.arr 3 (Fl.int .i64)).f A) 243,.own (Rp.int .i64) G 3 ([m.1]:List Int),.tr (Rt.row (Rt.of (Rp.int .i64)) 3 []) [t] af I]:=H
 refine zH (zN rfl)<| zH (fa245_3 rfl)<| yV rfl (xE H 0 rfl sz38 rfl (v:=t) rfl (bF (H.item (i:=8) rfl)) rfl) ?_
 rintro co H
 refine zF (zB (bb _ _ ?_))
 refine zC fun cp be=>?_
 have bf:=H
 have H:=H.rebase
 have cq:=H
 refine wB H [0,1,2,3,4,5,6,7,8,9,10] (kz [0,0,0,0,0,1,0,0,0,0,3]) mixed ?_
 refine XM (gU k)<| XM (i6 m.1)<| XP (fun _ _=>zN rfl)<| XP (fun _ _=>fa245_4 rfl) ?_
 obtain ⟨ag,ah,c⟩:=zD c
 refine XP (fun _ _=>Do_idxA (X:=d.totals) u243 sz3 rfl rfl ah)<| MxM.XL_read oS rfl rfl rfl (fun y s=>Do_load1 (v:=i6 ag) fU rfl (Cells.ix (e:=(Fl.int .i64)) (x:=d.totals) (Cells.suf (pre:=[l,i6 d.n,i6 d.frames,t]) (Blk.cells ((H.sees s).item (i:=0) rfl)) rfl) ah)) ?_
 obtain ⟨ai,bg,c⟩:=zG c
 refine XP (fun _ _=>xQ (a:=ag) (b:=1) rfl rfl bg)<| XP (fun _ _=>zN rfl)<| XP (fun _ _=>fa245_4 rfl) ?_
 obtain ⟨cr,K,c⟩:=zD c
 refine XP (fun _ _=>Do_idxA (X:=d.totals) u243 sz3 rfl rfl K) ?_
 obtain ⟨F,bh,c⟩:=zG c
 refine MxM.XL_exU oS rfl rfl (fun y s=>Lx_storeP (e:=(Fl.int .i64)) (X:=d.totals) (a:=ai) (j:=m.1) (pre:=[l,i6 d.n,i6 d.frames,t]) (H.sees s) 0 rfl sz3 rfl rfl (v:=i6 ai) rfl rfl (Arr.at_lt K).1 (Arr.at_lt K).2 bh) ?_
 rintro y ct s H
 refine ⟨H.only,?_⟩
 refine MxM.xI fun cu hS=>?_
 have H:=H.sees hS
 have H:=bf.rejoin H
 refine (zB (be _ _ ?_))
 obtain ⟨L,c,bi⟩:=zD c
 refine yL [42,43,44,45,46,47,48,49,50,51,52,53,54,55,56,57,58,59,60,61,62,63,64,65,66,67,68,69,70,71,72,73,74] (fun (g:Value×(List Nat))=>[]) (fun g wl=>Hd O w wl S [.blk k ([l,i6 d.n,i6 d.frames,g.1]++((Fl.arr 3 (Fl.int .i64)).f L.2)) 245,.tr gY [l] z m.2,.tr (Rt.row (Rt.of (Rp.int .i64)) 3 []) [g.1] g.2 L.1,f1 gV p h.told,f1 Rp.bool q h.possible,.own (Rp.int .i64) o 3 h.rules,.blk u [p,q,o] 222,.blk E ((Fl.arr 3 (Fl.int .i64)).f A) 243]) ?_ ?_
 ·skip
  refine zC fun cv bj=>?_
  have bk:=H
  have H:=H.rebase
  have cw:=H
  refine wB H [0,1,2,3,4,5,6,7,8,9] (kz [0,0,0,1,0,0,0,0,1,0]) mixed ?_
  refine XM (gU k)<| XP (fun _ _=>zN rfl)<| XP (fun _ _=>fa245_3 rfl)<| XR one38 H 0 3 rfl rfl ?_
  obtain ⟨bl,bm,c⟩:=zG c
  obtain ⟨cx,cy,bn⟩:=kN ((H.item (i:=8) rfl))
  refine XP (fun _ _=>yJ (xN u38 bn) (congrArg (Value.int .i64) bm))<| XM (gU k)<| XP (fun _ _=>zN rfl)<| XP (fun _ _=>fa245_2 rfl)<| XR fU H 0 2 rfl rfl ?_
  obtain ⟨bo,bp,c⟩:=zG c
  refine XP (fun _ _=>zQ (yT (a:=bl) (b:=d.frames) rfl rfl) bp)<| MxM.xI fun cz hS=>?_
  have H:=H.sees hS
  have H:=bk.rejoin H
  refine (zB (bj _ _ ?_))
  refine yC (b:=bo) rfl (fun M=>?_) (fun M=>?_)
  ·have c:=zT M c
   refine zC fun c0 bq=>?_
   have br:=H
   have H:=H.rebase
   have c1:=H
   refine wB H [0,1,2,3,4,5,6,7,8,9,10,11,12,13,14,15] (kz [0,0,0,0,1,0,1,0,0,0,1,0,0,0,0,3]) mixed ?_
   refine XM (gU k)<| XM (gU k)<| XP (fun _ _=>zN rfl)<| XP (fun _ _=>fa245_3 rfl)<| XR one38 H 0 3 rfl rfl ?_
   obtain ⟨B,D,c⟩:=zD c
   obtain ⟨c2,c3,c4,N⟩:=kG (H.item (i:=8) rfl) D
   refine XP (fun _ _=>xJ u38 sz3 N rfl (yE D).1 (yE D).2.1 rfl rfl) ?_
   obtain ⟨bt,aj,c5,H⟩:=H.focusV 8 rfl N D rfl
   obtain ⟨bu,bv⟩:=trF (H.item (i:=9) rfl)
   subst bu
   obtain rfl:bt= [i6 B]:=bv
   have H:Hd _ _ _ _ [.blk k ([l,i6 d.n,i6 d.frames,t]++((Fl.arr 3 (Fl.int .i64)).f F)) 245,f1 gV p h.told,f1 Rp.bool q h.possible,.tr gY [l] z m.2,.own (Rp.int .i64) o 3 h.rules,.blk u [p,q,o] 222,.blk E ((Fl.arr 3 (Fl.int .i64)).f A) 243,.own (Rp.int .i64) G 3 ([m.1]:List Int),.tr (Rt.row (Rt.of (Rp.int .i64)) 3 [((0:Int).toNat,[i6 B])]) [t] aj I,.tr (Rt.of (Rp.int .i64)) [i6 B] [] B]:=H
   refine MxM.XL_read oS rfl rfl rfl (fun y s=>xA fU rfl (Cells.get ((H.sees s).holeW 8 rfl N D rfl dK) (i:=0) rfl)) ?_
   refine XP (fun _ _=>zN rfl)<| XP (fun _ _=>fa245_4 rfl) ?_
   obtain ⟨ak,al,c⟩:=zD c
   refine XP (fun _ _=>Do_idxA (X:=F) u243 sz3 rfl rfl al)<| MxM.XL_read oS rfl rfl rfl (fun y s=>Do_load1 (v:=i6 ak) fU rfl (Cells.ix (e:=(Fl.int .i64)) (x:=F) (Cells.suf (pre:=[l,i6 d.n,i6 d.frames,t]) (Blk.cells ((H.sees s).item (i:=0) rfl)) rfl) al)) ?_
   obtain ⟨am,bw,c⟩:=zG c
   refine XP (fun _ _=>Do_sub (a:=ak) (b:=1) rfl rfl bw)<| XP (fun _ _=>zN rfl)<| XP (fun _ _=>fa245_4 rfl) ?_
   obtain ⟨c6,P,c⟩:=zD c
   refine XP (fun _ _=>Do_idxA (X:=F) u243 sz3 rfl rfl P) ?_
   obtain ⟨an,bx,c⟩:=zG c
   refine MxM.XL_exU oS rfl rfl (fun y s=>Lx_storeP (e:=(Fl.int .i64)) (X:=F) (a:=am) (j:=B) (pre:=[l,i6 d.n,i6 d.frames,t]) (H.sees s) 0 rfl sz3 rfl rfl (v:=i6 am) rfl rfl (Arr.at_lt P).1 (Arr.at_lt P).2 bx) ?_
   rintro y c7 s H
   refine ⟨H.only,?_⟩
   refine MxM.xI fun c8 hS=>?_
   have H:=H.sees hS
   have H:=br.rejoin H
   refine (zB (bq _ _ ?_))
   refine zA ?_
   refine zI (gU k)<| zI (gU k)<| zH (zN rfl)<| zH (fa245_3 rfl)<| Ld one38 H 0 3 rfl rfl ?_
   have H:Hd _ _ _ _ [.blk k ([l,i6 d.n,i6 d.frames,t]++((Fl.arr 3 (Fl.int .i64)).f an)) 245,f1 gV p h.told,f1 Rp.bool q h.possible,.tr gY [l] z m.2,.own (Rp.int .i64) o 3 h.rules,.blk u [p,q,o] 222,.blk E ((Fl.arr 3 (Fl.int .i64)).f A) 243,.own (Rp.int .i64) G 3 ([m.1]:List Int),.tr (Rt.row (Rt.of (Rp.int .i64)) 3 [((0:Int).toNat,[i6 B])]) [t] aj I,.tr (Rt.of (Rp.int .i64)) [i6 B] [] B]:=H
   obtain ⟨ao,H⟩:=H.unfocus0 8 9 rfl rfl (by decide) rfl rfl D
   have H:Hd _ _ _ _ [.blk k ([l,i6 d.n,i6 d.frames,t]++((Fl.arr 3 (Fl.int .i64)).f an)) 245,f1 gV p h.told,f1 Rp.bool q h.possible,.tr gY [l] z m.2,.own (Rp.int .i64) o 3 h.rules,.blk u [p,q,o] 222,.blk E ((Fl.arr 3 (Fl.int .i64)).f A) 243,.own (Rp.int .i64) G 3 ([m.1]:List Int),.tr (Rt.row (Rt.of (Rp.int .i64)) 3 []) [t] ao I]:=H
   obtain ⟨c9,bz,c⟩:=zD c
   refine RL_exP rfl rfl (Lx_rpart_l H 8 rfl u38 sz3 rfl rfl bz) ?_
   rintro ap H
   refine zH (zN rfl)<| zH (fa245_3 rfl)<| yV rfl (xE H 0 rfl sz38 rfl (v:=ap) rfl (bF (H.item (i:=8) rfl)) rfl) ?_
   rintro da H
   obtain rfl:=gI c
   exact (zF (zB (meet ⟨(ap,ao),zO,H.pick [0,3,8,1,2,4,5,6] (by decide)⟩)))
  have c:=zU M c
  obtain rfl:=gI c
  exact (yB (zB (meet ⟨(t,af),zO,H.pick [0,3,8,1,2,4,5,6] (by decide)⟩)))
 rintro ⟨Q,R⟩ ρ db H
 have c:=bi
 obtain ⟨dc,dd⟩:=L
 refine zC fun de b0=>?_
 refine yF ?_
 refine zC fun df b1=>?_
 have b2:=H
 have H:=H.rebase
 have dg:=H
 refine wB H [0,1,2,3,4,5,6,7] (kz [0,1,0,0,0,1,0,0]) mixed ?_
 obtain ⟨aq,ar,c⟩:=zD c
 refine XP (fun _ _=>Do_idxA (X:=A) u243 sz3 rfl rfl ar)<| MxM.XL_read oS rfl rfl rfl (fun y s=>Do_load1 (v:=i6 aq) fU rfl (Cells.ix (e:=(Fl.int .i64)) (x:=A) (Blk.cells ((H.sees s).item (i:=7) rfl)) ar))<| XM (gU k)<| XP (fun _ _=>zN rfl)<| XP (fun _ _=>fa245_1 rfl)<| XR fU H 0 1 rfl rfl ?_
 obtain ⟨au,b3,c⟩:=zG c
 refine XP (fun _ _=>zQ (Do_geq (a:=aq) (b:=d.n) rfl rfl) b3)<| XP (fun _ _=>xO (v:= .bool au) rfl)<| MxM.xI fun dh hS=>?_
 have H:=H.sees hS
 have H:=b2.rejoin H
 refine (zB (b1 _ _ ?_))
 refine yC (b:=au) rfl (fun T=>?_) (fun T=>?_)
 ·have c:=zT T c
  refine zC fun di b4=>zA<| zK (i6 2)<| zF (zB (b4 _ _ ?_))
  obtain rfl:=gI c
  refine (zY (yG (zZ (fF (v1:=i6 2) rfl rfl ?_))))
  exact ⟨l,z,Q,R,rfl,H.pick [1,2,0,5,6] (by decide)⟩
 have c:=zU T c
 refine zC fun dj b5=>?_
 have b6:=H
 have H:=H.rebase
 have dk:=H
 refine wB H [0,1,2,3,4,5,6,7,8,9,10,11,12] (kz [0,1,0,0,0,1,0,0,0,1,0,0,0]) mixed ?_
 obtain ⟨av,aw,c⟩:=zD c
 refine XP (fun _ _=>Do_idxA (X:=A) u243 sz3 rfl rfl aw)<| MxM.XL_read oS rfl rfl rfl (fun y s=>Do_load1 (v:=i6 av) fU rfl (Cells.ix (e:=(Fl.int .i64)) (x:=A) (Blk.cells ((H.sees s).item (i:=7) rfl)) aw))<| XM (gU k)<| XP (fun _ _=>zN rfl)<| XP (fun _ _=>fa245_2 rfl)<| XR fU H 0 2 rfl rfl<| XM (gU k)<| XP (fun _ _=>zN rfl) ?_
 refine XP (fun _ _=>fa245_1 rfl)<| XR fU H 0 1 rfl rfl ?_
 obtain ⟨b7,b8,c⟩:=zG c
 refine XP (fun _ _=>Do_sub (a:=d.frames) (b:=d.n) rfl rfl b8) ?_
 obtain ⟨ax,b9,c⟩:=zG c
 refine XP (fun _ _=>zQ (kH (a:=av) (b:=b7) rfl rfl) b9)<| XP (fun _ _=>xO (v:= .bool ax) rfl)<| MxM.xI fun dl hS=>?_
 have H:=H.sees hS
 have H:=b6.rejoin H
 refine (zB (b5 _ _ ?_))
 refine yC (b:=ax) rfl (fun U=>?_) (fun U=>?_)
 ·have c:=zT U c
  refine zC fun dm ca=>zA<| zK (i6 1)<| zF (zB (ca _ _ ?_))
  obtain rfl:=gI c
  refine (zY (yG (zZ (fF (v1:=i6 1) rfl rfl ?_))))
  exact ⟨l,z,Q,R,rfl,H.pick [1,2,0,5,6] (by decide)⟩
 have c:=zU U c
 refine (yB (yK (zB (b0 _ _ ?_))))
 refine zC fun dn cb=>zA<| zK (i6 0)<| zF (zB (cb _ _ ?_))
 obtain rfl:=gI c
 refine (zY (fF (v1:=i6 0) rfl rfl ?_))
 exact ⟨l,z,Q,R,rfl,H.pick [1,2,0,5,6] (by decide)⟩
end Go.Proofs.YtckmiljbaejijaaGreatDoor.L
