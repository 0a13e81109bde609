/- Walks: what each function computes, for every argument; no condition but those that stand in the statements. -/
import Derived.Test.YtckmiljbaejijaaGreatDoorUV0
import Derived.Test.YtckmiljbaejijaaGreatDoorUV5
import Derived.Test.YtckmiljbaejijaaGreatDoorUV6
namespace Go.Proofs.YtckmiljbaejijaaGreatDoor.L
open Go.RowKit Go.OB Go.Lf
set_option maxHeartbeats 4000000
set_option maxRecDepth 100000 in
theorem Fbdw (rfI:Nd→gJ→Option (Int×Nd))(rhI:Fas rfI)(f:dU)(d:gJ)(o:Nat)(l:Value)(z:List Nat)(m:Value)(x:List Nat)(n:Nat)(h:Value)(j:Value)(k:Value)(r:Int×dU)(c:Fbd rfI f d=some r)(O S:List Nat)(w:World)(H:Hd O w w S [.tr gY [l] z f.while_,.tr gY [m] x f.from_,.blk o [l,m,i6 f.last,.bool f.begun] 255,.own (Rp.int .i64) k 3 d.rules,.blk n [h,j,k] 222,f1 gV h d.told,f1 Rp.bool j d.possible]):
  Cl 321 [gU o,gU n] w fun e s=> ∃K U L V,e= .returned (i6 r.1)∧Hd O w s S [.tr gY [K] U r.2.while_,.tr gY [L] V r.2.from_,.blk o [K,L,i6 r.2.last,.bool r.2.begun] 255,.own (Rp.int .i64) k 3 d.rules,.blk n [h,j,k] 222]:=by
 unfold Fbd at c
 refine zS 56 Tryz.func321 rfl rfl rfl ?_
 refine zC fun a4 X=>zA<| zK (i6 0)<| zF (zB (X _ _ ?_))
 refine zC fun a5 Y=>?_
 have Z:=H
 have H:=H.rebase
 have aa:=H
 have M:Hd (O++bks (rest [0,1,3,4] [.tr gY [l] z f.while_,.tr gY [m] x f.from_,.blk o [l,m,i6 f.last,.bool f.begun] 255,.own (Rp.int .i64) k 3 d.rules,.blk n [h,j,k] 222,f1 gV h d.told,f1 Rp.bool j d.possible])) w w (bks (Go.Lf.pick ([0,1,3,4]++ [5,6]) [.tr gY [l] z f.while_,.tr gY [m] x f.from_,.blk o [l,m,i6 f.last,.bool f.begun] 255,.own (Rp.int .i64) k 3 d.rules,.blk n [h,j,k] 222,f1 gV h d.told,f1 Rp.bool j d.possible])) [.tr gY [l] z f.while_,.tr gY [m] x f.from_,.own (Rp.int .i64) k 3 d.rules,.blk n [h,j,k] 222,f1 gV h d.told,f1 Rp.bool j d.possible]:=H.enter [0,1,3,4] [5,6] (by decide) rfl
 have N:=H.firmB M (i:=2) rfl (List.mem_append_right _ List.mem_cons_self)
 have H:=M
 refine WP_mix H [0,1,2,3,4,6,7,8,9,10,5,11,12,13] (kz [0,0,0,0,0,3,0,0,0,0,0,3,0,0]) mixed ?_
 refine XM (gU o)<| XP (fun _ _=>zN rfl)<| XP (fun _ _=>fa255_0 rfl)<| XP (fun s p=>xA bP rfl (Cells.get (Blk.cells (N s p)) (i:=0) rfl))<| XM (gU n)<| XM (gU o)<| XP (fun _ _=>zN rfl)<| XP (fun _ _=>fa255_1 rfl)<| XP (fun s p=>xA bP rfl (Cells.get (Blk.cells (N s p)) (i:=1) rfl))<| XM (gU n) ?_
 obtain ⟨ab,ac,P⟩:=Fao (H.item (i:=0) rfl)
 obtain ⟨q,ad,c⟩:=zD c
 refine MxM.XL_effC oS rfl rfl rfl (fun s p=>aA P rfl rfl) (fun s p=>rhI f.while_ (gJ.mk d.told d.possible d.rules) l z n h j k ab ac P _ ad _ _ _ ((H.sees p).enter [0,2,3] [4,5] (by decide) rfl)) ?_
 rintro s _ ae p ⟨u,rfl,af⟩
 have H:Hd _ _ ae _ [.tr gY [m] x f.from_,f1 gV h d.told,f1 Rp.bool j d.possible,.tr gY [l] u q.2,.own (Rp.int .i64) k 3 d.rules,.blk n [h,j,k] 222]:=(H.sees p).back [0,2,3] [4,5] rfl af
 refine ⟨_,rfl,H.only,?_⟩
 obtain ⟨ag,ah,Q⟩:=Fao (H.item (i:=0) rfl)
 obtain ⟨t,ai,c⟩:=zD c
 refine MxM.XL_effC oS rfl rfl rfl (fun s p=>aA Q rfl rfl) (fun s p=>rhI f.from_ (gJ.mk d.told d.possible d.rules) m x n h j k ag ah Q _ ai _ _ _ ((H.sees p).enter [0,4,5] [1,2] (by decide) rfl)) ?_
 rintro s _ aj p ⟨y,rfl,ak⟩
 have H:Hd _ _ aj _ [f1 gV h d.told,f1 Rp.bool j d.possible,.tr gY [l] u q.2,.tr gY [m] y t.2,.own (Rp.int .i64) k 3 d.rules,.blk n [h,j,k] 222]:=(H.sees p).back [0,4,5] [1,2] rfl ak
 refine ⟨_,rfl,H.only,?_⟩
 refine XP (fun _ _=>xO (v:=i6 q.1) rfl)<| XP (fun _ _=>xO (v:=i6 t.1) rfl)<| MxM.xI fun al hS=>?_
 have H:=H.sees hS
 have H:=aa.back [0,1,3,4] [5,6] rfl H
 have H:Hd _ _ _ _ [.blk o [l,m,i6 f.last,.bool f.begun] 255,f1 gV h d.told,f1 Rp.bool j d.possible,f1 gV h d.told,f1 Rp.bool j d.possible,.tr gY [l] u q.2,.tr gY [m] y t.2,.own (Rp.int .i64) k 3 d.rules,.blk n [h,j,k] 222]:=H
 have H:Hd O w al (bks [.tr gY [l] z f.while_,.tr gY [m] x f.from_,.blk o [l,m,i6 f.last,.bool f.begun] 255,.own (Rp.int .i64) k 3 d.rules,.blk n [h,j,k] 222,f1 gV h d.told,f1 Rp.bool j d.possible]) [.blk o [l,m,i6 f.last,.bool f.begun] 255,f1 gV h d.told,f1 Rp.bool j d.possible,.tr gY [l] u q.2,.tr gY [m] y t.2,.own (Rp.int .i64) k 3 d.rules,.blk n [h,j,k] 222]:=H.pick [0,3,4,5,6,7,8] (by decide)
 have H:=Z.rejoin H
 refine (zB (Y _ _ ?_))
 refine zC fun a6 am=>zA<| zK (i6 0)<| zF (zB (am _ _ ?_))
 obtain ⟨A,c,an⟩:=zD c
 refine yL [7,20,21,22,23,24,25,26,27,28,29,30,31,32,33,34,35,36,37,38,39,40,41,42,43,44,45,46,47] (fun (g:Unit)=>[(7,i6 A)]) (fun g wl=>Hd O w wl S [.blk o [l,m,i6 f.last,.bool f.begun] 255,f1 gV h d.told,f1 Rp.bool j d.possible,.tr gY [l] u q.2,.tr gY [m] y t.2,.own (Rp.int .i64) k 3 d.rules,.blk n [h,j,k] 222]) ?_ ?_
 ·skip
  refine yF ?_
  obtain ⟨R,c,ao⟩:=zD c
  refine yL [20,21,22,23,24,25,26,27,28,29,30,31,32,33] (fun (g:Unit)=>[(20,.bool R)]) (fun g wl=>Hd O w wl S [.blk o [l,m,i6 f.last,.bool f.begun] 255,f1 gV h d.told,f1 Rp.bool j d.possible,.tr gY [l] u q.2,.tr gY [m] y t.2,.own (Rp.int .i64) k 3 d.rules,.blk n [h,j,k] 222]) ?_ ?_
  ·skip
   refine zA ?_
   refine zI (i6 t.1) ?_
   obtain ⟨ap,aq,c⟩:=zG c
   refine zH (zQ (yT (a:=t.1) (b:=2) rfl rfl) aq)<| yS (b:=ap) rfl rfl rfl (fun B=>?_) (fun B=>?_)
   ·have c:=zT B c
    refine yI ?_
    refine yI ?_
    refine yI ?_
    refine yI ?_
    refine yI ?_
    refine yI ?_
    refine yI ?_
    refine yI ?_
    refine yI ?_
    refine zH (yO (v:= .bool true) rfl rfl)<| zK (.bool true) ?_
    obtain rfl:=gI c
    exact (zF (zB (meet ⟨(),(zL rfl zO),H.pick [0,1,2,3,4,5,6] (by decide)⟩)))
   have c:=zU B c
   refine zI (i6 q.1) ?_
   obtain ⟨ar,au,c⟩:=zG c
   refine zH (zQ (yT (a:=q.1) (b:=2) rfl rfl) au)<| yS (b:=ar) rfl rfl rfl (fun C=>?_) (fun C=>?_)
   ·have c:=zT C c
    refine zI (gU o)<| zH (zN rfl)<| zH (fa255_2 rfl)<| Ld fU H 0 2 rfl rfl ?_
    obtain ⟨D,av,c⟩:=zG c
    refine zH (zQ (yT (a:=f.last) (b:=2) rfl rfl) av)<| zH (yO (v:= .bool D) rfl rfl)<| zH (yN (v:= .bool D) rfl rfl)<| zK (.bool D) ?_
    obtain rfl:=gI c
    exact (zF (zB (meet ⟨(),(zL rfl zO),H.pick [0,1,2,3,4,5,6] (by decide)⟩)))
   have c:=zU C c
   refine yI ?_
   refine yI ?_
   refine yI ?_
   refine yI ?_
   refine yI ?_
   refine zH (yN (v:= .bool false) rfl rfl)<| zH (yN (v:= .bool false) rfl rfl)<| zK (.bool false) ?_
   obtain rfl:=gI c
   exact (zF (zB (meet ⟨(),(zL rfl zO),H.pick [0,1,2,3,4,5,6] (by decide)⟩)))
  rintro _ ρ a7 H
  have c:=ao
  refine yC (b:=R) rfl (fun E=>?_) (fun E=>?_)
  ·have c:=zT E c
   refine zA ?_
   refine zK (i6 2) ?_
   obtain rfl:=gI c
   exact (zF (yK (zB (meet ⟨(),(zL rfl zO),H.pick [0,1,2,3,4,5,6] (by decide)⟩))))
  have c:=zU E c
  obtain ⟨T,c,aw⟩:=zD c
  refine yL [34,35,36,37,38,39,40,41,42,43,44,45,46,47] (fun (g:Unit)=>[(34,.bool T)]) (fun g wl=>Hd O w wl S [.blk o [l,m,i6 f.last,.bool f.begun] 255,f1 gV h d.told,f1 Rp.bool j d.possible,.tr gY [l] u q.2,.tr gY [m] y t.2,.own (Rp.int .i64) k 3 d.rules,.blk n [h,j,k] 222]) ?_ ?_
  ·skip
   refine zA ?_
   refine zI (i6 t.1) ?_
   obtain ⟨ax,ay,c⟩:=zG c
   refine zH (zQ (yT (a:=t.1) (b:=1) rfl rfl) ay)<| yS (b:=ax) rfl rfl rfl (fun F=>?_) (fun F=>?_)
   ·have c:=zT F c
    refine zI (i6 q.1) ?_
    obtain ⟨az,a0,c⟩:=zG c
    refine zH (zQ (yT (a:=q.1) (b:=1) rfl rfl) a0)<| yS (b:=az) rfl rfl rfl (fun G=>?_) (fun G=>?_)
    ·have c:=zT G c
     refine yI ?_
     refine yI ?_
     refine yI ?_
     refine yI ?_
     refine yI ?_
     refine zH (yO (v:= .bool true) rfl rfl)<| zH (yO (v:= .bool true) rfl rfl)<| zK (.bool true) ?_
     obtain rfl:=gI c
     exact (zF (zB (meet ⟨(),(zL rfl zO),H.pick [0,1,2,3,4,5,6] (by decide)⟩)))
    have c:=zU G c
    refine zI (gU o)<| zH (zN rfl)<| zH (fa255_2 rfl)<| Ld fU H 0 2 rfl rfl ?_
    obtain ⟨I,a1,c⟩:=zG c
    refine zH (zQ (yT (a:=f.last) (b:=1) rfl rfl) a1)<| zH (yN (v:= .bool I) rfl rfl)<| zH (yO (v:= .bool I) rfl rfl)<| zK (.bool I) ?_
    obtain rfl:=gI c
    exact (zF (zB (meet ⟨(),(zL rfl zO),H.pick [0,1,2,3,4,5,6] (by decide)⟩)))
   have c:=zU F c
   refine yI ?_
   refine yI ?_
   refine yI ?_
   refine yI ?_
   refine yI ?_
   refine yI ?_
   refine yI ?_
   refine yI ?_
   refine yI ?_
   refine zH (yN (v:= .bool false) rfl rfl)<| zK (.bool false) ?_
   obtain rfl:=gI c
   exact (zF (zB (meet ⟨(),(zL rfl zO),H.pick [0,1,2,3,4,5,6] (by decide)⟩)))
  rintro _ ρ a8 H
  have c:=aw
  refine yC (b:=T) rfl (fun J=>?_) (fun J=>?_)
  ·have c:=zT J c
   refine zA ?_
   refine zK (i6 1) ?_
   obtain rfl:=gI c
   exact (zF (yK (zB (meet ⟨(),(zL rfl zO),H.pick [0,1,2,3,4,5,6] (by decide)⟩))))
  have c:=zU J c
  obtain rfl:=gI c
  exact (yB (yK (zB (meet ⟨(),(zL rfl zO),H.pick [0,1,2,3,4,5,6] (by decide)⟩))))
 rintro _ ρ a9 H
 have c:=an
 refine zC fun ba a2=>zA<| zI (gU o)<| zI (gU o)<| zI (i6 A)<| zH (zN rfl)<| zH (fa255_2 rfl)<| yV rfl (xE H 0 rfl sz3 rfl (v:=i6 A) rfl rfl rfl) ?_
 rintro bb H
 refine zH (zN rfl)<| zH (fa255_3 rfl)<| yV rfl (xE H 0 rfl sz4 rfl (v:= .bool true) rfl rfl rfl) ?_
 rintro bc H
 refine zF (zB (a2 _ _ ?_))
 refine zC fun bd a3=>zA<| zI (i6 A)<| zK (i6 A)<| zF (zB (a3 _ _ ?_))
 obtain rfl:=gI c
 refine (zY (fF (v1:=i6 A) rfl rfl ?_))
 exact ⟨l,u,m,y,rfl,H.pick [3,4,0,5,6] (by decide)⟩
set_option maxRecDepth 100000 in
theorem Fbew (rfI:Nd→gJ→Option (Int×Nd))(rhI:Fas rfI)(f:dS)(d:gJ)(j:Nat)(k:Value)(y:List Nat)(o:Nat)(l:Value)(m:Value)(h:Value)(r:Int×dS)(c:Fbe rfI f d=some r)(O S:List Nat)(w:World)(H:Hd O w w S [.tr gY [k] y f.kid,.blk j [k,i6 f.last,.bool f.begun] 258,.own (Rp.int .i64) h 3 d.rules,.blk o [l,m,h] 222,f1 gV l d.told,f1 Rp.bool m d.possible]):
  Cl 323 [gU j,gU o] w fun e F=> ∃z G,e= .returned (i6 r.1)∧Hd O w F S [.tr gY [z] G r.2.kid,.blk j [z,i6 r.2.last,.bool r.2.begun] 258,.own (Rp.int .i64) h 3 d.rules,.blk o [l,m,h] 222]:=by
 unfold Fbe at c
 refine zS 41 Tryz.func323 rfl rfl rfl ?_
 refine zC fun ae I=>zA<| zK (i6 0)<| zF (zB (I _ _ ?_))
 refine zC fun af J=>zA<| zI (gU j)<| zH (zN rfl)<| zH (fa258_0 rfl)<| Ld bP H 1 0 rfl rfl<| zI (gU o) ?_
 obtain ⟨K,L,A⟩:=Fao (H.item (i:=0) rfl)
 obtain ⟨n,M,c⟩:=zD c
 refine yA rfl rfl (aA A rfl rfl) (rhI f.kid (gJ.mk d.told d.possible d.rules) k y o l m h K L A _ M _ _ _ (H.enter [0,2,3] [4,5] (by decide) rfl)) ?_
 rintro _ N ⟨p,rfl,P⟩
 have H:Hd _ _ N _ [.blk j [k,i6 f.last,.bool f.begun] 258,f1 gV l d.told,f1 Rp.bool m d.possible,.tr gY [k] p n.2,.own (Rp.int .i64) h 3 d.rules,.blk o [l,m,h] 222]:=H.back [0,2,3] [4,5] rfl P
 refine ⟨_,rfl,?_⟩
 refine zK (i6 n.1)<| zF (zB (J _ _ ?_))
 refine zC fun ag Q=>zA<| zK (i6 0)<| zF (zB (Q _ _ ?_))
 obtain ⟨q,c,R⟩:=zD c
 refine yL [6,13,14,15,16,17,18,19,20,21,22,23,24,25,26,27,28,29,30,31,32] (fun (g:Unit)=>[(6,i6 q)]) (fun g wl=>Hd O w wl S [.blk j [k,i6 f.last,.bool f.begun] 258,f1 gV l d.told,f1 Rp.bool m d.possible,.tr gY [k] p n.2,.own (Rp.int .i64) h 3 d.rules,.blk o [l,m,h] 222]) ?_ ?_
 ·skip
  refine yF ?_
  obtain ⟨B,c,T⟩:=zD c
  refine yL [13,14,15,16,17,18,19,20,21,22] (fun (g:Unit)=>[(13,.bool B)]) (fun g wl=>Hd O w wl S [.blk j [k,i6 f.last,.bool f.begun] 258,f1 gV l d.told,f1 Rp.bool m d.possible,.tr gY [k] p n.2,.own (Rp.int .i64) h 3 d.rules,.blk o [l,m,h] 222]) ?_ ?_
  ·skip
   refine zA ?_
   refine zI (i6 n.1) ?_
   obtain ⟨U,V,c⟩:=zG c
   refine zH (zQ (yT (a:=n.1) (b:=2) rfl rfl) V)<| yS (b:=U) rfl rfl rfl (fun s=>?_) (fun s=>?_)
   ·have c:=zT s c
    refine zI (gU j)<| zH (zN rfl)<| zH (fa258_1 rfl)<| Ld fU H 0 1 rfl rfl ?_
    obtain ⟨C,X,c⟩:=zG c
    refine zH (zQ (yT (a:=f.last) (b:=1) rfl rfl) X)<| zH (yO (v:= .bool C) rfl rfl)<| zK (.bool C) ?_
    obtain rfl:=gI c
    exact (zF (zB (meet ⟨(),(zL rfl zO),H.pick [0,1,2,3,4,5] (by decide)⟩)))
   have c:=zU s c
   refine yI ?_
   refine yI ?_
   refine yI ?_
   refine yI ?_
   refine yI ?_
   refine zH (yN (v:= .bool false) rfl rfl)<| zK (.bool false) ?_
   obtain rfl:=gI c
   exact (zF (zB (meet ⟨(),(zL rfl zO),H.pick [0,1,2,3,4,5] (by decide)⟩)))
  rintro _ ρ ah H
  have c:=T
  refine yC (b:=B) rfl (fun t=>?_) (fun t=>?_)
  ·have c:=zT t c
   refine zA ?_
   refine zK (i6 2) ?_
   obtain rfl:=gI c
   exact (zF (yK (zB (meet ⟨(),(zL rfl zO),H.pick [0,1,2,3,4,5] (by decide)⟩))))
  have c:=zU t c
  obtain ⟨D,c,Y⟩:=zD c
  refine yL [23,24,25,26,27,28,29,30,31,32] (fun (g:Unit)=>[(23,.bool D)]) (fun g wl=>Hd O w wl S [.blk j [k,i6 f.last,.bool f.begun] 258,f1 gV l d.told,f1 Rp.bool m d.possible,.tr gY [k] p n.2,.own (Rp.int .i64) h 3 d.rules,.blk o [l,m,h] 222]) ?_ ?_
  ·skip
   refine zA ?_
   refine zI (i6 n.1) ?_
   obtain ⟨Z,aa,c⟩:=zG c
   refine zH (zQ (yT (a:=n.1) (b:=1) rfl rfl) aa)<| yS (b:=Z) rfl rfl rfl (fun u=>?_) (fun u=>?_)
   ·have c:=zT u c
    refine yI ?_
    refine yI ?_
    refine yI ?_
    refine yI ?_
    refine yI ?_
    refine zH (yO (v:= .bool true) rfl rfl)<| zK (.bool true) ?_
    obtain rfl:=gI c
    exact (zF (zB (meet ⟨(),(zL rfl zO),H.pick [0,1,2,3,4,5] (by decide)⟩)))
   have c:=zU u c
   refine zI (gU j)<| zH (zN rfl)<| zH (fa258_1 rfl)<| Ld fU H 0 1 rfl rfl ?_
   obtain ⟨E,ab,c⟩:=zG c
   refine zH (zQ (yT (a:=f.last) (b:=2) rfl rfl) ab)<| zH (yN (v:= .bool E) rfl rfl)<| zK (.bool E) ?_
   obtain rfl:=gI c
   exact (zF (zB (meet ⟨(),(zL rfl zO),H.pick [0,1,2,3,4,5] (by decide)⟩)))
  rintro _ ρ ai H
  have c:=Y
  refine yC (b:=D) rfl (fun x=>?_) (fun x=>?_)
  ·have c:=zT x c
   refine zA ?_
   refine zK (i6 1) ?_
   obtain rfl:=gI c
   exact (zF (yK (zB (meet ⟨(),(zL rfl zO),H.pick [0,1,2,3,4,5] (by decide)⟩))))
  have c:=zU x c
  obtain rfl:=gI c
  exact (yB (yK (zB (meet ⟨(),(zL rfl zO),H.pick [0,1,2,3,4,5] (by decide)⟩))))
 rintro _ ρ aj H
 have c:=R
 refine zC fun ak ac=>zA<| zI (gU j)<| zI (gU j)<| zI (i6 n.1)<| zH (zN rfl)<| zH (fa258_1 rfl)<| yV rfl (xE H 0 rfl sz3 rfl (v:=i6 n.1) rfl rfl rfl) ?_
 rintro al H
 refine zH (zN rfl)<| zH (fa258_2 rfl)<| yV rfl (xE H 0 rfl sz4 rfl (v:= .bool true) rfl rfl rfl) ?_
 rintro am H
 refine zF (zB (ac _ _ ?_))
 refine zC fun an ad=>zA<| zI (i6 q)<| zK (i6 q)<| zF (zB (ad _ _ ?_))
 obtain rfl:=gI c
 refine (zY (fF (v1:=i6 q) rfl rfl ?_))
 exact ⟨k,p,rfl,H.pick [3,0,4,5] (by decide)⟩
theorem Fdww (rfI:Nd→gJ→Option (Int×Nd))(rhI:Fas rfI)(z:Nd)(a:gJ)(A:Value)(j:List Nat)(h:Nat)(c:Value)(d:Value)(b:Value)(fid:FuncId)(rv:Value)(hm:aZ Tryz.prog "orangebox/event.step" A fid rv)(r:Int×Nd)(i:Fdw rfI z a=some r)(O S:List Nat)(w:World)(H:Hd O w w S [.tr gY [A] j z,.own (Rp.int .i64) b 3 a.rules,.blk h [c,d,b] 222,f1 gV c a.told,f1 Rp.bool d a.possible]):
  Calls Tryz.prog fid ([rv,gU h]:List Value).toArray w fun e w'=> ∃bs',e= .returned (i6 r.1)∧Hd O w w' S [.tr gY [A] bs' r.2,.own (Rp.int .i64) b 3 a.rules,.blk h [c,d,b] 222]:=by
 unfold Fdw at i
 cases z with
 | constant B=>
  obtain rfl:=nd_open_constant H 0 rfl
  obtain ⟨rfl,rfl⟩:=hm.eq (xU (p:=false) (by kernel_rfl) (by kernel_rfl) en325) w
  obtain ⟨x5,e6,i⟩:=zD i
  refine Calls.mono (Ffow (bK.mk B) (gJ.mk a.told a.possible a.rules) h c d b _ e6 _ _ _ (H.enter [1,2] [3,4] (by decide) rfl)) ?_
  rintro _ w7 ⟨rfl,G8⟩
  have H:Hd _ _ w7 _ [.tr gY [(.iface 277 (.agg ([i6 B]:List Value).toArray))] j (.constant B),f1 gV c a.told,f1 Rp.bool d a.possible,.own (Rp.int .i64) b 3 a.rules,.blk h [c,d,b] 222]:=H.back [1,2] [3,4] rfl G8
  obtain rfl:=gI i
  exact ⟨j,rfl,H.pick [0,3,4] (by decide)⟩
 | number C D E=>
  obtain rfl:=nd_open_number H 0 rfl
  obtain ⟨rfl,rfl⟩:=hm.eq (xU (p:=false) (by kernel_rfl) (by kernel_rfl) en327) w
  obtain ⟨cp,bk,i⟩:=zD i
  refine Calls.mono (Fa5w (dZ.mk C D E) (gJ.mk a.told a.possible a.rules) h c d b _ bk _ _ _ (H.enter [1,2] [3,4] (by decide) rfl)) ?_
  rintro _ bl ⟨rfl,bm⟩
  have H:Hd _ _ bl _ [.tr gY [(.iface 279 (.agg ([i6 C,i6 D,i6 E]:List Value).toArray))] j (.number C D E),f1 gV c a.told,f1 Rp.bool d a.possible,.own (Rp.int .i64) b 3 a.rules,.blk h [c,d,b] 222]:=H.back [1,2] [3,4] rfl bm
  obtain rfl:=gI i
  exact ⟨j,rfl,H.pick [0,3,4] (by decide)⟩
 | pair F G I J K=>
  obtain rfl:=nd_open_pair H 0 rfl
  obtain ⟨rfl,rfl⟩:=hm.eq (xU (p:=false) (by kernel_rfl) (by kernel_rfl) en332) w
  obtain ⟨cq,bn,i⟩:=zD i
  refine Calls.mono (Fa0w (aK.mk F G I J K) (gJ.mk a.told a.possible a.rules) h c d b _ bn _ _ _ (H.enter [1,2] [3,4] (by decide) rfl)) ?_
  rintro _ bo ⟨rfl,bp⟩
  have H:Hd _ _ bo _ [.tr gY [(.iface 281 (.agg ([i6 F,i6 G,i6 I,i6 J,i6 K]:List Value).toArray))] j (.pair F G I J K),f1 gV c a.told,f1 Rp.bool d a.possible,.own (Rp.int .i64) b 3 a.rules,.blk h [c,d,b] 222]:=H.back [1,2] [3,4] rfl bp
  obtain rfl:=gI i
  exact ⟨j,rfl,H.pick [0,3,4] (by decide)⟩
 | steady Y Z aa ab=>
  obtain ⟨q,L,ac,rfl,H⟩:=nd_open_steady H 0 rfl
  have H:Hd _ _ _ _ [.own (Rp.int .i64) b 3 a.rules,.blk h [c,d,b] 222,f1 gV c a.told,f1 Rp.bool d a.possible,.tr (Rt.row (Rt.of gV) 148 []) [L] ac ab,.blk q [i6 Y,i6 Z,i6 aa,L] 241]:=H
  obtain ⟨rfl,rfl⟩:=hm.eq (xU (p:=true) (by kernel_rfl) (by kernel_rfl) en310) w
  obtain ⟨⟨cr,l⟩,bq,i⟩:=zD i
  refine Calls.mono (Fayw (eY.mk Y Z aa ab) (gJ.mk a.told a.possible a.rules) q L ac h c d b _ bq _ _ _ (H.enter [4,5,0,1] [2,3] (by decide) rfl)) ?_
  rintro _ br ⟨ad,bt,rfl,bu⟩
  have H:Hd _ _ br _ [f1 gV c a.told,f1 Rp.bool d a.possible,.tr (Rt.row (Rt.of gV) 148 []) [ad] bt l.last,.blk q [i6 l.track,i6 l.n,i6 l.frames,ad] 241,.own (Rp.int .i64) b 3 a.rules,.blk h [c,d,b] 222]:=H.back [4,5,0,1] [2,3] rfl bu
  obtain ⟨ae,H⟩:=nd_mk_steady H 2 3 rfl rfl (by decide)
  have H:Hd _ _ _ _ [f1 gV c a.told,f1 Rp.bool d a.possible,.own (Rp.int .i64) b 3 a.rules,.blk h [c,d,b] 222,.tr gY [(.iface 239 (gU q))] ae (.steady l.track l.n l.frames l.last)]:=H
  obtain rfl:=gI i
  exact ⟨ae,rfl,H.pick [4,2,3] (by decide)⟩
 | phase M=>
  obtain rfl:=nd_open_phase H 0 rfl
  obtain ⟨rfl,rfl⟩:=hm.eq (xU (p:=false) (by kernel_rfl) (by kernel_rfl) en335) w
  obtain ⟨cs,bv,i⟩:=zD i
  refine Calls.mono (Fa4w (bT.mk M) (gJ.mk a.told a.possible a.rules) h c d b _ bv _ _ _ (H.enter [1,2] [3,4] (by decide) rfl)) ?_
  rintro _ bw ⟨rfl,bx⟩
  have H:Hd _ _ bw _ [.tr gY [(.iface 283 (.agg ([i6 M]:List Value).toArray))] j (.phase M),f1 gV c a.told,f1 Rp.bool d a.possible,.own (Rp.int .i64) b 3 a.rules,.blk h [c,d,b] 222]:=H.back [1,2] [3,4] rfl bx
  obtain rfl:=gI i
  exact ⟨j,rfl,H.pick [0,3,4] (by decide)⟩
 | rule N=>
  obtain rfl:=nd_open_rule H 0 rfl
  obtain ⟨rfl,rfl⟩:=hm.eq (xU (p:=false) (by kernel_rfl) (by kernel_rfl) en337) w
  obtain ⟨ct,bz,i⟩:=zD i
  refine Calls.mono (Ffqw (kX.mk N) (gJ.mk a.told a.possible a.rules) h c d b _ bz _ _ _ (H.enter [1,2] [3,4] (by decide) rfl)) ?_
  rintro _ b0 ⟨rfl,b1⟩
  have H:Hd _ _ b0 _ [.tr gY [(.iface 285 (.agg ([i6 N]:List Value).toArray))] j (.rule N),f1 gV c a.told,f1 Rp.bool d a.possible,.own (Rp.int .i64) b 3 a.rules,.blk h [c,d,b] 222]:=H.back [1,2] [3,4] rfl b1
  obtain rfl:=gI i
  exact ⟨j,rfl,H.pick [0,3,4] (by decide)⟩
 | not af=>
  obtain ⟨s,P,ag,rfl,H⟩:=nd_open_not H 0 rfl
  have H:Hd _ _ _ _ [.own (Rp.int .i64) b 3 a.rules,.blk h [c,d,b] 222,f1 gV c a.told,f1 Rp.bool d a.possible,.tr gY [P] ag af,.blk s [P] 248]:=H
  obtain ⟨rfl,rfl⟩:=hm.eq (xU (p:=true) (by kernel_rfl) (by kernel_rfl) en316) w
  obtain ⟨⟨cu,ah⟩,b2,i⟩:=zD i
  refine Calls.mono (Fa7w rfI rhI (bV.mk af) (gJ.mk a.told a.possible a.rules) s P ag h c d b _ b2 _ _ _ (H.enter [4,5,0,1] [2,3] (by decide) rfl)) ?_
  rintro _ b3 ⟨ai,b4,rfl,b5⟩
  have H:Hd _ _ b3 _ [f1 gV c a.told,f1 Rp.bool d a.possible,.tr gY [ai] b4 ah.kid,.blk s [ai] 248,.own (Rp.int .i64) b 3 a.rules,.blk h [c,d,b] 222]:=H.back [4,5,0,1] [2,3] rfl b5
  obtain ⟨aj,H⟩:=nd_mk_not H 2 3 rfl rfl (by decide)
  have H:Hd _ _ _ _ [f1 gV c a.told,f1 Rp.bool d a.possible,.own (Rp.int .i64) b 3 a.rules,.blk h [c,d,b] 222,.tr gY [(.iface 246 (gU s))] aj (.not ah.kid)]:=H
  obtain rfl:=gI i
  exact ⟨aj,rfl,H.pick [4,2,3] (by decide)⟩
 | group ak al=>
  obtain ⟨t,Q,am,rfl,H⟩:=nd_open_group H 0 rfl
  have H:Hd _ _ _ _ [.own (Rp.int .i64) b 3 a.rules,.blk h [c,d,b] 222,f1 gV c a.told,f1 Rp.bool d a.possible,.tr fG [Q] am ak,.blk t [Q,.bool al] 251]:=H
  obtain ⟨rfl,rfl⟩:=hm.eq (xU (p:=true) (by kernel_rfl) (by kernel_rfl) en319) w
  obtain ⟨⟨cv,u⟩,b6,i⟩:=zD i
  refine Calls.mono (Fbow rfI rhI (dA.mk ak al) (gJ.mk a.told a.possible a.rules) t Q am h c d b _ b6 _ _ _ (H.enter [4,5,0,1] [2,3] (by decide) rfl)) ?_
  rintro _ b7 ⟨an,b8,rfl,b9⟩
  have H:Hd _ _ b7 _ [f1 gV c a.told,f1 Rp.bool d a.possible,.tr fG [an] b8 u.kids,.blk t [an,.bool u.any] 251,.own (Rp.int .i64) b 3 a.rules,.blk h [c,d,b] 222]:=H.back [4,5,0,1] [2,3] rfl b9
  obtain ⟨ao,H⟩:=nd_mk_group H 2 3 rfl rfl (by decide)
  have H:Hd _ _ _ _ [f1 gV c a.told,f1 Rp.bool d a.possible,.own (Rp.int .i64) b 3 a.rules,.blk h [c,d,b] 222,.tr gY [(.iface 249 (gU t))] ao (.group u.kids u.any)]:=H
  obtain rfl:=gI i
  exact ⟨ao,rfl,H.pick [4,2,3] (by decide)⟩
 | count ap aq ar au av=>
  obtain ⟨v,R,aw,T,ax,rfl,H⟩:=nd_open_count H 0 rfl
  have H:Hd _ _ _ _ [.own (Rp.int .i64) b 3 a.rules,.blk h [c,d,b] 222,f1 gV c a.told,f1 Rp.bool d a.possible,.tr gY [R] aw ap,.tr (Rt.row (Rt.of (Rp.int .i64)) 3 []) [T] ax au,.blk v ([R,i6 aq,i6 ar,T]++((Fl.arr 3 (Fl.int .i64)).f av)) 245]:=H
  obtain ⟨rfl,rfl⟩:=hm.eq (xU (p:=true) (by kernel_rfl) (by kernel_rfl) en313) w
  obtain ⟨⟨cw,k⟩,ca,i⟩:=zD i
  refine Calls.mono (Fbww rfI rhI (eQ.mk ap aq ar au av) (gJ.mk a.told a.possible a.rules) v R aw T ax h c d b _ ca _ _ _ (H.enter [4,5,6,0,1] [2,3] (by decide) rfl)) ?_
  rintro _ cb ⟨ay,cc,az,cd,rfl,ce⟩
  have H:Hd _ _ cb _ [f1 gV c a.told,f1 Rp.bool d a.possible,.tr gY [ay] cc k.kid,.tr (Rt.row (Rt.of (Rp.int .i64)) 3 []) [az] cd k.last,.blk v ([ay,i6 k.n,i6 k.frames,az]++((Fl.arr 3 (Fl.int .i64)).f k.totals)) 245,.own (Rp.int .i64) b 3 a.rules,.blk h [c,d,b] 222]:=H.back [4,5,6,0,1] [2,3] rfl ce
  obtain ⟨a0,H⟩:=kW H 2 3 4 rfl rfl rfl (by decide)
  have H:Hd _ _ _ _ [f1 gV c a.told,f1 Rp.bool d a.possible,.own (Rp.int .i64) b 3 a.rules,.blk h [c,d,b] 222,.tr gY [(.iface 242 (gU v))] a0 (.count k.kid k.n k.frames k.last k.totals)]:=H
  obtain rfl:=gI i
  exact ⟨a0,rfl,H.pick [4,2,3] (by decide)⟩
 | since a1 a2 a3 a4=>
  obtain ⟨x,U,a5,V,a6,rfl,H⟩:=nd_open_since H 0 rfl
  have H:Hd _ _ _ _ [.own (Rp.int .i64) b 3 a.rules,.blk h [c,d,b] 222,f1 gV c a.told,f1 Rp.bool d a.possible,.tr gY [U] a5 a1,.tr gY [V] a6 a2,.blk x [U,V,i6 a3,.bool a4] 255]:=H
  obtain ⟨rfl,rfl⟩:=hm.eq (xU (p:=true) (by kernel_rfl) (by kernel_rfl) en321) w
  obtain ⟨⟨cx,m⟩,cf,i⟩:=zD i
  refine Calls.mono (Fbdw rfI rhI (dU.mk a1 a2 a3 a4) (gJ.mk a.told a.possible a.rules) x U a5 V a6 h c d b _ cf _ _ _ (H.enter [4,5,6,0,1] [2,3] (by decide) rfl)) ?_
  rintro _ cg ⟨a7,ch,a8,ci,rfl,cj⟩
  have H:Hd _ _ cg _ [f1 gV c a.told,f1 Rp.bool d a.possible,.tr gY [a7] ch m.while_,.tr gY [a8] ci m.from_,.blk x [a7,a8,i6 m.last,.bool m.begun] 255,.own (Rp.int .i64) b 3 a.rules,.blk h [c,d,b] 222]:=H.back [4,5,6,0,1] [2,3] rfl cj
  obtain ⟨a9,H⟩:=nd_mk_since H 2 3 4 rfl rfl rfl (by decide)
  have H:Hd _ _ _ _ [f1 gV c a.told,f1 Rp.bool d a.possible,.own (Rp.int .i64) b 3 a.rules,.blk h [c,d,b] 222,.tr gY [(.iface 252 (gU x))] a9 (.since m.while_ m.from_ m.last m.begun)]:=H
  obtain rfl:=gI i
  exact ⟨a9,rfl,H.pick [4,2,3] (by decide)⟩
 | rises ba bb bc=>
  obtain ⟨y,X,bd,rfl,H⟩:=nd_open_rises H 0 rfl
  have H:Hd _ _ _ _ [.own (Rp.int .i64) b 3 a.rules,.blk h [c,d,b] 222,f1 gV c a.told,f1 Rp.bool d a.possible,.tr gY [X] bd ba,.blk y [X,i6 bb,.bool bc] 258]:=H
  obtain ⟨rfl,rfl⟩:=hm.eq (xU (p:=true) (by kernel_rfl) (by kernel_rfl) en323) w
  obtain ⟨⟨cy,o⟩,ck,i⟩:=zD i
  refine Calls.mono (Fbew rfI rhI (dS.mk ba bb bc) (gJ.mk a.told a.possible a.rules) y X bd h c d b _ ck _ _ _ (H.enter [4,5,0,1] [2,3] (by decide) rfl)) ?_
  rintro _ cl ⟨be,cm,rfl,cn⟩
  have H:Hd _ _ cl _ [f1 gV c a.told,f1 Rp.bool d a.possible,.tr gY [be] cm o.kid,.blk y [be,i6 o.last,.bool o.begun] 258,.own (Rp.int .i64) b 3 a.rules,.blk h [c,d,b] 222]:=H.back [4,5,0,1] [2,3] rfl cn
  obtain ⟨bf,H⟩:=nd_mk_rises H 2 3 rfl rfl (by decide)
  have H:Hd _ _ _ _ [f1 gV c a.told,f1 Rp.bool d a.possible,.own (Rp.int .i64) b 3 a.rules,.blk h [c,d,b] 222,.tr gY [(.iface 256 (gU y))] bf (.rises o.kid o.last o.begun)]:=H
  obtain rfl:=gI i
  exact ⟨bf,rfl,H.pick [4,2,3] (by decide)⟩
theorem Ffb:Fas (Faf):=by
 have h: ∀n,Fas (Fcl n):=by
  intro n
  induction n with
  | zero=>intro b c d e f i j k fid rv hm r a; cases a
  | succ n ih=>intro b c d e f i j k fid rv hm r a; exact Fdww (Fcl n) ih b c d e f i j k fid rv hm r a
 exact h FU
set_option maxRecDepth 100000 in
theorem Fb0w (d:gW)(f:gJ)(s:Nat)(l:Value)(m:Value)(az:List Nat)(n:Value)(y:List Nat)(o:Value)(u:Nat)(j:Value)(k:Value)(h:Value)(r:gW)(c:Fb0 d f=some r)(O S:List Nat)(w:World)(H:Hd O w w S [.tr fJ [m] az d.moves,.tr fG [n] y d.rules,.blk s [l,i6 d.tracks,m,n,o] 146,.own (Rp.int .i64) h 3 f.rules,.blk u [j,k,h] 222,f1 Rp.str l d.phases,f1 Rp.bool o d.possible,f1 gV j f.told,f1 Rp.bool k f.possible]):
  Cl 141 [gU s,gU u] w fun e w'=> ∃a0 u22 bq u23 br u24,e= .returned (.tuple #[])∧Hd O w w' S [f1 Rp.str a0 r.phases,.tr fJ [u22] bq r.moves,.tr fG [u23] br r.rules,f1 Rp.bool u24 r.possible,.blk s [a0,i6 r.tracks,u22,u23,u24] 146,.own (Rp.int .i64) h 3 f.rules,.blk u [j,k,h] 222]:=by
 unfold Fb0 at c
 refine zS 94 Tryz.func141 rfl rfl rfl ?_
 refine zC fun fd bt=>zA<| zK (.slice none 0 0)<| zF (zB (bt _ _ ?_))
 obtain ⟨T,c,bu⟩:=zD c
 refine yL [4,6,13,14,15,16,17,18,19,20,21,22,23,24,25,26,27,28,29] (fun (g:Value×(List Nat))=>[(4,g.1)]) (fun g wl=>Hd O w wl S [.own (Rp.int .i64) g.1 3 T.1,.tr fJ [m] g.2 T.2,.tr fG [n] y d.rules,.blk s [l,i6 d.tracks,m,n,o] 146,f1 Rp.str l d.phases,f1 Rp.bool o d.possible,.own (Rp.int .i64) h 3 f.rules,.blk u [j,k,h] 222,f1 gV j f.told,f1 Rp.bool k f.possible]) ?_ ?_
 ·skip
  refine zC fun fe bv=>zA<| zI (gU s)<| zH (zN rfl)<| zH (fa146_2 rfl)<| Ld one142 H 2 2 rfl rfl ?_
  obtain ⟨bw,bx,c⟩:=zG c
  obtain ⟨ff,fg,bz⟩:=kN ((H.item (i:=0) rfl))
  refine zH (yJ (xN u142 bz) (congrArg (Value.int .i64) bx))<| zI (i6 0)<| zF (zB (bv _ _ ?_))
  refine yF ?_
  have H:=dY H (Rp.int .i64) 3
  unfold Fdx at c
  obtain ⟨b0,a1,b1,c⟩:=yR c
  refine xG [4,6,18,19,20,21,22,23,24,25,26,27,28,29] (fun (g:Nat×(List Int)×Int×(List fM)×Value×(List Nat))=>[(4,g.2.2.2.2.1),(18,i6 g.2.2.1)]) (fun g wl=>Hd O w wl S [.own (Rp.int .i64) g.2.2.2.2.1 3 g.2.1,.tr fJ [m] g.2.2.2.2.2 g.2.2.2.1,.tr fG [n] y d.rules,.blk s [l,i6 d.tracks,m,n,o] 146,f1 Rp.str l d.phases,f1 Rp.bool o d.possible,.own (Rp.int .i64) h 3 f.rules,.blk u [j,k,h] 222,f1 gV j f.told,f1 Rp.bool k f.possible]∧eF b0 g.1 (g.2.1,g.2.2.1,g.2.2.2.1)=some T) (fun g=>g.1) (a1,[],0,d.moves,.slice none 0 0,az) (zL rfl (zL rfl zO)) ⟨H.pick [9,0,1,2,5,6,3,4,7,8] (by decide),c⟩ ?_
  clear H c
  rintro ⟨a1,a2,M,U,V,b2⟩ ρ fh ⟨H,c⟩
  obtain ⟨b3,rfl,c⟩:=yX c
  have c:=yY b1 c
  refine zC fun fi b4=>zA ?_
  obtain ⟨b5,b6,c⟩:=zG c
  refine zH (zQ (xR (a:=M) (b:=bw) rfl rfl) b6)<| zF (zB (b4 _ _ ?_))
  refine zC fun fj b7=>?_
  refine yC (b:=b5) rfl (fun ab=>?_) (fun ab=>?_)
  ·have c:=zT ab c
   refine yB (zB (b7 _ _ ?_))
   refine zC fun fk b8=>?_
   refine yF ?_
   refine zC fun fm b9=>zA ?_
   obtain ⟨t,N,c⟩:=zD c
   obtain ⟨fn,fo,fp,ac⟩:=kG (H.item (i:=1) rfl) N
   refine zH (xJ u142 sz172 ac rfl (yE N).1 (yE N).2.1 rfl rfl) ?_
   obtain ⟨fq,X,fr,H⟩:=H.focusV 1 rfl ac N rfl
   obtain ⟨B,a3,rfl,H⟩:=rtEventMove_open H 10 rfl
   have H:Hd _ _ _ _ [.own (Rp.int .i64) V 3 a2,.tr fG [n] y d.rules,.blk s [l,i6 d.tracks,m,n,o] 146,f1 Rp.str l d.phases,f1 Rp.bool o d.possible,.own (Rp.int .i64) h 3 f.rules,.blk u [j,k,h] 222,f1 gV j f.told,f1 Rp.bool k f.possible,.tr (Rt.row fK 172 [(M.toNat,[i6 t.from_,i6 t.to,B])]) [m] X U,.tr gY [B] a3 t.when]:=H
   refine zH (yJ (yM (cs:=[i6 t.from_,i6 t.to,B]) agg172 rfl sz172 rfl (H.holeW 9 rfl ac N rfl dK)) rfl)<| yP rfl rfl (xH zero172 H) ?_
   rintro _ fs ⟨Y,rfl,H⟩
   refine yV rfl (yQ (vs:=[i6 t.from_,i6 t.to,B]) H 11 rfl sz172 rfl rfl rfl ⟨rfl,rfl,(bF (H.item (i:=10) rfl)),trivial⟩ rfl) ?_
   rintro ft H
   refine zF (zB (b9 _ _ ?_))
   refine zA ?_
   refine zI V<| zH (fa172_2 rfl)<| Ld bP H 11 2 rfl rfl<| zI (gU u) ?_
   obtain ⟨ca,cb,a4⟩:=Fao (H.item (i:=10) rfl)
   obtain ⟨F,cc,c⟩:=zD c
   refine yA rfl rfl (aA a4 rfl rfl) (Ffb t.when (gJ.mk f.told f.possible f.rules) B a3 u j k h ca cb a4 _ cc _ _ _ (H.enter [10,5,6] [7,8] (by decide) rfl)) ?_
   rintro _ cd ⟨a5,rfl,ce⟩
   have H:Hd _ _ cd _ [.own (Rp.int .i64) V 3 a2,.tr fG [n] y d.rules,.blk s [l,i6 d.tracks,m,n,o] 146,f1 Rp.str l d.phases,f1 Rp.bool o d.possible,f1 gV j f.told,f1 Rp.bool k f.possible,.tr (Rt.row fK 172 [(M.toNat,[i6 t.from_,i6 t.to,B])]) [m] X U,.blk Y [i6 t.from_,i6 t.to,B] 172,.tr gY [B] a5 F.2,.own (Rp.int .i64) h 3 f.rules,.blk u [j,k,h] 222]:=H.back [10,5,6] [7,8] rfl ce
   refine ⟨_,rfl,?_⟩
   obtain ⟨fu,cf,c⟩:=zG c
   subst cf
   refine yP rfl rfl (kM (r:=(Rp.int .i64)) (xl:=[F.1]) (cs:=[i6 F.1]) u38 el3 (by decide) (by decide) rfl (xP (vs:=[i6 F.1]) (by decide) rfl rfl ⟨rfl,trivial⟩ rfl) H ⟨[i6 F.1],[],rfl,rfl,rfl⟩) ?_
   rintro ad fv H
   obtain ⟨Z,cg,c⟩:=zD c
   refine yP rfl rfl (aO H (i:=0) rfl u38 el3 rfl rfl (Sr.of_own (H.item (i:=12) rfl)) cg) ?_
   rintro P fw H
   refine zK P<| (zF (yK (zB (b8 _ _ ?_))))
   refine zA ?_
   obtain ⟨a6,ch,c⟩:=zG c
   refine zH (xQ (a:=M) (b:=1) rfl rfl ch)<| zI (i6 a6) ?_
   have H:Hd _ _ _ _ [.own (Rp.int .i64) P 3 Z,.tr fG [n] y d.rules,.blk s [l,i6 d.tracks,m,n,o] 146,f1 Rp.str l d.phases,f1 Rp.bool o d.possible,f1 gV j f.told,f1 Rp.bool k f.possible,.tr (Rt.row fK 172 [(M.toNat,[i6 t.from_,i6 t.to,B])]) [m] X U,.blk Y [i6 t.from_,i6 t.to,B] 172,.tr gY [B] a5 F.2,.own (Rp.int .i64) h 3 f.rules,.blk u [j,k,h] 222,.own (Rp.int .i64) ad 3 ([F.1]:List Int)]:=H
   obtain ⟨ci,H⟩:=aH (x:=fM.mk t.from_ t.to F.2) H 9 rfl
   have H:Hd _ _ _ _ [.own (Rp.int .i64) P 3 Z,.tr fG [n] y d.rules,.blk s [l,i6 d.tracks,m,n,o] 146,f1 Rp.str l d.phases,f1 Rp.bool o d.possible,f1 gV j f.told,f1 Rp.bool k f.possible,.tr (Rt.row fK 172 [(M.toNat,[i6 t.from_,i6 t.to,B])]) [m] X U,.blk Y [i6 t.from_,i6 t.to,B] 172,.own (Rp.int .i64) h 3 f.rules,.blk u [j,k,h] 222,.own (Rp.int .i64) ad 3 ([F.1]:List Int),.tr fK [i6 t.from_,i6 t.to,B] ci (fM.mk t.from_ t.to F.2)]:=H
   obtain ⟨a7,cj,c⟩:=zD c
   obtain ⟨a8,H⟩:=H.unfocus 7 12 rfl rfl (by decide) rfl rfl cj
   have H:Hd _ _ _ _ [.own (Rp.int .i64) P 3 Z,.tr fG [n] y d.rules,.blk s [l,i6 d.tracks,m,n,o] 146,f1 Rp.str l d.phases,f1 Rp.bool o d.possible,f1 gV j f.told,f1 Rp.bool k f.possible,.blk Y [i6 t.from_,i6 t.to,B] 172,.own (Rp.int .i64) h 3 f.rules,.blk u [j,k,h] 222,.own (Rp.int .i64) ad 3 ([F.1]:List Int),.tr fJ [m] a8 a7]:=H
   exact (zF (zB (meet ⟨(b3,Z,a6,a7,P,a8),(zL rfl (zL rfl zO)),⟨H.pick [0,11,1,2,3,4,8,9,5,6] (by decide),c⟩,Nat.lt_succ_self _⟩)))
  have c:=zU ab c
  obtain rfl:=gI c
  exact (xK (yH (yH (yU (zB (meet ⟨(V,b2),(zL rfl zO),H.pick [0,1,2,3,4,5,6,7,8,9] (by decide)⟩))))))
 rintro ⟨C,ck⟩ ρ fx H
 have c:=bu
 obtain ⟨E,D⟩:=T
 refine zC fun fy cl=>zA<| zI (gU s)<| zH (zN rfl)<| zH (fa146_0 rfl)<| Ld one22 H 3 0 rfl rfl ?_
 obtain ⟨f0,cm,c⟩:=zG c
 obtain ⟨f4,f5,cn⟩:=SlF.len ((H.item (i:=4) rfl))
 refine zH (yJ (xN u22 cn) (congrArg (Value.int .i64) cm)) ?_
 obtain ⟨co,cp,c⟩:=zD c
 refine yP rfl rfl (Lx_make (r:=Rp.bool) (zv:= .bool false) u144 el4 rfl (fun _ _=>rfl) rfl rfl cp H) ?_
 rintro z f6 H
 refine zK z<| zF (zB (cl _ _ ?_))
 obtain ⟨a9,c,cq⟩:=zD c
 refine yL [8,9,10,11,12,36,37,38,39,40,41,42,43,44,45,46,47,48,49,50,51,52,53,54,55,56,57,58,59,60,61,62,63,64,65,66,67,68,69,70,71,72,73,74,75,76,77,78,79,80,81,82,83,84,85,86,87,88,89] (fun (g:(List Nat))=>[]) (fun g wl=>Hd O w wl S [.tr fJ [m] g D,.tr fG [n] y d.rules,.blk s [l,i6 d.tracks,m,n,o] 146,f1 Rp.str l d.phases,f1 Rp.bool o d.possible,.own (Rp.int .i64) h 3 f.rules,.blk u [j,k,h] 222,f1 gV j f.told,f1 Rp.bool k f.possible,.own Rp.bool z 4 a9]) ?_ ?_
 ·skip
  refine zC fun f7 cr=>zA<| zI (gU s)<| zH (zN rfl)<| zH (fa146_4 rfl)<| Ld one144 H 3 4 rfl rfl ?_
  obtain ⟨ct,cu,c⟩:=zG c
  obtain ⟨f8,f9,cv⟩:=SlF.len ((H.item (i:=5) rfl))
  refine zH (yJ (xN u144 cv) (congrArg (Value.int .i64) cu))<| zI (i6 0)<| zF (zB (cr _ _ ?_))
  refine yF ?_
  unfold Ff6 at c
  obtain ⟨cw,ba,cx,c⟩:=yR c
  refine xG [8,9,10,11,12,41,42,43,44,45,46,47,48,49,50,51,52,53,54,55,56,57,58,59,60,61,62,63,64,65,66,67,68,69,70,71,72,73,74,75,76,77,78,79,80,81,82,83,84,85,86,87,88,89] (fun (g:Nat×Int×(List Bool)×(List Nat))=>[(41,i6 g.2.1)]) (fun g wl=>Hd O w wl S [.own (Rp.int .i64) C 3 E,.tr fJ [m] g.2.2.2 D,.tr fG [n] y d.rules,.blk s [l,i6 d.tracks,m,n,o] 146,f1 Rp.str l d.phases,f1 Rp.bool o d.possible,.own (Rp.int .i64) h 3 f.rules,.blk u [j,k,h] 222,f1 gV j f.told,f1 Rp.bool k f.possible,.own Rp.bool z 4 g.2.2.1]∧eF cw g.1 (g.2.1,g.2.2.1)=some a9) (fun g=>g.1) (ba,0,co,ck) (zL rfl zO) ⟨H.pick [0,1,2,3,4,5,6,7,8,9,10] (by decide),c⟩ ?_
  clear H c
  rintro ⟨ba,I,cy,ae⟩ ρ ga ⟨H,c⟩
  obtain ⟨cz,rfl,c⟩:=yX c
  have c:=yY cx c
  refine zC fun gb c0=>zA ?_
  obtain ⟨c1,c2,c⟩:=zG c
  refine zH (zQ (xR (a:=I) (b:=ct) rfl rfl) c2)<| zF (zB (c0 _ _ ?_))
  refine zC fun gc c3=>?_
  refine yC (b:=c1) rfl (fun af=>?_) (fun af=>?_)
  ·have c:=zT af c
   refine yB (zB (c3 _ _ ?_))
   obtain ⟨bb,c,c4⟩:=zD c
   refine yL [8,9,10,11,12,43,44,45,46,47,48,49,50,51,52,53,54,55,56,57,58,59,60,61,62,63,64,65,66,67,68,69,70,71,72,73,74,75,76,77,78,79,80,81,82,83,84,85,86,87,88] (fun (g:(List Nat))=>[]) (fun g wl=>Hd O w wl S [.own (Rp.int .i64) C 3 E,.tr fJ [m] g D,.tr fG [n] y d.rules,.blk s [l,i6 d.tracks,m,n,o] 146,f1 Rp.str l d.phases,f1 Rp.bool o d.possible,.own (Rp.int .i64) h 3 f.rules,.blk u [j,k,h] 222,f1 gV j f.told,f1 Rp.bool k f.possible,.own Rp.bool z 4 bb]) ?_ ?_
   ·skip
    refine yF ?_
    refine zC fun gd c5=>zA<| zI (i6 I) ?_
    obtain ⟨aa,ag,c⟩:=zD c
    obtain ⟨c6,c7,ge,c8,c9,da,db,dc,dd⟩:=dQ (H.item (i:=5) rfl) ag
    obtain rfl:c8= [.bool aa]:=da
    have H:=H.fz (.at c6 (c7+I.toNat * 1) _) ⟨db,dc,dd⟩
    refine zH (xJ u144 sz4 c9 rfl (yE ag).1 (yE ag).2.1 rfl rfl)<| zH (xA one4 rfl (Cells.get (H.item (i:=11) rfl).2.2 (i:=0) rfl))<| zK (i6 I)<| zK (.bool aa)<| zF (zB (c5 _ _ ?_))
    refine zC fun gf de=>?_
    refine zC fun gg df=>zA<| zI (.bool aa) ?_
    obtain ⟨dg,dh,c⟩:=zG c
    refine zH (zQ (wL (p:=aa) rfl) dh)<| zF (zB (df _ _ ?_))
    refine yC (b:=dg) rfl (fun ah=>?_) (fun ah=>?_)
    ·have c:=zT ah c
     obtain rfl:=gI c
     exact (xK (yH (yU (zB (meet ⟨ae,zO,H.pick [0,1,2,3,4,5,6,7,8,9,10] (by decide)⟩)))))
    have c:=zU ah c
    refine yB (zB (de _ _ ?_))
    refine zC fun gh di=>zA<| zK (.bool true)<| zF (zB (di _ _ ?_))
    obtain ⟨Q,c,dj⟩:=zD c
    refine yL [10,11,12,48,49,50,51,52,53,54,55,56,57,58,59,60,61,62,63,64,65,66,67,68,69,70,71,72,73,74,75,76,77,78] (fun (g:(List Nat))=>[(10,.bool Q.1)]) (fun g wl=>Hd O w wl S [.own (Rp.int .i64) C 3 E,.tr fJ [m] g D,.tr fG [n] y d.rules,.blk s [l,i6 d.tracks,m,n,o] 146,f1 Rp.str l d.phases,f1 Rp.bool o d.possible,.own (Rp.int .i64) h 3 f.rules,.blk u [j,k,h] 222,f1 gV j f.told,f1 Rp.bool k f.possible,.own Rp.bool z 4 Q.2]) ?_ ?_
    ·skip
     refine zC fun gj dk=>zA<| zI (gU s)<| zH (zN rfl)<| zH (fa146_2 rfl)<| Ld one142 H 3 2 rfl rfl ?_
     obtain ⟨dl,dm,c⟩:=zG c
     obtain ⟨gl,gm,dn⟩:=kN ((H.item (i:=1) rfl))
     refine zH (yJ (xN u142 dn) (congrArg (Value.int .i64) dm))<| zI (i6 0)<| zF (zB (dk _ _ ?_))
     refine yF ?_
     unfold Fc3 at c
     obtain ⟨dp,bc,dq,c⟩:=yR c
     refine xG [10,11,12,53,54,55,56,57,58,59,60,61,62,63,64,65,66,67,68,69,70,71,72,73,74,75,76,77,78] (fun (g:Nat×Int×(List Bool)×(List Nat))=>[(10,.bool true),(53,i6 g.2.1)]) (fun g wl=>Hd O w wl S [.own (Rp.int .i64) C 3 E,.tr fJ [m] g.2.2.2 D,.tr fG [n] y d.rules,.blk s [l,i6 d.tracks,m,n,o] 146,f1 Rp.str l d.phases,f1 Rp.bool o d.possible,.own (Rp.int .i64) h 3 f.rules,.blk u [j,k,h] 222,f1 gV j f.told,f1 Rp.bool k f.possible,.own Rp.bool z 4 g.2.2.1]∧eF dp g.1 (g.2.1,g.2.2.1)=some Q) (fun g=>g.1) (bc,0,cy,ae) (zL rfl (zL rfl zO)) ⟨H.pick [0,1,2,3,4,5,6,7,8,9,10] (by decide),c⟩ ?_
     clear H c
     rintro ⟨bc,G,J,dr⟩ ρ gn ⟨H,c⟩
     obtain ⟨ds,rfl,c⟩:=yX c
     have c:=yY dq c
     refine zC fun go dt=>zA ?_
     obtain ⟨du,dv,c⟩:=zG c
     refine zH (zQ (xR (a:=G) (b:=dl) rfl rfl) dv)<| zF (zB (dt _ _ ?_))
     refine zC fun gp dw=>?_
     refine yC (b:=du) rfl (fun ai=>?_) (fun ai=>?_)
     ·have c:=zT ai c
      refine yB (zB (dw _ _ ?_))
      obtain ⟨dx,dy,c⟩:=wJ c
      refine yL [10,11,12,55,56,57,58,59,60,61,62,63,64,65,66,67,68,69,70,71,72,73,74,75,76,77] (fun (g:(List Bool)×(List Nat))=>[(10,.bool true)]) (fun g wl=>Hd O w wl S [.own (Rp.int .i64) C 3 E,.tr fJ [m] g.2 D,.tr fG [n] y d.rules,.blk s [l,i6 d.tracks,m,n,o] 146,f1 Rp.str l d.phases,f1 Rp.bool o d.possible,.own (Rp.int .i64) h 3 f.rules,.blk u [j,k,h] 222,f1 gV j f.told,f1 Rp.bool k f.possible,.own Rp.bool z 4 g.1]∧dx g.1=some Q) ?_ ?_
      ·skip
       refine yF ?_
       refine zC fun gq dz=>zA<| zI (i6 G) ?_
       obtain ⟨q,K,c⟩:=zD c
       obtain ⟨gr,gs,gt,aj⟩:=kG (H.item (i:=1) rfl) K
       refine zH (xJ u142 sz172 aj rfl (yE K).1 (yE K).2.1 rfl rfl) ?_
       obtain ⟨gu,R,gv,H⟩:=H.focusV 1 rfl aj K rfl
       obtain ⟨A,ak,rfl,H⟩:=rtEventMove_open H 11 rfl
       have H:Hd _ _ _ _ [.own (Rp.int .i64) C 3 E,.tr fG [n] y d.rules,.blk s [l,i6 d.tracks,m,n,o] 146,f1 Rp.str l d.phases,f1 Rp.bool o d.possible,.own (Rp.int .i64) h 3 f.rules,.blk u [j,k,h] 222,f1 gV j f.told,f1 Rp.bool k f.possible,.own Rp.bool z 4 J,.tr (Rt.row fK 172 [(G.toNat,[i6 q.from_,i6 q.to,A])]) [m] R D,.tr gY [A] ak q.when]:=H
       refine zH (yJ (yM (cs:=[i6 q.from_,i6 q.to,A]) agg172 rfl sz172 rfl (H.holeW 10 rfl aj K rfl dK)) rfl)<| yP rfl rfl (xH zero172 H) ?_
       rintro _ gw ⟨L,rfl,H⟩
       refine zK (i6 G)<| yV rfl (yQ (vs:=[i6 q.from_,i6 q.to,A]) H 12 rfl sz172 rfl rfl rfl ⟨rfl,rfl,(bF (H.item (i:=11) rfl)),trivial⟩ rfl) ?_
       rintro gx H
       refine zF (zB (dz _ _ ?_))
       refine zC fun gy d0=>?_
       obtain ⟨bd,c,d1⟩:=zD c
       refine yL [58,59,60,61,62,63,64,65,66,67,68] (fun (g:(List Nat))=>[(68,.bool bd)]) (fun g wl=>Hd O w wl S [.own (Rp.int .i64) C 3 E,.tr fG [n] y d.rules,.blk s [l,i6 d.tracks,m,n,o] 146,f1 Rp.str l d.phases,.tr fJ [m] g D,f1 Rp.bool o d.possible,.own (Rp.int .i64) h 3 f.rules,.blk u [j,k,h] 222,f1 gV j f.told,f1 Rp.bool k f.possible,.own Rp.bool z 4 J,.blk L [i6 q.from_,i6 q.to,A] 172]) ?_ ?_
       ·skip
        refine zA ?_
        refine zH (fa172_0 rfl)<| Ld fU H 12 0 rfl rfl<| zI (i6 I) ?_
        obtain ⟨d2,d3,c⟩:=zG c
        refine zH (zQ (dH (a:=q.from_) (b:=I) rfl rfl) d3)<| yS (b:=d2) rfl rfl rfl (fun al=>?_) (fun al=>?_)
        ·have c:=zT al c
         refine yI ?_
         refine yI ?_
         refine yI ?_
         refine yI ?_
         refine yI ?_
         refine zH (yO (v:= .bool true) rfl rfl) ?_
         have H:Hd _ _ _ _ [.own (Rp.int .i64) C 3 E,.tr fG [n] y d.rules,.blk s [l,i6 d.tracks,m,n,o] 146,f1 Rp.str l d.phases,f1 Rp.bool o d.possible,.own (Rp.int .i64) h 3 f.rules,.blk u [j,k,h] 222,f1 gV j f.told,f1 Rp.bool k f.possible,.own Rp.bool z 4 J,.tr (Rt.row fK 172 [(G.toNat,[i6 q.from_,i6 q.to,A])]) [m] R D,.tr gY [A] ak q.when,.blk L [i6 q.from_,i6 q.to,A] 172]:=H
         obtain ⟨d4,H⟩:=aH (x:=q) H 11 rfl
         have H:Hd _ _ _ _ [.own (Rp.int .i64) C 3 E,.tr fG [n] y d.rules,.blk s [l,i6 d.tracks,m,n,o] 146,f1 Rp.str l d.phases,f1 Rp.bool o d.possible,.own (Rp.int .i64) h 3 f.rules,.blk u [j,k,h] 222,f1 gV j f.told,f1 Rp.bool k f.possible,.own Rp.bool z 4 J,.tr (Rt.row fK 172 [(G.toNat,[i6 q.from_,i6 q.to,A])]) [m] R D,.blk L [i6 q.from_,i6 q.to,A] 172,.tr fK [i6 q.from_,i6 q.to,A] d4 q]:=H
         obtain ⟨be,H⟩:=H.unfocus0 10 12 rfl rfl (by decide) rfl rfl K
         have H:Hd _ _ _ _ [.own (Rp.int .i64) C 3 E,.tr fG [n] y d.rules,.blk s [l,i6 d.tracks,m,n,o] 146,f1 Rp.str l d.phases,f1 Rp.bool o d.possible,.own (Rp.int .i64) h 3 f.rules,.blk u [j,k,h] 222,f1 gV j f.told,f1 Rp.bool k f.possible,.own Rp.bool z 4 J,.blk L [i6 q.from_,i6 q.to,A] 172,.tr fJ [m] be D]:=H
         obtain rfl:=gI c
         exact (zF (zB (meet ⟨be,(zL rfl zO),H.pick [0,1,2,3,11,4,5,6,7,8,9,10] (by decide)⟩)))
        have c:=zU al c
        refine zI C<| zI (i6 G) ?_
        obtain ⟨bf,am,c⟩:=zD c
        obtain ⟨gz,g0,d5,d6,d7,d8⟩:=kT (H.item (i:=0) rfl) am
        obtain rfl:d5= [i6 bf]:=d7
        refine zH (xJ u38 sz3 d6 rfl (yE am).1 (yE am).2.1 rfl rfl)<| zH (xA fU rfl (Cells.get d8 (i:=0) rfl)) ?_
        obtain ⟨d9,ea,c⟩:=zG c
        refine zH (zQ (yT (a:=bf) (b:=1) rfl rfl) ea)<| zH (yN (v:= .bool d9) rfl rfl) ?_
        have H:Hd _ _ _ _ [.own (Rp.int .i64) C 3 E,.tr fG [n] y d.rules,.blk s [l,i6 d.tracks,m,n,o] 146,f1 Rp.str l d.phases,f1 Rp.bool o d.possible,.own (Rp.int .i64) h 3 f.rules,.blk u [j,k,h] 222,f1 gV j f.told,f1 Rp.bool k f.possible,.own Rp.bool z 4 J,.tr (Rt.row fK 172 [(G.toNat,[i6 q.from_,i6 q.to,A])]) [m] R D,.tr gY [A] ak q.when,.blk L [i6 q.from_,i6 q.to,A] 172]:=H
        obtain ⟨eb,H⟩:=aH (x:=q) H 11 rfl
        have H:Hd _ _ _ _ [.own (Rp.int .i64) C 3 E,.tr fG [n] y d.rules,.blk s [l,i6 d.tracks,m,n,o] 146,f1 Rp.str l d.phases,f1 Rp.bool o d.possible,.own (Rp.int .i64) h 3 f.rules,.blk u [j,k,h] 222,f1 gV j f.told,f1 Rp.bool k f.possible,.own Rp.bool z 4 J,.tr (Rt.row fK 172 [(G.toNat,[i6 q.from_,i6 q.to,A])]) [m] R D,.blk L [i6 q.from_,i6 q.to,A] 172,.tr fK [i6 q.from_,i6 q.to,A] eb q]:=H
        obtain ⟨bg,H⟩:=H.unfocus0 10 12 rfl rfl (by decide) rfl rfl K
        have H:Hd _ _ _ _ [.own (Rp.int .i64) C 3 E,.tr fG [n] y d.rules,.blk s [l,i6 d.tracks,m,n,o] 146,f1 Rp.str l d.phases,f1 Rp.bool o d.possible,.own (Rp.int .i64) h 3 f.rules,.blk u [j,k,h] 222,f1 gV j f.told,f1 Rp.bool k f.possible,.own Rp.bool z 4 J,.blk L [i6 q.from_,i6 q.to,A] 172,.tr fJ [m] bg D]:=H
        obtain rfl:=gI c
        exact (zF (zB (meet ⟨bg,(zL rfl zO),H.pick [0,1,2,3,11,4,5,6,7,8,9,10] (by decide)⟩)))
       rintro an ρ g1 H
       have c:=d1
       refine yC (b:=bd) rfl (fun ao=>?_) (fun ao=>?_)
       ·have c:=zT ao c
        exact (xK (yH (yU (zB (meet ⟨(J,an),(zL rfl zO),⟨H.pick [0,4,1,2,3,5,6,7,8,9,10] (by decide),c⟩⟩)))))
       have c:=zU ao c
       refine yB (zB (d0 _ _ ?_))
       refine zC fun g2 ec=>zA<| zI z<| zH (fa172_1 rfl)<| Ld fU H 11 1 rfl rfl ?_
       obtain ⟨ed,ap,c⟩:=zD c
       obtain ⟨g3,g4,ee,bh,ef,eg⟩:=kT (H.item (i:=10) rfl) ap
       obtain rfl:ee= [.bool ed]:=ef
       refine zH (xJ u144 sz4 bh rfl (yE ap).1 (yE ap).2.1 rfl rfl) ?_
       obtain ⟨eh,ei,c⟩:=zD c
       refine yV rfl (Lx_own_store (vs:=[.bool true]) (off:=0) H 10 rfl bh eg rfl sz4 rfl rfl rfl (kV ⟨rfl,trivial⟩) ei (by decide) rfl rfl) ?_
       rintro g5 H
       refine zF (zB (ec _ _ ?_))
       refine zC fun g6 ej=>zA<| zI C<| zI (i6 G) ?_
       obtain ⟨bi,aq,c⟩:=zD c
       obtain ⟨g7,g8,ek,el,em,en⟩:=kT (H.item (i:=0) rfl) aq
       obtain rfl:ek= [i6 bi]:=em
       refine zH (xJ u38 sz3 el rfl (yE aq).1 (yE aq).2.1 rfl rfl)<| zH (xA fU rfl (Cells.get en (i:=0) rfl)) ?_
       obtain ⟨eo,ep,c⟩:=zG c
       refine zH (zQ (yT (a:=bi) (b:=2) rfl rfl) ep)<| zF (zB (ej _ _ ?_))
       refine yC (b:=eo) rfl (fun ar=>?_) (fun ar=>?_)
       ·have c:=zT ar c
        refine zC fun g9 er=>zA<| zK (.bool false)<| zF (zB (er _ _ ?_))
        obtain rfl:=gI c
        exact (xK (blockQ_x rfl (yH (yH (yU (zB (meet ⟨an,(zL rfl zO),H.pick [0,4,1,2,3,5,6,7,8,9,10] (by decide)⟩)))))))
       have c:=zU ar c
       exact (yB (yK (zB (meet ⟨(eh,an),(zL rfl zO),⟨H.pick [0,4,1,2,3,5,6,7,8,9,10] (by decide),c⟩⟩))))
      rintro ⟨es,et⟩ ρ ha ⟨H,c⟩
      have c:=dE dy c
      refine zA ?_
      obtain ⟨bj,eu,c⟩:=zG c
      refine zH (xQ (a:=G) (b:=1) rfl rfl eu)<| zI (i6 bj) ?_
      exact (zF (zB (meet ⟨(ds,bj,es,et),(zL rfl (zL rfl zO)),⟨H.pick [0,1,2,3,4,5,6,7,8,9,10] (by decide),c⟩,Nat.lt_succ_self _⟩)))
     have c:=zU ai c
     obtain rfl:=gI c
     exact (xK (yH (yH (yU (zB (meet ⟨dr,(zL rfl zO),H.pick [0,1,2,3,4,5,6,7,8,9,10] (by decide)⟩))))))
    rintro bk ρ hb H
    have c:=dj
    obtain ⟨au,hc⟩:=Q
    refine zA ?_
    refine zI z<| zI (i6 I)<| zI z<| zI (i6 I) ?_
    obtain ⟨bl,av,c⟩:=zD c
    obtain ⟨he,hf,ew,ex,ey,ez⟩:=kT (H.item (i:=10) rfl) av
    obtain rfl:ew= [.bool bl]:=ey
    refine zH (xJ u144 sz4 ex rfl (yE av).1 (yE av).2.1 rfl rfl)<| zH (xA one4 rfl (Cells.get ez (i:=0) rfl))<| yS (b:=bl) rfl rfl rfl (fun aw=>?_) (fun aw=>?_)
    ·have c:=zT aw c
     refine yI ?_
     refine zH (yO (v:= .bool true) rfl rfl) ?_
     obtain ⟨e0,ax,c⟩:=zD c
     obtain ⟨hg,hh,e1,bm,e2,e3⟩:=kT (H.item (i:=10) rfl) ax
     obtain rfl:e1= [.bool e0]:=e2
     refine zH (xJ u144 sz4 bm rfl (yE ax).1 (yE ax).2.1 rfl rfl) ?_
     obtain ⟨hi,e4,c⟩:=zD c
     refine yV rfl (Lx_own_store (vs:=[.bool true]) (off:=0) H 10 rfl bm e3 rfl sz4 rfl rfl rfl (kV ⟨rfl,trivial⟩) e4 (by decide) rfl rfl) ?_
     rintro hj H
     obtain rfl:=gI c
     exact (zF (yK (zB (meet ⟨bk,zO,H.pick [0,1,2,3,4,5,6,7,8,9,10] (by decide)⟩))))
    have c:=zU aw c
    refine zI (.bool au)<| zH (yN (v:= .bool au) rfl rfl) ?_
    obtain ⟨e5,ay,c⟩:=zD c
    obtain ⟨hk,hl,e6,bn,e7,e8⟩:=kT (H.item (i:=10) rfl) ay
    obtain rfl:e6= [.bool e5]:=e7
    refine zH (xJ u144 sz4 bn rfl (yE ay).1 (yE ay).2.1 rfl rfl) ?_
    obtain ⟨hn,e9,c⟩:=zD c
    refine yV rfl (Lx_own_store (vs:=[.bool au]) (off:=0) H 10 rfl bn e8 rfl sz4 rfl rfl rfl (kV ⟨rfl,trivial⟩) e9 (by decide) rfl rfl) ?_
    rintro ho H
    obtain rfl:=gI c
    exact (zF (yK (zB (meet ⟨bk,zO,H.pick [0,1,2,3,4,5,6,7,8,9,10] (by decide)⟩))))
   rintro fa ρ hp H
   have c:=c4
   refine zA ?_
   obtain ⟨bo,fb,c⟩:=zG c
   refine zH (xQ (a:=I) (b:=1) rfl rfl fb)<| zI (i6 bo) ?_
   exact (zF (zB (meet ⟨(cz,bo,bb,fa),(zL rfl zO),⟨H.pick [0,1,2,3,4,5,6,7,8,9,10] (by decide),c⟩,Nat.lt_succ_self _⟩)))
  have c:=zU af c
  obtain rfl:=gI c
  exact (xK (yH (yH (yU (zB (meet ⟨ae,zO,H.pick [1,2,3,4,5,6,7,8,9,10] (by decide)⟩))))))
 rintro fc ρ hq H
 have c:=cq
 refine zA ?_
 refine zI (gU s)<| zI z<| zH (zN rfl)<| zH (fa146_4 rfl)<| yV rfl (xE H 2 rfl sz144 rfl (v:=z) rfl (bY (H.item (i:=9) rfl)) rfl) ?_
 rintro hr H
 have H:=H.freeze (i:=9) rfl
 obtain rfl:=gI c
 refine (zF (post0n rfl ?_))
 exact ⟨l,m,fc,n,y,z,rfl,H.pick [3,0,1,9,2,5,6] (by decide)⟩
theorem Fa8w (z:gW)(s:List eH)(p:Nat)(L:Value)(R:Value)(Y:List Nat)(T:Value)(Z:List Nat)(M:Value)(h:Value)(r:(List Int)×gW)(j:Fa8 z s=some r)(O S:List Nat)(w:World)(H:Hd O w w S [.tr fJ [R] Y z.moves,.tr fG [T] Z z.rules,.blk p [L,i6 z.tracks,R,T,M] 146,f1 Rp.str L z.phases,f1 Rp.bool M z.possible,f1 gV h s]):
  Cl 78 [gU p,h] w fun e A=> ∃aa ab ac ap ad aq ae,e= .returned (aa)∧Hd O w A S [.own (Rp.int .i64) aa 3 r.1,f1 Rp.str ab r.2.phases,.tr fJ [ac] ap r.2.moves,.tr fG [ad] aq r.2.rules,f1 Rp.bool ae r.2.possible,.blk p [ab,i6 r.2.tracks,ac,ad,ae] 146]:=by
 unfold Fa8 at j
 refine zS 47 Tryz.func78 rfl rfl rfl ?_
 refine zC fun b3 ar=>zA<| zK (.slice none 0 0)<| zF (zB (ar _ _ ?_))
 refine zC fun b4 au=>zA<| zI h ?_
 obtain ⟨av,aw,ax⟩: ∃a c,h= .slice a _ c:=SlF.len ((H.item (i:=5) rfl))
 refine zH (xM (cs:=[h,.slice none 0 0,.slice none 0 0]) (by rw [ax]; exact bt222_0 av _ aw))<| yP rfl rfl (xW (cs:=[h,.slice none 0 0,.slice none 0 0]) rfl H) ?_
 rintro _ b5 ⟨o,rfl,H⟩
 refine zK (gU o)<| zF (zB (au _ _ ?_))
 refine zC fun b6 ay=>zA<| zI (gU p)<| zI (gU o) ?_
 have H:=H.fz (.sl Rp.bool (.slice none 0 0) []) SlF.nil
 have H:=dY H (Rp.int .i64) 3
 obtain ⟨d,az,j⟩:=zD j
 refine yA rfl rfl (zV en141 rfl) (Fb0w (gW.mk z.phases z.tracks z.moves z.rules z.possible) (gJ.mk s [] []) p L R Y T Z M o h (.slice none 0 0) (.slice none 0 0) _ az _ _ _ (H.enter [0,1,2,8,6] [3,4,5,7] (by decide) rfl)) ?_
 rintro _ a0 ⟨k,l,u,m,af,f,rfl,a1⟩
 have H:Hd _ _ a0 _ [f1 Rp.str L z.phases,f1 Rp.bool M z.possible,f1 gV h s,.fz (.sl Rp.bool (.slice none 0 0) []),f1 Rp.str k d.phases,.tr fJ [l] u d.moves,.tr fG [m] af d.rules,f1 Rp.bool f d.possible,.blk p [k,i6 d.tracks,l,m,f] 146,.own (Rp.int .i64) (.slice none 0 0) 3 [],.blk o [h,.slice none 0 0,.slice none 0 0] 222]:=H.back [0,1,2,8,6] [3,4,5,7] rfl a1
 refine ⟨_,rfl,?_⟩
 refine zF (zB (ay _ _ ?_))
 refine zC fun b7 a2=>zA<| zI (gU o)<| zI (gU p)<| zH (zN rfl)<| zH (fa146_4 rfl)<| Ld one144 H 8 4 rfl rfl<| zH (zN rfl)<| zH (fa222_1 rfl)<| yV rfl (xE H 10 rfl sz144 rfl (v:=f) rfl (wH (H.item (i:=7) rfl)) rfl) ?_
 rintro b8 H
 refine zF (zB (a2 _ _ ?_))
 obtain ⟨N,j,a3⟩:=zD j
 refine yL [7,21,22,23,24,25,26,27,28,29,30,31,32,33,34,35,36,37,38,39,40,41,42] (fun (g:(List Nat)×Value)=>[]) (fun g wl=>Hd O w wl S [f1 gV h s,f1 Rp.str k d.phases,.tr fJ [l] u d.moves,.tr fG [m] g.1 N.1,f1 Rp.bool f d.possible,.blk p [k,i6 d.tracks,l,m,f] 146,.own (Rp.int .i64) g.2 3 N.2,.blk o [h,f,g.2] 222]) ?_ ?_
 ·skip
  refine zC fun b9 a4=>zA<| zI (gU p)<| zH (zN rfl)<| zH (fa146_3 rfl)<| Ld one143 H 8 3 rfl rfl ?_
  obtain ⟨a5,a6,j⟩:=zG j
  obtain ⟨ca,cb,a7⟩:=kN ((H.item (i:=6) rfl))
  refine zH (yJ (xN u143 a7) (congrArg (Value.int .i64) a6))<| zI (i6 0)<| zF (zB (a4 _ _ ?_))
  refine yF ?_
  unfold Fdc at j
  obtain ⟨a8,ag,a9,j⟩:=yR j
  refine xG [7,26,27,28,29,30,31,32,33,34,35,36,37,38,39,40,41,42] (fun (g:Nat×Int×(List Nd)×(List Int)×(List Nat)×Value)=>[(26,i6 g.2.1)]) (fun g wl=>Hd O w wl S [f1 gV h s,f1 Rp.str k d.phases,.tr fJ [l] u d.moves,.tr fG [m] g.2.2.2.2.1 g.2.2.1,f1 Rp.bool f d.possible,.blk p [k,i6 d.tracks,l,m,f] 146,.own (Rp.int .i64) g.2.2.2.2.2 3 g.2.2.2.1,.blk o [h,f,g.2.2.2.2.2] 222]∧eF a8 g.1 (g.2.1,g.2.2.1,g.2.2.2.1)=some N) (fun g=>g.1) (ag,0,d.rules,[],af,.slice none 0 0) (zL rfl zO) ⟨H.pick [2,4,5,6,7,8,9,10] (by decide),j⟩ ?_
  clear H j
  rintro ⟨ag,y,B,D,ba,q⟩ ρ P ⟨H,j⟩
  obtain ⟨bb,rfl,j⟩:=yX j
  have j:=yY a9 j
  refine zC fun cc bc=>zA ?_
  obtain ⟨bd,be,j⟩:=zG j
  refine zH (zQ (xR (a:=y) (b:=a5) rfl rfl) be)<| zF (zB (bc _ _ ?_))
  refine zC fun cd bf=>?_
  refine yC (b:=bd) rfl (fun U=>?_) (fun U=>?_)
  ·have j:=zT U j
   refine yB (zB (bf _ _ ?_))
   refine zC fun ce bg=>?_
   refine yF ?_
   refine zC fun cf bh=>zA ?_
   obtain ⟨F,J,j⟩:=zD j
   obtain ⟨cg,ch,ci,V⟩:=kG (H.item (i:=3) rfl) J
   refine zH (xJ u143 sz170 V rfl (yE J).1 (yE J).2.1 rfl rfl) ?_
   obtain ⟨cj,C,G,H⟩:=H.focusV 3 rfl V J rfl
   obtain ⟨n,rfl⟩:=tr_cell rfl (H.item (i:=8) rfl)
   have H:Hd _ _ _ _ [f1 gV h s,f1 Rp.str k d.phases,.tr fJ [l] u d.moves,f1 Rp.bool f d.possible,.blk p [k,i6 d.tracks,l,m,f] 146,.own (Rp.int .i64) q 3 D,.blk o [h,f,q] 222,.tr (Rt.row gY 170 [(y.toNat,[n])]) [m] C B,.tr gY [n] G F]:=H
   refine zH (xA bP rfl (Cells.get (H.holeW 7 rfl V J rfl dK) (i:=0) rfl))<| zK n<| zF (zB (bh _ _ ?_))
   have bi:=H
   have H:=H.rebase
   have bj:=H
   have ah:Hd (O++bks (rest [2,4,5,6,7,8] [f1 gV h s,f1 Rp.str k d.phases,.tr fJ [l] u d.moves,f1 Rp.bool f d.possible,.blk p [k,i6 d.tracks,l,m,f] 146,.own (Rp.int .i64) q 3 D,.blk o [h,f,q] 222,.tr (Rt.row gY 170 [(y.toNat,[n])]) [m] C B,.tr gY [n] G F])) P P (bks (Go.Lf.pick ([2,4,5,6,7,8]++ [0,1,3]) [f1 gV h s,f1 Rp.str k d.phases,.tr fJ [l] u d.moves,f1 Rp.bool f d.possible,.blk p [k,i6 d.tracks,l,m,f] 146,.own (Rp.int .i64) q 3 D,.blk o [h,f,q] 222,.tr (Rt.row gY 170 [(y.toNat,[n])]) [m] C B,.tr gY [n] G F])) [.tr fJ [l] u d.moves,.blk p [k,i6 d.tracks,l,m,f] 146,.own (Rp.int .i64) q 3 D,.blk o [h,f,q] 222,.tr (Rt.row gY 170 [(y.toNat,[n])]) [m] C B,.tr gY [n] G F,f1 gV h s,f1 Rp.str k d.phases,f1 Rp.bool f d.possible]:=H.enter [2,4,5,6,7,8] [0,1,3] (by decide) rfl
   refine WP_forkM H ah [0,1,2,3,5,6] 4 7 [8,9,10,11,12] [] [.pure,.pure,.pure,.pure,.read,.pure,.pure,.eff,.new,.eff,.pure,.pure,.eff] ⟨trivial,trivial,trivial,trivial,trivial,trivial,trivial,trivial,trivial,trivial,trivial,trivial,trivial,trivial⟩ mixed (by kernel_rfl) (by kernel_rfl) (by kernel_rfl) (by kernel_rfl) (by kernel_rfl) (by decide) ?_
   have H:=ah
   refine XM (gU o)<| XM (gU o)<| XP (fun _ _=>zN rfl)<| XP (fun _ _=>fa222_2 rfl)<| XM n<| XM (gU o)<| MxM.xI fun ck hS=>?_
   have H:=H.sees hS
   obtain ⟨x,ai,j⟩:=zD j
   refine MxM.XL_join (du:=34) (dv:=37) (fun g1 g2 wl=> ∃(I:List Nat),q=g1∧i6 x.1=g2∧Hd (O++bks (rest [2,4,5,6,7,8] [f1 gV h s,f1 Rp.str k d.phases,.tr fJ [l] u d.moves,f1 Rp.bool f d.possible,.blk p [k,i6 d.tracks,l,m,f] 146,.own (Rp.int .i64) q 3 D,.blk o [h,f,q] 222,.tr (Rt.row gY 170 [(y.toNat,[n])]) [m] C B,.tr gY [n] G F])) P wl (bks (Go.Lf.pick ([2,4,5,6,7,8]++ [0,1,3]) [f1 gV h s,f1 Rp.str k d.phases,.tr fJ [l] u d.moves,f1 Rp.bool f d.possible,.blk p [k,i6 d.tracks,l,m,f] 146,.own (Rp.int .i64) q 3 D,.blk o [h,f,q] 222,.tr (Rt.row gY 170 [(y.toNat,[n])]) [m] C B,.tr gY [n] G F])) [.tr fJ [l] u d.moves,.blk p [k,i6 d.tracks,l,m,f] 146,.tr (Rt.row gY 170 [(y.toNat,[n])]) [m] C B,f1 gV h s,f1 Rp.str k d.phases,f1 Rp.bool f d.possible,.tr gY [n] I x.2,.own (Rp.int .i64) q 3 D,.blk o [h,f,q] 222]) ?_ ?_ ?_
   ·skip
    refine XR one38 H 3 2 rfl rfl ?_
    obtain ⟨bm,bn,aj⟩:=Fao (H.item (i:=5) rfl)
    refine MxM.XL_effC oS rfl rfl rfl (fun A t=>aA aj rfl rfl) (fun A t=>Ffb F (gJ.mk s d.possible D) n G o h f q bm bn aj _ ai _ _ _ ((H.sees t).enter [5,2,3] [6,8] (by decide) rfl)) ?_
    rintro A _ bo t ⟨I,rfl,bp⟩
    have H:Hd _ _ bo _ [.tr fJ [l] u d.moves,.blk p [k,i6 d.tracks,l,m,f] 146,.tr (Rt.row gY 170 [(y.toNat,[n])]) [m] C B,f1 gV h s,f1 Rp.str k d.phases,f1 Rp.bool f d.possible,.tr gY [n] I x.2,.own (Rp.int .i64) q 3 D,.blk o [h,f,q] 222]:=(H.sees t).back [5,2,3] [6,8] rfl bp
    refine ⟨_,rfl,H.only,?_⟩
    refine MxM.xI fun cl hS=>?_
    have H:=H.sees hS
    exact ⟨_,_,rfl,H.only,I,rfl,rfl,H⟩
   ·skip
    obtain ⟨bq,br,ak⟩:=Fao (H.item (i:=5) rfl)
    refine MxM.XL_effC oS rfl rfl rfl (fun A t=>aA ak rfl rfl) (fun A t=>Ffb F (gJ.mk s d.possible D) n G o h f q bq br ak _ ai _ _ _ ((H.sees t).enter [5,2,3] [6,8] (by decide) rfl)) ?_
    rintro A _ bt t ⟨al,rfl,bu⟩
    have H:Hd _ _ bt _ [.tr fJ [l] u d.moves,.blk p [k,i6 d.tracks,l,m,f] 146,.tr (Rt.row gY 170 [(y.toNat,[n])]) [m] C B,f1 gV h s,f1 Rp.str k d.phases,f1 Rp.bool f d.possible,.tr gY [n] al x.2,.own (Rp.int .i64) q 3 D,.blk o [h,f,q] 222]:=(H.sees t).back [5,2,3] [6,8] rfl bu
    refine ⟨_,rfl,H.only,?_⟩
    refine XR one38 H 8 2 rfl rfl<| MxM.xI fun cm hS=>?_
    have H:=H.sees hS
    exact ⟨_,_,MxM.upd_comm _ (by decide) _ _,H.only,al,rfl,rfl,H⟩
   rintro M' _ _ cn ⟨I,rfl,rfl,H⟩
   obtain ⟨co,bv,j⟩:=zG j
   subst bv
   refine MxM.XL_exN oS rfl rfl rfl (fun A t=>Ls_of (kM (r:=(Rp.int .i64)) (xl:=[x.1]) (cs:=[i6 x.1]) u38 el3 (by decide) (by decide) rfl (xP (vs:=[i6 x.1]) (by decide) rfl rfl ⟨rfl,trivial⟩ rfl) (H.sees t) ⟨[i6 x.1],[],rfl,rfl,rfl⟩) (Ys_bs (cs:=[i6 x.1]) u38 el3 (by decide) (by decide) (xP (vs:=[i6 x.1]) (by decide) rfl rfl ⟨rfl,trivial⟩ rfl))) ?_
   rintro A Q cp t H
   obtain ⟨K,bw,j⟩:=zD j
   refine MxM.XL_ex oS rfl rfl rfl (fun A t=>aO (H.sees t) (i:=7) rfl u38 el3 rfl rfl (Sr.of_own ((H.sees t).item (i:=9) rfl)) bw) ?_
   rintro A E cq t H
   refine ⟨H.only,?_⟩
   refine XP (fun _ _=>zN rfl)<| XP (fun _ _=>fa222_2 rfl)<| MxM.XL_exU oS rfl rfl (fun A t=>xE (H.sees t) 8 rfl sz38 rfl (v:=E) rfl (bY ((H.sees t).item (i:=7) rfl)) rfl) ?_
   rintro A cr t H
   refine ⟨H.only,?_⟩
   refine MxM.xI fun bx hS=>?_
   have H:=H.sees hS
   have H:=bj.back [2,4,5,6,7,8] [0,1,3] rfl H
   have H:Hd _ _ _ _ [f1 gV h s,f1 Rp.str k d.phases,f1 Rp.bool f d.possible,.tr fJ [l] u d.moves,.blk p [k,i6 d.tracks,l,m,f] 146,.tr (Rt.row gY 170 [(y.toNat,[n])]) [m] C B,f1 gV h s,f1 Rp.str k d.phases,f1 Rp.bool f d.possible,.tr gY [n] I x.2,.own (Rp.int .i64) E 3 K,.blk o [h,f,E] 222,.own (Rp.int .i64) Q 3 ([x.1]:List Int)]:=H
   have H:Hd O P bx (bks [f1 gV h s,f1 Rp.str k d.phases,.tr fJ [l] u d.moves,f1 Rp.bool f d.possible,.blk p [k,i6 d.tracks,l,m,f] 146,.own (Rp.int .i64) q 3 D,.blk o [h,f,q] 222,.tr (Rt.row gY 170 [(y.toNat,[n])]) [m] C B,.tr gY [n] G F]) [.tr fJ [l] u d.moves,.blk p [k,i6 d.tracks,l,m,f] 146,.tr (Rt.row gY 170 [(y.toNat,[n])]) [m] C B,f1 gV h s,f1 Rp.str k d.phases,f1 Rp.bool f d.possible,.tr gY [n] I x.2,.own (Rp.int .i64) E 3 K,.blk o [h,f,E] 222,.own (Rp.int .i64) Q 3 ([x.1]:List Int)]:=H.pick [3,4,5,6,7,8,9,10,11,12] (by decide)
   refine ⟨H.only,?_⟩
   refine MxM.xI fun ct hS=>?_
   have H:=H.sees hS
   have H:=bi.rejoin H
   refine yK (zB (bg _ _ ?_))
   refine zA ?_
   obtain ⟨am,bz,j⟩:=zG j
   refine zH (xQ (a:=y) (b:=1) rfl rfl bz)<| zI (i6 am) ?_
   have H:Hd _ _ _ _ [.tr fJ [l] u d.moves,.blk p [k,i6 d.tracks,l,m,f] 146,.tr (Rt.row gY 170 [(y.toNat,[n])]) [m] C B,f1 gV h s,f1 Rp.str k d.phases,f1 Rp.bool f d.possible,.tr gY [n] I x.2,.own (Rp.int .i64) E 3 K,.blk o [h,f,E] 222,.own (Rp.int .i64) Q 3 ([x.1]:List Int)]:=H
   obtain ⟨an,b0,j⟩:=zD j
   obtain ⟨ao,H⟩:=H.unfocus 2 6 rfl rfl (by decide) rfl rfl b0
   have H:Hd _ _ _ _ [.tr fJ [l] u d.moves,.blk p [k,i6 d.tracks,l,m,f] 146,f1 gV h s,f1 Rp.str k d.phases,f1 Rp.bool f d.possible,.own (Rp.int .i64) E 3 K,.blk o [h,f,E] 222,.own (Rp.int .i64) Q 3 ([x.1]:List Int),.tr fG [m] ao an]:=H
   exact (zF (zB (meet ⟨(bb,am,an,K,ao,E),(zL rfl zO),⟨H.pick [2,3,0,8,4,1,5,6] (by decide),j⟩,Nat.lt_succ_self _⟩)))
  have j:=zU U j
  obtain rfl:=gI j
  exact (xK (yH (yH (yU (zB (meet ⟨(ba,q),zO,H.pick [0,1,2,3,4,5,6,7] (by decide)⟩))))))
 rintro ⟨b1,X⟩ ρ cu H
 have j:=a3
 obtain ⟨cv,cw⟩:=N
 refine zC fun cx b2=>zA<| zI (gU o)<| zH (zN rfl)<| zH (fa222_2 rfl)<| Ld one38 H 7 2 rfl rfl<| zK X<| zF (zB (b2 _ _ ?_))
 obtain rfl:=gI j
 refine (zY (fF (v1:=X) rfl rfl ?_))
 exact ⟨X,k,l,u,m,b1,f,rfl,H.pick [6,1,2,3,4,5] (by decide)⟩
end Go.Proofs.YtckmiljbaejijaaGreatDoor.L
