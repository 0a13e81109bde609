/- Walks: what each function computes, for every argument; no condition but those that stand in the statements. -/
import Derived.Test.YtckmiljbaejijaaGreatDoorUV0
import Derived.Test.YtckmiljbaejijaaGreatDoorUV1
namespace Go.Proofs.YtckmiljbaejijaaGreatDoor.L
open Go.RowKit Go.OB Go.Lf
set_option maxHeartbeats 4000000
set_option maxRecDepth 100000 in
theorem Faaw (d:Int)(r:EventFields×Bool)(c:Faa d=some r)(O S:List Nat)(w:World)(H:Hd O w w S []):
  Calls Tryz.prog 142 ([.int .i64 d]:List Value).toArray w fun e w'=>e= .returned (.tuple #[.agg [.bool r.1.name,.bool r.1.other,.bool r.1.op,.bool r.1.n,.bool r.1.frames,.int .i64 r.1.least,.int .i64 r.1.most].toArray,.bool r.2])∧Hd O w w' S []:=by
 unfold Faa at c
 refine zW 41 Tryz.func142 rfl rfl rfl ?_
 refine zC fun K1 R=>zB ?_
 refine yY rfl rfl (xQ zero226 H) ?_
 rintro _ w4 ⟨f,rfl,H⟩
 refine zK (.bool false)<| (zG (zA (R _ _ ?_)))
 refine zC fun bk T=>?_
 refine zC fun bl U=>zB ?_
 refine zJ (.int .i64 d)<| (zG (zA (U _ _ ?_)))
 refine yH ?_
 obtain ⟨A,c,V⟩:=zF c
 refine yK [5,6,7] (fun (g:Unit)=>[(5,.bool A)]) (fun g wl=>Hd O w wl S [.blk f [.bool false,.bool false,.bool false,.bool false,.bool false,.int .i64 0,.int .i64 0] 226]) ?_ ?_
 ·skip
  refine zC fun bm X=>zB ?_
  obtain ⟨B,Y,c⟩:=zD c
  refine zH (zQ (xA (a:=d) (b:=1) rfl rfl) Y)<| zK (.bool B)<| (zG (zA (X _ _ ?_)))
  refine zZ (b:=B) rfl (fun h=>?_) (fun h=>?_)
  ·have c:=zS h c
   obtain rfl:=someI c
   exact (yA (zA (meet ⟨(),(zL rfl zM),H.pick [0] (by decide)⟩)))
  have c:=zT h c
  refine zB ?_
  obtain ⟨Z,aa,c⟩:=zD c
  refine zH (zQ (xA (a:=d) (b:=2) rfl rfl) aa)<| zK (.bool Z) ?_
  obtain rfl:=someI c
  exact (zG (zA (meet ⟨(),(zL rfl zM),H.pick [0] (by decide)⟩)))
 rintro _ ρ bn H
 have c:=V
 refine zZ (b:=A) rfl (fun j=>?_) (fun j=>?_)
 ·have c:=zS j c
  refine zC fun bo ab=>zB ?_
  refine zH (xW (cs:=[.bool false,.bool false,.bool false,.bool false,.bool false,.int .i64 0,.int .i64 0]) bz226)<| xG rfl (xH (vs:=[.bool false,.bool false,.bool false,.bool false,.bool false,.int .i64 0,.int .i64 0]) H 0 rfl sz226 rfl rfl rfl ⟨rfl,rfl,rfl,rfl,rfl,rfl,rfl,trivial⟩ rfl) ?_
  rintro bp H
  refine zK (.bool true)<| (zG (zA (ab _ _ ?_)))
  obtain rfl:=someI c
  refine (zY (yF (zV (postc1 (v1:= .bool true) rfl rfl (xJ agg226 sz226 rfl (Blk.cells (H.item (i:=0) rfl))) rfl ?_))))
  exact ⟨rfl,H.pick [] (by decide)⟩
 have c:=zT j c
 refine zC fun bq ac=>zB ?_
 obtain ⟨C,ad,c⟩:=zD c
 refine zH (zQ (xA (a:=d) (b:=3) rfl rfl) ad)<| zK (.bool C)<| (zG (zA (ac _ _ ?_)))
 refine zZ (b:=C) rfl (fun k=>?_) (fun k=>?_)
 ·have c:=zS k c
  refine zC fun br ae=>zB ?_
  refine zH (xW (cs:=[.bool true,.bool false,.bool true,.bool true,.bool false,.int .i64 0,.int .i64 0]) (bt226_0_2_3 _ _ _))<| xG rfl (xH (vs:=[.bool true,.bool false,.bool true,.bool true,.bool false,.int .i64 0,.int .i64 0]) H 0 rfl sz226 rfl rfl rfl ⟨rfl,rfl,rfl,rfl,rfl,rfl,rfl,trivial⟩ rfl) ?_
  rintro bt H
  refine zK (.bool true)<| (zG (zA (ae _ _ ?_)))
  obtain rfl:=someI c
  refine (zY (yF (zV (postc1 (v1:= .bool true) rfl rfl (xJ agg226 sz226 rfl (Blk.cells (H.item (i:=0) rfl))) rfl ?_))))
  exact ⟨rfl,H.pick [] (by decide)⟩
 have c:=zT k c
 refine zC fun bu af=>zB ?_
 obtain ⟨D,ag,c⟩:=zD c
 refine zH (zQ (xA (a:=d) (b:=4) rfl rfl) ag)<| zK (.bool D)<| (zG (zA (af _ _ ?_)))
 refine zZ (b:=D) rfl (fun l=>?_) (fun l=>?_)
 ·have c:=zS l c
  refine zC fun bv ah=>zB ?_
  refine zH (xW (cs:=[.bool true,.bool true,.bool true,.bool false,.bool false,.int .i64 0,.int .i64 0]) (bt226_0_1_2 _ _ _))<| xG rfl (xH (vs:=[.bool true,.bool true,.bool true,.bool false,.bool false,.int .i64 0,.int .i64 0]) H 0 rfl sz226 rfl rfl rfl ⟨rfl,rfl,rfl,rfl,rfl,rfl,rfl,trivial⟩ rfl) ?_
  rintro bw H
  refine zK (.bool true)<| (zG (zA (ah _ _ ?_)))
  obtain rfl:=someI c
  refine (zY (yF (zV (postc1 (v1:= .bool true) rfl rfl (xJ agg226 sz226 rfl (Blk.cells (H.item (i:=0) rfl))) rfl ?_))))
  exact ⟨rfl,H.pick [] (by decide)⟩
 have c:=zT l c
 refine zC fun bx ai=>zB ?_
 obtain ⟨E,aj,c⟩:=zD c
 refine zH (zQ (xA (a:=d) (b:=5) rfl rfl) aj)<| zK (.bool E)<| (zG (zA (ai _ _ ?_)))
 refine zZ (b:=E) rfl (fun m=>?_) (fun m=>?_)
 ·have c:=zS m c
  refine zC fun bz ak=>zB ?_
  refine zH (xW (cs:=[.bool true,.bool false,.bool false,.bool true,.bool true,.int .i64 0,.int .i64 0]) (bt226_0_3_4 _ _ _))<| xG rfl (xH (vs:=[.bool true,.bool false,.bool false,.bool true,.bool true,.int .i64 0,.int .i64 0]) H 0 rfl sz226 rfl rfl rfl ⟨rfl,rfl,rfl,rfl,rfl,rfl,rfl,trivial⟩ rfl) ?_
  rintro b0 H
  refine zK (.bool true)<| (zG (zA (ak _ _ ?_)))
  obtain rfl:=someI c
  refine (zY (yF (zV (postc1 (v1:= .bool true) rfl rfl (xJ agg226 sz226 rfl (Blk.cells (H.item (i:=0) rfl))) rfl ?_))))
  exact ⟨rfl,H.pick [] (by decide)⟩
 have c:=zT m c
 obtain ⟨F,c,al⟩:=zF c
 refine yK [18,19,20] (fun (g:Unit)=>[(18,.bool F)]) (fun g wl=>Hd O w wl S [.blk f [.bool false,.bool false,.bool false,.bool false,.bool false,.int .i64 0,.int .i64 0] 226]) ?_ ?_
 ·skip
  refine zC fun b1 am=>zB ?_
  obtain ⟨G,an,c⟩:=zD c
  refine zH (zQ (xA (a:=d) (b:=6) rfl rfl) an)<| zK (.bool G)<| (zG (zA (am _ _ ?_)))
  refine zZ (b:=G) rfl (fun o=>?_) (fun o=>?_)
  ·have c:=zS o c
   obtain rfl:=someI c
   exact (yA (zA (meet ⟨(),(zL rfl zM),H.pick [0] (by decide)⟩)))
  have c:=zT o c
  refine zB ?_
  obtain ⟨ao,ap,c⟩:=zD c
  refine zH (zQ (xA (a:=d) (b:=7) rfl rfl) ap)<| zK (.bool ao) ?_
  obtain rfl:=someI c
  exact (zG (zA (meet ⟨(),(zL rfl zM),H.pick [0] (by decide)⟩)))
 rintro _ ρ b2 H
 have c:=al
 refine zZ (b:=F) rfl (fun p=>?_) (fun p=>?_)
 ·have c:=zS p c
  refine zC fun b3 aq=>zB ?_
  refine zH (xW (cs:=[.bool true,.bool false,.bool false,.bool false,.bool false,.int .i64 0,.int .i64 0]) (bt226_0 _))<| xG rfl (xH (vs:=[.bool true,.bool false,.bool false,.bool false,.bool false,.int .i64 0,.int .i64 0]) H 0 rfl sz226 rfl rfl rfl ⟨rfl,rfl,rfl,rfl,rfl,rfl,rfl,trivial⟩ rfl) ?_
  rintro b4 H
  refine zK (.bool true)<| (zG (zA (aq _ _ ?_)))
  obtain rfl:=someI c
  refine (zY (yF (zV (postc1 (v1:= .bool true) rfl rfl (xJ agg226 sz226 rfl (Blk.cells (H.item (i:=0) rfl))) rfl ?_))))
  exact ⟨rfl,H.pick [] (by decide)⟩
 have c:=zT p c
 obtain ⟨I,c,ar⟩:=zF c
 refine yK [22,23,24] (fun (g:Unit)=>[(22,.bool I)]) (fun g wl=>Hd O w wl S [.blk f [.bool false,.bool false,.bool false,.bool false,.bool false,.int .i64 0,.int .i64 0] 226]) ?_ ?_
 ·skip
  refine zC fun b5 au=>zB ?_
  obtain ⟨J,av,c⟩:=zD c
  refine zH (zQ (xA (a:=d) (b:=8) rfl rfl) av)<| zK (.bool J)<| (zG (zA (au _ _ ?_)))
  refine zZ (b:=J) rfl (fun q=>?_) (fun q=>?_)
  ·have c:=zS q c
   obtain rfl:=someI c
   exact (yA (zA (meet ⟨(),(zL rfl zM),H.pick [0] (by decide)⟩)))
  have c:=zT q c
  refine zB ?_
  obtain ⟨aw,ax,c⟩:=zD c
  refine zH (zQ (xA (a:=d) (b:=15) rfl rfl) ax)<| zK (.bool aw) ?_
  obtain rfl:=someI c
  exact (zG (zA (meet ⟨(),(zL rfl zM),H.pick [0] (by decide)⟩)))
 rintro _ ρ b6 H
 have c:=ar
 refine zZ (b:=I) rfl (fun s=>?_) (fun s=>?_)
 ·have c:=zS s c
  refine zC fun b7 ay=>zB ?_
  refine zH (xW (cs:=[.bool false,.bool false,.bool false,.bool false,.bool false,.int .i64 1,.int .i64 1]) (bt226_5_6 _ _))<| xG rfl (xH (vs:=[.bool false,.bool false,.bool false,.bool false,.bool false,.int .i64 1,.int .i64 1]) H 0 rfl sz226 rfl rfl rfl ⟨rfl,rfl,rfl,rfl,rfl,rfl,rfl,trivial⟩ rfl) ?_
  rintro b8 H
  refine zK (.bool true)<| (zG (zA (ay _ _ ?_)))
  obtain rfl:=someI c
  refine (zY (yF (zV (postc1 (v1:= .bool true) rfl rfl (xJ agg226 sz226 rfl (Blk.cells (H.item (i:=0) rfl))) rfl ?_))))
  exact ⟨rfl,H.pick [] (by decide)⟩
 have c:=zT s c
 obtain ⟨K,c,az⟩:=zF c
 refine yK [26,27,28] (fun (g:Unit)=>[(26,.bool K)]) (fun g wl=>Hd O w wl S [.blk f [.bool false,.bool false,.bool false,.bool false,.bool false,.int .i64 0,.int .i64 0] 226]) ?_ ?_
 ·skip
  refine zC fun b9 a0=>zB ?_
  obtain ⟨L,a1,c⟩:=zD c
  refine zH (zQ (xA (a:=d) (b:=9) rfl rfl) a1)<| zK (.bool L)<| (zG (zA (a0 _ _ ?_)))
  refine zZ (b:=L) rfl (fun t=>?_) (fun t=>?_)
  ·have c:=zS t c
   obtain rfl:=someI c
   exact (yA (zA (meet ⟨(),(zL rfl zM),H.pick [0] (by decide)⟩)))
  have c:=zT t c
  refine zB ?_
  obtain ⟨a2,a3,c⟩:=zD c
  refine zH (zQ (xA (a:=d) (b:=10) rfl rfl) a3)<| zK (.bool a2) ?_
  obtain rfl:=someI c
  exact (zG (zA (meet ⟨(),(zL rfl zM),H.pick [0] (by decide)⟩)))
 rintro _ ρ ca H
 have c:=az
 refine zZ (b:=K) rfl (fun u=>?_) (fun u=>?_)
 ·have c:=zS u c
  refine zC fun cb a4=>zB ?_
  refine zH (xW (cs:=[.bool false,.bool false,.bool false,.bool false,.bool false,.int .i64 2,.int .i64 200]) (bt226_5_6 _ _))<| xG rfl (xH (vs:=[.bool false,.bool false,.bool false,.bool false,.bool false,.int .i64 2,.int .i64 200]) H 0 rfl sz226 rfl rfl rfl ⟨rfl,rfl,rfl,rfl,rfl,rfl,rfl,trivial⟩ rfl) ?_
  rintro cc H
  refine zK (.bool true)<| (zG (zA (a4 _ _ ?_)))
  obtain rfl:=someI c
  refine (zY (yF (zV (postc1 (v1:= .bool true) rfl rfl (xJ agg226 sz226 rfl (Blk.cells (H.item (i:=0) rfl))) rfl ?_))))
  exact ⟨rfl,H.pick [] (by decide)⟩
 have c:=zT u c
 obtain ⟨M,c,a5⟩:=zF c
 refine yK [30,31,32] (fun (g:Unit)=>[(30,.bool M)]) (fun g wl=>Hd O w wl S [.blk f [.bool false,.bool false,.bool false,.bool false,.bool false,.int .i64 0,.int .i64 0] 226]) ?_ ?_
 ·skip
  refine zC fun cd a6=>zB ?_
  obtain ⟨N,a7,c⟩:=zD c
  refine zH (zQ (xA (a:=d) (b:=11) rfl rfl) a7)<| zK (.bool N)<| (zG (zA (a6 _ _ ?_)))
  refine zZ (b:=N) rfl (fun v=>?_) (fun v=>?_)
  ·have c:=zS v c
   obtain rfl:=someI c
   exact (yA (zA (meet ⟨(),(zL rfl zM),H.pick [0] (by decide)⟩)))
  have c:=zT v c
  refine zB ?_
  obtain ⟨a8,a9,c⟩:=zD c
  refine zH (zQ (xA (a:=d) (b:=12) rfl rfl) a9)<| zK (.bool a8) ?_
  obtain rfl:=someI c
  exact (zG (zA (meet ⟨(),(zL rfl zM),H.pick [0] (by decide)⟩)))
 rintro _ ρ ce H
 have c:=a5
 refine zZ (b:=M) rfl (fun x=>?_) (fun x=>?_)
 ·have c:=zS x c
  refine zC fun cf ba=>zB ?_
  refine zH (xW (cs:=[.bool false,.bool false,.bool false,.bool false,.bool true,.int .i64 1,.int .i64 1]) (bt226_4_5_6 _ _ _))<| xG rfl (xH (vs:=[.bool false,.bool false,.bool false,.bool false,.bool true,.int .i64 1,.int .i64 1]) H 0 rfl sz226 rfl rfl rfl ⟨rfl,rfl,rfl,rfl,rfl,rfl,rfl,trivial⟩ rfl) ?_
  rintro cg H
  refine zK (.bool true)<| (zG (zA (ba _ _ ?_)))
  obtain rfl:=someI c
  refine (zY (yF (zV (postc1 (v1:= .bool true) rfl rfl (xJ agg226 sz226 rfl (Blk.cells (H.item (i:=0) rfl))) rfl ?_))))
  exact ⟨rfl,H.pick [] (by decide)⟩
 have c:=zT x c
 refine zC fun ch bb=>zB ?_
 obtain ⟨P,bc,c⟩:=zD c
 refine zH (zQ (xA (a:=d) (b:=13) rfl rfl) bc)<| zK (.bool P)<| (zG (zA (bb _ _ ?_)))
 refine zZ (b:=P) rfl (fun y=>?_) (fun y=>?_)
 ·have c:=zS y c
  refine zC fun ci bd=>zB ?_
  refine zH (xW (cs:=[.bool false,.bool false,.bool false,.bool true,.bool true,.int .i64 1,.int .i64 1]) (bt226_3_4_5_6 _ _ _ _))<| xG rfl (xH (vs:=[.bool false,.bool false,.bool false,.bool true,.bool true,.int .i64 1,.int .i64 1]) H 0 rfl sz226 rfl rfl rfl ⟨rfl,rfl,rfl,rfl,rfl,rfl,rfl,trivial⟩ rfl) ?_
  rintro cj H
  refine zK (.bool true)<| (zG (zA (bd _ _ ?_)))
  obtain rfl:=someI c
  refine (zY (yF (zV (postc1 (v1:= .bool true) rfl rfl (xJ agg226 sz226 rfl (Blk.cells (H.item (i:=0) rfl))) rfl ?_))))
  exact ⟨rfl,H.pick [] (by decide)⟩
 have c:=zT y c
 refine zC fun ck be=>zB ?_
 obtain ⟨Q,bf,c⟩:=zD c
 refine zH (zQ (xA (a:=d) (b:=14) rfl rfl) bf)<| zK (.bool Q)<| (zG (zA (be _ _ ?_)))
 refine zZ (b:=Q) rfl (fun z=>?_) (fun z=>?_)
 ·have c:=zS z c
  refine zC fun cl bg=>zB ?_
  refine zH (xW (cs:=[.bool false,.bool false,.bool false,.bool false,.bool false,.int .i64 2,.int .i64 2]) (bt226_5_6 _ _))<| xG rfl (xH (vs:=[.bool false,.bool false,.bool false,.bool false,.bool false,.int .i64 2,.int .i64 2]) H 0 rfl sz226 rfl rfl rfl ⟨rfl,rfl,rfl,rfl,rfl,rfl,rfl,trivial⟩ rfl) ?_
  rintro cm H
  refine zK (.bool true)<| (zG (zA (bg _ _ ?_)))
  obtain rfl:=someI c
  refine (zY (yF (zV (postc1 (v1:= .bool true) rfl rfl (xJ agg226 sz226 rfl (Blk.cells (H.item (i:=0) rfl))) rfl ?_))))
  exact ⟨rfl,H.pick [] (by decide)⟩
 have c:=zT z c
 refine (yA (yP (zA (T _ _ ?_))))
 refine zC fun cn bh=>zB ?_
 refine zH (xW (cs:=[.bool false,.bool false,.bool false,.bool false,.bool false,.int .i64 0,.int .i64 0]) bz226)<| xG rfl (xH (vs:=[.bool false,.bool false,.bool false,.bool false,.bool false,.int .i64 0,.int .i64 0]) H 0 rfl sz226 rfl rfl rfl ⟨rfl,rfl,rfl,rfl,rfl,rfl,rfl,trivial⟩ rfl) ?_
 rintro co H
 refine zK (.bool false)<| (zG (zA (bh _ _ ?_)))
 obtain rfl:=someI c
 refine (zY (postc1 (v1:= .bool false) rfl rfl (xJ agg226 sz226 rfl (Blk.cells (H.item (i:=0) rfl))) rfl ?_))
 exact ⟨rfl,H.pick [] (by decide)⟩
set_option maxRecDepth 100000 in
theorem Fanw (f:Cond)(v1:Value)(r:Int)(c:Fan f=some r)(O S:List Nat)(w:World)(H:Hd O w w S [.fz (.sl rCond v1 f.Kids)]):
  Calls Tryz.prog 82 ([.agg [.int .i64 f.Kind,.string (bs f.Name),.string (bs f.Other),.int .i64 f.Op,.int .i64 f.N,.int .i64 f.Frames,v1].toArray]:List Value).toArray w fun e w'=>e= .returned (.int .i64 r)∧Hd O w w' S []:=by
 unfold Fan at c
 refine zW 140 Tryz.func82 rfl rfl rfl ?_
 refine zC fun K3 ar=>zB ?_
 refine yY rfl rfl (xX (cs:=[.int .i64 f.Kind,.string (bs f.Name),.string (bs f.Other),.int .i64 f.Op,.int .i64 f.N,.int .i64 f.Frames,v1]) rfl H) ?_
 rintro _ w6 ⟨h,rfl,H⟩
 refine zK (.int .i64 0)<| (zG (zA (ar _ _ ?_)))
 refine zC fun K7 au=>zB ?_
 refine zH (fa70_0 rfl)<| zH (zN one3 rfl (Cells.get (Blk.cells (H.item (i:=1) rfl)) (i:=0) rfl)) ?_
 have H8:=H
 obtain ⟨⟨d,k⟩,aw,c⟩:=zF c
 refine yG rfl rfl (yC en142 rfl) (Faaw f.Kind _ aw _ _ _ (H.enter [] [] (by decide) rfl)) ?_
 rintro _ dl ⟨rfl,ax⟩
 have H:=H8.step (ax.only:Only [] _ _)
 refine ⟨_,rfl,?_⟩
 refine zJ (.tuple #[.agg [.bool d.name,.bool d.other,.bool d.op,.bool d.n,.bool d.frames,.int .i64 d.least,.int .i64 d.most].toArray,.bool k])<| zH (xY (v:= .agg [.bool d.name,.bool d.other,.bool d.op,.bool d.n,.bool d.frames,.int .i64 d.least,.int .i64 d.most].toArray) rfl rfl)<| zH (xY (v:= .bool k) rfl rfl)<| yY rfl rfl (xQ zero226 H) ?_
 rintro _ dm ⟨j,rfl,H⟩
 refine xG rfl (xH (vs:=[.bool d.name,.bool d.other,.bool d.op,.bool d.n,.bool d.frames,.int .i64 d.least,.int .i64 d.most]) H 2 rfl sz226 rfl rfl rfl ⟨rfl,rfl,rfl,rfl,rfl,rfl,rfl,trivial⟩ rfl) ?_
 rintro dn H
 refine zK (.bool k)<| (zG (zA (au _ _ ?_)))
 refine zC fun dp ay=>?_
 refine zC fun dq az=>zB ?_
 refine zJ (.bool k) ?_
 obtain ⟨a0,a1,c⟩:=zD c
 refine zH (zQ (wI (p:=k) rfl) a1)<| (zG (zA (az _ _ ?_)))
 refine zZ (b:=a0) rfl (fun l=>?_) (fun l=>?_)
 ·have c:=zS l c
  refine zC fun dr a2=>zB ?_
  refine zK (.int .i64 7)<| (zG (zA (a2 _ _ ?_)))
  obtain rfl:=someI c
  refine (zY (zV (post1 (v1:= .int .i64 7) rfl rfl ?_)))
  exact ⟨rfl,H.pick [] (by decide)⟩
 have c:=zT l c
 refine (yA (zA (ay _ _ ?_)))
 refine zC fun ds a3=>?_
 obtain ⟨X,c,a4⟩:=zF c
 refine yK [13,14,15,16,17,18,19,20,21,22,23,24,25,26,27,28,29,30,31,32,33,34,35,36,37,38,39,40,41,42,43,44,45,46,47,48,49,50,51,52,53,54,55,56,57,58,59,60,61,62,63,64,65,66,67,68,69,70,71] (fun (g:Unit)=>[(71,.bool X)]) (fun g wl=>Hd O w wl S [.fz (.sl rCond v1 f.Kids),.blk h [.int .i64 f.Kind,.string (bs f.Name),.string (bs f.Other),.int .i64 f.Op,.int .i64 f.N,.int .i64 f.Frames,v1] 70,.blk j [.bool d.name,.bool d.other,.bool d.op,.bool d.n,.bool d.frames,.int .i64 d.least,.int .i64 d.most] 226]) ?_ ?_
 ·skip
  refine zB ?_
  refine zH (fa226_0 rfl)<| zH (zN one4 rfl (Cells.get (Blk.cells (H.item (i:=2) rfl)) (i:=0) rfl)) ?_
  obtain ⟨a5,a6,c⟩:=zD c
  refine zH (zQ (wI (p:=d.name) rfl) a6) ?_
  obtain ⟨Y,c,a7⟩:=zF c
  refine RL_cutS 5 [16,17,18,19,20] [(20,.bool Y)] (fun wl=>Hd O w wl S [.fz (.sl rCond v1 f.Kids),.blk h [.int .i64 f.Kind,.string (bs f.Name),.string (bs f.Other),.int .i64 f.Op,.int .i64 f.N,.int .i64 f.Frames,v1] 70,.blk j [.bool d.name,.bool d.other,.bool d.op,.bool d.n,.bool d.frames,.int .i64 d.least,.int .i64 d.most] 226]) ?_ ?_
  ·skip
   refine yN (b:=a5) rfl rfl rfl (fun m=>?_) (fun m=>?_)
   ·have c:=zS m c
    refine zH (fa70_1 rfl)<| zH (zN one9 rfl (Cells.get (Blk.cells (H.item (i:=1) rfl)) (i:=1) rfl)) ?_
    obtain ⟨a8,a9,c⟩:=zD c
    refine zH (zQ (Do_neqs (s1:=f.Name) (s2:=[]) rfl rfl) a9)<| zH (yL (v:= .bool a8) rfl rfl) ?_
    obtain rfl:=someI c
    exact zG (zA (meet ⟨(zL rfl zM),H.pick [0,1,2] (by decide)⟩))
   have c:=zT m c
   refine yI ?_
   refine yI ?_
   refine yI ?_
   refine zH (yJ (v:= .bool false) rfl rfl) ?_
   obtain rfl:=someI c
   exact zG (zA (meet ⟨(zL rfl zM),H.pick [0,1,2] (by decide)⟩))
  rintro ρ dt H
  have c:=a7
  obtain ⟨Z,c,ba⟩:=zF c
  refine RL_cutS 10 [21,22,23,24,25,26,27,28,29,30] [(30,.bool Z)] (fun wl=>Hd O w wl S [.fz (.sl rCond v1 f.Kids),.blk h [.int .i64 f.Kind,.string (bs f.Name),.string (bs f.Other),.int .i64 f.Op,.int .i64 f.N,.int .i64 f.Frames,v1] 70,.blk j [.bool d.name,.bool d.other,.bool d.op,.bool d.n,.bool d.frames,.int .i64 d.least,.int .i64 d.most] 226]) ?_ ?_
  ·skip
   refine yN (b:=Y) rfl rfl rfl (fun o=>?_) (fun o=>?_)
   ·have c:=zS o c
    refine yI ?_
    refine yI ?_
    refine yI ?_
    refine yI ?_
    refine yI ?_
    refine yI ?_
    refine yI ?_
    refine yI ?_
    refine zH (yL (v:= .bool true) rfl rfl) ?_
    obtain rfl:=someI c
    exact zG (zA (meet ⟨(zL rfl zM),H.pick [0,1,2] (by decide)⟩))
   have c:=zT o c
   refine zH (fa226_1 rfl)<| zH (zN one4 rfl (Cells.get (Blk.cells (H.item (i:=2) rfl)) (i:=1) rfl)) ?_
   obtain ⟨bb,bc,c⟩:=zD c
   refine zH (zQ (wI (p:=d.other) rfl) bc)<| yN (b:=bb) rfl rfl rfl (fun q=>?_) (fun q=>?_)
   ·have c:=zS q c
    refine zH (fa70_2 rfl)<| zH (zN one9 rfl (Cells.get (Blk.cells (H.item (i:=1) rfl)) (i:=2) rfl)) ?_
    obtain ⟨aa,bd,c⟩:=zD c
    refine zH (zQ (Do_neqs (s1:=f.Other) (s2:=[]) rfl rfl) bd)<| zH (yL (v:= .bool aa) rfl rfl)<| zH (yJ (v:= .bool aa) rfl rfl) ?_
    obtain rfl:=someI c
    exact zG (zA (meet ⟨(zL rfl zM),H.pick [0,1,2] (by decide)⟩))
   have c:=zT q c
   refine yI ?_
   refine yI ?_
   refine yI ?_
   refine zH (yJ (v:= .bool false) rfl rfl)<| zH (yJ (v:= .bool false) rfl rfl) ?_
   obtain rfl:=someI c
   exact zG (zA (meet ⟨(zL rfl zM),H.pick [0,1,2] (by decide)⟩))
  rintro ρ du H
  have c:=ba
  obtain ⟨ab,c,be⟩:=zF c
  refine RL_cutS 10 [31,32,33,34,35,36,37,38,39,40] [(40,.bool ab)] (fun wl=>Hd O w wl S [.fz (.sl rCond v1 f.Kids),.blk h [.int .i64 f.Kind,.string (bs f.Name),.string (bs f.Other),.int .i64 f.Op,.int .i64 f.N,.int .i64 f.Frames,v1] 70,.blk j [.bool d.name,.bool d.other,.bool d.op,.bool d.n,.bool d.frames,.int .i64 d.least,.int .i64 d.most] 226]) ?_ ?_
  ·skip
   refine yN (b:=Z) rfl rfl rfl (fun s=>?_) (fun s=>?_)
   ·have c:=zS s c
    refine yI ?_
    refine yI ?_
    refine yI ?_
    refine yI ?_
    refine yI ?_
    refine yI ?_
    refine yI ?_
    refine yI ?_
    refine zH (yL (v:= .bool true) rfl rfl) ?_
    obtain rfl:=someI c
    exact zG (zA (meet ⟨(zL rfl zM),H.pick [0,1,2] (by decide)⟩))
   have c:=zT s c
   refine zH (fa226_2 rfl)<| zH (zN one4 rfl (Cells.get (Blk.cells (H.item (i:=2) rfl)) (i:=2) rfl)) ?_
   obtain ⟨bf,bg,c⟩:=zD c
   refine zH (zQ (wI (p:=d.op) rfl) bg)<| yN (b:=bf) rfl rfl rfl (fun t=>?_) (fun t=>?_)
   ·have c:=zS t c
    refine zH (fa70_3 rfl)<| zH (zN one3 rfl (Cells.get (Blk.cells (H.item (i:=1) rfl)) (i:=3) rfl)) ?_
    obtain ⟨ac,bh,c⟩:=zD c
    refine zH (zQ (wH (a:=f.Op) (b:=0) rfl rfl) bh)<| zH (yL (v:= .bool ac) rfl rfl)<| zH (yJ (v:= .bool ac) rfl rfl) ?_
    obtain rfl:=someI c
    exact zG (zA (meet ⟨(zL rfl zM),H.pick [0,1,2] (by decide)⟩))
   have c:=zT t c
   refine yI ?_
   refine yI ?_
   refine yI ?_
   refine zH (yJ (v:= .bool false) rfl rfl)<| zH (yJ (v:= .bool false) rfl rfl) ?_
   obtain rfl:=someI c
   exact zG (zA (meet ⟨(zL rfl zM),H.pick [0,1,2] (by decide)⟩))
  rintro ρ dv H
  have c:=be
  obtain ⟨ad,c,bi⟩:=zF c
  refine RL_cutS 10 [41,42,43,44,45,46,47,48,49,50] [(50,.bool ad)] (fun wl=>Hd O w wl S [.fz (.sl rCond v1 f.Kids),.blk h [.int .i64 f.Kind,.string (bs f.Name),.string (bs f.Other),.int .i64 f.Op,.int .i64 f.N,.int .i64 f.Frames,v1] 70,.blk j [.bool d.name,.bool d.other,.bool d.op,.bool d.n,.bool d.frames,.int .i64 d.least,.int .i64 d.most] 226]) ?_ ?_
  ·skip
   refine yN (b:=ab) rfl rfl rfl (fun u=>?_) (fun u=>?_)
   ·have c:=zS u c
    refine yI ?_
    refine yI ?_
    refine yI ?_
    refine yI ?_
    refine yI ?_
    refine yI ?_
    refine yI ?_
    refine yI ?_
    refine zH (yL (v:= .bool true) rfl rfl) ?_
    obtain rfl:=someI c
    exact zG (zA (meet ⟨(zL rfl zM),H.pick [0,1,2] (by decide)⟩))
   have c:=zT u c
   refine zH (fa226_3 rfl)<| zH (zN one4 rfl (Cells.get (Blk.cells (H.item (i:=2) rfl)) (i:=3) rfl)) ?_
   obtain ⟨bj,bk,c⟩:=zD c
   refine zH (zQ (wI (p:=d.n) rfl) bk)<| yN (b:=bj) rfl rfl rfl (fun x=>?_) (fun x=>?_)
   ·have c:=zS x c
    refine zH (fa70_4 rfl)<| zH (zN one3 rfl (Cells.get (Blk.cells (H.item (i:=1) rfl)) (i:=4) rfl)) ?_
    obtain ⟨ae,bl,c⟩:=zD c
    refine zH (zQ (wH (a:=f.N) (b:=0) rfl rfl) bl)<| zH (yL (v:= .bool ae) rfl rfl)<| zH (yJ (v:= .bool ae) rfl rfl) ?_
    obtain rfl:=someI c
    exact zG (zA (meet ⟨(zL rfl zM),H.pick [0,1,2] (by decide)⟩))
   have c:=zT x c
   refine yI ?_
   refine yI ?_
   refine yI ?_
   refine zH (yJ (v:= .bool false) rfl rfl)<| zH (yJ (v:= .bool false) rfl rfl) ?_
   obtain rfl:=someI c
   exact zG (zA (meet ⟨(zL rfl zM),H.pick [0,1,2] (by decide)⟩))
  rintro ρ dw H
  have c:=bi
  obtain ⟨af,c,bm⟩:=zF c
  refine RL_cutS 10 [51,52,53,54,55,56,57,58,59,60] [(60,.bool af)] (fun wl=>Hd O w wl S [.fz (.sl rCond v1 f.Kids),.blk h [.int .i64 f.Kind,.string (bs f.Name),.string (bs f.Other),.int .i64 f.Op,.int .i64 f.N,.int .i64 f.Frames,v1] 70,.blk j [.bool d.name,.bool d.other,.bool d.op,.bool d.n,.bool d.frames,.int .i64 d.least,.int .i64 d.most] 226]) ?_ ?_
  ·skip
   refine yN (b:=ad) rfl rfl rfl (fun y=>?_) (fun y=>?_)
   ·have c:=zS y c
    refine yI ?_
    refine yI ?_
    refine yI ?_
    refine yI ?_
    refine yI ?_
    refine yI ?_
    refine yI ?_
    refine yI ?_
    refine zH (yL (v:= .bool true) rfl rfl) ?_
    obtain rfl:=someI c
    exact zG (zA (meet ⟨(zL rfl zM),H.pick [0,1,2] (by decide)⟩))
   have c:=zT y c
   refine zH (fa226_4 rfl)<| zH (zN one4 rfl (Cells.get (Blk.cells (H.item (i:=2) rfl)) (i:=4) rfl)) ?_
   obtain ⟨bn,bo,c⟩:=zD c
   refine zH (zQ (wI (p:=d.frames) rfl) bo)<| yN (b:=bn) rfl rfl rfl (fun z=>?_) (fun z=>?_)
   ·have c:=zS z c
    refine zH (fa70_5 rfl)<| zH (zN one3 rfl (Cells.get (Blk.cells (H.item (i:=1) rfl)) (i:=5) rfl)) ?_
    obtain ⟨ag,bp,c⟩:=zD c
    refine zH (zQ (wH (a:=f.Frames) (b:=0) rfl rfl) bp)<| zH (yL (v:= .bool ag) rfl rfl)<| zH (yJ (v:= .bool ag) rfl rfl) ?_
    obtain rfl:=someI c
    exact zG (zA (meet ⟨(zL rfl zM),H.pick [0,1,2] (by decide)⟩))
   have c:=zT z c
   refine yI ?_
   refine yI ?_
   refine yI ?_
   refine zH (yJ (v:= .bool false) rfl rfl)<| zH (yJ (v:= .bool false) rfl rfl) ?_
   obtain rfl:=someI c
   exact zG (zA (meet ⟨(zL rfl zM),H.pick [0,1,2] (by decide)⟩))
  rintro ρ dx H
  have c:=bm
  refine yN (b:=af) rfl rfl rfl (fun A=>?_) (fun A=>?_)
  ·have c:=zS A c
   refine yI ?_
   refine yI ?_
   refine yI ?_
   refine yI ?_
   refine yI ?_
   refine yI ?_
   refine yI ?_
   refine yI ?_
   refine yI ?_
   refine zH (yL (v:= .bool true) rfl rfl) ?_
   obtain rfl:=someI c
   exact (zG (zA (meet ⟨(),(zL rfl zM),H.pick [0,1,2] (by decide)⟩)))
  have c:=zT A c
  refine zH (fa70_6 rfl)<| zH (zN one68 rfl (Cells.get (Blk.cells (H.item (i:=1) rfl)) (i:=6) rfl)) ?_
  obtain ⟨bq,br,c⟩:=zD c
  obtain ⟨dy,dz,bt⟩:=SlF.len ((H.item (i:=0) rfl))
  refine zH (yS (xP u68 bt) (congrArg (Value.int .i64) br))<| zH (fa226_5 rfl)<| zH (zN one3 rfl (Cells.get (Blk.cells (H.item (i:=2) rfl)) (i:=5) rfl))<| zH (fa226_6 rfl)<| zH (zN one3 rfl (Cells.get (Blk.cells (H.item (i:=2) rfl)) (i:=6) rfl)) ?_
  have bu:=H
  obtain ⟨bv,bw,c⟩:=zF c
  refine yG rfl rfl (yC en76 rfl) (Faew bq d.least d.most _ bw _ _ _ (H.enter [] [] (by decide) rfl)) ?_
  rintro _ d0 ⟨rfl,bx⟩
  have H:=bu.step (bx.only:Only [] _ _)
  refine ⟨_,rfl,?_⟩
  obtain ⟨bz,b0,c⟩:=zD c
  refine zH (zQ (wI (p:=bv) rfl) b0)<| zH (yJ (v:= .bool bz) rfl rfl) ?_
  obtain rfl:=someI c
  exact (zG (zA (meet ⟨(),(zL rfl zM),H.pick [0,1,2] (by decide)⟩)))
 rintro _ ρ d1 H
 have c:=a4
 refine zZ (b:=X) rfl (fun B=>?_) (fun B=>?_)
 ·have c:=zS B c
  refine zC fun d2 b1=>zB ?_
  refine zK (.int .i64 2)<| (zG (zA (b1 _ _ ?_)))
  obtain rfl:=someI c
  refine (zY (zV (post1 (v1:= .int .i64 2) rfl rfl ?_)))
  exact ⟨rfl,H.pick [] (by decide)⟩
 have c:=zT B c
 refine (yA (zA (a3 _ _ ?_)))
 refine zC fun d3 b2=>?_
 refine yH ?_
 obtain ⟨ah,c,b3⟩:=zF c
 refine yK [72,73,74,75,76,77,78,79,80,81,82,83,84,85,86,87,88,89,90] (fun (g:Unit)=>[(72,.bool ah)]) (fun g wl=>Hd O w wl S [.fz (.sl rCond v1 f.Kids),.blk h [.int .i64 f.Kind,.string (bs f.Name),.string (bs f.Other),.int .i64 f.Op,.int .i64 f.N,.int .i64 f.Frames,v1] 70,.blk j [.bool d.name,.bool d.other,.bool d.op,.bool d.n,.bool d.frames,.int .i64 d.least,.int .i64 d.most] 226]) ?_ ?_
 ·skip
  refine zB ?_
  refine zH (fa226_0 rfl)<| zH (zN one4 rfl (Cells.get (Blk.cells (H.item (i:=2) rfl)) (i:=0) rfl)) ?_
  obtain ⟨ai,c,b4⟩:=zF c
  refine RL_cutS 6 [75,76,77,78,79,80] [(80,.bool ai)] (fun wl=>Hd O w wl S [.fz (.sl rCond v1 f.Kids),.blk h [.int .i64 f.Kind,.string (bs f.Name),.string (bs f.Other),.int .i64 f.Op,.int .i64 f.N,.int .i64 f.Frames,v1] 70,.blk j [.bool d.name,.bool d.other,.bool d.op,.bool d.n,.bool d.frames,.int .i64 d.least,.int .i64 d.most] 226]) ?_ ?_
  ·skip
   refine yN (b:=d.name) rfl rfl rfl (fun C=>?_) (fun C=>?_)
   ·have c:=zS C c
    refine zH (fa70_1 rfl)<| zH (zN one9 rfl (Cells.get (Blk.cells (H.item (i:=1) rfl)) (i:=1) rfl)) ?_
    have b5:=H
    obtain ⟨b6,b7,c⟩:=zF c
    refine yG rfl rfl (yC en86 rfl) (Fakw f.Name _ b7 _ _ _ (H.enter [] [] (by decide) rfl)) ?_
    rintro _ d4 ⟨rfl,b8⟩
    have H:=b5.step (b8.only:Only [] _ _)
    refine ⟨_,rfl,?_⟩
    obtain ⟨b9,ca,c⟩:=zD c
    refine zH (zQ (wI (p:=b6) rfl) ca)<| zH (yL (v:= .bool b9) rfl rfl) ?_
    obtain rfl:=someI c
    exact zG (zA (meet ⟨(zL rfl zM),H.pick [0,1,2] (by decide)⟩))
   have c:=zT C c
   refine yI ?_
   refine yI ?_
   refine yI ?_
   refine yI ?_
   refine zH (yJ (v:= .bool false) rfl rfl) ?_
   obtain rfl:=someI c
   exact zG (zA (meet ⟨(zL rfl zM),H.pick [0,1,2] (by decide)⟩))
  rintro ρ d5 H
  have c:=b4
  refine yN (b:=ai) rfl rfl rfl (fun D=>?_) (fun D=>?_)
  ·have c:=zS D c
   refine yI ?_
   refine yI ?_
   refine yI ?_
   refine yI ?_
   refine yI ?_
   refine yI ?_
   refine yI ?_
   refine yI ?_
   refine zH (yL (v:= .bool true) rfl rfl)<| zK (.bool true) ?_
   obtain rfl:=someI c
   exact (zG (zA (meet ⟨(),(zL rfl zM),H.pick [0,1,2] (by decide)⟩)))
  have c:=zT D c
  refine zH (fa226_1 rfl)<| zH (zN one4 rfl (Cells.get (Blk.cells (H.item (i:=2) rfl)) (i:=1) rfl))<| yN (b:=d.other) rfl rfl rfl (fun E=>?_) (fun E=>?_)
  ·have c:=zS E c
   refine zH (fa70_2 rfl)<| zH (zN one9 rfl (Cells.get (Blk.cells (H.item (i:=1) rfl)) (i:=2) rfl)) ?_
   have cb:=H
   obtain ⟨cc,cd,c⟩:=zF c
   refine yG rfl rfl (yC en86 rfl) (Fakw f.Other _ cd _ _ _ (H.enter [] [] (by decide) rfl)) ?_
   rintro _ d6 ⟨rfl,ce⟩
   have H:=cb.step (ce.only:Only [] _ _)
   refine ⟨_,rfl,?_⟩
   obtain ⟨F,cf,c⟩:=zD c
   refine zH (zQ (wI (p:=cc) rfl) cf)<| zH (yL (v:= .bool F) rfl rfl)<| zH (yJ (v:= .bool F) rfl rfl)<| zK (.bool F) ?_
   obtain rfl:=someI c
   exact (zG (zA (meet ⟨(),(zL rfl zM),H.pick [0,1,2] (by decide)⟩)))
  have c:=zT E c
  refine yI ?_
  refine yI ?_
  refine yI ?_
  refine yI ?_
  refine zH (yJ (v:= .bool false) rfl rfl)<| zH (yJ (v:= .bool false) rfl rfl)<| zK (.bool false) ?_
  obtain rfl:=someI c
  exact (zG (zA (meet ⟨(),(zL rfl zM),H.pick [0,1,2] (by decide)⟩)))
 rintro _ ρ d7 H
 have c:=b3
 refine zZ (b:=ah) rfl (fun G=>?_) (fun G=>?_)
 ·have c:=zS G c
  refine zC fun d8 cg=>zB ?_
  refine zK (.int .i64 8)<| (zG (zA (cg _ _ ?_)))
  obtain rfl:=someI c
  refine (zY (yF (zV (post1 (v1:= .int .i64 8) rfl rfl ?_))))
  exact ⟨rfl,H.pick [] (by decide)⟩
 have c:=zT G c
 obtain ⟨aj,c,ch⟩:=zF c
 refine yK [91,92,93,94,95,96,97,98,99] (fun (g:Unit)=>[(91,.bool aj)]) (fun g wl=>Hd O w wl S [.fz (.sl rCond v1 f.Kids),.blk h [.int .i64 f.Kind,.string (bs f.Name),.string (bs f.Other),.int .i64 f.Op,.int .i64 f.N,.int .i64 f.Frames,v1] 70,.blk j [.bool d.name,.bool d.other,.bool d.op,.bool d.n,.bool d.frames,.int .i64 d.least,.int .i64 d.most] 226]) ?_ ?_
 ·skip
  refine zB ?_
  refine zH (fa226_2 rfl)<| zH (zN one4 rfl (Cells.get (Blk.cells (H.item (i:=2) rfl)) (i:=2) rfl))<| yN (b:=d.op) rfl rfl rfl (fun I=>?_) (fun I=>?_)
  ·have c:=zS I c
   refine zH (fa70_3 rfl)<| zH (zN one3 rfl (Cells.get (Blk.cells (H.item (i:=1) rfl)) (i:=3) rfl)) ?_
   have ci:=H
   obtain ⟨cj,ck,c⟩:=zF c
   refine yG rfl rfl (yC en76 rfl) (Faew f.Op 1 6 _ ck _ _ _ (H.enter [] [] (by decide) rfl)) ?_
   rintro _ d9 ⟨rfl,cl⟩
   have H:=ci.step (cl.only:Only [] _ _)
   refine ⟨_,rfl,?_⟩
   obtain ⟨ak,cm,c⟩:=zD c
   refine zH (zQ (wI (p:=cj) rfl) cm)<| zH (yL (v:= .bool ak) rfl rfl)<| zK (.bool ak) ?_
   obtain rfl:=someI c
   exact (zG (zA (meet ⟨(),(zL rfl zM),H.pick [0,1,2] (by decide)⟩)))
  have c:=zT I c
  refine yI ?_
  refine yI ?_
  refine yI ?_
  refine yI ?_
  refine zH (yJ (v:= .bool false) rfl rfl)<| zK (.bool false) ?_
  obtain rfl:=someI c
  exact (zG (zA (meet ⟨(),(zL rfl zM),H.pick [0,1,2] (by decide)⟩)))
 rintro _ ρ ea H
 have c:=ch
 refine zZ (b:=aj) rfl (fun J=>?_) (fun J=>?_)
 ·have c:=zS J c
  refine zC fun eb cn=>zB ?_
  refine zK (.int .i64 7)<| (zG (zA (cn _ _ ?_)))
  obtain rfl:=someI c
  refine (zY (yF (zV (post1 (v1:= .int .i64 7) rfl rfl ?_))))
  exact ⟨rfl,H.pick [] (by decide)⟩
 have c:=zT J c
 obtain ⟨al,c,co⟩:=zF c
 refine yK [100,101,102,103,104,105,106,107,108] (fun (g:Unit)=>[(100,.bool al)]) (fun g wl=>Hd O w wl S [.fz (.sl rCond v1 f.Kids),.blk h [.int .i64 f.Kind,.string (bs f.Name),.string (bs f.Other),.int .i64 f.Op,.int .i64 f.N,.int .i64 f.Frames,v1] 70,.blk j [.bool d.name,.bool d.other,.bool d.op,.bool d.n,.bool d.frames,.int .i64 d.least,.int .i64 d.most] 226]) ?_ ?_
 ·skip
  refine zB ?_
  refine zH (fa226_4 rfl)<| zH (zN one4 rfl (Cells.get (Blk.cells (H.item (i:=2) rfl)) (i:=4) rfl))<| yN (b:=d.frames) rfl rfl rfl (fun K=>?_) (fun K=>?_)
  ·have c:=zS K c
   refine zH (fa70_5 rfl)<| zH (zN one3 rfl (Cells.get (Blk.cells (H.item (i:=1) rfl)) (i:=5) rfl)) ?_
   have cp:=H
   obtain ⟨cq,cr,c⟩:=zF c
   refine yG rfl rfl (yC en76 rfl) (Faew f.Frames 1 4096 _ cr _ _ _ (H.enter [] [] (by decide) rfl)) ?_
   rintro _ ec ⟨rfl,ct⟩
   have H:=cp.step (ct.only:Only [] _ _)
   refine ⟨_,rfl,?_⟩
   obtain ⟨am,cu,c⟩:=zD c
   refine zH (zQ (wI (p:=cq) rfl) cu)<| zH (yL (v:= .bool am) rfl rfl)<| zK (.bool am) ?_
   obtain rfl:=someI c
   exact (zG (zA (meet ⟨(),(zL rfl zM),H.pick [0,1,2] (by decide)⟩)))
  have c:=zT K c
  refine yI ?_
  refine yI ?_
  refine yI ?_
  refine yI ?_
  refine zH (yJ (v:= .bool false) rfl rfl)<| zK (.bool false) ?_
  obtain rfl:=someI c
  exact (zG (zA (meet ⟨(),(zL rfl zM),H.pick [0,1,2] (by decide)⟩)))
 rintro _ ρ ed H
 have c:=co
 refine zZ (b:=al) rfl (fun L=>?_) (fun L=>?_)
 ·have c:=zS L c
  refine zC fun ee cv=>zB ?_
  refine zK (.int .i64 9)<| (zG (zA (cv _ _ ?_)))
  obtain rfl:=someI c
  refine (zY (yF (zV (post1 (v1:= .int .i64 9) rfl rfl ?_))))
  exact ⟨rfl,H.pick [] (by decide)⟩
 have c:=zT L c
 obtain ⟨an,c,cw⟩:=zF c
 refine yK [109,110,111,112,113,114,115,116,117,118,119,120] (fun (g:Unit)=>[(109,.bool an)]) (fun g wl=>Hd O w wl S [.fz (.sl rCond v1 f.Kids),.blk h [.int .i64 f.Kind,.string (bs f.Name),.string (bs f.Other),.int .i64 f.Op,.int .i64 f.N,.int .i64 f.Frames,v1] 70,.blk j [.bool d.name,.bool d.other,.bool d.op,.bool d.n,.bool d.frames,.int .i64 d.least,.int .i64 d.most] 226]) ?_ ?_
 ·skip
  refine zB ?_
  refine zH (fa70_0 rfl)<| zH (zN one3 rfl (Cells.get (Blk.cells (H.item (i:=1) rfl)) (i:=0) rfl)) ?_
  obtain ⟨cx,cy,c⟩:=zD c
  refine zH (zQ (xA (a:=f.Kind) (b:=13) rfl rfl) cy)<| yN (b:=cx) rfl rfl rfl (fun M=>?_) (fun M=>?_)
  ·have c:=zS M c
   refine zH (fa70_4 rfl)<| zH (zN one3 rfl (Cells.get (Blk.cells (H.item (i:=1) rfl)) (i:=4) rfl))<| zH (fa70_5 rfl)<| zH (zN one3 rfl (Cells.get (Blk.cells (H.item (i:=1) rfl)) (i:=5) rfl)) ?_
   have cz:=H
   obtain ⟨c0,c1,c⟩:=zF c
   refine yG rfl rfl (yC en76 rfl) (Faew f.N 1 f.Frames _ c1 _ _ _ (H.enter [] [] (by decide) rfl)) ?_
   rintro _ ef ⟨rfl,c2⟩
   have H:=cz.step (c2.only:Only [] _ _)
   refine ⟨_,rfl,?_⟩
   obtain ⟨ao,c3,c⟩:=zD c
   refine zH (zQ (wI (p:=c0) rfl) c3)<| zH (yL (v:= .bool ao) rfl rfl)<| zK (.bool ao) ?_
   obtain rfl:=someI c
   exact (zG (zA (meet ⟨(),(zL rfl zM),H.pick [0,1,2] (by decide)⟩)))
  have c:=zT M c
  refine yI ?_
  refine yI ?_
  refine yI ?_
  refine yI ?_
  refine yI ?_
  refine yI ?_
  refine zH (yJ (v:= .bool false) rfl rfl)<| zK (.bool false) ?_
  obtain rfl:=someI c
  exact (zG (zA (meet ⟨(),(zL rfl zM),H.pick [0,1,2] (by decide)⟩)))
 rintro _ ρ eg H
 have c:=cw
 refine zZ (b:=an) rfl (fun P=>?_) (fun P=>?_)
 ·have c:=zS P c
  refine zC fun eh c4=>zB ?_
  refine zK (.int .i64 9)<| (zG (zA (c4 _ _ ?_)))
  obtain rfl:=someI c
  refine (zY (yF (zV (post1 (v1:= .int .i64 9) rfl rfl ?_))))
  exact ⟨rfl,H.pick [] (by decide)⟩
 have c:=zT P c
 obtain ⟨ap,c,c5⟩:=zF c
 refine yK [121,122,123,124,125,126,127,128,129,130,131,132,133,134,135,136,137,138,139] (fun (g:Unit)=>[(121,.bool ap)]) (fun g wl=>Hd O w wl S []) ?_ ?_
 ·skip
  refine zB ?_
  refine zH (fa226_3 rfl)<| zH (zN one4 rfl (Cells.get (Blk.cells (H.item (i:=2) rfl)) (i:=3) rfl)) ?_
  obtain ⟨aq,c,c6⟩:=zF c
  refine RL_cutS 6 [124,125,126,127,128,129] [(129,.bool aq)] (fun wl=>Hd O w wl S [.fz (.sl rCond v1 f.Kids),.blk h [.int .i64 f.Kind,.string (bs f.Name),.string (bs f.Other),.int .i64 f.Op,.int .i64 f.N,.int .i64 f.Frames,v1] 70,.blk j [.bool d.name,.bool d.other,.bool d.op,.bool d.n,.bool d.frames,.int .i64 d.least,.int .i64 d.most] 226]) ?_ ?_
  ·skip
   refine yN (b:=d.n) rfl rfl rfl (fun Q=>?_) (fun Q=>?_)
   ·have c:=zS Q c
    refine zH (fa70_4 rfl)<| zH (zN one3 rfl (Cells.get (Blk.cells (H.item (i:=1) rfl)) (i:=4) rfl)) ?_
    have c7:=H
    obtain ⟨c8,c9,c⟩:=zF c
    refine yG rfl rfl (yC en76 rfl) (Faew f.N (-1125899906842624) 1125899906842624 _ c9 _ _ _ (H.enter [] [] (by decide) rfl)) ?_
    rintro _ ei ⟨rfl,da⟩
    have H:=c7.step (da.only:Only [] _ _)
    refine ⟨_,rfl,?_⟩
    obtain ⟨db,dc,c⟩:=zD c
    refine zH (zQ (wI (p:=c8) rfl) dc)<| zH (yL (v:= .bool db) rfl rfl) ?_
    obtain rfl:=someI c
    exact zG (zA (meet ⟨(zL rfl zM),H.pick [0,1,2] (by decide)⟩))
   have c:=zT Q c
   refine yI ?_
   refine yI ?_
   refine yI ?_
   refine yI ?_
   refine zH (yJ (v:= .bool false) rfl rfl) ?_
   obtain rfl:=someI c
   exact zG (zA (meet ⟨(zL rfl zM),H.pick [0,1,2] (by decide)⟩))
  rintro ρ ej H
  have c:=c6
  refine yN (b:=aq) rfl rfl rfl (fun R=>?_) (fun R=>?_)
  ·have c:=zS R c
   refine yI ?_
   refine yI ?_
   refine yI ?_
   refine yI ?_
   refine yI ?_
   refine yI ?_
   refine yI ?_
   refine yI ?_
   refine zH (yL (v:= .bool true) rfl rfl)<| zK (.bool true) ?_
   obtain rfl:=someI c
   exact (zG (zA (meet ⟨(),(zL rfl zM),H.pick [] (by decide)⟩)))
  have c:=zT R c
  refine zH (fa70_0 rfl)<| zH (zN one3 rfl (Cells.get (Blk.cells (H.item (i:=1) rfl)) (i:=0) rfl)) ?_
  obtain ⟨dd,de,c⟩:=zD c
  refine zH (zQ (xA (a:=f.Kind) (b:=5) rfl rfl) de)<| yN (b:=dd) rfl rfl rfl (fun T=>?_) (fun T=>?_)
  ·have c:=zS T c
   refine zH (fa70_4 rfl)<| zH (zN one3 rfl (Cells.get (Blk.cells (H.item (i:=1) rfl)) (i:=4) rfl)) ?_
   obtain ⟨U,df,c⟩:=zD c
   refine zH (zQ (xR (a:=f.N) (b:=0) rfl rfl) df)<| zH (yL (v:= .bool U) rfl rfl)<| zH (yJ (v:= .bool U) rfl rfl)<| zK (.bool U) ?_
   obtain rfl:=someI c
   exact (zG (zA (meet ⟨(),(zL rfl zM),H.pick [] (by decide)⟩)))
  have c:=zT T c
  refine yI ?_
  refine yI ?_
  refine yI ?_
  refine zH (yJ (v:= .bool false) rfl rfl)<| zH (yJ (v:= .bool false) rfl rfl)<| zK (.bool false) ?_
  obtain rfl:=someI c
  exact (zG (zA (meet ⟨(),(zL rfl zM),H.pick [] (by decide)⟩)))
 rintro _ ρ ek H
 have c:=c5
 refine zZ (b:=ap) rfl (fun V=>?_) (fun V=>?_)
 ·have c:=zS V c
  refine zC fun el dg=>zB ?_
  refine zK (.int .i64 9)<| (zG (zA (dg _ _ ?_)))
  obtain rfl:=someI c
  refine (zY (yF (zV (post1 (v1:= .int .i64 9) rfl rfl ?_))))
  exact ⟨rfl,H.pick [] (by decide)⟩
 have c:=zT V c
 refine (yA (yP (zA (b2 _ _ ?_))))
 refine zC fun em dh=>zB ?_
 refine zK (.int .i64 0)<| (zG (zA (dh _ _ ?_)))
 obtain rfl:=someI c
 refine (zY (post1 (v1:= .int .i64 0) rfl rfl ?_))
 exact ⟨rfl,H.pick [] (by decide)⟩
abbrev Fef (f:Cond→Option Int):Prop:= ∀(p0:Cond) (v1:Value) (r:Int) (_:f p0=some r) (O S:List Nat) (w:World) (_:Hd O w w S [.fz (.sl rCond v1 p0.Kids)]),
  Calls Tryz.prog 81 ([.agg [.int .i64 p0.Kind,.string (bs p0.Name),.string (bs p0.Other),.int .i64 p0.Op,.int .i64 p0.N,.int .i64 p0.Frames,v1].toArray,.func (.func 82) #[] #[]]:List Value).toArray w fun e w'=>e= .returned (.int .i64 r)∧Hd O w w' S []
theorem Fcuw (rfD:Cond→Option Int)(rhD:Fef rfD)(d:Cond)(v1:Value)(r:Int)(c:Fcu rfD d=some r)(O S:List Nat)(w:World)(H:Hd O w w S [.fz (.sl rCond v1 d.Kids)]):
  Calls Tryz.prog 81 ([.agg [.int .i64 d.Kind,.string (bs d.Name),.string (bs d.Other),.int .i64 d.Op,.int .i64 d.N,.int .i64 d.Frames,v1].toArray,.func (.func 82) #[] #[]]:List Value).toArray w fun e w'=>e= .returned (.int .i64 r)∧Hd O w w' S []:=by
 unfold Fcu at c
 refine zW 29 Tryz.func81 rfl rfl rfl ?_
 refine zC fun K3 t=>zB ?_
 refine yY rfl rfl (xX (cs:=[.int .i64 d.Kind,.string (bs d.Name),.string (bs d.Other),.int .i64 d.Op,.int .i64 d.N,.int .i64 d.Frames,v1]) rfl H) ?_
 rintro _ w6 ⟨b4,rfl,H⟩
 refine zK (.int .i64 0)<| (zG (zA (t _ _ ?_)))
 refine zC fun av u=>?_
 refine zC fun aw v=>zB ?_
 refine zJ (.func (.func 82) #[] #[])<| zH (yS (yR (cs:=[.int .i64 d.Kind,.string (bs d.Name),.string (bs d.Other),.int .i64 d.Op,.int .i64 d.N,.int .i64 d.Frames,v1]) agg70 rfl sz70 rfl (Blk.cells (H.item (i:=1) rfl))) rfl) ?_
 have x:=H
 obtain ⟨h,y,c⟩:=zF c
 refine yG rfl rfl (DoC_clo en82 rfl rfl) (Fanw d v1 _ y _ _ _ (H.enter [] [0] (by decide) rfl)) ?_
 rintro _ ax ⟨rfl,z⟩
 have H:=x.step (z.only:Only [] _ _)
 refine ⟨_,rfl,?_⟩
 refine zK (.int .i64 h)<| (zG (zA (v _ _ ?_)))
 refine zC fun ay A=>zB ?_
 refine zJ (.int .i64 h) ?_
 obtain ⟨B,C,c⟩:=zD c
 refine zH (zQ (wH (a:=h) (b:=0) rfl rfl) C)<| (zG (zA (A _ _ ?_)))
 refine zZ (b:=B) rfl (fun l=>?_) (fun l=>?_)
 ·have c:=zS l c
  refine zC fun az D=>zB ?_
  refine zJ (.int .i64 h)<| zK (.int .i64 h)<| (zG (zA (D _ _ ?_)))
  obtain rfl:=someI c
  refine (zY (zV (post1 (v1:= .int .i64 h) rfl rfl ?_)))
  exact ⟨rfl,H.pick [] (by decide)⟩
 have c:=zT l c
 refine (yA (zA (u _ _ ?_)))
 obtain ⟨E,F,c⟩:=xZ c
 refine yK [4,7,8,15,16,17,18,19,20,21,22,23,24,25,26,27,28] (fun (g:Unit)=>[]) (fun g wl=>Hd O w wl S []∧E ()=some r) ?_ ?_
 ·skip
  refine zC fun a0 G=>zB ?_
  refine zH (fa70_6 rfl)<| zH (zN one68 rfl (Cells.get (Blk.cells (H.item (i:=1) rfl)) (i:=6) rfl)) ?_
  obtain ⟨I,J,c⟩:=zD c
  obtain ⟨a1,a2,K⟩:=SlF.len ((H.item (i:=0) rfl))
  refine zH (yS (xP u68 K) (congrArg (Value.int .i64) J))<| zJ (.int .i64 0)<| (zG (zA (G _ _ ?_)))
  refine yH ?_
  unfold Feh at c
  obtain ⟨L,q,M,c⟩:=yX c
  refine xI [4,7,8,18,19,20,21,22,23,24,25,26,27,28] (fun (g:Nat×Int)=>[(18,.int .i64 g.2)]) (fun g wl=>Hd O w wl S [.fz (.sl rCond v1 d.Kids)]∧loopN L g.1 g.2=some r) (fun g=>g.1) (q,0) (zL rfl zM) ⟨H.pick [0] (by decide),c⟩ ?_
  clear H c
  rintro ⟨q,m⟩ ρ a3 ⟨H,c⟩
  obtain ⟨P,rfl,c⟩:=xC c
  have c:=xB M c
  refine zC fun a4 Q=>zB ?_
  obtain ⟨R,T,c⟩:=zD c
  refine zH (zQ (xR (a:=m) (b:=I) rfl rfl) T)<| (zG (zA (Q _ _ ?_)))
  refine zC fun a5 U=>?_
  refine zZ (b:=R) rfl (fun n=>?_) (fun n=>?_)
  ·have c:=zS n c
   refine (yA (zA (U _ _ ?_)))
   refine zC fun a6 V=>?_
   refine yH ?_
   refine zC fun a7 X=>zB ?_
   obtain ⟨f,o,c⟩:=zF c
   obtain ⟨Y,Z,a8,a9,aa,ab,ac,ad,ae⟩:=rd_at (H.item (i:=0) rfl) o
   obtain ⟨k,rfl,af⟩:=rCond_open ab
   have H:=H.fzs [.at Y (Z+m.toNat * 7) _,.sl rCond k f.Kids] ⟨⟨ac,ad,ae⟩,af,trivial⟩
   refine zH (xE u68 sz70 aa rfl (yE o).1 (yE o).2.1 rfl rfl)<| zH (yS (yR (cs:=[.int .i64 f.Kind,.string (bs f.Name),.string (bs f.Other),.int .i64 f.Op,.int .i64 f.N,.int .i64 f.Frames,k]) agg70 rfl sz70 rfl (H.item (i:=1) rfl).2.2) rfl)<| yY rfl rfl (xQ zero70 H) ?_
   rintro _ ba ⟨bb,rfl,H⟩
   refine xG rfl (xH (vs:=[.int .i64 f.Kind,.string (bs f.Name),.string (bs f.Other),.int .i64 f.Op,.int .i64 f.N,.int .i64 f.Frames,k]) H 3 rfl sz70 rfl rfl rfl ⟨rfl,rfl,rfl,rfl,rfl,rfl,(slf_one (H.item (i:=2) rfl)),trivial⟩ rfl) ?_
   rintro bc H
   refine (zG (zA (X _ _ ?_)))
   refine zC fun bd ag=>zB ?_
   refine zH (yS (yR (cs:=[.int .i64 f.Kind,.string (bs f.Name),.string (bs f.Other),.int .i64 f.Op,.int .i64 f.N,.int .i64 f.Frames,k]) agg70 rfl sz70 rfl (Blk.cells (H.item (i:=3) rfl))) rfl)<| zJ (.func (.func 82) #[] #[]) ?_
   have ah:=H
   obtain ⟨j,ai,c⟩:=zF c
   refine yG rfl rfl (yC en81 rfl) (rhD f k _ ai _ _ _ (H.enter [] [2] (by decide) rfl)) ?_
   rintro _ be ⟨rfl,aj⟩
   have H:=ah.step (aj.only:Only [] _ _)
   refine ⟨_,rfl,?_⟩
   refine zK (.int .i64 j)<| (zG (zA (ag _ _ ?_)))
   refine zC fun bf ak=>zB ?_
   refine zJ (.int .i64 j) ?_
   obtain ⟨al,am,c⟩:=zD c
   refine zH (zQ (wH (a:=j) (b:=0) rfl rfl) am)<| (zG (zA (ak _ _ ?_)))
   refine zZ (b:=al) rfl (fun p=>?_) (fun p=>?_)
   ·have c:=zS p c
    refine zC fun bg an=>zB ?_
    refine zJ (.int .i64 j)<| zK (.int .i64 j)<| (zG (zA (an _ _ ?_)))
    obtain rfl:=someI c
    refine (zY (yF (zV (zV (yF (zV (post1 (v1:= .int .i64 j) rfl rfl ?_)))))))
    exact ⟨rfl,H.pick [] (by decide)⟩
   have c:=zT p c
   refine (yA (yP (zA (V _ _ ?_))))
   refine zB ?_
   obtain ⟨s,ao,c⟩:=zD c
   refine zH (xM (a:=m) (b:=1) rfl rfl ao)<| zJ (.int .i64 s) ?_
   exact (zG (zA (meet ⟨(P,s),(zL rfl zM),⟨H.pick [0] (by decide),c⟩,Nat.lt_succ_self _⟩)))
  have c:=zT n c
  exact (xO (yQ (yQ (yZ (zA (meet ⟨(),zM,⟨H.pick [] (by decide),c⟩⟩))))))
 rintro _ ρ bh ⟨H,c⟩
 have c:=wJ F c
 refine zC fun bi ap=>zB ?_
 refine zK (.int .i64 0)<| (zG (zA (ap _ _ ?_)))
 obtain rfl:=someI c
 refine (zY (post1 (v1:= .int .i64 0) rfl rfl ?_))
 exact ⟨rfl,H.pick [] (by decide)⟩
theorem Ffa:Fef (Fdu):=by
 have h: ∀n,Fef (Fbg n):=by
  intro n
  induction n with
  | zero=>intro b c r a; cases a
  | succ n ih=>intro b c r a; exact Fcuw (Fbg n) ih b c r a
 exact h FU
theorem Fbow (a:Cond)(v1:Value)(r:Int)(c:Fbo a=some r)(O S:List Nat)(w:World)(H:Hd O w w S [.fz (.sl rCond v1 a.Kids)]):
  Calls Tryz.prog 29 ([.agg [.int .i64 a.Kind,.string (bs a.Name),.string (bs a.Other),.int .i64 a.Op,.int .i64 a.N,.int .i64 a.Frames,v1].toArray]:List Value).toArray w fun e w'=>e= .returned (.int .i64 r)∧Hd O w w' S []:=by
 unfold Fbo at c
 refine zW 9 Tryz.func29 rfl rfl rfl ?_
 refine zC fun E j=>zB ?_
 refine yY rfl rfl (xX (cs:=[.int .i64 a.Kind,.string (bs a.Name),.string (bs a.Other),.int .i64 a.Op,.int .i64 a.N,.int .i64 a.Frames,v1]) rfl H) ?_
 rintro _ F ⟨k,rfl,H⟩
 refine zK (.int .i64 0)<| (zG (zA (j _ _ ?_)))
 refine zC fun G l=>zB ?_
 refine yY rfl rfl (xQ zero3 H) ?_
 rintro _ I ⟨f,rfl,H⟩
 refine xG rfl (wE H 2 rfl sz3 rfl (v:= .int .i64 0) rfl rfl rfl) ?_
 rintro J H
 refine (zG (zA (l _ _ ?_)))
 refine zC fun K m=>?_
 refine zC fun L n=>zB ?_
 refine zH (yS (yR (cs:=[.int .i64 a.Kind,.string (bs a.Name),.string (bs a.Other),.int .i64 a.Op,.int .i64 a.N,.int .i64 a.Frames,v1]) agg70 rfl sz70 rfl (Blk.cells (H.item (i:=1) rfl))) rfl) ?_
 obtain ⟨⟨o,q⟩,s,c⟩:=zF c
 refine yG rfl rfl (yC en80 rfl) (Ffb a 20 0 v1 f _ s _ _ _ (H.enter [2] [0] (by decide) rfl)) ?_
 rintro _ t ⟨rfl,u⟩
 have H:Hd _ _ t _ [.fz (.sl rCond v1 a.Kids),.blk k [.int .i64 a.Kind,.string (bs a.Name),.string (bs a.Other),.int .i64 a.Op,.int .i64 a.N,.int .i64 a.Frames,v1] 70,.blk f [.int .i64 q] 3]:=H.back [2] [0] rfl u
 refine ⟨_,rfl,?_⟩
 obtain ⟨x,y,c⟩:=zD c
 refine zH (zQ (wI (p:=o) rfl) y)<| (zG (zA (n _ _ ?_)))
 refine zZ (b:=x) rfl (fun d=>?_) (fun d=>?_)
 ·have c:=zS d c
  refine zC fun M z=>zB ?_
  refine zK (.int .i64 3)<| (zG (zA (z _ _ ?_)))
  obtain rfl:=someI c
  refine (zY (zV (post1 (v1:= .int .i64 3) rfl rfl ?_)))
  exact ⟨rfl,H.pick [] (by decide)⟩
 have c:=zT d c
 refine (yA (zA (m _ _ ?_)))
 refine zC fun P A=>zB ?_
 refine zH (yS (yR (cs:=[.int .i64 a.Kind,.string (bs a.Name),.string (bs a.Other),.int .i64 a.Op,.int .i64 a.N,.int .i64 a.Frames,v1]) agg70 rfl sz70 rfl (Blk.cells (H.item (i:=1) rfl))) rfl) ?_
 have B:=H
 obtain ⟨h,C,c⟩:=zF c
 refine yG rfl rfl (yC en81 rfl) (Ffa a v1 _ C _ _ _ (H.enter [] [0] (by decide) rfl)) ?_
 rintro _ Q ⟨rfl,D⟩
 have H:=B.step (D.only:Only [] _ _)
 refine ⟨_,rfl,?_⟩
 refine zK (.int .i64 h)<| (zG (zA (A _ _ ?_)))
 obtain rfl:=someI c
 refine (zY (post1 (v1:= .int .i64 h) rfl rfl ?_))
 exact ⟨rfl,H.pick [] (by decide)⟩
theorem Fb0w (d:Cond)(v1:Value)(r:Int)(c:Fb0 d=some r)(O S:List Nat)(w:World)(H:Hd O w w S [.fz (.sl rCond v1 d.Kids)]):
  Calls Tryz.prog 146 ([.agg [.int .i64 d.Kind,.string (bs d.Name),.string (bs d.Other),.int .i64 d.Op,.int .i64 d.N,.int .i64 d.Frames,v1].toArray]:List Value).toArray w fun e w'=>e= .returned (.int .i64 r)∧Hd O w w' S []:=by
 unfold Fb0 at c
 refine zW 11 Tryz.func146 rfl rfl rfl ?_
 refine zC fun u k=>zB ?_
 refine yY rfl rfl (xX (cs:=[.int .i64 d.Kind,.string (bs d.Name),.string (bs d.Other),.int .i64 d.Op,.int .i64 d.N,.int .i64 d.Frames,v1]) rfl H) ?_
 rintro _ x ⟨y,rfl,H⟩
 refine zK (.int .i64 0)<| (zG (zA (k _ _ ?_)))
 refine zC fun z l=>?_
 obtain ⟨j,c,m⟩:=zF c
 refine yK [3,4,5,6,7,8,9,10] (fun (g:Unit)=>[(10,.bool j)]) (fun g wl=>Hd O w wl S []) ?_ ?_
 ·skip
  refine zB ?_
  refine zH (fa70_0 rfl)<| zH (zN one3 rfl (Cells.get (Blk.cells (H.item (i:=1) rfl)) (i:=0) rfl)) ?_
  obtain ⟨n,o,c⟩:=zD c
  refine zH (zQ (xA (a:=d.Kind) (b:=6) rfl rfl) o)<| yN (b:=n) rfl rfl rfl (fun f=>?_) (fun f=>?_)
  ·have c:=zS f c
   refine yI ?_
   refine yI ?_
   refine yI ?_
   refine zH (yL (v:= .bool true) rfl rfl) ?_
   obtain rfl:=someI c
   exact (zG (zA (meet ⟨(),(zL rfl zM),H.pick [] (by decide)⟩)))
  have c:=zT f c
  refine zH (fa70_0 rfl)<| zH (zN one3 rfl (Cells.get (Blk.cells (H.item (i:=1) rfl)) (i:=0) rfl)) ?_
  obtain ⟨p,q,c⟩:=zD c
  refine zH (zQ (xA (a:=d.Kind) (b:=7) rfl rfl) q)<| zH (yJ (v:= .bool p) rfl rfl) ?_
  obtain rfl:=someI c
  exact (zG (zA (meet ⟨(),(zL rfl zM),H.pick [] (by decide)⟩)))
 rintro _ ρ A H
 have c:=m
 refine zZ (b:=j) rfl (fun h=>?_) (fun h=>?_)
 ·have c:=zS h c
  refine zC fun B s=>zB ?_
  refine zK (.int .i64 2)<| (zG (zA (s _ _ ?_)))
  obtain rfl:=someI c
  refine (zY (zV (post1 (v1:= .int .i64 2) rfl rfl ?_)))
  exact ⟨rfl,H.pick [] (by decide)⟩
 have c:=zT h c
 refine (yA (zA (l _ _ ?_)))
 refine zC fun C t=>zB ?_
 refine zK (.int .i64 0)<| (zG (zA (t _ _ ?_)))
 obtain rfl:=someI c
 refine (zY (post1 (v1:= .int .i64 0) rfl rfl ?_))
 exact ⟨rfl,H.pick [] (by decide)⟩
abbrev Fed (f:Cond→Option Int):Prop:= ∀(p0:Cond) (v1:Value) (r:Int) (_:f p0=some r) (O S:List Nat) (w:World) (_:Hd O w w S [.fz (.sl rCond v1 p0.Kids)]),
  Calls Tryz.prog 81 ([.agg [.int .i64 p0.Kind,.string (bs p0.Name),.string (bs p0.Other),.int .i64 p0.Op,.int .i64 p0.N,.int .i64 p0.Frames,v1].toArray,.func (.func 146) #[] #[]]:List Value).toArray w fun e w'=>e= .returned (.int .i64 r)∧Hd O w w' S []
theorem Fbww (rfE:Cond→Option Int)(rhE:Fed rfE)(d:Cond)(v1:Value)(r:Int)(c:Fbw rfE d=some r)(O S:List Nat)(w:World)(H:Hd O w w S [.fz (.sl rCond v1 d.Kids)]):
  Calls Tryz.prog 81 ([.agg [.int .i64 d.Kind,.string (bs d.Name),.string (bs d.Other),.int .i64 d.Op,.int .i64 d.N,.int .i64 d.Frames,v1].toArray,.func (.func 146) #[] #[]]:List Value).toArray w fun e w'=>e= .returned (.int .i64 r)∧Hd O w w' S []:=by
 unfold Fbw at c
 refine zW 29 Tryz.func81 rfl rfl rfl ?_
 refine zC fun K3 t=>zB ?_
 refine yY rfl rfl (xX (cs:=[.int .i64 d.Kind,.string (bs d.Name),.string (bs d.Other),.int .i64 d.Op,.int .i64 d.N,.int .i64 d.Frames,v1]) rfl H) ?_
 rintro _ w6 ⟨b4,rfl,H⟩
 refine zK (.int .i64 0)<| (zG (zA (t _ _ ?_)))
 refine zC fun av u=>?_
 refine zC fun aw v=>zB ?_
 refine zJ (.func (.func 146) #[] #[])<| zH (yS (yR (cs:=[.int .i64 d.Kind,.string (bs d.Name),.string (bs d.Other),.int .i64 d.Op,.int .i64 d.N,.int .i64 d.Frames,v1]) agg70 rfl sz70 rfl (Blk.cells (H.item (i:=1) rfl))) rfl) ?_
 have x:=H
 obtain ⟨h,y,c⟩:=zF c
 refine yG rfl rfl (DoC_clo en146 rfl rfl) (Fb0w d v1 _ y _ _ _ (H.enter [] [0] (by decide) rfl)) ?_
 rintro _ ax ⟨rfl,z⟩
 have H:=x.step (z.only:Only [] _ _)
 refine ⟨_,rfl,?_⟩
 refine zK (.int .i64 h)<| (zG (zA (v _ _ ?_)))
 refine zC fun ay A=>zB ?_
 refine zJ (.int .i64 h) ?_
 obtain ⟨B,C,c⟩:=zD c
 refine zH (zQ (wH (a:=h) (b:=0) rfl rfl) C)<| (zG (zA (A _ _ ?_)))
 refine zZ (b:=B) rfl (fun l=>?_) (fun l=>?_)
 ·have c:=zS l c
  refine zC fun az D=>zB ?_
  refine zJ (.int .i64 h)<| zK (.int .i64 h)<| (zG (zA (D _ _ ?_)))
  obtain rfl:=someI c
  refine (zY (zV (post1 (v1:= .int .i64 h) rfl rfl ?_)))
  exact ⟨rfl,H.pick [] (by decide)⟩
 have c:=zT l c
 refine (yA (zA (u _ _ ?_)))
 obtain ⟨E,F,c⟩:=xZ c
 refine yK [4,7,8,15,16,17,18,19,20,21,22,23,24,25,26,27,28] (fun (g:Unit)=>[]) (fun g wl=>Hd O w wl S []∧E ()=some r) ?_ ?_
 ·skip
  refine zC fun a0 G=>zB ?_
  refine zH (fa70_6 rfl)<| zH (zN one68 rfl (Cells.get (Blk.cells (H.item (i:=1) rfl)) (i:=6) rfl)) ?_
  obtain ⟨I,J,c⟩:=zD c
  obtain ⟨a1,a2,K⟩:=SlF.len ((H.item (i:=0) rfl))
  refine zH (yS (xP u68 K) (congrArg (Value.int .i64) J))<| zJ (.int .i64 0)<| (zG (zA (G _ _ ?_)))
  refine yH ?_
  unfold Fek at c
  obtain ⟨L,q,M,c⟩:=yX c
  refine xI [4,7,8,18,19,20,21,22,23,24,25,26,27,28] (fun (g:Nat×Int)=>[(18,.int .i64 g.2)]) (fun g wl=>Hd O w wl S [.fz (.sl rCond v1 d.Kids)]∧loopN L g.1 g.2=some r) (fun g=>g.1) (q,0) (zL rfl zM) ⟨H.pick [0] (by decide),c⟩ ?_
  clear H c
  rintro ⟨q,m⟩ ρ a3 ⟨H,c⟩
  obtain ⟨P,rfl,c⟩:=xC c
  have c:=xB M c
  refine zC fun a4 Q=>zB ?_
  obtain ⟨R,T,c⟩:=zD c
  refine zH (zQ (xR (a:=m) (b:=I) rfl rfl) T)<| (zG (zA (Q _ _ ?_)))
  refine zC fun a5 U=>?_
  refine zZ (b:=R) rfl (fun n=>?_) (fun n=>?_)
  ·have c:=zS n c
   refine (yA (zA (U _ _ ?_)))
   refine zC fun a6 V=>?_
   refine yH ?_
   refine zC fun a7 X=>zB ?_
   obtain ⟨f,o,c⟩:=zF c
   obtain ⟨Y,Z,a8,a9,aa,ab,ac,ad,ae⟩:=rd_at (H.item (i:=0) rfl) o
   obtain ⟨k,rfl,af⟩:=rCond_open ab
   have H:=H.fzs [.at Y (Z+m.toNat * 7) _,.sl rCond k f.Kids] ⟨⟨ac,ad,ae⟩,af,trivial⟩
   refine zH (xE u68 sz70 aa rfl (yE o).1 (yE o).2.1 rfl rfl)<| zH (yS (yR (cs:=[.int .i64 f.Kind,.string (bs f.Name),.string (bs f.Other),.int .i64 f.Op,.int .i64 f.N,.int .i64 f.Frames,k]) agg70 rfl sz70 rfl (H.item (i:=1) rfl).2.2) rfl)<| yY rfl rfl (xQ zero70 H) ?_
   rintro _ ba ⟨bb,rfl,H⟩
   refine xG rfl (xH (vs:=[.int .i64 f.Kind,.string (bs f.Name),.string (bs f.Other),.int .i64 f.Op,.int .i64 f.N,.int .i64 f.Frames,k]) H 3 rfl sz70 rfl rfl rfl ⟨rfl,rfl,rfl,rfl,rfl,rfl,(slf_one (H.item (i:=2) rfl)),trivial⟩ rfl) ?_
   rintro bc H
   refine (zG (zA (X _ _ ?_)))
   refine zC fun bd ag=>zB ?_
   refine zH (yS (yR (cs:=[.int .i64 f.Kind,.string (bs f.Name),.string (bs f.Other),.int .i64 f.Op,.int .i64 f.N,.int .i64 f.Frames,k]) agg70 rfl sz70 rfl (Blk.cells (H.item (i:=3) rfl))) rfl)<| zJ (.func (.func 146) #[] #[]) ?_
   have ah:=H
   obtain ⟨j,ai,c⟩:=zF c
   refine yG rfl rfl (yC en81 rfl) (rhE f k _ ai _ _ _ (H.enter [] [2] (by decide) rfl)) ?_
   rintro _ be ⟨rfl,aj⟩
   have H:=ah.step (aj.only:Only [] _ _)
   refine ⟨_,rfl,?_⟩
   refine zK (.int .i64 j)<| (zG (zA (ag _ _ ?_)))
   refine zC fun bf ak=>zB ?_
   refine zJ (.int .i64 j) ?_
   obtain ⟨al,am,c⟩:=zD c
   refine zH (zQ (wH (a:=j) (b:=0) rfl rfl) am)<| (zG (zA (ak _ _ ?_)))
   refine zZ (b:=al) rfl (fun p=>?_) (fun p=>?_)
   ·have c:=zS p c
    refine zC fun bg an=>zB ?_
    refine zJ (.int .i64 j)<| zK (.int .i64 j)<| (zG (zA (an _ _ ?_)))
    obtain rfl:=someI c
    refine (zY (yF (zV (zV (yF (zV (post1 (v1:= .int .i64 j) rfl rfl ?_)))))))
    exact ⟨rfl,H.pick [] (by decide)⟩
   have c:=zT p c
   refine (yA (yP (zA (V _ _ ?_))))
   refine zB ?_
   obtain ⟨s,ao,c⟩:=zD c
   refine zH (xM (a:=m) (b:=1) rfl rfl ao)<| zJ (.int .i64 s) ?_
   exact (zG (zA (meet ⟨(P,s),(zL rfl zM),⟨H.pick [0] (by decide),c⟩,Nat.lt_succ_self _⟩)))
  have c:=zT n c
  exact (xO (yQ (yQ (yZ (zA (meet ⟨(),zM,⟨H.pick [] (by decide),c⟩⟩))))))
 rintro _ ρ bh ⟨H,c⟩
 have c:=wJ F c
 refine zC fun bi ap=>zB ?_
 refine zK (.int .i64 0)<| (zG (zA (ap _ _ ?_)))
 obtain rfl:=someI c
 refine (zY (post1 (v1:= .int .i64 0) rfl rfl ?_))
 exact ⟨rfl,H.pick [] (by decide)⟩
theorem Fe9:Fed (Fd8):=by
 have h: ∀n,Fed (Fbm n):=by
  intro n
  induction n with
  | zero=>intro b c r a; cases a
  | succ n ih=>intro b c r a; exact Fbww (Fbm n) ih b c r a
 exact h FU
theorem Fcqw (h:Rules)(c:MoveT)(v1:Value)(k:Value)(l:Value)(f:Value)(r:Int)(d:Fcq h c=some r)(O S:List Nat)(w:World)(H:Hd O w w S [.fz (.sl Rp.str v1 h.Phases),.fz (.sl rMoveT k h.Moves),.fz (.sl rRule l h.Rules),.fz (.sl rCond f c.When.Kids)]):
  Calls Tryz.prog 88 ([.agg [v1,k,l].toArray,.agg [.string (bs c.From),.string (bs c.To),.int .i64 c.When.Kind,.string (bs c.When.Name),.string (bs c.When.Other),.int .i64 c.When.Op,.int .i64 c.When.N,.int .i64 c.When.Frames,f].toArray]:List Value).toArray w fun e w'=>e= .returned (.int .i64 r)∧Hd O w w' S []:=by
 unfold Fcq at d
 refine zW 33 Tryz.func88 rfl rfl rfl ?_
 refine zC fun K9 z=>zB ?_
 refine yY rfl rfl (xX (cs:=[v1,k,l]) rfl H) ?_
 rintro _ a0 ⟨A,rfl,H⟩
 refine yY rfl rfl (xX (cs:=[.string (bs c.From),.string (bs c.To),.int .i64 c.When.Kind,.string (bs c.When.Name),.string (bs c.When.Other),.int .i64 c.When.Op,.int .i64 c.When.N,.int .i64 c.When.Frames,f]) rfl H) ?_
 rintro _ a1 ⟨t,rfl,H⟩
 refine zK (.int .i64 0)<| (zG (zA (z _ _ ?_)))
 obtain ⟨B,C,d⟩:=xZ d
 refine yK [4,6,8,9,10,11,12,13,14,15,16,17,18,19,20,21,22,23] (fun (g:Unit)=>[]) (fun g wl=>Hd O w wl S [.fz (.sl rCond f c.When.Kids),.blk t [.string (bs c.From),.string (bs c.To),.int .i64 c.When.Kind,.string (bs c.When.Name),.string (bs c.When.Other),.int .i64 c.When.Op,.int .i64 c.When.N,.int .i64 c.When.Frames,f] 122]∧B ()=some r) ?_ ?_
 ·skip
  refine zC fun a2 D=>zB ?_
  refine zH (fa122_0 rfl)<| zH (zN one9 rfl (Cells.get (Blk.cells (H.item (i:=5) rfl)) (i:=0) rfl))<| zH (fa122_1 rfl)<| zH (zN one9 rfl (Cells.get (Blk.cells (H.item (i:=5) rfl)) (i:=1) rfl)) ?_
  obtain ⟨a3,E,d⟩:=zD d
  subst E
  refine yY rfl rfl (Lx_bs (r:=Rp.str) (xl:=[c.From,c.To]) (cs:=[.string (bs c.From),.string (bs c.To)]) u22 el9 (by decide) (by decide) rfl (wC (vs:=[.string (bs c.From),.string (bs c.To)]) (by decide) rfl rfl ⟨rfl,rfl,trivial⟩ rfl) H ⟨[.string (bs c.From)],[.string (bs c.To)],rfl,rfl,⟨[.string (bs c.To)],[],rfl,rfl,rfl⟩⟩) ?_
  rintro F a4 H
  obtain ⟨G,I,d⟩:=zD d
  obtain ⟨a5,a6,J⟩:=Sr.len (Sr.of_own (H.item (i:=6) rfl))
  refine zH (yS (xP u22 J) (congrArg (Value.int .i64) I))<| zJ (.int .i64 0)<| (zG (zA (D _ _ ?_)))
  refine yH ?_
  unfold Fe0 at d
  obtain ⟨K,u,L,d⟩:=yX d
  refine xI [4,6,14,15,16,17,18,19,20,21,22,23] (fun (g:Nat×Int)=>[(14,.int .i64 g.2)]) (fun g wl=>Hd O w wl S [.fz (.sl Rp.str v1 h.Phases),.fz (.sl rMoveT k h.Moves),.fz (.sl rRule l h.Rules),.fz (.sl rCond f c.When.Kids),.blk A [v1,k,l] 26,.blk t [.string (bs c.From),.string (bs c.To),.int .i64 c.When.Kind,.string (bs c.When.Name),.string (bs c.When.Other),.int .i64 c.When.Op,.int .i64 c.When.N,.int .i64 c.When.Frames,f] 122,.own Rp.str F 9 ([c.From,c.To]:List Str)]∧loopN K g.1 g.2=some r) (fun g=>g.1) (u,0) (zL rfl zM) ⟨H.pick [0,1,2,3,4,5,6] (by decide),d⟩ ?_
  clear H d
  rintro ⟨u,v⟩ ρ a7 ⟨H,d⟩
  obtain ⟨M,rfl,d⟩:=xC d
  have d:=xB L d
  refine zC fun a8 P=>zB ?_
  obtain ⟨Q,R,d⟩:=zD d
  refine zH (zQ (xR (a:=v) (b:=G) rfl rfl) R)<| (zG (zA (P _ _ ?_)))
  refine zC fun a9 T=>?_
  refine zZ (b:=Q) rfl (fun n=>?_) (fun n=>?_)
  ·have d:=zS n d
   refine (yA (zA (T _ _ ?_)))
   refine zC fun ba U=>?_
   refine yH ?_
   refine zC fun bb V=>zB ?_
   obtain ⟨m,o,d⟩:=zF d
   obtain ⟨bc,bd,X,Y,Z,aa⟩:=own_at (H.item (i:=6) rfl) o
   obtain rfl:X= [.string (bs m)]:=Z
   refine zH (xE u22 sz9 Y rfl (yE o).1 (yE o).2.1 rfl rfl)<| zH (zN one9 rfl (Cells.get aa (i:=0) rfl))<| zK (.string (bs m))<| (zG (zA (V _ _ ?_)))
   refine zC fun be ab=>zB ?_
   refine zH (fa26_0 rfl)<| zH (zN one22 rfl (Cells.get (Blk.cells (H.item (i:=4) rfl)) (i:=0) rfl))<| zJ (.string (bs m)) ?_
   have ac:=H
   obtain ⟨ad,ae,d⟩:=zF d
   refine yG rfl rfl (yC en87 rfl) (Fa1w h.Phases m v1 _ ae _ _ _ (H.enter [] [0] (by decide) rfl)) ?_
   rintro _ bf ⟨rfl,af⟩
   have H:=ac.step (af.only:Only [] _ _)
   refine ⟨_,rfl,?_⟩
   obtain ⟨ag,ah,d⟩:=zD d
   refine zH (zQ (wI (p:=ad) rfl) ah)<| (zG (zA (ab _ _ ?_)))
   refine zZ (b:=ag) rfl (fun q=>?_) (fun q=>?_)
   ·have d:=zS q d
    refine zC fun bg ai=>zB ?_
    refine zK (.int .i64 4)<| (zG (zA (ai _ _ ?_)))
    obtain rfl:=someI d
    refine (zY (yF (zV (zV (yF (zV (post1 (v1:= .int .i64 4) rfl rfl ?_)))))))
    exact ⟨rfl,H.pick [] (by decide)⟩
   have d:=zT q d
   refine (yA (yP (zA (U _ _ ?_))))
   refine zB ?_
   obtain ⟨x,aj,d⟩:=zD d
   refine zH (xM (a:=v) (b:=1) rfl rfl aj)<| zJ (.int .i64 x) ?_
   exact (zG (zA (meet ⟨(M,x),(zL rfl zM),⟨H.pick [0,1,2,3,4,5,6] (by decide),d⟩,Nat.lt_succ_self _⟩)))
  have d:=zT n d
  exact (xO (yQ (yQ (yZ (zA (meet ⟨(),zM,⟨H.pick [3,5] (by decide),d⟩⟩))))))
 rintro _ ρ bh ⟨H,d⟩
 have d:=wJ C d
 refine zC fun bi ak=>?_
 refine zC fun bj al=>zB ?_
 refine zH (fa122_2 rfl)<| zH (yS (yR (cs:=[.int .i64 c.When.Kind,.string (bs c.When.Name),.string (bs c.When.Other),.int .i64 c.When.Op,.int .i64 c.When.N,.int .i64 c.When.Frames,f]) agg70 rfl sz70 rfl (Cells.drop (Blk.cells (H.item (i:=1) rfl)) 2 7)) rfl) ?_
 have am:=H
 obtain ⟨j,an,d⟩:=zF d
 refine yG rfl rfl (yC en29 rfl) (Fbow c.When f _ an _ _ _ (H.enter [] [0] (by decide) rfl)) ?_
 rintro _ bk ⟨rfl,ao⟩
 have H:=am.step (ao.only:Only [] _ _)
 refine ⟨_,rfl,?_⟩
 refine zK (.int .i64 j)<| (zG (zA (al _ _ ?_)))
 refine zC fun bl ap=>zB ?_
 refine zJ (.int .i64 j) ?_
 obtain ⟨aq,ar,d⟩:=zD d
 refine zH (zQ (wH (a:=j) (b:=0) rfl rfl) ar)<| (zG (zA (ap _ _ ?_)))
 refine zZ (b:=aq) rfl (fun s=>?_) (fun s=>?_)
 ·have d:=zS s d
  refine zC fun bm au=>zB ?_
  refine zJ (.int .i64 j)<| zK (.int .i64 j)<| (zG (zA (au _ _ ?_)))
  obtain rfl:=someI d
  refine (zY (zV (post1 (v1:= .int .i64 j) rfl rfl ?_)))
  exact ⟨rfl,H.pick [] (by decide)⟩
 have d:=zT s d
 refine (yA (zA (ak _ _ ?_)))
 refine zC fun bn av=>zB ?_
 refine zH (fa122_2 rfl)<| zH (yS (yR (cs:=[.int .i64 c.When.Kind,.string (bs c.When.Name),.string (bs c.When.Other),.int .i64 c.When.Op,.int .i64 c.When.N,.int .i64 c.When.Frames,f]) agg70 rfl sz70 rfl (Cells.drop (Blk.cells (H.item (i:=1) rfl)) 2 7)) rfl) ?_
 have aw:=H
 obtain ⟨y,ax,d⟩:=zF d
 refine yG rfl rfl (yC en81 rfl) (Fe9 c.When f _ ax _ _ _ (H.enter [] [0] (by decide) rfl)) ?_
 rintro _ bo ⟨rfl,ay⟩
 have H:=aw.step (ay.only:Only [] _ _)
 refine ⟨_,rfl,?_⟩
 refine zK (.int .i64 y)<| (zG (zA (av _ _ ?_)))
 obtain rfl:=someI d
 refine (zY (post1 (v1:= .int .i64 y) rfl rfl ?_))
 exact ⟨rfl,H.pick [] (by decide)⟩
end Go.Proofs.YtckmiljbaejijaaGreatDoor.L
