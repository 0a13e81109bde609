/- Walks: what each function computes, for every argument; no condition but those that stand in the statements. -/
import Derived.Test.YtckmiljbaejijaaGreatDoorUV0
import Derived.Test.YtckmiljbaejijaaGreatDoorUV9
import Derived.Test.YtckmiljbaejijaaGreatDoorUV2
namespace Go.Proofs.YtckmiljbaejijaaGreatDoor.L
open Go.RowKit Go.OB Go.Lf
set_option maxHeartbeats 4000000
theorem Fepw (rfJ:Cond→Int→Option Str)(rhJ:Fca rfJ)(d:Cond)(l:Int)(v1:Value)(r:Str)(c:Fep rfJ d l=some r)(O S:List Nat)(w:World)(H:Hd O w w S [f1 fD v1 d.Kids,.fz (.at 0 0 ((Fl.arr 7 Fl.str).f zM))]):
  Cl 69 [.agg [i6 d.Kind,sb d.Name,sb d.Other,i6 d.Op,i6 d.N,i6 d.Frames,v1].toArray,i6 l] w fun e h=>e= .returned (sb r)∧Hd O w h S []:=by
 unfold Fep at c
 refine zS 160 Tryz.func69 rfl rfl rfl ?_
 refine zC fun K4 G=>zA<| yP rfl rfl (xW (cs:=[i6 d.Kind,sb d.Name,sb d.Other,i6 d.Op,i6 d.N,i6 d.Frames,v1]) rfl H) ?_
 rintro _ n ⟨k,rfl,H⟩
 refine zK (.string (bs []))<| zF (zB (G _ _ ?_))
 refine zC fun K8 I=>zA<| zK (.func (.func 130) #[] #[])<| zF (zB (I _ _ ?_))
 refine zC fun K9 J=>zA<| zH (cZ rfl)<| zK (.func (.func 131) #[] #[gU k])<| zF (zB (J _ _ ?_))
 refine zC fun b5 K=>zA<| zK (.string (bs []))<| zF (zB (K _ _ ?_))
 refine zC fun b6 b7=>?_
 refine zC fun b8 L=>zA<| zH (fa70_0 rfl)<| Ld fU H 2 0 rfl rfl<| zF (zB (L _ _ ?_))
 refine yF ?_
 refine zC fun b9 M=>zA ?_
 obtain ⟨P,Q,c⟩:=zG c
 refine zH (zQ (yT (a:=d.Kind) (b:=9) rfl rfl) Q)<| zK (.bool P)<| zF (zB (M _ _ ?_))
 obtain ⟨R,c⟩:=xZ c
 refine dD R ?_
 refine zC fun ca T=>zA ?_
 obtain ⟨u,U,c⟩:=zG c
 refine zH (zQ (yT (a:=d.Kind) (b:=10) rfl rfl) U)<| zK (.bool u)<| zF (zB (T _ _ ?_))
 refine yC (b:=u) rfl (fun o=>?_) (fun o=>?_)
 ·have c:=zT o c
  refine zC fun cb V=>?_
  refine zC fun cc Y=>zA<| zH (fa70_6 rfl)<| Ld one68 H 2 6 rfl rfl ?_
  have Z:=H
  obtain ⟨p,aa,c⟩:=zD c
  refine yA rfl rfl (zV en132 rfl) (Fc9w rfJ rhJ d.Kids [111,114] 1 v1 _ aa _ _ _ (H.enter [] [0,1] (by decide) rfl)) ?_
  rintro _ cd ⟨rfl,ab⟩
  have H:=Z.step (ab.only:Only [] _ _)
  refine ⟨_,rfl,?_⟩
  refine zK (sb p)<| zF (zB (Y _ _ ?_))
  refine zC fun ce ac=>zA<| zI (i6 l) ?_
  obtain ⟨cf,ad,c⟩:=zG c
  refine zH (zQ (dH (a:=l) (b:=0) rfl rfl) ad)<| zF (zB (ac _ _ ?_))
  obtain ⟨ae,c⟩:=iteB_nf c
  refine WP_ifT ae ?_
  refine zA ?_
  refine zI (sb p) ?_
  obtain ⟨af,ag,c⟩:=zD c
  refine zH (Do_cat (s1:=[40]) (s2:=p) rfl rfl ag) ?_
  obtain ⟨m,ah,c⟩:=zD c
  refine zH (Do_cat (s1:=af) (s2:=[41]) rfl rfl ah)<| zK (sb m)<| zF (zB (V _ _ ?_))
  refine zC fun cg ai=>zA<| zI (sb m)<| zK (sb m)<| zF (zB (ai _ _ ?_))
  obtain rfl:=gI c
  refine (zY (yG (zZ (fF (v1:=sb m) rfl rfl ?_))))
  exact ⟨rfl,H.pick [] (by decide)⟩
 have c:=zU o c
 refine zC fun ch aj=>zA ?_
 obtain ⟨y,ak,c⟩:=zG c
 refine zH (zQ (yT (a:=d.Kind) (b:=1) rfl rfl) ak)<| zK (.bool y)<| zF (zB (aj _ _ ?_))
 refine yC (b:=y) rfl (fun q=>?_) (fun q=>?_)
 ·have c:=zT q c
  refine zC fun ci al=>zA<| zK (.string (bs [116,114,117,101]))<| zF (zB (al _ _ ?_))
  obtain rfl:=gI c
  refine (zY (yG (zZ (fF (v1:= .string (bs [116,114,117,101])) rfl rfl ?_))))
  exact ⟨rfl,H.pick [] (by decide)⟩
 have c:=zU q c
 refine zC fun cj am=>zA ?_
 obtain ⟨an,ao,c⟩:=zG c
 refine zH (zQ (yT (a:=d.Kind) (b:=2) rfl rfl) ao)<| zK (.bool an)<| zF (zB (am _ _ ?_))
 obtain ⟨ap,c⟩:=xZ c
 refine dD ap ?_
 refine zC fun ck aq=>zA ?_
 obtain ⟨z,ar,c⟩:=zG c
 refine zH (zQ (yT (a:=d.Kind) (b:=3) rfl rfl) ar)<| zK (.bool z)<| zF (zB (aq _ _ ?_))
 refine yC (b:=z) rfl (fun s=>?_) (fun s=>?_)
 ·have c:=zT s c
  refine zC fun cl au=>?_
  have av:=H
  have H:=H.rebase
  have aw:=H
  have A:Hd (O++bks (rest [] [f1 fD v1 d.Kids,.fz (.at 0 0 ((Fl.arr 7 Fl.str).f zM)),.blk k [i6 d.Kind,sb d.Name,sb d.Other,i6 d.Op,i6 d.N,i6 d.Frames,v1] 70])) n n (bks (Go.Lf.pick ([]++ [0,1]) [f1 fD v1 d.Kids,.fz (.at 0 0 ((Fl.arr 7 Fl.str).f zM)),.blk k [i6 d.Kind,sb d.Name,sb d.Other,i6 d.Op,i6 d.N,i6 d.Frames,v1] 70])) [f1 fD v1 d.Kids,.fz (.at 0 0 ((Fl.arr 7 Fl.str).f zM))]:=H.enter [] [0,1] (by decide) rfl
  have t:=H.firmB A (i:=2) rfl (List.mem_append_right _ List.mem_cons_self)
  have H:=A
  have ax:=H.firm (i:=1) rfl
  refine wB H [0,1,2,3,4,5,6,7,8,9,10,11,12,13,14] (kz [0,0,0,0,0,0,0,0,0,0,0,0,3,0,0]) mixed ?_
  refine XP (fun _ _=>fa70_1 rfl)<| XP (fun h j=>xA bC rfl (Cells.get (Blk.cells (t h j)) (i:=1) rfl)) ?_
  obtain ⟨ay,az,c⟩:=zD c
  refine XP (fun _ _=>Do_cat (s1:=d.Name) (s2:=[32]) rfl rfl az)<| XP (fun _ _=>fa70_3 rfl)<| XP (fun h j=>xA fU rfl (Cells.get (Blk.cells (t h j)) (i:=3) rfl)) ?_
  obtain ⟨B,C,c⟩:=zD c
  refine XP (fun _ _=>Do_idxA (X:=zM) u209 sz9 rfl rfl C)<| XP (fun h j=>Do_load1 (v:=sb B) bC rfl (Cells.ix (e:=Fl.str) (x:=zM) (ax h j).2.2 C)) ?_
  obtain ⟨a0,a1,c⟩:=zD c
  refine XP (fun _ _=>Do_cat (s1:=ay) (s2:=B) rfl rfl a1) ?_
  obtain ⟨a2,a3,c⟩:=zD c
  refine XP (fun _ _=>Do_cat (s1:=a0) (s2:=[32]) rfl rfl a3)<| XM (.func (.func 130) #[] #[])<| XP (fun _ _=>fa70_4 rfl)<| XP (fun h j=>xA fU rfl (Cells.get (Blk.cells (t h j)) (i:=4) rfl)) ?_
  have a4:=H
  obtain ⟨a5,a6,c⟩:=zD c
  refine MxM.XL_effC oS rfl rfl rfl (fun h j=>aP en130 rfl rfl) (fun h j=>E.Fd4w d.N _ a6 _ _ _ ((H.sees j).enter [] [] (by decide) rfl)) ?_
  rintro h _ cm j ⟨rfl,a7⟩
  have H:=(a4.sees j).step (a7.only:Only [] _ _)
  refine ⟨_,rfl,H.only,?_⟩
  obtain ⟨D,a8,c⟩:=zD c
  refine XP (fun _ _=>Do_cat (s1:=a2) (s2:=a5) rfl rfl a8)<| XP (fun _ _=>xO (v:=sb D) rfl)<| MxM.xI fun a9 hS=>?_
  have H:=H.sees hS
  have H:=aw.back [] [0,1] rfl H
  have H:Hd _ _ _ _ [f1 fD v1 d.Kids,.fz (.at 0 0 ((Fl.arr 7 Fl.str).f zM)),.blk k [i6 d.Kind,sb d.Name,sb d.Other,i6 d.Op,i6 d.N,i6 d.Frames,v1] 70,f1 fD v1 d.Kids,.fz (.at 0 0 ((Fl.arr 7 Fl.str).f zM))]:=H
  have H:Hd O n a9 (bks [f1 fD v1 d.Kids,.fz (.at 0 0 ((Fl.arr 7 Fl.str).f zM)),.blk k [i6 d.Kind,sb d.Name,sb d.Other,i6 d.Op,i6 d.N,i6 d.Frames,v1] 70]) [.blk k [i6 d.Kind,sb d.Name,sb d.Other,i6 d.Op,i6 d.N,i6 d.Frames,v1] 70,f1 fD v1 d.Kids,.fz (.at 0 0 ((Fl.arr 7 Fl.str).f zM))]:=H.pick [2,3,4] (by decide)
  have H:=av.rejoin H
  refine (zB (au _ _ ?_))
  obtain rfl:=gI c
  refine (zY (yG (zZ (fF (v1:=sb D) rfl rfl ?_))))
  exact ⟨rfl,H.pick [] (by decide)⟩
 have c:=zU s c
 refine zC fun cn ba=>zA ?_
 obtain ⟨bb,bc,c⟩:=zG c
 refine zH (zQ (yT (a:=d.Kind) (b:=4) rfl rfl) bc)<| zK (.bool bb)<| zF (zB (ba _ _ ?_))
 obtain ⟨bd,c⟩:=xZ c
 refine dD bd ?_
 refine zC fun co be=>zA ?_
 obtain ⟨bf,bg,c⟩:=zG c
 refine zH (zQ (yT (a:=d.Kind) (b:=5) rfl rfl) bg)<| zK (.bool bf)<| zF (zB (be _ _ ?_))
 obtain ⟨bh,c⟩:=xZ c
 refine dD bh ?_
 refine zC fun cp bi=>zA ?_
 obtain ⟨bj,bk,c⟩:=zG c
 refine zH (zQ (yT (a:=d.Kind) (b:=6) rfl rfl) bk)<| zK (.bool bj)<| zF (zB (bi _ _ ?_))
 obtain ⟨bl,c⟩:=xZ c
 refine dD bl ?_
 refine zC fun cq bm=>zA ?_
 obtain ⟨bn,bo,c⟩:=zG c
 refine zH (zQ (yT (a:=d.Kind) (b:=7) rfl rfl) bo)<| zK (.bool bn)<| zF (zB (bm _ _ ?_))
 obtain ⟨bp,c⟩:=xZ c
 refine dD bp ?_
 refine zC fun cr bq=>zA ?_
 obtain ⟨br,bt,c⟩:=zG c
 refine zH (zQ (yT (a:=d.Kind) (b:=8) rfl rfl) bt)<| zK (.bool br)<| zF (zB (bq _ _ ?_))
 obtain ⟨bu,c⟩:=iteB_nf c
 refine WP_ifT bu ?_
 refine zC fun ct bv=>zA<| zI (.func (.func 131) #[] #[gU k]) ?_
 obtain ⟨bw,bx,c⟩:=zD c
 refine yA rfl rfl (aP en131 rfl rfl) (Ffzw rfJ rhJ d k v1 _ bx _ _ _ (H.enter [2] [0,1] (by decide) rfl)) ?_
 rintro _ bz ⟨rfl,b0⟩
 have H:Hd _ _ bz _ [f1 fD v1 d.Kids,.fz (.at 0 0 ((Fl.arr 7 Fl.str).f zM)),.blk k [i6 d.Kind,sb d.Name,sb d.Other,i6 d.Op,i6 d.N,i6 d.Frames,v1] 70]:=H.back [2] [0,1] rfl b0
 refine ⟨_,rfl,?_⟩
 obtain ⟨F,b1,c⟩:=zD c
 refine zH (Do_cat (s1:=[110,111,116,32]) (s2:=bw) rfl rfl b1)<| zK (sb F)<| zF (zB (bv _ _ ?_))
 obtain rfl:=gI c
 refine (zY (yG (zZ (fF (v1:=sb F) rfl rfl ?_))))
 exact ⟨rfl,H.pick [] (by decide)⟩
theorem Fgx:Fca (Fgg):=by
 have h: ∀n,Fca (Fdi n):=by
  intro n
  induction n with
  | zero=>intro b c d r a; cases a
  | succ n ih=>intro b c d r a; exact Fepw (Fdi n) ih b c d r a
 exact h FU
theorem Fe2w (d:List Int)(c:Str)(a:Nat)(v2:Value)(f:Value)(r:Int×Unit×(List Int))(b:Fe2 d c=some r)(O S:List Nat)(w:World)(H:Hd O w w S [.own (Rp.int .u8) f 5 d,.blk a [v2,f] 129,.fz (.oq v2 a)]):
  Cl 68 [gU a,sb c] w fun e n=> ∃j u8,e= .returned (.tuple #[i6 r.1,.nilIface])∧Hd O w n S [.fz (.oq j a),.own (Rp.int .u8) u8 5 r.2.2,.blk a [j,u8] 129]:=by
 unfold Fe2 at b
 refine zS 19 Tryz.func68 rfl rfl rfl ?_
 refine zC fun B o=>zA<| zK (i6 0)<| zK .nilIface<| zF (zB (o _ _ ?_))
 refine zC fun C p=>zA<| zI (gU a) ?_
 obtain ⟨q,s,b⟩:=zD b
 refine yA rfl rfl (zV en129 rfl) (E.Ff9w d a v2 f _ s _ _ _ (H.enter [0,1] [2] (by decide) rfl)) ?_
 rintro _ t ⟨h,k,rfl,u⟩
 have H:Hd _ _ t _ [.fz (.oq v2 a),.fz (.oq h a),.own (Rp.int .u8) k 5 q,.blk a [h,k] 129]:=H.back [0,1] [2] rfl u
 refine ⟨_,rfl,?_⟩
 refine zF (zB (p _ _ ?_))
 refine zC fun D x=>zA<| zI (gU a)<| zI (gU a)<| zH (zN rfl)<| zH (fa129_1 rfl)<| Ld one61 H 3 1 rfl rfl<| zI (sb c) ?_
 obtain ⟨F,y,b⟩:=zD b
 refine yP rfl rfl (Lx_appstr H (i:=2) rfl u61 u9 z8_5 rfl rfl y) ?_
 rintro l G H
 refine zH (zN rfl)<| zH (fa129_1 rfl)<| yV rfl (xE H 3 rfl sz61 rfl (v:=l) rfl (bY (H.item (i:=2) rfl)) rfl) ?_
 rintro I H
 refine zF (zB (x _ _ ?_))
 refine zC fun J z=>zA<| zI (sb c) ?_
 obtain ⟨m,A,b⟩:=zG b
 refine zH (yJ (kD (s1:=c) u9 rfl) (congrArg (Value.int .i64) A))<| zK (i6 m)<| zK .nilIface<| zF (zB (z _ _ ?_))
 obtain rfl:=gI b
 refine (zY (post2 (v1:=i6 m) (v2:= .nilIface) rfl rfl rfl ?_))
 exact ⟨h,l,rfl,H.pick [1,2,3] (by decide)⟩
theorem Fehw (f:List Int)(a:Nat)(c:Value)(d:Value)(r:Int×(List Int))(b:Feh f=some r)(O S:List Nat)(w:World)(H:Hd O w w S [.own (Rp.int .u8) d 5 f,.blk a [c,d] 129,.fz (.oq c a)]):
  Cl 70 [gU a] w fun e k=> ∃h u8,e= .returned (i6 r.1)∧Hd O w k S [.fz (.oq h a),.own (Rp.int .u8) u8 5 r.2,.blk a [h,u8] 129]:=by
 unfold Feh at b
 refine zS 8 Tryz.func70 rfl rfl rfl ?_
 refine zC fun p l=>zA<| zK (i6 0)<| zF (zB (l _ _ ?_))
 refine zC fun q m=>zA<| zI (gU a)<| zH (zN rfl)<| zH (fa129_1 rfl)<| Ld one61 H 1 1 rfl rfl ?_
 obtain ⟨j,n,b⟩:=zG b
 obtain ⟨s,t,o⟩:=Sr.len (Sr.of_own (H.item (i:=0) rfl))
 refine zH (yJ (xN u61 o) (congrArg (Value.int .i64) n))<| zK (i6 j)<| zF (zB (m _ _ ?_))
 obtain rfl:=gI b
 refine (zY (fF (v1:=i6 j) rfl rfl ?_))
 exact ⟨c,d,rfl,H.pick [2,0,1] (by decide)⟩
theorem Ffvw (j:Rules)(v1:Value)(v2:Value)(k:Value)(r:Str×Int)(c:Ffv j=some r)(O S:List Nat)(w:World)(H:Hd O w w S [f1 Rp.str v1 j.Phases,f1 fA v2 j.Moves,f1 fC k j.Rules,.fz (.at 0 0 ((Fl.arr 7 Fl.str).f zM))]):
  Cl 21 [.agg [v1,v2,k].toArray] w fun e n=>e= .returned (.tuple #[sb r.1,i6 r.2])∧Hd O w n S []:=by
 unfold Ffv at c
 refine zS 72 Tryz.func21 rfl rfl rfl ?_
 refine zC fun K8 T=>zA<| yP rfl rfl (xW (cs:=[v1,v2,k]) rfl H) ?_
 rintro _ cj ⟨o,rfl,H⟩
 refine zK (.string (bs []))<| zK (i6 0)<| zF (zB (T _ _ ?_))
 refine zC fun ck U=>?_
 refine zC fun cl V=>zA<| zH (yJ (yM (cs:=[v1,v2,k]) agg26 rfl sz26 rfl (Hbc H 4 rfl)) rfl) ?_
 have X:=H
 obtain ⟨s,Y,c⟩:=zD c
 refine yA rfl rfl (zV en31 rfl) (Fa1w j v1 v2 k _ Y _ _ _ (H.enter [] [0,1,2] (by decide) rfl)) ?_
 rintro _ cm ⟨rfl,Z⟩
 have H:=X.step (Z.only:Only [] _ _)
 refine ⟨_,rfl,?_⟩
 refine zK (i6 s)<| zF (zB (V _ _ ?_))
 refine zC fun cn aa=>zA<| zI (i6 s) ?_
 obtain ⟨co,ab,c⟩:=zG c
 refine zH (zQ (dH (a:=s) (b:=0) rfl rfl) ab)<| zF (zB (aa _ _ ?_))
 obtain ⟨ac,c⟩:=xZ c
 refine dD ac ?_
 refine yB (zB (U _ _ ?_))
 refine zC fun cp ad=>zA<| yP rfl rfl (xH zero129 H) ?_
 rintro _ cq ⟨h,rfl,H⟩
 refine zF (zB (ad _ _ ?_))
 obtain ⟨ae,c,af⟩:=zD c
 refine yL [7,17,18,19,20,21,22,23,24,25,26,27,28] (fun (g:Unit)=>[]) (fun g wl=>Hd O w wl S [f1 Rp.str v1 j.Phases,f1 fA v2 j.Moves,f1 fC k j.Rules,.fz (.at 0 0 ((Fl.arr 7 Fl.str).f zM)),.blk o [v1,v2,k] 26,.blk h [.pointer none,.slice none 0 0] 129]) ?_ ?_
 ·skip
  refine zC fun cr ag=>zA<| zH (fa26_0 rfl)<| Ld one22 H 4 0 rfl rfl ?_
  obtain ⟨ah,ai,c⟩:=zG c
  obtain ⟨ct,cu,aj⟩:=SlF.len ((H.item (i:=0) rfl))
  refine zH (yJ (xN u22 aj) (congrArg (Value.int .i64) ai))<| zI (i6 0)<| zF (zB (ag _ _ ?_))
  refine yF ?_
  unfold Fgc at c
  obtain ⟨ak,D,al,c⟩:=yR c
  refine xG [7,20,21,22,23,24,25,26,27,28] (fun (g:Nat)=>[(20,i6 0)]) (fun g wl=>Hd O w wl S [f1 Rp.str v1 j.Phases,f1 fA v2 j.Moves,f1 fC k j.Rules,.fz (.at 0 0 ((Fl.arr 7 Fl.str).f zM)),.blk o [v1,v2,k] 26,.blk h [.pointer none,.slice none 0 0] 129]∧eF ak g ()=some ae) (fun g=>g) D (zL rfl zO) ⟨H.pick [0,1,2,3,4,5] (by decide),c⟩ ?_
  clear H c
  rintro D ρ cv ⟨H,c⟩
  obtain ⟨cw,rfl,c⟩:=yX c
  have c:=yY al c
  refine zC fun cx am=>zA ?_
  obtain ⟨cy,an,c⟩:=zG c
  refine zH (zQ (xR (a:=0) (b:=ah) rfl rfl) an)<| zF (zB (am _ _ ?_))
  refine zC fun cz c0=>?_
  obtain ⟨ao,c⟩:=xZ c
  refine dD ao ?_
  obtain rfl:=gI c
  exact (xK (yH (yH (yU (zB (meet ⟨(),zO,H.pick [0,1,2,3,4,5] (by decide)⟩))))))
 rintro _ ρ c1 H
 have c:=af
 obtain ⟨ap,c,aq⟩:=zD c
 refine yL [9,29,30,31,32,33,34,35,36,37,38,39,40,41,42,43,44,45,46,47,48,49,50] (fun (g:Unit)=>[]) (fun g wl=>Hd O w wl S [f1 Rp.str v1 j.Phases,f1 fA v2 j.Moves,f1 fC k j.Rules,.fz (.at 0 0 ((Fl.arr 7 Fl.str).f zM)),.blk o [v1,v2,k] 26,.blk h [.pointer none,.slice none 0 0] 129]) ?_ ?_
 ·skip
  refine zC fun c2 ar=>zA<| zH (fa26_1 rfl)<| Ld one23 H 4 1 rfl rfl ?_
  obtain ⟨au,av,c⟩:=zG c
  obtain ⟨c3,c4,aw⟩:=SlF.len ((H.item (i:=1) rfl))
  refine zH (yJ (xN u23 aw) (congrArg (Value.int .i64) av))<| zI (i6 0)<| zF (zB (ar _ _ ?_))
  refine yF ?_
  unfold Fgn at c
  obtain ⟨ax,F,ay,c⟩:=yR c
  refine xG [9,32,33,34,35,36,37,38,39,40,41,42,43,44,45,46,47,48,49,50] (fun (g:Nat)=>[(32,i6 0)]) (fun g wl=>Hd O w wl S [f1 Rp.str v1 j.Phases,f1 fA v2 j.Moves,f1 fC k j.Rules,.fz (.at 0 0 ((Fl.arr 7 Fl.str).f zM)),.blk o [v1,v2,k] 26,.blk h [.pointer none,.slice none 0 0] 129]∧eF ax g ()=some ap) (fun g=>g) F (zL rfl zO) ⟨H.pick [0,1,2,3,4,5] (by decide),c⟩ ?_
  clear H c
  rintro F ρ c5 ⟨H,c⟩
  obtain ⟨c6,rfl,c⟩:=yX c
  have c:=yY ay c
  refine zC fun c7 az=>zA ?_
  obtain ⟨c8,a0,c⟩:=zG c
  refine zH (zQ (xR (a:=0) (b:=au) rfl rfl) a0)<| zF (zB (az _ _ ?_))
  refine zC fun c9 da=>?_
  obtain ⟨a1,c⟩:=xZ c
  refine dD a1 ?_
  obtain rfl:=gI c
  exact (xK (yH (yH (yU (zB (meet ⟨(),zO,H.pick [0,1,2,3,4,5] (by decide)⟩))))))
 rintro _ ρ db H
 have c:=aq
 obtain ⟨t,c,a2⟩:=zD c
 refine yL [11,51,52,53,54,55,56,57,58,59,60,61,62,63,64,65,66,67,68] (fun (g:Value×Value)=>[]) (fun g wl=>Hd O w wl S [.fz (.at 0 0 ((Fl.arr 7 Fl.str).f zM)),.blk h [g.1,g.2] 129,.fz (.oq g.1 h),.own (Rp.int .u8) g.2 5 t]) ?_ ?_
 ·skip
  refine zC fun dc a3=>zA<| zH (fa26_2 rfl)<| Ld one24 H 4 2 rfl rfl ?_
  obtain ⟨a4,a5,c⟩:=zG c
  obtain ⟨dd,de,a6⟩:=SlF.len ((H.item (i:=2) rfl))
  refine zH (yJ (xN u24 a6) (congrArg (Value.int .i64) a5))<| zI (i6 0)<| zF (zB (a3 _ _ ?_))
  refine yF ?_
  have H:=H.fz (.oq (.pointer none) h) (.inl rfl)
  have H:=dY H (Rp.int .u8) 5
  unfold Fge at c
  obtain ⟨a7,G,a8,c⟩:=yR c
  refine xG [11,54,55,56,57,58,59,60,61,62,63,64,65,66,67,68] (fun (g:Nat×Int×(List Int)×Value×Value)=>[(54,i6 g.2.1)]) (fun g wl=>Hd O w wl S [f1 fC k j.Rules,.fz (.at 0 0 ((Fl.arr 7 Fl.str).f zM)),.blk h [g.2.2.2.1,g.2.2.2.2] 129,.fz (.oq g.2.2.2.1 h),.own (Rp.int .u8) g.2.2.2.2 5 g.2.2.1]∧eF a7 g.1 (g.2.1,g.2.2.1)=some t) (fun g=>g.1) (G,0,[],.pointer none,.slice none 0 0) (zL rfl zO) ⟨H.pick [2,3,5,6,7] (by decide),c⟩ ?_
  clear H c
  rintro ⟨G,p,a9,u,I⟩ ρ df ⟨H,c⟩
  obtain ⟨ba,rfl,c⟩:=yX c
  have c:=yY a8 c
  refine zC fun dg bb=>zA ?_
  obtain ⟨bc,bd,c⟩:=zG c
  refine zH (zQ (xR (a:=p) (b:=a4) rfl rfl) bd)<| zF (zB (bb _ _ ?_))
  refine zC fun dh be=>?_
  refine yC (b:=bc) rfl (fun x=>?_) (fun x=>?_)
  ·have c:=zT x c
   refine yB (zB (be _ _ ?_))
   refine zC fun di bf=>?_
   refine yF ?_
   refine zC fun dj bg=>zA ?_
   obtain ⟨d,y,c⟩:=zD c
   obtain ⟨J,K,dk,dl,bh,bi,bj,bk,bl⟩:=dQ (H.item (i:=0) rfl) y
   obtain ⟨m,rfl,bm⟩:=rRule_open bi
   have H:=H.fzs [.at J (K+p.toNat * 8) _,.sl fD m d.When.Kids] ⟨⟨bj,bk,bl⟩,bm,trivial⟩
   refine zH (xJ u24 sz95 bh rfl (yE y).1 (yE y).2.1 rfl rfl)<| zH (yJ (yM (cs:=[sb d.Name,i6 d.When.Kind,sb d.When.Name,sb d.When.Other,i6 d.When.Op,i6 d.When.N,i6 d.When.Frames,m]) agg95 rfl sz95 rfl (H.item (i:=5) rfl).2.2) rfl)<| yP rfl rfl (xH zero95 H) ?_
   rintro _ dm ⟨bn,rfl,H⟩
   refine yV rfl (yQ (vs:=[sb d.Name,i6 d.When.Kind,sb d.When.Name,sb d.When.Other,i6 d.When.Op,i6 d.When.N,i6 d.When.Frames,m]) H 7 rfl sz95 rfl rfl rfl ⟨rfl,rfl,rfl,rfl,rfl,rfl,rfl,(wH (H.item (i:=6) rfl)),trivial⟩ rfl) ?_
   rintro dn H
   refine zF (zB (bg _ _ ?_))
   have bo:=H
   have H:=H.rebase
   have dp:=H
   refine wB H [0,1,2,3,4,5,6,7,8,9] (kz [0,1,0,0,0,1,1,0,0,3]) mixed ?_
   refine XP (fun _ _=>fa95_0 rfl)<| XR bC H 7 0 rfl rfl ?_
   obtain ⟨bp,bq,c⟩:=zD c
   refine XP (fun _ _=>Do_cat (s1:=[114,117,108,101,32]) (s2:=d.Name) rfl rfl bq) ?_
   obtain ⟨br,bt,c⟩:=zD c
   refine XP (fun _ _=>Do_cat (s1:=bp) (s2:=[32,105,102,32]) rfl rfl bt)<| XP (fun _ _=>fa95_1 rfl)<| MxM.XL_read oS rfl rfl rfl (fun n l=>yJ (yM (cs:=[i6 d.When.Kind,sb d.When.Name,sb d.When.Other,i6 d.When.Op,i6 d.When.N,i6 d.When.Frames,m]) dI rfl dB rfl (Cells.drop (Blk.cells ((H.sees l).item (i:=7) rfl)) 1 7)) rfl) ?_
   have bu:=H
   obtain ⟨L,bv,c⟩:=zD c
   refine MxM.XL_call oS rfl rfl rfl (v:=sb L) (fun n l=>zV en69 rfl) (fun n l=>bU (Fgx d.When 0 m _ bv _ _ _ ((H.sees l).enter [] [6,1] (by decide) rfl))) ?_
   have H:=bu
   obtain ⟨bw,bx,c⟩:=zD c
   refine XP (fun _ _=>Do_cat (s1:=br) (s2:=L) rfl rfl bx) ?_
   obtain ⟨bz,b0,c⟩:=zD c
   refine XP (fun _ _=>Do_cat (s1:=bw) (s2:=[10]) rfl rfl b0) ?_
   obtain ⟨⟨dq,dr,M⟩,b1,c⟩:=zD c
   refine MxM.XL_effC oS rfl rfl rfl (fun n l=>zV en68 rfl) (fun n l=>Fe2w a9 bz h u I _ b1 _ _ _ ((H.sees l).enter [4,2] [3] (by decide) rfl)) ?_
   rintro n _ b2 l ⟨z,A,rfl,b3⟩
   have H:Hd _ _ b2 _ [f1 fC k j.Rules,.fz (.at 0 0 ((Fl.arr 7 Fl.str).f zM)),.fz (.oq u h),.fz (.at J (K+p.toNat * 8) [sb d.Name,i6 d.When.Kind,sb d.When.Name,sb d.When.Other,i6 d.When.Op,i6 d.When.N,i6 d.When.Frames,m]),f1 fD m d.When.Kids,.blk bn [sb d.Name,i6 d.When.Kind,sb d.When.Name,sb d.When.Other,i6 d.When.Op,i6 d.When.N,i6 d.When.Frames,m] 95,.fz (.oq z h),.own (Rp.int .u8) A 5 M,.blk h [z,A] 129]:=(H.sees l).back [4,2] [3] rfl b3
   refine ⟨_,rfl,H.only,?_⟩
   refine MxM.xI fun ds hS=>?_
   have H:=H.sees hS
   have H:=bo.rejoin H
   refine yK (zB (bf _ _ ?_))
   refine zA ?_
   obtain ⟨P,b4,c⟩:=zG c
   refine zH (xQ (a:=p) (b:=1) rfl rfl b4)<| zI (i6 P) ?_
   exact (zF (zB (meet ⟨(ba,P,M,z,A),(zL rfl zO),⟨H.pick [0,1,8,6,7] (by decide),c⟩,Nat.lt_succ_self _⟩)))
  have c:=zU x c
  obtain rfl:=gI c
  exact (xK (yH (yH (yU (zB (meet ⟨(u,I),zO,H.pick [1,2,3,4] (by decide)⟩))))))
 rintro ⟨B,b5⟩ ρ dt H
 have c:=a2
 refine zC fun du b6=>?_
 refine zC fun dv b7=>zA ?_
 obtain ⟨⟨b8,Q⟩,b9,c⟩:=zD c
 refine yA rfl rfl (zV en70 rfl) (Fehw t h B b5 _ b9 _ _ _ (H.enter [3,1] [2] (by decide) rfl)) ?_
 rintro _ ca ⟨q,C,rfl,cb⟩
 have H:Hd _ _ ca _ [.fz (.at 0 0 ((Fl.arr 7 Fl.str).f zM)),.fz (.oq B h),.fz (.oq q h),.own (Rp.int .u8) C 5 Q,.blk h [q,C] 129]:=H.back [3,1] [2] rfl cb
 refine ⟨_,rfl,?_⟩
 obtain ⟨dw,cc,c⟩:=zG c
 refine zH (zQ (kH (a:=b8) (b:=200000) rfl rfl) cc)<| zF (zB (b7 _ _ ?_))
 obtain ⟨cd,c⟩:=xZ c
 refine dD cd ?_
 refine yB (zB (b6 _ _ ?_))
 refine zC fun dx ce=>zA ?_
 obtain ⟨R,cf,c⟩:=zD c
 refine yA rfl rfl (zV en71 rfl) (E.Ffew Q h q C _ cf _ _ _ (H.enter [3,4] [2] (by decide) rfl)) ?_
 rintro _ cg ⟨rfl,ch⟩
 have H:Hd _ _ cg _ [.fz (.at 0 0 ((Fl.arr 7 Fl.str).f zM)),.fz (.oq B h),.fz (.oq q h)]:=H.back [3,4] [2] rfl ch
 refine ⟨_,rfl,?_⟩
 refine zK (sb R)<| zK (i6 0)<| zF (zB (ce _ _ ?_))
 obtain rfl:=gI c
 refine (zY (post2 (v1:=sb R) (v2:=i6 0) rfl rfl rfl ?_))
 exact ⟨rfl,H.pick [] (by decide)⟩
theorem Fa6w (r:Bool)(c:Fa6=some r)(O S:List Nat)(w:World)(H:Hd O w w S [.fz (.at 0 0 ((Fl.arr 7 Fl.str).f zM)),.fz (.gi 4)]):
  Cl 20 [] w fun e q=>e= .returned (.bool r)∧Hd O w q S []:=by
 unfold Fa6 at c
 refine zS 26 Tryz.func20 rfl rfl rfl ?_
 refine zC fun N s=>zA<| zK (.bool false)<| zF (zB (s _ _ ?_))
 refine zC fun P t=>zA ?_
 obtain ⟨⟨n,o,k⟩,u,c⟩:=zD c
 refine yA rfl rfl (zV en18 rfl) (Feyw [114,117,108,101,32,97,32,105,102,32,110,111,116,32,32,40,120,32,62,49,32,111,114,32,116,114,117,101,41] _ u _ _ _ (H.enter [] [0,1] (by decide) rfl)) ?_
 rintro _ Q ⟨d,h,j,rfl,x⟩
 have H:=H.back1 [0,1] rfl x
 refine ⟨_,rfl,?_⟩
 refine zI (.tuple #[.agg [d,h,j].toArray,i6 o,i6 k])<| zH (xY (v:= .agg [d,h,j].toArray) rfl rfl)<| zH (xY (v:=i6 o) rfl rfl)<| zH (xY (v:=i6 k) rfl rfl)<| yP rfl rfl (xH zero26 H) ?_
 rintro _ R ⟨y,rfl,H⟩
 refine yV rfl (yQ (vs:=[d,h,j]) H 5 rfl sz26 rfl rfl rfl ⟨(wH (H.item (i:=2) rfl)),(wH (H.item (i:=3) rfl)),(wH (H.item (i:=4) rfl)),trivial⟩ rfl) ?_
 rintro T H
 refine zK (i6 o)<| zK (i6 k)<| zF (zB (t _ _ ?_))
 refine zC fun U z=>zA<| zH (yJ (yM (cs:=[d,h,j]) agg26 rfl sz26 rfl (Hbc H 5 rfl)) rfl) ?_
 have A:=H
 obtain ⟨⟨l,m⟩,B,c⟩:=zD c
 refine yA rfl rfl (zV en21 rfl) (Ffvw n d h j _ B _ _ _ (H.enter [] [2,3,4,0] (by decide) rfl)) ?_
 rintro _ V ⟨rfl,C⟩
 have H:=A.step (C.only:Only [] _ _)
 refine ⟨_,rfl,?_⟩
 refine zI (.tuple #[sb l,i6 m])<| zH (xY (v:=sb l) rfl rfl)<| zH (xY (v:=i6 m) rfl rfl)<| zK (sb l)<| zK (i6 m)<| zF (zB (z _ _ ?_))
 refine zC fun X D=>zA<| zI (i6 k) ?_
 obtain ⟨Y,E,c⟩:=zG c
 refine zH (zQ (yT (a:=k) (b:=0) rfl rfl) E) ?_
 obtain ⟨F,c,G⟩:=zD c
 refine bW 4 [18,19,20,21] [(21,.bool F)] (fun wl=>Hd O w wl S [.fz (.at 0 0 ((Fl.arr 7 Fl.str).f zM)),.fz (.gi 4),f1 Rp.str d n.Phases,f1 fA h n.Moves,f1 fC j n.Rules,.blk y [d,h,j] 26]) ?_ ?_
 ·skip
  obtain ⟨I,c⟩:=iteB_nf c
  refine RL_sp true I ?_
  refine zI (i6 m) ?_
  obtain ⟨J,K,c⟩:=zG c
  refine zH (zQ (yT (a:=m) (b:=0) rfl rfl) K)<| zH (yO (v:= .bool J) rfl rfl) ?_
  obtain rfl:=gI c
  exact zF (zB (meet ⟨(zL rfl zO),H.pick [0,1,2,3,4,5] (by decide)⟩))
 rintro ρ Z H
 have c:=G
 obtain ⟨L,c⟩:=iteB_nf c
 refine RL_sp true L ?_
 refine zI (sb l) ?_
 obtain ⟨p,M,c⟩:=zG c
 refine zH (zQ (wE (s1:=l) (s2:=[114,117,108,101,32,97,32,105,102,32,110,111,116,32,40,120,32,62,32,49,32,111,114,32,116,114,117,101,41,10]) rfl rfl) M)<| zH (yO (v:= .bool p) rfl rfl)<| zK (.bool p)<| zF (zB (D _ _ ?_))
 obtain rfl:=gI c
 refine (zY (fF (v1:= .bool p) rfl rfl ?_))
 exact ⟨rfl,H.pick [] (by decide)⟩
theorem Fc2w (f:List Bool)(v1:Value)(r:(List Bool))(a:Fc2 f=some r)(O S:List Nat)(w:World)(H:Hd O w w S [f1 Rp.bool v1 f]):
  Cl 101 [v1] w fun e h=> ∃u3,e= .returned (u3)∧Hd O w h S [.own Rp.bool u3 4 r]:=by
 unfold Fc2 at a
 refine zS 8 Tryz.func101 rfl rfl rfl ?_
 refine zC fun u j=>zA<| zK (.slice none 0 0)<| zF (zB (j _ _ ?_))
 refine zC fun v k=>?_
 refine zC fun x l=>zA<| zI v1 ?_
 obtain ⟨y,z,m,n⟩:=slf_nilq (H.item (i:=0) rfl)
 obtain ⟨o,p,a⟩:=nilO_some a n
 refine zH (yJ (Do_eqlnils u144 m rfl) (congrArg Value.bool p))<| zF (zB (l _ _ ?_))
 refine yC (b:=o) rfl (fun c=>?_) (fun c=>?_)
 ·have a:=zT c a
  refine zC fun A q=>zA<| zK (.slice none 0 0)<| zF (zB (q _ _ ?_))
  have H:=dY H Rp.bool 4
  obtain rfl:=gI a
  refine (zY (zZ (fF (v1:= .slice none 0 0) rfl rfl ?_)))
  exact ⟨.slice none 0 0,rfl,H.pick [1] (by decide)⟩
 have a:=zU c a
 refine yB (zB (k _ _ ?_))
 refine zC fun B s=>zA<| yP rfl rfl (Lx_bs0 (r:=Rp.bool) u144 el4 H) ?_
 rintro C D H
 refine zI v1 ?_
 obtain ⟨E,t,a⟩:=zD a
 refine yP rfl rfl (aO H (i:=1) rfl u144 el4 rfl rfl (Sr.of_rd (H.item (i:=0) rfl)) t) ?_
 rintro d F H
 refine zK d<| zF (zB (s _ _ ?_))
 obtain rfl:=gI a
 refine (zY (fF (v1:=d) rfl rfl ?_))
 exact ⟨d,rfl,H.pick [1] (by decide)⟩
theorem Fat {F:Nat→Prop}{w:World}{v:Value}{bs:List Nat}{x:Nd}(h:(Th.tr gY [v] bs x).holds F w): ∃f r,aZ Tryz.prog "orangebox/event.copied" v f r:=by
 obtain ⟨u,e,h⟩:=h
 obtain rfl:v=u:=by simpa using e
 cases h
 ·exact ⟨_,_,xU (f:=324) (p:=false) (by kernel_rfl) (by kernel_rfl) en324⟩
 ·exact ⟨_,_,xU (f:=326) (p:=false) (by kernel_rfl) (by kernel_rfl) en326⟩
 ·exact ⟨_,_,xU (f:=331) (p:=false) (by kernel_rfl) (by kernel_rfl) en331⟩
 ·exact ⟨_,_,xU (f:=309) (p:=true) (by kernel_rfl) (by kernel_rfl) en309⟩
 ·exact ⟨_,_,xU (f:=334) (p:=false) (by kernel_rfl) (by kernel_rfl) en334⟩
 ·exact ⟨_,_,xU (f:=336) (p:=false) (by kernel_rfl) (by kernel_rfl) en336⟩
 ·exact ⟨_,_,xU (f:=315) (p:=true) (by kernel_rfl) (by kernel_rfl) en315⟩
 ·exact ⟨_,_,xU (f:=318) (p:=true) (by kernel_rfl) (by kernel_rfl) en318⟩
 ·exact ⟨_,_,xU (f:=312) (p:=true) (by kernel_rfl) (by kernel_rfl) en312⟩
 ·exact ⟨_,_,xU (f:=320) (p:=true) (by kernel_rfl) (by kernel_rfl) en320⟩
 exact ⟨_,_,xU (f:=322) (p:=true) (by kernel_rfl) (by kernel_rfl) en322⟩
abbrev Faq (f:Nd→Option Nd):Prop:= ∀(p0:Nd) (v1:Value) (bs1:List Nat) (fid:FuncId) (rv:Value) (hm:aZ Tryz.prog "orangebox/event.copied" v1 fid rv) (r:Nd) (_:f p0=some r) (O S:List Nat) (w:World) (_:Hd O w w S [.tr gY [v1] bs1 p0]),
  Calls Tryz.prog fid ([rv]:List Value).toArray w fun e w'=> ∃u bsu bs',e= .returned u∧Hd O w w' S [.tr gY [u] bsu r,.tr gY [v1] bs' p0]
theorem Ffcw (a:bK)(r:Nd)(b:Ffc a=some r)(O S:List Nat)(w:World)(H:Hd O w w S []):
  Cl 324 [.agg [i6 a.truth].toArray] w fun e d=> ∃c u2,e= .returned (c)∧Hd O w d S [.tr gY [c] u2 r]:=by
 unfold Ffc at b
 refine zS 5 Tryz.func324 rfl rfl rfl ?_
 refine zC fun i f=>zA<| yP rfl rfl (xW (cs:=[i6 a.truth]) rfl H) ?_
 rintro _ j ⟨k,rfl,H⟩
 refine zK .nilIface<| zF (zB (f _ _ ?_))
 refine zC fun l h=>zA<| zH (yJ (yM (cs:=[i6 a.truth]) agg277 rfl sz277 rfl (Hbc H 0 rfl)) rfl) ?_
 have H:=nd_mk_constant (truth:=a.truth) H
 refine zH (bG (by kernel_rfl) rfl)<| zK (.iface 277 (.agg ([i6 a.truth]:List Value).toArray))<| zF (zB (h _ _ ?_))
 obtain rfl:=gI b
 refine (zY (fF (v1:=(.iface 277 (.agg ([i6 a.truth]:List Value).toArray))) rfl rfl ?_))
 exact ⟨(.iface 277 (.agg ([i6 a.truth]:List Value).toArray)),[],rfl,H.pick [1] (by decide)⟩
theorem Ff4w (a:dZ)(r:Nd)(b:Ff4 a=some r)(O S:List Nat)(w:World)(H:Hd O w w S []):
  Cl 326 [.agg [i6 a.track,i6 a.op,i6 a.n].toArray] w fun e d=> ∃c u2,e= .returned (c)∧Hd O w d S [.tr gY [c] u2 r]:=by
 unfold Ff4 at b
 refine zS 5 Tryz.func326 rfl rfl rfl ?_
 refine zC fun i f=>zA<| yP rfl rfl (xW (cs:=[i6 a.track,i6 a.op,i6 a.n]) rfl H) ?_
 rintro _ j ⟨k,rfl,H⟩
 refine zK .nilIface<| zF (zB (f _ _ ?_))
 refine zC fun l h=>zA<| zH (yJ (yM (cs:=[i6 a.track,i6 a.op,i6 a.n]) agg279 rfl sz279 rfl (Hbc H 0 rfl)) rfl) ?_
 have H:=nd_mk_number (track:=a.track) (op:=a.op) (n:=a.n) H
 refine zH (bG (by kernel_rfl) rfl)<| zK (.iface 279 (.agg ([i6 a.track,i6 a.op,i6 a.n]:List Value).toArray))<| zF (zB (h _ _ ?_))
 obtain rfl:=gI b
 refine (zY (fF (v1:=(.iface 279 (.agg ([i6 a.track,i6 a.op,i6 a.n]:List Value).toArray))) rfl rfl ?_))
 exact ⟨(.iface 279 (.agg ([i6 a.track,i6 a.op,i6 a.n]:List Value).toArray)),[],rfl,H.pick [1] (by decide)⟩
theorem Feaw (c:aK)(r:Nd)(d:Fea c=some r)(O S:List Nat)(w:World)(H:Hd O w w S []):
  Cl 331 [.agg [i6 c.a,i6 c.b,i6 c.denA,i6 c.denB,i6 c.op].toArray] w fun e h=> ∃f u2,e= .returned (f)∧Hd O w h S [.tr gY [f] u2 r]:=by
 unfold Fea at d
 refine zS 5 Tryz.func331 rfl rfl rfl ?_
 refine zC fun k i=>zA<| yP rfl rfl (xW (cs:=[i6 c.a,i6 c.b,i6 c.denA,i6 c.denB,i6 c.op]) rfl H) ?_
 rintro _ l ⟨m,rfl,H⟩
 refine zK .nilIface<| zF (zB (i _ _ ?_))
 refine zC fun n j=>zA<| zH (yJ (yM (cs:=[i6 c.a,i6 c.b,i6 c.denA,i6 c.denB,i6 c.op]) agg281 rfl sz281 rfl (Hbc H 0 rfl)) rfl) ?_
 have H:=nd_mk_pair (a:=c.a) (b:=c.b) (denA:=c.denA) (denB:=c.denB) (op:=c.op) H
 refine zH (bG (by kernel_rfl) rfl)<| zK (.iface 281 (.agg ([i6 c.a,i6 c.b,i6 c.denA,i6 c.denB,i6 c.op]:List Value).toArray))<| zF (zB (j _ _ ?_))
 obtain rfl:=gI d
 refine (zY (fF (v1:=(.iface 281 (.agg ([i6 c.a,i6 c.b,i6 c.denA,i6 c.denB,i6 c.op]:List Value).toArray))) rfl rfl ?_))
 exact ⟨(.iface 281 (.agg ([i6 c.a,i6 c.b,i6 c.denA,i6 c.denB,i6 c.op]:List Value).toArray)),[],rfl,H.pick [1] (by decide)⟩
theorem Fbrw (f:List eH)(v1:Value)(r:(List eH))(a:Fbr f=some r)(O S:List Nat)(w:World)(H:Hd O w w S [f1 gV v1 f]):
  Cl 311 [v1] w fun e h=> ∃u3,e= .returned (u3)∧Hd O w h S [.own gV u3 148 r]:=by
 unfold Fbr at a
 refine zS 8 Tryz.func311 rfl rfl rfl ?_
 refine zC fun u j=>zA<| zK (.slice none 0 0)<| zF (zB (j _ _ ?_))
 refine zC fun v k=>?_
 refine zC fun x l=>zA<| zI v1 ?_
 obtain ⟨y,z,m,n⟩:=slf_nilq (H.item (i:=0) rfl)
 obtain ⟨o,p,a⟩:=nilO_some a n
 refine zH (yJ (Do_eqlnils u55 m rfl) (congrArg Value.bool p))<| zF (zB (l _ _ ?_))
 refine yC (b:=o) rfl (fun c=>?_) (fun c=>?_)
 ·have a:=zT c a
  refine zC fun A q=>zA<| zK (.slice none 0 0)<| zF (zB (q _ _ ?_))
  have H:=dY H gV 148
  obtain rfl:=gI a
  refine (zY (zZ (fF (v1:= .slice none 0 0) rfl rfl ?_)))
  exact ⟨.slice none 0 0,rfl,H.pick [1] (by decide)⟩
 have a:=zU c a
 refine yB (zB (k _ _ ?_))
 refine zC fun B s=>zA<| yP rfl rfl (Lx_bs0 (r:=gV) u55 el148 H) ?_
 rintro C D H
 refine zI v1 ?_
 obtain ⟨E,t,a⟩:=zD a
 refine yP rfl rfl (aO H (i:=1) rfl u55 el148 rfl rfl (Sr.of_rd (H.item (i:=0) rfl)) t) ?_
 rintro d F H
 refine zK d<| zF (zB (s _ _ ?_))
 obtain rfl:=gI a
 refine (zY (fF (v1:=d) rfl rfl ?_))
 exact ⟨d,rfl,H.pick [1] (by decide)⟩
theorem Feuw (a:eY)(c:Nat)(b:Value)(j:List Nat)(r:Nd)(d:Feu a=some r)(O S:List Nat)(w:World)(H:Hd O w w S [.tr (Rt.row (Rt.of gV) 148 []) [b] j a.last,.blk c [i6 a.track,i6 a.n,i6 a.frames,b] 241]):
  Cl 309 [gU c] w fun e m=> ∃k o p,e= .returned (k)∧Hd O w m S [.tr gY [k] o r,.tr (Rt.row (Rt.of gV) 148 []) [b] p a.last,.blk c [i6 a.track,i6 a.n,i6 a.frames,b] 241]:=by
 unfold Feu at d
 refine zS 14 Tryz.func309 rfl rfl rfl ?_
 refine zC fun C q=>zA<| zK .nilIface<| zF (zB (q _ _ ?_))
 refine zC fun D s=>zA<| zI (gU c)<| zH (zN rfl)<| zH (yJ (yM (cs:=[i6 a.track,i6 a.n,i6 a.frames,b]) agg241 rfl sz241 rfl (Hbc H 1 rfl)) rfl)<| yP rfl rfl (xH zero241 H) ?_
 rintro _ E ⟨f,rfl,H⟩
 refine yV rfl (yQ (vs:=[i6 a.track,i6 a.n,i6 a.frames,b]) H 2 rfl sz241 rfl rfl rfl ⟨rfl,rfl,rfl,(bF (H.item (i:=0) rfl)),trivial⟩ rfl) ?_
 rintro F H
 refine zF (zB (s _ _ ?_))
 refine zC fun G t=>zA<| zI (gU c)<| zH (zN rfl)<| zH (fa241_3 rfl)<| Ld one55 H 1 3 rfl rfl ?_
 have u:=H
 have H:=H.freezeT fr_of 0 rfl
 obtain ⟨x,y,d⟩:=zD d
 refine yA rfl rfl (zV en311 rfl) (Fbrw a.last b _ y _ _ _ (H.enter [] [0] (by decide) rfl)) ?_
 rintro _ I ⟨z,rfl,A⟩
 have H:=u.backL [] A (fun _ h=>h) ⟨th_own (ff_iso (ff_pair (ff_int _) ff_bool)),trivial⟩
 refine ⟨_,rfl,?_⟩
 refine zH (fa241_3 rfl)<| yV rfl (xE H 2 rfl sz55 rfl (v:=z) rfl (bY (H.item (i:=3) rfl)) rfl) ?_
 rintro J H
 refine zF (zB (t _ _ ?_))
 refine zC fun K B=>zA ?_
 have H:=H.own_row 3 rfl
 obtain ⟨l,H⟩:=nd_mk_steady H 3 2 rfl rfl (by decide)
 have H:Hd _ _ _ _ [.tr (Rt.row (Rt.of gV) 148 []) [b] j a.last,.blk c [i6 a.track,i6 a.n,i6 a.frames,b] 241,.tr gY [(.iface 239 (gU f))] l (.steady a.track a.n a.frames x:Nd)]:=H
 refine zH (bG (by kernel_rfl) rfl)<| zK (.iface 239 (gU f))<| zF (zB (B _ _ ?_))
 obtain rfl:=gI d
 refine (zY (fF (v1:=(.iface 239 (gU f))) rfl rfl ?_))
 exact ⟨(.iface 239 (gU f)),l,j,rfl,H.pick [2,0,1] (by decide)⟩
theorem Fefw (a:bT)(r:Nd)(b:Fef a=some r)(O S:List Nat)(w:World)(H:Hd O w w S []):
  Cl 334 [.agg [i6 a.phase].toArray] w fun e d=> ∃c u2,e= .returned (c)∧Hd O w d S [.tr gY [c] u2 r]:=by
 unfold Fef at b
 refine zS 5 Tryz.func334 rfl rfl rfl ?_
 refine zC fun i f=>zA<| yP rfl rfl (xW (cs:=[i6 a.phase]) rfl H) ?_
 rintro _ j ⟨k,rfl,H⟩
 refine zK .nilIface<| zF (zB (f _ _ ?_))
 refine zC fun l h=>zA<| zH (yJ (yM (cs:=[i6 a.phase]) agg283 rfl sz283 rfl (Hbc H 0 rfl)) rfl) ?_
 have H:=nd_mk_phase (phase:=a.phase) H
 refine zH (bG (by kernel_rfl) rfl)<| zK (.iface 283 (.agg ([i6 a.phase]:List Value).toArray))<| zF (zB (h _ _ ?_))
 obtain rfl:=gI b
 refine (zY (fF (v1:=(.iface 283 (.agg ([i6 a.phase]:List Value).toArray))) rfl rfl ?_))
 exact ⟨(.iface 283 (.agg ([i6 a.phase]:List Value).toArray)),[],rfl,H.pick [1] (by decide)⟩
theorem Ffiw (a:kX)(r:Nd)(b:Ffi a=some r)(O S:List Nat)(w:World)(H:Hd O w w S []):
  Cl 336 [.agg [i6 a.rule].toArray] w fun e d=> ∃c u2,e= .returned (c)∧Hd O w d S [.tr gY [c] u2 r]:=by
 unfold Ffi at b
 refine zS 5 Tryz.func336 rfl rfl rfl ?_
 refine zC fun i f=>zA<| yP rfl rfl (xW (cs:=[i6 a.rule]) rfl H) ?_
 rintro _ j ⟨k,rfl,H⟩
 refine zK .nilIface<| zF (zB (f _ _ ?_))
 refine zC fun l h=>zA<| zH (yJ (yM (cs:=[i6 a.rule]) agg285 rfl sz285 rfl (Hbc H 0 rfl)) rfl) ?_
 have H:=nd_mk_rule (rule:=a.rule) H
 refine zH (bG (by kernel_rfl) rfl)<| zK (.iface 285 (.agg ([i6 a.rule]:List Value).toArray))<| zF (zB (h _ _ ?_))
 obtain rfl:=gI b
 refine (zY (fF (v1:=(.iface 285 (.agg ([i6 a.rule]:List Value).toArray))) rfl rfl ?_))
 exact ⟨(.iface 285 (.agg ([i6 a.rule]:List Value).toArray)),[],rfl,H.pick [1] (by decide)⟩
theorem Fecw (rfK:Nd→Option Nd)(rhK:Faq rfK)(b:bV)(c:Nat)(a:Value)(k:List Nat)(r:Nd)(d:Fec rfK b=some r)(O S:List Nat)(w:World)(H:Hd O w w S [.tr gY [a] k b.kid,.blk c [a] 248]):
  Cl 315 [gU c] w fun e p=> ∃l q s,e= .returned (l)∧Hd O w p S [.tr gY [l] q r,.tr gY [a] s b.kid,.blk c [a] 248]:=by
 unfold Fec at d
 refine zS 11 Tryz.func315 rfl rfl rfl ?_
 refine zC fun F t=>zA<| zK .nilIface<| zF (zB (t _ _ ?_))
 refine zC fun G u=>zA<| zI (gU c)<| zH (zN rfl)<| zH (fa248_0 rfl)<| Ld bP H 1 0 rfl rfl ?_
 obtain ⟨v,x,m⟩:=Fat (H.item (i:=0) rfl)
 obtain ⟨n,y,d⟩:=zD d
 refine yA rfl rfl (aA m rfl rfl) (rhK b.kid a k v x m _ y _ _ _ (H.enter [0] [] (by decide) rfl)) ?_
 rintro _ z ⟨h,A,j,rfl,B⟩
 have H:Hd _ _ z _ [.blk c [a] 248,.tr gY [h] A n,.tr gY [a] j b.kid]:=H.back [0] [] rfl B
 refine ⟨_,rfl,?_⟩
 obtain ⟨C,D,E⟩:=nd_if (H.item (i:=1) rfl)
 refine zH (xM (cs:=[h]) (by rw [E]; exact bt248_0 C D))<| yP rfl rfl (xW (cs:=[h]) rfl H) ?_
 rintro _ I ⟨f,rfl,H⟩
 obtain ⟨o,H⟩:=nd_mk_not H 1 3 rfl rfl (by decide)
 have H:Hd _ _ _ _ [.blk c [a] 248,.tr gY [a] j b.kid,.tr gY [(.iface 246 (gU f))] o (.not n:Nd)]:=H
 refine zH (bG (by kernel_rfl) rfl)<| zK (.iface 246 (gU f))<| zF (zB (u _ _ ?_))
 obtain rfl:=gI d
 refine (zY (fF (v1:=(.iface 246 (gU f))) rfl rfl ?_))
 exact ⟨(.iface 246 (gU f)),o,j,rfl,H.pick [2,1,0] (by decide)⟩
theorem Fbkw (rfK:Nd→Option Nd)(rhK:Faq rfK)(c:dA)(j:Nat)(d:Value)(I:List Nat)(r:Nd)(f:Fbk rfK c=some r)(O S:List Nat)(w:World)(H:Hd O w w S [.tr fG [d] I c.kids,.blk j [d,.bool c.any] 251]):
  Cl 318 [gU j] w fun e q=> ∃J X Y,e= .returned (J)∧Hd O w q S [.tr gY [J] X r,.tr fG [d] Y c.kids,.blk j [d,.bool c.any] 251]:=by
 unfold Fbk at f
 refine zS 35 Tryz.func318 rfl rfl rfl ?_
 refine zC fun K9 Z=>zA<| zK .nilIface<| zF (zB (Z _ _ ?_))
 refine zC fun ba aa=>zA<| zI (gU j)<| zH (zN rfl)<| zH (fa251_1 rfl)<| Ld one4 H 1 1 rfl rfl<| zH (xM (cs:=[.slice none 0 0,.bool c.any]) (bt251_1 _))<| yP rfl rfl (xW (cs:=[.slice none 0 0,.bool c.any]) rfl H) ?_
 rintro _ bb ⟨k,rfl,H⟩
 refine zK (gU k)<| zF (zB (aa _ _ ?_))
 obtain ⟨D,f,ab⟩:=zD f
 refine yL [5,12,13,14,15,16,17,18,19,20,21,22,23,24,25,26,27,28,29,30,31,32] (fun (g:(List Nat)×Value×(List Nat))=>[]) (fun g wl=>Hd O w wl S [.tr fG [d] g.1 c.kids,.blk j [d,.bool c.any] 251,.blk k [g.2.1,.bool c.any] 251,.tr fG [g.2.1] g.2.2 D]) ?_ ?_
 ·skip
  refine zC fun bc ac=>zA<| zI (gU j)<| zH (zN rfl)<| zH (fa251_0 rfl)<| Ld one143 H 1 0 rfl rfl ?_
  obtain ⟨ad,ae,f⟩:=zG f
  obtain ⟨bd,be,af⟩:=kN ((H.item (i:=0) rfl))
  refine zH (yJ (xN u143 af) (congrArg (Value.int .i64) ae))<| zI (i6 0)<| zF (zB (ac _ _ ?_))
  refine yF ?_
  have H:=row_nil H gY 170
  unfold Fc6 at f
  obtain ⟨ag,K,ah,f⟩:=yR f
  refine xG [5,17,18,19,20,21,22,23,24,25,26,27,28,29,30,31,32] (fun (g:Nat×Int×(List Nd)×(List Nat)×Value×(List Nat))=>[(17,i6 g.2.1)]) (fun g wl=>Hd O w wl S [.tr fG [d] g.2.2.2.1 c.kids,.blk j [d,.bool c.any] 251,.blk k [g.2.2.2.2.1,.bool c.any] 251,.tr fG [g.2.2.2.2.1] g.2.2.2.2.2 g.2.2.1]∧eF ag g.1 (g.2.1,g.2.2.1)=some D) (fun g=>g.1) (K,0,[],I,.slice none 0 0,[]) (zL rfl zO) ⟨H.pick [0,1,2,3] (by decide),f⟩ ?_
  clear H f
  rintro ⟨K,n,x,ai,m,t⟩ ρ C ⟨H,f⟩
  obtain ⟨aj,rfl,f⟩:=yX f
  have f:=yY ah f
  refine zC fun bf ak=>zA ?_
  obtain ⟨al,am,f⟩:=zG f
  refine zH (zQ (xR (a:=n) (b:=ad) rfl rfl) am)<| zF (zB (ak _ _ ?_))
  refine zC fun bg an=>?_
  refine yC (b:=al) rfl (fun E=>?_) (fun E=>?_)
  ·have f:=zT E f
   refine yB (zB (an _ _ ?_))
   refine zC fun bh ao=>?_
   refine yF ?_
   refine zC fun bi ap=>zA ?_
   obtain ⟨o,B,f⟩:=zD f
   obtain ⟨bj,bk,bl,F⟩:=kG (H.item (i:=0) rfl) B
   refine zH (xJ u143 sz170 F rfl (yE B).1 (yE B).2.1 rfl rfl) ?_
   obtain ⟨bm,p,y,H⟩:=H.focusV 0 rfl F B rfl
   obtain ⟨h,rfl⟩:=tr_cell rfl (H.item (i:=4) rfl)
   have H:Hd _ _ _ _ [.blk j [d,.bool c.any] 251,.blk k [m,.bool c.any] 251,.tr fG [m] t x,.tr (Rt.row gY 170 [(n.toNat,[h])]) [d] p c.kids,.tr gY [h] y o]:=H
   refine zH (xA bP rfl (Cells.get (H.holeW 3 rfl F B rfl dK) (i:=0) rfl))<| zK h<| zF (zB (ap _ _ ?_))
   have aq:=H
   have H:=H.rebase
   have ar:=H
   have G:Hd (O++bks (rest [0,2,3,4] [.blk j [d,.bool c.any] 251,.blk k [m,.bool c.any] 251,.tr fG [m] t x,.tr (Rt.row gY 170 [(n.toNat,[h])]) [d] p c.kids,.tr gY [h] y o])) C C (bks (Go.Lf.pick ([0,2,3,4]++ []) [.blk j [d,.bool c.any] 251,.blk k [m,.bool c.any] 251,.tr fG [m] t x,.tr (Rt.row gY 170 [(n.toNat,[h])]) [d] p c.kids,.tr gY [h] y o])) [.blk j [d,.bool c.any] 251,.tr fG [m] t x,.tr (Rt.row gY 170 [(n.toNat,[h])]) [d] p c.kids,.tr gY [h] y o]:=H.enter [0,2,3,4] [] (by decide) rfl
   have au:=H.firmB G (i:=1) rfl (List.mem_append_right _ List.mem_cons_self)
   refine WP_forkM H G [1,2,3,4,5,6,7] 0 8 [9,10] [11] [.pure,.pure,.pure,.pure,.pure,.pure,.eff,.eff,.eff,.pure,.pure,.eff] ⟨trivial,trivial,trivial,trivial,trivial,trivial,trivial,trivial,trivial,trivial,trivial,trivial,trivial⟩ mixed (by kernel_rfl) (by kernel_rfl) (by kernel_rfl) (by kernel_rfl) (by kernel_rfl) (by decide) ?_
   have H:=G
   refine XM (gU k)<| XP (fun _ _=>zN rfl)<| XP (fun _ _=>fa251_0 rfl)<| XP (fun q l=>xA one143 rfl (Cells.get (Blk.cells (au q l)) (i:=0) rfl))<| XM h ?_
   obtain ⟨av,aw,L⟩:=Fat (H.item (i:=3) rfl)
   obtain ⟨M,ax,f⟩:=zD f
   refine MxM.XL_effC oS rfl rfl rfl (fun q l=>aA L rfl rfl) (fun q l=>rhK o h y av aw L _ ax _ _ _ ((H.sees l).enter [3] [] (by decide) rfl)) ?_
   rintro q _ ay l ⟨az,a0,z,rfl,a1⟩
   have H:Hd _ _ ay _ [.blk j [d,.bool c.any] 251,.tr fG [m] t x,.tr (Rt.row gY 170 [(n.toNat,[h])]) [d] p c.kids,.tr gY [az] a0 M,.tr gY [h] z o]:=(H.sees l).back [3] [] rfl a1
   refine ⟨_,rfl,H.only,?_⟩
   refine MxM.XL_ex oS rfl rfl rfl (fun q l=>Lx_bsT1 (H.sees l) 3 rfl u143 el170 (by decide) (by decide) (fillB_ones rfl rfl ⟨(bF (H.item (i:=3) rfl)),trivial⟩)) ?_
   rintro q a2 bn l ⟨a3,H⟩
   refine ⟨H.only,?_⟩
   have H:Hd _ _ _ _ [.blk j [d,.bool c.any] 251,.tr fG [m] t x,.tr (Rt.row gY 170 [(n.toNat,[h])]) [d] p c.kids,.tr gY [h] z o,.tr fG [a2] a3 [M]]:=H
   refine MxM.xI fun bo hS=>?_
   have H:=H.sees hS
   obtain ⟨A,N,f⟩:=zD f
   refine MxM.XL_join (du:=21) (dv:=29) (fun g1 g2 wl=> ∃(s:Value) (u:List Nat),gU k=g1∧s=g2∧Hd (O++bks (rest [0,2,3,4] [.blk j [d,.bool c.any] 251,.blk k [m,.bool c.any] 251,.tr fG [m] t x,.tr (Rt.row gY 170 [(n.toNat,[h])]) [d] p c.kids,.tr gY [h] y o])) C wl (bks (Go.Lf.pick ([0,2,3,4]++ []) [.blk j [d,.bool c.any] 251,.blk k [m,.bool c.any] 251,.tr fG [m] t x,.tr (Rt.row gY 170 [(n.toNat,[h])]) [d] p c.kids,.tr gY [h] y o])) [.blk j [d,.bool c.any] 251,.tr (Rt.row gY 170 [(n.toNat,[h])]) [d] p c.kids,.tr gY [h] z o,.tr fG [s] u A]) ?_ ?_ ?_
   ·skip
    refine XM (gU k)<| MxM.XL_ex oS rfl rfl rfl (fun q l=>Lx_appT (H.sees l) 1 4 rfl rfl (by decide) u143 el170 rfl rfl N) ?_
    rintro q s bp l ⟨u,H⟩
    refine ⟨H.only,?_⟩
    have H:Hd _ _ _ _ [.blk j [d,.bool c.any] 251,.tr (Rt.row gY 170 [(n.toNat,[h])]) [d] p c.kids,.tr gY [h] z o,.tr fG [s] u A]:=H
    refine MxM.xI fun bq hS=>?_
    have H:=H.sees hS
    exact ⟨_,_,rfl,H.only,s,u,rfl,rfl,H⟩
   ·skip
    refine MxM.XL_ex oS rfl rfl rfl (fun q l=>Lx_appT (H.sees l) 1 4 rfl rfl (by decide) u143 el170 rfl rfl N) ?_
    rintro q P br l ⟨Q,H⟩
    refine ⟨H.only,?_⟩
    have H:Hd _ _ _ _ [.blk j [d,.bool c.any] 251,.tr (Rt.row gY 170 [(n.toNat,[h])]) [d] p c.kids,.tr gY [h] z o,.tr fG [P] Q A]:=H
    refine XM (gU k)<| MxM.xI fun bt hS=>?_
    have H:=H.sees hS
    exact ⟨_,_,MxM.upd_comm _ (by decide) _ _,H.only,P,Q,rfl,rfl,H⟩
   rintro M' _ _ bu ⟨s,u,rfl,rfl,H⟩
   refine XP (fun _ _=>zN rfl)<| XP (fun _ _=>fa251_0 rfl)<| MxM.xI fun a6 hS=>?_
   have H:=H.sees hS
   have H:=ar.back [0,2,3,4] [] rfl H
   have H:Hd _ _ _ _ [.blk k [m,.bool c.any] 251,.blk j [d,.bool c.any] 251,.tr (Rt.row gY 170 [(n.toNat,[h])]) [d] p c.kids,.tr gY [h] z o,.tr fG [s] u A]:=H
   have H:Hd O C a6 (bks [.blk j [d,.bool c.any] 251,.blk k [m,.bool c.any] 251,.tr fG [m] t x,.tr (Rt.row gY 170 [(n.toNat,[h])]) [d] p c.kids,.tr gY [h] y o]) [.blk k [m,.bool c.any] 251,.blk j [d,.bool c.any] 251,.tr (Rt.row gY 170 [(n.toNat,[h])]) [d] p c.kids,.tr gY [h] z o,.tr fG [s] u A]:=H.pick [0,1,2,3,4] (by decide)
   refine ⟨H.only,?_⟩
   refine MxM.XL_exU oS rfl rfl (fun q l=>xE (H.sees l) 0 rfl sz143 rfl (v:=s) rfl (bF ((H.sees l).item (i:=4) rfl)) rfl) ?_
   rintro q bv l H
   refine ⟨H.only,?_⟩
   refine MxM.xI fun bw hS=>?_
   have H:=H.sees hS
   have H:=aq.rejoin H
   refine yK (zB (ao _ _ ?_))
   refine zA ?_
   obtain ⟨R,a7,f⟩:=zG f
   refine zH (xQ (a:=n) (b:=1) rfl rfl a7)<| zI (i6 R) ?_
   have H:Hd _ _ _ _ [.blk k [s,.bool c.any] 251,.blk j [d,.bool c.any] 251,.tr (Rt.row gY 170 [(n.toNat,[h])]) [d] p c.kids,.tr gY [h] z o,.tr fG [s] u A]:=H
   obtain ⟨T,H⟩:=H.unfocus0 2 3 rfl rfl (by decide) rfl rfl B
   have H:Hd _ _ _ _ [.blk k [s,.bool c.any] 251,.blk j [d,.bool c.any] 251,.tr fG [s] u A,.tr fG [d] T c.kids]:=H
   exact (zF (zB (meet ⟨(aj,R,A,T,s,u),(zL rfl zO),⟨H.pick [3,1,0,2] (by decide),f⟩,Nat.lt_succ_self _⟩)))
  have f:=zU E f
  obtain rfl:=gI f
  exact (xK (yH (yH (yU (zB (meet ⟨(ai,m,t),zO,H.pick [0,1,2,3] (by decide)⟩))))))
 rintro ⟨U,bx,bz⟩ ρ b0 H
 have f:=ab
 refine zC fun b1 a8=>zA<| zI (gU k) ?_
 obtain ⟨V,H⟩:=nd_mk_group H 3 2 rfl rfl (by decide)
 have H:Hd _ _ _ _ [.tr fG [d] U c.kids,.blk j [d,.bool c.any] 251,.tr gY [(.iface 249 (gU k))] V (.group D c.any:Nd)]:=H
 refine zH (bG (by kernel_rfl) rfl)<| zK (.iface 249 (gU k))<| zF (zB (a8 _ _ ?_))
 obtain rfl:=gI f
 refine (zY (fF (v1:=(.iface 249 (gU k))) rfl rfl ?_))
 exact ⟨(.iface 249 (gU k)),V,U,rfl,H.pick [2,0,1] (by decide)⟩
theorem Fbiw (f:List Int)(v1:Value)(r:(List Int))(a:Fbi f=some r)(O S:List Nat)(w:World)(H:Hd O w w S [f1 (Rp.int .i64) v1 f]):
  Cl 314 [v1] w fun e h=> ∃u3,e= .returned (u3)∧Hd O w h S [.own (Rp.int .i64) u3 3 r]:=by
 unfold Fbi at a
 refine zS 8 Tryz.func314 rfl rfl rfl ?_
 refine zC fun u j=>zA<| zK (.slice none 0 0)<| zF (zB (j _ _ ?_))
 refine zC fun v k=>?_
 refine zC fun x l=>zA<| zI v1 ?_
 obtain ⟨y,z,m,n⟩:=slf_nilq (H.item (i:=0) rfl)
 obtain ⟨o,p,a⟩:=nilO_some a n
 refine zH (yJ (Do_eqlnils u38 m rfl) (congrArg Value.bool p))<| zF (zB (l _ _ ?_))
 refine yC (b:=o) rfl (fun c=>?_) (fun c=>?_)
 ·have a:=zT c a
  refine zC fun A q=>zA<| zK (.slice none 0 0)<| zF (zB (q _ _ ?_))
  have H:=dY H (Rp.int .i64) 3
  obtain rfl:=gI a
  refine (zY (zZ (fF (v1:= .slice none 0 0) rfl rfl ?_)))
  exact ⟨.slice none 0 0,rfl,H.pick [1] (by decide)⟩
 have a:=zU c a
 refine yB (zB (k _ _ ?_))
 refine zC fun B s=>zA<| yP rfl rfl (Lx_bs0 (r:=(Rp.int .i64)) u38 el3 H) ?_
 rintro C D H
 refine zI v1 ?_
 obtain ⟨E,t,a⟩:=zD a
 refine yP rfl rfl (aO H (i:=1) rfl u38 el3 rfl rfl (Sr.of_rd (H.item (i:=0) rfl)) t) ?_
 rintro d F H
 refine zK d<| zF (zB (s _ _ ?_))
 obtain rfl:=gI a
 refine (zY (fF (v1:=d) rfl rfl ?_))
 exact ⟨d,rfl,H.pick [1] (by decide)⟩
theorem Ffjw (rfK:Nd→Option Nd)(rhK:Faq rfK)(a:eQ)(k:Nat)(b:Value)(o:List Nat)(c:Value)(m:List Nat)(r:Nd)(p:Ffj rfK a=some r)(O S:List Nat)(w:World)(H:Hd O w w S [.tr gY [b] o a.kid,.tr (Rt.row (Rt.of (Rp.int .i64)) 3 []) [c] m a.last,.blk k ([b,i6 a.n,i6 a.frames,c]++((Fl.arr 3 (Fl.int .i64)).f a.totals)) 245]):
  Cl 312 [gU k] w fun e j=> ∃u9 F G I,e= .returned (u9)∧Hd O w j S [.tr gY [u9] F r,.tr gY [b] G a.kid,.tr (Rt.row (Rt.of (Rp.int .i64)) 3 []) [c] I a.last,.blk k ([b,i6 a.n,i6 a.frames,c]++((Fl.arr 3 (Fl.int .i64)).f a.totals)) 245]:=by
 unfold Ffj at p
 refine zS 20 Tryz.func312 rfl rfl rfl ?_
 refine zC fun aa J=>zA<| zK .nilIface<| zF (zB (J _ _ ?_))
 refine zC fun ab K=>zA<| zI (gU k)<| zH (zN rfl)<| zH (yJ (yM (cs:=[b,i6 a.n,i6 a.frames,c]++((Fl.arr 3 (Fl.int .i64)).f a.totals)) agg245 rfl sz245 (List.length_append.trans (congrArg (4+ ·) (Fl.len _ _))) (Hbc H 2 rfl)) rfl)<| yP rfl rfl (xH zero245 H) ?_
 rintro _ ac ⟨l,rfl,H⟩
 refine yV rfl (Lx_storeT (vs:=[b,i6 a.n,i6 a.frames,c]++((Fl.arr 3 (Fl.int .i64)).f a.totals)) H 3 rfl sz245 (by first | rfl | exact (List.length_append.trans (congrArg (4+ ·) (Fl.len _ _)))) (List.length_append.trans (congrArg (4+ ·) (Fl.len _ _))) rfl rfl (allone_app ⟨(bF (H.item (i:=0) rfl)),rfl,rfl,(bF (H.item (i:=1) rfl)),trivial⟩ (allone_of (Fl.one _ _)))) ?_
 rintro x H
 refine zF (zB (K _ _ ?_))
 refine zC fun ad L=>?_
 have M:=H
 have H:=H.rebase
 have N:=H
 have A:Hd (O++bks (rest [0,1,3] [.tr gY [b] o a.kid,.tr (Rt.row (Rt.of (Rp.int .i64)) 3 []) [c] m a.last,.blk k ([b,i6 a.n,i6 a.frames,c]++((Fl.arr 3 (Fl.int .i64)).f a.totals)) 245,.blk l ([b,i6 a.n,i6 a.frames,c]++((Fl.arr 3 (Fl.int .i64)).f a.totals)) 245])) x x (bks (Go.Lf.pick ([0,1,3]++ []) [.tr gY [b] o a.kid,.tr (Rt.row (Rt.of (Rp.int .i64)) 3 []) [c] m a.last,.blk k ([b,i6 a.n,i6 a.frames,c]++((Fl.arr 3 (Fl.int .i64)).f a.totals)) 245,.blk l ([b,i6 a.n,i6 a.frames,c]++((Fl.arr 3 (Fl.int .i64)).f a.totals)) 245])) [.tr gY [b] o a.kid,.tr (Rt.row (Rt.of (Rp.int .i64)) 3 []) [c] m a.last,.blk l ([b,i6 a.n,i6 a.frames,c]++((Fl.arr 3 (Fl.int .i64)).f a.totals)) 245]:=H.enter [0,1,3] [] (by decide) rfl
 have B:=H.firmB A (i:=2) rfl (List.mem_append_right _ List.mem_cons_self)
 have H:=A
 refine WP_mix H [0,1,2,3,5,6,7,8,4,9,10,11,12,13] (kz [0,0,0,0,3,0,0,0,0,2,0,3,0,3]) mixed ?_
 refine XM (gU k)<| XP (fun _ _=>zN rfl)<| XP (fun _ _=>fa245_0 rfl)<| XP (fun j d=>xA bP rfl (Cells.get (Blk.cells (B j d)) (i:=0) rfl))<| XM (gU k)<| XP (fun _ _=>zN rfl)<| XP (fun _ _=>fa245_3 rfl)<| XP (fun j d=>xA one38 rfl (Cells.get (Blk.cells (B j d)) (i:=3) rfl)) ?_
 obtain ⟨P,Q,C⟩:=Fat (H.item (i:=0) rfl)
 obtain ⟨u,R,p⟩:=zD p
 refine MxM.XL_effC oS rfl rfl rfl (fun j d=>aA C rfl rfl) (fun j d=>rhK a.kid b o P Q C _ R _ _ _ ((H.sees d).enter [0] [] (by decide) rfl)) ?_
 rintro j _ T d ⟨q,y,s,rfl,U⟩
 have H:Hd _ _ T _ [.tr (Rt.row (Rt.of (Rp.int .i64)) 3 []) [c] m a.last,.blk l ([b,i6 a.n,i6 a.frames,c]++((Fl.arr 3 (Fl.int .i64)).f a.totals)) 245,.tr gY [q] y u,.tr gY [b] s a.kid]:=(H.sees d).back [0] [] rfl U
 refine ⟨_,rfl,H.only,?_⟩
 have V:=H
 have H:=H.freezeT fr_of 0 rfl
 obtain ⟨z,X,p⟩:=zD p
 refine MxM.XL_newC oS rfl rfl rfl (fun j d=>zV en314 rfl) (fun j d=>Fbiw a.last c _ X _ _ _ ((H.sees d).enter [] [0] (by decide) rfl)) ?_
 rintro j _ ae d ⟨t,rfl,D⟩
 have H:=(V.sees d).backL [] D (fun _ h=>h) ⟨th_own (ff_int _),trivial⟩
 refine ⟨_,rfl,(D.only:Only [] _ _).below,?_⟩
 refine XP (fun _ _=>fa245_0 rfl)<| MxM.XL_exU oS rfl rfl (fun j d=>xE (H.sees d) 1 rfl sz170 rfl (v:=q) rfl (bF ((H.sees d).item (i:=2) rfl)) rfl) ?_
 rintro j af d H
 refine ⟨H.only,?_⟩
 refine XP (fun _ _=>fa245_3 rfl)<| MxM.XL_exU oS rfl rfl (fun j d=>xE (H.sees d) 1 rfl sz38 rfl (v:=t) rfl (bY ((H.sees d).item (i:=4) rfl)) rfl) ?_
 rintro j ag d H
 refine ⟨H.only,?_⟩
 refine MxM.xI fun Y hS=>?_
 have H:=H.sees hS
 have H:=N.back [0,1,3] [] rfl H
 have H:Hd _ _ _ _ [.blk k ([b,i6 a.n,i6 a.frames,c]++((Fl.arr 3 (Fl.int .i64)).f a.totals)) 245,.tr (Rt.row (Rt.of (Rp.int .i64)) 3 []) [c] m a.last,.blk l ([q,i6 a.n,i6 a.frames,t]++((Fl.arr 3 (Fl.int .i64)).f a.totals)) 245,.tr gY [q] y u,.tr gY [b] s a.kid,.own (Rp.int .i64) t 3 z]:=H
 have H:Hd O x Y (bks [.tr gY [b] o a.kid,.tr (Rt.row (Rt.of (Rp.int .i64)) 3 []) [c] m a.last,.blk k ([b,i6 a.n,i6 a.frames,c]++((Fl.arr 3 (Fl.int .i64)).f a.totals)) 245,.blk l ([b,i6 a.n,i6 a.frames,c]++((Fl.arr 3 (Fl.int .i64)).f a.totals)) 245]) [.blk k ([b,i6 a.n,i6 a.frames,c]++((Fl.arr 3 (Fl.int .i64)).f a.totals)) 245,.tr (Rt.row (Rt.of (Rp.int .i64)) 3 []) [c] m a.last,.blk l ([q,i6 a.n,i6 a.frames,t]++((Fl.arr 3 (Fl.int .i64)).f a.totals)) 245,.tr gY [q] y u,.tr gY [b] s a.kid,.own (Rp.int .i64) t 3 z]:=H.pick [0,1,2,3,4,5] (by decide)
 have H:=M.rejoin H
 refine (zB (L _ _ ?_))
 refine zC fun ah Z=>zA ?_
 have H:=H.own_row 5 rfl
 obtain ⟨E,H⟩:=kW H 3 5 2 rfl rfl rfl (by decide)
 have H:Hd _ _ _ _ [.blk k ([b,i6 a.n,i6 a.frames,c]++((Fl.arr 3 (Fl.int .i64)).f a.totals)) 245,.tr (Rt.row (Rt.of (Rp.int .i64)) 3 []) [c] m a.last,.tr gY [b] s a.kid,.tr gY [(.iface 242 (gU l))] E (.count u a.n a.frames z a.totals:Nd)]:=H
 refine zH (bG (by kernel_rfl) rfl)<| zK (.iface 242 (gU l))<| zF (zB (Z _ _ ?_))
 obtain rfl:=gI p
 refine (zY (fF (v1:=(.iface 242 (gU l))) rfl rfl ?_))
 exact ⟨(.iface 242 (gU l)),E,s,m,rfl,H.pick [3,2,1,0] (by decide)⟩
theorem Ffxw (rfK:Nd→Option Nd)(rhK:Faq rfK)(a:dU)(h:Nat)(b:Value)(m:List Nat)(c:Value)(k:List Nat)(r:Nd)(n:Ffx rfK a=some r)(O S:List Nat)(w:World)(H:Hd O w w S [.tr gY [b] m a.while_,.tr gY [c] k a.from_,.blk h [b,c,i6 a.last,.bool a.begun] 255]):
  Cl 320 [gU h] w fun e f=> ∃u9 E F G,e= .returned (u9)∧Hd O w f S [.tr gY [u9] E r,.tr gY [b] F a.while_,.tr gY [c] G a.from_,.blk h [b,c,i6 a.last,.bool a.begun] 255]:=by
 unfold Ffx at n
 refine zS 20 Tryz.func320 rfl rfl rfl ?_
 refine zC fun ac I=>zA<| zK .nilIface<| zF (zB (I _ _ ?_))
 refine zC fun ad J=>zA<| zI (gU h)<| zH (zN rfl)<| zH (yJ (yM (cs:=[b,c,i6 a.last,.bool a.begun]) agg255 rfl sz255 rfl (Hbc H 2 rfl)) rfl)<| yP rfl rfl (xH zero255 H) ?_
 rintro _ ae ⟨j,rfl,H⟩
 refine yV rfl (yQ (vs:=[b,c,i6 a.last,.bool a.begun]) H 3 rfl sz255 rfl rfl rfl ⟨(bF (H.item (i:=0) rfl)),(bF (H.item (i:=1) rfl)),rfl,rfl,trivial⟩ rfl) ?_
 rintro x H
 refine zF (zB (J _ _ ?_))
 refine zC fun af K=>?_
 have L:=H
 have H:=H.rebase
 have M:=H
 have z:Hd (O++bks (rest [0,1,3] [.tr gY [b] m a.while_,.tr gY [c] k a.from_,.blk h [b,c,i6 a.last,.bool a.begun] 255,.blk j [b,c,i6 a.last,.bool a.begun] 255])) x x (bks (Go.Lf.pick ([0,1,3]++ []) [.tr gY [b] m a.while_,.tr gY [c] k a.from_,.blk h [b,c,i6 a.last,.bool a.begun] 255,.blk j [b,c,i6 a.last,.bool a.begun] 255])) [.tr gY [b] m a.while_,.tr gY [c] k a.from_,.blk j [b,c,i6 a.last,.bool a.begun] 255]:=H.enter [0,1,3] [] (by decide) rfl
 have A:=H.firmB z (i:=2) rfl (List.mem_append_right _ List.mem_cons_self)
 have H:=z
 refine WP_mix H [0,1,2,3,5,6,7,8,4,9,10,11,12,13] (kz [0,0,0,0,3,0,0,0,0,3,0,3,0,3]) mixed ?_
 refine XM (gU h)<| XP (fun _ _=>zN rfl)<| XP (fun _ _=>fa255_0 rfl)<| XP (fun f d=>xA bP rfl (Cells.get (Blk.cells (A f d)) (i:=0) rfl))<| XM (gU h)<| XP (fun _ _=>zN rfl)<| XP (fun _ _=>fa255_1 rfl)<| XP (fun f d=>xA bP rfl (Cells.get (Blk.cells (A f d)) (i:=1) rfl)) ?_
 obtain ⟨N,P,B⟩:=Fat (H.item (i:=0) rfl)
 obtain ⟨q,Q,n⟩:=zD n
 refine MxM.XL_effC oS rfl rfl rfl (fun f d=>aA B rfl rfl) (fun f d=>rhK a.while_ b m N P B _ Q _ _ _ ((H.sees d).enter [0] [] (by decide) rfl)) ?_
 rintro f _ R d ⟨l,t,o,rfl,T⟩
 have H:Hd _ _ R _ [.tr gY [c] k a.from_,.blk j [b,c,i6 a.last,.bool a.begun] 255,.tr gY [l] t q,.tr gY [b] o a.while_]:=(H.sees d).back [0] [] rfl T
 refine ⟨_,rfl,H.only,?_⟩
 obtain ⟨U,V,C⟩:=Fat (H.item (i:=0) rfl)
 obtain ⟨u,X,n⟩:=zD n
 refine MxM.XL_effC oS rfl rfl rfl (fun f d=>aA C rfl rfl) (fun f d=>rhK a.from_ c k U V C _ X _ _ _ ((H.sees d).enter [0] [] (by decide) rfl)) ?_
 rintro f _ Y d ⟨p,y,s,rfl,Z⟩
 have H:Hd _ _ Y _ [.blk j [b,c,i6 a.last,.bool a.begun] 255,.tr gY [l] t q,.tr gY [b] o a.while_,.tr gY [p] y u,.tr gY [c] s a.from_]:=(H.sees d).back [0] [] rfl Z
 refine ⟨_,rfl,H.only,?_⟩
 refine XP (fun _ _=>fa255_0 rfl)<| MxM.XL_exU oS rfl rfl (fun f d=>xE (H.sees d) 0 rfl sz170 rfl (v:=l) rfl (bF ((H.sees d).item (i:=1) rfl)) rfl) ?_
 rintro f ag d H
 refine ⟨H.only,?_⟩
 refine XP (fun _ _=>fa255_1 rfl)<| MxM.XL_exU oS rfl rfl (fun f d=>xE (H.sees d) 0 rfl sz170 rfl (v:=p) rfl (bF ((H.sees d).item (i:=3) rfl)) rfl) ?_
 rintro f ah d H
 refine ⟨H.only,?_⟩
 refine MxM.xI fun aa hS=>?_
 have H:=H.sees hS
 have H:=M.back [0,1,3] [] rfl H
 have H:Hd _ _ _ _ [.blk h [b,c,i6 a.last,.bool a.begun] 255,.blk j [l,p,i6 a.last,.bool a.begun] 255,.tr gY [l] t q,.tr gY [b] o a.while_,.tr gY [p] y u,.tr gY [c] s a.from_]:=H
 have H:Hd O x aa (bks [.tr gY [b] m a.while_,.tr gY [c] k a.from_,.blk h [b,c,i6 a.last,.bool a.begun] 255,.blk j [b,c,i6 a.last,.bool a.begun] 255]) [.blk h [b,c,i6 a.last,.bool a.begun] 255,.blk j [l,p,i6 a.last,.bool a.begun] 255,.tr gY [l] t q,.tr gY [b] o a.while_,.tr gY [p] y u,.tr gY [c] s a.from_]:=H.pick [0,1,2,3,4,5] (by decide)
 have H:=L.rejoin H
 refine (zB (K _ _ ?_))
 refine zC fun ai ab=>zA ?_
 obtain ⟨D,H⟩:=nd_mk_since H 2 4 1 rfl rfl rfl (by decide)
 have H:Hd _ _ _ _ [.blk h [b,c,i6 a.last,.bool a.begun] 255,.tr gY [b] o a.while_,.tr gY [c] s a.from_,.tr gY [(.iface 252 (gU j))] D (.since q u a.last a.begun:Nd)]:=H
 refine zH (bG (by kernel_rfl) rfl)<| zK (.iface 252 (gU j))<| zF (zB (ab _ _ ?_))
 obtain rfl:=gI n
 refine (zY (fF (v1:=(.iface 252 (gU j))) rfl rfl ?_))
 exact ⟨(.iface 252 (gU j)),D,o,s,rfl,H.pick [3,1,2,0] (by decide)⟩
theorem Fekw (rfK:Nd→Option Nd)(rhK:Faq rfK)(a:dS)(c:Nat)(b:Value)(j:List Nat)(r:Nd)(f:Fek rfK a=some r)(O S:List Nat)(w:World)(H:Hd O w w S [.tr gY [b] j a.kid,.blk c [b,i6 a.last,.bool a.begun] 258]):
  Cl 322 [gU c] w fun e p=> ∃k q s,e= .returned (k)∧Hd O w p S [.tr gY [k] q r,.tr gY [b] s a.kid,.blk c [b,i6 a.last,.bool a.begun] 258]:=by
 unfold Fek at f
 refine zS 14 Tryz.func322 rfl rfl rfl ?_
 refine zC fun F t=>zA<| zK .nilIface<| zF (zB (t _ _ ?_))
 refine zC fun G u=>zA<| zI (gU c)<| zH (zN rfl)<| zH (yJ (yM (cs:=[b,i6 a.last,.bool a.begun]) agg258 rfl sz258 rfl (Hbc H 1 rfl)) rfl)<| yP rfl rfl (xH zero258 H) ?_
 rintro _ I ⟨d,rfl,H⟩
 refine yV rfl (yQ (vs:=[b,i6 a.last,.bool a.begun]) H 2 rfl sz258 rfl rfl rfl ⟨(bF (H.item (i:=0) rfl)),rfl,rfl,trivial⟩ rfl) ?_
 rintro J H
 refine zF (zB (u _ _ ?_))
 refine zC fun K x=>zA<| zI (gU c)<| zH (zN rfl)<| zH (fa258_0 rfl)<| Ld bP H 1 0 rfl rfl ?_
 obtain ⟨y,z,l⟩:=Fat (H.item (i:=0) rfl)
 obtain ⟨m,A,f⟩:=zD f
 refine yA rfl rfl (aA l rfl rfl) (rhK a.kid b j y z l _ A _ _ _ (H.enter [0] [] (by decide) rfl)) ?_
 rintro _ B ⟨n,C,h,rfl,D⟩
 have H:Hd _ _ B _ [.blk c [b,i6 a.last,.bool a.begun] 258,.blk d [b,i6 a.last,.bool a.begun] 258,.tr gY [n] C m,.tr gY [b] h a.kid]:=H.back [0] [] rfl D
 refine ⟨_,rfl,?_⟩
 refine zH (fa258_0 rfl)<| yV rfl (xE H 1 rfl sz170 rfl (v:=n) rfl (bF (H.item (i:=2) rfl)) rfl) ?_
 rintro L H
 refine zF (zB (x _ _ ?_))
 refine zC fun M E=>zA ?_
 obtain ⟨o,H⟩:=nd_mk_rises H 2 1 rfl rfl (by decide)
 have H:Hd _ _ _ _ [.blk c [b,i6 a.last,.bool a.begun] 258,.tr gY [b] h a.kid,.tr gY [(.iface 256 (gU d))] o (.rises m a.last a.begun:Nd)]:=H
 refine zH (bG (by kernel_rfl) rfl)<| zK (.iface 256 (gU d))<| zF (zB (E _ _ ?_))
 obtain rfl:=gI f
 refine (zY (fF (v1:=(.iface 256 (gU d))) rfl rfl ?_))
 exact ⟨(.iface 256 (gU d)),o,h,rfl,H.pick [2,1,0] (by decide)⟩
theorem Fbvw (rfK:Nd→Option Nd)(rhK:Faq rfK)(n:Nd)(U:Value)(b:List Nat)(fid:FuncId)(rv:Value)(hm:aZ Tryz.prog "orangebox/event.copied" U fid rv)(r:Nd)(a:Fbv rfK n=some r)(O S:List Nat)(w:World)(H:Hd O w w S [.tr gY [U] b n]):
  Calls Tryz.prog fid ([rv]:List Value).toArray w fun e w'=> ∃u bsu bs',e= .returned u∧Hd O w w' S [.tr gY [u] bsu r,.tr gY [U] bs' n]:=by
 unfold Fbv at a
 cases n with
 | constant a1=>
  obtain rfl:=nd_open_constant H 0 rfl
  obtain ⟨rfl,rfl⟩:=hm.eq (xU (p:=false) (by kernel_rfl) (by kernel_rfl) en324) w
  obtain ⟨x2,e3,a⟩:=zD a
  refine Calls.mono (Ffcw (bK.mk a1) _ e3 _ _ _ (H.enter [] [] (by decide) rfl)) ?_
  rintro _ w7 ⟨v4,a8,rfl,G8⟩
  have H:=H.back1 [] rfl G8
  obtain rfl:=gI a
  exact ⟨v4,a8,b,rfl,H.pick [1,0] (by decide)⟩
 | number a9 bb bc=>
  obtain rfl:=nd_open_number H 0 rfl
  obtain ⟨rfl,rfl⟩:=hm.eq (xU (p:=false) (by kernel_rfl) (by kernel_rfl) en326) w
  obtain ⟨cu,bd,a⟩:=zD a
  refine Calls.mono (Ff4w (dZ.mk a9 bb bc) _ bd _ _ _ (H.enter [] [] (by decide) rfl)) ?_
  rintro _ cv ⟨be,bf,rfl,bg⟩
  have H:=H.back1 [] rfl bg
  obtain rfl:=gI a
  exact ⟨be,bf,b,rfl,H.pick [1,0] (by decide)⟩
 | pair bh bi bj bk bl=>
  obtain rfl:=nd_open_pair H 0 rfl
  obtain ⟨rfl,rfl⟩:=hm.eq (xU (p:=false) (by kernel_rfl) (by kernel_rfl) en331) w
  obtain ⟨cw,bm,a⟩:=zD a
  refine Calls.mono (Feaw (aK.mk bh bi bj bk bl) _ bm _ _ _ (H.enter [] [] (by decide) rfl)) ?_
  rintro _ cx ⟨bn,bo,rfl,bp⟩
  have H:=H.back1 [] rfl bp
  obtain rfl:=gI a
  exact ⟨bn,bo,b,rfl,H.pick [1,0] (by decide)⟩
 | steady o q s t=>
  obtain ⟨v,c,ai,rfl,H⟩:=nd_open_steady H 0 rfl
  have H:Hd _ _ _ _ [.tr (Rt.row (Rt.of gV) 148 []) [c] ai t,.blk v [i6 o,i6 q,i6 s,c] 241]:=H
  obtain ⟨rfl,rfl⟩:=hm.eq (xU (p:=true) (by kernel_rfl) (by kernel_rfl) en309) w
  obtain ⟨aj,bq,a⟩:=zD a
  refine Calls.mono (Feuw (eY.mk o q s t) v c ai _ bq _ _ _ (H.enter [0,1] [] (by decide) rfl)) ?_
  rintro _ br ⟨V,X,bt,rfl,bu⟩
  have H:Hd _ _ br _ [.tr gY [V] X aj,.tr (Rt.row (Rt.of gV) 148 []) [c] bt t,.blk v [i6 o,i6 q,i6 s,c] 241]:=H.back [0,1] [] rfl bu
  obtain ⟨ak,H⟩:=nd_mk_steady H 1 2 rfl rfl (by decide)
  have H:Hd _ _ _ _ [.tr gY [V] X aj,.tr gY [(.iface 239 (gU v))] ak (.steady o q s t)]:=H
  obtain rfl:=gI a
  exact ⟨V,X,ak,rfl,H.pick [0,1] (by decide)⟩
 | phase bv=>
  obtain rfl:=nd_open_phase H 0 rfl
  obtain ⟨rfl,rfl⟩:=hm.eq (xU (p:=false) (by kernel_rfl) (by kernel_rfl) en334) w
  obtain ⟨cy,bw,a⟩:=zD a
  refine Calls.mono (Fefw (bT.mk bv) _ bw _ _ _ (H.enter [] [] (by decide) rfl)) ?_
  rintro _ cz ⟨bx,bz,rfl,b0⟩
  have H:=H.back1 [] rfl b0
  obtain rfl:=gI a
  exact ⟨bx,bz,b,rfl,H.pick [1,0] (by decide)⟩
 | rule b1=>
  obtain rfl:=nd_open_rule H 0 rfl
  obtain ⟨rfl,rfl⟩:=hm.eq (xU (p:=false) (by kernel_rfl) (by kernel_rfl) en336) w
  obtain ⟨c0,b2,a⟩:=zD a
  refine Calls.mono (Ffiw (kX.mk b1) _ b2 _ _ _ (H.enter [] [] (by decide) rfl)) ?_
  rintro _ c1 ⟨b3,b4,rfl,b5⟩
  have H:=H.back1 [] rfl b5
  obtain rfl:=gI a
  exact ⟨b3,b4,b,rfl,H.pick [1,0] (by decide)⟩
 | not x=>
  obtain ⟨y,d,al,rfl,H⟩:=nd_open_not H 0 rfl
  have H:Hd _ _ _ _ [.tr gY [d] al x,.blk y [d] 248]:=H
  obtain ⟨rfl,rfl⟩:=hm.eq (xU (p:=true) (by kernel_rfl) (by kernel_rfl) en315) w
  obtain ⟨am,b6,a⟩:=zD a
  refine Calls.mono (Fecw rfK rhK (bV.mk x) y d al _ b6 _ _ _ (H.enter [0,1] [] (by decide) rfl)) ?_
  rintro _ b7 ⟨Y,Z,b8,rfl,b9⟩
  have H:Hd _ _ b7 _ [.tr gY [Y] Z am,.tr gY [d] b8 x,.blk y [d] 248]:=H.back [0,1] [] rfl b9
  obtain ⟨an,H⟩:=nd_mk_not H 1 2 rfl rfl (by decide)
  have H:Hd _ _ _ _ [.tr gY [Y] Z am,.tr gY [(.iface 246 (gU y))] an (.not x)]:=H
  obtain rfl:=gI a
  exact ⟨Y,Z,an,rfl,H.pick [0,1] (by decide)⟩
 | group z A=>
  obtain ⟨B,h,ao,rfl,H⟩:=nd_open_group H 0 rfl
  have H:Hd _ _ _ _ [.tr fG [h] ao z,.blk B [h,.bool A] 251]:=H
  obtain ⟨rfl,rfl⟩:=hm.eq (xU (p:=true) (by kernel_rfl) (by kernel_rfl) en318) w
  obtain ⟨ap,ca,a⟩:=zD a
  refine Calls.mono (Fbkw rfK rhK (dA.mk z A) B h ao _ ca _ _ _ (H.enter [0,1] [] (by decide) rfl)) ?_
  rintro _ cb ⟨aa,ab,cc,rfl,cd⟩
  have H:Hd _ _ cb _ [.tr gY [aa] ab ap,.tr fG [h] cc z,.blk B [h,.bool A] 251]:=H.back [0,1] [] rfl cd
  obtain ⟨aq,H⟩:=nd_mk_group H 1 2 rfl rfl (by decide)
  have H:Hd _ _ _ _ [.tr gY [aa] ab ap,.tr gY [(.iface 249 (gU B))] aq (.group z A)]:=H
  obtain rfl:=gI a
  exact ⟨aa,ab,aq,rfl,H.pick [0,1] (by decide)⟩
 | count C D E F G=>
  obtain ⟨I,i,ar,j,au,rfl,H⟩:=nd_open_count H 0 rfl
  have H:Hd _ _ _ _ [.tr gY [i] ar C,.tr (Rt.row (Rt.of (Rp.int .i64)) 3 []) [j] au F,.blk I ([i,i6 D,i6 E,j]++((Fl.arr 3 (Fl.int .i64)).f G)) 245]:=H
  obtain ⟨rfl,rfl⟩:=hm.eq (xU (p:=true) (by kernel_rfl) (by kernel_rfl) en312) w
  obtain ⟨av,ce,a⟩:=zD a
  refine Calls.mono (Ffjw rfK rhK (eQ.mk C D E F G) I i ar j au _ ce _ _ _ (H.enter [0,1,2] [] (by decide) rfl)) ?_
  rintro _ cf ⟨ac,ad,cg,ch,rfl,ci⟩
  have H:Hd _ _ cf _ [.tr gY [ac] ad av,.tr gY [i] cg C,.tr (Rt.row (Rt.of (Rp.int .i64)) 3 []) [j] ch F,.blk I ([i,i6 D,i6 E,j]++((Fl.arr 3 (Fl.int .i64)).f G)) 245]:=H.back [0,1,2] [] rfl ci
  obtain ⟨aw,H⟩:=kW H 1 2 3 rfl rfl rfl (by decide)
  have H:Hd _ _ _ _ [.tr gY [ac] ad av,.tr gY [(.iface 242 (gU I))] aw (.count C D E F G)]:=H
  obtain rfl:=gI a
  exact ⟨ac,ad,aw,rfl,H.pick [0,1] (by decide)⟩
 | since J K L M=>
  obtain ⟨N,k,ax,l,ay,rfl,H⟩:=nd_open_since H 0 rfl
  have H:Hd _ _ _ _ [.tr gY [k] ax J,.tr gY [l] ay K,.blk N [k,l,i6 L,.bool M] 255]:=H
  obtain ⟨rfl,rfl⟩:=hm.eq (xU (p:=true) (by kernel_rfl) (by kernel_rfl) en320) w
  obtain ⟨az,cj,a⟩:=zD a
  refine Calls.mono (Ffxw rfK rhK (dU.mk J K L M) N k ax l ay _ cj _ _ _ (H.enter [0,1,2] [] (by decide) rfl)) ?_
  rintro _ ck ⟨ae,af,cl,cm,rfl,cn⟩
  have H:Hd _ _ ck _ [.tr gY [ae] af az,.tr gY [k] cl J,.tr gY [l] cm K,.blk N [k,l,i6 L,.bool M] 255]:=H.back [0,1,2] [] rfl cn
  obtain ⟨a0,H⟩:=nd_mk_since H 1 2 3 rfl rfl rfl (by decide)
  have H:Hd _ _ _ _ [.tr gY [ae] af az,.tr gY [(.iface 252 (gU N))] a0 (.since J K L M)]:=H
  obtain rfl:=gI a
  exact ⟨ae,af,a0,rfl,H.pick [0,1] (by decide)⟩
 | rises P Q R=>
  obtain ⟨T,m,bs153,rfl,H⟩:=nd_open_rises H 0 rfl
  have H:Hd _ _ _ _ [.tr gY [m] bs153 P,.blk T [m,i6 Q,.bool R] 258]:=H
  obtain ⟨rfl,rfl⟩:=hm.eq (xU (p:=true) (by kernel_rfl) (by kernel_rfl) en322) w
  obtain ⟨a2,co,a⟩:=zD a
  refine Calls.mono (Fekw rfK rhK (dS.mk P Q R) T m bs153 _ co _ _ _ (H.enter [0,1] [] (by decide) rfl)) ?_
  rintro _ cp ⟨ag,ah,cq,rfl,cr⟩
  have H:Hd _ _ cp _ [.tr gY [ag] ah a2,.tr gY [m] cq P,.blk T [m,i6 Q,.bool R] 258]:=H.back [0,1] [] rfl cr
  obtain ⟨a3,H⟩:=nd_mk_rises H 1 2 rfl rfl (by decide)
  have H:Hd _ _ _ _ [.tr gY [ag] ah a2,.tr gY [(.iface 256 (gU T))] a3 (.rises P Q R)]:=H
  obtain rfl:=gI a
  exact ⟨ag,ah,a3,rfl,H.pick [0,1] (by decide)⟩
theorem Fgb:Faq (Fd0):=by
 have h: ∀n,Faq (Fb9 n):=by
  intro n
  induction n with
  | zero=>intro b c d fid rv hm r a; cases a
  | succ n ih=>intro b c d fid rv hm r a; exact Fbvw (Fb9 n) ih b c d fid rv hm r a
 exact h FU
end Go.Proofs.YtckmiljbaejijaaGreatDoor.L
