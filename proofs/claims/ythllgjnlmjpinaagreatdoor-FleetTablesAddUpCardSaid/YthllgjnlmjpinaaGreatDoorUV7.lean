/- Walks: what each function computes, for every argument; no condition but those that stand in the statements. -/
import Derived.Test.YthllgjnlmjpinaaGreatDoorUV0
import Derived.Test.YthllgjnlmjpinaaGreatDoorUV5
import Derived.Test.YthllgjnlmjpinaaGreatDoorUV6
import Derived.Test.YthllgjnlmjpinaaGreatDoorUV4
namespace Go.Proofs.YthllgjnlmjpinaaGreatDoor.L
open Go.RowKit Go.OB Go.Lf
set_option maxHeartbeats 4000000
set_option maxRecDepth 100000 in
theorem Fa7w (rfG:Nd→gJ→Option (Int×Nd))(rhG:Fas rfG)(f:bK)(d:gJ)(h:Nat)(k:Value)(y:List Nat)(o:Nat)(l:Value)(m:Value)(j:Value)(r:Int×bK)(c:Fa7 rfG f d=some r)(O S:List Nat)(w:World)(H:Hd O w w S [.tr fJ [k] y f.kid,.blk h [k,i6 f.last,.bool f.begun] 266,.own (Rp.int .i64) j 3 d.rules,.blk o [l,m,j] 218,f1 fD l d.told,f1 Rp.bool m d.possible]):
  Cl 234 [gX h,gX o] w fun e F=> ∃z G,e= .returned (i6 r.1)∧Hd O w F S [.tr fJ [z] G r.2.kid,.blk h [z,i6 r.2.last,.bool r.2.begun] 266,.own (Rp.int .i64) j 3 d.rules,.blk o [l,m,j] 218]:=by
 unfold Fa7 at c
 refine CW 41 Tryz.func234 ?_
 refine zB fun ad I=>zA<| zI (i6 0)<| RN I<| zB fun ae J=>zA<| zH (gX h)<| zG (yC rfl)<| zG (fa266_0 rfl)<| Ld kS H 1 0 rfl rfl<| zH (gX o) ?_
 obtain ⟨K,L,A⟩:=Fal (H.item (i:=0) rfl)
 obtain ⟨n,M,c⟩:=zC c
 refine yB rfl rfl (nD A rfl rfl) (rhG f.kid (gJ.mk d.told d.possible d.rules) k y o l m j K L A _ M _ _ _ (H.enter [0,2,3] [4,5])) ?_
 rintro _ af ⟨p,rfl,N⟩
 have H:Hd _ _ _ _ [_,_,_,_,_,_]:=H.back [0,2,3] [4,5] rfl N
 refine ⟨_,rfl,?_⟩
 refine zI (i6 n.1)<| RN J<| zB fun ag P=>zA<| zI (i6 0)<| RN P ?_
 obtain ⟨q,c,Q⟩:=zC c
 refine yG [6,13,14,15,16,17,18,19,20,21,22,23,24,25,26,27,28,29,30,31,32] (fun (g:Unit)=>[(6,i6 q)]) (fun g wl=>Hd O w wl S [.blk h [k,i6 f.last,.bool f.begun] 266,f1 fD l d.told,f1 Rp.bool m d.possible,.tr fJ [k] p n.2,.own (Rp.int .i64) j 3 d.rules,.blk o [l,m,j] 218]) ?_ ?_
 ·skip
  refine yD ?_
  obtain ⟨B,c,R⟩:=zC c
  refine yG [13,14,15,16,17,18,19,20,21,22] (fun (g:Unit)=>[(13,.bool B)]) (fun g wl=>Hd O w wl S [.blk h [k,i6 f.last,.bool f.begun] 266,f1 fD l d.told,f1 Rp.bool m d.possible,.tr fJ [k] p n.2,.own (Rp.int .i64) j 3 d.rules,.blk o [l,m,j] 218]) ?_ ?_
  ·skip
   refine zA ?_
   refine zH (i6 n.1) ?_
   obtain ⟨T,U,c⟩:=zD c
   refine zG (zO (yY (a:=n.1) (b:=2) rfl rfl) U)<| yO (b:=T) rfl rfl rfl (fun s=>?_) (fun s=>?_)
   ·have c:=zN s c
    refine zH (gX h)<| zG (yC rfl)<| zG (aJu rfl)<| Ld fG H 0 1 rfl rfl ?_
    obtain ⟨C,V,c⟩:=zD c
    refine zG (zO (yY (a:=f.last) (b:=1) rfl rfl) V)<| zG (yL (v:= .bool C) rfl rfl)<| zI (.bool C) ?_
    obtain rfl:=gG c
    exact (zT (zF (meet ⟨(),(zJ rfl zK),H.pick [0,1,2,3,4,5]⟩)))
   have c:=zM s c
   refine yE ?_
   refine yE ?_
   refine yE ?_
   refine yE ?_
   refine yE ?_
   refine zG (yF (v:= .bool false) rfl rfl)<| zI (.bool false) ?_
   obtain rfl:=gG c
   exact (zT (zF (meet ⟨(),(zJ rfl zK),H.pick [0,1,2,3,4,5]⟩)))
  rintro _ ρ ah H
  have c:=R
  refine zW (b:=B) rfl (fun t=>?_) (fun t=>?_)
  ·have c:=zN t c
   refine zA ?_
   refine zI (i6 2) ?_
   obtain rfl:=gG c
   exact (zT (yJ (zF (meet ⟨(),(zJ rfl zK),H.pick [0,1,2,3,4,5]⟩))))
  have c:=zM t c
  obtain ⟨D,c,X⟩:=zC c
  refine yG [23,24,25,26,27,28,29,30,31,32] (fun (g:Unit)=>[(23,.bool D)]) (fun g wl=>Hd O w wl S [.blk h [k,i6 f.last,.bool f.begun] 266,f1 fD l d.told,f1 Rp.bool m d.possible,.tr fJ [k] p n.2,.own (Rp.int .i64) j 3 d.rules,.blk o [l,m,j] 218]) ?_ ?_
  ·skip
   refine zA ?_
   refine zH (i6 n.1) ?_
   obtain ⟨Y,Z,c⟩:=zD c
   refine zG (zO (yY (a:=n.1) (b:=1) rfl rfl) Z)<| yO (b:=Y) rfl rfl rfl (fun u=>?_) (fun u=>?_)
   ·have c:=zN u c
    refine yE ?_
    refine yE ?_
    refine yE ?_
    refine yE ?_
    refine yE ?_
    refine zG (yL (v:= .bool true) rfl rfl)<| zI (.bool true) ?_
    obtain rfl:=gG c
    exact (zT (zF (meet ⟨(),(zJ rfl zK),H.pick [0,1,2,3,4,5]⟩)))
   have c:=zM u c
   refine zH (gX h)<| zG (yC rfl)<| zG (aJu rfl)<| Ld fG H 0 1 rfl rfl ?_
   obtain ⟨E,aa,c⟩:=zD c
   refine zG (zO (yY (a:=f.last) (b:=2) rfl rfl) aa)<| zG (yF (v:= .bool E) rfl rfl)<| zI (.bool E) ?_
   obtain rfl:=gG c
   exact (zT (zF (meet ⟨(),(zJ rfl zK),H.pick [0,1,2,3,4,5]⟩)))
  rintro _ ρ ai H
  have c:=X
  refine zW (b:=D) rfl (fun x=>?_) (fun x=>?_)
  ·have c:=zN x c
   refine zA ?_
   refine zI (i6 1) ?_
   obtain rfl:=gG c
   exact (zT (yJ (zF (meet ⟨(),(zJ rfl zK),H.pick [0,1,2,3,4,5]⟩))))
  have c:=zM x c
  obtain rfl:=gG c
  exact (zZ (yJ (zF (meet ⟨(),(zJ rfl zK),H.pick [0,1,2,3,4,5]⟩))))
 rintro _ ρ aj H
 have c:=Q
 refine zB fun ak ab=>zA<| zH (gX h)<| zH (gX h)<| zH (i6 n.1)<| zG (yC rfl)<| zG (aJu rfl)<| yX rfl (xR H 0 rfl sz3 rfl (v:=i6 n.1) rfl rfl rfl) ?_
 rintro al H
 refine zG (yC rfl)<| zG (fa266_2 rfl)<| yX rfl (xR H 0 rfl sz4 rfl (v:= .bool true) rfl rfl rfl) ?_
 rintro am H
 refine RN ab<| zB fun an ac=>zA<| zH (i6 q)<| zI (i6 q)<| RN ac ?_
 obtain rfl:=gG c
 refine (zX (gV (v1:=i6 q) rfl rfl ?_))
 exact ⟨k,p,rfl,H.pick [3,0,4,5]⟩
theorem Fekw (rfG:Nd→gJ→Option (Int×Nd))(rhG:Fas rfG)(j:Nd)(a:gJ)(k:Value)(i:List Nat)(d:Nat)(f:Value)(h:Value)(c:Value)(fid:FuncId)(rv:Value)(hm:mJ Tryz.prog "orangebox/event.step" k fid rv)(r:Int×Nd)(b:Fek rfG j a=some r)(O S:List Nat)(w:World)(H:Hd O w w S [.tr fJ [k] i j,.own (Rp.int .i64) c 3 a.rules,.blk d [f,h,c] 218,f1 fD f a.told,f1 Rp.bool h a.possible]):
  Calls Tryz.prog fid ([rv,gX d]:List Value).toArray w fun e l=> ∃bs',e= .returned (i6 r.1)∧Hd O w l S [.tr fJ [k] bs' r.2,.own (Rp.int .i64) c 3 a.rules,.blk d [f,h,c] 218]:=by
 unfold Fek at b
 cases j with
 | constant m=>
  obtain rfl:=aBl H 0 rfl
  obtain ⟨rfl,rfl⟩:=hm.eq (dP (p:=false) (by kernel_rfl) (by kernel_rfl) en209) w
  obtain ⟨x5,n,b⟩:=zC b
  refine Calls.mono (Fexw (mD.mk m) (gJ.mk a.told a.possible a.rules) d f h c _ n _ _ _ (H.enter [1,2] [3,4])) ?_
  rintro _ w7 ⟨rfl,o⟩
  have H:Hd _ _ _ _ [_,_,_,_,_]:=H.back [1,2] [3,4] rfl o
  obtain rfl:=gG b
  exact ⟨i,rfl,H.pick [0,3,4]⟩
 | number q s t=>
  obtain rfl:=aFj H 0 rfl
  obtain ⟨rfl,rfl⟩:=hm.eq (dP (p:=false) (by kernel_rfl) (by kernel_rfl) en211) w
  obtain ⟨bp,u,b⟩:=zC b
  refine Calls.mono (Fazw (kD.mk q s t) (gJ.mk a.told a.possible a.rules) d f h c _ u _ _ _ (H.enter [1,2] [3,4])) ?_
  rintro _ bq ⟨rfl,v⟩
  have H:Hd _ _ _ _ [_,_,_,_,_]:=H.back [1,2] [3,4] rfl v
  obtain rfl:=gG b
  exact ⟨i,rfl,H.pick [0,3,4]⟩
 | pair x y z A B=>
  obtain rfl:=aIm H 0 rfl
  obtain ⟨rfl,rfl⟩:=hm.eq (dP (p:=false) (by kernel_rfl) (by kernel_rfl) en216) w
  obtain ⟨br,C,b⟩:=zC b
  refine Calls.mono (Fauw (jM.mk x y z A B) (gJ.mk a.told a.possible a.rules) d f h c _ C _ _ _ (H.enter [1,2] [3,4])) ?_
  rintro _ bt ⟨rfl,D⟩
  have H:Hd _ _ _ _ [_,_,_,_,_]:=H.back [1,2] [3,4] rfl D
  obtain rfl:=gG b
  exact ⟨i,rfl,H.pick [0,3,4]⟩
 | steady E F G I=>
  obtain ⟨J,K,L,rfl,H⟩:=aEu H 0 rfl
  have H:Hd _ _ _ _ [_,_,_,_,_,_]:=H
  obtain ⟨rfl,rfl⟩:=hm.eq (dP (p:=true) (by kernel_rfl) (by kernel_rfl) en219) w
  obtain ⟨⟨bu,bv⟩,M,b⟩:=zC b
  refine Calls.mono (Fayw (dF.mk E F G I) (gJ.mk a.told a.possible a.rules) J K L d f h c _ M _ _ _ (H.enter [4,5,0,1] [2,3])) ?_
  rintro _ bw ⟨bx,bz,rfl,N⟩
  have H:Hd _ _ _ _ [_,_,_,_,_,_]:=H.back [4,5,0,1] [2,3] rfl N
  obtain ⟨P,H⟩:=aAx H 2 3 rfl rfl (by decide)
  have H:Hd _ _ _ _ [_,_,_,_,_]:=H
  obtain rfl:=gG b
  exact ⟨P,rfl,H.pick [4,2,3]⟩
 | phase Q=>
  obtain rfl:=aGa H 0 rfl
  obtain ⟨rfl,rfl⟩:=hm.eq (dP (p:=false) (by kernel_rfl) (by kernel_rfl) en221) w
  obtain ⟨b0,R,b⟩:=zC b
  refine Calls.mono (Favw (kT.mk Q) (gJ.mk a.told a.possible a.rules) d f h c _ R _ _ _ (H.enter [1,2] [3,4])) ?_
  rintro _ b1 ⟨rfl,T⟩
  have H:Hd _ _ _ _ [_,_,_,_,_]:=H.back [1,2] [3,4] rfl T
  obtain rfl:=gG b
  exact ⟨i,rfl,H.pick [0,3,4]⟩
 | rule U=>
  obtain rfl:=aIn H 0 rfl
  obtain ⟨rfl,rfl⟩:=hm.eq (dP (p:=false) (by kernel_rfl) (by kernel_rfl) en223) w
  obtain ⟨b2,V,b⟩:=zC b
  refine Calls.mono (Fezw (uJ.mk U) (gJ.mk a.told a.possible a.rules) d f h c _ V _ _ _ (H.enter [1,2] [3,4])) ?_
  rintro _ b3 ⟨rfl,X⟩
  have H:Hd _ _ _ _ [_,_,_,_,_]:=H.back [1,2] [3,4] rfl X
  obtain rfl:=gG b
  exact ⟨i,rfl,H.pick [0,3,4]⟩
 | not Y=>
  obtain ⟨Z,aa,ab,rfl,H⟩:=aLm H 0 rfl
  have H:Hd _ _ _ _ [_,_,_,_,_,_]:=H
  obtain ⟨rfl,rfl⟩:=hm.eq (dP (p:=true) (by kernel_rfl) (by kernel_rfl) en225) w
  obtain ⟨⟨b4,b5⟩,ac,b⟩:=zC b
  refine Calls.mono (Fbaw rfG rhG (kM.mk Y) (gJ.mk a.told a.possible a.rules) Z aa ab d f h c _ ac _ _ _ (H.enter [4,5,0,1] [2,3])) ?_
  rintro _ b6 ⟨b7,b8,rfl,ad⟩
  have H:Hd _ _ _ _ [_,_,_,_,_,_]:=H.back [4,5,0,1] [2,3] rfl ad
  obtain ⟨ae,H⟩:=aHp H 2 3 rfl rfl (by decide)
  have H:Hd _ _ _ _ [_,_,_,_,_]:=H
  obtain rfl:=gG b
  exact ⟨ae,rfl,H.pick [4,2,3]⟩
 | group af ag=>
  obtain ⟨ah,ai,aj,rfl,H⟩:=aGi H 0 rfl
  have H:Hd _ _ _ _ [_,_,_,_,_,_]:=H
  obtain ⟨rfl,rfl⟩:=hm.eq (dP (p:=true) (by kernel_rfl) (by kernel_rfl) en228) w
  obtain ⟨⟨b9,ca⟩,ak,b⟩:=zC b
  refine Calls.mono (Fbgw rfG rhG (bI.mk af ag) (gJ.mk a.told a.possible a.rules) ah ai aj d f h c _ ak _ _ _ (H.enter [4,5,0,1] [2,3])) ?_
  rintro _ cb ⟨cc,cd,rfl,al⟩
  have H:Hd _ _ _ _ [_,_,_,_,_,_]:=H.back [4,5,0,1] [2,3] rfl al
  obtain ⟨am,H⟩:=aCj H 2 3 rfl rfl (by decide)
  have H:Hd _ _ _ _ [_,_,_,_,_]:=H
  obtain rfl:=gG b
  exact ⟨am,rfl,H.pick [4,2,3]⟩
 | count an ao ap aq ar=>
  obtain ⟨au,av,aw,ax,ay,rfl,H⟩:=aGg H 0 rfl
  have H:Hd _ _ _ _ [_,_,_,_,_,_,_]:=H
  obtain ⟨rfl,rfl⟩:=hm.eq (dP (p:=true) (by kernel_rfl) (by kernel_rfl) en230) w
  obtain ⟨⟨ce,cf⟩,az,b⟩:=zC b
  refine Calls.mono (Fbiw rfG rhG (dB.mk an ao ap aq ar) (gJ.mk a.told a.possible a.rules) au av aw ax ay d f h c _ az _ _ _ (H.enter [4,5,6,0,1] [2,3])) ?_
  rintro _ cg ⟨ch,ci,cj,ck,rfl,a0⟩
  have H:Hd _ _ _ _ [_,_,_,_,_,_,_]:=H.back [4,5,6,0,1] [2,3] rfl a0
  obtain ⟨a1,H⟩:=pG H 2 3 4 rfl rfl rfl (by decide)
  have H:Hd _ _ _ _ [_,_,_,_,_]:=H
  obtain rfl:=gG b
  exact ⟨a1,rfl,H.pick [4,2,3]⟩
 | since a2 a3 a4 a5=>
  obtain ⟨a6,a7,a8,a9,ba,rfl,H⟩:=aGf H 0 rfl
  have H:Hd _ _ _ _ [_,_,_,_,_,_,_]:=H
  obtain ⟨rfl,rfl⟩:=hm.eq (dP (p:=true) (by kernel_rfl) (by kernel_rfl) en232) w
  obtain ⟨⟨cl,cm⟩,bb,b⟩:=zC b
  refine Calls.mono (Fbnw rfG rhG (bJ.mk a2 a3 a4 a5) (gJ.mk a.told a.possible a.rules) a6 a7 a8 a9 ba d f h c _ bb _ _ _ (H.enter [4,5,6,0,1] [2,3])) ?_
  rintro _ cn ⟨cp,cq,cr,ct,rfl,bc⟩
  have H:Hd _ _ _ _ [_,_,_,_,_,_,_]:=H.back [4,5,6,0,1] [2,3] rfl bc
  obtain ⟨bd,H⟩:=aCh H 2 3 4 rfl rfl rfl (by decide)
  have H:Hd _ _ _ _ [_,_,_,_,_]:=H
  obtain rfl:=gG b
  exact ⟨bd,rfl,H.pick [4,2,3]⟩
 | rises be bf bg=>
  obtain ⟨bh,bi,bj,rfl,H⟩:=aGh H 0 rfl
  have H:Hd _ _ _ _ [_,_,_,_,_,_]:=H
  obtain ⟨rfl,rfl⟩:=hm.eq (dP (p:=true) (by kernel_rfl) (by kernel_rfl) en234) w
  obtain ⟨⟨cu,cv⟩,bk,b⟩:=zC b
  refine Calls.mono (Fa7w rfG rhG (bK.mk be bf bg) (gJ.mk a.told a.possible a.rules) bh bi bj d f h c _ bk _ _ _ (H.enter [4,5,0,1] [2,3])) ?_
  rintro _ cw ⟨cx,cy,rfl,bl⟩
  have H:Hd _ _ _ _ [_,_,_,_,_,_]:=H.back [4,5,0,1] [2,3] rfl bl
  obtain ⟨bm,H⟩:=aCa H 2 3 rfl rfl (by decide)
  have H:Hd _ _ _ _ [_,_,_,_,_]:=H
  obtain rfl:=gG b
  exact ⟨bm,rfl,H.pick [4,2,3]⟩
theorem Ffo:Fas (Fad):=by
 have h: ∀n,Fas (Fb8 n):=by
  intro n
  induction n with
  | zero=>intro b c d e f i j k fid rv hm r a; cases a
  | succ n ih=>intro b c d e f i j k fid rv hm r a; exact Fekw (Fb8 n) ih b c d e f i j k fid rv hm r a
 exact h FU
set_option maxRecDepth 100000 in
theorem Fa6w (d:gZ)(f:gJ)(q:Nat)(l:Value)(m:Value)(al:List Nat)(n:Value)(u:List Nat)(o:Value)(s:Nat)(j:Value)(k:Value)(h:Value)(r:gZ)(c:Fa6 d f=some r)(O S:List Nat)(w:World)(H:Hd O w w S [.tr (Rt.row gY 215 []) [m] al d.moves,.tr (Rt.row fJ 212 []) [n] u d.rules,.blk q [l,i6 d.tracks,m,n,o] 182,.own (Rp.int .i64) h 3 f.rules,.blk s [j,k,h] 218,f1 Rp.str l d.phases,f1 Rp.bool o d.possible,f1 fD j f.told,f1 Rp.bool k f.possible]):
  Cl 149 [gX q,gX s] w fun e w'=> ∃am u22 u25 u23 bb u24,e= .returned (.tuple #[])∧Hd O w w' S [f1 Rp.str am r.phases,.tr (Rt.row gY 215 []) [u22] u25 r.moves,.tr (Rt.row fJ 212 []) [u23] bb r.rules,f1 Rp.bool u24 r.possible,.blk q [am,i6 r.tracks,u22,u23,u24] 182,.own (Rp.int .i64) h 3 f.rules,.blk s [j,k,h] 218]:=by
 unfold Fa6 at c
 refine CW 94 Tryz.func149 ?_
 refine zB fun e1 bc=>zA<| zI (.slice none 0 0)<| RN bc ?_
 obtain ⟨K,c,bd⟩:=zC c
 refine yG [4,6,13,14,15,16,17,18,19,20,21,22,23,24,25,26,27,28,29] (fun (g:Value×(List Nat))=>[(4,g.1)]) (fun g wl=>Hd O w wl S [.own (Rp.int .i64) g.1 3 K.1,.tr (Rt.row gY 215 []) [m] g.2 K.2,.tr (Rt.row fJ 212 []) [n] u d.rules,.blk q [l,i6 d.tracks,m,n,o] 182,f1 Rp.str l d.phases,f1 Rp.bool o d.possible,.own (Rp.int .i64) h 3 f.rules,.blk s [j,k,h] 218,f1 fD j f.told,f1 Rp.bool k f.possible]) ?_ ?_
 ·skip
  refine zB fun e2 be=>zA<| zH (gX q)<| zG (yC rfl)<| zG (aDb rfl)<| Ld aPd H 2 2 rfl rfl ?_
  obtain ⟨bf,bg,c⟩:=zD c
  obtain ⟨e3,e4,bh⟩:=kP ((H.item (i:=0) rfl))
  refine zG (yH (yZ aOq bh) (congrArg (Value.int .i64) bg))<| zH (i6 0)<| RN be<| yD ?_
  have H:=aS H (Rp.int .i64) 3
  unfold Fel at c
  obtain ⟨bi,an,bj,c⟩:=yQ c
  refine xA [4,6,18,19,20,21,22,23,24,25,26,27,28,29] (fun (g:Nat×(List Int)×Int×(List fH)×Value×(List Nat))=>[(4,g.2.2.2.2.1),(18,i6 g.2.2.1)]) (fun g wl=>Hd O w wl S [.own (Rp.int .i64) g.2.2.2.2.1 3 g.2.1,.tr (Rt.row gY 215 []) [m] g.2.2.2.2.2 g.2.2.2.1,.tr (Rt.row fJ 212 []) [n] u d.rules,.blk q [l,i6 d.tracks,m,n,o] 182,f1 Rp.str l d.phases,f1 Rp.bool o d.possible,.own (Rp.int .i64) h 3 f.rules,.blk s [j,k,h] 218,f1 fD j f.told,f1 Rp.bool k f.possible]∧fV bi g.1 (g.2.1,g.2.2.1,g.2.2.2.1)=some K) (fun g=>g.1) (an,[],0,d.moves,.slice none 0 0,al) (zJ rfl (zJ rfl zK)) ⟨H.pick [9,0,1,2,5,6,3,4,7,8],c⟩ ?_
  clear H c
  rintro ⟨an,e5,ao,e6,ap,bk⟩ ρ e7 ⟨H,c⟩
  obtain ⟨bl,rfl,c⟩:=yT c
  have c:=yV bj c
  refine zB fun e8 bm=>zA ?_
  obtain ⟨bn,bo,c⟩:=zD c
  refine zG (zO (xH (a:=ao) (b:=bf) rfl rfl) bo)<| RN bm<| zB fun e9 bp=>zW (b:=bn) rfl (fun M=>?_) (fun M=>?_)
  ·have c:=zN M c
   refine zZ (zF (bp _ _ ?_))
   refine zB fun fa bq=>?_
   refine yD ?_
   refine zB fun fb br=>zA ?_
   obtain ⟨B,G,c⟩:=zC c
   obtain ⟨fc,fd,fe,N⟩:=aC (H.item (i:=1) rfl) G
   refine zG (yS aOq aGu N rfl (zU G).1 (zU G).2.1 rfl rfl) ?_
   obtain ⟨ff,fg,fh,H⟩:=H.focusV 1 rfl N G rfl
   obtain ⟨P,bt,rfl,H⟩:=qI H 10 rfl
   have H:Hd _ _ _ _ [_,_,_,_,_,_,_,_,_,_,_]:=H
   refine zG (yH (yI (cs:=[i6 B.from_,i6 B.to,P]) agg215 rfl aGu rfl (H.holeW 9 rfl N G rfl wG)) rfl)<| yP rfl rfl (xI aQx H) ?_
   rintro _ fi ⟨fj,rfl,H⟩
   refine yX rfl (yU (vs:=[i6 B.from_,i6 B.to,P]) H 11 rfl aGu rfl rfl rfl ⟨rfl,rfl,(pR (H.item (i:=10) rfl)),trivial⟩ rfl) ?_
   rintro fk H
   refine RN br<| zA<| zH ap<| zG (fa215_2 rfl)<| Ld kS H 11 2 rfl rfl<| zH (gX s) ?_
   obtain ⟨bu,bv,aq⟩:=Fal (H.item (i:=10) rfl)
   obtain ⟨I,bw,c⟩:=zC c
   refine yB rfl rfl (nD aq rfl rfl) (Ffo B.when (gJ.mk f.told f.possible f.rules) P bt s j k h bu bv aq _ bw _ _ _ (H.enter [10,5,6] [7,8])) ?_
   rintro _ fm ⟨fn,rfl,bx⟩
   have H:Hd _ _ _ _ [_,_,_,_,_,_,_,_,_,_,_,_]:=H.back [10,5,6] [7,8] rfl bx
   refine ⟨_,rfl,?_⟩
   obtain ⟨fo,bz,c⟩:=zD c
   subst bz
   refine yP rfl rfl (jK (r:=(Rp.int .i64)) (xl:=[I.1]) (cs:=[i6 I.1]) u36 el3 (by decide) (by decide) rfl (xP (vs:=[i6 I.1]) (by decide) rfl rfl ⟨rfl,trivial⟩ rfl) H ⟨[i6 I.1],[],rfl,rfl,rfl⟩) ?_
   rintro fp fq H
   obtain ⟨b0,b1,c⟩:=zC c
   refine yP rfl rfl (kC H (i:=0) rfl u36 el3 rfl rfl (Sr.of_own (H.item (i:=12) rfl)) b1) ?_
   rintro ar fr H
   refine zI ar<| (zT (yJ (zF (bq _ _ ?_))))
   refine zA ?_
   obtain ⟨au,b2,c⟩:=zD c
   refine zG (xC (a:=ao) (b:=1) rfl rfl b2)<| zH (i6 au) ?_
   have H:Hd _ _ _ _ [_,_,_,_,_,_,_,_,_,_,_,_,_]:=H
   obtain ⟨fs,H⟩:=jF (x:=fH.mk B.from_ B.to I.2) H 9 rfl
   have H:Hd _ _ _ _ [_,_,_,_,_,_,_,_,_,_,_,_,_]:=H
   obtain ⟨b3,b4,c⟩:=zC c
   obtain ⟨b5,H⟩:=H.unfocus 7 12 rfl rfl (by decide) rfl rfl b4
   have H:Hd _ _ _ _ [_,_,_,_,_,_,_,_,_,_,_,_]:=H
   exact (zT (zF (meet ⟨(bl,b0,au,b3,ar,b5),(zJ rfl (zJ rfl zK)),⟨H.pick [0,11,1,2,3,4,8,9,5,6],c⟩,Nat.lt_succ_self _⟩)))
  have c:=zM M c
  obtain rfl:=gG c
  exact (xE (yK (yK (yR (zF (meet ⟨(ap,bk),(zJ rfl zK),H.pick [0,1,2,3,4,5,6,7,8,9]⟩))))))
 rintro ⟨A,b6⟩ ρ ft H
 have c:=bd
 obtain ⟨E,C⟩:=K
 refine zB fun fu b7=>zA<| zH (gX q)<| zG (yC rfl)<| zG (aQw rfl)<| Ld jJ H 3 0 rfl rfl ?_
 obtain ⟨fv,b8,c⟩:=zD c
 obtain ⟨fw,fx,b9⟩:=SlF.len ((H.item (i:=4) rfl))
 refine zG (yH (yZ u23 b9) (congrArg (Value.int .i64) b8)) ?_
 obtain ⟨ca,cb,c⟩:=zC c
 refine yP rfl rfl (tZ (r:=Rp.bool) (zv:= .bool false) qK el4 rfl (fun _ _=>rfl) rfl rfl cb H) ?_
 rintro t fy H
 refine zI t<| RN b7 ?_
 obtain ⟨av,c,cc⟩:=zC c
 refine yG [8,9,10,11,12,36,37,38,39,40,41,42,43,44,45,46,47,48,49,50,51,52,53,54,55,56,57,58,59,60,61,62,63,64,65,66,67,68,69,70,71,72,73,74,75,76,77,78,79,80,81,82,83,84,85,86,87,88,89] (fun (g:(List Nat))=>[]) (fun g wl=>Hd O w wl S [.tr (Rt.row gY 215 []) [m] g C,.tr (Rt.row fJ 212 []) [n] u d.rules,.blk q [l,i6 d.tracks,m,n,o] 182,f1 Rp.str l d.phases,f1 Rp.bool o d.possible,.own (Rp.int .i64) h 3 f.rules,.blk s [j,k,h] 218,f1 fD j f.told,f1 Rp.bool k f.possible,.own Rp.bool t 4 av]) ?_ ?_
 ·skip
  refine zB fun f0 cd=>zA<| zH (gX q)<| zG (yC rfl)<| zG (aAb rfl)<| Ld sW H 3 4 rfl rfl ?_
  obtain ⟨ce,cf,c⟩:=zD c
  obtain ⟨f4,f5,cg⟩:=SlF.len ((H.item (i:=5) rfl))
  refine zG (yH (yZ qK cg) (congrArg (Value.int .i64) cf))<| zH (i6 0)<| RN cd<| yD ?_
  unfold Fe1 at c
  obtain ⟨ch,aw,ci,c⟩:=yQ c
  refine xA [8,9,10,11,12,41,42,43,44,45,46,47,48,49,50,51,52,53,54,55,56,57,58,59,60,61,62,63,64,65,66,67,68,69,70,71,72,73,74,75,76,77,78,79,80,81,82,83,84,85,86,87,88,89] (fun (g:Nat×Int×(List Bool)×(List Nat))=>[(41,i6 g.2.1)]) (fun g wl=>Hd O w wl S [.own (Rp.int .i64) A 3 E,.tr (Rt.row gY 215 []) [m] g.2.2.2 C,.tr (Rt.row fJ 212 []) [n] u d.rules,.blk q [l,i6 d.tracks,m,n,o] 182,f1 Rp.str l d.phases,f1 Rp.bool o d.possible,.own (Rp.int .i64) h 3 f.rules,.blk s [j,k,h] 218,f1 fD j f.told,f1 Rp.bool k f.possible,.own Rp.bool t 4 g.2.2.1]∧fV ch g.1 (g.2.1,g.2.2.1)=some av) (fun g=>g.1) (aw,0,ca,b6) (zJ rfl zK) ⟨H.pick [0,1,2,3,4,5,6,7,8,9,10],c⟩ ?_
  clear H c
  rintro ⟨aw,y,cj,Q⟩ ρ f6 ⟨H,c⟩
  obtain ⟨ck,rfl,c⟩:=yT c
  have c:=yV ci c
  refine zB fun f7 cl=>zA ?_
  obtain ⟨cm,cn,c⟩:=zD c
  refine zG (zO (xH (a:=y) (b:=ce) rfl rfl) cn)<| RN cl<| zB fun f8 cp=>zW (b:=cm) rfl (fun R=>?_) (fun R=>?_)
  ·have c:=zN R c
   refine zZ (zF (cp _ _ ?_))
   obtain ⟨ax,c,cq⟩:=zC c
   refine yG [8,9,10,11,12,43,44,45,46,47,48,49,50,51,52,53,54,55,56,57,58,59,60,61,62,63,64,65,66,67,68,69,70,71,72,73,74,75,76,77,78,79,80,81,82,83,84,85,86,87,88] (fun (g:(List Nat))=>[]) (fun g wl=>Hd O w wl S [.own (Rp.int .i64) A 3 E,.tr (Rt.row gY 215 []) [m] g C,.tr (Rt.row fJ 212 []) [n] u d.rules,.blk q [l,i6 d.tracks,m,n,o] 182,f1 Rp.str l d.phases,f1 Rp.bool o d.possible,.own (Rp.int .i64) h 3 f.rules,.blk s [j,k,h] 218,f1 fD j f.told,f1 Rp.bool k f.possible,.own Rp.bool t 4 ax]) ?_ ?_
   ·skip
    refine yD ?_
    refine zB fun f9 cr=>zA<| zH (i6 y) ?_
    obtain ⟨L,T,c⟩:=zC c
    obtain ⟨ct,cu,ga,cv,cw,cx,cy,cz,c0⟩:=wJ (H.item (i:=5) rfl) T
    obtain rfl:cv= [.bool L]:=cx
    have H:=H.fz (.at ct (cu+y.toNat * 1) _) ⟨cy,cz,c0⟩
    refine zG (yS qK sz4 cw rfl (zU T).1 (zU T).2.1 rfl rfl)<| zG (xG jT rfl (Cells.get (H.item (i:=11) rfl).2.2 (i:=0) rfl))<| zI (i6 y)<| zI (.bool L)<| RN cr<| zB fun gb c1=>zB fun gc c2=>zA<| zH (.bool L) ?_
    obtain ⟨c3,c4,c⟩:=zD c
    refine zG (zO (xX (p:=L) rfl) c4)<| RN c2<| zW (b:=c3) rfl (fun U=>?_) (fun U=>?_)
    ·have c:=zN U c
     obtain rfl:=gG c
     exact (xE (yK (yR (zF (meet ⟨Q,zK,H.pick [0,1,2,3,4,5,6,7,8,9,10]⟩)))))
    have c:=zM U c
    refine zZ (zF (c1 _ _ ?_))
    refine zB fun gd c5=>zA<| zI (.bool true)<| RN c5 ?_
    obtain ⟨J,c,c6⟩:=zC c
    refine yG [10,11,12,48,49,50,51,52,53,54,55,56,57,58,59,60,61,62,63,64,65,66,67,68,69,70,71,72,73,74,75,76,77,78] (fun (g:(List Nat))=>[(10,.bool J.1)]) (fun g wl=>Hd O w wl S [.own (Rp.int .i64) A 3 E,.tr (Rt.row gY 215 []) [m] g C,.tr (Rt.row fJ 212 []) [n] u d.rules,.blk q [l,i6 d.tracks,m,n,o] 182,f1 Rp.str l d.phases,f1 Rp.bool o d.possible,.own (Rp.int .i64) h 3 f.rules,.blk s [j,k,h] 218,f1 fD j f.told,f1 Rp.bool k f.possible,.own Rp.bool t 4 J.2]) ?_ ?_
    ·skip
     refine zB fun ge c7=>zA<| zH (gX q)<| zG (yC rfl)<| zG (aDb rfl)<| Ld aPd H 3 2 rfl rfl ?_
     obtain ⟨c8,c9,c⟩:=zD c
     obtain ⟨gf,gg,da⟩:=kP ((H.item (i:=1) rfl))
     refine zG (yH (yZ aOq da) (congrArg (Value.int .i64) c9))<| zH (i6 0)<| RN c7<| yD ?_
     unfold Fch at c
     obtain ⟨db,ay,dc,c⟩:=yQ c
     refine xA [10,11,12,53,54,55,56,57,58,59,60,61,62,63,64,65,66,67,68,69,70,71,72,73,74,75,76,77,78] (fun (g:Nat×Int×(List Bool)×(List Nat))=>[(10,.bool true),(53,i6 g.2.1)]) (fun g wl=>Hd O w wl S [.own (Rp.int .i64) A 3 E,.tr (Rt.row gY 215 []) [m] g.2.2.2 C,.tr (Rt.row fJ 212 []) [n] u d.rules,.blk q [l,i6 d.tracks,m,n,o] 182,f1 Rp.str l d.phases,f1 Rp.bool o d.possible,.own (Rp.int .i64) h 3 f.rules,.blk s [j,k,h] 218,f1 fD j f.told,f1 Rp.bool k f.possible,.own Rp.bool t 4 g.2.2.1]∧fV db g.1 (g.2.1,g.2.2.1)=some J) (fun g=>g.1) (ay,0,cj,Q) (zJ rfl (zJ rfl zK)) ⟨H.pick [0,1,2,3,4,5,6,7,8,9,10],c⟩ ?_
     clear H c
     rintro ⟨ay,F,az,dd⟩ ρ gh ⟨H,c⟩
     obtain ⟨de,rfl,c⟩:=yT c
     have c:=yV dc c
     refine zB fun gi df=>zA ?_
     obtain ⟨dg,dh,c⟩:=zD c
     refine zG (zO (xH (a:=F) (b:=c8) rfl rfl) dh)<| RN df<| zB fun gj di=>zW (b:=dg) rfl (fun V=>?_) (fun V=>?_)
     ·have c:=zN V c
      refine zZ (zF (di _ _ ?_))
      obtain ⟨dj,dk,c⟩:=xW c
      refine yG [10,11,12,55,56,57,58,59,60,61,62,63,64,65,66,67,68,69,70,71,72,73,74,75,76,77] (fun (g:(List Bool)×(List Nat))=>[(10,.bool true)]) (fun g wl=>Hd O w wl S [.own (Rp.int .i64) A 3 E,.tr (Rt.row gY 215 []) [m] g.2 C,.tr (Rt.row fJ 212 []) [n] u d.rules,.blk q [l,i6 d.tracks,m,n,o] 182,f1 Rp.str l d.phases,f1 Rp.bool o d.possible,.own (Rp.int .i64) h 3 f.rules,.blk s [j,k,h] 218,f1 fD j f.told,f1 Rp.bool k f.possible,.own Rp.bool t 4 g.1]∧dj g.1=some J) ?_ ?_
      ·skip
       refine yD ?_
       refine zB fun gl dl=>zA<| zH (i6 F) ?_
       obtain ⟨z,D,c⟩:=zC c
       obtain ⟨gm,gn,go,X⟩:=aC (H.item (i:=1) rfl) D
       refine zG (yS aOq aGu X rfl (zU D).1 (zU D).2.1 rfl rfl) ?_
       obtain ⟨gp,gq,gr,H⟩:=H.focusV 1 rfl X D rfl
       obtain ⟨Y,gs,rfl,H⟩:=qI H 11 rfl
       have H:Hd _ _ _ _ [_,_,_,_,_,_,_,_,_,_,_,_]:=H
       refine zG (yH (yI (cs:=[i6 z.from_,i6 z.to,Y]) agg215 rfl aGu rfl (H.holeW 10 rfl X D rfl wG)) rfl)<| yP rfl rfl (xI aQx H) ?_
       rintro _ gt ⟨dm,rfl,H⟩
       refine zI (i6 F)<| yX rfl (yU (vs:=[i6 z.from_,i6 z.to,Y]) H 12 rfl aGu rfl rfl rfl ⟨rfl,rfl,(pR (H.item (i:=11) rfl)),trivial⟩ rfl) ?_
       rintro gu H
       refine RN dl<| zB fun gv dn=>?_
       obtain ⟨a0,c,dp⟩:=zC c
       refine yG [58,59,60,61,62,63,64,65,66,67,68] (fun (g:(List Nat))=>[(68,.bool a0)]) (fun g wl=>Hd O w wl S [.own (Rp.int .i64) A 3 E,.tr (Rt.row fJ 212 []) [n] u d.rules,.blk q [l,i6 d.tracks,m,n,o] 182,f1 Rp.str l d.phases,.tr (Rt.row gY 215 []) [m] g C,f1 Rp.bool o d.possible,.own (Rp.int .i64) h 3 f.rules,.blk s [j,k,h] 218,f1 fD j f.told,f1 Rp.bool k f.possible,.own Rp.bool t 4 az,.blk dm [i6 z.from_,i6 z.to,Y] 215]) ?_ ?_
       ·skip
        refine zA ?_
        refine zG (fa215_0 rfl)<| Ld fG H 12 0 rfl rfl<| zH (i6 y) ?_
        obtain ⟨dq,dr,c⟩:=zD c
        refine zG (zO (eX (a:=z.from_) (b:=y) rfl rfl) dr)<| yO (b:=dq) rfl rfl rfl (fun Z=>?_) (fun Z=>?_)
        ·have c:=zN Z c
         refine yE ?_
         refine yE ?_
         refine yE ?_
         refine yE ?_
         refine yE ?_
         refine zG (yL (v:= .bool true) rfl rfl) ?_
         have H:Hd _ _ _ _ [_,_,_,_,_,_,_,_,_,_,_,_,_]:=H
         obtain ⟨gw,H⟩:=jF (x:=z) H 11 rfl
         have H:Hd _ _ _ _ [_,_,_,_,_,_,_,_,_,_,_,_,_]:=H
         obtain ⟨ds,H⟩:=H.unfocus0 10 12 rfl rfl (by decide) rfl rfl D
         have H:Hd _ _ _ _ [_,_,_,_,_,_,_,_,_,_,_,_]:=H
         obtain rfl:=gG c
         exact (zT (zF (meet ⟨ds,(zJ rfl zK),H.pick [0,1,2,3,11,4,5,6,7,8,9,10]⟩)))
        have c:=zM Z c
        refine zH A<| zH (i6 F) ?_
        obtain ⟨a1,aa,c⟩:=zC c
        obtain ⟨gx,gy,dt,du,dv,dw⟩:=bH (H.item (i:=0) rfl) aa
        obtain rfl:dt= [i6 a1]:=dv
        refine zG (yS u36 sz3 du rfl (zU aa).1 (zU aa).2.1 rfl rfl)<| zG (xG fG rfl (Cells.get dw (i:=0) rfl)) ?_
        obtain ⟨dx,dy,c⟩:=zD c
        refine zG (zO (yY (a:=a1) (b:=1) rfl rfl) dy)<| zG (yF (v:= .bool dx) rfl rfl) ?_
        have H:Hd _ _ _ _ [_,_,_,_,_,_,_,_,_,_,_,_,_]:=H
        obtain ⟨gz,H⟩:=jF (x:=z) H 11 rfl
        have H:Hd _ _ _ _ [_,_,_,_,_,_,_,_,_,_,_,_,_]:=H
        obtain ⟨dz,H⟩:=H.unfocus0 10 12 rfl rfl (by decide) rfl rfl D
        have H:Hd _ _ _ _ [_,_,_,_,_,_,_,_,_,_,_,_]:=H
        obtain rfl:=gG c
        exact (zT (zF (meet ⟨dz,(zJ rfl zK),H.pick [0,1,2,3,11,4,5,6,7,8,9,10]⟩)))
       rintro ab ρ g0 H
       have c:=dp
       refine zW (b:=a0) rfl (fun ac=>?_) (fun ac=>?_)
       ·have c:=zN ac c
        exact (xE (yK (yR (zF (meet ⟨(az,ab),(zJ rfl zK),⟨H.pick [0,4,1,2,3,5,6,7,8,9,10],c⟩⟩)))))
       have c:=zM ac c
       refine zZ (zF (dn _ _ ?_))
       refine zB fun g1 d0=>zA<| zH t<| zG (fa215_1 rfl)<| Ld fG H 11 1 rfl rfl ?_
       obtain ⟨d1,ad,c⟩:=zC c
       obtain ⟨g2,g3,d2,a2,d3,d4⟩:=bH (H.item (i:=10) rfl) ad
       obtain rfl:d2= [.bool d1]:=d3
       refine zG (yS qK sz4 a2 rfl (zU ad).1 (zU ad).2.1 rfl rfl) ?_
       obtain ⟨d5,d6,c⟩:=zC c
       refine yX rfl (bG (vs:=[.bool true]) (off:=0) H 10 rfl a2 d4 rfl sz4 rfl rfl rfl (dH ⟨rfl,trivial⟩) d6 (by decide) rfl rfl) ?_
       rintro g4 H
       refine RN d0<| zB fun g5 d7=>zA<| zH A<| zH (i6 F) ?_
       obtain ⟨a3,ae,c⟩:=zC c
       obtain ⟨g6,g7,d8,d9,ea,eb⟩:=bH (H.item (i:=0) rfl) ae
       obtain rfl:d8= [i6 a3]:=ea
       refine zG (yS u36 sz3 d9 rfl (zU ae).1 (zU ae).2.1 rfl rfl)<| zG (xG fG rfl (Cells.get eb (i:=0) rfl)) ?_
       obtain ⟨ec,ed,c⟩:=zD c
       refine zG (zO (yY (a:=a3) (b:=2) rfl rfl) ed)<| RN d7<| zW (b:=ec) rfl (fun af=>?_) (fun af=>?_)
       ·have c:=zN af c
        refine zB fun g8 ee=>zA<| zI (.bool false)<| RN ee ?_
        obtain rfl:=gG c
        exact (xE (blockQ_x rfl (yK (yK (yR (zF (meet ⟨ab,(zJ rfl zK),H.pick [0,4,1,2,3,5,6,7,8,9,10]⟩)))))))
       have c:=zM af c
       exact (zZ (yJ (zF (meet ⟨(d5,ab),(zJ rfl zK),⟨H.pick [0,4,1,2,3,5,6,7,8,9,10],c⟩⟩))))
      rintro ⟨ef,eg⟩ ρ g9 ⟨H,c⟩
      have c:=wE dk c
      refine zA ?_
      obtain ⟨a4,eh,c⟩:=zD c
      refine zG (xC (a:=F) (b:=1) rfl rfl eh)<| zH (i6 a4) ?_
      exact (zT (zF (meet ⟨(de,a4,ef,eg),(zJ rfl (zJ rfl zK)),⟨H.pick [0,1,2,3,4,5,6,7,8,9,10],c⟩,Nat.lt_succ_self _⟩)))
     have c:=zM V c
     obtain rfl:=gG c
     exact (xE (yK (yK (yR (zF (meet ⟨dd,(zJ rfl zK),H.pick [0,1,2,3,4,5,6,7,8,9,10]⟩))))))
    rintro a5 ρ ha H
    have c:=c6
    obtain ⟨ag,hb⟩:=J
    refine zA ?_
    refine zH t<| zH (i6 y)<| zH t<| zH (i6 y) ?_
    obtain ⟨a6,ah,c⟩:=zC c
    obtain ⟨hc,he,ei,ej,ek,el⟩:=bH (H.item (i:=10) rfl) ah
    obtain rfl:ei= [.bool a6]:=ek
    refine zG (yS qK sz4 ej rfl (zU ah).1 (zU ah).2.1 rfl rfl)<| zG (xG jT rfl (Cells.get el (i:=0) rfl))<| yO (b:=a6) rfl rfl rfl (fun ai=>?_) (fun ai=>?_)
    ·have c:=zN ai c
     refine yE ?_
     refine zG (yL (v:= .bool true) rfl rfl) ?_
     obtain ⟨em,aj,c⟩:=zC c
     obtain ⟨hf,hg,en,a7,eo,ep⟩:=bH (H.item (i:=10) rfl) aj
     obtain rfl:en= [.bool em]:=eo
     refine zG (yS qK sz4 a7 rfl (zU aj).1 (zU aj).2.1 rfl rfl) ?_
     obtain ⟨hh,er,c⟩:=zC c
     refine yX rfl (bG (vs:=[.bool true]) (off:=0) H 10 rfl a7 ep rfl sz4 rfl rfl rfl (dH ⟨rfl,trivial⟩) er (by decide) rfl rfl) ?_
     rintro hi H
     obtain rfl:=gG c
     exact (zT (yJ (zF (meet ⟨a5,zK,H.pick [0,1,2,3,4,5,6,7,8,9,10]⟩))))
    have c:=zM ai c
    refine zH (.bool ag)<| zG (yF (v:= .bool ag) rfl rfl) ?_
    obtain ⟨es,ak,c⟩:=zC c
    obtain ⟨hj,hk,et,a8,eu,ew⟩:=bH (H.item (i:=10) rfl) ak
    obtain rfl:et= [.bool es]:=eu
    refine zG (yS qK sz4 a8 rfl (zU ak).1 (zU ak).2.1 rfl rfl) ?_
    obtain ⟨hl,ex,c⟩:=zC c
    refine yX rfl (bG (vs:=[.bool ag]) (off:=0) H 10 rfl a8 ew rfl sz4 rfl rfl rfl (dH ⟨rfl,trivial⟩) ex (by decide) rfl rfl) ?_
    rintro hn H
    obtain rfl:=gG c
    exact (zT (yJ (zF (meet ⟨a5,zK,H.pick [0,1,2,3,4,5,6,7,8,9,10]⟩))))
   rintro ey ρ ho H
   have c:=cq
   refine zA ?_
   obtain ⟨a9,ez,c⟩:=zD c
   refine zG (xC (a:=y) (b:=1) rfl rfl ez)<| zH (i6 a9) ?_
   exact (zT (zF (meet ⟨(ck,a9,ax,ey),(zJ rfl zK),⟨H.pick [0,1,2,3,4,5,6,7,8,9,10],c⟩,Nat.lt_succ_self _⟩)))
  have c:=zM R c
  obtain rfl:=gG c
  exact (xE (yK (yK (yR (zF (meet ⟨Q,zK,H.pick [1,2,3,4,5,6,7,8,9,10]⟩))))))
 rintro e0 ρ hp H
 have c:=cc
 refine zA ?_
 refine zH (gX q)<| zH t<| zG (yC rfl)<| zG (aAb rfl)<| yX rfl (xR H 2 rfl sz125 rfl (v:=t) rfl (bQ (H.item (i:=9) rfl)) rfl) ?_
 rintro hq H
 have H:=H.freeze (i:=9) rfl
 obtain rfl:=gG c
 refine (zT (mV rfl ?_))
 exact ⟨l,m,e0,n,u,t,rfl,H.pick [3,0,1,9,2,5,6]⟩
theorem Fblw (x:gZ)(t:List eQ)(s:Nat)(K:Value)(L:Value)(U:List Nat)(M:Value)(V:List Nat)(N:Value)(j:Value)(r:(List Int)×gZ)(d:Fbl x t=some r)(O S:List Nat)(w:World)(H:Hd O w w S [.tr (Rt.row gY 215 []) [L] U x.moves,.tr (Rt.row fJ 212 []) [M] V x.rules,.blk s [K,i6 x.tracks,L,M,N] 182,f1 Rp.str K x.phases,f1 Rp.bool N x.possible,f1 fD j t]):
  Cl 120 [gX s,j] w fun e u=> ∃X Y Z aj aa ak ab,e= .returned (X)∧Hd O w u S [.own (Rp.int .i64) X 3 r.1,f1 Rp.str Y r.2.phases,.tr (Rt.row gY 215 []) [Z] aj r.2.moves,.tr (Rt.row fJ 212 []) [aa] ak r.2.rules,f1 Rp.bool ab r.2.possible,.blk s [Y,i6 r.2.tracks,Z,aa,ab] 182]:=by
 unfold Fbl at d
 refine CW 47 Tryz.func120 ?_
 refine zB fun bx al=>zA<| zI (.slice none 0 0)<| RN al<| zB fun bz am=>zA<| zH j ?_
 obtain ⟨an,ao,ap⟩: ∃a c,j= .slice a _ c:=SlF.len ((H.item (i:=5) rfl))
 refine zG (xM (cs:=[j,.slice none 0 0,.slice none 0 0]) (by rw [ap]; exact bt218_0 an _ ao))<| yP rfl rfl (xJ (cs:=[j,.slice none 0 0,.slice none 0 0]) rfl H) ?_
 rintro _ b0 ⟨l,rfl,H⟩
 refine zI (gX l)<| RN am<| zB fun b1 aq=>zA<| zH (gX s)<| zH (gX l) ?_
 have H:=H.fz (.sl Rp.bool (.slice none 0 0) []) SlF.nil
 have H:=aS H (Rp.int .i64) 3
 obtain ⟨f,ar,d⟩:=zC d
 refine yB rfl rfl (zY en149 rfl) (Fa6w (gZ.mk x.phases x.tracks x.moves x.rules x.possible) (gJ.mk t [] []) s K L U M V N l j (.slice none 0 0) (.slice none 0 0) _ ar _ _ _ (H.enter [0,1,2,8,6] [3,4,5,7])) ?_
 rintro _ b2 ⟨m,n,y,o,au,h,rfl,av⟩
 have H:Hd _ _ _ _ [_,_,_,_,_,_,_,_,_,_,_]:=H.back [0,1,2,8,6] [3,4,5,7] rfl av
 refine ⟨_,rfl,?_⟩
 refine RN aq<| zB fun b3 aw=>zA<| zH (gX l)<| zH (gX s)<| zG (yC rfl)<| zG (aAb rfl)<| Ld sW H 8 4 rfl rfl<| zG (yC rfl)<| zG (aIg rfl)<| yX rfl (xR H 10 rfl sz125 rfl (v:=h) rfl (dG (H.item (i:=7) rfl)) rfl) ?_
 rintro b4 H
 refine RN aw ?_
 obtain ⟨I,d,ax⟩:=zC d
 refine yG [7,21,22,23,24,25,26,27,28,29,30,31,32,33,34,35,36,37,38,39,40,41,42] (fun (g:(List Nat)×Value)=>[]) (fun g wl=>Hd O w wl S [f1 fD j t,f1 Rp.str m f.phases,.tr (Rt.row gY 215 []) [n] y f.moves,.tr (Rt.row fJ 212 []) [o] g.1 I.1,f1 Rp.bool h f.possible,.blk s [m,i6 f.tracks,n,o,h] 182,.own (Rp.int .i64) g.2 3 I.2,.blk l [j,h,g.2] 218]) ?_ ?_
 ·skip
  refine zB fun b5 ay=>zA<| zH (gX s)<| zG (yC rfl)<| zG (aIc rfl)<| Ld aOz H 8 3 rfl rfl ?_
  obtain ⟨az,a0,d⟩:=zD d
  obtain ⟨b6,b7,a1⟩:=kP ((H.item (i:=6) rfl))
  refine zG (yH (yZ uN a1) (congrArg (Value.int .i64) a0))<| zH (i6 0)<| RN ay<| yD ?_
  unfold Fdz at d
  obtain ⟨a2,ac,a3,d⟩:=yQ d
  refine xA [7,26,27,28,29,30,31,32,33,34,35,36,37,38,39,40,41,42] (fun (g:Nat×Int×(List Nd)×(List Int)×(List Nat)×Value)=>[(26,i6 g.2.1)]) (fun g wl=>Hd O w wl S [f1 fD j t,f1 Rp.str m f.phases,.tr (Rt.row gY 215 []) [n] y f.moves,.tr (Rt.row fJ 212 []) [o] g.2.2.2.2.1 g.2.2.1,f1 Rp.bool h f.possible,.blk s [m,i6 f.tracks,n,o,h] 182,.own (Rp.int .i64) g.2.2.2.2.2 3 g.2.2.2.1,.blk l [j,h,g.2.2.2.2.2] 218]∧fV a2 g.1 (g.2.1,g.2.2.1,g.2.2.2.1)=some I) (fun g=>g.1) (ac,0,f.rules,[],au,.slice none 0 0) (zJ rfl zK) ⟨H.pick [2,4,5,6,7,8,9,10],d⟩ ?_
  clear H d
  rintro ⟨ac,z,E,A,a4,p⟩ ρ P ⟨H,d⟩
  obtain ⟨a5,rfl,d⟩:=yT d
  have d:=yV a3 d
  refine zB fun b8 a6=>zA ?_
  obtain ⟨a7,a8,d⟩:=zD d
  refine zG (zO (xH (a:=z) (b:=az) rfl rfl) a8)<| RN a6<| zB fun b9 a9=>zW (b:=a7) rfl (fun Q=>?_) (fun Q=>?_)
  ·have d:=zN Q d
   refine zZ (zF (a9 _ _ ?_))
   refine zB fun ca ba=>?_
   refine yD ?_
   refine zB fun cb bb=>zA ?_
   obtain ⟨C,G,d⟩:=zC d
   obtain ⟨cc,cd,ce,R⟩:=aC (H.item (i:=3) rfl) G
   refine zG (yS uN vY R rfl (zU G).1 (zU G).2.1 rfl rfl) ?_
   obtain ⟨cf,F,D,H⟩:=H.focusV 3 rfl R G rfl
   obtain ⟨q,rfl⟩:=nC rfl (H.item (i:=8) rfl)
   have H:Hd _ _ _ _ [_,_,_,_,_,_,_,_,_]:=H
   refine zG (xG kS rfl (Cells.get (H.holeW 7 rfl R G rfl wG) (i:=0) rfl))<| zI q<| RN bb ?_
   have bc:=H
   have H:=H.rebase
   have bd:=H
   have ad:Hd (O++bks (rest [2,4,5,6,7,8] [f1 fD j t,f1 Rp.str m f.phases,.tr (Rt.row gY 215 []) [n] y f.moves,f1 Rp.bool h f.possible,.blk s [m,i6 f.tracks,n,o,h] 182,.own (Rp.int .i64) p 3 A,.blk l [j,h,p] 218,.tr (Rt.row fJ 212 [(z.toNat,[q])]) [o] F E,.tr fJ [q] D C])) P P (bks (Go.Lf.pick ([2,4,5,6,7,8]++ [0,1,3]) [f1 fD j t,f1 Rp.str m f.phases,.tr (Rt.row gY 215 []) [n] y f.moves,f1 Rp.bool h f.possible,.blk s [m,i6 f.tracks,n,o,h] 182,.own (Rp.int .i64) p 3 A,.blk l [j,h,p] 218,.tr (Rt.row fJ 212 [(z.toNat,[q])]) [o] F E,.tr fJ [q] D C])) [.tr (Rt.row gY 215 []) [n] y f.moves,.blk s [m,i6 f.tracks,n,o,h] 182,.own (Rp.int .i64) p 3 A,.blk l [j,h,p] 218,.tr (Rt.row fJ 212 [(z.toNat,[q])]) [o] F E,.tr fJ [q] D C,f1 fD j t,f1 Rp.str m f.phases,f1 Rp.bool h f.possible]:=H.enter [2,4,5,6,7,8] [0,1,3]
   refine vX H ad [0,1,2,3,5,6] 4 7 [8,9,10,11,12] [] [.pure,.pure,.pure,.pure,.read,.pure,.pure,.eff,.new,.eff,.pure,.pure,.eff] ⟨trivial,trivial,trivial,trivial,trivial,trivial,trivial,trivial,trivial,trivial,trivial,trivial,trivial,trivial⟩ mixed (by kernel_rfl) (by kernel_rfl) (by kernel_rfl) (by kernel_rfl) (by kernel_rfl) (by decide) ?_
   have H:=ad
   refine XM (gX l)<| XM (gX l)<| XP (fun _ _=>yC rfl)<| XP (fun _ _=>aDf rfl)<| XM q<| XM (gX l)<| MxM.xO fun cg hS=>?_
   have H:=H.sees hS
   obtain ⟨B,ae,d⟩:=zC d
   refine MxM.XL_join (du:=34) (dv:=37) (fun g1 g2 wl=> ∃(J:List Nat),p=g1∧i6 B.1=g2∧Hd (O++bks (rest [2,4,5,6,7,8] [f1 fD j t,f1 Rp.str m f.phases,.tr (Rt.row gY 215 []) [n] y f.moves,f1 Rp.bool h f.possible,.blk s [m,i6 f.tracks,n,o,h] 182,.own (Rp.int .i64) p 3 A,.blk l [j,h,p] 218,.tr (Rt.row fJ 212 [(z.toNat,[q])]) [o] F E,.tr fJ [q] D C])) P wl (bks (Go.Lf.pick ([2,4,5,6,7,8]++ [0,1,3]) [f1 fD j t,f1 Rp.str m f.phases,.tr (Rt.row gY 215 []) [n] y f.moves,f1 Rp.bool h f.possible,.blk s [m,i6 f.tracks,n,o,h] 182,.own (Rp.int .i64) p 3 A,.blk l [j,h,p] 218,.tr (Rt.row fJ 212 [(z.toNat,[q])]) [o] F E,.tr fJ [q] D C])) [.tr (Rt.row gY 215 []) [n] y f.moves,.blk s [m,i6 f.tracks,n,o,h] 182,.tr (Rt.row fJ 212 [(z.toNat,[q])]) [o] F E,f1 fD j t,f1 Rp.str m f.phases,f1 Rp.bool h f.possible,.tr fJ [q] J B.2,.own (Rp.int .i64) p 3 A,.blk l [j,h,p] 218]) ?_ ?_ ?_
   ·skip
    refine XR aF H 3 2 rfl rfl ?_
    obtain ⟨bg,bh,af⟩:=Fal (H.item (i:=5) rfl)
    refine MxM.XL_effC oS rfl rfl rfl (fun u k=>nD af rfl rfl) (fun u k=>Ffo C (gJ.mk t f.possible A) q D l j h p bg bh af _ ae _ _ _ ((H.sees k).enter [5,2,3] [6,8])) ?_
    rintro u _ ch k ⟨J,rfl,bi⟩
    have H:Hd _ _ _ _ [_,_,_,_,_,_,_,_,_]:=(H.sees k).back [5,2,3] [6,8] rfl bi
    refine ⟨_,rfl,H.only,?_⟩
    refine MxM.xO fun ci hS=>?_
    have H:=H.sees hS
    exact ⟨_,_,rfl,H.only,J,rfl,rfl,H⟩
   ·skip
    obtain ⟨bj,bk,ag⟩:=Fal (H.item (i:=5) rfl)
    refine MxM.XL_effC oS rfl rfl rfl (fun u k=>nD ag rfl rfl) (fun u k=>Ffo C (gJ.mk t f.possible A) q D l j h p bj bk ag _ ae _ _ _ ((H.sees k).enter [5,2,3] [6,8])) ?_
    rintro u _ cj k ⟨bl,rfl,bm⟩
    have H:Hd _ _ _ _ [_,_,_,_,_,_,_,_,_]:=(H.sees k).back [5,2,3] [6,8] rfl bm
    refine ⟨_,rfl,H.only,?_⟩
    refine XR aF H 8 2 rfl rfl<| MxM.xO fun ck hS=>?_
    have H:=H.sees hS
    exact ⟨_,_,MxM.upd_comm _ (by decide) _ _,H.only,bl,rfl,rfl,H⟩
   rintro M' _ _ cl ⟨J,rfl,rfl,H⟩
   obtain ⟨cm,bn,d⟩:=zD d
   subst bn
   refine MxM.XL_exN oS rfl rfl rfl (fun u k=>qA (jK (r:=(Rp.int .i64)) (xl:=[B.1]) (cs:=[i6 B.1]) u36 el3 (by decide) (by decide) rfl (xP (vs:=[i6 B.1]) (by decide) rfl rfl ⟨rfl,trivial⟩ rfl) (H.sees k) ⟨[i6 B.1],[],rfl,rfl,rfl⟩) (aQn (cs:=[i6 B.1]) u36 el3 (by decide) (by decide) (xP (vs:=[i6 B.1]) (by decide) rfl rfl ⟨rfl,trivial⟩ rfl))) ?_
   rintro u cn cp k H
   obtain ⟨bo,bp,d⟩:=zC d
   refine MxM.XL_ex oS rfl rfl rfl (fun u k=>kC (H.sees k) (i:=7) rfl u36 el3 rfl rfl (Sr.of_own ((H.sees k).item (i:=9) rfl)) bp) ?_
   rintro u ah cq k H
   refine ⟨H.only,?_⟩
   refine XP (fun _ _=>yC rfl)<| XP (fun _ _=>aDf rfl)<| MxM.XL_exU oS rfl rfl (fun u k=>xR (H.sees k) 8 rfl sz36 rfl (v:=ah) rfl (bQ ((H.sees k).item (i:=7) rfl)) rfl) ?_
   rintro u cr k H
   refine ⟨H.only,?_⟩
   refine MxM.xO fun ct hS=>?_
   have H:=H.sees hS
   have H:=bd.back [2,4,5,6,7,8] [0,1,3] rfl H
   have H:Hd _ _ _ _ [_,_,_,_,_,_,_,_,_,_,_,_,_]:=H
   have H:Hd _ _ _ _ [_,_,_,_,_,_,_,_,_,_]:=H.pick [3,4,5,6,7,8,9,10,11,12]
   refine ⟨H.only,?_⟩
   refine MxM.xO fun cu hS=>?_
   have H:=H.sees hS
   have H:=bc.rejoin H
   refine yJ (zF (ba _ _ ?_))
   refine zA ?_
   obtain ⟨ai,bq,d⟩:=zD d
   refine zG (xC (a:=z) (b:=1) rfl rfl bq)<| zH (i6 ai) ?_
   have H:Hd _ _ _ _ [_,_,_,_,_,_,_,_,_,_]:=H
   obtain ⟨br,bt,d⟩:=zC d
   obtain ⟨bu,H⟩:=H.unfocus 2 6 rfl rfl (by decide) rfl rfl bt
   have H:Hd _ _ _ _ [_,_,_,_,_,_,_,_,_]:=H
   exact (zT (zF (meet ⟨(a5,ai,br,bo,bu,ah),(zJ rfl zK),⟨H.pick [2,3,0,8,4,1,5,6],d⟩,Nat.lt_succ_self _⟩)))
  have d:=zM Q d
  obtain rfl:=gG d
  exact (xE (yK (yK (yR (zF (meet ⟨(a4,p),zK,H.pick [0,1,2,3,4,5,6,7]⟩))))))
 rintro ⟨bv,T⟩ ρ cv H
 have d:=ax
 obtain ⟨cw,cx⟩:=I
 refine zB fun cy bw=>zA<| zH (gX l)<| zG (yC rfl)<| zG (aDf rfl)<| Ld aF H 7 2 rfl rfl<| zI T<| RN bw ?_
 obtain rfl:=gG d
 refine (zX (gV (v1:=T) rfl rfl ?_))
 exact ⟨T,m,n,y,o,bv,h,rfl,H.pick [6,1,2,3,4,5]⟩
theorem Fenw (a:gZ)(f:List eQ)(b:Nat)(h:Value)(i:Value)(m:List Nat)(j:Value)(n:List Nat)(k:Value)(c:Value)(r:(List Int)×gZ)(d:Fen a f=some r)(O S:List Nat)(w:World)(H:Hd O w w S [.tr (Rt.row gY 215 []) [i] m a.moves,.tr (Rt.row fJ 212 []) [j] n a.rules,.blk b [h,i6 a.tracks,i,j,k] 182,f1 Rp.str h a.phases,f1 Rp.bool k a.possible,f1 fD c f]):
  Cl 97 [gX b,c] w fun e u=> ∃o p q v s x t,e= .returned (o)∧Hd O w u S [.own (Rp.int .i64) o 3 r.1,f1 Rp.str p r.2.phases,.tr (Rt.row gY 215 []) [q] v r.2.moves,.tr (Rt.row fJ 212 []) [s] x r.2.rules,f1 Rp.bool t r.2.possible,.blk b [p,i6 r.2.tracks,q,s,t] 182]:=by
 unfold Fen at d
 refine CW 8 Tryz.func97 ?_
 refine zB fun J y=>zA<| zI (.slice none 0 0)<| RN y<| zB fun K z=>zA<| zH (gX b)<| zH c ?_
 obtain ⟨⟨L,M⟩,A,d⟩:=zC d
 refine yB rfl rfl (zY en120 rfl) (Fblw (gZ.mk a.phases a.tracks a.moves a.rules a.possible) f b h i m j n k c _ A _ _ _ (H.enter [0,1,2] [3,4,5])) ?_
 rintro _ N ⟨l,B,C,D,E,F,G,rfl,I⟩
 have H:Hd _ _ _ _ [_,_,_,_,_,_,_,_,_]:=H.back [0,1,2] [3,4,5] rfl I
 refine ⟨_,rfl,?_⟩
 refine zI l<| RN z ?_
 obtain rfl:=gG d
 refine (zX (gV (v1:=l) rfl rfl ?_))
 exact ⟨l,B,C,D,E,F,G,rfl,H.pick [3,4,5,6,7,8]⟩
theorem Fa4w (d:gZ)(l:Nat)(j:Value)(f:Value)(n:List Nat)(h:Value)(o:List Nat)(k:Value)(r:(List Str))(c:Fa4 d=some r)(O S:List Nat)(w:World)(H:Hd O w w S [.tr (Rt.row gY 215 []) [f] n d.moves,.tr (Rt.row fJ 212 []) [h] o d.rules,.blk l [j,i6 d.tracks,f,h,k] 182,f1 Rp.str j d.phases,f1 Rp.bool k d.possible]):
  Cl 99 [gX l] w fun e F=> ∃z G I,e= .returned (z)∧Hd O w F S [.own Rp.str z 9 r,.tr (Rt.row gY 215 []) [f] G d.moves,.tr (Rt.row fJ 212 []) [h] I d.rules,.blk l [j,i6 d.tracks,f,h,k] 182]:=by
 unfold Fa4 at c
 refine CW 29 Tryz.func99 ?_
 refine zB fun a0 J=>zA<| zI (.slice none 0 0)<| RN J<| zB fun a1 K=>zA<| zI (.slice none 0 0)<| RN K ?_
 obtain ⟨A,c,L⟩:=zC c
 refine yG [3,4,5,6,7,8,9,10,11,12,13,14,15,16,17,18,19,20,21,22,23,24,25,26,27] (fun (g:Value)=>[(3,g)]) (fun g wl=>Hd O w wl S [.own Rp.str g 9 A,.tr (Rt.row gY 215 []) [f] n d.moves,.tr (Rt.row fJ 212 []) [h] o d.rules,.blk l [j,i6 d.tracks,f,h,k] 182,f1 Rp.str j d.phases,f1 Rp.bool k d.possible]) ?_ ?_
 ·skip
  refine zB fun a2 M=>zA<| zH (gX l)<| zG (yC rfl)<| zG (aAb rfl)<| Ld sW H 2 4 rfl rfl ?_
  obtain ⟨N,P,c⟩:=zD c
  obtain ⟨a3,a4,Q⟩:=SlF.len ((H.item (i:=4) rfl))
  refine zG (yH (yZ qK Q) (congrArg (Value.int .i64) P))<| zH (i6 0)<| RN M<| yD ?_
  have H:=aS H Rp.str 9
  unfold Fff at c
  obtain ⟨R,B,T,c⟩:=yQ c
  refine xA [3,4,5,11,12,13,14,15,16,17,18,19,20,21,22,23,24,25,26,27] (fun (g:Nat×(List Str)×Int×Value)=>[(3,g.2.2.2),(11,i6 g.2.2.1)]) (fun g wl=>Hd O w wl S [.own Rp.str g.2.2.2 9 g.2.1,.tr (Rt.row gY 215 []) [f] n d.moves,.tr (Rt.row fJ 212 []) [h] o d.rules,.blk l [j,i6 d.tracks,f,h,k] 182,f1 Rp.str j d.phases,f1 Rp.bool k d.possible]∧fV R g.1 (g.2.1,g.2.2.1)=some A) (fun g=>g.1) (B,[],0,.slice none 0 0) (zJ rfl (zJ rfl zK)) ⟨H.pick [5,0,1,2,3,4],c⟩ ?_
  clear H c
  rintro ⟨B,a5,m,t⟩ ρ a6 ⟨H,c⟩
  obtain ⟨U,rfl,c⟩:=yT c
  have c:=yV T c
  refine zB fun a7 V=>zA ?_
  obtain ⟨X,Y,c⟩:=zD c
  refine zG (zO (xH (a:=m) (b:=N) rfl rfl) Y)<| RN V<| zB fun a8 Z=>zW (b:=X) rfl (fun u=>?_) (fun u=>?_)
  ·have c:=zN u c
   refine zZ (zF (Z _ _ ?_))
   obtain ⟨C,c,aa⟩:=zC c
   refine yG [3,4,5,13,14,15,16,17,18,19,20,21,22,23,24,25,26] (fun (g:Value)=>[(3,g)]) (fun g wl=>Hd O w wl S [.own Rp.str g 9 C,.tr (Rt.row gY 215 []) [f] n d.moves,.tr (Rt.row fJ 212 []) [h] o d.rules,.blk l [j,i6 d.tracks,f,h,k] 182,f1 Rp.str j d.phases,f1 Rp.bool k d.possible]) ?_ ?_
   ·skip
    refine yD ?_
    refine zB fun a9 ab=>zA<| zH (i6 m) ?_
    obtain ⟨q,v,c⟩:=zC c
    obtain ⟨ac,ad,ba,ae,af,ag,ah,ai,aj⟩:=wJ (H.item (i:=5) rfl) v
    obtain rfl:ae= [.bool q]:=ag
    have H:=H.fz (.at ac (ad+m.toNat * 1) _) ⟨ah,ai,aj⟩
    refine zG (yS qK sz4 af rfl (zU v).1 (zU v).2.1 rfl rfl)<| zG (xG jT rfl (Cells.get (H.item (i:=6) rfl).2.2 (i:=0) rfl))<| zI (i6 m)<| zI (.bool q)<| RN ab<| zB fun bb ak=>zA<| zH (.bool q)<| RN ak<| zW (b:=q) rfl (fun x=>?_) (fun x=>?_)
    ·have c:=zN x c
     refine zA ?_
     refine zH t<| zH (gX l)<| zG (yC rfl)<| zG (aQw rfl)<| Ld jJ H 3 0 rfl rfl<| zH (i6 m) ?_
     obtain ⟨p,y,c⟩:=zC c
     obtain ⟨al,am,bc,an,ao,ap,aq,ar,au⟩:=wJ (H.item (i:=4) rfl) y
     obtain rfl:an= [sb p]:=ap
     have H:=H.fz (.at al (am+m.toNat * 1) _) ⟨aq,ar,au⟩
     refine zG (yS u23 sz9 ao rfl (zU y).1 (zU y).2.1 rfl rfl)<| zG (xG dX rfl (Cells.get (H.item (i:=7) rfl).2.2 (i:=0) rfl)) ?_
     obtain ⟨bd,av,c⟩:=zD c
     subst av
     refine yP rfl rfl (jK (r:=Rp.str) (xl:=[p]) (cs:=[sb p]) u23 el9 (by decide) (by decide) rfl (xP (vs:=[sb p]) (by decide) rfl rfl ⟨rfl,trivial⟩ rfl) H ⟨[sb p],[],rfl,rfl,rfl⟩) ?_
     rintro be bf H
     obtain ⟨bg,aw,c⟩:=zC c
     refine yP rfl rfl (kC H (i:=0) rfl u23 el9 rfl rfl (Sr.of_own (H.item (i:=8) rfl)) aw) ?_
     rintro D bh H
     refine zI D ?_
     obtain rfl:=gG c
     exact (zT (yJ (zF (meet ⟨D,(zJ rfl zK),H.pick [0,1,2,3,4,5]⟩))))
    have c:=zM x c
    obtain rfl:=gG c
    exact (zZ (yJ (zF (meet ⟨t,(zJ rfl zK),H.pick [0,1,2,3,4,5]⟩))))
   rintro ax ρ bi H
   have c:=aa
   refine zA ?_
   obtain ⟨E,ay,c⟩:=zD c
   refine zG (xC (a:=m) (b:=1) rfl rfl ay)<| zH (i6 E) ?_
   exact (zT (zF (meet ⟨(U,C,E,ax),(zJ rfl (zJ rfl zK)),⟨H.pick [0,1,2,3,4,5],c⟩,Nat.lt_succ_self _⟩)))
  have c:=zM u c
  obtain rfl:=gG c
  exact (xE (yK (yK (yR (zF (meet ⟨t,(zJ rfl zK),H.pick [0,1,2,3,4,5]⟩))))))
 rintro s ρ bj H
 have c:=L
 refine zB fun bk az=>zA<| zH s<| zI s<| RN az ?_
 obtain rfl:=gG c
 refine (zX (gV (v1:=s) rfl rfl ?_))
 exact ⟨s,n,o,rfl,H.pick [0,1,2,3]⟩
theorem Fczw (n:List Int)(C:List Str)(o:List Bool)(q:List Int)(j:Value)(D:Value)(k:Nat)(d:Value)(l:Nat)(f:Value)(r:(List Bool)×(List Int))(c:Fcz n C o q=some r)(O S:List Nat)(w:World)(H:Hd O w w S [.own Rp.bool d 4 o,.blk k [d] 125,.own (Rp.int .i64) f 3 q,.blk l [f] 36,f1 (Rp.int .i64) j n,f1 Rp.str D C]):
  Cl 59 [j,D,gX k,gX l] w fun e R=> ∃E F,e= .returned (.tuple #[])∧Hd O w R S [.own Rp.bool E 4 r.1,.blk k [E] 125,.own (Rp.int .i64) F 3 r.2,.blk l [F] 36]:=by
 unfold Fcz at c
 refine CW 36 Tryz.func59 ?_
 refine zB fun bm T=>zA<| zH j ?_
 obtain ⟨U,V,c⟩:=zD c
 obtain ⟨bn,bo,X⟩:=SlF.len ((H.item (i:=4) rfl))
 refine zG (yH (yZ u36 X) (congrArg (Value.int .i64) V))<| zH (i6 0)<| RN T<| yD ?_
 unfold Fer at c
 obtain ⟨Y,G,Z,c⟩:=yQ c
 refine xA [6,7,10,11,12,13,14,15,16,17,18,19,20,21,22,23,24,25,26,27,28,29,30,31,32,33,34,35] (fun (g:Nat×Int×(List Bool)×(List Int))=>[(10,i6 g.2.1)]) (fun g wl=>Hd O w wl S [.own Rp.bool d 4 g.2.2.1,.blk k [d] 125,.own (Rp.int .i64) f 3 g.2.2.2,.blk l [f] 36,f1 (Rp.int .i64) j n]∧fV Y g.1 (g.2.1,g.2.2.1,g.2.2.2)=some r) (fun g=>g.1) (G,0,o,q) (zJ rfl zK) ⟨H.pick [0,1,2,3,4],c⟩ ?_
 clear H c
 rintro ⟨G,h,I,aa⟩ ρ bp ⟨H,c⟩
 obtain ⟨ab,rfl,c⟩:=yT c
 have c:=yV Z c
 refine zB fun bq ac=>zA ?_
 obtain ⟨ad,ae,c⟩:=zD c
 refine zG (zO (xH (a:=h) (b:=U) rfl rfl) ae)<| RN ac<| zB fun br af=>zW (b:=ad) rfl (fun s=>?_) (fun s=>?_)
 ·have c:=zN s c
  refine zZ (zF (af _ _ ?_))
  refine zB fun bt ag=>?_
  refine yD ?_
  refine zB fun bu ah=>zA<| zH (i6 h) ?_
  obtain ⟨m,t,c⟩:=zC c
  obtain ⟨ai,aj,bv,ak,al,am,an,ao,ap⟩:=wJ (H.item (i:=4) rfl) t
  obtain rfl:ak= [i6 m]:=am
  have H:=H.fz (.at ai (aj+h.toNat * 1) _) ⟨an,ao,ap⟩
  refine zG (yS u36 sz3 al rfl (zU t).1 (zU t).2.1 rfl rfl)<| zG (xG fG rfl (Cells.get (H.item (i:=5) rfl).2.2 (i:=0) rfl))<| zI (i6 h)<| zI (i6 m)<| RN ah ?_
  obtain ⟨J,c,aq⟩:=zC c
  refine yG [15,16,17,18,19,20,21,22,23,24,25,26,27,28,29] (fun (g:Unit)=>[]) (fun g wl=>Hd O w wl S [.own Rp.bool d 4 I,.blk k [d] 125,.own (Rp.int .i64) f 3 J,.blk l [f] 36,f1 (Rp.int .i64) j n]) ?_ ?_
  ·skip
   obtain ⟨K,c,ar⟩:=zC c
   refine yG [15,16,17,18,19,20,21,22,23] (fun (g:Unit)=>[(23,.bool K)]) (fun g wl=>Hd O w wl S [.own Rp.bool d 4 I,.blk k [d] 125,.own (Rp.int .i64) f 3 aa,.blk l [f] 36,f1 (Rp.int .i64) j n]) ?_ ?_
   ·skip
    refine zA ?_
    refine zH (i6 m) ?_
    obtain ⟨au,av,c⟩:=zD c
    refine zG (zO (yY (a:=m) (b:=2) rfl rfl) av)<| yO (b:=au) rfl rfl rfl (fun u=>?_) (fun u=>?_)
    ·have c:=zN u c
     refine Ld sW H 1 0 rfl rfl<| zH (i6 h) ?_
     obtain ⟨L,x,c⟩:=zC c
     obtain ⟨bw,bx,aw,ax,ay,az⟩:=bH (H.item (i:=0) rfl) x
     obtain rfl:aw= [.bool L]:=ay
     refine zG (yS qK sz4 ax rfl (zU x).1 (zU x).2.1 rfl rfl)<| zG (xG jT rfl (Cells.get az (i:=0) rfl)) ?_
     obtain ⟨a0,a1,c⟩:=zD c
     refine zG (zO (xX (p:=L) rfl) a1)<| zG (yL (v:= .bool a0) rfl rfl) ?_
     obtain rfl:=gG c
     exact (zT (zF (meet ⟨(),(zJ rfl zK),H.pick [0,1,2,3,4]⟩)))
    have c:=zM u c
    refine yE ?_
    refine yE ?_
    refine yE ?_
    refine yE ?_
    refine yE ?_
    refine zG (yF (v:= .bool false) rfl rfl) ?_
    obtain rfl:=gG c
    exact (zT (zF (meet ⟨(),(zJ rfl zK),H.pick [0,1,2,3,4]⟩)))
   rintro _ ρ bz H
   have c:=ar
   refine zW (b:=K) rfl (fun y=>?_) (fun y=>?_)
   ·have c:=zN y c
    refine zA ?_
    refine Ld aF H 3 0 rfl rfl<| zH (i6 h) ?_
    obtain ⟨M,z,c⟩:=zC c
    obtain ⟨b0,b1,a2,a3,a4,a5⟩:=bH (H.item (i:=2) rfl) z
    obtain rfl:a2= [i6 M]:=a4
    refine zG (yS u36 sz3 a3 rfl (zU z).1 (zU z).2.1 rfl rfl)<| zG (xG fG rfl (Cells.get a5 (i:=0) rfl)) ?_
    obtain ⟨a6,a7,c⟩:=zD c
    refine zG (xC (a:=M) (b:=1) rfl rfl a7) ?_
    obtain ⟨a8,A,c⟩:=zC c
    obtain ⟨b2,b3,a9,N,ba,bb⟩:=bH (H.item (i:=2) rfl) A
    obtain rfl:a9= [i6 a8]:=ba
    refine zG (yS u36 sz3 N rfl (zU A).1 (zU A).2.1 rfl rfl) ?_
    obtain ⟨b4,bc,c⟩:=zC c
    refine yX rfl (bG (vs:=[i6 a6]) (off:=0) H 2 rfl N bb rfl sz3 rfl rfl rfl (dH ⟨rfl,trivial⟩) bc (by decide) rfl rfl) ?_
    rintro b5 H
    obtain rfl:=gG c
    exact (zT (zF (meet ⟨(),zK,H.pick [0,1,2,3,4]⟩)))
   have c:=zM y c
   obtain rfl:=gG c
   exact (zZ (zF (meet ⟨(),zK,H.pick [0,1,2,3,4]⟩)))
  rintro _ ρ b6 H
  have c:=aq
  refine zA ?_
  refine Ld sW H 1 0 rfl rfl<| zH (i6 h)<| zH (i6 m) ?_
  obtain ⟨bd,be,c⟩:=zD c
  refine zG (zO (yY (a:=m) (b:=2) rfl rfl) be) ?_
  obtain ⟨bf,B,c⟩:=zC c
  obtain ⟨b7,b8,bg,P,bh,bi⟩:=bH (H.item (i:=0) rfl) B
  obtain rfl:bg= [.bool bf]:=bh
  refine zG (yS qK sz4 P rfl (zU B).1 (zU B).2.1 rfl rfl) ?_
  obtain ⟨bj,bk,c⟩:=zC c
  refine yX rfl (bG (vs:=[.bool bd]) (off:=0) H 0 rfl P bi rfl sz4 rfl rfl rfl (dH ⟨rfl,trivial⟩) bk (by decide) rfl rfl) ?_
  rintro b9 H
  refine (zT (yJ (zF (ag _ _ ?_))))
  refine zA ?_
  obtain ⟨Q,bl,c⟩:=zD c
  refine zG (xC (a:=h) (b:=1) rfl rfl bl)<| zH (i6 Q) ?_
  exact (zT (zF (meet ⟨(ab,Q,bj,J),(zJ rfl zK),⟨H.pick [0,1,2,3,4],c⟩,Nat.lt_succ_self _⟩)))
 have c:=zM s c
 obtain rfl:=gG c
 refine (xE (yK (yK (yR (mV rfl ?_)))))
 exact ⟨d,f,rfl,H.pick [0,1,2,3]⟩
theorem Fdmw (d:Flight)(m:Rules)(p2c0:List Bool)(p2c1:List Int)(h:Value)(j:Value)(k:Value)(l:Value)(n:Nat)(u:Value)(o:Nat)(v:Value)(r:(List Bool)×(List Int))(c:Fdm d m p2c0 p2c1=some r)(O S:List Nat)(w:World)(H:Hd O w w S [.own Rp.bool u 4 p2c0,.blk n [u] 125,.own (Rp.int .i64) v 3 p2c1,.blk o [v] 36,f1 fF h d.Tracks,f1 Rp.str j m.Phases,f1 fP k m.Moves,f1 fZ l m.Rules]):
  Cl 58 [.agg [sb d.Tail,sb d.Route,i6 d.Day,i6 d.From,i6 d.To,h].toArray,.agg [j,k,l].toArray,.func (.func 59) #[] #[gX n,gX o]] w fun e L=> ∃A B,e= .returned (.tuple #[])∧Hd O w L S [.own Rp.bool A 4 r.1,.blk n [A] 125,.own (Rp.int .i64) B 3 r.2,.blk o [B] 36]:=by
 unfold Fdm at c
 refine CW 34 Tryz.func58 ?_
 refine zB fun bo M=>zA<| yP rfl rfl (xJ (cs:=[sb d.Tail,sb d.Route,i6 d.Day,i6 d.From,i6 d.To,h]) rfl H) ?_
 rintro _ bp ⟨N,rfl,H⟩
 refine yP rfl rfl (xJ (cs:=[j,k,l]) rfl H) ?_
 rintro _ bq ⟨br,rfl,H⟩
 refine RN M<| zB fun bt P=>zA<| zG (yH (yI (cs:=[sb d.Tail,sb d.Route,i6 d.Day,i6 d.From,i6 d.To,h]) sF rfl tC rfl (Hbc H 8 rfl)) rfl)<| zG (yH (yI (cs:=[j,k,l]) qM rfl aBj rfl (Hbc H 9 rfl)) rfl) ?_
 obtain ⟨x,Q,c⟩:=zC c
 refine yB rfl rfl (zY en95 rfl) (Fcuw d m h j k l _ Q _ _ _ (H.enter [] [4,5,6,7])) ?_
 rintro _ bu ⟨p,rfl,R⟩
 have H:=H.back1 [4,5,6,7] rfl R
 refine ⟨_,rfl,?_⟩
 refine zI p<| RN P<| zB fun bv T=>zA<| zG (yH (yI (cs:=[j,k,l]) qM rfl aBj rfl (Hbc H 9 rfl)) rfl)<| zH p ?_
 have H:=H.freeze (i:=10) rfl
 obtain ⟨t,U,c⟩:=zC c
 refine yB rfl rfl (zY en96 rfl) (Fd1w m x j k l p _ U _ _ _ (H.enter [] [5,6,7,10])) ?_
 rintro _ bw ⟨q,V,X,Y,Z,aa,ab,rfl,ac⟩
 have H:=H.back1 [5,6,7,10] rfl ac
 refine ⟨_,rfl,?_⟩
 refine zI (gX q)<| RN T ?_
 have H:Hd _ _ _ _ [_,_,_,_,_,_,_,_,_,_,_,_]:=H.pick [0,1,2,3,4,8,10,11,12,13,14,15]
 refine zB fun bx ad=>zA<| zG (aIw rfl)<| Ld fG H 5 3 rfl rfl<| zI (i6 d.From)<| RN ad<| yD ?_
 unfold Fee at c
 obtain ⟨ae,C,af,c⟩:=yQ c
 refine xA [8,9,18,19,20,21,22,23,24,25,26,27,28,29,30,31,32,33] (fun (g:Nat×Int×(List Bool)×(List Int)×(List Str)×Int×(List fH)×(List Nd)×(List Bool)×Value×Value×Value×Value×(List Nat)×Value×(List Nat)×Value)=>[(8,i6 g.2.1)]) (fun g wl=>Hd O w wl S [.blk n [g.2.2.2.2.2.2.2.2.2.1] 125,.own Rp.bool g.2.2.2.2.2.2.2.2.2.1 4 g.2.2.1,.blk o [g.2.2.2.2.2.2.2.2.2.2.1] 36,.own (Rp.int .i64) g.2.2.2.2.2.2.2.2.2.2.1 3 g.2.2.2.1,f1 fF h d.Tracks,.blk N [sb d.Tail,sb d.Route,i6 d.Day,i6 d.From,i6 d.To,h] 47,f1 fF p x,.blk q [g.2.2.2.2.2.2.2.2.2.2.2.1,i6 g.2.2.2.2.2.1,g.2.2.2.2.2.2.2.2.2.2.2.2.1,g.2.2.2.2.2.2.2.2.2.2.2.2.2.2.1,g.2.2.2.2.2.2.2.2.2.2.2.2.2.2.2.2] 182,f1 Rp.str g.2.2.2.2.2.2.2.2.2.2.2.1 g.2.2.2.2.1,.tr (Rt.row gY 215 []) [g.2.2.2.2.2.2.2.2.2.2.2.2.1] g.2.2.2.2.2.2.2.2.2.2.2.2.2.1 g.2.2.2.2.2.2.1,.tr (Rt.row fJ 212 []) [g.2.2.2.2.2.2.2.2.2.2.2.2.2.2.1] g.2.2.2.2.2.2.2.2.2.2.2.2.2.2.2.1 g.2.2.2.2.2.2.2.1,f1 Rp.bool g.2.2.2.2.2.2.2.2.2.2.2.2.2.2.2.2 g.2.2.2.2.2.2.2.2.1]∧fV ae g.1 (g.2.1,g.2.2.1,g.2.2.2.1,g.2.2.2.2.1,g.2.2.2.2.2.1,g.2.2.2.2.2.2.1,g.2.2.2.2.2.2.2.1,g.2.2.2.2.2.2.2.2.1)=some r) (fun g=>g.1) (C,d.From,p2c0,p2c1,t.phases,t.tracks,t.moves,t.rules,t.possible,u,v,V,X,Y,Z,aa,ab) (zJ rfl zK) ⟨H.pick [1,0,3,2,4,5,6,11,7,8,9,10],c⟩ ?_
 clear H c
 rintro ⟨C,s,ag,ah,ai,aj,ak,al,am,D,E,an,ao,ap,aq,ar,au⟩ ρ bz ⟨H,c⟩
 obtain ⟨av,rfl,c⟩:=yT c
 have c:=yV af c
 refine zB fun b0 aw=>?_
 refine zB fun b1 ax=>zA<| zH (i6 s)<| zG (aJf rfl)<| Ld fG H 5 4 rfl rfl ?_
 obtain ⟨ay,az,c⟩:=zD c
 refine zG (zO (pO (a:=s) (b:=d.To) rfl rfl) az)<| RN ax<| zW (b:=ay) rfl (fun y=>?_) (fun y=>?_)
 ·have c:=zN y c
  refine zZ (zF (aw _ _ ?_))
  refine zB fun b2 a0=>?_
  refine yD ?_
  refine zB fun b3 a1=>zA<| zH (gX q)<| zH p<| zH (i6 s) ?_
  obtain ⟨a2,a3,c⟩:=zC c
  refine yB rfl rfl (zY en98 rfl) (Fdpw x s p _ a3 _ _ _ (H.enter [] [6])) ?_
  rintro _ b4 ⟨a4,rfl,a5⟩
  have H:=H.back1 [6] rfl a5
  refine ⟨_,rfl,?_⟩
  have H:=H.freeze (i:=12) rfl
  obtain ⟨⟨a6,f⟩,a7,c⟩:=zC c
  refine yB rfl rfl (zY en97 rfl) (Fenw (gZ.mk ai aj ak al am) a2 q an ao ap aq ar au a4 _ a7 _ _ _ (H.enter [9,10,7] [8,11,12])) ?_
  rintro _ b5 ⟨z,F,G,a8,I,a9,J,rfl,ba⟩
  have H:Hd _ _ _ _ [_,_,_,_,_,_,_,_,_,_,_,_,_,_,_,_]:=H.back [9,10,7] [8,11,12] rfl ba
  refine ⟨_,rfl,?_⟩
  refine zI z<| RN a1<| zA<| zH (.func (.func 59) #[] #[gX n,gX o])<| zH z<| zH (gX q) ?_
  obtain ⟨bb,bc,c⟩:=zC c
  refine yB rfl rfl (zY en99 rfl) (Fa4w (gZ.mk f.phases f.tracks f.moves f.rules f.possible) q F G a8 I a9 J _ bc _ _ _ (H.enter [12,13,15] [11,14])) ?_
  rintro _ b6 ⟨bd,be,bf,rfl,bg⟩
  have H:Hd _ _ _ _ [_,_,_,_,_,_,_,_,_,_,_,_,_,_,_,_,_]:=H.back [12,13,15] [11,14] rfl bg
  refine ⟨_,rfl,?_⟩
  have H:=H.freeze (i:=10) rfl
  have H:=H.freeze (i:=13) rfl
  obtain ⟨⟨bh,bi⟩,bj,c⟩:=zC c
  refine yB rfl rfl (bP en59 rfl rfl) (Fczw a6 bb ag ah z bd n D o E _ bj _ _ _ (H.enter [1,0,3,2] [10,13])) ?_
  rintro _ b7 ⟨bk,bl,rfl,bm⟩
  have H:Hd _ _ _ _ [_,_,_,_,_,_,_,_,_,_,_,_,_,_,_,_,_]:=H.back [1,0,3,2] [10,13] rfl bm
  refine ⟨_,rfl,?_⟩
  refine (zT (yJ (zF (a0 _ _ ?_))))
  refine zA ?_
  refine zH (i6 s) ?_
  obtain ⟨K,bn,c⟩:=zD c
  refine zG (xC (a:=s) (b:=1) rfl rfl bn)<| zI (i6 K) ?_
  exact (zT (zF (meet ⟨(av,K,bh,bi,f.phases,f.tracks,f.moves,f.rules,f.possible,bk,bl,F,G,be,I,bf,J),(zJ rfl zK),⟨H.pick [14,13,16,15,0,1,2,12,7,10,11,8],c⟩,Nat.lt_succ_self _⟩)))
 have c:=zM y c
 obtain rfl:=gG c
 refine (xE (yK (yK (yR (mV rfl ?_)))))
 exact ⟨D,E,rfl,H.pick [1,0,3,2]⟩
theorem Faww (a:Flight)(c:Rules)(v1:Value)(d:Value)(f:Value)(h:Value)(r:(List Int))(b:Faw a c=some r)(O S:List Nat)(w:World)(H:Hd O w w S [f1 fF v1 a.Tracks,f1 Rp.str d c.Phases,f1 fP f c.Moves,f1 fZ h c.Rules]):
  Cl 29 [.agg [sb a.Tail,sb a.Route,i6 a.Day,i6 a.From,i6 a.To,v1].toArray,.agg [d,f,h].toArray] w fun e m=> ∃u9,e= .returned (u9)∧Hd O w m S [.own (Rp.int .i64) u9 3 r]:=by
 unfold Faw at b
 refine CW 20 Tryz.func29 ?_
 refine zB fun I n=>zA<| yP rfl rfl (xJ (cs:=[sb a.Tail,sb a.Route,i6 a.Day,i6 a.From,i6 a.To,v1]) rfl H) ?_
 rintro _ J ⟨K,rfl,H⟩
 refine yP rfl rfl (xJ (cs:=[d,f,h]) rfl H) ?_
 rintro _ L ⟨M,rfl,H⟩
 refine zI (.slice none 0 0)<| RN n<| zB fun N o=>zA<| zG (qQ rfl)<| Ld wO H 5 2 rfl rfl ?_
 obtain ⟨P,p,b⟩:=zD b
 obtain ⟨Q,R,q⟩:=SlF.len ((H.item (i:=3) rfl))
 refine zG (yH (yZ u25 q) (congrArg (Value.int .i64) p)) ?_
 obtain ⟨s,t,b⟩:=zC b
 refine yP rfl rfl (tZ (r:=(Rp.int .i64)) (zv:=i6 0) u36 el3 rfl (fun _ _=>rfl) rfl rfl t H) ?_
 rintro k T H
 refine yP rfl rfl (xI zero36 H) ?_
 rintro _ U ⟨u,rfl,H⟩
 refine yX rfl (xR H 7 rfl sz36 rfl (v:=k) rfl (bQ (H.item (i:=6) rfl)) rfl) ?_
 rintro V H
 refine RN o<| zB fun X x=>zA<| zG (qQ rfl)<| Ld wO H 5 2 rfl rfl ?_
 obtain ⟨Y,y,b⟩:=zD b
 obtain ⟨Z,aa,z⟩:=SlF.len ((H.item (i:=3) rfl))
 refine zG (yH (yZ u25 z) (congrArg (Value.int .i64) y)) ?_
 obtain ⟨A,B,b⟩:=zC b
 refine yP rfl rfl (tZ (r:=Rp.bool) (zv:= .bool false) qK el4 rfl (fun _ _=>rfl) rfl rfl B H) ?_
 rintro l ab H
 refine yP rfl rfl (xI zero125 H) ?_
 rintro _ ac ⟨C,rfl,H⟩
 refine yX rfl (xR H 9 rfl sz125 rfl (v:=l) rfl (bQ (H.item (i:=8) rfl)) rfl) ?_
 rintro ad H
 refine RN x<| zB fun ae D=>zA<| zG (yH (yI (cs:=[sb a.Tail,sb a.Route,i6 a.Day,i6 a.From,i6 a.To,v1]) sF rfl tC rfl (Hbc H 4 rfl)) rfl)<| zG (yH (yI (cs:=[d,f,h]) qM rfl aBj rfl (Hbc H 5 rfl)) rfl)<| zG (bZ rfl) ?_
 obtain ⟨⟨af,ag⟩,E,b⟩:=zC b
 refine yB rfl rfl (zY en58 rfl) (Fdmw a c A s v1 d f h C l u k _ E _ _ _ (H.enter [8,9,6,7] [0,1,2,3])) ?_
 rintro _ ah ⟨ai,j,rfl,F⟩
 have H:Hd _ _ _ _ [_,_,_,_,_,_,_,_,_,_]:=H.back [8,9,6,7] [0,1,2,3] rfl F
 refine ⟨_,rfl,?_⟩
 refine RN D<| zB fun aj G=>zA<| Ld aF H 9 0 rfl rfl<| zI j<| RN G ?_
 obtain rfl:=gG b
 refine (zX (gV (v1:=j) rfl rfl ?_))
 exact ⟨j,rfl,H.pick [8]⟩
end Go.Proofs.YthllgjnlmjpinaaGreatDoor.L
