/- Walks: what each function computes, for every argument; no condition but those that stand in the statements. -/
import Derived.Test.YtckmiljbaejijaaGreatDoorUV0
import Derived.Test.YtckmiljbaejijaaGreatDoorUV4
import Derived.Test.YtckmiljbaejijaaGreatDoorUV6
import Derived.Test.YtckmiljbaejijaaGreatDoorUV3
namespace Go.Proofs.YtckmiljbaejijaaGreatDoor.L
open Go.RowKit Go.OB Go.Lf
set_option maxHeartbeats 4000000
theorem Fa7w (z:fF)(s:List eH)(p:Nat)(L:Value)(R:Value)(Y:List Nat)(T:Value)(Z:List Nat)(M:Value)(h:Value)(r:(List Int)×fF)(j:Fa7 z s=some r)(O S:List Nat)(w:World)(H:Hd O w w S [.tr fP [R] Y z.moves,.tr fO [T] Z z.rules,.blk p [L,i6 z.tracks,R,T,M] 146,f1 Rp.str L z.phases,f1 Rp.bool M z.possible,f1 gY h s]):
  Cl 78 [gV p,h] w fun e A=> ∃aa ab ac ap ad aq ae,e= .returned (aa)∧Hd O w A S [.own (Rp.int .i64) aa 3 r.1,f1 Rp.str ab r.2.phases,.tr fP [ac] ap r.2.moves,.tr fO [ad] aq r.2.rules,f1 Rp.bool ae r.2.possible,.blk p [ab,i6 r.2.tracks,ac,ad,ae] 146]:=by
 unfold Fa7 at j
 refine CW 47 Tryz.func78 ?_
 refine zB fun b3 ar=>zA<| zI (.slice none 0 0)<| RN ar<| zB fun b4 au=>zA<| zH h ?_
 obtain ⟨av,aw,ax⟩: ∃a c,h= .slice a _ c:=SlF.len ((H.item (i:=5) rfl))
 refine zG (xJ (cs:=[h,.slice none 0 0,.slice none 0 0]) (by rw [ax]; exact bt222_0 av _ aw))<| yQ rfl rfl (xR (cs:=[h,.slice none 0 0,.slice none 0 0]) rfl H) ?_
 rintro _ b5 ⟨o,rfl,H⟩
 refine zI (gV o)<| RN au<| zB fun b6 ay=>zA<| zH (gV p)<| zH (gV o) ?_
 have H:=H.fz (.sl Rp.bool (.slice none 0 0) []) SlF.nil
 have H:=bY H (Rp.int .i64) 3
 obtain ⟨d,az,j⟩:=zC j
 refine zZ rfl rfl (zS en141 rfl) (Fbpw (fF.mk z.phases z.tracks z.moves z.rules z.possible) (gJ.mk s [] []) p L R Y T Z M o h (.slice none 0 0) (.slice none 0 0) _ az _ _ _ (H.enter [0,1,2,8,6] [3,4,5,7])) ?_
 rintro _ a0 ⟨k,l,u,m,af,f,rfl,a1⟩
 have H:Hd _ _ a0 _ [f1 Rp.str L z.phases,f1 Rp.bool M z.possible,f1 gY h s,.fz (.sl Rp.bool (.slice none 0 0) []),f1 Rp.str k d.phases,.tr fP [l] u d.moves,.tr fO [m] af d.rules,f1 Rp.bool f d.possible,.blk p [k,i6 d.tracks,l,m,f] 146,.own (Rp.int .i64) (.slice none 0 0) 3 [],.blk o [h,.slice none 0 0,.slice none 0 0] 222]:=H.back [0,1,2,8,6] [3,4,5,7] rfl a1
 refine ⟨_,rfl,?_⟩
 refine RN ay<| zB fun b7 a2=>zA<| zH (gV o)<| zH (gV p)<| zG (zN rfl)<| zG (aBk rfl)<| Ld aBt H 8 4 rfl rfl<| zG (zN rfl)<| zG (aKc rfl)<| yP rfl (xE H 10 rfl sz144 rfl (v:=f) rfl (xY (H.item (i:=7) rfl)) rfl) ?_
 rintro b8 H
 refine RN a2 ?_
 obtain ⟨N,j,a3⟩:=zC j
 refine yK [7,21,22,23,24,25,26,27,28,29,30,31,32,33,34,35,36,37,38,39,40,41,42] (fun (g:(List Nat)×Value)=>[]) (fun g wl=>Hd O w wl S [f1 gY h s,f1 Rp.str k d.phases,.tr fP [l] u d.moves,.tr fO [m] g.1 N.1,f1 Rp.bool f d.possible,.blk p [k,i6 d.tracks,l,m,f] 146,.own (Rp.int .i64) g.2 3 N.2,.blk o [h,f,g.2] 222]) ?_ ?_
 ·skip
  refine zB fun b9 a4=>zA<| zH (gV p)<| zG (zN rfl)<| zG (aJf rfl)<| Ld aPx H 8 3 rfl rfl ?_
  obtain ⟨a5,a6,j⟩:=zD j
  obtain ⟨ca,cb,a7⟩:=nV ((H.item (i:=6) rfl))
  refine zG (yJ (xO vJ a7) (congrArg (Value.int .i64) a6))<| zH (i6 0)<| RN a4<| yD ?_
  unfold Fdk at j
  obtain ⟨a8,ag,a9,j⟩:=yT j
  refine xB [7,26,27,28,29,30,31,32,33,34,35,36,37,38,39,40,41,42] (fun (g:Nat×Int×(List Nd)×(List Int)×(List Nat)×Value)=>[(26,i6 g.2.1)]) (fun g wl=>Hd O w wl S [f1 gY h s,f1 Rp.str k d.phases,.tr fP [l] u d.moves,.tr fO [m] g.2.2.2.2.1 g.2.2.1,f1 Rp.bool f d.possible,.blk p [k,i6 d.tracks,l,m,f] 146,.own (Rp.int .i64) g.2.2.2.2.2 3 g.2.2.2.1,.blk o [h,f,g.2.2.2.2.2] 222]∧fV a8 g.1 (g.2.1,g.2.2.1,g.2.2.2.1)=some N) (fun g=>g.1) (ag,0,d.rules,[],af,.slice none 0 0) (zJ rfl zK) ⟨H.pick [2,4,5,6,7,8,9,10],j⟩ ?_
  clear H j
  rintro ⟨ag,y,B,D,ba,q⟩ ρ P ⟨H,j⟩
  obtain ⟨bb,rfl,j⟩:=yZ j
  have j:=yY a9 j
  refine zB fun cc bc=>zA ?_
  obtain ⟨bd,be,j⟩:=zD j
  refine zG (zL (xP (a:=y) (b:=a5) rfl rfl) be)<| RN bc<| zB fun cd bf=>zY (b:=bd) rfl (fun U=>?_) (fun U=>?_)
  ·have j:=zO U j
   refine zX (zF (bf _ _ ?_))
   refine zB fun ce bg=>?_
   refine yD ?_
   refine zB fun cf bh=>zA ?_
   obtain ⟨F,J,j⟩:=zC j
   obtain ⟨cg,ch,ci,V⟩:=jC (H.item (i:=3) rfl) J
   refine zG (xC vJ aAm V rfl (yC J).1 (yC J).2.1 rfl rfl) ?_
   obtain ⟨cj,C,G,H⟩:=H.focusV 3 rfl V J rfl
   obtain ⟨n,rfl⟩:=mX rfl (H.item (i:=8) rfl)
   have H:Hd _ _ _ _ [f1 gY h s,f1 Rp.str k d.phases,.tr fP [l] u d.moves,f1 Rp.bool f d.possible,.blk p [k,i6 d.tracks,l,m,f] 146,.own (Rp.int .i64) q 3 D,.blk o [h,f,q] 222,.tr (Rt.row fG 170 [(y.toNat,[n])]) [m] C B,.tr fG [n] G F]:=H
   refine zG (xG kV rfl (Cells.get (H.holeW 7 rfl V J rfl dG) (i:=0) rfl))<| zI n<| RN bh ?_
   have bi:=H
   have H:=H.rebase
   have bj:=H
   have ah:Hd (O++bks (rest [2,4,5,6,7,8] [f1 gY h s,f1 Rp.str k d.phases,.tr fP [l] u d.moves,f1 Rp.bool f d.possible,.blk p [k,i6 d.tracks,l,m,f] 146,.own (Rp.int .i64) q 3 D,.blk o [h,f,q] 222,.tr (Rt.row fG 170 [(y.toNat,[n])]) [m] C B,.tr fG [n] G F])) P P (bks (Go.Lf.pick ([2,4,5,6,7,8]++ [0,1,3]) [f1 gY h s,f1 Rp.str k d.phases,.tr fP [l] u d.moves,f1 Rp.bool f d.possible,.blk p [k,i6 d.tracks,l,m,f] 146,.own (Rp.int .i64) q 3 D,.blk o [h,f,q] 222,.tr (Rt.row fG 170 [(y.toNat,[n])]) [m] C B,.tr fG [n] G F])) [.tr fP [l] u d.moves,.blk p [k,i6 d.tracks,l,m,f] 146,.own (Rp.int .i64) q 3 D,.blk o [h,f,q] 222,.tr (Rt.row fG 170 [(y.toNat,[n])]) [m] C B,.tr fG [n] G F,f1 gY h s,f1 Rp.str k d.phases,f1 Rp.bool f d.possible]:=H.enter [2,4,5,6,7,8] [0,1,3]
   refine uH H ah [0,1,2,3,5,6] 4 7 [8,9,10,11,12] [] [.pure,.pure,.pure,.pure,.read,.pure,.pure,.eff,.new,.eff,.pure,.pure,.eff] ⟨trivial,trivial,trivial,trivial,trivial,trivial,trivial,trivial,trivial,trivial,trivial,trivial,trivial,trivial⟩ mixed (by kernel_rfl) (by kernel_rfl) (by kernel_rfl) (by kernel_rfl) (by kernel_rfl) (by decide) ?_
   have H:=ah
   refine XM (gV o)<| XM (gV o)<| XP (fun _ _=>zN rfl)<| XP (fun _ _=>aDc rfl)<| XM n<| XM (gV o)<| MxM.xK fun ck hS=>?_
   have H:=H.sees hS
   obtain ⟨x,ai,j⟩:=zC j
   refine MxM.XL_join (du:=34) (dv:=37) (fun g1 g2 wl=> ∃(I:List Nat),q=g1∧i6 x.1=g2∧Hd (O++bks (rest [2,4,5,6,7,8] [f1 gY h s,f1 Rp.str k d.phases,.tr fP [l] u d.moves,f1 Rp.bool f d.possible,.blk p [k,i6 d.tracks,l,m,f] 146,.own (Rp.int .i64) q 3 D,.blk o [h,f,q] 222,.tr (Rt.row fG 170 [(y.toNat,[n])]) [m] C B,.tr fG [n] G F])) P wl (bks (Go.Lf.pick ([2,4,5,6,7,8]++ [0,1,3]) [f1 gY h s,f1 Rp.str k d.phases,.tr fP [l] u d.moves,f1 Rp.bool f d.possible,.blk p [k,i6 d.tracks,l,m,f] 146,.own (Rp.int .i64) q 3 D,.blk o [h,f,q] 222,.tr (Rt.row fG 170 [(y.toNat,[n])]) [m] C B,.tr fG [n] G F])) [.tr fP [l] u d.moves,.blk p [k,i6 d.tracks,l,m,f] 146,.tr (Rt.row fG 170 [(y.toNat,[n])]) [m] C B,f1 gY h s,f1 Rp.str k d.phases,f1 Rp.bool f d.possible,.tr fG [n] I x.2,.own (Rp.int .i64) q 3 D,.blk o [h,f,q] 222]) ?_ ?_ ?_
   ·skip
    refine XR rO H 3 2 rfl rfl ?_
    obtain ⟨bm,bn,aj⟩:=Fam (H.item (i:=5) rfl)
    refine MxM.XL_effC oS rfl rfl rfl (fun A t=>nN aj rfl rfl) (fun A t=>Ffl F (gJ.mk s d.possible D) n G o h f q bm bn aj _ ai _ _ _ ((H.sees t).enter [5,2,3] [6,8])) ?_
    rintro A _ bo t ⟨I,rfl,bp⟩
    have H:Hd _ _ bo _ [.tr fP [l] u d.moves,.blk p [k,i6 d.tracks,l,m,f] 146,.tr (Rt.row fG 170 [(y.toNat,[n])]) [m] C B,f1 gY h s,f1 Rp.str k d.phases,f1 Rp.bool f d.possible,.tr fG [n] I x.2,.own (Rp.int .i64) q 3 D,.blk o [h,f,q] 222]:=(H.sees t).back [5,2,3] [6,8] rfl bp
    refine ⟨_,rfl,H.only,?_⟩
    refine MxM.xK fun cl hS=>?_
    have H:=H.sees hS
    exact ⟨_,_,rfl,H.only,I,rfl,rfl,H⟩
   ·skip
    obtain ⟨bq,br,ak⟩:=Fam (H.item (i:=5) rfl)
    refine MxM.XL_effC oS rfl rfl rfl (fun A t=>nN ak rfl rfl) (fun A t=>Ffl F (gJ.mk s d.possible D) n G o h f q bq br ak _ ai _ _ _ ((H.sees t).enter [5,2,3] [6,8])) ?_
    rintro A _ bt t ⟨al,rfl,bu⟩
    have H:Hd _ _ bt _ [.tr fP [l] u d.moves,.blk p [k,i6 d.tracks,l,m,f] 146,.tr (Rt.row fG 170 [(y.toNat,[n])]) [m] C B,f1 gY h s,f1 Rp.str k d.phases,f1 Rp.bool f d.possible,.tr fG [n] al x.2,.own (Rp.int .i64) q 3 D,.blk o [h,f,q] 222]:=(H.sees t).back [5,2,3] [6,8] rfl bu
    refine ⟨_,rfl,H.only,?_⟩
    refine XR rO H 8 2 rfl rfl<| MxM.xK fun cm hS=>?_
    have H:=H.sees hS
    exact ⟨_,_,MxM.upd_comm _ (by decide) _ _,H.only,al,rfl,rfl,H⟩
   rintro M' _ _ cn ⟨I,rfl,rfl,H⟩
   obtain ⟨co,bv,j⟩:=zD j
   subst bv
   refine MxM.XL_exN oS rfl rfl rfl (fun A t=>pY (aX (r:=(Rp.int .i64)) (xl:=[x.1]) (cs:=[i6 x.1]) u38 el3 (by decide) (by decide) rfl (xH (vs:=[i6 x.1]) (by decide) rfl rfl ⟨rfl,trivial⟩ rfl) (H.sees t) ⟨[i6 x.1],[],rfl,rfl,rfl⟩) (aHx (cs:=[i6 x.1]) u38 el3 (by decide) (by decide) (xH (vs:=[i6 x.1]) (by decide) rfl rfl ⟨rfl,trivial⟩ rfl))) ?_
   rintro A Q cp t H
   obtain ⟨K,bw,j⟩:=zC j
   refine MxM.XL_ex oS rfl rfl rfl (fun A t=>aJ (H.sees t) (i:=7) rfl u38 el3 rfl rfl (Sr.of_own ((H.sees t).item (i:=9) rfl)) bw) ?_
   rintro A E cq t H
   refine ⟨H.only,?_⟩
   refine XP (fun _ _=>zN rfl)<| XP (fun _ _=>aDc rfl)<| MxM.XL_exU oS rfl rfl (fun A t=>xE (H.sees t) 8 rfl aKw rfl (v:=E) rfl (bC ((H.sees t).item (i:=7) rfl)) rfl) ?_
   rintro A cr t H
   refine ⟨H.only,?_⟩
   refine MxM.xK fun bx hS=>?_
   have H:=H.sees hS
   have H:=bj.back [2,4,5,6,7,8] [0,1,3] rfl H
   have H:Hd _ _ _ _ [f1 gY h s,f1 Rp.str k d.phases,f1 Rp.bool f d.possible,.tr fP [l] u d.moves,.blk p [k,i6 d.tracks,l,m,f] 146,.tr (Rt.row fG 170 [(y.toNat,[n])]) [m] C B,f1 gY h s,f1 Rp.str k d.phases,f1 Rp.bool f d.possible,.tr fG [n] I x.2,.own (Rp.int .i64) E 3 K,.blk o [h,f,E] 222,.own (Rp.int .i64) Q 3 ([x.1]:List Int)]:=H
   have H:Hd O P bx (bks [f1 gY h s,f1 Rp.str k d.phases,.tr fP [l] u d.moves,f1 Rp.bool f d.possible,.blk p [k,i6 d.tracks,l,m,f] 146,.own (Rp.int .i64) q 3 D,.blk o [h,f,q] 222,.tr (Rt.row fG 170 [(y.toNat,[n])]) [m] C B,.tr fG [n] G F]) [.tr fP [l] u d.moves,.blk p [k,i6 d.tracks,l,m,f] 146,.tr (Rt.row fG 170 [(y.toNat,[n])]) [m] C B,f1 gY h s,f1 Rp.str k d.phases,f1 Rp.bool f d.possible,.tr fG [n] I x.2,.own (Rp.int .i64) E 3 K,.blk o [h,f,E] 222,.own (Rp.int .i64) Q 3 ([x.1]:List Int)]:=H.pick [3,4,5,6,7,8,9,10,11,12]
   refine ⟨H.only,?_⟩
   refine MxM.xK fun ct hS=>?_
   have H:=H.sees hS
   have H:=bi.rejoin H
   refine yH (zF (bg _ _ ?_))
   refine zA ?_
   obtain ⟨am,bz,j⟩:=zD j
   refine zG (xM (a:=y) (b:=1) rfl rfl bz)<| zH (i6 am) ?_
   have H:Hd _ _ _ _ [.tr fP [l] u d.moves,.blk p [k,i6 d.tracks,l,m,f] 146,.tr (Rt.row fG 170 [(y.toNat,[n])]) [m] C B,f1 gY h s,f1 Rp.str k d.phases,f1 Rp.bool f d.possible,.tr fG [n] I x.2,.own (Rp.int .i64) E 3 K,.blk o [h,f,E] 222,.own (Rp.int .i64) Q 3 ([x.1]:List Int)]:=H
   obtain ⟨an,b0,j⟩:=zC j
   obtain ⟨ao,H⟩:=H.unfocus 2 6 rfl rfl (by decide) rfl rfl b0
   have H:Hd _ _ _ _ [.tr fP [l] u d.moves,.blk p [k,i6 d.tracks,l,m,f] 146,f1 gY h s,f1 Rp.str k d.phases,f1 Rp.bool f d.possible,.own (Rp.int .i64) E 3 K,.blk o [h,f,E] 222,.own (Rp.int .i64) Q 3 ([x.1]:List Int),.tr fO [m] ao an]:=H
   exact (yA (zF (meet ⟨(bb,am,an,K,ao,E),(zJ rfl zK),⟨H.pick [2,3,0,8,4,1,5,6],j⟩,Nat.lt_succ_self _⟩)))
  have j:=zQ U j
  obtain rfl:=gI j
  exact (xI (yI (yI (yV (zF (meet ⟨(ba,q),zK,H.pick [0,1,2,3,4,5,6,7]⟩))))))
 rintro ⟨b1,X⟩ ρ cu H
 have j:=a3
 obtain ⟨cv,cw⟩:=N
 refine zB fun cx b2=>zA<| zH (gV o)<| zG (zN rfl)<| zG (aDc rfl)<| Ld rO H 7 2 rfl rfl<| zI X<| RN b2 ?_
 obtain rfl:=gI j
 refine (zW (fC (v1:=X) rfl rfl ?_))
 exact ⟨X,k,l,u,m,b1,f,rfl,H.pick [6,1,2,3,4,5]⟩
theorem Fa0w (d:fF)(l:Nat)(j:Value)(f:Value)(n:List Nat)(h:Value)(o:List Nat)(k:Value)(r:(List Str))(c:Fa0 d=some r)(O S:List Nat)(w:World)(H:Hd O w w S [.tr fP [f] n d.moves,.tr fO [h] o d.rules,.blk l [j,i6 d.tracks,f,h,k] 146,f1 Rp.str j d.phases,f1 Rp.bool k d.possible]):
  Cl 27 [gV l] w fun e F=> ∃z G I,e= .returned (z)∧Hd O w F S [.own Rp.str z 9 r,.tr fP [f] G d.moves,.tr fO [h] I d.rules,.blk l [j,i6 d.tracks,f,h,k] 146]:=by
 unfold Fa0 at c
 refine CW 29 Tryz.func27 ?_
 refine zB fun a0 J=>zA<| zI (.slice none 0 0)<| RN J<| zB fun a1 K=>zA<| zI (.slice none 0 0)<| RN K ?_
 obtain ⟨A,c,L⟩:=zC c
 refine yK [3,4,5,6,7,8,9,10,11,12,13,14,15,16,17,18,19,20,21,22,23,24,25,26,27] (fun (g:Value)=>[(3,g)]) (fun g wl=>Hd O w wl S [.own Rp.str g 9 A,.tr fP [f] n d.moves,.tr fO [h] o d.rules,.blk l [j,i6 d.tracks,f,h,k] 146,f1 Rp.str j d.phases,f1 Rp.bool k d.possible]) ?_ ?_
 ·skip
  refine zB fun a2 M=>zA<| zH (gV l)<| zG (zN rfl)<| zG (aBk rfl)<| Ld aBt H 2 4 rfl rfl ?_
  obtain ⟨N,P,c⟩:=zD c
  obtain ⟨a3,a4,Q⟩:=SlF.len ((H.item (i:=4) rfl))
  refine zG (yJ (xO uC Q) (congrArg (Value.int .i64) P))<| zH (i6 0)<| RN M<| yD ?_
  have H:=bY H Rp.str 9
  unfold Fe7 at c
  obtain ⟨R,B,T,c⟩:=yT c
  refine xB [3,4,5,11,12,13,14,15,16,17,18,19,20,21,22,23,24,25,26,27] (fun (g:Nat×(List Str)×Int×Value)=>[(3,g.2.2.2),(11,i6 g.2.2.1)]) (fun g wl=>Hd O w wl S [.own Rp.str g.2.2.2 9 g.2.1,.tr fP [f] n d.moves,.tr fO [h] o d.rules,.blk l [j,i6 d.tracks,f,h,k] 146,f1 Rp.str j d.phases,f1 Rp.bool k d.possible]∧fV R g.1 (g.2.1,g.2.2.1)=some A) (fun g=>g.1) (B,[],0,.slice none 0 0) (zJ rfl (zJ rfl zK)) ⟨H.pick [5,0,1,2,3,4],c⟩ ?_
  clear H c
  rintro ⟨B,a5,m,t⟩ ρ a6 ⟨H,c⟩
  obtain ⟨U,rfl,c⟩:=yZ c
  have c:=yY T c
  refine zB fun a7 V=>zA ?_
  obtain ⟨X,Y,c⟩:=zD c
  refine zG (zL (xP (a:=m) (b:=N) rfl rfl) Y)<| RN V<| zB fun a8 Z=>zY (b:=X) rfl (fun u=>?_) (fun u=>?_)
  ·have c:=zO u c
   refine zX (zF (Z _ _ ?_))
   obtain ⟨C,c,aa⟩:=zC c
   refine yK [3,4,5,13,14,15,16,17,18,19,20,21,22,23,24,25,26] (fun (g:Value)=>[(3,g)]) (fun g wl=>Hd O w wl S [.own Rp.str g 9 C,.tr fP [f] n d.moves,.tr fO [h] o d.rules,.blk l [j,i6 d.tracks,f,h,k] 146,f1 Rp.str j d.phases,f1 Rp.bool k d.possible]) ?_ ?_
   ·skip
    refine yD ?_
    refine zB fun a9 ab=>zA<| zH (i6 m) ?_
    obtain ⟨q,v,c⟩:=zC c
    obtain ⟨ac,ad,ba,ae,af,ag,ah,ai,aj⟩:=dI (H.item (i:=5) rfl) v
    obtain rfl:ae= [.bool q]:=ag
    have H:=H.fz (.at ac (ad+m.toNat * 1) _) ⟨ah,ai,aj⟩
    refine zG (xC uC sz4 af rfl (yC v).1 (yC v).2.1 rfl rfl)<| zG (xG qY rfl (Cells.get (H.item (i:=6) rfl).2.2 (i:=0) rfl))<| zI (i6 m)<| zI (.bool q)<| RN ab<| zB fun bb ak=>zA<| zH (.bool q)<| RN ak<| zY (b:=q) rfl (fun x=>?_) (fun x=>?_)
    ·have c:=zO x c
     refine zA ?_
     refine zH t<| zH (gV l)<| zG (zN rfl)<| zG (aSp rfl)<| Ld jS H 3 0 rfl rfl<| zH (i6 m) ?_
     obtain ⟨p,y,c⟩:=zC c
     obtain ⟨al,am,bc,an,ao,ap,aq,ar,au⟩:=dI (H.item (i:=4) rfl) y
     obtain rfl:an= [sb p]:=ap
     have H:=H.fz (.at al (am+m.toNat * 1) _) ⟨aq,ar,au⟩
     refine zG (xC u22 sz9 ao rfl (yC y).1 (yC y).2.1 rfl rfl)<| zG (xG bF rfl (Cells.get (H.item (i:=7) rfl).2.2 (i:=0) rfl)) ?_
     obtain ⟨bd,av,c⟩:=zD c
     subst av
     refine yQ rfl rfl (aX (r:=Rp.str) (xl:=[p]) (cs:=[sb p]) u22 el9 (by decide) (by decide) rfl (xH (vs:=[sb p]) (by decide) rfl rfl ⟨rfl,trivial⟩ rfl) H ⟨[sb p],[],rfl,rfl,rfl⟩) ?_
     rintro be bf H
     obtain ⟨bg,aw,c⟩:=zC c
     refine yQ rfl rfl (aJ H (i:=0) rfl u22 el9 rfl rfl (Sr.of_own (H.item (i:=8) rfl)) aw) ?_
     rintro D bh H
     refine zI D ?_
     obtain rfl:=gI c
     exact (yA (yH (zF (meet ⟨D,(zJ rfl zK),H.pick [0,1,2,3,4,5]⟩))))
    have c:=zQ x c
    obtain rfl:=gI c
    exact (zX (yH (zF (meet ⟨t,(zJ rfl zK),H.pick [0,1,2,3,4,5]⟩))))
   rintro ax ρ bi H
   have c:=aa
   refine zA ?_
   obtain ⟨E,ay,c⟩:=zD c
   refine zG (xM (a:=m) (b:=1) rfl rfl ay)<| zH (i6 E) ?_
   exact (yA (zF (meet ⟨(U,C,E,ax),(zJ rfl (zJ rfl zK)),⟨H.pick [0,1,2,3,4,5],c⟩,Nat.lt_succ_self _⟩)))
  have c:=zQ u c
  obtain rfl:=gI c
  exact (xI (yI (yI (yV (zF (meet ⟨t,(zJ rfl zK),H.pick [0,1,2,3,4,5]⟩))))))
 rintro s ρ bj H
 have c:=L
 refine zB fun bk az=>zA<| zH s<| zI s<| RN az ?_
 obtain rfl:=gI c
 refine (zW (fC (v1:=s) rfl rfl ?_))
 exact ⟨s,n,o,rfl,H.pick [0,1,2,3]⟩
theorem Fckw (l:List Int)(J:List Str)(C:List (List Int))(k:Value)(K:Value)(p:Nat)(h:Value)(L:List Nat)(r:(List (List Int)))(c:Fck l J C=some r)(O S:List Nat)(w:World)(H:Hd O w w S [.tr (Rt.row (Rt.row (Rt.of (Rp.int .i64)) 3 []) 38 []) [h] L C,.blk p [h] 28,f1 (Rp.int .i64) k l,f1 Rp.str K J]):
  Cl 54 [k,K,gV p] w fun e o=> ∃M Z,e= .returned (.tuple #[])∧Hd O w o S [.tr (Rt.row (Rt.row (Rt.of (Rp.int .i64)) 3 []) 38 []) [M] Z r,.blk p [M] 28]:=by
 unfold Fck at c
 refine CW 25 Tryz.func54 ?_
 refine zB fun a5 aa=>zA<| zH k ?_
 obtain ⟨ab,ac,c⟩:=zD c
 obtain ⟨a6,a7,ad⟩:=SlF.len ((H.item (i:=2) rfl))
 refine zG (yJ (xO u38 ad) (congrArg (Value.int .i64) ac))<| zH (i6 0)<| RN aa<| yD ?_
 unfold Fet at c
 obtain ⟨ae,N,af,c⟩:=yT c
 refine xB [5,6,9,10,11,12,13,14,15,16,17,18,19,20,21,22,23,24] (fun (g:Nat×Int×(List (List Int))×(List Nat))=>[(9,i6 g.2.1)]) (fun g wl=>Hd O w wl S [.tr (Rt.row (Rt.row (Rt.of (Rp.int .i64)) 3 []) 38 []) [h] g.2.2.2 g.2.2.1,.blk p [h] 28,f1 (Rp.int .i64) k l]∧fV ae g.1 (g.2.1,g.2.2.1)=some r) (fun g=>g.1) (N,0,C,L) (zJ rfl zK) ⟨H.pick [0,1,2],c⟩ ?_
 clear H c
 rintro ⟨N,d,q,u⟩ ρ B ⟨H,c⟩
 obtain ⟨ag,rfl,c⟩:=yZ c
 have c:=yY af c
 refine zB fun a8 ah=>zA ?_
 obtain ⟨ai,aj,c⟩:=zD c
 refine zG (zL (xP (a:=d) (b:=ab) rfl rfl) aj)<| RN ah<| zB fun a9 ak=>zY (b:=ai) rfl (fun D=>?_) (fun D=>?_)
 ·have c:=zO D c
  refine zX (zF (ak _ _ ?_))
  refine zB fun ba al=>?_
  refine yD ?_
  refine zB fun bb am=>zA<| zH (i6 d) ?_
  obtain ⟨f,E,c⟩:=zC c
  obtain ⟨m,n,bc,an,ao,ap,aq,ar,au⟩:=dI (H.item (i:=2) rfl) E
  obtain rfl:an= [i6 f]:=ap
  have H:=H.fz (.at m (n+d.toNat * 1) _) ⟨aq,ar,au⟩
  refine zG (xC u38 sz3 ao rfl (yC E).1 (yC E).2.1 rfl rfl)<| zG (xG fM rfl (Cells.get (H.item (i:=3) rfl).2.2 (i:=0) rfl))<| zI (i6 d)<| zI (i6 f)<| RN am ?_
  have av:=H
  have H:=H.rebase
  have aw:=H
  have F:Hd (O++bks (rest [0] [.tr (Rt.row (Rt.row (Rt.of (Rp.int .i64)) 3 []) 38 []) [h] u q,.blk p [h] 28,f1 (Rp.int .i64) k l,.fz (.at m (n+d.toNat * 1) [i6 f])])) B B (bks (Go.Lf.pick ([0]++ [2,3]) [.tr (Rt.row (Rt.row (Rt.of (Rp.int .i64)) 3 []) 38 []) [h] u q,.blk p [h] 28,f1 (Rp.int .i64) k l,.fz (.at m (n+d.toNat * 1) [i6 f])])) [.tr (Rt.row (Rt.row (Rt.of (Rp.int .i64)) 3 []) 38 []) [h] u q,f1 (Rp.int .i64) k l,.fz (.at m (n+d.toNat * 1) [i6 f])]:=H.enter [0] [2,3]
  have P:=H.firmB F (i:=1) rfl (List.mem_append_right _ List.mem_cons_self)
  refine uH H F [0,2,3,4,5,6,7] 1 8 [9] [10] [.pure,.pure,.pure,.pure,.pure,.read,.pure,.new,.eff,.pure,.eff] ⟨trivial,trivial,trivial,trivial,trivial,trivial,trivial,trivial,trivial,trivial,trivial,trivial⟩ mixed (by kernel_rfl) (by kernel_rfl) (by kernel_rfl) (by kernel_rfl) (by kernel_rfl) (by decide) ?_
  have H:=F
  refine XP (fun o j=>xG one28 rfl (Cells.get (Blk.cells (P o j)) (i:=0) rfl))<| XP (fun o j=>xG one28 rfl (Cells.get (Blk.cells (P o j)) (i:=0) rfl))<| XM (i6 d) ?_
  obtain ⟨ax,z,c⟩:=zC c
  obtain ⟨bd,be,bf,G⟩:=jC (H.item (i:=0) rfl) z
  refine XP (fun _ _=>xC u28 aKw G rfl (yC z).1 (yC z).2.1 rfl rfl) ?_
  obtain ⟨bg,v,ay,H⟩:=H.focusV 0 rfl G z rfl
  obtain ⟨x,rfl⟩:=mX rfl (H.item (i:=3) rfl)
  have H:Hd _ _ _ _ [f1 (Rp.int .i64) k l,.fz (.at m (n+d.toNat * 1) [i6 f]),.tr (Rt.row (Rt.row (Rt.of (Rp.int .i64)) 3 []) 38 [(d.toNat,[x])]) [h] v q,.tr (Rt.row (Rt.of (Rp.int .i64)) 3 []) [x] ay ax]:=H
  refine MxM.wJ oS rfl rfl rfl (fun o j=>xG rO rfl (Cells.get ((H.sees j).holeW 2 rfl G z rfl dG) (i:=0) rfl)) ?_
  refine XM (i6 f) ?_
  obtain ⟨bh,az,c⟩:=zD c
  subst az
  refine MxM.XL_exN oS rfl rfl rfl (fun o j=>pY (aX (r:=(Rp.int .i64)) (xl:=[f]) (cs:=[i6 f]) u38 el3 (by decide) (by decide) rfl (xH (vs:=[i6 f]) (by decide) rfl rfl ⟨rfl,trivial⟩ rfl) (H.sees j) ⟨[i6 f],[],rfl,rfl,rfl⟩) (aHx (cs:=[i6 f]) u38 el3 (by decide) (by decide) (xH (vs:=[i6 f]) (by decide) rfl rfl ⟨rfl,trivial⟩ rfl))) ?_
  rintro o y bi j H
  refine MxM.xK fun bj hS=>?_
  have H:=H.sees hS
  obtain ⟨A,Q,c⟩:=zC c
  refine MxM.XL_join (du:=15) (dv:=22) (fun g1 g2 wl=> ∃(s:Value) (t:List Nat),i6 d=g1∧s=g2∧Hd (O++bks (rest [0] [.tr (Rt.row (Rt.row (Rt.of (Rp.int .i64)) 3 []) 38 []) [h] u q,.blk p [h] 28,f1 (Rp.int .i64) k l,.fz (.at m (n+d.toNat * 1) [i6 f])])) B wl (bks (Go.Lf.pick ([0]++ [2,3]) [.tr (Rt.row (Rt.row (Rt.of (Rp.int .i64)) 3 []) 38 []) [h] u q,.blk p [h] 28,f1 (Rp.int .i64) k l,.fz (.at m (n+d.toNat * 1) [i6 f])])) [f1 (Rp.int .i64) k l,.fz (.at m (n+d.toNat * 1) [i6 f]),.tr (Rt.row (Rt.row (Rt.of (Rp.int .i64)) 3 []) 38 [(d.toNat,[x])]) [h] v q,.own (Rp.int .i64) y 3 ([f]:List Int),.tr (Rt.row (Rt.of (Rp.int .i64)) 3 []) [s] t A]) ?_ ?_ ?_
  ·skip
   refine XM (i6 d)<| MxM.XL_ex oS rfl rfl rfl (fun o j=>aDh (H.sees j) 3 rfl u38 el3 rfl rfl (Sr.of_own ((H.sees j).item (i:=4) rfl)) Q) ?_
   rintro o s bk j ⟨t,H⟩
   refine ⟨H.only,?_⟩
   have H:Hd _ _ _ _ [f1 (Rp.int .i64) k l,.fz (.at m (n+d.toNat * 1) [i6 f]),.tr (Rt.row (Rt.row (Rt.of (Rp.int .i64)) 3 []) 38 [(d.toNat,[x])]) [h] v q,.own (Rp.int .i64) y 3 ([f]:List Int),.tr (Rt.row (Rt.of (Rp.int .i64)) 3 []) [s] t A]:=H
   refine MxM.xK fun bl hS=>?_
   have H:=H.sees hS
   exact ⟨_,_,rfl,H.only,s,t,rfl,rfl,H⟩
  ·skip
   refine MxM.XL_ex oS rfl rfl rfl (fun o j=>aDh (H.sees j) 3 rfl u38 el3 rfl rfl (Sr.of_own ((H.sees j).item (i:=4) rfl)) Q) ?_
   rintro o R bm j ⟨T,H⟩
   refine ⟨H.only,?_⟩
   have H:Hd _ _ _ _ [f1 (Rp.int .i64) k l,.fz (.at m (n+d.toNat * 1) [i6 f]),.tr (Rt.row (Rt.row (Rt.of (Rp.int .i64)) 3 []) 38 [(d.toNat,[x])]) [h] v q,.own (Rp.int .i64) y 3 ([f]:List Int),.tr (Rt.row (Rt.of (Rp.int .i64)) 3 []) [R] T A]:=H
   refine XM (i6 d)<| MxM.xK fun bn hS=>?_
   have H:=H.sees hS
   exact ⟨_,_,MxM.upd_comm _ (by decide) _ _,H.only,R,T,rfl,rfl,H⟩
  rintro M' _ _ bo ⟨s,t,rfl,rfl,H⟩
  obtain ⟨bp,I,c⟩:=zC c
  obtain ⟨bq,br,bt,U⟩:=jC (H.item (i:=2) rfl) I
  refine XP (fun _ _=>xC u28 aKw U rfl (yC I).1 (yC I).2.1 rfl rfl)<| MxM.xK fun a2 hS=>?_
  have H:=H.sees hS
  have H:=aw.back [0] [2,3] rfl H
  have H:Hd _ _ _ _ [.blk p [h] 28,f1 (Rp.int .i64) k l,.fz (.at m (n+d.toNat * 1) [i6 f]),f1 (Rp.int .i64) k l,.fz (.at m (n+d.toNat * 1) [i6 f]),.tr (Rt.row (Rt.row (Rt.of (Rp.int .i64)) 3 []) 38 [(d.toNat,[x])]) [h] v q,.own (Rp.int .i64) y 3 ([f]:List Int),.tr (Rt.row (Rt.of (Rp.int .i64)) 3 []) [s] t A]:=H
  have H:Hd O B a2 (bks [.tr (Rt.row (Rt.row (Rt.of (Rp.int .i64)) 3 []) 38 []) [h] u q,.blk p [h] 28,f1 (Rp.int .i64) k l,.fz (.at m (n+d.toNat * 1) [i6 f])]) [.blk p [h] 28,f1 (Rp.int .i64) k l,.fz (.at m (n+d.toNat * 1) [i6 f]),.tr (Rt.row (Rt.row (Rt.of (Rp.int .i64)) 3 []) 38 [(d.toNat,[x])]) [h] v q,.own (Rp.int .i64) y 3 ([f]:List Int),.tr (Rt.row (Rt.of (Rp.int .i64)) 3 []) [s] t A]:=H.pick [0,3,4,5,6,7]
  refine ⟨H.only,?_⟩
  refine MxM.XL_exU oS rfl rfl (fun o j=>aEb (vs:=[s]) (off:=0) (H.sees j) 3 rfl U z rfl rfl aKw rfl rfl (aGz (nI ((H.sees j).item (i:=5) rfl))) (kS ⟨(nI ((H.sees j).item (i:=5) rfl)),trivial⟩) (by show _≤1; decide)) ?_
  rintro o bu j H
  refine ⟨H.only,?_⟩
  refine MxM.xK fun bv hS=>?_
  have H:=H.sees hS
  have H:=av.rejoin H
  refine yH (zF (al _ _ ?_))
  refine zA ?_
  obtain ⟨V,a3,c⟩:=zD c
  refine zG (xM (a:=d) (b:=1) rfl rfl a3)<| zH (i6 V) ?_
  have H:Hd _ _ _ _ [.blk p [h] 28,f1 (Rp.int .i64) k l,.fz (.at m (n+d.toNat * 1) [i6 f]),.tr (Rt.row (Rt.row (Rt.of (Rp.int .i64)) 3 []) 38 [(d.toNat,[s])]) [h] v q,.own (Rp.int .i64) y 3 ([f]:List Int),.tr (Rt.row (Rt.of (Rp.int .i64)) 3 []) [s] t A]:=H
  obtain ⟨X,a4,c⟩:=zC c
  obtain ⟨Y,H⟩:=H.unfocus 3 5 rfl rfl (by decide) rfl rfl a4
  have H:Hd _ _ _ _ [.blk p [h] 28,f1 (Rp.int .i64) k l,.fz (.at m (n+d.toNat * 1) [i6 f]),.own (Rp.int .i64) y 3 ([f]:List Int),.tr (Rt.row (Rt.row (Rt.of (Rp.int .i64)) 3 []) 38 []) [h] Y X]:=H
  exact (yA (zF (meet ⟨(ag,V,X,Y),(zJ rfl zK),⟨H.pick [4,0,1],c⟩,Nat.lt_succ_self _⟩)))
 have c:=zQ D c
 obtain rfl:=gI c
 refine (xI (yI (yI (yV (nJ rfl ?_)))))
 exact ⟨h,u,rfl,H.pick [0,1]⟩
set_option maxRecDepth 100000 in
theorem Fcpw (j:Rules)(k:List fH)(m:Int)(p:Int)(p4c0:List (List Int))(v1:Value)(n:Value)(o:Value)(f:Value)(h:Nat)(l:Value)(t:List Nat)(r:Int×(List (List Int)))(c:Fcp j k m p p4c0=some r)(O S:List Nat)(w:World)(H:Hd O w w S [.tr (Rt.row (Rt.row (Rt.of (Rp.int .i64)) 3 []) 38 []) [l] t p4c0,.blk h [l] 28,f1 Rp.str v1 j.Phases,f1 gX n j.Moves,f1 fB o j.Rules,f1 eF f k]):
  Cl 53 [.agg [v1,n,o].toArray,f,i6 m,i6 p,.func (.func 54) #[] #[gV h]] w fun e w'=> ∃ag aw,e= .returned (i6 r.1)∧Hd O w w' S [.tr (Rt.row (Rt.row (Rt.of (Rp.int .i64)) 3 []) 38 []) [ag] aw r.2,.blk h [ag] 28]:=by
 unfold Fcp at c
 refine CW 54 Tryz.func53 ?_
 refine zB fun ct ax=>zA<| yQ rfl rfl (xR (cs:=[v1,n,o]) rfl H) ?_
 rintro _ cu ⟨ah,rfl,H⟩
 refine zI (i6 0)<| RN ax<| zB fun cv ay=>zB fun cw az=>zA<| zG (yJ (yF (cs:=[v1,n,o]) qM rfl uV rfl (Hbc H 6 rfl)) rfl)<| zH f ?_
 have a0:=H
 obtain ⟨A,a1,c⟩:=zC c
 refine zZ rfl rfl (zS en73 rfl) (Fb3w j k v1 n o f _ a1 _ _ _ (H.enter [] [2,3,4,5])) ?_
 rintro _ cx ⟨rfl,a2⟩
 have H:=a0.step (a2.only:Only [] _ _)
 refine ⟨_,rfl,?_⟩
 refine zI (i6 A)<| RN az<| zB fun cy a3=>zA<| zH (i6 A) ?_
 obtain ⟨a4,a5,c⟩:=zD c
 refine zG (zL (dC (a:=A) (b:=0) rfl rfl) a5)<| RN a3<| zY (b:=a4) rfl (fun N=>?_) (fun N=>?_)
 ·have c:=zO N c
  refine zB fun cz a6=>zA<| zH (i6 A)<| zI (i6 A)<| RN a6 ?_
  obtain rfl:=gI c
  refine (zW (zV (fC (v1:=i6 A) rfl rfl ?_)))
  exact ⟨l,t,rfl,H.pick [0,1]⟩
 have c:=zQ N c
 refine zX (zF (ay _ _ ?_))
 refine zB fun c0 a7=>?_
 obtain ⟨ai,c,a8⟩:=zC c
 refine yK [20,21,22,23,24,25,26,27,28,29,30] (fun (g:Unit)=>[(30,.bool ai)]) (fun g wl=>Hd O w wl S [.tr (Rt.row (Rt.row (Rt.of (Rp.int .i64)) 3 []) 38 []) [l] t p4c0,.blk h [l] 28,f1 Rp.str v1 j.Phases,f1 gX n j.Moves,f1 fB o j.Rules,f1 eF f k,.blk ah [v1,n,o] 26]) ?_ ?_
 ·skip
  refine zA ?_
  refine zH (i6 m) ?_
  obtain ⟨a9,ba,c⟩:=zD c
  refine zG (zL (xP (a:=m) (b:=0) rfl rfl) ba) ?_
  obtain ⟨aj,c,bb⟩:=zC c
  refine bJ 5 [22,23,24,25,26] [(26,.bool aj)] (fun wl=>Hd O w wl S [.tr (Rt.row (Rt.row (Rt.of (Rp.int .i64)) 3 []) 38 []) [l] t p4c0,.blk h [l] 28,f1 Rp.str v1 j.Phases,f1 gX n j.Moves,f1 fB o j.Rules,f1 eF f k,.blk ah [v1,n,o] 26]) ?_ ?_
  ·skip
   refine yS (b:=a9) rfl rfl rfl (fun P=>?_) (fun P=>?_)
   ·have c:=zO P c
    refine yG ?_
    refine yG ?_
    refine yG ?_
    refine zG (yO (v:= .bool true) rfl rfl) ?_
    obtain rfl:=gI c
    exact yA (zF (meet ⟨(zJ rfl zK),H.pick [0,1,2,3,4,5,6]⟩))
   have c:=zQ P c
   refine zH (i6 m)<| zH (i6 p) ?_
   obtain ⟨bc,bd,c⟩:=zD c
   refine zG (zL (aI (a:=m) (b:=p) rfl rfl) bd)<| zG (yM (v:= .bool bc) rfl rfl) ?_
   obtain rfl:=gI c
   exact yA (zF (meet ⟨(zJ rfl zK),H.pick [0,1,2,3,4,5,6]⟩))
  rintro ρ c1 H
  have c:=bb
  refine yS (b:=aj) rfl rfl rfl (fun Q=>?_) (fun Q=>?_)
  ·have c:=zO Q c
   refine yG ?_
   refine yG ?_
   refine zG (yO (v:= .bool true) rfl rfl) ?_
   obtain rfl:=gI c
   exact (yA (zF (meet ⟨(),(zJ rfl zK),H.pick [0,1,2,3,4,5,6]⟩)))
  have c:=zQ Q c
  refine zH (i6 p) ?_
  obtain ⟨be,bf,c⟩:=zD c
  refine zG (zL (kZ (a:=p) (b:=4194304) rfl rfl) bf)<| zG (yM (v:= .bool be) rfl rfl) ?_
  obtain rfl:=gI c
  exact (yA (zF (meet ⟨(),(zJ rfl zK),H.pick [0,1,2,3,4,5,6]⟩)))
 rintro _ ρ c2 H
 have c:=a8
 refine zY (b:=ai) rfl (fun R=>?_) (fun R=>?_)
 ·have c:=zO R c
  refine zB fun c3 bg=>zA<| zI (i6 9)<| RN bg ?_
  obtain rfl:=gI c
  refine (zW (zV (fC (v1:=i6 9) rfl rfl ?_)))
  exact ⟨l,t,rfl,H.pick [0,1]⟩
 have c:=zQ R c
 refine zX (zF (a7 _ _ ?_))
 refine zB fun c4 bh=>?_
 refine zB fun c5 bi=>zA<| zH (i6 p)<| zH (i6 m) ?_
 obtain ⟨bj,bk,c⟩:=zD c
 refine zG (jO (a:=p) (b:=m) rfl rfl bk) ?_
 obtain ⟨bl,bm,c⟩:=zD c
 refine zG (xM (a:=bj) (b:=1) rfl rfl bm) ?_
 obtain ⟨bn,bo,c⟩:=zD c
 refine zG (zL (aI (a:=bl) (b:=20000) rfl rfl) bo)<| RN bi<| zY (b:=bn) rfl (fun T=>?_) (fun T=>?_)
 ·have c:=zO T c
  refine zB fun c6 bp=>zA<| zI (i6 3)<| RN bp ?_
  obtain rfl:=gI c
  refine (zW (zV (fC (v1:=i6 3) rfl rfl ?_)))
  exact ⟨l,t,rfl,H.pick [0,1]⟩
 have c:=zQ T c
 refine zX (zF (bh _ _ ?_))
 refine zB fun c7 bq=>zA<| zG (yJ (yF (cs:=[v1,n,o]) qM rfl uV rfl (Hbc H 6 rfl)) rfl)<| zH f ?_
 obtain ⟨q,br,c⟩:=zC c
 refine zZ rfl rfl (zS en74 rfl) (Fbbw j k v1 n o f _ br _ _ _ (H.enter [] [2,3,4,5])) ?_
 rintro _ bt ⟨s,U,V,ak,X,al,Y,rfl,bu⟩
 have H:=H.back1 [2,3,4,5] rfl bu
 refine ⟨_,rfl,?_⟩
 refine zI (gV s)<| RN bq ?_
 have H:Hd O w bt S [.tr (Rt.row (Rt.row (Rt.of (Rp.int .i64)) 3 []) 38 []) [l] t p4c0,.blk h [l] 28,f1 eF f k,f1 Rp.str U q.phases,.tr fP [V] ak q.moves,.tr fO [X] al q.rules,f1 Rp.bool Y q.possible,.blk s [U,i6 q.tracks,V,X,Y] 146]:=H.pick [0,1,5,7,8,9,10,11]
 obtain ⟨am,c,bv⟩:=zC c
 refine yK [13,39,40,41,42,43,44,45,46,47,48,49,50,51,52,53] (fun (g:Value×(List Nat))=>[]) (fun g wl=>Hd O w wl S [.blk h [g.1] 28,.tr (Rt.row (Rt.row (Rt.of (Rp.int .i64)) 3 []) 38 []) [g.1] g.2 am]) ?_ ?_
 ·skip
  refine zB fun c8 bw=>zA<| zH (i6 m)<| zI (i6 m)<| RN bw<| yD ?_
  unfold Fcs at c
  obtain ⟨bx,an,bz,c⟩:=yT c
  refine xB [13,40,41,42,43,44,45,46,47,48,49,50,51,52,53] (fun (g:Nat×Int×(List (List Int))×(List Str)×Int×(List fK)×(List Nd)×(List Bool)×Value×(List Nat)×Value×Value×(List Nat)×Value×(List Nat)×Value)=>[(13,i6 g.2.1)]) (fun g wl=>Hd O w wl S [.blk h [g.2.2.2.2.2.2.2.2.1] 28,.tr (Rt.row (Rt.row (Rt.of (Rp.int .i64)) 3 []) 38 []) [g.2.2.2.2.2.2.2.2.1] g.2.2.2.2.2.2.2.2.2.1 g.2.2.1,f1 eF f k,.blk s [g.2.2.2.2.2.2.2.2.2.2.1,i6 g.2.2.2.2.1,g.2.2.2.2.2.2.2.2.2.2.2.1,g.2.2.2.2.2.2.2.2.2.2.2.2.2.1,g.2.2.2.2.2.2.2.2.2.2.2.2.2.2.2] 146,f1 Rp.str g.2.2.2.2.2.2.2.2.2.2.1 g.2.2.2.1,.tr fP [g.2.2.2.2.2.2.2.2.2.2.2.1] g.2.2.2.2.2.2.2.2.2.2.2.2.1 g.2.2.2.2.2.1,.tr fO [g.2.2.2.2.2.2.2.2.2.2.2.2.2.1] g.2.2.2.2.2.2.2.2.2.2.2.2.2.2.1 g.2.2.2.2.2.2.1,f1 Rp.bool g.2.2.2.2.2.2.2.2.2.2.2.2.2.2.2 g.2.2.2.2.2.2.2.1]∧fV bx g.1 (g.2.1,g.2.2.1,g.2.2.2.1,g.2.2.2.2.1,g.2.2.2.2.2.1,g.2.2.2.2.2.2.1,g.2.2.2.2.2.2.2.1)=some am) (fun g=>g.1) (an,m,p4c0,q.phases,q.tracks,q.moves,q.rules,q.possible,l,t,U,V,ak,X,al,Y) (zJ rfl zK) ⟨H.pick [1,0,2,7,3,4,5,6],c⟩ ?_
  clear H c
  rintro ⟨an,B,Z,D,b0,b1,b2,E,C,F,G,b3,b4,b5,b6,I⟩ ρ c9 ⟨H,c⟩
  obtain ⟨b7,rfl,c⟩:=yZ c
  have c:=yY bz c
  refine zB fun da b8=>?_
  refine zB fun db b9=>zA<| zH (i6 B)<| zH (i6 p) ?_
  obtain ⟨ca,cb,c⟩:=zD c
  refine zG (zL (sU (a:=B) (b:=p) rfl rfl) cb)<| RN b9<| zY (b:=ca) rfl (fun aa=>?_) (fun aa=>?_)
  ·have c:=zO aa c
   refine zX (zF (b8 _ _ ?_))
   refine zB fun dc cc=>?_
   refine yD ?_
   refine zA ?_
   refine zH (.func (.func 54) #[] #[gV h])<| zH (gV s)<| zH f<| zH (i6 B) ?_
   obtain ⟨J,cd,c⟩:=zC c
   refine zZ rfl rfl (zS en77 rfl) (Fblw k B f _ cd _ _ _ (H.enter [] [2])) ?_
   rintro _ dd ⟨K,rfl,ce⟩
   have H:=H.back1 [2] rfl ce
   refine ⟨_,rfl,?_⟩
   have H:=H.freeze (i:=8) rfl
   obtain ⟨⟨L,d⟩,cf,c⟩:=zC c
   refine zZ rfl rfl (zS en78 rfl) (Fa7w (fF.mk D b0 b1 b2 E) J s G b3 b4 b5 b6 I K _ cf _ _ _ (H.enter [5,6,3] [4,7,8])) ?_
   rintro _ cg ⟨M,u,x,ao,y,ap,z,rfl,ch⟩
   have H:Hd _ _ cg _ [.blk h [C] 28,.tr (Rt.row (Rt.row (Rt.of (Rp.int .i64)) 3 []) 38 []) [C] F Z,f1 eF f k,f1 Rp.str G D,f1 Rp.bool I E,f1 gY K J,.own (Rp.int .i64) M 3 L,f1 Rp.str u d.phases,.tr fP [x] ao d.moves,.tr fO [y] ap d.rules,f1 Rp.bool z d.possible,.blk s [u,i6 d.tracks,x,y,z] 146]:=H.back [5,6,3] [4,7,8] rfl ch
   refine ⟨_,rfl,?_⟩
   refine zH (gV s) ?_
   obtain ⟨ab,ci,c⟩:=zC c
   refine zZ rfl rfl (zS en27 rfl) (Fa0w (fF.mk d.phases d.tracks d.moves d.rules d.possible) s u x ao y ap z _ ci _ _ _ (H.enter [8,9,11] [7,10])) ?_
   rintro _ cj ⟨ac,ad,ae,rfl,ck⟩
   have H:Hd _ _ cj _ [.blk h [C] 28,.tr (Rt.row (Rt.row (Rt.of (Rp.int .i64)) 3 []) 38 []) [C] F Z,f1 eF f k,f1 Rp.str G D,f1 Rp.bool I E,f1 gY K J,.own (Rp.int .i64) M 3 L,f1 Rp.str u d.phases,f1 Rp.bool z d.possible,.own Rp.str ac 9 ab,.tr fP [x] ad d.moves,.tr fO [y] ae d.rules,.blk s [u,i6 d.tracks,x,y,z] 146]:=H.back [8,9,11] [7,10] rfl ck
   refine ⟨_,rfl,?_⟩
   have H:=H.freeze (i:=6) rfl
   have H:=H.freeze (i:=9) rfl
   obtain ⟨aq,cl,c⟩:=zC c
   refine zZ rfl rfl (bQ en54 rfl rfl) (Fckw L ab Z M ac h C F _ cl _ _ _ (H.enter [1,0] [6,9])) ?_
   rintro _ cm ⟨af,ar,rfl,cn⟩
   have H:Hd _ _ cm _ [f1 eF f k,f1 Rp.str G D,f1 Rp.bool I E,f1 gY K J,f1 (Rp.int .i64) M L,f1 Rp.str u d.phases,f1 Rp.bool z d.possible,f1 Rp.str ac ab,.tr fP [x] ad d.moves,.tr fO [y] ae d.rules,.blk s [u,i6 d.tracks,x,y,z] 146,.tr (Rt.row (Rt.row (Rt.of (Rp.int .i64)) 3 []) 38 []) [af] ar aq,.blk h [af] 28]:=H.back [1,0] [6,9] rfl cn
   refine ⟨_,rfl,?_⟩
   refine (yA (yH (zF (cc _ _ ?_))))
   refine zA ?_
   refine zH (i6 B) ?_
   obtain ⟨au,co,c⟩:=zD c
   refine zG (xM (a:=B) (b:=1) rfl rfl co)<| zI (i6 au) ?_
   exact (yA (zF (meet ⟨(b7,au,aq,d.phases,d.tracks,d.moves,d.rules,d.possible,af,ar,u,x,ad,y,ae,z),(zJ rfl zK),⟨H.pick [12,11,0,10,5,8,9,6],c⟩,Nat.lt_succ_self _⟩)))
  have c:=zQ aa c
  obtain rfl:=gI c
  exact (xI (yI (yI (yV (zF (meet ⟨(C,F),zK,H.pick [0,1]⟩))))))
 rintro ⟨cp,cq⟩ ρ de H
 have c:=bv
 refine zB fun df cr=>zA<| zI (i6 0)<| RN cr ?_
 obtain rfl:=gI c
 refine (zW (fC (v1:=i6 0) rfl rfl ?_))
 exact ⟨cp,cq,rfl,H.pick [1,0]⟩
theorem Fa2w (d:Rules)(l:List fH)(m:Int)(n:Int)(v1:Value)(v2:Value)(f:Value)(j:Value)(r:(List (List Int))×Int)(c:Fa2 d l m n=some r)(O S:List Nat)(w:World)(H:Hd O w w S [f1 Rp.str v1 d.Phases,f1 gX v2 d.Moves,f1 fB f d.Rules,f1 eF j l]):
  Cl 15 [.agg [v1,v2,f].toArray,j,i6 m,i6 n] w fun e s=> ∃u9,e= .returned (.tuple #[u9,i6 r.2])∧Hd O w s S [.fz (.sl (Rp.sl (Rp.int .i64)) u9 r.1)]:=by
 unfold Fa2 at c
 refine CW 26 Tryz.func15 ?_
 refine zB fun T t=>zA<| yQ rfl rfl (xR (cs:=[v1,v2,f]) rfl H) ?_
 rintro _ U ⟨u,rfl,H⟩
 refine zI (.slice none 0 0)<| zI (i6 0)<| RN t<| zB fun V x=>zA<| zG (kY rfl)<| Ld rJ H 4 2 rfl rfl ?_
 obtain ⟨X,y,c⟩:=zD c
 obtain ⟨Y,Z,z⟩:=SlF.len ((H.item (i:=2) rfl))
 refine zG (yJ (xO u24 z) (congrArg (Value.int .i64) y)) ?_
 obtain ⟨A,B,c⟩:=zC c
 refine yQ rfl rfl (Lx_makeT (R:=(Rt.row (Rt.of (Rp.int .i64)) 3 [])) u28 el38 rfl (fun _ _=>row_zero) rfl rfl B H) ?_
 rintro p aa ⟨C,H⟩
 refine yQ rfl rfl (xA zero28 H) ?_
 rintro _ ab ⟨q,rfl,H⟩
 refine yP rfl (xE H 6 rfl sz28 rfl (v:=p) rfl (nI (H.item (i:=5) rfl)) rfl) ?_
 rintro ac H
 refine RN x<| zB fun ad D=>zA<| zG (yJ (yF (cs:=[v1,v2,f]) qM rfl uV rfl (Hbc H 4 rfl)) rfl)<| zH j<| zH (i6 m)<| zH (i6 n)<| zG (dV rfl) ?_
 obtain ⟨⟨h,E⟩,F,c⟩:=zC c
 refine zZ rfl rfl (zS en53 rfl) (Fcpw d l m n A v1 v2 f j q p C _ F _ _ _ (H.enter [5,6] [0,1,2,3])) ?_
 rintro _ G ⟨k,I,rfl,J⟩
 have H:Hd _ _ G _ [f1 Rp.str v1 d.Phases,f1 gX v2 d.Moves,f1 fB f d.Rules,f1 eF j l,.blk u [v1,v2,f] 26,.tr (Rt.row (Rt.row (Rt.of (Rp.int .i64)) 3 []) 38 []) [k] I E,.blk q [k] 28]:=H.back [5,6] [0,1,2,3] rfl J
 refine ⟨_,rfl,?_⟩
 refine zI (i6 h)<| RN D<| zB fun ae K=>zB fun af L=>zA<| zH (i6 h) ?_
 obtain ⟨M,N,c⟩:=zD c
 refine zG (zL (dC (a:=h) (b:=0) rfl rfl) N)<| RN L<| zY (b:=M) rfl (fun o=>?_) (fun o=>?_)
 ·have c:=zO o c
  refine zB fun ag P=>zA<| zH (i6 h)<| zI (.slice none 0 0)<| zI (i6 h)<| RN P ?_
  have H:=H.fz (.sl (Rp.sl (Rp.int .i64)) (.slice none 0 0) []) SlF.nil
  obtain rfl:=gI c
  refine (zW (zV (tH (v1:= .slice none 0 0) (v2:=i6 h) rfl rfl rfl ?_)))
  exact ⟨.slice none 0 0,rfl,H.pick [7]⟩
 have c:=zQ o c
 refine zX (zF (K _ _ ?_))
 refine zB fun ah Q=>zA<| Ld one28 H 6 0 rfl rfl<| zI k<| zI (i6 0)<| RN Q ?_
 have H:=H.freezeT (fr_row fr_of) 5 rfl
 obtain rfl:=gI c
 refine (zW (tH (v1:=k) (v2:=i6 0) rfl rfl rfl ?_))
 exact ⟨k,rfl,H.pick [5]⟩
theorem Ffhw (d:gB)(f:Nat)(h:Value)(i:Value)(j:Value)(r:gB)(c:Ffh d=some r)(O S:List Nat)(w:World)(H:Hd O w w S [.own Rp.str h 9 d.r.Phases,.own gX i 122 d.r.Moves,.own fB j 95 d.r.Rules,.blk f [sb d.text,i6 d.at_,i6 d.now.kind,i6 d.now.at_,i6 d.now.n,sb d.now.text,h,i,j] 109]):
  Cl 174 [gV f] w fun e A=> ∃u9 s t,e= .returned (.tuple #[])∧Hd O w A S [.own Rp.str u9 9 r.r.Phases,.own gX s 122 r.r.Moves,.own fB t 95 r.r.Rules,.blk f [sb r.text,i6 r.at_,i6 r.now.kind,i6 r.now.at_,i6 r.now.n,sb r.now.text,u9,s,t] 109]:=by
 unfold Ffh at c
 refine CW 66 Tryz.func174 ?_
 refine yD ?_
 unfold Ff1 at c
 obtain ⟨B,u,C,c⟩:=yT c
 refine xB [2,3,4,5,6,7,8,9,10,11,12,13,14,15,16,17,18,19,20,21,22,23,24,25,26,27,28,29,30,31,32,33,34,35,36,37,38,39,40,41,42,43,44,45,46,47,48,49,50,51,52,53,54,55,56,57,58,59,60,61,62,63,64,65] (fun (g:Nat×Int)=>[]) (fun g wl=>Hd O w wl S [.own Rp.str h 9 d.r.Phases,.own gX i 122 d.r.Moves,.own fB j 95 d.r.Rules,.blk f [sb d.text,i6 g.2,i6 d.now.kind,i6 d.now.at_,i6 d.now.n,sb d.now.text,h,i,j] 109]∧fV B g.1 g.2=some r) (fun g=>g.1) (u,d.at_) zK ⟨H.pick [0,1,2,3],c⟩ ?_
 clear H c
 rintro ⟨u,l⟩ ρ ak ⟨H,c⟩
 obtain ⟨D,rfl,c⟩:=yZ c
 have c:=yY C c
 refine zB fun al E=>?_
 refine zB fun am F=>?_
 have G:=H
 have H:=H.rebase
 have an:=H
 refine xU H [0,1,2,3,4,5,6,7,8,9] (kz [0,0,0,1,0,0,0,1,0,0]) mixed ?_
 refine XM (gV f)<| XP (fun _ _=>zN rfl)<| XP (fun _ _=>kR rfl)<| XR fM H 3 1 rfl rfl<| XM (gV f)<| XP (fun _ _=>zN rfl)<| XP (fun _ _=>sV rfl)<| XR bF H 3 0 rfl rfl ?_
 obtain ⟨I,J,c⟩:=zD c
 refine XP (fun _ _=>yJ (kP (s1:=d.text) u9 rfl) (congrArg (Value.int .i64) J)) ?_
 obtain ⟨K,L,c⟩:=zD c
 refine XP (fun _ _=>zL (xP (a:=l) (b:=I) rfl rfl) L)<| MxM.xK fun ao hS=>?_
 have H:=H.sees hS
 have H:=G.rejoin H
 refine (zF (F _ _ ?_))
 refine zY (b:=K) rfl (fun m=>?_) (fun m=>?_)
 ·have c:=zO m c
  refine zX (zF (E _ _ ?_))
  refine yD ?_
  refine zB fun ap M=>?_
  have N:=H
  have H:=H.rebase
  have aq:=H
  refine xU H [0,1,2,3,4,5,6,7,8] (kz [0,0,0,1,0,0,0,1,0]) mixed ?_
  refine XM (gV f)<| XP (fun _ _=>zN rfl)<| XP (fun _ _=>sV rfl)<| XR bF H 3 0 rfl rfl<| XM (gV f)<| XP (fun _ _=>zN rfl)<| XP (fun _ _=>kR rfl)<| XR fM H 3 1 rfl rfl ?_
  obtain ⟨k,P,c⟩:=zC c
  refine XP (fun _ _=>aAn (s1:=d.text) (q:=l) u9 rfl rfl P)<| MxM.xK fun ar hS=>?_
  have H:=H.sees hS
  have H:=N.rejoin H
  refine (zF (M _ _ ?_))
  refine yD ?_
  obtain ⟨x,c,Q⟩:=zC c
  refine yK [22,23,24,25,26] (fun (g:Unit)=>[(22,.bool x)]) (fun g wl=>Hd O w wl S [.own Rp.str h 9 d.r.Phases,.own gX i 122 d.r.Moves,.own fB j 95 d.r.Rules,.blk f [sb d.text,i6 l,i6 d.now.kind,i6 d.now.at_,i6 d.now.n,sb d.now.text,h,i,j] 109]) ?_ ?_
  ·skip
   refine zB fun au R=>zA ?_
   obtain ⟨y,T,c⟩:=zD c
   refine zG (zL (yR (a:=k) (b:=32) rfl rfl) T)<| zI (.bool y)<| RN R<| zY (b:=y) rfl (fun o=>?_) (fun o=>?_)
   ·have c:=zO o c
    obtain rfl:=gI c
    exact (zX (zF (meet ⟨(),(zJ rfl zK),H.pick [0,1,2,3]⟩)))
   have c:=zQ o c
   refine zB fun av U=>zA ?_
   obtain ⟨V,X,c⟩:=zD c
   refine zG (zL (yR (a:=k) (b:=9) rfl rfl) X)<| zI (.bool V)<| RN U ?_
   obtain ⟨Y,c⟩:=xX c
   refine dB Y ?_
   refine zB fun aw Z=>zA ?_
   obtain ⟨aa,ab,c⟩:=zD c
   refine zG (zL (yR (a:=k) (b:=10) rfl rfl) ab)<| zI (.bool aa)<| RN Z ?_
   obtain ⟨ac,c⟩:=xX c
   refine dB ac ?_
   refine zA ?_
   obtain ⟨ad,ae,c⟩:=zD c
   refine zG (zL (yR (a:=k) (b:=13) rfl rfl) ae)<| zI (.bool ad) ?_
   obtain rfl:=gI c
   exact (yA (zF (meet ⟨(),(zJ rfl zK),H.pick [0,1,2,3]⟩)))
  rintro _ ρ ax H
  have c:=Q
  refine zY (b:=x) rfl (fun p=>?_) (fun p=>?_)
  ·have c:=zO p c
   refine zA ?_
   refine zH (gV f)<| zG (zN rfl)<| zG (kR rfl)<| Ld fM H 3 1 rfl rfl ?_
   obtain ⟨z,af,c⟩:=zD c
   refine zG (xM (a:=l) (b:=1) rfl rfl af)<| zG (zN rfl)<| zG (kR rfl)<| yP rfl (xE H 3 rfl sz3 rfl (v:=i6 z) rfl rfl rfl) ?_
   rintro ay H
   exact (yA (yH (yH (zF (meet ⟨(D,z),zK,⟨H.pick [0,1,2,3],c⟩,Nat.lt_succ_self _⟩)))))
  have c:=zQ p c
  refine zB fun az ag=>zA ?_
  obtain ⟨ah,ai,c⟩:=zD c
  refine zG (zL (yR (a:=k) (b:=35) rfl rfl) ai)<| zI (.bool ah)<| RN ag ?_
  obtain ⟨aj,c⟩:=xX c
  refine dB aj ?_
  obtain rfl:=gI c
  refine (zW (yE (yE (zV (yE (aSz rfl ?_))))))
  exact ⟨h,i,j,rfl,H.pick [0,1,2,3]⟩
 have c:=zQ m c
 obtain rfl:=gI c
 refine (xI (yI (yI (yV (nJ rfl ?_)))))
 exact ⟨h,i,j,rfl,H.pick [0,1,2,3]⟩
theorem Fd3w (f:Str)(d:Str)(r:Bool)(c:Fd3 f d=some r)(O S:List Nat)(w:World)(H:Hd O w w S []):
  Cl 215 [sb f,sb d] w fun e k=>e= .returned (.bool r)∧Hd O w k S []:=by
 unfold Fd3 at c
 refine CW 18 Tryz.func215 ?_
 refine zB fun A l=>zA<| zI (.bool false)<| RN l ?_
 obtain ⟨i,c,m⟩:=zC c
 refine yK [4,5,6,7,8,9,10,11,12,13,14,15,16,17] (fun (g:Unit)=>[(4,.bool i)]) (fun g wl=>Hd O w wl S []) ?_ ?_
 ·skip
  refine zA ?_
  refine zH (sb f) ?_
  obtain ⟨n,o,c⟩:=zD c
  refine zG (yJ (kP (s1:=f) u9 rfl) (congrArg (Value.int .i64) o))<| zH (sb d) ?_
  obtain ⟨p,q,c⟩:=zD c
  refine zG (yJ (kP (s1:=d) u9 rfl) (congrArg (Value.int .i64) q)) ?_
  obtain ⟨s,t,c⟩:=zD c
  refine zG (zL (kZ (a:=n) (b:=p) rfl rfl) t)<| yS (b:=s) rfl rfl rfl (fun h=>?_) (fun h=>?_)
  ·have c:=zO h c
   refine zH (sb f)<| zH (sb d) ?_
   obtain ⟨B,u,c⟩:=zD c
   refine zG (yJ (kP (s1:=d) u9 rfl) (congrArg (Value.int .i64) u)) ?_
   obtain ⟨x,y,c⟩:=zC c
   refine zG (Do_cut_h (s1:=f) u9 rfl rfl y)<| zH (sb d) ?_
   obtain ⟨j,z,c⟩:=zD c
   refine zG (zL (wB (s1:=x) (s2:=d) rfl rfl) z)<| zG (yO (v:= .bool j) rfl rfl)<| zI (.bool j) ?_
   obtain rfl:=gI c
   exact (yA (zF (meet ⟨(),(zJ rfl zK),H.pick []⟩)))
  have c:=zQ h c
  refine yG ?_
  refine yG ?_
  refine yG ?_
  refine yG ?_
  refine yG ?_
  refine yG ?_
  refine zG (yM (v:= .bool false) rfl rfl)<| zI (.bool false) ?_
  obtain rfl:=gI c
  exact (yA (zF (meet ⟨(),(zJ rfl zK),H.pick []⟩)))
 rintro _ ρ C H
 have c:=m
 obtain rfl:=gI c
 refine (zW (fC (v1:= .bool i) rfl rfl ?_))
 exact ⟨rfl,H.pick []⟩
theorem Ffyw (a:Str)(c:Str)(r:Str)(b:Ffy a c=some r)(O S:List Nat)(w:World)(H:Hd O w w S []):
  Cl 257 [sb a,sb c] w fun e d=>e= .returned (sb r)∧Hd O w d S []:=by
 unfold Ffy at b
 refine CW 13 Tryz.func257 ?_
 refine zB fun o f=>zA<| zI (.string (bs []))<| RN f<| zB fun p h=>zB fun q i=>zA<| zH (sb a)<| zH (sb c) ?_
 have j:=H
 obtain ⟨s,k,b⟩:=zC b
 refine zZ rfl rfl (zS en215 rfl) (Fd3w a c _ k _ _ _ (H.enter [] [])) ?_
 rintro _ t ⟨rfl,l⟩
 have H:=j.step (l.only:Only [] _ _)
 refine ⟨_,rfl,?_⟩
 refine RN i ?_
 obtain ⟨m,b⟩:=xX b
 refine dB m ?_
 refine zX (zF (h _ _ ?_))
 refine zB fun u n=>zA<| zH (sb a)<| zI (sb a)<| RN n ?_
 obtain rfl:=gI b
 refine (zW (fC (v1:=sb a) rfl rfl ?_))
 exact ⟨rfl,H.pick []⟩
theorem Ffuw (a:Str)(b:Str)(r:Str)(c:Ffu a b=some r)(O S:List Nat)(w:World)(H:Hd O w w S []):
  Cl 214 [sb a,sb b] w fun e f=>e= .returned (sb r)∧Hd O w f S []:=by
 unfold Ffu at c
 refine CW 8 Tryz.func214 ?_
 refine zB fun m h=>zA<| zI (.string (bs []))<| RN h<| zB fun n i=>zA<| zH (sb a)<| zH (sb b) ?_
 have j:=H
 obtain ⟨d,k,c⟩:=zC c
 refine zZ rfl rfl (zS en257 rfl) (Ffyw a b _ k _ _ _ (H.enter [] [])) ?_
 rintro _ o ⟨rfl,l⟩
 have H:=j.step (l.only:Only [] _ _)
 refine ⟨_,rfl,?_⟩
 refine zI (sb d)<| RN i ?_
 obtain rfl:=gI c
 refine (zW (fC (v1:=sb d) rfl rfl ?_))
 exact ⟨rfl,H.pick []⟩
theorem Ffzw (d:gB)(f:Nat)(h:Value)(j:Value)(k:Value)(r:gB)(c:Ffz d=some r)(O S:List Nat)(w:World)(H:Hd O w w S [.own Rp.str h 9 d.r.Phases,.own gX j 122 d.r.Moves,.own fB k 95 d.r.Rules,.blk f [sb d.text,i6 d.at_,i6 d.now.kind,i6 d.now.at_,i6 d.now.n,sb d.now.text,h,j,k] 109,.fz (.gi 4)]):
  Cl 175 [gV f] w fun e z=> ∃q s t,e= .returned (.tuple #[])∧Hd O w z S [.own Rp.str q 9 r.r.Phases,.own gX s 122 r.r.Moves,.own fB t 95 r.r.Rules,.blk f [sb r.text,i6 r.at_,i6 r.now.kind,i6 r.now.at_,i6 r.now.n,sb r.now.text,q,s,t] 109]:=by
 unfold Ffz at c
 refine CW 55 Tryz.func175 ?_
 refine zB fun am A=>zA<| zH (gV f)<| zG (zN rfl)<| zG (dX rfl)<| zG (sJ rfl)<| Ld bF H 3 5 rfl rfl<| zI (sb d.now.text)<| RN A<| zB fun an B=>zA<| zH (sb d.now.text) ?_
 obtain ⟨⟨l,C⟩,D,c⟩:=zC c
 refine zZ rfl rfl (zS en213 rfl) (E.Ffrw d.now.text _ D _ _ _ (H.enter [] [4])) ?_
 rintro _ ao ⟨m,rfl,F⟩
 have H:=H.back1 [4] rfl F
 refine ⟨_,rfl,?_⟩
 refine zH (.tuple #[i6 l,m])<| zG (xQ (v:=i6 l) rfl rfl)<| zG (xQ (v:=m) rfl rfl)<| zI (i6 l)<| zI m<| RN B<| yD<| zB fun ap G=>zA<| zH (sb d.now.text) ?_
 have I:=H
 obtain ⟨u,J,c⟩:=zC c
 refine zZ rfl rfl (zS en144 rfl) (Fbew d.now.text _ J _ _ _ (H.enter [] [])) ?_
 rintro _ aq ⟨rfl,K⟩
 have H:=I.step (K.only:Only [] _ _)
 refine ⟨_,rfl,?_⟩
 refine zI (.bool u)<| RN G<| zY (b:=u) rfl (fun o=>?_) (fun o=>?_)
 ·have c:=zO o c
  refine zA ?_
  refine zH (gV f)<| zG (zN rfl)<| zG (dX rfl)<| zG (kQ rfl)<| yP rfl (xE H 3 rfl sz3 rfl (v:=i6 1) rfl rfl rfl) ?_
  rintro ar H
  obtain rfl:=gI c
  refine (yA (yH (nJ rfl ?_)))
  exact ⟨h,j,k,rfl,H.pick [0,1,2,3]⟩
 have c:=zQ o c
 refine zB fun au L=>zA<| zH (sb d.now.text) ?_
 have M:=H
 obtain ⟨x,N,c⟩:=zC c
 refine zZ rfl rfl (zS en86 rfl) (Fagw d.now.text _ N _ _ _ (H.enter [] [])) ?_
 rintro _ av ⟨rfl,P⟩
 have H:=M.step (P.only:Only [] _ _)
 refine ⟨_,rfl,?_⟩
 refine zI (.bool x)<| RN L<| zY (b:=x) rfl (fun p=>?_) (fun p=>?_)
 ·have c:=zO p c
  refine zA ?_
  refine zH (gV f)<| zG (zN rfl)<| zG (dX rfl)<| zG (kQ rfl)<| yP rfl (xE H 3 rfl sz3 rfl (v:=i6 2) rfl rfl rfl) ?_
  rintro aw H
  obtain rfl:=gI c
  refine (yA (yH (nJ rfl ?_)))
  exact ⟨h,j,k,rfl,H.pick [0,1,2,3]⟩
 have c:=zQ p c
 refine zB fun ax Q=>zA<| zH m ?_
 obtain ⟨ay,R,c⟩:=zD c
 refine zG (zL (Do_eqlif ui131 (H.item (i:=5) rfl) rfl) R) ?_
 obtain ⟨T,c,U⟩:=zC c
 refine bJ 6 [34,35,36,37,38,39] [(39,.bool T)] (fun wl=>Hd O w wl S [.own Rp.str h 9 d.r.Phases,.own gX j 122 d.r.Moves,.own fB k 95 d.r.Rules,.blk f [sb d.text,i6 d.at_,i6 d.now.kind,i6 d.now.at_,i6 d.now.n,sb d.now.text,h,j,k] 109,.fz (.gi 4),.fz (.ic m C)]) ?_ ?_
 ·skip
  obtain ⟨V,c⟩:=mV c
  refine aMn true V ?_
  refine zH (i6 l) ?_
  have X:=H
  obtain ⟨Y,Z,c⟩:=zC c
  refine zZ rfl rfl (zS en130 rfl) (E.Fdyw l _ Z _ _ _ (H.enter [] [])) ?_
  rintro _ az ⟨rfl,aa⟩
  have H:=X.step (aa.only:Only [] _ _)
  refine ⟨_,rfl,?_⟩
  refine zH (sb d.now.text) ?_
  obtain ⟨ab,ac,c⟩:=zD c
  refine zG (zL (wB (s1:=Y) (s2:=d.now.text) rfl rfl) ac)<| zG (yO (v:= .bool ab) rfl rfl) ?_
  obtain rfl:=gI c
  exact yA (zF (meet ⟨(zJ rfl zK),H.pick [0,1,2,3,4,5]⟩))
 rintro ρ a0 H
 have c:=U
 obtain ⟨ad,c⟩:=mV c
 refine aMn true ad ?_
 refine zH (sb d.now.text) ?_
 have ae:=H
 obtain ⟨af,ag,c⟩:=zC c
 refine zZ rfl rfl (zS en214 rfl) (Ffuw d.now.text [45] _ ag _ _ _ (H.enter [] [])) ?_
 rintro _ a1 ⟨rfl,ah⟩
 have H:=ae.step (ah.only:Only [] _ _)
 refine ⟨_,rfl,?_⟩
 obtain ⟨ai,aj,c⟩:=zD c
 refine zG (yJ (kP (s1:=af) u9 rfl) (congrArg (Value.int .i64) aj)) ?_
 obtain ⟨y,ak,c⟩:=zD c
 refine zG (zL (sU (a:=ai) (b:=16) rfl rfl) ak)<| zG (yO (v:= .bool y) rfl rfl)<| zI (.bool y)<| RN Q ?_
 obtain ⟨al,c⟩:=mV c
 refine aFc al ?_
 refine zA ?_
 refine zH (gV f)<| zH (gV f)<| zH (i6 l)<| zG (zN rfl)<| zG (dX rfl)<| zG (kQ rfl)<| yP rfl (xE H 3 rfl sz3 rfl (v:=i6 3) rfl rfl rfl) ?_
 rintro a2 H
 refine zG (zN rfl)<| zG (dX rfl)<| zG (fa107_2 rfl)<| yP rfl (xE H 3 rfl sz3 rfl (v:=i6 l) rfl rfl rfl) ?_
 rintro a3 H
 obtain rfl:=gI c
 refine (yA (yH (nJ rfl ?_)))
 exact ⟨h,j,k,rfl,H.pick [0,1,2,3]⟩
theorem Fexw (a:Str)(b:Str)(r:Bool)(c:Fex a b=some r)(O S:List Nat)(w:World)(H:Hd O w w S []):
  Cl 176 [sb a,sb b] w fun e f=>e= .returned (.bool r)∧Hd O w f S []:=by
 unfold Fex at c
 refine CW 8 Tryz.func176 ?_
 refine zB fun m h=>zA<| zI (.bool false)<| RN h<| zB fun n i=>zA<| zH (sb a)<| zH (sb b) ?_
 have j:=H
 obtain ⟨d,k,c⟩:=zC c
 refine zZ rfl rfl (zS en215 rfl) (Fd3w a b _ k _ _ _ (H.enter [] [])) ?_
 rintro _ o ⟨rfl,l⟩
 have H:=j.step (l.only:Only [] _ _)
 refine ⟨_,rfl,?_⟩
 refine zI (.bool d)<| RN i ?_
 obtain rfl:=gI c
 refine (zW (fC (v1:= .bool d) rfl rfl ?_))
 exact ⟨rfl,H.pick []⟩
theorem aOh (h:gB)(f:Nat)(u:Value)(x:Value)(y:Value)(r:gB)(c:Fai h=some r)(O S:List Nat)(w:World)(H:Hd O w w S [.own Rp.str u 9 h.r.Phases,.own gX x 122 h.r.Moves,.own fB y 95 h.r.Rules,.blk f [sb h.text,i6 h.at_,i6 h.now.kind,i6 h.now.at_,i6 h.now.n,sb h.now.text,u,x,y] 109,.fz (.gi 4)]):
  Cl 120 [gV f] w fun e p=> ∃K L M,e= .returned (.tuple #[])∧Hd O w p S [.own Rp.str K 9 r.r.Phases,.own gX L 122 r.r.Moves,.own fB M 95 r.r.Rules,.blk f [sb r.text,i6 r.at_,i6 r.now.kind,i6 r.now.at_,i6 r.now.n,sb r.now.text,K,L,M] 109]:=by
 unfold Fai at c
 refine CW 107 Tryz.func120 ?_
 refine zB fun b9 V=>zA<| zH (gV f) ?_
 obtain ⟨d,X,c⟩:=zC c
 refine zZ rfl rfl (zS en174 rfl) (Ffhw (gB.mk h.text h.at_ (gW.mk h.now.kind h.now.at_ h.now.n h.now.text) (Rules.mk h.r.Phases h.r.Moves h.r.Rules)) f u x y _ X _ _ _ (H.enter [0,1,2,3] [])) ?_
 rintro _ Y ⟨j,k,l,rfl,Z⟩
 have H:Hd _ _ Y _ [.fz (.gi 4),.own Rp.str j 9 d.r.Phases,.own gX k 122 d.r.Moves,.own fB l 95 d.r.Rules,.blk f [sb d.text,i6 d.at_,i6 d.now.kind,i6 d.now.at_,i6 d.now.n,sb d.now.text,j,k,l] 109]:=H.back [0,1,2,3] [] rfl Z
 refine ⟨_,rfl,?_⟩
 refine RN V<| zB fun ca aa=>zA<| zH (gV f)<| zG (zN rfl)<| zG (kR rfl)<| Ld fM H 4 1 rfl rfl<| zI (i6 d.at_)<| RN aa<| zB fun cb ab=>zA<| zH (gV f)<| zH (i6 d.at_)<| zG (xJ (cs:=[i6 0,i6 d.at_,i6 0,.string (bs [])]) (bt107_0_1 _ _))<| zG (zN rfl)<| zG (dX rfl)<| yP rfl (yL (vs:=[i6 0,i6 d.at_,i6 0,.string (bs [])]) H 4 rfl aHv rfl rfl rfl ⟨rfl,rfl,rfl,rfl,trivial⟩ rfl) ?_
 rintro cc H
 refine RN ab<| zB fun cd ac=>zB fun ce ad=>zA<| zH (i6 d.at_)<| zH (gV f)<| zG (zN rfl)<| zG (sV rfl)<| Ld bF H 4 0 rfl rfl ?_
 obtain ⟨ae,af,c⟩:=zD c
 refine zG (yJ (kP (s1:=d.text) u9 rfl) (congrArg (Value.int .i64) af)) ?_
 obtain ⟨ag,ah,c⟩:=zD c
 refine zG (zL (yR (a:=d.at_) (b:=ae) rfl rfl) ah)<| RN ad<| zY (b:=ag) rfl (fun z=>?_) (fun z=>?_)
 ·have c:=zO z c
  obtain rfl:=gI c
  refine (zW (zV (aSz rfl ?_)))
  exact ⟨j,k,l,rfl,H.pick [1,2,3,4]⟩
 have c:=zQ z c
 refine zX (zF (ac _ _ ?_))
 obtain ⟨s,c,ai⟩:=zC c
 refine yK [23,24,25,26,27,28,29,30,31,32,33,34,35,36,37,38,39,40,41,42,43,44,45,46,47,48,49,50,51] (fun (g:Unit)=>[]) (fun g wl=>Hd O w wl S [.fz (.gi 4),.own Rp.str j 9 d.r.Phases,.own gX k 122 d.r.Moves,.own fB l 95 d.r.Rules,.blk f [sb d.text,i6 s,i6 0,i6 d.at_,i6 0,.string (bs []),j,k,l] 109]) ?_ ?_
 ·skip
  refine yD ?_
  unfold Fgi at c
  obtain ⟨aj,N,ak,c⟩:=yT c
  refine xB [23,24,25,26,27,28,29,30,31,32,33,34,35,36,37,38,39,40,41,42,43,44,45,46,47,48,49,50,51] (fun (g:Nat×Int)=>[]) (fun g wl=>Hd O w wl S [.fz (.gi 4),.own Rp.str j 9 d.r.Phases,.own gX k 122 d.r.Moves,.own fB l 95 d.r.Rules,.blk f [sb d.text,i6 g.2,i6 0,i6 d.at_,i6 0,.string (bs []),j,k,l] 109]∧fV aj g.1 g.2=some s) (fun g=>g.1) (N,d.at_) zK ⟨H.pick [0,1,2,3,4],c⟩ ?_
  clear H c
  rintro ⟨N,A⟩ ρ cf ⟨H,c⟩
  obtain ⟨al,rfl,c⟩:=yZ c
  have c:=yY ak c
  refine zB fun cg am=>?_
  refine zB fun ch an=>?_
  have ao:=H
  have H:=H.rebase
  have ci:=H
  refine xU H [0,1,2,3,4,5,6,7,8,9,10,11,12,13,14,15,16,17,18,19,20,21] (kz [0,0,0,1,0,0,0,1,0,0,0,0,0,0,1,0,0,0,1,0,4,0]) mixed ?_
  refine XM (gV f)<| XP (fun _ _=>zN rfl)<| XP (fun _ _=>kR rfl)<| XR fM H 4 1 rfl rfl<| XM (gV f)<| XP (fun _ _=>zN rfl)<| XP (fun _ _=>sV rfl)<| XR bF H 4 0 rfl rfl ?_
  obtain ⟨ap,aq,c⟩:=zD c
  refine XP (fun _ _=>yJ (kP (s1:=d.text) u9 rfl) (congrArg (Value.int .i64) aq)) ?_
  obtain ⟨cj,ar,c⟩:=zD c
  refine XP (fun _ _=>zL (xP (a:=A) (b:=ap) rfl rfl) ar) ?_
  obtain ⟨au,c⟩:=mV c
  refine MxM.XL_sp true au ?_
  refine XM (gV f)<| XP (fun _ _=>zN rfl)<| XP (fun _ _=>sV rfl)<| XR bF H 4 0 rfl rfl<| XM (gV f)<| XP (fun _ _=>zN rfl)<| XP (fun _ _=>kR rfl)<| XR fM H 4 1 rfl rfl ?_
  obtain ⟨av,aw,c⟩:=zC c
  refine XP (fun _ _=>aAn (s1:=d.text) (q:=A) u9 rfl rfl aw) ?_
  have ax:=H
  obtain ⟨B,ay,c⟩:=zC c
  refine MxM.XL_fcall oS rfl rfl rfl (v:= .bool B) (fun p t=>zS en145 rfl) (fun p t=>bU (Fbkw av _ ay _ _ _ (Hd.fresh0 p))) ?_
  have H:=ax
  refine XP (fun _ _=>yO (v:= .bool B) rfl rfl)<| MxM.xK fun ck hS=>?_
  have H:=H.sees hS
  have H:=ao.rejoin H
  refine (zF (an _ _ ?_))
  refine zY (b:=B) rfl (fun C=>?_) (fun C=>?_)
  ·have c:=zO C c
   refine zX (zF (am _ _ ?_))
   refine yD ?_
   refine zA ?_
   refine zH (gV f)<| zG (zN rfl)<| zG (kR rfl)<| Ld fM H 4 1 rfl rfl ?_
   obtain ⟨P,az,c⟩:=zD c
   refine zG (xM (a:=A) (b:=1) rfl rfl az)<| zG (zN rfl)<| zG (kR rfl)<| yP rfl (xE H 4 rfl sz3 rfl (v:=i6 P) rfl rfl rfl) ?_
   rintro cl H
   exact (yA (yH (zF (meet ⟨(al,P),zK,⟨H.pick [0,1,2,3,4],c⟩,Nat.lt_succ_self _⟩))))
  have c:=zQ C c
  obtain rfl:=gI c
  exact (xI (yI (yI (yV (zF (meet ⟨(),zK,H.pick [0,1,2,3,4]⟩))))))
 rintro _ ρ cm H
 have c:=ai
 refine zB fun cn a0=>?_
 refine zB fun co a1=>zA<| zH (gV f)<| zG (zN rfl)<| zG (kR rfl)<| Ld fM H 4 1 rfl rfl<| zH (i6 d.at_) ?_
 obtain ⟨a2,a3,c⟩:=zD c
 refine zG (zL (aI (a:=s) (b:=d.at_) rfl rfl) a3)<| RN a1<| zY (b:=a2) rfl (fun D=>?_) (fun D=>?_)
 ·have c:=zO D c
  refine zB fun cp a4=>?_
  have a5:=H
  have H:=H.rebase
  have cq:=H
  refine xU H [0,1,2,3,4,5,6,7,8,9,10,11,12,13,14] (kz [0,0,0,0,1,0,0,0,0,1,0,0,0,0,3]) mixed ?_
  refine XM (gV f)<| XM (gV f)<| XP (fun _ _=>zN rfl)<| XP (fun _ _=>sV rfl)<| XR bF H 4 0 rfl rfl<| XM (i6 d.at_)<| XM (gV f)<| XP (fun _ _=>zN rfl)<| XP (fun _ _=>kR rfl)<| XR fM H 4 1 rfl rfl ?_
  obtain ⟨Q,a6,c⟩:=zC c
  refine XP (fun _ _=>Do_cut_lh (s1:=d.text) u9 rfl rfl rfl a6)<| XP (fun _ _=>zN rfl)<| XP (fun _ _=>dX rfl)<| XP (fun _ _=>sJ rfl)<| MxM.XL_exU oS rfl rfl (fun p t=>xE (H.sees t) 4 rfl sz9 rfl (v:=sb Q) rfl rfl rfl) ?_
  rintro p cr t H
  refine ⟨H.only,?_⟩
  refine MxM.xK fun ct hS=>?_
  have H:=H.sees hS
  have H:=a5.rejoin H
  refine (zF (a4 _ _ ?_))
  refine zB fun cu a7=>zA<| zH (gV f) ?_
  obtain ⟨m,a8,c⟩:=zC c
  refine zZ rfl rfl (zS en175 rfl) (Ffzw (gB.mk d.text s (gW.mk 0 d.at_ 0 Q) (Rules.mk d.r.Phases d.r.Moves d.r.Rules)) f j k l _ a8 _ _ _ (H.enter [1,2,3,4] [0])) ?_
  rintro _ a9 ⟨E,F,G,rfl,ba⟩
  have H:Hd _ _ a9 _ [.fz (.gi 4),.own Rp.str E 9 m.r.Phases,.own gX F 122 m.r.Moves,.own fB G 95 m.r.Rules,.blk f [sb m.text,i6 m.at_,i6 m.now.kind,i6 m.now.at_,i6 m.now.n,sb m.now.text,E,F,G] 109]:=H.back [1,2,3,4] [0] rfl ba
  refine ⟨_,rfl,?_⟩
  refine RN a7 ?_
  obtain rfl:=gI c
  refine (zW (zV (aSz rfl ?_)))
  exact ⟨E,F,G,rfl,H.pick [1,2,3,4]⟩
 have c:=zQ D c
 refine zX (zF (a0 _ _ ?_))
 refine zB fun cv cw=>?_
 refine zB fun cx bb=>zA ?_
 obtain ⟨cy,bc,c⟩:=zD c
 subst bc
 refine yQ rfl rfl (aX (r:=Rp.str) (xl:=[[60,61],[33,61],[62,61],[60],[61],[62],[40],[41]]) (cs:=[.string (bs [60,61]),.string (bs [33,61]),.string (bs [62,61]),.string (bs [60]),.string (bs [61]),.string (bs [62]),.string (bs [40]),.string (bs [41])]) u22 el9 (by decide) (by decide) rfl (xH (vs:=[.string (bs [60,61]),.string (bs [33,61]),.string (bs [62,61]),.string (bs [60]),.string (bs [61]),.string (bs [62]),.string (bs [40]),.string (bs [41])]) (by decide) rfl rfl ⟨rfl,rfl,rfl,rfl,rfl,rfl,rfl,rfl,trivial⟩ rfl) H ⟨[.string (bs [60,61])],[.string (bs [33,61]),.string (bs [62,61]),.string (bs [60]),.string (bs [61]),.string (bs [62]),.string (bs [40]),.string (bs [41])],rfl,rfl,⟨[.string (bs [33,61])],[.string (bs [62,61]),.string (bs [60]),.string (bs [61]),.string (bs [62]),.string (bs [40]),.string (bs [41])],rfl,rfl,⟨[.string (bs [62,61])],[.string (bs [60]),.string (bs [61]),.string (bs [62]),.string (bs [40]),.string (bs [41])],rfl,rfl,⟨[.string (bs [60])],[.string (bs [61]),.string (bs [62]),.string (bs [40]),.string (bs [41])],rfl,rfl,⟨[.string (bs [61])],[.string (bs [62]),.string (bs [40]),.string (bs [41])],rfl,rfl,⟨[.string (bs [62])],[.string (bs [40]),.string (bs [41])],rfl,rfl,⟨[.string (bs [40])],[.string (bs [41])],rfl,rfl,⟨[.string (bs [41])],[],rfl,rfl,rfl⟩⟩⟩⟩⟩⟩⟩⟩) ?_
 rintro bd cz H
 obtain ⟨be,bf,c⟩:=zD c
 obtain ⟨c0,c1,bg⟩:=Sr.len (Sr.of_own (H.item (i:=5) rfl))
 refine zG (yJ (xO u22 bg) (congrArg (Value.int .i64) bf))<| zH (i6 0)<| RN bb<| yD ?_
 unfold Ff0 at c
 obtain ⟨bh,R,bi,c⟩:=yT c
 refine xB [4,76,77,78,79,80,81,82,83,84,85,86,87,88,89,90,91,92,93,94,95,96,97,98,99,100,101,102,103,104] (fun (g:Nat×Int)=>[(76,i6 g.2)]) (fun g wl=>Hd O w wl S [.fz (.gi 4),.own Rp.str j 9 d.r.Phases,.own gX k 122 d.r.Moves,.own fB l 95 d.r.Rules,.blk f [sb d.text,i6 s,i6 0,i6 d.at_,i6 0,.string (bs []),j,k,l] 109,.own Rp.str bd 9 ([[60,61],[33,61],[62,61],[60],[61],[62],[40],[41]]:List Str)]∧fV bh g.1 g.2=some r) (fun g=>g.1) (R,0) (zJ rfl zK) ⟨H.pick [0,1,2,3,4,5],c⟩ ?_
 clear H c
 rintro ⟨R,T⟩ ρ c2 ⟨H,c⟩
 obtain ⟨bj,rfl,c⟩:=yZ c
 have c:=yY bi c
 refine zB fun c3 bk=>zA ?_
 obtain ⟨c4,bl,c⟩:=zD c
 refine zG (zL (xP (a:=T) (b:=be) rfl rfl) bl)<| RN bk<| zB fun c5 bm=>?_
 obtain ⟨bn,c⟩:=mV c
 refine aFc bn ?_
 refine zX (zF (bm _ _ ?_))
 refine zB fun c6 bo=>?_
 refine yD ?_
 refine zB fun c7 bp=>zA ?_
 obtain ⟨o,I,c⟩:=zC c
 obtain ⟨c8,c9,bq,br,bt,bu⟩:=jD (H.item (i:=5) rfl) I
 obtain rfl:bq= [sb o]:=bt
 refine zG (xC u22 sz9 br rfl (yC I).1 (yC I).2.1 rfl rfl)<| zG (xG bF rfl (Cells.get bu (i:=0) rfl))<| zI (sb o)<| RN bp<| zB fun da bv=>zA<| zH (gV f)<| zG (zN rfl)<| zG (sV rfl)<| Ld bF H 4 0 rfl rfl<| zH (i6 d.at_) ?_
 obtain ⟨bw,bx,c⟩:=zC c
 refine zG (Do_cut_l (s1:=d.text) u9 rfl rfl bx)<| zH (sb o) ?_
 have bz:=H
 obtain ⟨b0,b1,c⟩:=zC c
 refine zZ rfl rfl (zS en176 rfl) (Fexw bw o _ b1 _ _ _ (H.enter [] [])) ?_
 rintro _ db ⟨rfl,b2⟩
 have H:=bz.step (b2.only:Only [] _ _)
 refine ⟨_,rfl,?_⟩
 refine RN bv<| zY (b:=b0) rfl (fun J=>?_) (fun J=>?_)
 ·have c:=zO J c
  refine zB fun dc b3=>zA<| zH (gV f)<| zH (gV f)<| zH (gV f)<| zH (sb o)<| zH (i6 d.at_)<| zH (sb o) ?_
  obtain ⟨b4,b5,c⟩:=zD c
  refine zG (yJ (kP (s1:=o) u9 rfl) (congrArg (Value.int .i64) b5)) ?_
  obtain ⟨b6,b7,c⟩:=zD c
  refine zG (xM (a:=d.at_) (b:=b4) rfl rfl b7)<| zG (zN rfl)<| zG (dX rfl)<| zG (kQ rfl)<| yP rfl (xE H 4 rfl sz3 rfl (v:=i6 4) rfl rfl rfl) ?_
  rintro dd H
  refine zG (zN rfl)<| zG (dX rfl)<| zG (sJ rfl)<| yP rfl (xE H 4 rfl sz9 rfl (v:=sb o) rfl rfl rfl) ?_
  rintro de H
  refine zG (zN rfl)<| zG (kR rfl)<| yP rfl (xE H 4 rfl sz3 rfl (v:=i6 b6) rfl rfl rfl) ?_
  rintro df H
  refine RN b3 ?_
  obtain rfl:=gI c
  refine (zW (yE (zV (zV (yE (zV (aSz rfl ?_)))))))
  exact ⟨j,k,l,rfl,H.pick [1,2,3,4]⟩
 have c:=zQ J c
 refine (zX (yH (zF (bo _ _ ?_))))
 refine zA ?_
 obtain ⟨U,b8,c⟩:=zD c
 refine zG (xM (a:=T) (b:=1) rfl rfl b8)<| zH (i6 U) ?_
 exact (yA (zF (meet ⟨(bj,U),(zJ rfl zK),⟨H.pick [0,1,2,3,4,5],c⟩,Nat.lt_succ_self _⟩)))
theorem aPg (k:Option gB)(f:Str)(v1:Option Addr)(r:Bool)(c:Fal k f=some r)(O S:List Nat)(w:World)(H:Hd O w w S [.fz (.pt dM v1 k)]):
  Cl 121 [.pointer v1,sb f] w fun e D=>e= .returned (.bool r)∧Hd O w D S []:=by
 unfold Fal at c
 refine CW 28 Tryz.func121 ?_
 refine zB fun K3 E=>zA<| zI (.bool false)<| RN E ?_
 obtain ⟨u,c,F⟩:=zC c
 refine yK [4,5,6,7,8,9,10,11,12,13,14,15,16,17,18,19,20,21,22,23,24,25,26,27] (fun (g:Unit)=>[(4,.bool u)]) (fun g wl=>Hd O w wl S []) ?_ ?_
 ·skip
  refine zA ?_
  refine zH (.pointer v1) ?_
  obtain ⟨d,G,c⟩:=zC c
  obtain ⟨l,m,a1,I,J,K,L,M⟩:=qX ((H.item (i:=0) rfl):PtF _ _ _ _ _) G
  obtain ⟨o,p,q,rfl,N,P,Q⟩:=bW L
  have H:=H.fzs [.at l m _,.sl Rp.str o d.r.Phases,.sl gX p d.r.Moves,.sl fB q d.r.Rules] ⟨⟨J,K,M⟩,N,P,Q,trivial⟩
  refine zG (zN (ad:=⟨l,m,none⟩) (congrArg Value.pointer I))<| zG (dX rfl)<| zG (kQ rfl)<| zG (xG fM rfl (Cells.get (H.item (i:=1) rfl).2.2 (i:=2) rfl)) ?_
  obtain ⟨R,T,c⟩:=zD c
  refine zG (zL (yR (a:=d.now.kind) (b:=1) rfl rfl) T) ?_
  obtain ⟨x,c,U⟩:=zC c
  refine bJ 8 [11,12,13,14,15,16,17,18] [(18,.bool x)] (fun wl=>Hd O w wl S [.fz (.pt dM v1 k),.fz (.at l m [sb d.text,i6 d.at_,i6 d.now.kind,i6 d.now.at_,i6 d.now.n,sb d.now.text,o,p,q]),f1 Rp.str o d.r.Phases,f1 gX p d.r.Moves,f1 fB q d.r.Rules]) ?_ ?_
  ·skip
   refine yS (b:=R) rfl rfl rfl (fun s=>?_) (fun s=>?_)
   ·have c:=zO s c
    refine yG ?_
    refine yG ?_
    refine yG ?_
    refine yG ?_
    refine yG ?_
    refine yG ?_
    refine zG (yO (v:= .bool true) rfl rfl) ?_
    obtain rfl:=gI c
    exact yA (zF (meet ⟨(zJ rfl zK),H.pick [0,1,2,3,4]⟩))
   have c:=zQ s c
   refine zH (.pointer v1) ?_
   obtain ⟨h,V,c⟩:=zC c
   obtain ⟨y,z,a2,X,Y,Z,aa,ab⟩:=qX ((H.item (i:=0) rfl):PtF _ _ _ _ _) V
   obtain ⟨ac,ae,af,rfl,ag,ah,ai⟩:=bW aa
   have H:=H.fzs [.at y z _,.sl Rp.str ac h.r.Phases,.sl gX ae h.r.Moves,.sl fB af h.r.Rules] ⟨⟨Y,Z,ab⟩,ag,ah,ai,trivial⟩
   refine zG (zN (ad:=⟨y,z,none⟩) (congrArg Value.pointer X))<| zG (dX rfl)<| zG (kQ rfl)<| zG (xG fM rfl (Cells.get (H.item (i:=5) rfl).2.2 (i:=2) rfl)) ?_
   obtain ⟨aj,ak,c⟩:=zD c
   refine zG (zL (yR (a:=h.now.kind) (b:=4) rfl rfl) ak)<| zG (yM (v:= .bool aj) rfl rfl) ?_
   obtain rfl:=gI c
   exact yA (zF (meet ⟨(zJ rfl zK),H.pick [0,1,2,3,4]⟩))
  rintro ρ a3 H
  have c:=U
  refine yS (b:=x) rfl rfl rfl (fun t=>?_) (fun t=>?_)
  ·have c:=zO t c
   refine zH (.pointer v1) ?_
   obtain ⟨j,al,c⟩:=zC c
   obtain ⟨A,B,a4,am,an,ao,ap,aq⟩:=qX ((H.item (i:=0) rfl):PtF _ _ _ _ _) al
   obtain ⟨ar,au,av,rfl,aw,ax,ay⟩:=bW ap
   have H:=H.fzs [.at A B _,.sl Rp.str ar j.r.Phases,.sl gX au j.r.Moves,.sl fB av j.r.Rules] ⟨⟨an,ao,aq⟩,aw,ax,ay,trivial⟩
   refine zG (zN (ad:=⟨A,B,none⟩) (congrArg Value.pointer am))<| zG (dX rfl)<| zG (sJ rfl)<| zG (xG bF rfl (Cells.get (H.item (i:=5) rfl).2.2 (i:=5) rfl))<| zH (sb f) ?_
   obtain ⟨C,az,c⟩:=zD c
   refine zG (zL (wB (s1:=j.now.text) (s2:=f) rfl rfl) az)<| zG (yO (v:= .bool C) rfl rfl)<| zI (.bool C) ?_
   obtain rfl:=gI c
   exact (yA (zF (meet ⟨(),(zJ rfl zK),H.pick []⟩)))
  have c:=zQ t c
  refine yG ?_
  refine yG ?_
  refine yG ?_
  refine yG ?_
  refine yG ?_
  refine yG ?_
  refine yG ?_
  refine zG (yM (v:= .bool false) rfl rfl)<| zI (.bool false) ?_
  obtain rfl:=gI c
  exact (yA (zF (meet ⟨(),(zJ rfl zK),H.pick []⟩)))
 rintro _ ρ a5 H
 have c:=F
 obtain rfl:=gI c
 refine (zW (fC (v1:= .bool u) rfl rfl ?_))
 exact ⟨rfl,H.pick []⟩
end Go.Proofs.YtckmiljbaejijaaGreatDoor.L
