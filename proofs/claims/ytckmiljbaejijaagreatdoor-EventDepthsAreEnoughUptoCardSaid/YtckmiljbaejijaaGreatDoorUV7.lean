/- Walks: what each function computes, for every argument; no condition but those that stand in the statements. -/
import Derived.Test.YtckmiljbaejijaaGreatDoorUV0
import Derived.Test.YtckmiljbaejijaaGreatDoorUV4
import Derived.Test.YtckmiljbaejijaaGreatDoorUV6
import Derived.Test.YtckmiljbaejijaaGreatDoorUV3
namespace Go.Proofs.YtckmiljbaejijaaGreatDoor.L
open Go.RowKit Go.OB Go.Lf
set_option maxHeartbeats 4000000
theorem Fa0w (z:fD)(s:List fV)(p:Nat)(L:Value)(R:Value)(Y:List Nat)(T:Value)(Z:List Nat)(M:Value)(h:Value)(r:(List Int)×fD)(j:Fa0 z s=some r)(O S:List Nat)(w:World)(H:Hd O w w S [.tr fP [R] Y z.moves,.tr fO [T] Z z.rules,.blk p [L,i6 z.tracks,R,T,M] 146,f1 Rp.str L z.phases,f1 Rp.bool M z.possible,f1 gX h s]):
  Cl 78 [gV p,h] w fun e A=> ∃aa ab ac ap ad aq ae,e= .returned (aa)∧Hd O w A S [.own (Rp.int .i64) aa 3 r.1,f1 Rp.str ab r.2.phases,.tr fP [ac] ap r.2.moves,.tr fO [ad] aq r.2.rules,f1 Rp.bool ae r.2.possible,.blk p [ab,i6 r.2.tracks,ac,ad,ae] 146]:=by
 unfold Fa0 at j
 refine CW 47 Tryz.func78 ?_
 refine zB fun b3 ar=>zA<| zI (.slice none 0 0)<| RN ar<| zB fun b4 au=>zA<| zH h ?_
 obtain ⟨av,aw,ax⟩: ∃a c,h= .slice a _ c:=SlF.len ((H.item (i:=5) rfl))
 refine zG (xM (cs:=[h,.slice none 0 0,.slice none 0 0]) (by rw [ax]; exact bt222_0 av _ aw))<| yR rfl rfl (xW (cs:=[h,.slice none 0 0,.slice none 0 0]) rfl H) ?_
 rintro _ b5 ⟨o,rfl,H⟩
 refine zI (gV o)<| RN au<| zB fun b6 ay=>zA<| zH (gV p)<| zH (gV o) ?_
 have H:=H.fz (.sl Rp.bool (.slice none 0 0) []) SlF.nil
 have H:=bW H (Rp.int .i64) 3
 obtain ⟨d,az,j⟩:=zD j
 refine yB rfl rfl (zV en141 rfl) (Fbnw (fD.mk z.phases z.tracks z.moves z.rules z.possible) (gK.mk s [] []) p L R Y T Z M o h (.slice none 0 0) (.slice none 0 0) _ az _ _ _ (H.enter [0,1,2,8,6] [3,4,5,7])) ?_
 rintro _ a0 ⟨k,l,u,m,af,f,rfl,a1⟩
 have H:Hd _ _ a0 _ [f1 Rp.str L z.phases,f1 Rp.bool M z.possible,f1 gX h s,.fz (.sl Rp.bool (.slice none 0 0) []),f1 Rp.str k d.phases,.tr fP [l] u d.moves,.tr fO [m] af d.rules,f1 Rp.bool f d.possible,.blk p [k,i6 d.tracks,l,m,f] 146,.own (Rp.int .i64) (.slice none 0 0) 3 [],.blk o [h,.slice none 0 0,.slice none 0 0] 222]:=H.back [0,1,2,8,6] [3,4,5,7] rfl a1
 refine ⟨_,rfl,?_⟩
 refine RN ay<| zB fun b7 a2=>zA<| zH (gV o)<| zH (gV p)<| zG (zS rfl)<| zG (aAp rfl)<| Ld aBt H 8 4 rfl rfl<| zG (zS rfl)<| zG (aIe rfl)<| yV rfl (xK H 10 rfl sz144 rfl (v:=f) rfl (wK (H.item (i:=7) rfl)) rfl) ?_
 rintro b8 H
 refine RN a2 ?_
 obtain ⟨N,j,a3⟩:=zD j
 refine yH [7,21,22,23,24,25,26,27,28,29,30,31,32,33,34,35,36,37,38,39,40,41,42] (fun (g:(List Nat)×Value)=>[]) (fun g wl=>Hd O w wl S [f1 gX h s,f1 Rp.str k d.phases,.tr fP [l] u d.moves,.tr fO [m] g.1 N.1,f1 Rp.bool f d.possible,.blk p [k,i6 d.tracks,l,m,f] 146,.own (Rp.int .i64) g.2 3 N.2,.blk o [h,f,g.2] 222]) ?_ ?_
 ·skip
  refine zB fun b9 a4=>zA<| zH (gV p)<| zG (zS rfl)<| zG (aJg rfl)<| Ld aNy H 8 3 rfl rfl ?_
  obtain ⟨a5,a6,j⟩:=zC j
  obtain ⟨ca,cb,a7⟩:=nD ((H.item (i:=6) rfl))
  refine zG (yK (xH uY a7) (congrArg (Value.int .i64) a6))<| zH (i6 0)<| RN a4<| yD ?_
  unfold Fdg at j
  obtain ⟨a8,ag,a9,j⟩:=yS j
  refine xC [7,26,27,28,29,30,31,32,33,34,35,36,37,38,39,40,41,42] (fun (g:Nat×Int×(List Nd)×(List Int)×(List Nat)×Value)=>[(26,i6 g.2.1)]) (fun g wl=>Hd O w wl S [f1 gX h s,f1 Rp.str k d.phases,.tr fP [l] u d.moves,.tr fO [m] g.2.2.2.2.1 g.2.2.1,f1 Rp.bool f d.possible,.blk p [k,i6 d.tracks,l,m,f] 146,.own (Rp.int .i64) g.2.2.2.2.2 3 g.2.2.2.1,.blk o [h,f,g.2.2.2.2.2] 222]∧fU a8 g.1 (g.2.1,g.2.2.1,g.2.2.2.1)=some N) (fun g=>g.1) (ag,0,d.rules,[],af,.slice none 0 0) (zJ rfl zK) ⟨H.pick [2,4,5,6,7,8,9,10],j⟩ ?_
  clear H j
  rintro ⟨ag,y,B,D,ba,q⟩ ρ P ⟨H,j⟩
  obtain ⟨bb,rfl,j⟩:=yX j
  have j:=yY a9 j
  refine zB fun cc bc=>zA ?_
  obtain ⟨bd,be,j⟩:=zC j
  refine zG (zL (xN (a:=y) (b:=a5) rfl rfl) be)<| RN bc<| zB fun cd bf=>zZ (b:=bd) rfl (fun U=>?_) (fun U=>?_)
  ·have j:=zN U j
   refine zW (zF (bf _ _ ?_))
   refine zB fun ce bg=>?_
   refine yD ?_
   refine zB fun cf bh=>zA ?_
   obtain ⟨F,J,j⟩:=zD j
   obtain ⟨cg,ch,ci,V⟩:=kQ (H.item (i:=3) rfl) J
   refine zG (xA uY aAz V rfl (zX J).1 (zX J).2.1 rfl rfl) ?_
   obtain ⟨cj,C,G,H⟩:=H.focusV 3 rfl V J rfl
   obtain ⟨n,rfl⟩:=jY rfl (H.item (i:=8) rfl)
   have H:Hd _ _ _ _ [f1 gX h s,f1 Rp.str k d.phases,.tr fP [l] u d.moves,f1 Rp.bool f d.possible,.blk p [k,i6 d.tracks,l,m,f] 146,.own (Rp.int .i64) q 3 D,.blk o [h,f,q] 222,.tr (Rt.row fF 170 [(y.toNat,[n])]) [m] C B,.tr fF [n] G F]:=H
   refine zG (yZ kS rfl (Cells.get (H.holeW 7 rfl V J rfl dF) (i:=0) rfl))<| zI n<| RN bh ?_
   have bi:=H
   have H:=H.rebase
   have bj:=H
   have ah:Hd (O++bks (rest [2,4,5,6,7,8] [f1 gX h s,f1 Rp.str k d.phases,.tr fP [l] u d.moves,f1 Rp.bool f d.possible,.blk p [k,i6 d.tracks,l,m,f] 146,.own (Rp.int .i64) q 3 D,.blk o [h,f,q] 222,.tr (Rt.row fF 170 [(y.toNat,[n])]) [m] C B,.tr fF [n] G F])) P P (bks (Go.Lf.pick ([2,4,5,6,7,8]++ [0,1,3]) [f1 gX h s,f1 Rp.str k d.phases,.tr fP [l] u d.moves,f1 Rp.bool f d.possible,.blk p [k,i6 d.tracks,l,m,f] 146,.own (Rp.int .i64) q 3 D,.blk o [h,f,q] 222,.tr (Rt.row fF 170 [(y.toNat,[n])]) [m] C B,.tr fF [n] G F])) [.tr fP [l] u d.moves,.blk p [k,i6 d.tracks,l,m,f] 146,.own (Rp.int .i64) q 3 D,.blk o [h,f,q] 222,.tr (Rt.row fF 170 [(y.toNat,[n])]) [m] C B,.tr fF [n] G F,f1 gX h s,f1 Rp.str k d.phases,f1 Rp.bool f d.possible]:=H.enter [2,4,5,6,7,8] [0,1,3]
   refine uC H ah [0,1,2,3,5,6] 4 7 [8,9,10,11,12] [] [.pure,.pure,.pure,.pure,.read,.pure,.pure,.eff,.new,.eff,.pure,.pure,.eff] ⟨trivial,trivial,trivial,trivial,trivial,trivial,trivial,trivial,trivial,trivial,trivial,trivial,trivial,trivial⟩ mixed (by kernel_rfl) (by kernel_rfl) (by kernel_rfl) (by kernel_rfl) (by kernel_rfl) (by decide) ?_
   have H:=ah
   refine XM (gV o)<| XM (gV o)<| XP (fun _ _=>zS rfl)<| XP (fun _ _=>aCv rfl)<| XM n<| XM (gV o)<| MxM.xE fun ck hS=>?_
   have H:=H.sees hS
   obtain ⟨x,ai,j⟩:=zD j
   refine MxM.XL_join (du:=34) (dv:=37) (fun g1 g2 wl=> ∃(I:List Nat),q=g1∧i6 x.1=g2∧Hd (O++bks (rest [2,4,5,6,7,8] [f1 gX h s,f1 Rp.str k d.phases,.tr fP [l] u d.moves,f1 Rp.bool f d.possible,.blk p [k,i6 d.tracks,l,m,f] 146,.own (Rp.int .i64) q 3 D,.blk o [h,f,q] 222,.tr (Rt.row fF 170 [(y.toNat,[n])]) [m] C B,.tr fF [n] G F])) P wl (bks (Go.Lf.pick ([2,4,5,6,7,8]++ [0,1,3]) [f1 gX h s,f1 Rp.str k d.phases,.tr fP [l] u d.moves,f1 Rp.bool f d.possible,.blk p [k,i6 d.tracks,l,m,f] 146,.own (Rp.int .i64) q 3 D,.blk o [h,f,q] 222,.tr (Rt.row fF 170 [(y.toNat,[n])]) [m] C B,.tr fF [n] G F])) [.tr fP [l] u d.moves,.blk p [k,i6 d.tracks,l,m,f] 146,.tr (Rt.row fF 170 [(y.toNat,[n])]) [m] C B,f1 gX h s,f1 Rp.str k d.phases,f1 Rp.bool f d.possible,.tr fF [n] I x.2,.own (Rp.int .i64) q 3 D,.blk o [h,f,q] 222]) ?_ ?_ ?_
   ·skip
    refine XR mM H 3 2 rfl rfl ?_
    obtain ⟨bm,bn,aj⟩:=Fai (H.item (i:=5) rfl)
    refine MxM.XL_effC oS rfl rfl rfl (fun A t=>nG aj rfl rfl) (fun A t=>Ff4 F (gK.mk s d.possible D) n G o h f q bm bn aj _ ai _ _ _ ((H.sees t).enter [5,2,3] [6,8])) ?_
    rintro A _ bo t ⟨I,rfl,bp⟩
    have H:Hd _ _ bo _ [.tr fP [l] u d.moves,.blk p [k,i6 d.tracks,l,m,f] 146,.tr (Rt.row fF 170 [(y.toNat,[n])]) [m] C B,f1 gX h s,f1 Rp.str k d.phases,f1 Rp.bool f d.possible,.tr fF [n] I x.2,.own (Rp.int .i64) q 3 D,.blk o [h,f,q] 222]:=(H.sees t).back [5,2,3] [6,8] rfl bp
    refine ⟨_,rfl,H.only,?_⟩
    refine MxM.xE fun cl hS=>?_
    have H:=H.sees hS
    exact ⟨_,_,rfl,H.only,I,rfl,rfl,H⟩
   ·skip
    obtain ⟨bq,br,ak⟩:=Fai (H.item (i:=5) rfl)
    refine MxM.XL_effC oS rfl rfl rfl (fun A t=>nG ak rfl rfl) (fun A t=>Ff4 F (gK.mk s d.possible D) n G o h f q bq br ak _ ai _ _ _ ((H.sees t).enter [5,2,3] [6,8])) ?_
    rintro A _ bt t ⟨al,rfl,bu⟩
    have H:Hd _ _ bt _ [.tr fP [l] u d.moves,.blk p [k,i6 d.tracks,l,m,f] 146,.tr (Rt.row fF 170 [(y.toNat,[n])]) [m] C B,f1 gX h s,f1 Rp.str k d.phases,f1 Rp.bool f d.possible,.tr fF [n] al x.2,.own (Rp.int .i64) q 3 D,.blk o [h,f,q] 222]:=(H.sees t).back [5,2,3] [6,8] rfl bu
    refine ⟨_,rfl,H.only,?_⟩
    refine XR mM H 8 2 rfl rfl<| MxM.xE fun cm hS=>?_
    have H:=H.sees hS
    exact ⟨_,_,MxM.upd_comm _ (by decide) _ _,H.only,al,rfl,rfl,H⟩
   rintro M' _ _ cn ⟨I,rfl,rfl,H⟩
   obtain ⟨co,bv,j⟩:=zC j
   subst bv
   refine MxM.XL_exN oS rfl rfl rfl (fun A t=>pK (kT (r:=(Rp.int .i64)) (xl:=[x.1]) (cs:=[i6 x.1]) u38 el3 (by decide) (by decide) rfl (xJ (vs:=[i6 x.1]) (by decide) rfl rfl ⟨rfl,trivial⟩ rfl) (H.sees t) ⟨[i6 x.1],[],rfl,rfl,rfl⟩) (aMh (cs:=[i6 x.1]) u38 el3 (by decide) (by decide) (xJ (vs:=[i6 x.1]) (by decide) rfl rfl ⟨rfl,trivial⟩ rfl))) ?_
   rintro A Q cp t H
   obtain ⟨K,bw,j⟩:=zD j
   refine MxM.XL_ex oS rfl rfl rfl (fun A t=>kL (H.sees t) (i:=7) rfl u38 el3 rfl rfl (Sr.of_own ((H.sees t).item (i:=9) rfl)) bw) ?_
   rintro A E cq t H
   refine ⟨H.only,?_⟩
   refine XP (fun _ _=>zS rfl)<| XP (fun _ _=>aCv rfl)<| MxM.XL_exU oS rfl rfl (fun A t=>xK (H.sees t) 8 rfl aCr rfl (v:=E) rfl (kE ((H.sees t).item (i:=7) rfl)) rfl) ?_
   rintro A cr t H
   refine ⟨H.only,?_⟩
   refine MxM.xE fun bx hS=>?_
   have H:=H.sees hS
   have H:=bj.back [2,4,5,6,7,8] [0,1,3] rfl H
   have H:Hd _ _ _ _ [f1 gX h s,f1 Rp.str k d.phases,f1 Rp.bool f d.possible,.tr fP [l] u d.moves,.blk p [k,i6 d.tracks,l,m,f] 146,.tr (Rt.row fF 170 [(y.toNat,[n])]) [m] C B,f1 gX h s,f1 Rp.str k d.phases,f1 Rp.bool f d.possible,.tr fF [n] I x.2,.own (Rp.int .i64) E 3 K,.blk o [h,f,E] 222,.own (Rp.int .i64) Q 3 ([x.1]:List Int)]:=H
   have H:Hd O P bx (bks [f1 gX h s,f1 Rp.str k d.phases,.tr fP [l] u d.moves,f1 Rp.bool f d.possible,.blk p [k,i6 d.tracks,l,m,f] 146,.own (Rp.int .i64) q 3 D,.blk o [h,f,q] 222,.tr (Rt.row fF 170 [(y.toNat,[n])]) [m] C B,.tr fF [n] G F]) [.tr fP [l] u d.moves,.blk p [k,i6 d.tracks,l,m,f] 146,.tr (Rt.row fF 170 [(y.toNat,[n])]) [m] C B,f1 gX h s,f1 Rp.str k d.phases,f1 Rp.bool f d.possible,.tr fF [n] I x.2,.own (Rp.int .i64) E 3 K,.blk o [h,f,E] 222,.own (Rp.int .i64) Q 3 ([x.1]:List Int)]:=H.pick [3,4,5,6,7,8,9,10,11,12]
   refine ⟨H.only,?_⟩
   refine MxM.xE fun ct hS=>?_
   have H:=H.sees hS
   have H:=bi.rejoin H
   refine yL (zF (bg _ _ ?_))
   refine zA ?_
   obtain ⟨am,bz,j⟩:=zC j
   refine zG (xI (a:=y) (b:=1) rfl rfl bz)<| zH (i6 am) ?_
   have H:Hd _ _ _ _ [.tr fP [l] u d.moves,.blk p [k,i6 d.tracks,l,m,f] 146,.tr (Rt.row fF 170 [(y.toNat,[n])]) [m] C B,f1 gX h s,f1 Rp.str k d.phases,f1 Rp.bool f d.possible,.tr fF [n] I x.2,.own (Rp.int .i64) E 3 K,.blk o [h,f,E] 222,.own (Rp.int .i64) Q 3 ([x.1]:List Int)]:=H
   obtain ⟨an,b0,j⟩:=zD j
   obtain ⟨ao,H⟩:=H.unfocus 2 6 rfl rfl (by decide) rfl rfl b0
   have H:Hd _ _ _ _ [.tr fP [l] u d.moves,.blk p [k,i6 d.tracks,l,m,f] 146,f1 gX h s,f1 Rp.str k d.phases,f1 Rp.bool f d.possible,.own (Rp.int .i64) E 3 K,.blk o [h,f,E] 222,.own (Rp.int .i64) Q 3 ([x.1]:List Int),.tr fO [m] ao an]:=H
   exact (yA (zF (meet ⟨(bb,am,an,K,ao,E),(zJ rfl zK),⟨H.pick [2,3,0,8,4,1,5,6],j⟩,Nat.lt_succ_self _⟩)))
  have j:=zO U j
  obtain rfl:=gJ j
  exact (xG (yI (yI (yT (zF (meet ⟨(ba,q),zK,H.pick [0,1,2,3,4,5,6,7]⟩))))))
 rintro ⟨b1,X⟩ ρ cu H
 have j:=a3
 obtain ⟨cv,cw⟩:=N
 refine zB fun cx b2=>zA<| zH (gV o)<| zG (zS rfl)<| zG (aCv rfl)<| Ld mM H 7 2 rfl rfl<| zI X<| RN b2 ?_
 obtain rfl:=gJ j
 refine (zY (fB (v1:=X) rfl rfl ?_))
 exact ⟨X,k,l,u,m,b1,f,rfl,H.pick [6,1,2,3,4,5]⟩
theorem Fa7w (d:fD)(l:Nat)(j:Value)(f:Value)(n:List Nat)(h:Value)(o:List Nat)(k:Value)(r:(List Str))(c:Fa7 d=some r)(O S:List Nat)(w:World)(H:Hd O w w S [.tr fP [f] n d.moves,.tr fO [h] o d.rules,.blk l [j,i6 d.tracks,f,h,k] 146,f1 Rp.str j d.phases,f1 Rp.bool k d.possible]):
  Cl 27 [gV l] w fun e F=> ∃z G I,e= .returned (z)∧Hd O w F S [.own Rp.str z 9 r,.tr fP [f] G d.moves,.tr fO [h] I d.rules,.blk l [j,i6 d.tracks,f,h,k] 146]:=by
 unfold Fa7 at c
 refine CW 29 Tryz.func27 ?_
 refine zB fun a0 J=>zA<| zI (.slice none 0 0)<| RN J<| zB fun a1 K=>zA<| zI (.slice none 0 0)<| RN K ?_
 obtain ⟨A,c,L⟩:=zD c
 refine yH [3,4,5,6,7,8,9,10,11,12,13,14,15,16,17,18,19,20,21,22,23,24,25,26,27] (fun (g:Value)=>[(3,g)]) (fun g wl=>Hd O w wl S [.own Rp.str g 9 A,.tr fP [f] n d.moves,.tr fO [h] o d.rules,.blk l [j,i6 d.tracks,f,h,k] 146,f1 Rp.str j d.phases,f1 Rp.bool k d.possible]) ?_ ?_
 ·skip
  refine zB fun a2 M=>zA<| zH (gV l)<| zG (zS rfl)<| zG (aAp rfl)<| Ld aBt H 2 4 rfl rfl ?_
  obtain ⟨N,P,c⟩:=zC c
  obtain ⟨a3,a4,Q⟩:=SlF.len ((H.item (i:=4) rfl))
  refine zG (yK (xH uA Q) (congrArg (Value.int .i64) P))<| zH (i6 0)<| RN M<| yD ?_
  have H:=bW H Rp.str 9
  unfold Ffb at c
  obtain ⟨R,B,T,c⟩:=yS c
  refine xC [3,4,5,11,12,13,14,15,16,17,18,19,20,21,22,23,24,25,26,27] (fun (g:Nat×(List Str)×Int×Value)=>[(3,g.2.2.2),(11,i6 g.2.2.1)]) (fun g wl=>Hd O w wl S [.own Rp.str g.2.2.2 9 g.2.1,.tr fP [f] n d.moves,.tr fO [h] o d.rules,.blk l [j,i6 d.tracks,f,h,k] 146,f1 Rp.str j d.phases,f1 Rp.bool k d.possible]∧fU R g.1 (g.2.1,g.2.2.1)=some A) (fun g=>g.1) (B,[],0,.slice none 0 0) (zJ rfl (zJ rfl zK)) ⟨H.pick [5,0,1,2,3,4],c⟩ ?_
  clear H c
  rintro ⟨B,a5,m,t⟩ ρ a6 ⟨H,c⟩
  obtain ⟨U,rfl,c⟩:=yX c
  have c:=yY T c
  refine zB fun a7 V=>zA ?_
  obtain ⟨X,Y,c⟩:=zC c
  refine zG (zL (xN (a:=m) (b:=N) rfl rfl) Y)<| RN V<| zB fun a8 Z=>zZ (b:=X) rfl (fun u=>?_) (fun u=>?_)
  ·have c:=zN u c
   refine zW (zF (Z _ _ ?_))
   obtain ⟨C,c,aa⟩:=zD c
   refine yH [3,4,5,13,14,15,16,17,18,19,20,21,22,23,24,25,26] (fun (g:Value)=>[(3,g)]) (fun g wl=>Hd O w wl S [.own Rp.str g 9 C,.tr fP [f] n d.moves,.tr fO [h] o d.rules,.blk l [j,i6 d.tracks,f,h,k] 146,f1 Rp.str j d.phases,f1 Rp.bool k d.possible]) ?_ ?_
   ·skip
    refine yD ?_
    refine zB fun a9 ab=>zA<| zH (i6 m) ?_
    obtain ⟨q,v,c⟩:=zD c
    obtain ⟨ac,ad,ba,ae,af,ag,ah,ai,aj⟩:=dC (H.item (i:=5) rfl) v
    obtain rfl:ae= [.bool q]:=ag
    have H:=H.fz (.at ac (ad+m.toNat * 1) _) ⟨ah,ai,aj⟩
    refine zG (xA uA sz4 af rfl (zX v).1 (zX v).2.1 rfl rfl)<| zG (yZ qO rfl (Cells.get (H.item (i:=6) rfl).2.2 (i:=0) rfl))<| zI (i6 m)<| zI (.bool q)<| RN ab<| zB fun bb ak=>zA<| zH (.bool q)<| RN ak<| zZ (b:=q) rfl (fun x=>?_) (fun x=>?_)
    ·have c:=zN x c
     refine zA ?_
     refine zH t<| zH (gV l)<| zG (zS rfl)<| zG (aSi rfl)<| Ld jI H 3 0 rfl rfl<| zH (i6 m) ?_
     obtain ⟨p,y,c⟩:=zD c
     obtain ⟨al,am,bc,an,ao,ap,aq,ar,au⟩:=dC (H.item (i:=4) rfl) y
     obtain rfl:an= [sb p]:=ap
     have H:=H.fz (.at al (am+m.toNat * 1) _) ⟨aq,ar,au⟩
     refine zG (xA u22 sz9 ao rfl (zX y).1 (zX y).2.1 rfl rfl)<| zG (yZ dU rfl (Cells.get (H.item (i:=7) rfl).2.2 (i:=0) rfl)) ?_
     obtain ⟨bd,av,c⟩:=zC c
     subst av
     refine yR rfl rfl (kT (r:=Rp.str) (xl:=[p]) (cs:=[sb p]) u22 el9 (by decide) (by decide) rfl (xJ (vs:=[sb p]) (by decide) rfl rfl ⟨rfl,trivial⟩ rfl) H ⟨[sb p],[],rfl,rfl,rfl⟩) ?_
     rintro be bf H
     obtain ⟨bg,aw,c⟩:=zD c
     refine yR rfl rfl (kL H (i:=0) rfl u22 el9 rfl rfl (Sr.of_own (H.item (i:=8) rfl)) aw) ?_
     rintro D bh H
     refine zI D ?_
     obtain rfl:=gJ c
     exact (yA (yL (zF (meet ⟨D,(zJ rfl zK),H.pick [0,1,2,3,4,5]⟩))))
    have c:=zO x c
    obtain rfl:=gJ c
    exact (zW (yL (zF (meet ⟨t,(zJ rfl zK),H.pick [0,1,2,3,4,5]⟩))))
   rintro ax ρ bi H
   have c:=aa
   refine zA ?_
   obtain ⟨E,ay,c⟩:=zC c
   refine zG (xI (a:=m) (b:=1) rfl rfl ay)<| zH (i6 E) ?_
   exact (yA (zF (meet ⟨(U,C,E,ax),(zJ rfl (zJ rfl zK)),⟨H.pick [0,1,2,3,4,5],c⟩,Nat.lt_succ_self _⟩)))
  have c:=zO u c
  obtain rfl:=gJ c
  exact (xG (yI (yI (yT (zF (meet ⟨t,(zJ rfl zK),H.pick [0,1,2,3,4,5]⟩))))))
 rintro s ρ bj H
 have c:=L
 refine zB fun bk az=>zA<| zH s<| zI s<| RN az ?_
 obtain rfl:=gJ c
 refine (zY (fB (v1:=s) rfl rfl ?_))
 exact ⟨s,n,o,rfl,H.pick [0,1,2,3]⟩
theorem Fcsw (l:List Int)(J:List Str)(C:List (List Int))(k:Value)(K:Value)(p:Nat)(h:Value)(L:List Nat)(r:(List (List Int)))(c:Fcs l J C=some r)(O S:List Nat)(w:World)(H:Hd O w w S [.tr (Rt.row (Rt.row (Rt.of (Rp.int .i64)) 3 []) 38 []) [h] L C,.blk p [h] 28,f1 (Rp.int .i64) k l,f1 Rp.str K J]):
  Cl 54 [k,K,gV p] w fun e o=> ∃M Z,e= .returned (.tuple #[])∧Hd O w o S [.tr (Rt.row (Rt.row (Rt.of (Rp.int .i64)) 3 []) 38 []) [M] Z r,.blk p [M] 28]:=by
 unfold Fcs at c
 refine CW 25 Tryz.func54 ?_
 refine zB fun a5 aa=>zA<| zH k ?_
 obtain ⟨ab,ac,c⟩:=zC c
 obtain ⟨a6,a7,ad⟩:=SlF.len ((H.item (i:=2) rfl))
 refine zG (yK (xH u38 ad) (congrArg (Value.int .i64) ac))<| zH (i6 0)<| RN aa<| yD ?_
 unfold Fet at c
 obtain ⟨ae,N,af,c⟩:=yS c
 refine xC [5,6,9,10,11,12,13,14,15,16,17,18,19,20,21,22,23,24] (fun (g:Nat×Int×(List (List Int))×(List Nat))=>[(9,i6 g.2.1)]) (fun g wl=>Hd O w wl S [.tr (Rt.row (Rt.row (Rt.of (Rp.int .i64)) 3 []) 38 []) [h] g.2.2.2 g.2.2.1,.blk p [h] 28,f1 (Rp.int .i64) k l]∧fU ae g.1 (g.2.1,g.2.2.1)=some r) (fun g=>g.1) (N,0,C,L) (zJ rfl zK) ⟨H.pick [0,1,2],c⟩ ?_
 clear H c
 rintro ⟨N,d,q,u⟩ ρ B ⟨H,c⟩
 obtain ⟨ag,rfl,c⟩:=yX c
 have c:=yY af c
 refine zB fun a8 ah=>zA ?_
 obtain ⟨ai,aj,c⟩:=zC c
 refine zG (zL (xN (a:=d) (b:=ab) rfl rfl) aj)<| RN ah<| zB fun a9 ak=>zZ (b:=ai) rfl (fun D=>?_) (fun D=>?_)
 ·have c:=zN D c
  refine zW (zF (ak _ _ ?_))
  refine zB fun ba al=>?_
  refine yD ?_
  refine zB fun bb am=>zA<| zH (i6 d) ?_
  obtain ⟨f,E,c⟩:=zD c
  obtain ⟨m,n,bc,an,ao,ap,aq,ar,au⟩:=dC (H.item (i:=2) rfl) E
  obtain rfl:an= [i6 f]:=ap
  have H:=H.fz (.at m (n+d.toNat * 1) _) ⟨aq,ar,au⟩
  refine zG (xA u38 sz3 ao rfl (zX E).1 (zX E).2.1 rfl rfl)<| zG (yZ fK rfl (Cells.get (H.item (i:=3) rfl).2.2 (i:=0) rfl))<| zI (i6 d)<| zI (i6 f)<| RN am ?_
  have av:=H
  have H:=H.rebase
  have aw:=H
  have F:Hd (O++bks (rest [0] [.tr (Rt.row (Rt.row (Rt.of (Rp.int .i64)) 3 []) 38 []) [h] u q,.blk p [h] 28,f1 (Rp.int .i64) k l,.fz (.at m (n+d.toNat * 1) [i6 f])])) B B (bks (Go.Lf.pick ([0]++ [2,3]) [.tr (Rt.row (Rt.row (Rt.of (Rp.int .i64)) 3 []) 38 []) [h] u q,.blk p [h] 28,f1 (Rp.int .i64) k l,.fz (.at m (n+d.toNat * 1) [i6 f])])) [.tr (Rt.row (Rt.row (Rt.of (Rp.int .i64)) 3 []) 38 []) [h] u q,f1 (Rp.int .i64) k l,.fz (.at m (n+d.toNat * 1) [i6 f])]:=H.enter [0] [2,3]
  have P:=H.firmB F (i:=1) rfl (List.mem_append_right _ List.mem_cons_self)
  refine uC H F [0,2,3,4,5,6,7] 1 8 [9] [10] [.pure,.pure,.pure,.pure,.pure,.read,.pure,.new,.eff,.pure,.eff] ⟨trivial,trivial,trivial,trivial,trivial,trivial,trivial,trivial,trivial,trivial,trivial,trivial⟩ mixed (by kernel_rfl) (by kernel_rfl) (by kernel_rfl) (by kernel_rfl) (by kernel_rfl) (by decide) ?_
  have H:=F
  refine XP (fun o j=>yZ one28 rfl (Cells.get (Blk.cells (P o j)) (i:=0) rfl))<| XP (fun o j=>yZ one28 rfl (Cells.get (Blk.cells (P o j)) (i:=0) rfl))<| XM (i6 d) ?_
  obtain ⟨ax,z,c⟩:=zD c
  obtain ⟨bd,be,bf,G⟩:=kQ (H.item (i:=0) rfl) z
  refine XP (fun _ _=>xA u28 aCr G rfl (zX z).1 (zX z).2.1 rfl rfl) ?_
  obtain ⟨bg,v,ay,H⟩:=H.focusV 0 rfl G z rfl
  obtain ⟨x,rfl⟩:=jY rfl (H.item (i:=3) rfl)
  have H:Hd _ _ _ _ [f1 (Rp.int .i64) k l,.fz (.at m (n+d.toNat * 1) [i6 f]),.tr (Rt.row (Rt.row (Rt.of (Rp.int .i64)) 3 []) 38 [(d.toNat,[x])]) [h] v q,.tr (Rt.row (Rt.of (Rp.int .i64)) 3 []) [x] ay ax]:=H
  refine MxM.xZ oS rfl rfl rfl (fun o j=>yZ mM rfl (Cells.get ((H.sees j).holeW 2 rfl G z rfl dF) (i:=0) rfl)) ?_
  refine XM (i6 f) ?_
  obtain ⟨bh,az,c⟩:=zC c
  subst az
  refine MxM.XL_exN oS rfl rfl rfl (fun o j=>pK (kT (r:=(Rp.int .i64)) (xl:=[f]) (cs:=[i6 f]) u38 el3 (by decide) (by decide) rfl (xJ (vs:=[i6 f]) (by decide) rfl rfl ⟨rfl,trivial⟩ rfl) (H.sees j) ⟨[i6 f],[],rfl,rfl,rfl⟩) (aMh (cs:=[i6 f]) u38 el3 (by decide) (by decide) (xJ (vs:=[i6 f]) (by decide) rfl rfl ⟨rfl,trivial⟩ rfl))) ?_
  rintro o y bi j H
  refine MxM.xE fun bj hS=>?_
  have H:=H.sees hS
  obtain ⟨A,Q,c⟩:=zD c
  refine MxM.XL_join (du:=15) (dv:=22) (fun g1 g2 wl=> ∃(s:Value) (t:List Nat),i6 d=g1∧s=g2∧Hd (O++bks (rest [0] [.tr (Rt.row (Rt.row (Rt.of (Rp.int .i64)) 3 []) 38 []) [h] u q,.blk p [h] 28,f1 (Rp.int .i64) k l,.fz (.at m (n+d.toNat * 1) [i6 f])])) B wl (bks (Go.Lf.pick ([0]++ [2,3]) [.tr (Rt.row (Rt.row (Rt.of (Rp.int .i64)) 3 []) 38 []) [h] u q,.blk p [h] 28,f1 (Rp.int .i64) k l,.fz (.at m (n+d.toNat * 1) [i6 f])])) [f1 (Rp.int .i64) k l,.fz (.at m (n+d.toNat * 1) [i6 f]),.tr (Rt.row (Rt.row (Rt.of (Rp.int .i64)) 3 []) 38 [(d.toNat,[x])]) [h] v q,.own (Rp.int .i64) y 3 ([f]:List Int),.tr (Rt.row (Rt.of (Rp.int .i64)) 3 []) [s] t A]) ?_ ?_ ?_
  ·skip
   refine XM (i6 d)<| MxM.XL_ex oS rfl rfl rfl (fun o j=>aDb (H.sees j) 3 rfl u38 el3 rfl rfl (Sr.of_own ((H.sees j).item (i:=4) rfl)) Q) ?_
   rintro o s bk j ⟨t,H⟩
   refine ⟨H.only,?_⟩
   have H:Hd _ _ _ _ [f1 (Rp.int .i64) k l,.fz (.at m (n+d.toNat * 1) [i6 f]),.tr (Rt.row (Rt.row (Rt.of (Rp.int .i64)) 3 []) 38 [(d.toNat,[x])]) [h] v q,.own (Rp.int .i64) y 3 ([f]:List Int),.tr (Rt.row (Rt.of (Rp.int .i64)) 3 []) [s] t A]:=H
   refine MxM.xE fun bl hS=>?_
   have H:=H.sees hS
   exact ⟨_,_,rfl,H.only,s,t,rfl,rfl,H⟩
  ·skip
   refine MxM.XL_ex oS rfl rfl rfl (fun o j=>aDb (H.sees j) 3 rfl u38 el3 rfl rfl (Sr.of_own ((H.sees j).item (i:=4) rfl)) Q) ?_
   rintro o R bm j ⟨T,H⟩
   refine ⟨H.only,?_⟩
   have H:Hd _ _ _ _ [f1 (Rp.int .i64) k l,.fz (.at m (n+d.toNat * 1) [i6 f]),.tr (Rt.row (Rt.row (Rt.of (Rp.int .i64)) 3 []) 38 [(d.toNat,[x])]) [h] v q,.own (Rp.int .i64) y 3 ([f]:List Int),.tr (Rt.row (Rt.of (Rp.int .i64)) 3 []) [R] T A]:=H
   refine XM (i6 d)<| MxM.xE fun bn hS=>?_
   have H:=H.sees hS
   exact ⟨_,_,MxM.upd_comm _ (by decide) _ _,H.only,R,T,rfl,rfl,H⟩
  rintro M' _ _ bo ⟨s,t,rfl,rfl,H⟩
  obtain ⟨bp,I,c⟩:=zD c
  obtain ⟨bq,br,bt,U⟩:=kQ (H.item (i:=2) rfl) I
  refine XP (fun _ _=>xA u28 aCr U rfl (zX I).1 (zX I).2.1 rfl rfl)<| MxM.xE fun a2 hS=>?_
  have H:=H.sees hS
  have H:=aw.back [0] [2,3] rfl H
  have H:Hd _ _ _ _ [.blk p [h] 28,f1 (Rp.int .i64) k l,.fz (.at m (n+d.toNat * 1) [i6 f]),f1 (Rp.int .i64) k l,.fz (.at m (n+d.toNat * 1) [i6 f]),.tr (Rt.row (Rt.row (Rt.of (Rp.int .i64)) 3 []) 38 [(d.toNat,[x])]) [h] v q,.own (Rp.int .i64) y 3 ([f]:List Int),.tr (Rt.row (Rt.of (Rp.int .i64)) 3 []) [s] t A]:=H
  have H:Hd O B a2 (bks [.tr (Rt.row (Rt.row (Rt.of (Rp.int .i64)) 3 []) 38 []) [h] u q,.blk p [h] 28,f1 (Rp.int .i64) k l,.fz (.at m (n+d.toNat * 1) [i6 f])]) [.blk p [h] 28,f1 (Rp.int .i64) k l,.fz (.at m (n+d.toNat * 1) [i6 f]),.tr (Rt.row (Rt.row (Rt.of (Rp.int .i64)) 3 []) 38 [(d.toNat,[x])]) [h] v q,.own (Rp.int .i64) y 3 ([f]:List Int),.tr (Rt.row (Rt.of (Rp.int .i64)) 3 []) [s] t A]:=H.pick [0,3,4,5,6,7]
  refine ⟨H.only,?_⟩
  refine MxM.XL_exU oS rfl rfl (fun o j=>aFv (vs:=[s]) (off:=0) (H.sees j) 3 rfl U z rfl rfl aCr rfl rfl (aHw (mQ ((H.sees j).item (i:=5) rfl))) (kR ⟨(mQ ((H.sees j).item (i:=5) rfl)),trivial⟩) (by show _≤1; decide)) ?_
  rintro o bu j H
  refine ⟨H.only,?_⟩
  refine MxM.xE fun bv hS=>?_
  have H:=H.sees hS
  have H:=av.rejoin H
  refine yL (zF (al _ _ ?_))
  refine zA ?_
  obtain ⟨V,a3,c⟩:=zC c
  refine zG (xI (a:=d) (b:=1) rfl rfl a3)<| zH (i6 V) ?_
  have H:Hd _ _ _ _ [.blk p [h] 28,f1 (Rp.int .i64) k l,.fz (.at m (n+d.toNat * 1) [i6 f]),.tr (Rt.row (Rt.row (Rt.of (Rp.int .i64)) 3 []) 38 [(d.toNat,[s])]) [h] v q,.own (Rp.int .i64) y 3 ([f]:List Int),.tr (Rt.row (Rt.of (Rp.int .i64)) 3 []) [s] t A]:=H
  obtain ⟨X,a4,c⟩:=zD c
  obtain ⟨Y,H⟩:=H.unfocus 3 5 rfl rfl (by decide) rfl rfl a4
  have H:Hd _ _ _ _ [.blk p [h] 28,f1 (Rp.int .i64) k l,.fz (.at m (n+d.toNat * 1) [i6 f]),.own (Rp.int .i64) y 3 ([f]:List Int),.tr (Rt.row (Rt.row (Rt.of (Rp.int .i64)) 3 []) 38 []) [h] Y X]:=H
  exact (yA (zF (meet ⟨(ag,V,X,Y),(zJ rfl zK),⟨H.pick [4,0,1],c⟩,Nat.lt_succ_self _⟩)))
 have c:=zO D c
 obtain rfl:=gJ c
 refine (xG (yI (yI (yT (uB rfl ?_)))))
 exact ⟨h,u,rfl,H.pick [0,1]⟩
set_option maxRecDepth 100000 in
theorem Fcdw (j:Rules)(k:List fG)(m:Int)(p:Int)(p4c0:List (List Int))(v1:Value)(n:Value)(o:Value)(f:Value)(h:Nat)(l:Value)(t:List Nat)(r:Int×(List (List Int)))(c:Fcd j k m p p4c0=some r)(O S:List Nat)(w:World)(H:Hd O w w S [.tr (Rt.row (Rt.row (Rt.of (Rp.int .i64)) 3 []) 38 []) [l] t p4c0,.blk h [l] 28,f1 Rp.str v1 j.Phases,f1 gU n j.Moves,f1 gZ o j.Rules,f1 fM f k]):
  Cl 53 [.agg [v1,n,o].toArray,f,i6 m,i6 p,.func (.func 54) #[] #[gV h]] w fun e w'=> ∃ag aw,e= .returned (i6 r.1)∧Hd O w w' S [.tr (Rt.row (Rt.row (Rt.of (Rp.int .i64)) 3 []) 38 []) [ag] aw r.2,.blk h [ag] 28]:=by
 unfold Fcd at c
 refine CW 54 Tryz.func53 ?_
 refine zB fun ct ax=>zA<| yR rfl rfl (xW (cs:=[v1,n,o]) rfl H) ?_
 rintro _ cu ⟨ah,rfl,H⟩
 refine zI (i6 0)<| RN ax<| zB fun cv ay=>zB fun cw az=>zA<| zG (yK (yJ (cs:=[v1,n,o]) mZ rfl rZ rfl (Hbc H 6 rfl)) rfl)<| zH f ?_
 have a0:=H
 obtain ⟨A,a1,c⟩:=zD c
 refine yB rfl rfl (zV en73 rfl) (Fcbw j k v1 n o f _ a1 _ _ _ (H.enter [] [2,3,4,5])) ?_
 rintro _ cx ⟨rfl,a2⟩
 have H:=a0.step (a2.only:Only [] _ _)
 refine ⟨_,rfl,?_⟩
 refine zI (i6 A)<| RN az<| zB fun cy a3=>zA<| zH (i6 A) ?_
 obtain ⟨a4,a5,c⟩:=zC c
 refine zG (zL (wI (a:=A) (b:=0) rfl rfl) a5)<| RN a3<| zZ (b:=a4) rfl (fun N=>?_) (fun N=>?_)
 ·have c:=zN N c
  refine zB fun cz a6=>zA<| zH (i6 A)<| zI (i6 A)<| RN a6 ?_
  obtain rfl:=gJ c
  refine (zY (zT (fB (v1:=i6 A) rfl rfl ?_)))
  exact ⟨l,t,rfl,H.pick [0,1]⟩
 have c:=zO N c
 refine zW (zF (ay _ _ ?_))
 refine zB fun c0 a7=>?_
 obtain ⟨ai,c,a8⟩:=zD c
 refine yH [20,21,22,23,24,25,26,27,28,29,30] (fun (g:Unit)=>[(30,.bool ai)]) (fun g wl=>Hd O w wl S [.tr (Rt.row (Rt.row (Rt.of (Rp.int .i64)) 3 []) 38 []) [l] t p4c0,.blk h [l] 28,f1 Rp.str v1 j.Phases,f1 gU n j.Moves,f1 gZ o j.Rules,f1 fM f k,.blk ah [v1,n,o] 26]) ?_ ?_
 ·skip
  refine zA ?_
  refine zH (i6 m) ?_
  obtain ⟨a9,ba,c⟩:=zC c
  refine zG (zL (xN (a:=m) (b:=0) rfl rfl) ba) ?_
  obtain ⟨aj,c,bb⟩:=zD c
  refine dL 5 [22,23,24,25,26] [(26,.bool aj)] (fun wl=>Hd O w wl S [.tr (Rt.row (Rt.row (Rt.of (Rp.int .i64)) 3 []) 38 []) [l] t p4c0,.blk h [l] 28,f1 Rp.str v1 j.Phases,f1 gU n j.Moves,f1 gZ o j.Rules,f1 fM f k,.blk ah [v1,n,o] 26]) ?_ ?_
  ·skip
   refine yO (b:=a9) rfl rfl rfl (fun P=>?_) (fun P=>?_)
   ·have c:=zN P c
    refine yE ?_
    refine yE ?_
    refine yE ?_
    refine zG (yG (v:= .bool true) rfl rfl) ?_
    obtain rfl:=gJ c
    exact yA (zF (meet ⟨(zJ rfl zK),H.pick [0,1,2,3,4,5,6]⟩))
   have c:=zO P c
   refine zH (i6 m)<| zH (i6 p) ?_
   obtain ⟨bc,bd,c⟩:=zC c
   refine zG (zL (bZ (a:=m) (b:=p) rfl rfl) bd)<| zG (yF (v:= .bool bc) rfl rfl) ?_
   obtain rfl:=gJ c
   exact yA (zF (meet ⟨(zJ rfl zK),H.pick [0,1,2,3,4,5,6]⟩))
  rintro ρ c1 H
  have c:=bb
  refine yO (b:=aj) rfl rfl rfl (fun Q=>?_) (fun Q=>?_)
  ·have c:=zN Q c
   refine yE ?_
   refine yE ?_
   refine zG (yG (v:= .bool true) rfl rfl) ?_
   obtain rfl:=gJ c
   exact (yA (zF (meet ⟨(),(zJ rfl zK),H.pick [0,1,2,3,4,5,6]⟩)))
  have c:=zO Q c
  refine zH (i6 p) ?_
  obtain ⟨be,bf,c⟩:=zC c
  refine zG (zL (jD (a:=p) (b:=4194304) rfl rfl) bf)<| zG (yF (v:= .bool be) rfl rfl) ?_
  obtain rfl:=gJ c
  exact (yA (zF (meet ⟨(),(zJ rfl zK),H.pick [0,1,2,3,4,5,6]⟩)))
 rintro _ ρ c2 H
 have c:=a8
 refine zZ (b:=ai) rfl (fun R=>?_) (fun R=>?_)
 ·have c:=zN R c
  refine zB fun c3 bg=>zA<| zI (i6 9)<| RN bg ?_
  obtain rfl:=gJ c
  refine (zY (zT (fB (v1:=i6 9) rfl rfl ?_)))
  exact ⟨l,t,rfl,H.pick [0,1]⟩
 have c:=zO R c
 refine zW (zF (a7 _ _ ?_))
 refine zB fun c4 bh=>?_
 refine zB fun c5 bi=>zA<| zH (i6 p)<| zH (i6 m) ?_
 obtain ⟨bj,bk,c⟩:=zC c
 refine zG (bY (a:=p) (b:=m) rfl rfl bk) ?_
 obtain ⟨bl,bm,c⟩:=zC c
 refine zG (xI (a:=bj) (b:=1) rfl rfl bm) ?_
 obtain ⟨bn,bo,c⟩:=zC c
 refine zG (zL (bZ (a:=bl) (b:=20000) rfl rfl) bo)<| RN bi<| zZ (b:=bn) rfl (fun T=>?_) (fun T=>?_)
 ·have c:=zN T c
  refine zB fun c6 bp=>zA<| zI (i6 3)<| RN bp ?_
  obtain rfl:=gJ c
  refine (zY (zT (fB (v1:=i6 3) rfl rfl ?_)))
  exact ⟨l,t,rfl,H.pick [0,1]⟩
 have c:=zO T c
 refine zW (zF (bh _ _ ?_))
 refine zB fun c7 bq=>zA<| zG (yK (yJ (cs:=[v1,n,o]) mZ rfl rZ rfl (Hbc H 6 rfl)) rfl)<| zH f ?_
 obtain ⟨q,br,c⟩:=zD c
 refine yB rfl rfl (zV en74 rfl) (Fbzw j k v1 n o f _ br _ _ _ (H.enter [] [2,3,4,5])) ?_
 rintro _ bt ⟨s,U,V,ak,X,al,Y,rfl,bu⟩
 have H:=H.back1 [2,3,4,5] rfl bu
 refine ⟨_,rfl,?_⟩
 refine zI (gV s)<| RN bq ?_
 have H:Hd O w bt S [.tr (Rt.row (Rt.row (Rt.of (Rp.int .i64)) 3 []) 38 []) [l] t p4c0,.blk h [l] 28,f1 fM f k,f1 Rp.str U q.phases,.tr fP [V] ak q.moves,.tr fO [X] al q.rules,f1 Rp.bool Y q.possible,.blk s [U,i6 q.tracks,V,X,Y] 146]:=H.pick [0,1,5,7,8,9,10,11]
 obtain ⟨am,c,bv⟩:=zD c
 refine yH [13,39,40,41,42,43,44,45,46,47,48,49,50,51,52,53] (fun (g:Value×(List Nat))=>[]) (fun g wl=>Hd O w wl S [.blk h [g.1] 28,.tr (Rt.row (Rt.row (Rt.of (Rp.int .i64)) 3 []) 38 []) [g.1] g.2 am]) ?_ ?_
 ·skip
  refine zB fun c8 bw=>zA<| zH (i6 m)<| zI (i6 m)<| RN bw<| yD ?_
  unfold Fcc at c
  obtain ⟨bx,an,bz,c⟩:=yS c
  refine xC [13,40,41,42,43,44,45,46,47,48,49,50,51,52,53] (fun (g:Nat×Int×(List (List Int))×(List Str)×Int×(List fJ)×(List Nd)×(List Bool)×Value×(List Nat)×Value×Value×(List Nat)×Value×(List Nat)×Value)=>[(13,i6 g.2.1)]) (fun g wl=>Hd O w wl S [.blk h [g.2.2.2.2.2.2.2.2.1] 28,.tr (Rt.row (Rt.row (Rt.of (Rp.int .i64)) 3 []) 38 []) [g.2.2.2.2.2.2.2.2.1] g.2.2.2.2.2.2.2.2.2.1 g.2.2.1,f1 fM f k,.blk s [g.2.2.2.2.2.2.2.2.2.2.1,i6 g.2.2.2.2.1,g.2.2.2.2.2.2.2.2.2.2.2.1,g.2.2.2.2.2.2.2.2.2.2.2.2.2.1,g.2.2.2.2.2.2.2.2.2.2.2.2.2.2.2] 146,f1 Rp.str g.2.2.2.2.2.2.2.2.2.2.1 g.2.2.2.1,.tr fP [g.2.2.2.2.2.2.2.2.2.2.2.1] g.2.2.2.2.2.2.2.2.2.2.2.2.1 g.2.2.2.2.2.1,.tr fO [g.2.2.2.2.2.2.2.2.2.2.2.2.2.1] g.2.2.2.2.2.2.2.2.2.2.2.2.2.2.1 g.2.2.2.2.2.2.1,f1 Rp.bool g.2.2.2.2.2.2.2.2.2.2.2.2.2.2.2 g.2.2.2.2.2.2.2.1]∧fU bx g.1 (g.2.1,g.2.2.1,g.2.2.2.1,g.2.2.2.2.1,g.2.2.2.2.2.1,g.2.2.2.2.2.2.1,g.2.2.2.2.2.2.2.1)=some am) (fun g=>g.1) (an,m,p4c0,q.phases,q.tracks,q.moves,q.rules,q.possible,l,t,U,V,ak,X,al,Y) (zJ rfl zK) ⟨H.pick [1,0,2,7,3,4,5,6],c⟩ ?_
  clear H c
  rintro ⟨an,B,Z,D,b0,b1,b2,E,C,F,G,b3,b4,b5,b6,I⟩ ρ c9 ⟨H,c⟩
  obtain ⟨b7,rfl,c⟩:=yX c
  have c:=yY bz c
  refine zB fun da b8=>?_
  refine zB fun db b9=>zA<| zH (i6 B)<| zH (i6 p) ?_
  obtain ⟨ca,cb,c⟩:=zC c
  refine zG (zL (qW (a:=B) (b:=p) rfl rfl) cb)<| RN b9<| zZ (b:=ca) rfl (fun aa=>?_) (fun aa=>?_)
  ·have c:=zN aa c
   refine zW (zF (b8 _ _ ?_))
   refine zB fun dc cc=>?_
   refine yD ?_
   refine zA ?_
   refine zH (.func (.func 54) #[] #[gV h])<| zH (gV s)<| zH f<| zH (i6 B) ?_
   obtain ⟨J,cd,c⟩:=zD c
   refine yB rfl rfl (zV en77 rfl) (Fa9w k B f _ cd _ _ _ (H.enter [] [2])) ?_
   rintro _ dd ⟨K,rfl,ce⟩
   have H:=H.back1 [2] rfl ce
   refine ⟨_,rfl,?_⟩
   have H:=H.freeze (i:=8) rfl
   obtain ⟨⟨L,d⟩,cf,c⟩:=zD c
   refine yB rfl rfl (zV en78 rfl) (Fa0w (fD.mk D b0 b1 b2 E) J s G b3 b4 b5 b6 I K _ cf _ _ _ (H.enter [5,6,3] [4,7,8])) ?_
   rintro _ cg ⟨M,u,x,ao,y,ap,z,rfl,ch⟩
   have H:Hd _ _ cg _ [.blk h [C] 28,.tr (Rt.row (Rt.row (Rt.of (Rp.int .i64)) 3 []) 38 []) [C] F Z,f1 fM f k,f1 Rp.str G D,f1 Rp.bool I E,f1 gX K J,.own (Rp.int .i64) M 3 L,f1 Rp.str u d.phases,.tr fP [x] ao d.moves,.tr fO [y] ap d.rules,f1 Rp.bool z d.possible,.blk s [u,i6 d.tracks,x,y,z] 146]:=H.back [5,6,3] [4,7,8] rfl ch
   refine ⟨_,rfl,?_⟩
   refine zH (gV s) ?_
   obtain ⟨ab,ci,c⟩:=zD c
   refine yB rfl rfl (zV en27 rfl) (Fa7w (fD.mk d.phases d.tracks d.moves d.rules d.possible) s u x ao y ap z _ ci _ _ _ (H.enter [8,9,11] [7,10])) ?_
   rintro _ cj ⟨ac,ad,ae,rfl,ck⟩
   have H:Hd _ _ cj _ [.blk h [C] 28,.tr (Rt.row (Rt.row (Rt.of (Rp.int .i64)) 3 []) 38 []) [C] F Z,f1 fM f k,f1 Rp.str G D,f1 Rp.bool I E,f1 gX K J,.own (Rp.int .i64) M 3 L,f1 Rp.str u d.phases,f1 Rp.bool z d.possible,.own Rp.str ac 9 ab,.tr fP [x] ad d.moves,.tr fO [y] ae d.rules,.blk s [u,i6 d.tracks,x,y,z] 146]:=H.back [8,9,11] [7,10] rfl ck
   refine ⟨_,rfl,?_⟩
   have H:=H.freeze (i:=6) rfl
   have H:=H.freeze (i:=9) rfl
   obtain ⟨aq,cl,c⟩:=zD c
   refine yB rfl rfl (bF en54 rfl rfl) (Fcsw L ab Z M ac h C F _ cl _ _ _ (H.enter [1,0] [6,9])) ?_
   rintro _ cm ⟨af,ar,rfl,cn⟩
   have H:Hd _ _ cm _ [f1 fM f k,f1 Rp.str G D,f1 Rp.bool I E,f1 gX K J,f1 (Rp.int .i64) M L,f1 Rp.str u d.phases,f1 Rp.bool z d.possible,f1 Rp.str ac ab,.tr fP [x] ad d.moves,.tr fO [y] ae d.rules,.blk s [u,i6 d.tracks,x,y,z] 146,.tr (Rt.row (Rt.row (Rt.of (Rp.int .i64)) 3 []) 38 []) [af] ar aq,.blk h [af] 28]:=H.back [1,0] [6,9] rfl cn
   refine ⟨_,rfl,?_⟩
   refine (yA (yL (zF (cc _ _ ?_))))
   refine zA ?_
   refine zH (i6 B) ?_
   obtain ⟨au,co,c⟩:=zC c
   refine zG (xI (a:=B) (b:=1) rfl rfl co)<| zI (i6 au) ?_
   exact (yA (zF (meet ⟨(b7,au,aq,d.phases,d.tracks,d.moves,d.rules,d.possible,af,ar,u,x,ad,y,ae,z),(zJ rfl zK),⟨H.pick [12,11,0,10,5,8,9,6],c⟩,Nat.lt_succ_self _⟩)))
  have c:=zO aa c
  obtain rfl:=gJ c
  exact (xG (yI (yI (yT (zF (meet ⟨(C,F),zK,H.pick [0,1]⟩))))))
 rintro ⟨cp,cq⟩ ρ de H
 have c:=bv
 refine zB fun df cr=>zA<| zI (i6 0)<| RN cr ?_
 obtain rfl:=gJ c
 refine (zY (fB (v1:=i6 0) rfl rfl ?_))
 exact ⟨cp,cq,rfl,H.pick [1,0]⟩
theorem Fbgw (d:Rules)(l:List fG)(m:Int)(n:Int)(v1:Value)(v2:Value)(f:Value)(j:Value)(r:(List (List Int))×Int)(c:Fbg d l m n=some r)(O S:List Nat)(w:World)(H:Hd O w w S [f1 Rp.str v1 d.Phases,f1 gU v2 d.Moves,f1 gZ f d.Rules,f1 fM j l]):
  Cl 15 [.agg [v1,v2,f].toArray,j,i6 m,i6 n] w fun e s=> ∃u9,e= .returned (.tuple #[u9,i6 r.2])∧Hd O w s S [.fz (.sl (Rp.sl (Rp.int .i64)) u9 r.1)]:=by
 unfold Fbg at c
 refine CW 26 Tryz.func15 ?_
 refine zB fun T t=>zA<| yR rfl rfl (xW (cs:=[v1,v2,f]) rfl H) ?_
 rintro _ U ⟨u,rfl,H⟩
 refine zI (.slice none 0 0)<| zI (i6 0)<| RN t<| zB fun V x=>zA<| zG (mP rfl)<| Ld sK H 4 2 rfl rfl ?_
 obtain ⟨X,y,c⟩:=zC c
 obtain ⟨Y,Z,z⟩:=SlF.len ((H.item (i:=2) rfl))
 refine zG (yK (xH u24 z) (congrArg (Value.int .i64) y)) ?_
 obtain ⟨A,B,c⟩:=zD c
 refine yR rfl rfl (Lx_makeT (R:=(Rt.row (Rt.of (Rp.int .i64)) 3 [])) u28 el38 rfl (fun _ _=>row_zero) rfl rfl B H) ?_
 rintro p aa ⟨C,H⟩
 refine yR rfl rfl (xB zero28 H) ?_
 rintro _ ab ⟨q,rfl,H⟩
 refine yV rfl (xK H 6 rfl sz28 rfl (v:=p) rfl (mQ (H.item (i:=5) rfl)) rfl) ?_
 rintro ac H
 refine RN x<| zB fun ad D=>zA<| zG (yK (yJ (cs:=[v1,v2,f]) mZ rfl rZ rfl (Hbc H 4 rfl)) rfl)<| zH j<| zH (i6 m)<| zH (i6 n)<| zG (dP rfl) ?_
 obtain ⟨⟨h,E⟩,F,c⟩:=zD c
 refine yB rfl rfl (zV en53 rfl) (Fcdw d l m n A v1 v2 f j q p C _ F _ _ _ (H.enter [5,6] [0,1,2,3])) ?_
 rintro _ G ⟨k,I,rfl,J⟩
 have H:Hd _ _ G _ [f1 Rp.str v1 d.Phases,f1 gU v2 d.Moves,f1 gZ f d.Rules,f1 fM j l,.blk u [v1,v2,f] 26,.tr (Rt.row (Rt.row (Rt.of (Rp.int .i64)) 3 []) 38 []) [k] I E,.blk q [k] 28]:=H.back [5,6] [0,1,2,3] rfl J
 refine ⟨_,rfl,?_⟩
 refine zI (i6 h)<| RN D<| zB fun ae K=>zB fun af L=>zA<| zH (i6 h) ?_
 obtain ⟨M,N,c⟩:=zC c
 refine zG (zL (wI (a:=h) (b:=0) rfl rfl) N)<| RN L<| zZ (b:=M) rfl (fun o=>?_) (fun o=>?_)
 ·have c:=zN o c
  refine zB fun ag P=>zA<| zH (i6 h)<| zI (.slice none 0 0)<| zI (i6 h)<| RN P ?_
  have H:=H.fz (.sl (Rp.sl (Rp.int .i64)) (.slice none 0 0) []) SlF.nil
  obtain rfl:=gJ c
  refine (zY (zT (pM (v1:= .slice none 0 0) (v2:=i6 h) rfl rfl rfl ?_)))
  exact ⟨.slice none 0 0,rfl,H.pick [7]⟩
 have c:=zO o c
 refine zW (zF (K _ _ ?_))
 refine zB fun ah Q=>zA<| Ld one28 H 6 0 rfl rfl<| zI k<| zI (i6 0)<| RN Q ?_
 have H:=H.freezeT (fr_row fr_of) 5 rfl
 obtain rfl:=gJ c
 refine (zY (pM (v1:=k) (v2:=i6 0) rfl rfl rfl ?_))
 exact ⟨k,rfl,H.pick [5]⟩
theorem Fe2w (d:gB)(f:Nat)(h:Value)(i:Value)(j:Value)(r:gB)(c:Fe2 d=some r)(O S:List Nat)(w:World)(H:Hd O w w S [.own Rp.str h 9 d.r.Phases,.own gU i 122 d.r.Moves,.own gZ j 95 d.r.Rules,.blk f [sb d.text,i6 d.at_,i6 d.now.kind,i6 d.now.at_,i6 d.now.n,sb d.now.text,h,i,j] 109]):
  Cl 174 [gV f] w fun e A=> ∃u9 s t,e= .returned (.tuple #[])∧Hd O w A S [.own Rp.str u9 9 r.r.Phases,.own gU s 122 r.r.Moves,.own gZ t 95 r.r.Rules,.blk f [sb r.text,i6 r.at_,i6 r.now.kind,i6 r.now.at_,i6 r.now.n,sb r.now.text,u9,s,t] 109]:=by
 unfold Fe2 at c
 refine CW 66 Tryz.func174 ?_
 refine yD ?_
 unfold Ff8 at c
 obtain ⟨B,u,C,c⟩:=yS c
 refine xC [2,3,4,5,6,7,8,9,10,11,12,13,14,15,16,17,18,19,20,21,22,23,24,25,26,27,28,29,30,31,32,33,34,35,36,37,38,39,40,41,42,43,44,45,46,47,48,49,50,51,52,53,54,55,56,57,58,59,60,61,62,63,64,65] (fun (g:Nat×Int)=>[]) (fun g wl=>Hd O w wl S [.own Rp.str h 9 d.r.Phases,.own gU i 122 d.r.Moves,.own gZ j 95 d.r.Rules,.blk f [sb d.text,i6 g.2,i6 d.now.kind,i6 d.now.at_,i6 d.now.n,sb d.now.text,h,i,j] 109]∧fU B g.1 g.2=some r) (fun g=>g.1) (u,d.at_) zK ⟨H.pick [0,1,2,3],c⟩ ?_
 clear H c
 rintro ⟨u,l⟩ ρ ak ⟨H,c⟩
 obtain ⟨D,rfl,c⟩:=yX c
 have c:=yY C c
 refine zB fun al E=>?_
 refine zB fun am F=>?_
 have G:=H
 have H:=H.rebase
 have an:=H
 refine xX H [0,1,2,3,4,5,6,7,8,9] (kz [0,0,0,1,0,0,0,1,0,0]) mixed ?_
 refine XM (gV f)<| XP (fun _ _=>zS rfl)<| XP (fun _ _=>kF rfl)<| XR fK H 3 1 rfl rfl<| XM (gV f)<| XP (fun _ _=>zS rfl)<| XP (fun _ _=>rJ rfl)<| XR dU H 3 0 rfl rfl ?_
 obtain ⟨I,J,c⟩:=zC c
 refine XP (fun _ _=>yK (kG (s1:=d.text) u9 rfl) (congrArg (Value.int .i64) J)) ?_
 obtain ⟨K,L,c⟩:=zC c
 refine XP (fun _ _=>zL (xN (a:=l) (b:=I) rfl rfl) L)<| MxM.xE fun ao hS=>?_
 have H:=H.sees hS
 have H:=G.rejoin H
 refine (zF (F _ _ ?_))
 refine zZ (b:=K) rfl (fun m=>?_) (fun m=>?_)
 ·have c:=zN m c
  refine zW (zF (E _ _ ?_))
  refine yD ?_
  refine zB fun ap M=>?_
  have N:=H
  have H:=H.rebase
  have aq:=H
  refine xX H [0,1,2,3,4,5,6,7,8] (kz [0,0,0,1,0,0,0,1,0]) mixed ?_
  refine XM (gV f)<| XP (fun _ _=>zS rfl)<| XP (fun _ _=>rJ rfl)<| XR dU H 3 0 rfl rfl<| XM (gV f)<| XP (fun _ _=>zS rfl)<| XP (fun _ _=>kF rfl)<| XR fK H 3 1 rfl rfl ?_
  obtain ⟨k,P,c⟩:=zD c
  refine XP (fun _ _=>wW (s1:=d.text) (q:=l) u9 rfl rfl P)<| MxM.xE fun ar hS=>?_
  have H:=H.sees hS
  have H:=N.rejoin H
  refine (zF (M _ _ ?_))
  refine yD ?_
  obtain ⟨x,c,Q⟩:=zD c
  refine yH [22,23,24,25,26] (fun (g:Unit)=>[(22,.bool x)]) (fun g wl=>Hd O w wl S [.own Rp.str h 9 d.r.Phases,.own gU i 122 d.r.Moves,.own gZ j 95 d.r.Rules,.blk f [sb d.text,i6 l,i6 d.now.kind,i6 d.now.at_,i6 d.now.n,sb d.now.text,h,i,j] 109]) ?_ ?_
  ·skip
   refine zB fun au R=>zA ?_
   obtain ⟨y,T,c⟩:=zC c
   refine zG (zL (yQ (a:=k) (b:=32) rfl rfl) T)<| zI (.bool y)<| RN R<| zZ (b:=y) rfl (fun o=>?_) (fun o=>?_)
   ·have c:=zN o c
    obtain rfl:=gJ c
    exact (zW (zF (meet ⟨(),(zJ rfl zK),H.pick [0,1,2,3]⟩)))
   have c:=zO o c
   refine zB fun av U=>zA ?_
   obtain ⟨V,X,c⟩:=zC c
   refine zG (zL (yQ (a:=k) (b:=9) rfl rfl) X)<| zI (.bool V)<| RN U ?_
   obtain ⟨Y,c⟩:=wF c
   refine dA Y ?_
   refine zB fun aw Z=>zA ?_
   obtain ⟨aa,ab,c⟩:=zC c
   refine zG (zL (yQ (a:=k) (b:=10) rfl rfl) ab)<| zI (.bool aa)<| RN Z ?_
   obtain ⟨ac,c⟩:=wF c
   refine dA ac ?_
   refine zA ?_
   obtain ⟨ad,ae,c⟩:=zC c
   refine zG (zL (yQ (a:=k) (b:=13) rfl rfl) ae)<| zI (.bool ad) ?_
   obtain rfl:=gJ c
   exact (yA (zF (meet ⟨(),(zJ rfl zK),H.pick [0,1,2,3]⟩)))
  rintro _ ρ ax H
  have c:=Q
  refine zZ (b:=x) rfl (fun p=>?_) (fun p=>?_)
  ·have c:=zN p c
   refine zA ?_
   refine zH (gV f)<| zG (zS rfl)<| zG (kF rfl)<| Ld fK H 3 1 rfl rfl ?_
   obtain ⟨z,af,c⟩:=zC c
   refine zG (xI (a:=l) (b:=1) rfl rfl af)<| zG (zS rfl)<| zG (kF rfl)<| yV rfl (xK H 3 rfl sz3 rfl (v:=i6 z) rfl rfl rfl) ?_
   rintro ay H
   exact (yA (yL (yL (zF (meet ⟨(D,z),zK,⟨H.pick [0,1,2,3],c⟩,Nat.lt_succ_self _⟩)))))
  have c:=zO p c
  refine zB fun az ag=>zA ?_
  obtain ⟨ah,ai,c⟩:=zC c
  refine zG (zL (yQ (a:=k) (b:=35) rfl rfl) ai)<| zI (.bool ah)<| RN ag ?_
  obtain ⟨aj,c⟩:=wF c
  refine dA aj ?_
  obtain rfl:=gJ c
  refine (zY (yC (yC (zT (yC (aRv rfl ?_))))))
  exact ⟨h,i,j,rfl,H.pick [0,1,2,3]⟩
 have c:=zO m c
 obtain rfl:=gJ c
 refine (xG (yI (yI (yT (uB rfl ?_)))))
 exact ⟨h,i,j,rfl,H.pick [0,1,2,3]⟩
theorem Fdtw (f:Str)(d:Str)(r:Bool)(c:Fdt f d=some r)(O S:List Nat)(w:World)(H:Hd O w w S []):
  Cl 215 [sb f,sb d] w fun e k=>e= .returned (.bool r)∧Hd O w k S []:=by
 unfold Fdt at c
 refine CW 18 Tryz.func215 ?_
 refine zB fun A l=>zA<| zI (.bool false)<| RN l ?_
 obtain ⟨i,c,m⟩:=zD c
 refine yH [4,5,6,7,8,9,10,11,12,13,14,15,16,17] (fun (g:Unit)=>[(4,.bool i)]) (fun g wl=>Hd O w wl S []) ?_ ?_
 ·skip
  refine zA ?_
  refine zH (sb f) ?_
  obtain ⟨n,o,c⟩:=zC c
  refine zG (yK (kG (s1:=f) u9 rfl) (congrArg (Value.int .i64) o))<| zH (sb d) ?_
  obtain ⟨p,q,c⟩:=zC c
  refine zG (yK (kG (s1:=d) u9 rfl) (congrArg (Value.int .i64) q)) ?_
  obtain ⟨s,t,c⟩:=zC c
  refine zG (zL (jD (a:=n) (b:=p) rfl rfl) t)<| yO (b:=s) rfl rfl rfl (fun h=>?_) (fun h=>?_)
  ·have c:=zN h c
   refine zH (sb f)<| zH (sb d) ?_
   obtain ⟨B,u,c⟩:=zC c
   refine zG (yK (kG (s1:=d) u9 rfl) (congrArg (Value.int .i64) u)) ?_
   obtain ⟨x,y,c⟩:=zD c
   refine zG (Do_cut_h (s1:=f) u9 rfl rfl y)<| zH (sb d) ?_
   obtain ⟨j,z,c⟩:=zC c
   refine zG (zL (wH (s1:=x) (s2:=d) rfl rfl) z)<| zG (yG (v:= .bool j) rfl rfl)<| zI (.bool j) ?_
   obtain rfl:=gJ c
   exact (yA (zF (meet ⟨(),(zJ rfl zK),H.pick []⟩)))
  have c:=zO h c
  refine yE ?_
  refine yE ?_
  refine yE ?_
  refine yE ?_
  refine yE ?_
  refine yE ?_
  refine zG (yF (v:= .bool false) rfl rfl)<| zI (.bool false) ?_
  obtain rfl:=gJ c
  exact (yA (zF (meet ⟨(),(zJ rfl zK),H.pick []⟩)))
 rintro _ ρ C H
 have c:=m
 obtain rfl:=gJ c
 refine (zY (fB (v1:= .bool i) rfl rfl ?_))
 exact ⟨rfl,H.pick []⟩
theorem Fd4w (a:Str)(c:Str)(r:Str)(b:Fd4 a c=some r)(O S:List Nat)(w:World)(H:Hd O w w S []):
  Cl 257 [sb a,sb c] w fun e d=>e= .returned (sb r)∧Hd O w d S []:=by
 unfold Fd4 at b
 refine CW 13 Tryz.func257 ?_
 refine zB fun o f=>zA<| zI (.string (bs []))<| RN f<| zB fun p h=>zB fun q i=>zA<| zH (sb a)<| zH (sb c) ?_
 have j:=H
 obtain ⟨s,k,b⟩:=zD b
 refine yB rfl rfl (zV en215 rfl) (Fdtw a c _ k _ _ _ (H.enter [] [])) ?_
 rintro _ t ⟨rfl,l⟩
 have H:=j.step (l.only:Only [] _ _)
 refine ⟨_,rfl,?_⟩
 refine RN i ?_
 obtain ⟨m,b⟩:=wF b
 refine dA m ?_
 refine zW (zF (h _ _ ?_))
 refine zB fun u n=>zA<| zH (sb a)<| zI (sb a)<| RN n ?_
 obtain rfl:=gJ b
 refine (zY (fB (v1:=sb a) rfl rfl ?_))
 exact ⟨rfl,H.pick []⟩
theorem Ff0w (a:Str)(b:Str)(r:Str)(c:Ff0 a b=some r)(O S:List Nat)(w:World)(H:Hd O w w S []):
  Cl 214 [sb a,sb b] w fun e f=>e= .returned (sb r)∧Hd O w f S []:=by
 unfold Ff0 at c
 refine CW 8 Tryz.func214 ?_
 refine zB fun m h=>zA<| zI (.string (bs []))<| RN h<| zB fun n i=>zA<| zH (sb a)<| zH (sb b) ?_
 have j:=H
 obtain ⟨d,k,c⟩:=zD c
 refine yB rfl rfl (zV en257 rfl) (Fd4w a b _ k _ _ _ (H.enter [] [])) ?_
 rintro _ o ⟨rfl,l⟩
 have H:=j.step (l.only:Only [] _ _)
 refine ⟨_,rfl,?_⟩
 refine zI (sb d)<| RN i ?_
 obtain rfl:=gJ c
 refine (zY (fB (v1:=sb d) rfl rfl ?_))
 exact ⟨rfl,H.pick []⟩
theorem Femw (d:gB)(f:Nat)(h:Value)(j:Value)(k:Value)(r:gB)(c:Fem d=some r)(O S:List Nat)(w:World)(H:Hd O w w S [.own Rp.str h 9 d.r.Phases,.own gU j 122 d.r.Moves,.own gZ k 95 d.r.Rules,.blk f [sb d.text,i6 d.at_,i6 d.now.kind,i6 d.now.at_,i6 d.now.n,sb d.now.text,h,j,k] 109,.fz (.gi 4)]):
  Cl 175 [gV f] w fun e z=> ∃q s t,e= .returned (.tuple #[])∧Hd O w z S [.own Rp.str q 9 r.r.Phases,.own gU s 122 r.r.Moves,.own gZ t 95 r.r.Rules,.blk f [sb r.text,i6 r.at_,i6 r.now.kind,i6 r.now.at_,i6 r.now.n,sb r.now.text,q,s,t] 109]:=by
 unfold Fem at c
 refine CW 55 Tryz.func175 ?_
 refine zB fun am A=>zA<| zH (gV f)<| zG (zS rfl)<| zG (dS rfl)<| zG (rP rfl)<| Ld dU H 3 5 rfl rfl<| zI (sb d.now.text)<| RN A<| zB fun an B=>zA<| zH (sb d.now.text) ?_
 obtain ⟨⟨l,C⟩,D,c⟩:=zD c
 refine yB rfl rfl (zV en213 rfl) (E.Fd8w d.now.text _ D _ _ _ (H.enter [] [4])) ?_
 rintro _ ao ⟨m,rfl,F⟩
 have H:=H.back1 [4] rfl F
 refine ⟨_,rfl,?_⟩
 refine zH (.tuple #[i6 l,m])<| zG (xR (v:=i6 l) rfl rfl)<| zG (xR (v:=m) rfl rfl)<| zI (i6 l)<| zI m<| RN B<| yD<| zB fun ap G=>zA<| zH (sb d.now.text) ?_
 have I:=H
 obtain ⟨u,J,c⟩:=zD c
 refine yB rfl rfl (zV en144 rfl) (Fbcw d.now.text _ J _ _ _ (H.enter [] [])) ?_
 rintro _ aq ⟨rfl,K⟩
 have H:=I.step (K.only:Only [] _ _)
 refine ⟨_,rfl,?_⟩
 refine zI (.bool u)<| RN G<| zZ (b:=u) rfl (fun o=>?_) (fun o=>?_)
 ·have c:=zN o c
  refine zA ?_
  refine zH (gV f)<| zG (zS rfl)<| zG (dS rfl)<| zG (kD rfl)<| yV rfl (xK H 3 rfl sz3 rfl (v:=i6 1) rfl rfl rfl) ?_
  rintro ar H
  obtain rfl:=gJ c
  refine (yA (yL (uB rfl ?_)))
  exact ⟨h,j,k,rfl,H.pick [0,1,2,3]⟩
 have c:=zO o c
 refine zB fun au L=>zA<| zH (sb d.now.text) ?_
 have M:=H
 obtain ⟨x,N,c⟩:=zD c
 refine yB rfl rfl (zV en86 rfl) (Fagw d.now.text _ N _ _ _ (H.enter [] [])) ?_
 rintro _ av ⟨rfl,P⟩
 have H:=M.step (P.only:Only [] _ _)
 refine ⟨_,rfl,?_⟩
 refine zI (.bool x)<| RN L<| zZ (b:=x) rfl (fun p=>?_) (fun p=>?_)
 ·have c:=zN p c
  refine zA ?_
  refine zH (gV f)<| zG (zS rfl)<| zG (dS rfl)<| zG (kD rfl)<| yV rfl (xK H 3 rfl sz3 rfl (v:=i6 2) rfl rfl rfl) ?_
  rintro aw H
  obtain rfl:=gJ c
  refine (yA (yL (uB rfl ?_)))
  exact ⟨h,j,k,rfl,H.pick [0,1,2,3]⟩
 have c:=zO p c
 refine zB fun ax Q=>zA<| zH m ?_
 obtain ⟨ay,R,c⟩:=zC c
 refine zG (zL (Do_eqlif ui131 (H.item (i:=5) rfl) rfl) R) ?_
 obtain ⟨T,c,U⟩:=zD c
 refine dL 6 [34,35,36,37,38,39] [(39,.bool T)] (fun wl=>Hd O w wl S [.own Rp.str h 9 d.r.Phases,.own gU j 122 d.r.Moves,.own gZ k 95 d.r.Rules,.blk f [sb d.text,i6 d.at_,i6 d.now.kind,i6 d.now.at_,i6 d.now.n,sb d.now.text,h,j,k] 109,.fz (.gi 4),.fz (.ic m C)]) ?_ ?_
 ·skip
  obtain ⟨V,c⟩:=jZ c
  refine aKb true V ?_
  refine zH (i6 l) ?_
  have X:=H
  obtain ⟨Y,Z,c⟩:=zD c
  refine yB rfl rfl (zV en130 rfl) (E.Fdcw l _ Z _ _ _ (H.enter [] [])) ?_
  rintro _ az ⟨rfl,aa⟩
  have H:=X.step (aa.only:Only [] _ _)
  refine ⟨_,rfl,?_⟩
  refine zH (sb d.now.text) ?_
  obtain ⟨ab,ac,c⟩:=zC c
  refine zG (zL (wH (s1:=Y) (s2:=d.now.text) rfl rfl) ac)<| zG (yG (v:= .bool ab) rfl rfl) ?_
  obtain rfl:=gJ c
  exact yA (zF (meet ⟨(zJ rfl zK),H.pick [0,1,2,3,4,5]⟩))
 rintro ρ a0 H
 have c:=U
 obtain ⟨ad,c⟩:=jZ c
 refine aKb true ad ?_
 refine zH (sb d.now.text) ?_
 have ae:=H
 obtain ⟨af,ag,c⟩:=zD c
 refine yB rfl rfl (zV en214 rfl) (Ff0w d.now.text [45] _ ag _ _ _ (H.enter [] [])) ?_
 rintro _ a1 ⟨rfl,ah⟩
 have H:=ae.step (ah.only:Only [] _ _)
 refine ⟨_,rfl,?_⟩
 obtain ⟨ai,aj,c⟩:=zC c
 refine zG (yK (kG (s1:=af) u9 rfl) (congrArg (Value.int .i64) aj)) ?_
 obtain ⟨y,ak,c⟩:=zC c
 refine zG (zL (qW (a:=ai) (b:=16) rfl rfl) ak)<| zG (yG (v:= .bool y) rfl rfl)<| zI (.bool y)<| RN Q ?_
 obtain ⟨al,c⟩:=jZ c
 refine aFq al ?_
 refine zA ?_
 refine zH (gV f)<| zH (gV f)<| zH (i6 l)<| zG (zS rfl)<| zG (dS rfl)<| zG (kD rfl)<| yV rfl (xK H 3 rfl sz3 rfl (v:=i6 3) rfl rfl rfl) ?_
 rintro a2 H
 refine zG (zS rfl)<| zG (dS rfl)<| zG (fa107_2 rfl)<| yV rfl (xK H 3 rfl sz3 rfl (v:=i6 l) rfl rfl rfl) ?_
 rintro a3 H
 obtain rfl:=gJ c
 refine (yA (yL (uB rfl ?_)))
 exact ⟨h,j,k,rfl,H.pick [0,1,2,3]⟩
theorem Febw (a:Str)(b:Str)(r:Bool)(c:Feb a b=some r)(O S:List Nat)(w:World)(H:Hd O w w S []):
  Cl 176 [sb a,sb b] w fun e f=>e= .returned (.bool r)∧Hd O w f S []:=by
 unfold Feb at c
 refine CW 8 Tryz.func176 ?_
 refine zB fun m h=>zA<| zI (.bool false)<| RN h<| zB fun n i=>zA<| zH (sb a)<| zH (sb b) ?_
 have j:=H
 obtain ⟨d,k,c⟩:=zD c
 refine yB rfl rfl (zV en215 rfl) (Fdtw a b _ k _ _ _ (H.enter [] [])) ?_
 rintro _ o ⟨rfl,l⟩
 have H:=j.step (l.only:Only [] _ _)
 refine ⟨_,rfl,?_⟩
 refine zI (.bool d)<| RN i ?_
 obtain rfl:=gJ c
 refine (zY (fB (v1:= .bool d) rfl rfl ?_))
 exact ⟨rfl,H.pick []⟩
theorem aPu (h:gB)(f:Nat)(u:Value)(x:Value)(y:Value)(r:gB)(c:Fap h=some r)(O S:List Nat)(w:World)(H:Hd O w w S [.own Rp.str u 9 h.r.Phases,.own gU x 122 h.r.Moves,.own gZ y 95 h.r.Rules,.blk f [sb h.text,i6 h.at_,i6 h.now.kind,i6 h.now.at_,i6 h.now.n,sb h.now.text,u,x,y] 109,.fz (.gi 4)]):
  Cl 120 [gV f] w fun e p=> ∃K L M,e= .returned (.tuple #[])∧Hd O w p S [.own Rp.str K 9 r.r.Phases,.own gU L 122 r.r.Moves,.own gZ M 95 r.r.Rules,.blk f [sb r.text,i6 r.at_,i6 r.now.kind,i6 r.now.at_,i6 r.now.n,sb r.now.text,K,L,M] 109]:=by
 unfold Fap at c
 refine CW 107 Tryz.func120 ?_
 refine zB fun b9 V=>zA<| zH (gV f) ?_
 obtain ⟨d,X,c⟩:=zD c
 refine yB rfl rfl (zV en174 rfl) (Fe2w (gB.mk h.text h.at_ (gW.mk h.now.kind h.now.at_ h.now.n h.now.text) (Rules.mk h.r.Phases h.r.Moves h.r.Rules)) f u x y _ X _ _ _ (H.enter [0,1,2,3] [])) ?_
 rintro _ Y ⟨j,k,l,rfl,Z⟩
 have H:Hd _ _ Y _ [.fz (.gi 4),.own Rp.str j 9 d.r.Phases,.own gU k 122 d.r.Moves,.own gZ l 95 d.r.Rules,.blk f [sb d.text,i6 d.at_,i6 d.now.kind,i6 d.now.at_,i6 d.now.n,sb d.now.text,j,k,l] 109]:=H.back [0,1,2,3] [] rfl Z
 refine ⟨_,rfl,?_⟩
 refine RN V<| zB fun ca aa=>zA<| zH (gV f)<| zG (zS rfl)<| zG (kF rfl)<| Ld fK H 4 1 rfl rfl<| zI (i6 d.at_)<| RN aa<| zB fun cb ab=>zA<| zH (gV f)<| zH (i6 d.at_)<| zG (xM (cs:=[i6 0,i6 d.at_,i6 0,.string (bs [])]) (bt107_0_1 _ _))<| zG (zS rfl)<| zG (dS rfl)<| yV rfl (yP (vs:=[i6 0,i6 d.at_,i6 0,.string (bs [])]) H 4 rfl aHd rfl rfl rfl ⟨rfl,rfl,rfl,rfl,trivial⟩ rfl) ?_
 rintro cc H
 refine RN ab<| zB fun cd ac=>zB fun ce ad=>zA<| zH (i6 d.at_)<| zH (gV f)<| zG (zS rfl)<| zG (rJ rfl)<| Ld dU H 4 0 rfl rfl ?_
 obtain ⟨ae,af,c⟩:=zC c
 refine zG (yK (kG (s1:=d.text) u9 rfl) (congrArg (Value.int .i64) af)) ?_
 obtain ⟨ag,ah,c⟩:=zC c
 refine zG (zL (yQ (a:=d.at_) (b:=ae) rfl rfl) ah)<| RN ad<| zZ (b:=ag) rfl (fun z=>?_) (fun z=>?_)
 ·have c:=zN z c
  obtain rfl:=gJ c
  refine (zY (zT (aRv rfl ?_)))
  exact ⟨j,k,l,rfl,H.pick [1,2,3,4]⟩
 have c:=zO z c
 refine zW (zF (ac _ _ ?_))
 obtain ⟨s,c,ai⟩:=zD c
 refine yH [23,24,25,26,27,28,29,30,31,32,33,34,35,36,37,38,39,40,41,42,43,44,45,46,47,48,49,50,51] (fun (g:Unit)=>[]) (fun g wl=>Hd O w wl S [.fz (.gi 4),.own Rp.str j 9 d.r.Phases,.own gU k 122 d.r.Moves,.own gZ l 95 d.r.Rules,.blk f [sb d.text,i6 s,i6 0,i6 d.at_,i6 0,.string (bs []),j,k,l] 109]) ?_ ?_
 ·skip
  refine yD ?_
  unfold Fgx at c
  obtain ⟨aj,N,ak,c⟩:=yS c
  refine xC [23,24,25,26,27,28,29,30,31,32,33,34,35,36,37,38,39,40,41,42,43,44,45,46,47,48,49,50,51] (fun (g:Nat×Int)=>[]) (fun g wl=>Hd O w wl S [.fz (.gi 4),.own Rp.str j 9 d.r.Phases,.own gU k 122 d.r.Moves,.own gZ l 95 d.r.Rules,.blk f [sb d.text,i6 g.2,i6 0,i6 d.at_,i6 0,.string (bs []),j,k,l] 109]∧fU aj g.1 g.2=some s) (fun g=>g.1) (N,d.at_) zK ⟨H.pick [0,1,2,3,4],c⟩ ?_
  clear H c
  rintro ⟨N,A⟩ ρ cf ⟨H,c⟩
  obtain ⟨al,rfl,c⟩:=yX c
  have c:=yY ak c
  refine zB fun cg am=>?_
  refine zB fun ch an=>?_
  have ao:=H
  have H:=H.rebase
  have ci:=H
  refine xX H [0,1,2,3,4,5,6,7,8,9,10,11,12,13,14,15,16,17,18,19,20,21] (kz [0,0,0,1,0,0,0,1,0,0,0,0,0,0,1,0,0,0,1,0,4,0]) mixed ?_
  refine XM (gV f)<| XP (fun _ _=>zS rfl)<| XP (fun _ _=>kF rfl)<| XR fK H 4 1 rfl rfl<| XM (gV f)<| XP (fun _ _=>zS rfl)<| XP (fun _ _=>rJ rfl)<| XR dU H 4 0 rfl rfl ?_
  obtain ⟨ap,aq,c⟩:=zC c
  refine XP (fun _ _=>yK (kG (s1:=d.text) u9 rfl) (congrArg (Value.int .i64) aq)) ?_
  obtain ⟨cj,ar,c⟩:=zC c
  refine XP (fun _ _=>zL (xN (a:=A) (b:=ap) rfl rfl) ar) ?_
  obtain ⟨au,c⟩:=jZ c
  refine MxM.XL_sp true au ?_
  refine XM (gV f)<| XP (fun _ _=>zS rfl)<| XP (fun _ _=>rJ rfl)<| XR dU H 4 0 rfl rfl<| XM (gV f)<| XP (fun _ _=>zS rfl)<| XP (fun _ _=>kF rfl)<| XR fK H 4 1 rfl rfl ?_
  obtain ⟨av,aw,c⟩:=zD c
  refine XP (fun _ _=>wW (s1:=d.text) (q:=A) u9 rfl rfl aw) ?_
  have ax:=H
  obtain ⟨B,ay,c⟩:=zD c
  refine MxM.XL_fcall oS rfl rfl rfl (v:= .bool B) (fun p t=>zV en145 rfl) (fun p t=>bD (Fbiw av _ ay _ _ _ (Hd.fresh0 p))) ?_
  have H:=ax
  refine XP (fun _ _=>yG (v:= .bool B) rfl rfl)<| MxM.xE fun ck hS=>?_
  have H:=H.sees hS
  have H:=ao.rejoin H
  refine (zF (an _ _ ?_))
  refine zZ (b:=B) rfl (fun C=>?_) (fun C=>?_)
  ·have c:=zN C c
   refine zW (zF (am _ _ ?_))
   refine yD ?_
   refine zA ?_
   refine zH (gV f)<| zG (zS rfl)<| zG (kF rfl)<| Ld fK H 4 1 rfl rfl ?_
   obtain ⟨P,az,c⟩:=zC c
   refine zG (xI (a:=A) (b:=1) rfl rfl az)<| zG (zS rfl)<| zG (kF rfl)<| yV rfl (xK H 4 rfl sz3 rfl (v:=i6 P) rfl rfl rfl) ?_
   rintro cl H
   exact (yA (yL (zF (meet ⟨(al,P),zK,⟨H.pick [0,1,2,3,4],c⟩,Nat.lt_succ_self _⟩))))
  have c:=zO C c
  obtain rfl:=gJ c
  exact (xG (yI (yI (yT (zF (meet ⟨(),zK,H.pick [0,1,2,3,4]⟩))))))
 rintro _ ρ cm H
 have c:=ai
 refine zB fun cn a0=>?_
 refine zB fun co a1=>zA<| zH (gV f)<| zG (zS rfl)<| zG (kF rfl)<| Ld fK H 4 1 rfl rfl<| zH (i6 d.at_) ?_
 obtain ⟨a2,a3,c⟩:=zC c
 refine zG (zL (bZ (a:=s) (b:=d.at_) rfl rfl) a3)<| RN a1<| zZ (b:=a2) rfl (fun D=>?_) (fun D=>?_)
 ·have c:=zN D c
  refine zB fun cp a4=>?_
  have a5:=H
  have H:=H.rebase
  have cq:=H
  refine xX H [0,1,2,3,4,5,6,7,8,9,10,11,12,13,14] (kz [0,0,0,0,1,0,0,0,0,1,0,0,0,0,3]) mixed ?_
  refine XM (gV f)<| XM (gV f)<| XP (fun _ _=>zS rfl)<| XP (fun _ _=>rJ rfl)<| XR dU H 4 0 rfl rfl<| XM (i6 d.at_)<| XM (gV f)<| XP (fun _ _=>zS rfl)<| XP (fun _ _=>kF rfl)<| XR fK H 4 1 rfl rfl ?_
  obtain ⟨Q,a6,c⟩:=zD c
  refine XP (fun _ _=>Do_cut_lh (s1:=d.text) u9 rfl rfl rfl a6)<| XP (fun _ _=>zS rfl)<| XP (fun _ _=>dS rfl)<| XP (fun _ _=>rP rfl)<| MxM.XL_exU oS rfl rfl (fun p t=>xK (H.sees t) 4 rfl sz9 rfl (v:=sb Q) rfl rfl rfl) ?_
  rintro p cr t H
  refine ⟨H.only,?_⟩
  refine MxM.xE fun ct hS=>?_
  have H:=H.sees hS
  have H:=a5.rejoin H
  refine (zF (a4 _ _ ?_))
  refine zB fun cu a7=>zA<| zH (gV f) ?_
  obtain ⟨m,a8,c⟩:=zD c
  refine yB rfl rfl (zV en175 rfl) (Femw (gB.mk d.text s (gW.mk 0 d.at_ 0 Q) (Rules.mk d.r.Phases d.r.Moves d.r.Rules)) f j k l _ a8 _ _ _ (H.enter [1,2,3,4] [0])) ?_
  rintro _ a9 ⟨E,F,G,rfl,ba⟩
  have H:Hd _ _ a9 _ [.fz (.gi 4),.own Rp.str E 9 m.r.Phases,.own gU F 122 m.r.Moves,.own gZ G 95 m.r.Rules,.blk f [sb m.text,i6 m.at_,i6 m.now.kind,i6 m.now.at_,i6 m.now.n,sb m.now.text,E,F,G] 109]:=H.back [1,2,3,4] [0] rfl ba
  refine ⟨_,rfl,?_⟩
  refine RN a7 ?_
  obtain rfl:=gJ c
  refine (zY (zT (aRv rfl ?_)))
  exact ⟨E,F,G,rfl,H.pick [1,2,3,4]⟩
 have c:=zO D c
 refine zW (zF (a0 _ _ ?_))
 refine zB fun cv cw=>?_
 refine zB fun cx bb=>zA ?_
 obtain ⟨cy,bc,c⟩:=zC c
 subst bc
 refine yR rfl rfl (kT (r:=Rp.str) (xl:=[[60,61],[33,61],[62,61],[60],[61],[62],[40],[41]]) (cs:=[.string (bs [60,61]),.string (bs [33,61]),.string (bs [62,61]),.string (bs [60]),.string (bs [61]),.string (bs [62]),.string (bs [40]),.string (bs [41])]) u22 el9 (by decide) (by decide) rfl (xJ (vs:=[.string (bs [60,61]),.string (bs [33,61]),.string (bs [62,61]),.string (bs [60]),.string (bs [61]),.string (bs [62]),.string (bs [40]),.string (bs [41])]) (by decide) rfl rfl ⟨rfl,rfl,rfl,rfl,rfl,rfl,rfl,rfl,trivial⟩ rfl) H ⟨[.string (bs [60,61])],[.string (bs [33,61]),.string (bs [62,61]),.string (bs [60]),.string (bs [61]),.string (bs [62]),.string (bs [40]),.string (bs [41])],rfl,rfl,⟨[.string (bs [33,61])],[.string (bs [62,61]),.string (bs [60]),.string (bs [61]),.string (bs [62]),.string (bs [40]),.string (bs [41])],rfl,rfl,⟨[.string (bs [62,61])],[.string (bs [60]),.string (bs [61]),.string (bs [62]),.string (bs [40]),.string (bs [41])],rfl,rfl,⟨[.string (bs [60])],[.string (bs [61]),.string (bs [62]),.string (bs [40]),.string (bs [41])],rfl,rfl,⟨[.string (bs [61])],[.string (bs [62]),.string (bs [40]),.string (bs [41])],rfl,rfl,⟨[.string (bs [62])],[.string (bs [40]),.string (bs [41])],rfl,rfl,⟨[.string (bs [40])],[.string (bs [41])],rfl,rfl,⟨[.string (bs [41])],[],rfl,rfl,rfl⟩⟩⟩⟩⟩⟩⟩⟩) ?_
 rintro bd cz H
 obtain ⟨be,bf,c⟩:=zC c
 obtain ⟨c0,c1,bg⟩:=Sr.len (Sr.of_own (H.item (i:=5) rfl))
 refine zG (yK (xH u22 bg) (congrArg (Value.int .i64) bf))<| zH (i6 0)<| RN bb<| yD ?_
 unfold Fgq at c
 obtain ⟨bh,R,bi,c⟩:=yS c
 refine xC [4,76,77,78,79,80,81,82,83,84,85,86,87,88,89,90,91,92,93,94,95,96,97,98,99,100,101,102,103,104] (fun (g:Nat×Int)=>[(76,i6 g.2)]) (fun g wl=>Hd O w wl S [.fz (.gi 4),.own Rp.str j 9 d.r.Phases,.own gU k 122 d.r.Moves,.own gZ l 95 d.r.Rules,.blk f [sb d.text,i6 s,i6 0,i6 d.at_,i6 0,.string (bs []),j,k,l] 109,.own Rp.str bd 9 ([[60,61],[33,61],[62,61],[60],[61],[62],[40],[41]]:List Str)]∧fU bh g.1 g.2=some r) (fun g=>g.1) (R,0) (zJ rfl zK) ⟨H.pick [0,1,2,3,4,5],c⟩ ?_
 clear H c
 rintro ⟨R,T⟩ ρ c2 ⟨H,c⟩
 obtain ⟨bj,rfl,c⟩:=yX c
 have c:=yY bi c
 refine zB fun c3 bk=>zA ?_
 obtain ⟨c4,bl,c⟩:=zC c
 refine zG (zL (xN (a:=T) (b:=be) rfl rfl) bl)<| RN bk<| zB fun c5 bm=>?_
 obtain ⟨bn,c⟩:=jZ c
 refine aFq bn ?_
 refine zW (zF (bm _ _ ?_))
 refine zB fun c6 bo=>?_
 refine yD ?_
 refine zB fun c7 bp=>zA ?_
 obtain ⟨o,I,c⟩:=zD c
 obtain ⟨c8,c9,bq,br,bt,bu⟩:=bQ (H.item (i:=5) rfl) I
 obtain rfl:bq= [sb o]:=bt
 refine zG (xA u22 sz9 br rfl (zX I).1 (zX I).2.1 rfl rfl)<| zG (yZ dU rfl (Cells.get bu (i:=0) rfl))<| zI (sb o)<| RN bp<| zB fun da bv=>zA<| zH (gV f)<| zG (zS rfl)<| zG (rJ rfl)<| Ld dU H 4 0 rfl rfl<| zH (i6 d.at_) ?_
 obtain ⟨bw,bx,c⟩:=zD c
 refine zG (Do_cut_l (s1:=d.text) u9 rfl rfl bx)<| zH (sb o) ?_
 have bz:=H
 obtain ⟨b0,b1,c⟩:=zD c
 refine yB rfl rfl (zV en176 rfl) (Febw bw o _ b1 _ _ _ (H.enter [] [])) ?_
 rintro _ db ⟨rfl,b2⟩
 have H:=bz.step (b2.only:Only [] _ _)
 refine ⟨_,rfl,?_⟩
 refine RN bv<| zZ (b:=b0) rfl (fun J=>?_) (fun J=>?_)
 ·have c:=zN J c
  refine zB fun dc b3=>zA<| zH (gV f)<| zH (gV f)<| zH (gV f)<| zH (sb o)<| zH (i6 d.at_)<| zH (sb o) ?_
  obtain ⟨b4,b5,c⟩:=zC c
  refine zG (yK (kG (s1:=o) u9 rfl) (congrArg (Value.int .i64) b5)) ?_
  obtain ⟨b6,b7,c⟩:=zC c
  refine zG (xI (a:=d.at_) (b:=b4) rfl rfl b7)<| zG (zS rfl)<| zG (dS rfl)<| zG (kD rfl)<| yV rfl (xK H 4 rfl sz3 rfl (v:=i6 4) rfl rfl rfl) ?_
  rintro dd H
  refine zG (zS rfl)<| zG (dS rfl)<| zG (rP rfl)<| yV rfl (xK H 4 rfl sz9 rfl (v:=sb o) rfl rfl rfl) ?_
  rintro de H
  refine zG (zS rfl)<| zG (kF rfl)<| yV rfl (xK H 4 rfl sz3 rfl (v:=i6 b6) rfl rfl rfl) ?_
  rintro df H
  refine RN b3 ?_
  obtain rfl:=gJ c
  refine (zY (yC (zT (zT (yC (zT (aRv rfl ?_)))))))
  exact ⟨j,k,l,rfl,H.pick [1,2,3,4]⟩
 have c:=zO J c
 refine (zW (yL (zF (bo _ _ ?_))))
 refine zA ?_
 obtain ⟨U,b8,c⟩:=zC c
 refine zG (xI (a:=T) (b:=1) rfl rfl b8)<| zH (i6 U) ?_
 exact (yA (zF (meet ⟨(bj,U),(zJ rfl zK),⟨H.pick [0,1,2,3,4,5],c⟩,Nat.lt_succ_self _⟩)))
theorem aNx (k:Option gB)(f:Str)(v1:Option Addr)(r:Bool)(c:Fam k f=some r)(O S:List Nat)(w:World)(H:Hd O w w S [.fz (.pt dI v1 k)]):
  Cl 121 [.pointer v1,sb f] w fun e D=>e= .returned (.bool r)∧Hd O w D S []:=by
 unfold Fam at c
 refine CW 28 Tryz.func121 ?_
 refine zB fun K3 E=>zA<| zI (.bool false)<| RN E ?_
 obtain ⟨u,c,F⟩:=zD c
 refine yH [4,5,6,7,8,9,10,11,12,13,14,15,16,17,18,19,20,21,22,23,24,25,26,27] (fun (g:Unit)=>[(4,.bool u)]) (fun g wl=>Hd O w wl S []) ?_ ?_
 ·skip
  refine zA ?_
  refine zH (.pointer v1) ?_
  obtain ⟨d,G,c⟩:=zD c
  obtain ⟨l,m,a1,I,J,K,L,M⟩:=tZ ((H.item (i:=0) rfl):PtF _ _ _ _ _) G
  obtain ⟨o,p,q,rfl,N,P,Q⟩:=bJ L
  have H:=H.fzs [.at l m _,.sl Rp.str o d.r.Phases,.sl gU p d.r.Moves,.sl gZ q d.r.Rules] ⟨⟨J,K,M⟩,N,P,Q,trivial⟩
  refine zG (zS (ad:=⟨l,m,none⟩) (congrArg Value.pointer I))<| zG (dS rfl)<| zG (kD rfl)<| zG (yZ fK rfl (Cells.get (H.item (i:=1) rfl).2.2 (i:=2) rfl)) ?_
  obtain ⟨R,T,c⟩:=zC c
  refine zG (zL (yQ (a:=d.now.kind) (b:=1) rfl rfl) T) ?_
  obtain ⟨x,c,U⟩:=zD c
  refine dL 8 [11,12,13,14,15,16,17,18] [(18,.bool x)] (fun wl=>Hd O w wl S [.fz (.pt dI v1 k),.fz (.at l m [sb d.text,i6 d.at_,i6 d.now.kind,i6 d.now.at_,i6 d.now.n,sb d.now.text,o,p,q]),f1 Rp.str o d.r.Phases,f1 gU p d.r.Moves,f1 gZ q d.r.Rules]) ?_ ?_
  ·skip
   refine yO (b:=R) rfl rfl rfl (fun s=>?_) (fun s=>?_)
   ·have c:=zN s c
    refine yE ?_
    refine yE ?_
    refine yE ?_
    refine yE ?_
    refine yE ?_
    refine yE ?_
    refine zG (yG (v:= .bool true) rfl rfl) ?_
    obtain rfl:=gJ c
    exact yA (zF (meet ⟨(zJ rfl zK),H.pick [0,1,2,3,4]⟩))
   have c:=zO s c
   refine zH (.pointer v1) ?_
   obtain ⟨h,V,c⟩:=zD c
   obtain ⟨y,z,a2,X,Y,Z,aa,ab⟩:=tZ ((H.item (i:=0) rfl):PtF _ _ _ _ _) V
   obtain ⟨ac,ae,af,rfl,ag,ah,ai⟩:=bJ aa
   have H:=H.fzs [.at y z _,.sl Rp.str ac h.r.Phases,.sl gU ae h.r.Moves,.sl gZ af h.r.Rules] ⟨⟨Y,Z,ab⟩,ag,ah,ai,trivial⟩
   refine zG (zS (ad:=⟨y,z,none⟩) (congrArg Value.pointer X))<| zG (dS rfl)<| zG (kD rfl)<| zG (yZ fK rfl (Cells.get (H.item (i:=5) rfl).2.2 (i:=2) rfl)) ?_
   obtain ⟨aj,ak,c⟩:=zC c
   refine zG (zL (yQ (a:=h.now.kind) (b:=4) rfl rfl) ak)<| zG (yF (v:= .bool aj) rfl rfl) ?_
   obtain rfl:=gJ c
   exact yA (zF (meet ⟨(zJ rfl zK),H.pick [0,1,2,3,4]⟩))
  rintro ρ a3 H
  have c:=U
  refine yO (b:=x) rfl rfl rfl (fun t=>?_) (fun t=>?_)
  ·have c:=zN t c
   refine zH (.pointer v1) ?_
   obtain ⟨j,al,c⟩:=zD c
   obtain ⟨A,B,a4,am,an,ao,ap,aq⟩:=tZ ((H.item (i:=0) rfl):PtF _ _ _ _ _) al
   obtain ⟨ar,au,av,rfl,aw,ax,ay⟩:=bJ ap
   have H:=H.fzs [.at A B _,.sl Rp.str ar j.r.Phases,.sl gU au j.r.Moves,.sl gZ av j.r.Rules] ⟨⟨an,ao,aq⟩,aw,ax,ay,trivial⟩
   refine zG (zS (ad:=⟨A,B,none⟩) (congrArg Value.pointer am))<| zG (dS rfl)<| zG (rP rfl)<| zG (yZ dU rfl (Cells.get (H.item (i:=5) rfl).2.2 (i:=5) rfl))<| zH (sb f) ?_
   obtain ⟨C,az,c⟩:=zC c
   refine zG (zL (wH (s1:=j.now.text) (s2:=f) rfl rfl) az)<| zG (yG (v:= .bool C) rfl rfl)<| zI (.bool C) ?_
   obtain rfl:=gJ c
   exact (yA (zF (meet ⟨(),(zJ rfl zK),H.pick []⟩)))
  have c:=zO t c
  refine yE ?_
  refine yE ?_
  refine yE ?_
  refine yE ?_
  refine yE ?_
  refine yE ?_
  refine yE ?_
  refine zG (yF (v:= .bool false) rfl rfl)<| zI (.bool false) ?_
  obtain rfl:=gJ c
  exact (yA (zF (meet ⟨(),(zJ rfl zK),H.pick []⟩)))
 rintro _ ρ a5 H
 have c:=F
 obtain rfl:=gJ c
 refine (zY (fB (v1:= .bool u) rfl rfl ?_))
 exact ⟨rfl,H.pick []⟩
end Go.Proofs.YtckmiljbaejijaaGreatDoor.L
