/- Walks: what each function computes, for every argument; no condition but those that stand in the statements. -/
import Derived.Test.YtgmikmoapfmedaaGreatDoorVV0
import Derived.Test.YtgmikmoapfmedaaGreatDoorVV4
namespace Go.Proofs.YtgmikmoapfmedaaGreatDoor.L
open Go.RowKit Go.OB Go.Lf
set_option maxHeartbeats 4000000
theorem Fc6w (j:gB)(h:Nat)(v2:Value)(v3:Value)(v4:Value)(r:gB)(c:Fc6 j=some r)(O S:List Nat)(w:World)(H:Hd O w w S [.own Rp.str v2 9 j.r.Phases,.own gX v3 129 j.r.Moves,.own fB v4 132 j.r.Rules,.blk h [sb j.text,i6 j.at_,i6 j.now.kind,i6 j.now.at_,i6 j.now.n,sb j.now.text,v2,v3,v4] 107,.fz (.at 1 0 ((Fl.arr 7 Fl.str).f yG)),.fz (.gi 5)]):
  Cl 57 [fA h] w fun e u=> ∃ah ai aj,e= .returned (.tuple #[])∧Hd O w u S [.own Rp.str ah 9 r.r.Phases,.own gX ai 129 r.r.Moves,.own fB aj 132 r.r.Rules,.blk h [sb r.text,i6 r.at_,i6 r.now.kind,i6 r.now.at_,i6 r.now.n,sb r.now.text,ah,ai,aj] 107]:=by
 unfold Fc6 at c
 refine CW 81 Tryz.func57 ?_
 obtain ⟨m,c,ar⟩:=zD c
 refine yL [4,5,6,7,8,9,10,11,12,13,14,15,16,17,18,19,20,21,22] (fun (g:Value×Value×Value)=>[]) (fun g wl=>Hd O w wl S [.blk h [sb m.1,i6 m.2.1,i6 m.2.2.1,i6 m.2.2.2.1,i6 m.2.2.2.2.1,sb m.2.2.2.2.2.1,g.1,g.2.1,g.2.2] 107,.own Rp.str g.1 9 m.2.2.2.2.2.2.1,.own gX g.2.1 129 m.2.2.2.2.2.2.2.1,.own fB g.2.2 132 m.2.2.2.2.2.2.2.2,.fz (.at 1 0 ((Fl.arr 7 Fl.str).f yG)),.fz (.gi 5)]) ?_ ?_
 ·skip
  refine zB fun cn au=>zA<| zH (fA h) ?_
  obtain ⟨l,av,c⟩:=zD c
  refine zO rfl rfl (zM en78 rfl) (Fasw (gB.mk j.text j.at_ (gU.mk j.now.kind j.now.at_ j.now.n j.now.text) (Rules.mk j.r.Phases j.r.Moves j.r.Rules)) h v2 v3 v4 _ av _ _ _ (H.enter [0,1,2,3] [5])) ?_
  rintro _ co ⟨ad,ae,af,rfl,aw⟩
  have H:Hd _ _ _ _ [_,_,_,_,_,_]:=H.back [0,1,2,3] [5] rfl aw
  refine ⟨_,rfl,?_⟩
  refine RN au<| yA ?_
  unfold Feo at c
  obtain ⟨ax,ak,ay,c⟩:=yM c
  refine xA [6,7,8,9,10,11,12,13,14,15,16,17,18,19,20,21,22] (fun (g:Nat)=>[]) (fun g wl=>Hd O w wl S [.fz (.at 1 0 ((Fl.arr 7 Fl.str).f yG)),.fz (.gi 5),.own Rp.str ad 9 l.r.Phases,.own gX ae 129 l.r.Moves,.own fB af 132 l.r.Rules,.blk h [sb l.text,i6 l.at_,i6 l.now.kind,i6 l.now.at_,i6 l.now.n,sb l.now.text,ad,ae,af] 107]∧fJ ax g ()=some m) (fun g=>g) ak zK ⟨H.pick [0,1,2,3,4,5],c⟩ ?_
  clear H c
  rintro ak ρ cp ⟨H,c⟩
  obtain ⟨cq,rfl,c⟩:=yS c
  have c:=yT ay c
  refine zB fun cr ct=>?_
  refine zB fun cu az=>zA<| zH (fA h) ?_
  have a0:=H
  have H:=H.freezeB (i:=5) rfl
  have H:=H.freeze (i:=2) rfl
  have H:=H.freeze (i:=3) rfl
  have H:=H.freeze (i:=4) rfl
  have H:=H.fz (.pt eH (some ⟨h,0,none⟩) (some l)) ⟨_,_,_,rfl,(H.item (i:=5) rfl).1,(H.item (i:=5) rfl).2.1,(dG (x:=l) (H.item (i:=2) rfl) (H.item (i:=3) rfl) (H.item (i:=4) rfl)),(H.item (i:=5) rfl).2.2⟩
  obtain ⟨cv,a1,c⟩:=zD c
  refine zO rfl rfl (zM en79 rfl) (Famw (some l) [112,104,97,115,101] (some ⟨h,0,none⟩) _ a1 _ _ _ (H.enter [] [6])) ?_
  rintro _ cw ⟨rfl,a2⟩
  have H:=a0.step (a2.only:Only [] _ _)
  refine ⟨_,rfl,?_⟩
  refine RN az ?_
  obtain ⟨a3,c⟩:=yO c
  refine xJ a3 ?_
  obtain rfl:=gI c
  exact (xH (yI (yI (yU (zG (meet ⟨(ad,ae,af),zK,H.pick [5,2,3,4,0,1]⟩))))))
 rintro ⟨K,L,M⟩ ρ cx H
 have c:=ar
 obtain ⟨A,B,C,D,E,F,G,I,J⟩:=m
 obtain ⟨a4,c,a5⟩:=zD c
 refine yL [2,23,24,25,26,27,28,29,30,31,32,33,34,35,36,37,38,39,40,41,42,43,44,45,46,47,48] (fun (g:Unit)=>[]) (fun g wl=>Hd O w wl S [.blk h [sb A,i6 B,i6 C,i6 D,i6 E,sb F,K,L,M] 107,.own Rp.str K 9 G,.own gX L 129 I,.own fB M 132 J,.fz (.at 1 0 ((Fl.arr 7 Fl.str).f yG)),.fz (.gi 5)]) ?_ ?_
 ·skip
  refine yA ?_
  unfold Feu at c
  obtain ⟨a6,al,a7,c⟩:=yM c
  refine xA [2,23,24,25,26,27,28,29,30,31,32,33,34,35,36,37,38,39,40,41,42,43,44,45,46,47,48] (fun (g:Nat)=>[]) (fun g wl=>Hd O w wl S [.blk h [sb A,i6 B,i6 C,i6 D,i6 E,sb F,K,L,M] 107,.own Rp.str K 9 G,.own gX L 129 I,.own fB M 132 J,.fz (.at 1 0 ((Fl.arr 7 Fl.str).f yG)),.fz (.gi 5)]∧fJ a6 g ()=some a4) (fun g=>g) al zK ⟨H.pick [0,1,2,3,4,5],c⟩ ?_
  clear H c
  rintro al ρ cy ⟨H,c⟩
  obtain ⟨cz,rfl,c⟩:=yS c
  have c:=yT a7 c
  refine zB fun c0 c1=>?_
  refine zB fun c2 a8=>zA<| zH (fA h) ?_
  have a9:=H
  have H:=H.freezeB (i:=0) rfl
  have H:=H.freeze (i:=1) rfl
  have H:=H.freeze (i:=2) rfl
  have H:=H.freeze (i:=3) rfl
  have H:=H.fz (.pt eH (some ⟨h,0,none⟩) (some (gB.mk A B (gU.mk C D E F) (Rules.mk G I J)))) ⟨_,_,_,rfl,(H.item (i:=0) rfl).1,(H.item (i:=0) rfl).2.1,(dG (x:=gB.mk A B (gU.mk C D E F) (Rules.mk G I J)) (H.item (i:=1) rfl) (H.item (i:=2) rfl) (H.item (i:=3) rfl)),(H.item (i:=0) rfl).2.2⟩
  obtain ⟨c3,ba,c⟩:=zD c
  refine zO rfl rfl (zM en79 rfl) (Famw (some (gB.mk A B (gU.mk C D E F) (Rules.mk G I J))) [109,111,118,101] (some ⟨h,0,none⟩) _ ba _ _ _ (H.enter [] [6])) ?_
  rintro _ c4 ⟨rfl,bb⟩
  have H:=a9.step (bb.only:Only [] _ _)
  refine ⟨_,rfl,?_⟩
  refine RN a8 ?_
  obtain ⟨bc,c⟩:=yO c
  refine xJ bc ?_
  obtain rfl:=gI c
  exact (xH (yI (yI (yU (zG (meet ⟨(),zK,H.pick [0,1,2,3,4,5]⟩))))))
 rintro _ ρ c5 H
 have c:=a5
 obtain ⟨o,c,bd⟩:=zD c
 refine yL [3,49,50,51,52,53,54,55,56,57,58,59,60,61,62,63,64,65,66,67,68,69,70,71,72] (fun (g:Value×Value×Value)=>[]) (fun g wl=>Hd O w wl S [.blk h [sb o.1,i6 o.2.1,i6 o.2.2.1,i6 o.2.2.2.1,i6 o.2.2.2.2.1,sb o.2.2.2.2.2.1,g.1,g.2.1,g.2.2] 107,.own Rp.str g.1 9 o.2.2.2.2.2.2.1,.own gX g.2.1 129 o.2.2.2.2.2.2.2.1,.own fB g.2.2 132 o.2.2.2.2.2.2.2.2,.fz (.at 1 0 ((Fl.arr 7 Fl.str).f yG)),.fz (.gi 5)]) ?_ ?_
 ·skip
  refine yA ?_
  unfold Fes at c
  obtain ⟨be,am,bf,c⟩:=yM c
  refine xA [3,49,50,51,52,53,54,55,56,57,58,59,60,61,62,63,64,65,66,67,68,69,70,71,72] (fun (g:Nat×Str×Int×Int×Int×Int×Str×(List Str)×(List uS)×(List aN)×Value×Value×Value)=>[]) (fun g wl=>Hd O w wl S [.blk h [sb g.2.1,i6 g.2.2.1,i6 g.2.2.2.1,i6 g.2.2.2.2.1,i6 g.2.2.2.2.2.1,sb g.2.2.2.2.2.2.1,g.2.2.2.2.2.2.2.2.2.2.1,g.2.2.2.2.2.2.2.2.2.2.2.1,g.2.2.2.2.2.2.2.2.2.2.2.2] 107,.own Rp.str g.2.2.2.2.2.2.2.2.2.2.1 9 g.2.2.2.2.2.2.2.1,.own gX g.2.2.2.2.2.2.2.2.2.2.2.1 129 g.2.2.2.2.2.2.2.2.1,.own fB g.2.2.2.2.2.2.2.2.2.2.2.2 132 g.2.2.2.2.2.2.2.2.2.1,.fz (.at 1 0 ((Fl.arr 7 Fl.str).f yG)),.fz (.gi 5)]∧fJ be g.1 (g.2.1,g.2.2.1,g.2.2.2.1,g.2.2.2.2.1,g.2.2.2.2.2.1,g.2.2.2.2.2.2.1,g.2.2.2.2.2.2.2.1,g.2.2.2.2.2.2.2.2.1,g.2.2.2.2.2.2.2.2.2.1)=some o) (fun g=>g.1) (am,A,B,C,D,E,F,G,I,J,K,L,M) zK ⟨H.pick [0,1,2,3,4,5],c⟩ ?_
  clear H c
  rintro ⟨am,P,Q,R,T,U,V,X,Y,Z,an,ao,ap⟩ ρ c6 ⟨H,c⟩
  obtain ⟨bg,rfl,c⟩:=yS c
  have c:=yT bf c
  refine zB fun c7 bh=>?_
  refine zB fun c8 bi=>zA<| zH (fA h) ?_
  have bj:=H
  have H:=H.freezeB (i:=0) rfl
  have H:=H.freeze (i:=1) rfl
  have H:=H.freeze (i:=2) rfl
  have H:=H.freeze (i:=3) rfl
  have H:=H.fz (.pt eH (some ⟨h,0,none⟩) (some (gB.mk P Q (gU.mk R T U V) (Rules.mk X Y Z)))) ⟨_,_,_,rfl,(H.item (i:=0) rfl).1,(H.item (i:=0) rfl).2.1,(dG (x:=gB.mk P Q (gU.mk R T U V) (Rules.mk X Y Z)) (H.item (i:=1) rfl) (H.item (i:=2) rfl) (H.item (i:=3) rfl)),(H.item (i:=0) rfl).2.2⟩
  obtain ⟨bk,bl,c⟩:=zD c
  refine zO rfl rfl (zM en79 rfl) (Famw (some (gB.mk P Q (gU.mk R T U V) (Rules.mk X Y Z))) [114,117,108,101] (some ⟨h,0,none⟩) _ bl _ _ _ (H.enter [] [6])) ?_
  rintro _ c9 ⟨rfl,bm⟩
  have H:=bj.step (bm.only:Only [] _ _)
  refine ⟨_,rfl,?_⟩
  refine RN bi<| yB (b:=bk) rfl (fun ag=>?_) (fun ag=>?_)
  ·have c:=zT ag c
   refine zS (zG (bh _ _ ?_))
   refine yA ?_
   refine zB fun da bn=>zA<| zH (fA h) ?_
   obtain ⟨q,bo,c⟩:=zD c
   refine zO rfl rfl (zM en78 rfl) (Fasw (gB.mk P Q (gU.mk R T U V) (Rules.mk X Y Z)) h an ao ap _ bo _ _ _ (H.enter [1,2,3,0] [5])) ?_
   rintro _ db ⟨bp,bq,br,rfl,bt⟩
   have H:Hd _ _ _ _ [_,_,_,_,_,_]:=H.back [1,2,3,0] [5] rfl bt
   refine ⟨_,rfl,?_⟩
   refine RN bn<| zB fun dc bu=>zA<| zH (fA h) ?_
   obtain ⟨⟨p,s⟩,bv,c⟩:=zD c
   refine zO rfl rfl (zM en80 rfl) (Fb0w (gB.mk q.text q.at_ (gU.mk q.now.kind q.now.at_ q.now.n q.now.text) (Rules.mk q.r.Phases q.r.Moves q.r.Rules)) h bp bq br _ bv _ _ _ (H.enter [2,3,4,5] [1])) ?_
   rintro _ dd ⟨bw,bx,bz,rfl,b0⟩
   have H:Hd _ _ _ _ [_,_,_,_,_,_]:=H.back [2,3,4,5] [1] rfl b0
   refine ⟨_,rfl,?_⟩
   refine zF (dB (cs:=[sb p,i6 0,.string (bs []),.string (bs []),i6 0,i6 0,i6 0,.slice none 0 0]) (bt132_0 _))<| yQ rfl rfl (xB sW H) ?_
   rintro _ de ⟨df,rfl,H⟩
   refine yZ rfl (yN (vs:=[sb p,i6 0,.string (bs []),.string (bs []),i6 0,i6 0,i6 0,.slice none 0 0]) H 6 rfl aO rfl rfl rfl ⟨rfl,rfl,rfl,rfl,rfl,rfl,rfl,rfl,trivial⟩ rfl) ?_
   rintro dg H
   refine RN bu<| zB fun dh b1=>zA<| zH (fA h) ?_
   obtain ⟨t,b2,c⟩:=zD c
   refine zO rfl rfl (zM en81 rfl) (Fdsw (gB.mk s.text s.at_ (gU.mk s.now.kind s.now.at_ s.now.n s.now.text) (Rules.mk s.r.Phases s.r.Moves s.r.Rules)) [105,102] h bw bx bz _ b2 _ _ _ (H.enter [2,3,4,5] [1])) ?_
   rintro _ di ⟨b3,b4,b5,rfl,b6⟩
   have H:Hd _ _ _ _ [_,_,_,_,_,_,_]:=H.back [2,3,4,5] [1] rfl b6
   refine ⟨_,rfl,?_⟩
   refine RN b1<| zB fun dj b7=>zA<| zH (fA h) ?_
   obtain ⟨⟨d,y⟩,b8,c⟩:=zD c
   refine zO rfl rfl (zM en82 rfl) (Fd3w (gB.mk t.text t.at_ (gU.mk t.now.kind t.now.at_ t.now.n t.now.text) (Rules.mk t.r.Phases t.r.Moves t.r.Rules)) 0 h b3 b4 b5 _ b8 _ _ _ (H.enter [3,4,5,6] [0,1])) ?_
   rintro _ dk ⟨z,b9,ca,dl,rfl,cb⟩
   have H:Hd _ _ _ _ [_,_,_,_,_,_,_,_]:=H.back [3,4,5,6] [0,1] rfl cb
   refine ⟨_,rfl,?_⟩
   refine zF (qZ rfl)<| yZ rfl (yN (vs:=[i6 d.Kind,sb d.Name,sb d.Other,i6 d.Op,i6 d.N,i6 d.Frames,z]) H 2 rfl dM rfl rfl rfl ⟨rfl,rfl,rfl,rfl,rfl,rfl,(dK (H.item (i:=3) rfl)),trivial⟩ rfl) ?_
   rintro dm H
   refine RN b7 ?_
   have cc:=H
   have H:=H.rebase
   have dn:=H
   refine WP_mix0 H [0,1,2,3,4,5,6,7,8,9,10,11,12] (kz [0,0,0,0,0,1,1,2,3,0,0,0,3]) mixed ?_
   refine XM (fA h)<| XM (fA h)<| XP (fun _ _=>yE rfl)<| XP (fun _ _=>tC rfl)<| XP (fun _ _=>aQ rfl)<| XR mM H 7 8 rfl rfl<| MxM.XL_read oS rfl rfl rfl (fun u k=>yK (yH (cs:=[sb p,i6 d.Kind,sb d.Name,sb d.Other,i6 d.Op,i6 d.N,i6 d.Frames,z]) rJ rfl aO rfl (Blk.cells ((H.sees k).item (i:=2) rfl))) rfl) ?_
   obtain ⟨dp,cd,c⟩:=zC c
   subst cd
   refine MxM.XL_exN oS rfl rfl rfl (fun u k=>Ls_of (kX (r:=fB) (xl:=[aN.mk p d]) (cs:=[sb p,i6 d.Kind,sb d.Name,sb d.Other,i6 d.Op,i6 d.N,i6 d.Frames,z]) u73 aBk (by decide) (by decide) rfl (xU (vs:=[.agg [sb p,i6 d.Kind,sb d.Name,sb d.Other,i6 d.Op,i6 d.N,i6 d.Frames,z].toArray]) (by decide) rfl rfl ⟨rfl,trivial⟩ rfl) (H.sees k) ⟨[sb p,i6 d.Kind,sb d.Name,sb d.Other,i6 d.Op,i6 d.N,i6 d.Frames,z],[],rfl,(aBf (x:=aN.mk p d) ((H.sees k).item (i:=3) rfl)),rfl⟩) (Ys_bs (cs:=[sb p,i6 d.Kind,sb d.Name,sb d.Other,i6 d.Op,i6 d.N,i6 d.Frames,z]) u73 aBk (by decide) (by decide) (xU (vs:=[.agg [sb p,i6 d.Kind,sb d.Name,sb d.Other,i6 d.Op,i6 d.N,i6 d.Frames,z].toArray]) (by decide) rfl rfl ⟨rfl,trivial⟩ rfl))) ?_
   rintro u dq dr k H
   obtain ⟨ce,cf,c⟩:=zD c
   refine MxM.XL_ex oS rfl rfl rfl (fun u k=>jD (H.sees k) (i:=6) rfl u73 aBk rfl rfl (Sr.of_own ((H.sees k).item (i:=8) rfl)) cf) ?_
   rintro u aq ds k H
   refine ⟨H.only,?_⟩
   refine XP (fun _ _=>yE rfl)<| XP (fun _ _=>tC rfl)<| XP (fun _ _=>aQ rfl)<| MxM.XL_exU oS rfl rfl (fun u k=>xP (H.sees k) 7 rfl sz73 rfl (v:=aq) rfl (kL ((H.sees k).item (i:=6) rfl)) rfl) ?_
   rintro u dt k H
   refine ⟨H.only,?_⟩
   refine MxM.XL_nil fun du hS=>?_
   have H:=H.sees hS
   have H:=cc.rejoin H
   exact (yV (zG (meet ⟨(bg,y.text,y.at_,y.now.kind,y.now.at_,y.now.n,y.now.text,y.r.Phases,y.r.Moves,ce,b9,ca,aq),zK,⟨H.pick [7,4,5,6,0,1],c⟩,Nat.lt_succ_self _⟩)))
  have c:=zU ag c
  obtain rfl:=gI c
  exact (xH (yI (yI (yU (zG (meet ⟨(an,ao,ap),zK,H.pick [0,1,2,3,4,5]⟩))))))
 rintro ⟨cg,ch,ci⟩ ρ dv H
 have c:=bd
 obtain ⟨dw,dx,cj,dy,dz,d0,d1,d2,d3⟩:=o
 refine zB fun d4 ck=>zA<| zH (fA h)<| zF (yE rfl)<| zF (dF rfl)<| zF (bW rfl)<| Ld fK H 0 2 rfl rfl ?_
 obtain ⟨d5,cl,c⟩:=zC c
 refine zF (zL (dJ (a:=cj) (b:=0) rfl rfl) cl)<| RN ck ?_
 obtain ⟨cm,c⟩:=yO c
 refine xJ cm ?_
 obtain rfl:=gI c
 refine (zS (kP rfl ?_))
 exact ⟨cg,ch,ci,rfl,H.pick [1,2,3,0]⟩
theorem aBl (b:Nat)(w:World):CallsD Tryz.prog 77 #[fA b] .returning w fun e u' a=>e= .returned (.tuple #[])∧u'= .returning∧a=w:=by
 refine callsD_of_wpS Tryz.func77 rfl fun c₀ cs hu=>?_
 apply wpS_seq
 apply wpS_region
 simp [wpOpsS,go_sem,recoverD,hu,Tryz.ntmps77,Exit.thenS]
 apply wpS_seq
 apply wpS_region
 simp [wpOpsS,go_sem,Exit.thenS,Act.eval,Array.replicate]
 refine wpS_cond (t:=false) (by simp [Act.eval,Array.replicate]) ?_
 simp only [Bool.false_eq_true,if_false]
 refine wpS_of_wp (wp_skip ?_)
 cases c₀
 simp_all [bodyPostS,results,Tryz.results77]
theorem en57c:Go.OB.Enters Tryz.prog 57:=⟨_,Tryz.func57,rfl,by kernel_rfl⟩
theorem zero109c:Go.OB.Zero Tryz.prog 109 ([i6 0,i6 0]):=by unfold Go.OB.Zero; kernel_rfl
theorem sz109c:Sz Tryz.prog 109 2:=by unfold Sz; kernel_rfl
theorem agg109c:Agg Tryz.prog 109:=by unfold Agg; kernel_rfl
theorem bz109c:Tryz.prog.built 109 []=some ([i6 0,i6 0]:List Value).toArray:=by kernel_rfl
theorem Fczw (a:gB)(b:Nat)(i:Value)(j:Value)(k:Value)(r:uF×gB)(c:Fcz a=some r)(O S:List Nat)(w:World)(H:Hd O w w S [.own Rp.str i 9 a.r.Phases,.own gX j 129 a.r.Moves,.own fB k 132 a.r.Rules,.blk b [sb a.text,i6 a.at_,i6 a.now.kind,i6 a.now.at_,i6 a.now.n,sb a.now.text,i,j,k] 107,.fz (.at 1 0 ((Fl.arr 7 Fl.str).f yG)),.fz (.gi 5)]):
  Cl 56 [.func (.func 57) #[fA b] #[]] w fun e m=> ∃d g h,e= .returned (.agg [i6 r.1.at_,i6 r.1.e].toArray)∧Hd O w m S [.own Rp.str d 9 r.2.r.Phases,.own gX g 129 r.2.r.Moves,.own fB h 132 r.2.r.Rules,.blk b [sb r.2.text,i6 r.2.at_,i6 r.2.now.kind,i6 r.2.now.at_,i6 r.2.now.n,sb r.2.now.text,d,g,h] 107]:=by
 unfold Fcz at c
 obtain ⟨x,e,c⟩:=zD c
 have hr:=Option.some.inj c
 subst hr
 refine aAd 7 Tryz.func56 rfl rfl rfl ?_
 refine sQ ?_
 refine jW ?_
 refine RLD_ex rfl rfl (xB zero109c H) ?_
 rintro _ o ⟨l,rfl,H⟩
 refine sV ?_
 refine sQ ?_
 refine jW ?_
 refine aBa rfl rfl (dC rfl) ?_
 refine RLD_defer (x:={target:= .fn (.func 77) #[fA l],args:= #[]}) rfl (run_defer (cap:=[_]) (us:=[]) rfl rfl) ?_
 refine sV ?_
 refine sQ ?_
 refine jW ?_
 refine aBa rfl rfl (bP (v:= .func (.func 57) #[fA b] #[]) rfl) ?_
 refine RLD_call rfl rfl (DoC_bnd en57c rfl rfl) (Fc6w a b i j k _ e _ _ _ (H.enter [0,1,2,3] [4,5])) ?_
 rintro _ p ⟨d,g,h,rfl,G⟩
 have H:=H.back [0,1,2,3] [4,5] rfl G
 refine ⟨_,rfl,?_⟩
 refine sV ?_
 refine sQ ?_
 refine jW ?_
 refine aBa rfl rfl (dB (cs:=[i6 0,i6 0]) bz109c) ?_
 refine RLD_exU rfl (yN (vs:=[i6 0,i6 0]) H 2 rfl sz109c rfl rfl rfl ⟨rfl,rfl,trivial⟩ rfl) ?_
 rintro q H
 refine sV ?_
 refine WPD_ret ?_
 intro tmps ht
 refine leaves_cons (f:=77) (args:= #[fA l]) (by simp) (by simp [go_sem]) ?_
 refine (aBl l _).mono ?_
 rintro e u' s ⟨rfl,rfl,rfl⟩
 refine aDc (fn:=_) rfl ht (jL rfl rfl (yX agg109c sz109c rfl (Hbc H 2 rfl)) ?_)
 exact ⟨d,g,h,rfl,H.pick [3,4,5,6]⟩
theorem Fd1w (f:List aN)(p1c0:Str)(v1:Value)(d:Nat)(r:Int)(c:Fd1 f p1c0=some r)(O S:List Nat)(w:World)(H:Hd O w w S [.blk d [sb p1c0] 9,f1 fB v1 f]):
  Cl 86 [v1,.func (.func 114) #[] #[fA d]] w fun e j=>e= .returned (i6 r)∧Hd O w j S [.blk d [sb p1c0] 9]:=by
 unfold Fd1 at c
 refine CW 19 Tryz.func86 ?_
 refine zB fun z k=>zA<| zI (i6 0)<| RN k ?_
 obtain ⟨l,m,c⟩:=xM c
 refine yL [4,5,6,7,8,9,10,11,12,13,14,15,16,17,18] (fun (g:Unit)=>[]) (fun g wl=>Hd O w wl S [.blk d [sb p1c0] 9]∧l ()=some r) ?_ ?_
 ·skip
  refine zB fun A n=>zA<| zH v1 ?_
  obtain ⟨o,p,c⟩:=zC c
  obtain ⟨B,C,q⟩:=SlF.len ((H.item (i:=1) rfl))
  refine zF (yK (xI u73 q) (congrArg (Value.int .i64) p))<| zH (i6 0)<| RN n<| yA ?_
  unfold Feq at c
  obtain ⟨s,h,t,c⟩:=yM c
  refine xA [4,5,8,9,10,11,12,13,14,15,16,17,18] (fun (g:Nat)=>[(8,i6 0)]) (fun g wl=>Hd O w wl S [.blk d [sb p1c0] 9,f1 fB v1 f]∧fJ s g ()=some r) (fun g=>g) h (zJ rfl zK) ⟨H.pick [0,1],c⟩ ?_
  clear H c
  rintro h ρ D ⟨H,c⟩
  obtain ⟨E,rfl,c⟩:=yS c
  have c:=yT t c
  refine zB fun F u=>zA ?_
  obtain ⟨G,v,c⟩:=zC c
  refine zF (zL (xC (a:=0) (b:=o) rfl rfl) v)<| RN u<| zB fun I J=>?_
  obtain ⟨x,c⟩:=yO c
  refine xJ x ?_
  exact (xH (yI (yI (yU (zG (meet ⟨(),zK,⟨H.pick [0],c⟩⟩))))))
 rintro _ ρ K ⟨H,c⟩
 have c:=xR m c
 refine zB fun L y=>zA<| zI (i6 (-1))<| RN y ?_
 obtain rfl:=gI c
 refine (zW (gZ (v1:=i6 (-1)) rfl rfl ?_))
 exact ⟨rfl,H.pick [0]⟩
theorem Fdzw (f:List aN)(p1c0:Str)(v1:Value)(d:Nat)(r:Bool)(c:Fdz f p1c0=some r)(O S:List Nat)(w:World)(H:Hd O w w S [.blk d [sb p1c0] 9,f1 fB v1 f]):
  Cl 113 [v1,.func (.func 114) #[] #[fA d]] w fun e h=>e= .returned (.bool r)∧Hd O w h S [.blk d [sb p1c0] 9]:=by
 unfold Fdz at c
 refine CW 9 Tryz.func113 ?_
 refine zB fun o i=>zA<| zI (.bool false)<| RN i<| zB fun p j=>zA<| zH v1<| zH (.func (.func 114) #[] #[fA d]) ?_
 obtain ⟨k,l,c⟩:=zD c
 refine zO rfl rfl (zM en86 rfl) (Fd1w f p1c0 v1 d _ l _ _ _ (H.enter [0] [1])) ?_
 rintro _ q ⟨rfl,m⟩
 have H:Hd _ _ _ _ [_,_]:=H.back [0] [1] rfl m
 refine ⟨_,rfl,?_⟩
 obtain ⟨g,n,c⟩:=zC c
 refine zF (zL (bK (a:=k) (b:=0) rfl rfl) n)<| zI (.bool g)<| RN j ?_
 obtain rfl:=gI c
 refine (zW (gZ (v1:= .bool g) rfl rfl ?_))
 exact ⟨rfl,H.pick [1]⟩
theorem Fdjw (c:Str)(b:Rules)(d:Int)(f:Nat)(g:Value)(h:Value)(j:Value)(k:Nat)(r:Bool)(a:Fdj c b d=some r)(O S:List Nat)(w:World)(H:Hd O w w S [.blk f [g,h,j] 75,.blk k [i6 d] 3,f1 Rp.str g b.Phases,f1 gX h b.Moves,f1 fB j b.Rules]):
  Cl 112 [sb c,fA f,fA k] w fun e o=>e= .returned (.bool r)∧Hd O w o S [.blk f [g,h,j] 75,.blk k [i6 d] 3]:=by
 unfold Fdj at a
 refine CW 11 Tryz.func112 ?_
 refine zB fun y p=>zA<| yQ rfl rfl (jA rfl rfl H) ?_
 rintro _ z ⟨q,rfl,H⟩
 refine zI (.bool false)<| RN p<| zB fun A s=>zA<| zF (aQ rfl)<| Ld mM H 0 2 rfl rfl<| Ld fK H 1 0 rfl rfl ?_
 obtain ⟨l,t,a⟩:=zD a
 refine aDo rfl rfl (pG u73 aO (H.item (i:=4) rfl) rfl rfl t) ?_
 rintro m u
 have H:=H.fz (.sl fB m l) u
 refine zF (dC rfl) ?_
 obtain ⟨n,v,a⟩:=zD a
 refine zO rfl rfl (zM en113 rfl) (Fdzw l c m q _ v _ _ _ (H.enter [5] [6])) ?_
 rintro _ B ⟨rfl,x⟩
 have H:Hd _ _ _ _ [_,_,_,_,_,_,_]:=H.back [5] [6] rfl x
 refine ⟨_,rfl,?_⟩
 refine zI (.bool n)<| RN s ?_
 obtain rfl:=gI a
 refine (zW (gZ (v1:= .bool n) rfl rfl ?_))
 exact ⟨rfl,H.pick [0,1]⟩
theorem Fc9w (d:Cond)(h:Int)(k:Int)(v1:Value)(f:Nat)(r:Bool×Int)(c:Fc9 d h k=some r)(O S:List Nat)(w:World)(H:Hd O w w S [.blk f [i6 k] 3,f1 fM v1 d.Kids]):
  Cl 145 [.agg [i6 d.Kind,sb d.Name,sb d.Other,i6 d.Op,i6 d.N,i6 d.Frames,v1].toArray,i6 h,fA f] w fun e m=>e= .returned (.bool r.1)∧Hd O w m S [.blk f [i6 r.2] 3]:=by
 unfold Fc9 at c
 refine CW 36 Tryz.func145 ?_
 refine zB fun P n=>zA<| yQ rfl rfl (xQ (cs:=[i6 d.Kind,sb d.Name,sb d.Other,i6 d.Op,i6 d.N,i6 d.Frames,v1]) rfl H) ?_
 rintro _ Q ⟨R,rfl,H⟩
 refine zI (.bool false)<| RN n<| zB fun T o=>zA<| zH (fA f)<| zF (yE rfl)<| Ld fK H 0 0 rfl rfl ?_
 obtain ⟨j,p,c⟩:=zC c
 refine zF (xN (a:=k) (b:=1) rfl rfl p)<| zF (yE rfl)<| yZ rfl (xP H 0 rfl sz3 rfl (v:=i6 j) rfl rfl rfl) ?_
 rintro U H
 refine RN o<| zB fun V q=>zB fun X s=>zA<| zH (i6 h) ?_
 obtain ⟨Y,t,c⟩:=zC c
 refine zF (zL (xW (a:=h) (b:=0) rfl rfl) t) ?_
 obtain ⟨u,c⟩:=yO c
 refine dI false u ?_
 refine zH (fA f)<| zF (yE rfl)<| Ld fK H 0 0 rfl rfl ?_
 obtain ⟨x,y,c⟩:=zC c
 refine zF (zL (eQ (a:=j) (b:=200) rfl rfl) y)<| zF (zY (v:= .bool x) rfl rfl)<| RN s ?_
 obtain ⟨z,c⟩:=yO c
 refine xJ z ?_
 refine zS (zG (q _ _ ?_))
 obtain ⟨A,B,c⟩:=xM c
 refine yL [6,8,22,23,24,25,26,27,28,29,30,31,32,33,34,35] (fun (g:Unit)=>[]) (fun g wl=>Hd O w wl S [.blk f [i6 j] 3]∧A ()=some r) ?_ ?_
 ·skip
  refine zB fun Z C=>zA<| zF (nR rfl)<| Ld rF H 2 6 rfl rfl ?_
  obtain ⟨D,E,c⟩:=zC c
  obtain ⟨aa,ab,F⟩:=SlF.len ((H.item (i:=1) rfl))
  refine zF (yK (xI sO F) (congrArg (Value.int .i64) E))<| zH (i6 0)<| RN C<| yA ?_
  unfold Fev at c
  obtain ⟨G,l,I,c⟩:=yM c
  refine xA [6,8,25,26,27,28,29,30,31,32,33,34,35] (fun (g:Nat)=>[(25,i6 0)]) (fun g wl=>Hd O w wl S [.blk f [i6 j] 3,f1 fM v1 d.Kids]∧fJ G g ()=some r) (fun g=>g) l (zJ rfl zK) ⟨H.pick [0,1],c⟩ ?_
  clear H c
  rintro l ρ ac ⟨H,c⟩
  obtain ⟨ad,rfl,c⟩:=yS c
  have c:=yT I c
  refine zB fun ae J=>zA ?_
  obtain ⟨af,K,c⟩:=zC c
  refine zF (zL (xC (a:=0) (b:=D) rfl rfl) K)<| RN J<| zB fun ag ah=>?_
  obtain ⟨L,c⟩:=yO c
  refine xJ L ?_
  exact (xH (yI (yI (yU (zG (meet ⟨(),zK,⟨H.pick [0],c⟩⟩))))))
 rintro _ ρ ai ⟨H,c⟩
 have c:=xR B c
 refine zB fun aj M=>zA<| zI (.bool true)<| RN M ?_
 obtain rfl:=gI c
 refine (zW (gZ (v1:= .bool true) rfl rfl ?_))
 exact ⟨rfl,H.pick [0]⟩
theorem Fdmw (d:Int)(r:mX×Bool)(c:Fdm d=some r)(O S:List Nat)(w:World)(H:Hd O w w S []):
  Cl 168 [i6 d] w fun e f=>e= .returned (.tuple #[.agg [.bool r.1.name,.bool r.1.other,.bool r.1.op,.bool r.1.n,.bool r.1.frames,i6 r.1.least,i6 r.1.most].toArray,.bool r.2])∧Hd O w f S []:=by
 unfold Fdm at c
 refine CW 41 Tryz.func168 ?_
 refine zB fun y g=>zA<| yQ rfl rfl (xB aEh H) ?_
 rintro _ z ⟨A,rfl,H⟩
 refine zI (.bool false)<| RN g<| zB fun B C=>zB fun D h=>zA<| zH (i6 d)<| RN h<| yA<| zB fun E i=>zB fun F j=>zA ?_
 obtain ⟨k,l,c⟩:=zC c
 refine zF (zL (xW (a:=d) (b:=1) rfl rfl) l)<| zI (.bool k)<| RN j ?_
 obtain ⟨m,c⟩:=yO c
 refine xJ m ?_
 refine zA ?_
 obtain ⟨o,p,c⟩:=zC c
 refine zF (zL (xW (a:=d) (b:=2) rfl rfl) p)<| zI (.bool o)<| RN i ?_
 obtain ⟨q,c⟩:=yO c
 refine xJ q ?_
 refine zB fun G s=>zA ?_
 obtain ⟨t,u,c⟩:=zC c
 refine zF (zL (xW (a:=d) (b:=3) rfl rfl) u)<| zI (.bool t)<| RN s ?_
 obtain ⟨v,c⟩:=eX c
 refine kF v ?_
 refine zB fun I x=>zA<| zF (dB (cs:=[.bool true,.bool false,.bool true,.bool true,.bool false,i6 0,i6 0]) (aBj _ _ _))<| yZ rfl (yN (vs:=[.bool true,.bool false,.bool true,.bool true,.bool false,i6 0,i6 0]) H 0 rfl sz203 rfl rfl rfl ⟨rfl,rfl,rfl,rfl,rfl,rfl,rfl,trivial⟩ rfl) ?_
 rintro J H
 refine zI (.bool true)<| RN x ?_
 obtain rfl:=gI c
 refine (zW (yJ (zV (pF (v1:= .bool true) rfl rfl (yX agg203 sz203 rfl (Hbc H 0 rfl)) rfl ?_))))
 exact ⟨rfl,H.pick []⟩
set_option maxRecDepth 100000 in
theorem Fddw (f:Cond)(v1:Value)(r:Int)(c:Fdd f=some r)(O S:List Nat)(w:World)(H:Hd O w w S [f1 fM v1 f.Kids]):
  Cl 146 [.agg [i6 f.Kind,sb f.Name,sb f.Other,i6 f.Op,i6 f.N,i6 f.Frames,v1].toArray] w fun e o=>e= .returned (i6 r)∧Hd O w o S []:=by
 unfold Fdd at c
 refine CW 140 Tryz.func146 ?_
 refine zB fun K3 q=>zA<| yQ rfl rfl (xQ (cs:=[i6 f.Kind,sb f.Name,sb f.Other,i6 f.Op,i6 f.N,i6 f.Frames,v1]) rfl H) ?_
 rintro _ w6 ⟨g,rfl,H⟩
 refine zI (i6 0)<| RN q<| zB fun K7 s=>zA<| zF (kY rfl)<| Ld fK H 1 0 rfl rfl ?_
 have t:=H
 obtain ⟨⟨d,j⟩,u,c⟩:=zD c
 refine zO rfl rfl (zM en168 rfl) (Fdmw f.Kind _ u _ _ _ (H.enter [] [])) ?_
 rintro _ b5 ⟨rfl,x⟩
 have H:=t.step (x.only:Only [] _ _)
 refine ⟨_,rfl,?_⟩
 refine zH (.tuple #[.agg [.bool d.name,.bool d.other,.bool d.op,.bool d.n,.bool d.frames,i6 d.least,i6 d.most].toArray,.bool j])<| zF (yP (v:= .agg [.bool d.name,.bool d.other,.bool d.op,.bool d.n,.bool d.frames,i6 d.least,i6 d.most].toArray) rfl rfl)<| zF (yP (v:= .bool j) rfl rfl)<| yQ rfl rfl (xB aEh H) ?_
 rintro _ b6 ⟨h,rfl,H⟩
 refine yZ rfl (yN (vs:=[.bool d.name,.bool d.other,.bool d.op,.bool d.n,.bool d.frames,i6 d.least,i6 d.most]) H 2 rfl sz203 rfl rfl rfl ⟨rfl,rfl,rfl,rfl,rfl,rfl,rfl,trivial⟩ rfl) ?_
 rintro b7 H
 refine zI (.bool j)<| RN s<| zB fun b8 y=>zB fun b9 z=>zA<| zH (.bool j) ?_
 obtain ⟨ca,A,c⟩:=zC c
 refine zF (zL (xX (p:=j) rfl) A)<| RN z ?_
 obtain ⟨B,c⟩:=yO c
 refine xJ B ?_
 refine zS (zG (y _ _ ?_))
 refine zB fun cb C=>?_
 refine zB fun cc D=>zA<| zF (aEa rfl)<| Ld jS H 2 0 rfl rfl ?_
 obtain ⟨cd,E,c⟩:=zC c
 refine zF (zL (xX (p:=d.name) rfl) E) ?_
 obtain ⟨F,c,G⟩:=zD c
 refine eF 5 [16,17,18,19,20] [(20,.bool F)] (fun wl=>Hd O w wl S [f1 fM v1 f.Kids,.blk g [i6 f.Kind,sb f.Name,sb f.Other,i6 f.Op,i6 f.N,i6 f.Frames,v1] 127,.blk h [.bool d.name,.bool d.other,.bool d.op,.bool d.n,.bool d.frames,i6 d.least,i6 d.most] 203]) ?_ ?_
 ·skip
  obtain ⟨I,c⟩:=yO c
  refine dI false I ?_
  refine yC ?_
  refine yC ?_
  refine yC ?_
  refine zF (zY (v:= .bool false) rfl rfl) ?_
  obtain rfl:=gI c
  exact zQ (zG (meet ⟨(zJ rfl zK),H.pick [0,1,2]⟩))
 rintro ρ ce H
 have c:=G
 obtain ⟨J,c,K⟩:=zD c
 refine eF 10 [21,22,23,24,25,26,27,28,29,30] [(30,.bool J)] (fun wl=>Hd O w wl S [f1 fM v1 f.Kids,.blk g [i6 f.Kind,sb f.Name,sb f.Other,i6 f.Op,i6 f.N,i6 f.Frames,v1] 127,.blk h [.bool d.name,.bool d.other,.bool d.op,.bool d.n,.bool d.frames,i6 d.least,i6 d.most] 203]) ?_ ?_
 ·skip
  obtain ⟨L,c⟩:=yO c
  refine dI false L ?_
  refine zF (aEd rfl)<| Ld jS H 2 1 rfl rfl ?_
  obtain ⟨cf,M,c⟩:=zC c
  refine zF (zL (xX (p:=d.other) rfl) M) ?_
  obtain ⟨P,c⟩:=eX c
  refine dI true P ?_
  refine zF (fa127_2 rfl)<| Ld dW H 1 2 rfl rfl ?_
  obtain ⟨k,Q,c⟩:=zC c
  refine zF (zL (aEf (s1:=f.Other) (s2:=[]) rfl rfl) Q)<| zF (yD (v:= .bool k) rfl rfl)<| zF (zY (v:= .bool k) rfl rfl) ?_
  obtain rfl:=gI c
  exact zQ (zG (meet ⟨(zJ rfl zK),H.pick [0,1,2]⟩))
 rintro ρ cg H
 have c:=K
 obtain ⟨R,c,T⟩:=zD c
 refine eF 10 [31,32,33,34,35,36,37,38,39,40] [(40,.bool R)] (fun wl=>Hd O w wl S [f1 fM v1 f.Kids,.blk g [i6 f.Kind,sb f.Name,sb f.Other,i6 f.Op,i6 f.N,i6 f.Frames,v1] 127,.blk h [.bool d.name,.bool d.other,.bool d.op,.bool d.n,.bool d.frames,i6 d.least,i6 d.most] 203]) ?_ ?_
 ·skip
  obtain ⟨U,c⟩:=yO c
  refine dI false U ?_
  refine zF (aEs rfl)<| Ld jS H 2 2 rfl rfl ?_
  obtain ⟨ch,V,c⟩:=zC c
  refine zF (zL (xX (p:=d.op) rfl) V) ?_
  obtain ⟨X,c⟩:=yO c
  refine dI false X ?_
  refine yC ?_
  refine yC ?_
  refine yC ?_
  refine zF (zY (v:= .bool false) rfl rfl)<| zF (zY (v:= .bool false) rfl rfl) ?_
  obtain rfl:=gI c
  exact zQ (zG (meet ⟨(zJ rfl zK),H.pick [0,1,2]⟩))
 rintro ρ ci H
 have c:=T
 obtain ⟨Y,c,Z⟩:=zD c
 refine eF 10 [41,42,43,44,45,46,47,48,49,50] [(50,.bool Y)] (fun wl=>Hd O w wl S [f1 fM v1 f.Kids,.blk g [i6 f.Kind,sb f.Name,sb f.Other,i6 f.Op,i6 f.N,i6 f.Frames,v1] 127,.blk h [.bool d.name,.bool d.other,.bool d.op,.bool d.n,.bool d.frames,i6 d.least,i6 d.most] 203]) ?_ ?_
 ·skip
  obtain ⟨aa,c⟩:=yO c
  refine dI false aa ?_
  refine zF (aEe rfl)<| Ld jS H 2 3 rfl rfl ?_
  obtain ⟨cj,ab,c⟩:=zC c
  refine zF (zL (xX (p:=d.n) rfl) ab) ?_
  obtain ⟨ac,c⟩:=yO c
  refine dI false ac ?_
  refine yC ?_
  refine yC ?_
  refine yC ?_
  refine zF (zY (v:= .bool false) rfl rfl)<| zF (zY (v:= .bool false) rfl rfl) ?_
  obtain rfl:=gI c
  exact zQ (zG (meet ⟨(zJ rfl zK),H.pick [0,1,2]⟩))
 rintro ρ ck H
 have c:=Z
 obtain ⟨ad,c,ae⟩:=zD c
 refine eF 10 [51,52,53,54,55,56,57,58,59,60] [(60,.bool ad)] (fun wl=>Hd O w wl S [f1 fM v1 f.Kids,.blk g [i6 f.Kind,sb f.Name,sb f.Other,i6 f.Op,i6 f.N,i6 f.Frames,v1] 127,.blk h [.bool d.name,.bool d.other,.bool d.op,.bool d.n,.bool d.frames,i6 d.least,i6 d.most] 203]) ?_ ?_
 ·skip
  obtain ⟨af,c⟩:=yO c
  refine dI false af ?_
  refine zF (aEo rfl)<| Ld jS H 2 4 rfl rfl ?_
  obtain ⟨cl,ag,c⟩:=zC c
  refine zF (zL (xX (p:=d.frames) rfl) ag) ?_
  obtain ⟨ah,c⟩:=eX c
  refine dI true ah ?_
  refine zF (fa127_5 rfl)<| Ld fK H 1 5 rfl rfl ?_
  obtain ⟨l,ai,c⟩:=zC c
  refine zF (zL (dJ (a:=f.Frames) (b:=0) rfl rfl) ai)<| zF (yD (v:= .bool l) rfl rfl)<| zF (zY (v:= .bool l) rfl rfl) ?_
  obtain rfl:=gI c
  exact zQ (zG (meet ⟨(zJ rfl zK),H.pick [0,1,2]⟩))
 rintro ρ cm H
 have c:=ae
 obtain ⟨aj,c⟩:=yO c
 refine dI false aj ?_
 refine zF (nR rfl)<| Ld rF H 1 6 rfl rfl ?_
 obtain ⟨ak,al,c⟩:=zC c
 obtain ⟨cn,co,am⟩:=SlF.len ((H.item (i:=0) rfl))
 refine zF (yK (xI sO am) (congrArg (Value.int .i64) al))<| zF (fa203_5 rfl)<| Ld fK H 2 5 rfl rfl<| zF (fa203_6 rfl)<| Ld fK H 2 6 rfl rfl ?_
 have an:=H
 obtain ⟨ao,ap,c⟩:=zD c
 refine zO rfl rfl (zM en45 rfl) (Faew ak d.least d.most _ ap _ _ _ (H.enter [] [])) ?_
 rintro _ cp ⟨rfl,aq⟩
 have H:=an.step (aq.only:Only [] _ _)
 refine ⟨_,rfl,?_⟩
 obtain ⟨ar,au,c⟩:=zC c
 refine zF (zL (xX (p:=ao) rfl) au)<| zF (zY (v:= .bool ar) rfl rfl)<| RN D ?_
 obtain ⟨av,c⟩:=yO c
 refine xJ av ?_
 refine zS (zG (C _ _ ?_))
 refine zB fun cq aw=>?_
 refine yA ?_
 refine zB fun cr ax=>zA<| zF (aEa rfl)<| Ld jS H 2 0 rfl rfl ?_
 obtain ⟨ay,c,az⟩:=zD c
 refine eF 6 [75,76,77,78,79,80] [(80,.bool ay)] (fun wl=>Hd O w wl S [f1 fM v1 f.Kids,.blk g [i6 f.Kind,sb f.Name,sb f.Other,i6 f.Op,i6 f.N,i6 f.Frames,v1] 127,.blk h [.bool d.name,.bool d.other,.bool d.op,.bool d.n,.bool d.frames,i6 d.least,i6 d.most] 203]) ?_ ?_
 ·skip
  obtain ⟨a0,c⟩:=eX c
  refine dI true a0 ?_
  refine zF (aEl rfl)<| Ld dW H 1 1 rfl rfl ?_
  have a1:=H
  obtain ⟨a2,a3,c⟩:=zD c
  refine zO rfl rfl (zM en41 rfl) (Fagw f.Name _ a3 _ _ _ (H.enter [] [])) ?_
  rintro _ ct ⟨rfl,a4⟩
  have H:=a1.step (a4.only:Only [] _ _)
  refine ⟨_,rfl,?_⟩
  obtain ⟨a5,a6,c⟩:=zC c
  refine zF (zL (xX (p:=a2) rfl) a6)<| zF (yD (v:= .bool a5) rfl rfl) ?_
  obtain rfl:=gI c
  exact zQ (zG (meet ⟨(zJ rfl zK),H.pick [0,1,2]⟩))
 rintro ρ cu H
 have c:=az
 obtain ⟨a7,c⟩:=yO c
 refine dI false a7 ?_
 refine zF (aEd rfl)<| Ld jS H 2 1 rfl rfl ?_
 obtain ⟨a8,c⟩:=yO c
 refine dI false a8 ?_
 refine yC ?_
 refine yC ?_
 refine yC ?_
 refine yC ?_
 refine zF (zY (v:= .bool false) rfl rfl)<| zF (zY (v:= .bool false) rfl rfl)<| zI (.bool false)<| RN ax<| rE rfl<| zB fun cv a9=>zA<| zF (aEs rfl)<| Ld jS H 2 2 rfl rfl ?_
 obtain ⟨ba,c⟩:=eX c
 refine dI true ba ?_
 refine zF (aAi rfl)<| Ld fK H 1 3 rfl rfl ?_
 have bb:=H
 obtain ⟨bc,bd,c⟩:=zD c
 refine zO rfl rfl (zM en45 rfl) (Faew f.Op 1 6 _ bd _ _ _ (H.enter [] [])) ?_
 rintro _ cw ⟨rfl,be⟩
 have H:=bb.step (be.only:Only [] _ _)
 refine ⟨_,rfl,?_⟩
 obtain ⟨m,bf,c⟩:=zC c
 refine zF (zL (xX (p:=bc) rfl) bf)<| zF (yD (v:= .bool m) rfl rfl)<| zI (.bool m)<| RN a9 ?_
 obtain ⟨bg,c⟩:=yO c
 refine xJ bg ?_
 refine zB fun cx bh=>zA<| zF (aEo rfl)<| Ld jS H 2 4 rfl rfl ?_
 obtain ⟨bi,c⟩:=yO c
 refine dI false bi ?_
 refine yC ?_
 refine yC ?_
 refine yC ?_
 refine yC ?_
 refine zF (zY (v:= .bool false) rfl rfl)<| zI (.bool false)<| RN bh<| rE rfl<| zB fun cy bj=>zA<| zF (kY rfl)<| Ld fK H 1 0 rfl rfl ?_
 obtain ⟨cz,bk,c⟩:=zC c
 refine zF (zL (xW (a:=f.Kind) (b:=13) rfl rfl) bk) ?_
 obtain ⟨bl,c⟩:=yO c
 refine dI false bl ?_
 refine yC ?_
 refine yC ?_
 refine yC ?_
 refine yC ?_
 refine yC ?_
 refine yC ?_
 refine zF (zY (v:= .bool false) rfl rfl)<| zI (.bool false)<| RN bj<| rE rfl<| zB fun c0 bm=>zA<| zF (aEe rfl)<| Ld jS H 2 3 rfl rfl ?_
 obtain ⟨bn,c,bo⟩:=zD c
 refine eF 6 [124,125,126,127,128,129] [(129,.bool bn)] (fun wl=>Hd O w wl S [f1 fM v1 f.Kids,.blk g [i6 f.Kind,sb f.Name,sb f.Other,i6 f.Op,i6 f.N,i6 f.Frames,v1] 127,.blk h [.bool d.name,.bool d.other,.bool d.op,.bool d.n,.bool d.frames,i6 d.least,i6 d.most] 203]) ?_ ?_
 ·skip
  obtain ⟨bp,c⟩:=eX c
  refine dI true bp ?_
  refine zF (aEm rfl)<| Ld fK H 1 4 rfl rfl ?_
  have bq:=H
  obtain ⟨br,bt,c⟩:=zD c
  refine zO rfl rfl (zM en45 rfl) (Faew f.N (-1125899906842624) 1125899906842624 _ bt _ _ _ (H.enter [] [])) ?_
  rintro _ c1 ⟨rfl,bu⟩
  have H:=bq.step (bu.only:Only [] _ _)
  refine ⟨_,rfl,?_⟩
  obtain ⟨bv,bw,c⟩:=zC c
  refine zF (zL (xX (p:=br) rfl) bw)<| zF (yD (v:= .bool bv) rfl rfl) ?_
  obtain rfl:=gI c
  exact zQ (zG (meet ⟨(zJ rfl zK),H.pick [0,1,2]⟩))
 rintro ρ c2 H
 have c:=bo
 obtain ⟨bx,c⟩:=yO c
 refine dI false bx ?_
 refine zF (kY rfl)<| Ld fK H 1 0 rfl rfl ?_
 obtain ⟨c3,bz,c⟩:=zC c
 refine zF (zL (xW (a:=f.Kind) (b:=5) rfl rfl) bz) ?_
 obtain ⟨b0,c⟩:=yO c
 refine dI false b0 ?_
 refine yC ?_
 refine yC ?_
 refine yC ?_
 refine zF (zY (v:= .bool false) rfl rfl)<| zF (zY (v:= .bool false) rfl rfl)<| zI (.bool false)<| RN bm<| rE rfl<| (zS (yV (zG (aw _ _ ?_))))
 refine zB fun c4 b1=>zA<| zI (i6 0)<| RN b1 ?_
 obtain rfl:=gI c
 refine (zW (gZ (v1:=i6 0) rfl rfl ?_))
 exact ⟨rfl,H.pick []⟩
theorem Fcvw (d:Cond)(v1:Value)(r:Int)(c:Fcv d=some r)(O S:List Nat)(w:World)(H:Hd O w w S [f1 fM v1 d.Kids]):
  Cl 110 [.agg [i6 d.Kind,sb d.Name,sb d.Other,i6 d.Op,i6 d.N,i6 d.Frames,v1].toArray,.func (.func 146) #[] #[]] w fun e j=>e= .returned (i6 r)∧Hd O w j S []:=by
 unfold Fcv at c
 refine CW 29 Tryz.func110 ?_
 refine zB fun I k=>zA<| yQ rfl rfl (xQ (cs:=[i6 d.Kind,sb d.Name,sb d.Other,i6 d.Op,i6 d.N,i6 d.Frames,v1]) rfl H) ?_
 rintro _ J ⟨K,rfl,H⟩
 refine zI (i6 0)<| RN k<| zB fun L l=>zB fun M m=>zA<| zH (.func (.func 146) #[] #[])<| zF (yK (yH (cs:=[i6 d.Kind,sb d.Name,sb d.Other,i6 d.Op,i6 d.N,i6 d.Frames,v1]) dV rfl dM rfl (Hbc H 1 rfl)) rfl) ?_
 have n:=H
 obtain ⟨f,o,c⟩:=zD c
 refine zO rfl rfl (bY en146 rfl rfl) (Fddw d v1 _ o _ _ _ (H.enter [] [0])) ?_
 rintro _ P ⟨rfl,p⟩
 have H:=n.step (p.only:Only [] _ _)
 refine ⟨_,rfl,?_⟩
 refine zI (i6 f)<| RN m<| zB fun Q q=>zA<| zH (i6 f) ?_
 obtain ⟨R,s,c⟩:=zC c
 refine zF (zL (dJ (a:=f) (b:=0) rfl rfl) s)<| RN q ?_
 obtain ⟨t,c⟩:=yO c
 refine xJ t ?_
 refine zS (zG (l _ _ ?_))
 obtain ⟨u,v,c⟩:=xM c
 refine yL [4,7,8,15,16,17,18,19,20,21,22,23,24,25,26,27,28] (fun (g:Unit)=>[]) (fun g wl=>Hd O w wl S []∧u ()=some r) ?_ ?_
 ·skip
  refine zB fun T x=>zA<| zF (nR rfl)<| Ld rF H 1 6 rfl rfl ?_
  obtain ⟨y,z,c⟩:=zC c
  obtain ⟨U,V,A⟩:=SlF.len ((H.item (i:=0) rfl))
  refine zF (yK (xI sO A) (congrArg (Value.int .i64) z))<| zH (i6 0)<| RN x<| yA ?_
  unfold Fd9 at c
  obtain ⟨B,h,C,c⟩:=yM c
  refine xA [4,7,8,18,19,20,21,22,23,24,25,26,27,28] (fun (g:Nat)=>[(18,i6 0)]) (fun g wl=>Hd O w wl S [f1 fM v1 d.Kids]∧fJ B g ()=some r) (fun g=>g) h (zJ rfl zK) ⟨H.pick [0],c⟩ ?_
  clear H c
  rintro h ρ X ⟨H,c⟩
  obtain ⟨Y,rfl,c⟩:=yS c
  have c:=yT C c
  refine zB fun Z D=>zA ?_
  obtain ⟨aa,E,c⟩:=zC c
  refine zF (zL (xC (a:=0) (b:=y) rfl rfl) E)<| RN D<| zB fun ab ac=>?_
  obtain ⟨F,c⟩:=yO c
  refine xJ F ?_
  exact (xH (yI (yI (yU (zG (meet ⟨(),zK,⟨H.pick [],c⟩⟩))))))
 rintro _ ρ ad ⟨H,c⟩
 have c:=xR v c
 refine zB fun ae G=>zA<| zI (i6 0)<| RN G ?_
 obtain rfl:=gI c
 refine (zW (gZ (v1:=i6 0) rfl rfl ?_))
 exact ⟨rfl,H.pick []⟩
theorem Fdvw (a:Cond)(v1:Value)(r:Int)(b:Fdv a=some r)(O S:List Nat)(w:World)(H:Hd O w w S [f1 fM v1 a.Kids]):
  Cl 109 [.agg [i6 a.Kind,sb a.Name,sb a.Other,i6 a.Op,i6 a.N,i6 a.Frames,v1].toArray] w fun e d=>e= .returned (i6 r)∧Hd O w d S []:=by
 unfold Fdv at b
 refine CW 9 Tryz.func109 ?_
 refine zB fun x f=>zA<| yQ rfl rfl (xQ (cs:=[i6 a.Kind,sb a.Name,sb a.Other,i6 a.Op,i6 a.N,i6 a.Frames,v1]) rfl H) ?_
 rintro _ y ⟨z,rfl,H⟩
 refine zI (i6 0)<| RN f<| zB fun A g=>zA<| yQ rfl rfl (xB zero3 H) ?_
 rintro _ B ⟨h,rfl,H⟩
 refine yZ rfl (xP H 2 rfl sz3 rfl (v:=i6 0) rfl rfl rfl) ?_
 rintro C H
 refine RN g<| zB fun D i=>zB fun E j=>zA<| zF (yK (yH (cs:=[i6 a.Kind,sb a.Name,sb a.Other,i6 a.Op,i6 a.N,i6 a.Frames,v1]) dV rfl dM rfl (Hbc H 1 rfl)) rfl) ?_
 obtain ⟨⟨k,F⟩,l,b⟩:=zD b
 refine zO rfl rfl (zM en145 rfl) (Fc9w a 20 0 v1 h _ l _ _ _ (H.enter [2] [0])) ?_
 rintro _ G ⟨rfl,m⟩
 have H:Hd _ _ _ _ [_,_,_]:=H.back [2] [0] rfl m
 refine ⟨_,rfl,?_⟩
 obtain ⟨I,n,b⟩:=zC b
 refine zF (zL (xX (p:=k) rfl) n)<| RN j ?_
 obtain ⟨o,b⟩:=yO b
 refine xJ o ?_
 refine zS (zG (i _ _ ?_))
 refine zB fun J q=>zA<| zF (yK (yH (cs:=[i6 a.Kind,sb a.Name,sb a.Other,i6 a.Op,i6 a.N,i6 a.Frames,v1]) dV rfl dM rfl (Hbc H 1 rfl)) rfl) ?_
 have s:=H
 obtain ⟨c,t,b⟩:=zD b
 refine zO rfl rfl (zM en110 rfl) (Fcvw a v1 _ t _ _ _ (H.enter [] [0])) ?_
 rintro _ K ⟨rfl,u⟩
 have H:=s.step (u.only:Only [] _ _)
 refine ⟨_,rfl,?_⟩
 refine zI (i6 c)<| RN q ?_
 obtain rfl:=gI b
 refine (zW (gZ (v1:=i6 c) rfl rfl ?_))
 exact ⟨rfl,H.pick []⟩
theorem Fdaw (c:Cond)(f:Rules)(c1f1:Int)(v1:Value)(g:Nat)(i:Value)(j:Value)(k:Value)(l:Nat)(h:Nat)(r:Int)(d:Fda c f c1f1=some r)(O S:List Nat)(w:World)(H:Hd O w w S [.blk g [i,j,k] 75,.blk h [i6 c1f1] 3,.blk l [.func (.func 112) #[] #[fA g,fA h]] 89,f1 fM v1 c.Kids,f1 Rp.str i f.Phases,f1 gX j f.Moves,f1 fB k f.Rules]):
  Cl 115 [.agg [i6 c.Kind,sb c.Name,sb c.Other,i6 c.Op,i6 c.N,i6 c.Frames,v1].toArray,fA g,fA l] w fun e m=>e= .returned (i6 r)∧Hd O w m S [.blk g [i,j,k] 75,.blk h [i6 c1f1] 3,.blk l [.func (.func 112) #[] #[fA g,fA h]] 89]:=by
 unfold Fda at d
 refine CW 28 Tryz.func115 ?_
 refine zB fun C n=>zA<| yQ rfl rfl (xQ (cs:=[i6 c.Kind,sb c.Name,sb c.Other,i6 c.Op,i6 c.N,i6 c.Frames,v1]) rfl H) ?_
 rintro _ D ⟨o,rfl,H⟩
 refine zI (i6 0)<| RN n<| zB fun E p=>zB fun F q=>zA<| zF (kY rfl)<| Ld fK H 7 0 rfl rfl ?_
 obtain ⟨G,s,d⟩:=zC d
 refine zF (zL (xW (a:=c.Kind) (b:=6) rfl rfl) s) ?_
 obtain ⟨t,d,u⟩:=zD d
 refine eF 8 [8,9,10,11,12,13,14,15] [(15,.bool t)] (fun wl=>Hd O w wl S [.blk g [i,j,k] 75,.blk h [i6 c1f1] 3,.blk l [.func (.func 112) #[] #[fA g,fA h]] 89,f1 fM v1 c.Kids,f1 Rp.str i f.Phases,f1 gX j f.Moves,f1 fB k f.Rules,.blk o [i6 c.Kind,sb c.Name,sb c.Other,i6 c.Op,i6 c.N,i6 c.Frames,v1] 127]) ?_ ?_
 ·skip
  obtain ⟨x,d⟩:=yO d
  refine dI false x ?_
  refine yC ?_
  refine yC ?_
  refine yC ?_
  refine yC ?_
  refine yC ?_
  refine yC ?_
  refine zF (zY (v:= .bool false) rfl rfl) ?_
  obtain rfl:=gI d
  exact zQ (zG (meet ⟨(zJ rfl zK),H.pick [0,1,2,3,4,5,6,7]⟩))
 rintro ρ I H
 have d:=u
 obtain ⟨y,d⟩:=yO d
 refine dI false y ?_
 refine zF (kY rfl)<| Ld fK H 7 0 rfl rfl ?_
 obtain ⟨J,z,d⟩:=zC d
 refine zF (zL (xW (a:=c.Kind) (b:=7) rfl rfl) z) ?_
 obtain ⟨A,d⟩:=yO d
 refine dI false A ?_
 refine yC ?_
 refine yC ?_
 refine yC ?_
 refine yC ?_
 refine yC ?_
 refine zF (zY (v:= .bool false) rfl rfl)<| zF (zY (v:= .bool false) rfl rfl)<| RN q<| rE rfl<| zS (zG (p _ _ ?_))
 refine zB fun K B=>zA<| zI (i6 0)<| RN B ?_
 obtain rfl:=gI d
 refine (zW (gZ (v1:=i6 0) rfl rfl ?_))
 exact ⟨rfl,H.pick [0,1,2]⟩
theorem Fdew (d:Cond)(p1c0:Rules)(p1c1f1:Int)(v1:Value)(f:Nat)(j:Value)(k:Value)(l:Value)(m:Nat)(h:Nat)(r:Int)(c:Fde d p1c0 p1c1f1=some r)(O S:List Nat)(w:World)(H:Hd O w w S [.blk f [j,k,l] 75,.blk h [i6 p1c1f1] 3,.blk m [.func (.func 112) #[] #[fA f,fA h]] 89,f1 fM v1 d.Kids,f1 Rp.str j p1c0.Phases,f1 gX k p1c0.Moves,f1 fB l p1c0.Rules]):
  Cl 110 [.agg [i6 d.Kind,sb d.Name,sb d.Other,i6 d.Op,i6 d.N,i6 d.Frames,v1].toArray,.func (.func 115) #[] #[fA f,fA m]] w fun e p=>e= .returned (i6 r)∧Hd O w p S [.blk f [j,k,l] 75,.blk h [i6 p1c1f1] 3,.blk m [.func (.func 112) #[] #[fA f,fA h]] 89]:=by
 unfold Fde at c
 refine CW 29 Tryz.func110 ?_
 refine zB fun P q=>zA<| yQ rfl rfl (xQ (cs:=[i6 d.Kind,sb d.Name,sb d.Other,i6 d.Op,i6 d.N,i6 d.Frames,v1]) rfl H) ?_
 rintro _ Q ⟨R,rfl,H⟩
 refine zI (i6 0)<| RN q<| zB fun T s=>zB fun U t=>zA<| zH (.func (.func 115) #[] #[fA f,fA m])<| zF (yK (yH (cs:=[i6 d.Kind,sb d.Name,sb d.Other,i6 d.Op,i6 d.N,i6 d.Frames,v1]) dV rfl dM rfl (Hbc H 7 rfl)) rfl) ?_
 obtain ⟨n,u,c⟩:=zD c
 refine zO rfl rfl (bY en115 rfl rfl) (Fdaw d p1c0 p1c1f1 v1 f j k l m h _ u _ _ _ (H.enter [0,1,2] [3,4,5,6])) ?_
 rintro _ V ⟨rfl,v⟩
 have H:Hd _ _ _ _ [_,_,_,_,_,_,_,_]:=H.back [0,1,2] [3,4,5,6] rfl v
 refine ⟨_,rfl,?_⟩
 refine zI (i6 n)<| RN t<| zB fun X x=>zA<| zH (i6 n) ?_
 obtain ⟨Y,y,c⟩:=zC c
 refine zF (zL (dJ (a:=n) (b:=0) rfl rfl) y)<| RN x ?_
 obtain ⟨z,c⟩:=yO c
 refine xJ z ?_
 refine zS (zG (s _ _ ?_))
 obtain ⟨A,B,c⟩:=xM c
 refine yL [4,7,8,15,16,17,18,19,20,21,22,23,24,25,26,27,28] (fun (g:Unit)=>[]) (fun g wl=>Hd O w wl S [f1 Rp.str j p1c0.Phases,f1 gX k p1c0.Moves,f1 fB l p1c0.Rules,.blk f [j,k,l] 75,.blk h [i6 p1c1f1] 3,.blk m [.func (.func 112) #[] #[fA f,fA h]] 89]∧A ()=some r) ?_ ?_
 ·skip
  refine zB fun Z C=>zA<| zF (nR rfl)<| Ld rF H 4 6 rfl rfl ?_
  obtain ⟨D,E,c⟩:=zC c
  obtain ⟨aa,ab,F⟩:=SlF.len ((H.item (i:=0) rfl))
  refine zF (yK (xI sO F) (congrArg (Value.int .i64) E))<| zH (i6 0)<| RN C<| yA ?_
  unfold Fen at c
  obtain ⟨G,o,I,c⟩:=yM c
  refine xA [4,7,8,18,19,20,21,22,23,24,25,26,27,28] (fun (g:Nat)=>[(18,i6 0)]) (fun g wl=>Hd O w wl S [f1 fM v1 d.Kids,f1 Rp.str j p1c0.Phases,f1 gX k p1c0.Moves,f1 fB l p1c0.Rules,.blk f [j,k,l] 75,.blk h [i6 p1c1f1] 3,.blk m [.func (.func 112) #[] #[fA f,fA h]] 89]∧fJ G g ()=some r) (fun g=>g) o (zJ rfl zK) ⟨H.pick [0,1,2,3,5,6,7],c⟩ ?_
  clear H c
  rintro o ρ ac ⟨H,c⟩
  obtain ⟨ad,rfl,c⟩:=yS c
  have c:=yT I c
  refine zB fun ae J=>zA ?_
  obtain ⟨af,K,c⟩:=zC c
  refine zF (zL (xC (a:=0) (b:=D) rfl rfl) K)<| RN J<| zB fun ag ah=>?_
  obtain ⟨L,c⟩:=yO c
  refine xJ L ?_
  exact (xH (yI (yI (yU (zG (meet ⟨(),zK,⟨H.pick [1,2,3,4,5,6],c⟩⟩))))))
 rintro _ ρ ai ⟨H,c⟩
 have c:=xR B c
 refine zB fun aj M=>zA<| zI (i6 0)<| RN M ?_
 obtain rfl:=gI c
 refine (zW (gZ (v1:=i6 0) rfl rfl ?_))
 exact ⟨rfl,H.pick [3,4,5]⟩
theorem Fcuw (g:Rules)(h:Int)(v1:Value)(j:Value)(k:Value)(r:Int)(d:Fcu g h=some r)(O S:List Nat)(w:World)(H:Hd O w w S [f1 Rp.str v1 g.Phases,f1 gX j g.Moves,f1 fB k g.Rules]):
  Cl 85 [.agg [v1,j,k].toArray,i6 h] w fun e s=>e= .returned (i6 r)∧Hd O w s S []:=by
 unfold Fcu at d
 refine CW 34 Tryz.func85 ?_
 refine zB fun K7 t=>zA<| yQ rfl rfl (xQ (cs:=[v1,j,k]) rfl H) ?_
 rintro _ am ⟨l,rfl,H⟩
 refine yQ rfl rfl (jA rfl rfl H) ?_
 rintro _ an ⟨m,rfl,H⟩
 refine zI (i6 0)<| RN t<| zB fun ao u=>zA<| zF (aQ rfl)<| Ld mM H 3 2 rfl rfl<| Ld fK H 4 0 rfl rfl ?_
 obtain ⟨c,n,d⟩:=zD d
 obtain ⟨x,y,ap,aq,z,A,B,C,D⟩:=fQ (H.item (i:=2) rfl) n
 obtain ⟨f,rfl,E⟩:=aC A
 have H:=H.fzs [.at x (y+h.toNat * 8) _,.sl fM f c.When.Kids] ⟨⟨B,C,D⟩,E,trivial⟩
 refine zF (xG u73 aO z rfl (zZ n).1 (zZ n).2.1 rfl rfl)<| zF (yK (yH (cs:=[sb c.Name,i6 c.When.Kind,sb c.When.Name,sb c.When.Other,i6 c.When.Op,i6 c.When.N,i6 c.When.Frames,f]) rJ rfl aO rfl (H.item (i:=5) rfl).2.2) rfl)<| yQ rfl rfl (xB sW H) ?_
 rintro _ ar ⟨au,rfl,H⟩
 refine yZ rfl (yN (vs:=[sb c.Name,i6 c.When.Kind,sb c.When.Name,sb c.When.Other,i6 c.When.Op,i6 c.When.N,i6 c.When.Frames,f]) H 7 rfl aO rfl rfl rfl ⟨rfl,rfl,rfl,rfl,rfl,rfl,rfl,(dK (H.item (i:=6) rfl)),trivial⟩ rfl) ?_
 rintro av H
 refine RN u<| zB fun aw F=>zA<| zF (dC rfl)<| yQ rfl rfl (xB zero89 H) ?_
 rintro _ ax ⟨G,rfl,H⟩
 refine yZ rfl (xP H 8 rfl sz89 rfl (v:= .func (.func 112) #[] #[fA l,fA m]) rfl rfl rfl) ?_
 rintro ay H
 refine RN F<| zB fun az I=>yA<| zB fun a0 J=>zA<| zF (nN rfl)<| Ld dW H 7 0 rfl rfl ?_
 have K:=H
 obtain ⟨L,M,d⟩:=zD d
 refine zO rfl rfl (zM en41 rfl) (Fagw c.Name _ M _ _ _ (H.enter [] [])) ?_
 rintro _ a1 ⟨rfl,P⟩
 have H:=K.step (P.only:Only [] _ _)
 refine ⟨_,rfl,?_⟩
 obtain ⟨Q,R,d⟩:=zC d
 refine zF (zL (xX (p:=L) rfl) R)<| zI (.bool Q)<| RN J ?_
 obtain ⟨T,d⟩:=yO d
 refine xJ T ?_
 refine zB fun a2 U=>zA<| Ld one89 H 8 0 rfl rfl<| zF (nN rfl)<| Ld dW H 7 0 rfl rfl ?_
 obtain ⟨V,X,d⟩:=zD d
 refine zO rfl rfl (bY en112 rfl rfl) (Fdjw c.Name g h l v1 j k m _ X _ _ _ (H.enter [3,4] [0,1,2])) ?_
 rintro _ a3 ⟨rfl,Y⟩
 have H:Hd _ _ _ _ [_,_,_,_,_,_,_,_,_]:=H.back [3,4] [0,1,2] rfl Y
 refine ⟨_,rfl,?_⟩
 refine zI (.bool V)<| RN U ?_
 obtain ⟨Z,d⟩:=yO d
 refine xJ Z ?_
 refine (zS (yV (zG (I _ _ ?_))))
 refine zB fun a4 aa=>?_
 refine zB fun a5 ab=>zA<| zF (qZ rfl)<| zF (yK (yH (cs:=[i6 c.When.Kind,sb c.When.Name,sb c.When.Other,i6 c.When.Op,i6 c.When.N,i6 c.When.Frames,f]) dV rfl dM rfl (Cells.drop (Hbc H 5 rfl) 1 7)) rfl) ?_
 have ac:=H
 obtain ⟨o,ad,d⟩:=zD d
 refine zO rfl rfl (zM en109 rfl) (Fdvw c.When f _ ad _ _ _ (H.enter [] [4])) ?_
 rintro _ a6 ⟨rfl,ae⟩
 have H:=ac.step (ae.only:Only [] _ _)
 refine ⟨_,rfl,?_⟩
 refine zI (i6 o)<| RN ab<| zB fun a7 af=>zA<| zH (i6 o) ?_
 obtain ⟨a8,ag,d⟩:=zC d
 refine zF (zL (dJ (a:=o) (b:=0) rfl rfl) ag)<| RN af ?_
 obtain ⟨ah,d⟩:=yO d
 refine xJ ah ?_
 refine zS (zG (aa _ _ ?_))
 refine zB fun a9 ai=>zA<| zF (qZ rfl)<| zF (yK (yH (cs:=[i6 c.When.Kind,sb c.When.Name,sb c.When.Other,i6 c.When.Op,i6 c.When.N,i6 c.When.Frames,f]) dV rfl dM rfl (Cells.drop (Hbc H 5 rfl) 1 7)) rfl)<| zF (dC rfl) ?_
 obtain ⟨q,aj,d⟩:=zD d
 refine zO rfl rfl (zM en110 rfl) (Fdew c.When g h f l v1 j k G m _ aj _ _ _ (H.enter [7,8,6] [4,0,1,2])) ?_
 rintro _ ba ⟨rfl,ak⟩
 have H:Hd _ _ _ _ [_,_,_,_,_,_,_,_,_]:=H.back [7,8,6] [4,0,1,2] rfl ak
 refine ⟨_,rfl,?_⟩
 refine zI (i6 q)<| RN ai ?_
 obtain rfl:=gI d
 refine (zW (gZ (v1:=i6 q) rfl rfl ?_))
 exact ⟨rfl,H.pick []⟩
set_option maxRecDepth 100000 in
theorem Fa7w (d:Rules)(v1:Value)(f:Value)(h:Value)(r:Int)(c:Fa7 d=some r)(O S:List Nat)(w:World)(H:Hd O w w S [f1 Rp.str v1 d.Phases,f1 gX f d.Moves,f1 fB h d.Rules]):
  Cl 58 [.agg [v1,f,h].toArray] w fun e s=>e= .returned (i6 r)∧Hd O w s S []:=by
 unfold Fa7 at c
 refine CW 71 Tryz.func58 ?_
 refine zB fun K7 t=>zA<| yQ rfl rfl (xQ (cs:=[v1,f,h]) rfl H) ?_
 rintro _ bi ⟨j,rfl,H⟩
 refine zI (i6 0)<| RN t<| zB fun bj u=>zB fun bk x=>zA<| zF (fa75_0 rfl)<| Ld aEi H 3 0 rfl rfl ?_
 obtain ⟨y,z,c⟩:=zC c
 obtain ⟨bl,bm,A⟩:=SlF.len ((H.item (i:=0) rfl))
 refine zF (yK (xI u36 A) (congrArg (Value.int .i64) z)) ?_
 obtain ⟨bn,B,c⟩:=zC c
 refine zF (zL (eQ (a:=y) (b:=20) rfl rfl) B) ?_
 obtain ⟨C,c,D⟩:=zD c
 refine eF 6 [14,15,16,17,18,19] [(19,.bool C)] (fun wl=>Hd O w wl S [f1 Rp.str v1 d.Phases,f1 gX f d.Moves,f1 fB h d.Rules,.blk j [v1,f,h] 75]) ?_ ?_
 ·skip
  obtain ⟨E,c⟩:=yO c
  refine dI false E ?_
  refine zF (aCu rfl)<| Ld one72 H 3 1 rfl rfl ?_
  obtain ⟨F,G,c⟩:=zC c
  obtain ⟨bo,bp,I⟩:=SlF.len ((H.item (i:=1) rfl))
  refine zF (yK (xI u72 I) (congrArg (Value.int .i64) G)) ?_
  obtain ⟨J,K,c⟩:=zC c
  refine zF (zL (eQ (a:=F) (b:=60) rfl rfl) K)<| zF (zY (v:= .bool J) rfl rfl) ?_
  obtain rfl:=gI c
  exact zQ (zG (meet ⟨(zJ rfl zK),H.pick [0,1,2,3]⟩))
 rintro ρ bq H
 have c:=D
 obtain ⟨L,c⟩:=yO c
 refine dI false L ?_
 refine zF (aQ rfl)<| Ld mM H 3 2 rfl rfl ?_
 obtain ⟨M,N,c⟩:=zC c
 obtain ⟨br,bt,P⟩:=SlF.len ((H.item (i:=2) rfl))
 refine zF (yK (xI u73 P) (congrArg (Value.int .i64) N)) ?_
 obtain ⟨Q,R,c⟩:=zC c
 refine zF (zL (eQ (a:=M) (b:=60) rfl rfl) R)<| zF (zY (v:= .bool Q) rfl rfl)<| RN x ?_
 obtain ⟨T,c⟩:=yO c
 refine xJ T ?_
 refine zS (zG (u _ _ ?_))
 obtain ⟨U,V,c⟩:=xM c
 refine yL [2,3,4,26,27,28,29,30,31,32,33,34,35,36,37,38,39,40,41,42,43] (fun (g:Unit)=>[]) (fun g wl=>Hd O w wl S [f1 Rp.str v1 d.Phases,f1 gX f d.Moves,f1 fB h d.Rules,.blk j [v1,f,h] 75]∧U ()=some r) ?_ ?_
 ·skip
  refine zB fun bu X=>zA<| zF (fa75_0 rfl)<| Ld aEi H 3 0 rfl rfl ?_
  obtain ⟨Y,Z,c⟩:=zC c
  obtain ⟨bv,bw,aa⟩:=SlF.len ((H.item (i:=0) rfl))
  refine zF (yK (xI u36 aa) (congrArg (Value.int .i64) Z))<| zH (i6 0)<| RN X<| yA ?_
  unfold Fea at c
  obtain ⟨ab,n,ac,c⟩:=yM c
  refine xA [2,3,4,29,30,31,32,33,34,35,36,37,38,39,40,41,42,43] (fun (g:Nat)=>[(29,i6 0)]) (fun g wl=>Hd O w wl S [f1 Rp.str v1 d.Phases,f1 gX f d.Moves,f1 fB h d.Rules,.blk j [v1,f,h] 75]∧fJ ab g ()=some r) (fun g=>g) n (zJ rfl zK) ⟨H.pick [0,1,2,3],c⟩ ?_
  clear H c
  rintro n ρ bx ⟨H,c⟩
  obtain ⟨bz,rfl,c⟩:=yS c
  have c:=yT ac c
  refine zB fun b0 ad=>zA ?_
  obtain ⟨b1,ae,c⟩:=zC c
  refine zF (zL (xC (a:=0) (b:=Y) rfl rfl) ae)<| RN ad<| zB fun b2 b3=>?_
  obtain ⟨af,c⟩:=yO c
  refine xJ af ?_
  exact (xH (yI (yI (yU (zG (meet ⟨(),zK,⟨H.pick [0,1,2,3],c⟩⟩))))))
 rintro _ ρ b4 ⟨H,c⟩
 have c:=xR V c
 obtain ⟨ag,ah,c⟩:=xM c
 refine yL [2,6,7,44,45,46,47,48,49,50,51,52,53,54,55,56,57] (fun (g:Unit)=>[]) (fun g wl=>Hd O w wl S [f1 Rp.str v1 d.Phases,f1 gX f d.Moves,f1 fB h d.Rules,.blk j [v1,f,h] 75]∧ag ()=some r) ?_ ?_
 ·skip
  refine zB fun b5 ai=>zA<| zF (aCu rfl)<| Ld one72 H 3 1 rfl rfl ?_
  obtain ⟨aj,ak,c⟩:=zC c
  obtain ⟨b6,b7,al⟩:=SlF.len ((H.item (i:=1) rfl))
  refine zF (yK (xI u72 al) (congrArg (Value.int .i64) ak))<| zH (i6 0)<| RN ai<| yA ?_
  unfold Fef at c
  obtain ⟨am,o,an,c⟩:=yM c
  refine xA [2,6,7,47,48,49,50,51,52,53,54,55,56,57] (fun (g:Nat)=>[(47,i6 0)]) (fun g wl=>Hd O w wl S [f1 Rp.str v1 d.Phases,f1 gX f d.Moves,f1 fB h d.Rules,.blk j [v1,f,h] 75]∧fJ am g ()=some r) (fun g=>g) o (zJ rfl zK) ⟨H.pick [0,1,2,3],c⟩ ?_
  clear H c
  rintro o ρ b8 ⟨H,c⟩
  obtain ⟨b9,rfl,c⟩:=yS c
  have c:=yT an c
  refine zB fun ca ao=>zA ?_
  obtain ⟨cb,ap,c⟩:=zC c
  refine zF (zL (xC (a:=0) (b:=aj) rfl rfl) ap)<| RN ao<| zB fun cc cd=>?_
  obtain ⟨aq,c⟩:=yO c
  refine xJ aq ?_
  exact (xH (yI (yI (yU (zG (meet ⟨(),zK,⟨H.pick [0,1,2,3],c⟩⟩))))))
 rintro _ ρ ce ⟨H,c⟩
 have c:=xR ah c
 obtain ⟨ar,au,c⟩:=xM c
 refine yL [2,8,9,58,59,60,61,62,63,64,65,66,67,68,69,70] (fun (g:Unit)=>[]) (fun g wl=>Hd O w wl S []∧ar ()=some r) ?_ ?_
 ·skip
  refine zB fun cf av=>zA<| zF (aQ rfl)<| Ld mM H 3 2 rfl rfl ?_
  obtain ⟨aw,ax,c⟩:=zC c
  obtain ⟨cg,ch,ay⟩:=SlF.len ((H.item (i:=2) rfl))
  refine zF (yK (xI u73 ay) (congrArg (Value.int .i64) ax))<| zH (i6 0)<| RN av<| yA ?_
  unfold Fet at c
  obtain ⟨az,p,a0,c⟩:=yM c
  refine xA [2,8,9,61,62,63,64,65,66,67,68,69,70] (fun (g:Nat×Int)=>[(61,i6 g.2)]) (fun g wl=>Hd O w wl S [f1 Rp.str v1 d.Phases,f1 gX f d.Moves,f1 fB h d.Rules,.blk j [v1,f,h] 75]∧fJ az g.1 g.2=some r) (fun g=>g.1) (p,0) (zJ rfl zK) ⟨H.pick [0,1,2,3],c⟩ ?_
  clear H c
  rintro ⟨p,k⟩ ρ ci ⟨H,c⟩
  obtain ⟨a1,rfl,c⟩:=yS c
  have c:=yT a0 c
  refine zB fun cj a2=>zA ?_
  obtain ⟨a3,a4,c⟩:=zC c
  refine zF (zL (xC (a:=k) (b:=aw) rfl rfl) a4)<| RN a2<| zB fun ck a5=>yB (b:=a3) rfl (fun l=>?_) (fun l=>?_)
  ·have c:=zT l c
   refine zS (zG (a5 _ _ ?_))
   refine zB fun cl a6=>?_
   refine yA ?_
   refine zB fun cm a7=>zA<| zH (i6 k)<| zI (i6 k)<| RN a7<| zB fun cn a8=>zA<| zF (yK (yH (cs:=[v1,f,h]) jK rfl nV rfl (Hbc H 3 rfl)) rfl)<| zH (i6 k) ?_
   have a9:=H
   obtain ⟨m,ba,c⟩:=zD c
   refine zO rfl rfl (zM en85 rfl) (Fcuw d k v1 f h _ ba _ _ _ (H.enter [] [0,1,2])) ?_
   rintro _ co ⟨rfl,bb⟩
   have H:=a9.step (bb.only:Only [] _ _)
   refine ⟨_,rfl,?_⟩
   refine zI (i6 m)<| RN a8<| zB fun cp bc=>zA<| zH (i6 m) ?_
   obtain ⟨cq,bd,c⟩:=zC c
   refine zF (zL (dJ (a:=m) (b:=0) rfl rfl) bd)<| RN bc ?_
   obtain ⟨be,c⟩:=yO c
   refine xJ be ?_
   refine (zS (yV (zG (a6 _ _ ?_))))
   refine zA ?_
   obtain ⟨q,bf,c⟩:=zC c
   refine zF (xN (a:=k) (b:=1) rfl rfl bf)<| zH (i6 q) ?_
   exact (zQ (zG (meet ⟨(a1,q),(zJ rfl zK),⟨H.pick [0,1,2,3],c⟩,Nat.lt_succ_self _⟩)))
  have c:=zU l c
  exact (xH (yI (yI (yU (zG (meet ⟨(),zK,⟨H.pick [],c⟩⟩))))))
 rintro _ ρ cr ⟨H,c⟩
 have c:=xR au c
 refine zB fun ct bg=>zA<| zI (i6 0)<| RN bg ?_
 obtain rfl:=gI c
 refine (zW (gZ (v1:=i6 0) rfl rfl ?_))
 exact ⟨rfl,H.pick []⟩
theorem Fdkw (d:Str)(r:Rules×Int×Int)(c:Fdk d=some r)(O S:List Nat)(w:World)(H:Hd O w w S [.fz (.at 1 0 ((Fl.arr 7 Fl.str).f yG)),.fz (.gi 5)]):
  Cl 30 [sb d] w fun e n=> ∃u3 u4 u5,e= .returned (.tuple #[.agg [u3,u4,u5].toArray,i6 r.2.1,i6 r.2.2])∧Hd O w n S [f1 Rp.str u3 r.1.Phases,f1 gX u4 r.1.Moves,f1 fB u5 r.1.Rules]:=by
 unfold Fdk at c
 refine CW 39 Tryz.func30 ?_
 refine zB fun R o=>zA<| yQ rfl rfl (xB aAe H) ?_
 rintro _ T ⟨U,rfl,H⟩
 refine zI (i6 0)<| zI (i6 0)<| RN o<| zB fun V p=>zB fun X q=>zA<| zH (sb d) ?_
 obtain ⟨s,t,c⟩:=zC c
 refine zF (yK (bM (s1:=d) u9 rfl) (congrArg (Value.int .i64) t)) ?_
 obtain ⟨Y,u,c⟩:=zC c
 refine zF (zL (eQ (a:=s) (b:=200000) rfl rfl) u)<| RN q ?_
 obtain ⟨v,c⟩:=yO c
 refine xJ v ?_
 refine zS (zG (p _ _ ?_))
 refine zB fun Z x=>zA<| zH (sb d)<| zF (dB (cs:=[sb d,i6 0,i6 0,i6 0,i6 0,.string (bs []),.slice none 0 0,.slice none 0 0,.slice none 0 0]) (bt107_0 _))<| yQ rfl rfl (xQ (cs:=[sb d,i6 0,i6 0,i6 0,i6 0,.string (bs []),.slice none 0 0,.slice none 0 0,.slice none 0 0]) rfl H) ?_
 rintro _ aa ⟨g,rfl,H⟩
 refine zI (fA g)<| RN x<| zB fun ab y=>zB fun ac z=>zA<| zH (fA g)<| zF (aAu rfl) ?_
 have H:=dL H Rp.str 9
 have H:=dL H gX 129
 have H:=dL H fB 132
 obtain ⟨⟨l,A⟩,B,c⟩:=zD c
 refine zO rfl rfl (zM en56 rfl) (Fczw (gB.mk d 0 (gU.mk 0 0 0 []) (Rules.mk [] [] [])) g (.slice none 0 0) (.slice none 0 0) (.slice none 0 0) _ B _ _ _ (H.enter [4,5,6,3] [0,1])) ?_
 rintro _ w64 ⟨h,j,k,rfl,C⟩
 have H:Hd _ _ _ _ [_,_,_,_,_,_,_]:=H.back [4,5,6,3] [0,1] rfl C
 refine ⟨_,rfl,?_⟩
 refine yQ rfl rfl (xB zero109 H) ?_
 rintro _ ad ⟨ae,rfl,H⟩
 refine yZ rfl (yN (vs:=[i6 l.at_,i6 l.e]) H 7 rfl sz109 rfl rfl rfl ⟨rfl,rfl,trivial⟩ rfl) ?_
 rintro af H
 refine RN z<| zB fun ag D=>zA<| zF (fa109_1 rfl)<| Ld one29 H 7 1 rfl rfl ?_
 obtain ⟨ah,E,c⟩:=zC c
 refine zF (zL (dJ (a:=l.e) (b:=0) rfl rfl) E)<| RN D ?_
 obtain ⟨F,c⟩:=yO c
 refine xJ F ?_
 refine zS (zG (y _ _ ?_))
 refine zB fun ai G=>?_
 refine zB fun aj I=>zA<| zH (fA g)<| zF (yE rfl)<| zF (tC rfl)<| zF (yK (yH (cs:=[h,j,k]) jK rfl nV rfl (Cells.drop (Hbc H 6 rfl) 6 3)) rfl) ?_
 have J:=H
 have H:=H.freeze (i:=3) rfl
 have H:=H.freeze (i:=4) rfl
 have H:=H.freeze (i:=5) rfl
 obtain ⟨m,K,c⟩:=zD c
 refine zO rfl rfl (zM en58 rfl) (Fa7w A.r h j k _ K _ _ _ (H.enter [] [3,4,5])) ?_
 rintro _ ak ⟨rfl,L⟩
 have H:=J.step (L.only:Only [] _ _)
 refine ⟨_,rfl,?_⟩
 refine zI (i6 m)<| RN I<| zB fun al M=>zA<| zH (i6 m) ?_
 obtain ⟨am,N,c⟩:=zC c
 refine zF (zL (dJ (a:=m) (b:=0) rfl rfl) N)<| RN M ?_
 obtain ⟨P,c⟩:=yO c
 refine xJ P ?_
 refine zS (zG (G _ _ ?_))
 refine zB fun an Q=>zA<| zH (fA g)<| zF (yE rfl)<| zF (tC rfl)<| zF (yK (yH (cs:=[h,j,k]) jK rfl nV rfl (Cells.drop (Hbc H 6 rfl) 6 3)) rfl)<| yZ rfl (yN (vs:=[h,j,k]) H 2 rfl nV rfl rfl rfl ⟨(kL (H.item (i:=3) rfl)),(kL (H.item (i:=4) rfl)),(kL (H.item (i:=5) rfl)),trivial⟩ rfl) ?_
 rintro ao H
 refine zI (i6 0)<| zI (i6 0)<| RN Q ?_
 have H:=H.freeze (i:=3) rfl
 have H:=H.freeze (i:=4) rfl
 have H:=H.freeze (i:=5) rfl
 obtain rfl:=gI c
 refine (zW (postc2 (v1:=i6 0) (v2:=i6 0) rfl rfl (yX jK nV rfl (Hbc H 2 rfl)) rfl rfl ?_))
 exact ⟨h,j,k,rfl,H.pick [3,4,5]⟩
theorem Fcpw (a:aN)(b:Str)(v1:Value)(d:Nat)(r:Bool)(c:Fcp a b=some r)(O S:List Nat)(w:World)(H:Hd O w w S [.blk d [sb b] 9,f1 fM v1 a.When.Kids]):
  Cl 87 [.agg [sb a.Name,i6 a.When.Kind,sb a.When.Name,sb a.When.Other,i6 a.When.Op,i6 a.When.N,i6 a.When.Frames,v1].toArray,fA d] w fun e g=>e= .returned (.bool r)∧Hd O w g S [.blk d [sb b] 9]:=by
 unfold Fcp at c
 refine CW 8 Tryz.func87 ?_
 refine zB fun k h=>zA<| yQ rfl rfl (xQ (cs:=[sb a.Name,i6 a.When.Kind,sb a.When.Name,sb a.When.Other,i6 a.When.Op,i6 a.When.N,i6 a.When.Frames,v1]) rfl H) ?_
 rintro _ l ⟨m,rfl,H⟩
 refine zI (.bool false)<| RN h<| zB fun n i=>zA<| zF (nN rfl)<| Ld dW H 2 0 rfl rfl<| Ld dW H 0 0 rfl rfl ?_
 obtain ⟨f,j,c⟩:=zC c
 refine zF (zL (fU (s1:=a.Name) (s2:=b) rfl rfl) j)<| zI (.bool f)<| RN i ?_
 obtain rfl:=gI c
 refine (zW (gZ (v1:= .bool f) rfl rfl ?_))
 exact ⟨rfl,H.pick [0]⟩
theorem Fdxw (h:List aN)(p1c0:Str)(v1:Value)(f:Nat)(r:Int)(c:Fdx h p1c0=some r)(O S:List Nat)(w:World)(H:Hd O w w S [.blk f [sb p1c0] 9,f1 fB v1 h]):
  Cl 86 [v1,.func (.func 87) #[] #[fA f]] w fun e m=>e= .returned (i6 r)∧Hd O w m S [.blk f [sb p1c0] 9]:=by
 unfold Fdx at c
 refine CW 19 Tryz.func86 ?_
 refine zB fun R n=>zA<| zI (i6 0)<| RN n<| zB fun T U=>zB fun V o=>zA<| zH v1 ?_
 obtain ⟨p,q,c⟩:=zC c
 obtain ⟨X,Y,s⟩:=SlF.len ((H.item (i:=1) rfl))
 refine zF (yK (xI u73 s) (congrArg (Value.int .i64) q))<| zH (i6 0)<| RN o<| yA ?_
 unfold Feb at c
 obtain ⟨t,l,u,c⟩:=yM c
 refine xA [4,5,8,9,10,11,12,13,14,15,16,17,18] (fun (g:Nat)=>[(8,i6 0)]) (fun g wl=>Hd O w wl S [.blk f [sb p1c0] 9,f1 fB v1 h]∧fJ t g ()=some r) (fun g=>g) l (zJ rfl zK) ⟨H.pick [0,1],c⟩ ?_
 clear H c
 rintro l ρ Z ⟨H,c⟩
 obtain ⟨aa,rfl,c⟩:=yS c
 have c:=yT u c
 refine zB fun ab v=>zA ?_
 obtain ⟨ac,x,c⟩:=zC c
 refine zF (zL (xC (a:=0) (b:=p) rfl rfl) x)<| RN v<| zB fun ad y=>?_
 obtain ⟨z,c⟩:=eX c
 refine kF z ?_
 refine zS (zG (y _ _ ?_))
 refine zB fun ae af=>?_
 refine yA ?_
 refine zB fun ag A=>zA<| zH (i6 0)<| zI (i6 0)<| RN A<| zB fun ah B=>zA<| zH (.func (.func 87) #[] #[fA f])<| zH v1<| zH (i6 0) ?_
 obtain ⟨d,j,c⟩:=zD c
 obtain ⟨C,D,ai,aj,E,F,G,I,J⟩:=fQ (H.item (i:=1) rfl) j
 obtain ⟨k,rfl,K⟩:=aC F
 have H:=H.fzs [.at C (D+(0:Int).toNat * 8) _,.sl fM k d.When.Kids] ⟨⟨G,I,J⟩,K,trivial⟩
 refine zF (xG u73 aO E rfl (zZ j).1 (zZ j).2.1 rfl rfl)<| zF (yK (yH (cs:=[sb d.Name,i6 d.When.Kind,sb d.When.Name,sb d.When.Other,i6 d.When.Op,i6 d.When.N,i6 d.When.Frames,k]) rJ rfl aO rfl (H.item (i:=2) rfl).2.2) rfl) ?_
 obtain ⟨ak,L,c⟩:=zD c
 refine zO rfl rfl (bY en87 rfl rfl) (Fcpw d p1c0 k f _ L _ _ _ (H.enter [0] [3])) ?_
 rintro _ al ⟨rfl,M⟩
 have H:Hd _ _ _ _ [_,_,_,_]:=H.back [0] [3] rfl M
 refine ⟨_,rfl,?_⟩
 refine RN B ?_
 obtain ⟨P,c⟩:=eX c
 refine kF P ?_
 refine zB fun am Q=>zA<| zH (i6 0)<| zI (i6 0)<| RN Q ?_
 obtain rfl:=gI c
 refine (zW (yJ (zV (zV (yJ (zV (gZ (v1:=i6 0) rfl rfl ?_)))))))
 exact ⟨rfl,H.pick [3]⟩
theorem Fd4w (a:Rules)(d:Str)(v1:Value)(f:Value)(b:Value)(r:Int)(c:Fd4 a d=some r)(O S:List Nat)(w:World)(H:Hd O w w S [f1 Rp.str v1 a.Phases,f1 gX f a.Moves,f1 fB b a.Rules]):
  Cl 59 [.agg [v1,f,b].toArray,sb d] w fun e h=>e= .returned (i6 r)∧Hd O w h S []:=by
 unfold Fd4 at c
 refine CW 9 Tryz.func59 ?_
 refine zB fun n i=>zA<| yQ rfl rfl (xQ (cs:=[v1,f,b]) rfl H) ?_
 rintro _ o ⟨p,rfl,H⟩
 refine yQ rfl rfl (jA rfl rfl H) ?_
 rintro _ q ⟨j,rfl,H⟩
 refine zI (i6 0)<| RN i<| zB fun s k=>zA<| zF (aQ rfl)<| Ld mM H 3 2 rfl rfl<| zF (dC rfl) ?_
 obtain ⟨g,l,c⟩:=zD c
 refine zO rfl rfl (zM en86 rfl) (Fdxw a.Rules d b j _ l _ _ _ (H.enter [4] [2])) ?_
 rintro _ t ⟨rfl,m⟩
 have H:Hd _ _ _ _ [_,_,_,_,_]:=H.back [4] [2] rfl m
 refine ⟨_,rfl,?_⟩
 refine zI (i6 g)<| RN k ?_
 obtain rfl:=gI c
 refine (zW (gZ (v1:=i6 g) rfl rfl ?_))
 exact ⟨rfl,H.pick []⟩
theorem Fd2w (c:Cond)(j:Bool)(k:List (Str×Bool))(f:Value)(g:Nat)(h:Nat)(i:Nat)(r:Bool×(List (Str×Bool)))(d:Fd2 c j k=some r)(O S:List Nat)(w:World)(H:Hd O w w S [.blk g [.bool j] 4,.mp i (bJ Ky.str (fun v=>Value.bool v) k),.blk h [.map (some i)] 156,f1 fM f c.Kids]):
  Cl 118 [.agg [i6 c.Kind,sb c.Name,sb c.Other,i6 c.Op,i6 c.N,i6 c.Frames,f].toArray,fA g,fA h] w fun e n=> ∃l,e= .returned (.tuple #[])∧Hd O w n S [.blk g [.bool r.1] 4,.mp l (bJ Ky.str (fun v=>Value.bool v) r.2),.blk h [.map (some l)] 156]:=by
 unfold Fd2 at d
 refine CW 16 Tryz.func118 ?_
 refine zB fun y o=>zA<| yQ rfl rfl (xQ (cs:=[i6 c.Kind,sb c.Name,sb c.Other,i6 c.Op,i6 c.N,i6 c.Frames,f]) rfl H) ?_
 rintro _ z ⟨A,rfl,H⟩
 refine RN o<| zB fun B p=>zA<| Ld jS H 0 0 rfl rfl ?_
 obtain ⟨q,d⟩:=yO d
 refine dI false q ?_
 refine zF (kY rfl)<| Ld fK H 4 0 rfl rfl ?_
 obtain ⟨m,s,d⟩:=zC d
 refine zF (zL (xW (a:=c.Kind) (b:=6) rfl rfl) s)<| zF (zY (v:= .bool m) rfl rfl)<| yZ rfl (xP H 0 rfl sz4 rfl (v:= .bool m) rfl rfl rfl) ?_
 rintro C H
 refine RN p<| zB fun D t=>zA<| zF (kY rfl)<| Ld fK H 4 0 rfl rfl ?_
 obtain ⟨E,u,d⟩:=zC d
 refine zF (zL (xW (a:=c.Kind) (b:=7) rfl rfl) u)<| RN t ?_
 obtain ⟨x,d⟩:=yO d
 refine xJ x ?_
 obtain rfl:=gI d
 refine (zS (kP rfl ?_))
 exact ⟨i,rfl,H.pick [0,1,2]⟩
theorem Fc5w (c:Cond)(p1c0:Bool)(p1c1:List (Str×Bool))(f:Value)(h:Nat)(j:Nat)(k:Nat)(r:Bool×(List (Str×Bool)))(d:Fc5 c p1c0 p1c1=some r)(O S:List Nat)(w:World)(H:Hd O w w S [.blk h [.bool p1c0] 4,.mp k (bJ Ky.str (fun v=>Value.bool v) p1c1),.blk j [.map (some k)] 156,f1 fM f c.Kids]):
  Cl 117 [.agg [i6 c.Kind,sb c.Name,sb c.Other,i6 c.Op,i6 c.N,i6 c.Frames,f].toArray,.func (.func 118) #[] #[fA h,fA j]] w fun e o=> ∃m,e= .returned (.tuple #[])∧Hd O w o S [.blk h [.bool r.1] 4,.mp m (bJ Ky.str (fun v=>Value.bool v) r.2),.blk j [.map (some m)] 156]:=by
 unfold Fc5 at d
 refine CW 20 Tryz.func117 ?_
 refine zB fun I p=>zA<| yQ rfl rfl (xQ (cs:=[i6 c.Kind,sb c.Name,sb c.Other,i6 c.Op,i6 c.N,i6 c.Frames,f]) rfl H) ?_
 rintro _ J ⟨K,rfl,H⟩
 refine RN p<| zB fun L q=>zA<| zH (.func (.func 118) #[] #[fA h,fA j])<| zF (yK (yH (cs:=[i6 c.Kind,sb c.Name,sb c.Other,i6 c.Op,i6 c.N,i6 c.Frames,f]) dV rfl dM rfl (Hbc H 4 rfl)) rfl) ?_
 obtain ⟨⟨s,t⟩,u,d⟩:=zD d
 refine zO rfl rfl (bY en118 rfl rfl) (Fd2w c p1c0 p1c1 f h j k _ u _ _ _ (H.enter [0,1,2] [3])) ?_
 rintro _ M ⟨l,rfl,x⟩
 have H:Hd _ _ _ _ [_,_,_,_,_]:=H.back [0,1,2] [3] rfl x
 refine ⟨_,rfl,?_⟩
 refine RN q<| zB fun P y=>zA<| zF (nR rfl)<| Ld rF H 1 6 rfl rfl ?_
 obtain ⟨z,A,d⟩:=zC d
 obtain ⟨Q,R,B⟩:=SlF.len ((H.item (i:=0) rfl))
 refine zF (yK (xI sO B) (congrArg (Value.int .i64) A))<| zH (i6 0)<| RN y<| yA ?_
 unfold Fei at d
 obtain ⟨C,n,D,d⟩:=yM d
 refine xA [5,12,13,14,15,16,17,18,19] (fun (g:Nat)=>[(12,i6 0)]) (fun g wl=>Hd O w wl S [f1 fM f c.Kids,.blk h [.bool s] 4,.mp l (bJ Ky.str (fun v=>Value.bool v) t),.blk j [.map (some l)] 156]∧fJ C g ()=some r) (fun g=>g) n (zJ rfl zK) ⟨H.pick [0,2,3,4],d⟩ ?_
 clear H d
 rintro n ρ T ⟨H,d⟩
 obtain ⟨U,rfl,d⟩:=yS d
 have d:=yT D d
 refine zB fun V E=>zA ?_
 obtain ⟨X,F,d⟩:=zC d
 refine zF (zL (xC (a:=0) (b:=z) rfl rfl) F)<| RN E<| zB fun Y Z=>?_
 obtain ⟨G,d⟩:=yO d
 refine xJ G ?_
 obtain rfl:=gI d
 refine (xH (yI (yI (yU (kP rfl ?_)))))
 exact ⟨l,rfl,H.pick [1,2,3]⟩
end Go.Proofs.YtgmikmoapfmedaaGreatDoor.L
