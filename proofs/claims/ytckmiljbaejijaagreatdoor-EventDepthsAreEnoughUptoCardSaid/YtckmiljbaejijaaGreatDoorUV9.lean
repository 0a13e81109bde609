/- Walks: what each function computes, for every argument; no condition but those that stand in the statements. -/
import Derived.Test.YtckmiljbaejijaaGreatDoorUV0
import Derived.Test.YtckmiljbaejijaaGreatDoorUV7
import Derived.Test.YtckmiljbaejijaaGreatDoorUV8
import Derived.Test.YtckmiljbaejijaaGreatDoorUV2
namespace Go.Proofs.YtckmiljbaejijaaGreatDoor.L
open Go.RowKit Go.OB Go.Lf
set_option maxHeartbeats 4000000
theorem Fffw (k:gB)(h:Nat)(v2:Value)(v3:Value)(v4:Value)(r:gB)(c:Fff k=some r)(O S:List Nat)(w:World)(H:Hd O w w S [.own Rp.str v2 9 k.r.Phases,.own gU v3 122 k.r.Moves,.own gZ v4 95 k.r.Rules,.blk h [sb k.text,i6 k.at_,i6 k.now.kind,i6 k.now.at_,i6 k.now.n,sb k.now.text,v2,v3,v4] 109,.fz (.at 0 0 ((Fl.arr 7 Fl.str).f zM)),.fz (.gi 4)]):
  Cl 59 [gV h] w fun e y=> ∃au av aw,e= .returned (.tuple #[])∧Hd O w y S [.own Rp.str au 9 r.r.Phases,.own gU av 122 r.r.Moves,.own gZ aw 95 r.r.Rules,.blk h [sb r.text,i6 r.at_,i6 r.now.kind,i6 r.now.at_,i6 r.now.n,sb r.now.text,au,av,aw] 109]:=by
 unfold Fff at c
 refine CW 81 Tryz.func59 ?_
 obtain ⟨t,c,a6⟩:=zD c
 refine yH [4,5,6,7,8,9,10,11,12,13,14,15,16,17,18,19,20,21,22] (fun (g:Value×Value×Value)=>[]) (fun g wl=>Hd O w wl S [.blk h [sb t.1,i6 t.2.1,i6 t.2.2.1,i6 t.2.2.2.1,i6 t.2.2.2.2.1,sb t.2.2.2.2.2.1,g.1,g.2.1,g.2.2] 109,.own Rp.str g.1 9 t.2.2.2.2.2.2.1,.own gU g.2.1 122 t.2.2.2.2.2.2.2.1,.own gZ g.2.2 95 t.2.2.2.2.2.2.2.2,.fz (.at 0 0 ((Fl.arr 7 Fl.str).f zM)),.fz (.gi 4)]) ?_ ?_
 ·skip
  refine zB fun cv a7=>zA<| zH (gV h) ?_
  obtain ⟨j,a8,c⟩:=zD c
  refine yB rfl rfl (zV aEv rfl) (aPu (gB.mk k.text k.at_ (gW.mk k.now.kind k.now.at_ k.now.n k.now.text) (Rules.mk k.r.Phases k.r.Moves k.r.Rules)) h v2 v3 v4 _ a8 _ _ _ (H.enter [0,1,2,3] [5])) ?_
  rintro _ a9 ⟨K,L,M,rfl,ba⟩
  have H:Hd _ _ a9 _ [.fz (.at 0 0 ((Fl.arr 7 Fl.str).f zM)),.fz (.gi 4),.own Rp.str K 9 j.r.Phases,.own gU L 122 j.r.Moves,.own gZ M 95 j.r.Rules,.blk h [sb j.text,i6 j.at_,i6 j.now.kind,i6 j.now.at_,i6 j.now.n,sb j.now.text,K,L,M] 109]:=H.back [0,1,2,3] [5] rfl ba
  refine ⟨_,rfl,?_⟩
  refine RN a7<| yD ?_
  unfold Fgn at c
  obtain ⟨bb,ax,bc,c⟩:=yS c
  refine xC [6,7,8,9,10,11,12,13,14,15,16,17,18,19,20,21,22] (fun (g:Nat)=>[]) (fun g wl=>Hd O w wl S [.fz (.at 0 0 ((Fl.arr 7 Fl.str).f zM)),.fz (.gi 4),.own Rp.str K 9 j.r.Phases,.own gU L 122 j.r.Moves,.own gZ M 95 j.r.Rules,.blk h [sb j.text,i6 j.at_,i6 j.now.kind,i6 j.now.at_,i6 j.now.n,sb j.now.text,K,L,M] 109]∧fU bb g ()=some t) (fun g=>g) ax zK ⟨H.pick [0,1,2,3,4,5],c⟩ ?_
  clear H c
  rintro ax ρ cw ⟨H,c⟩
  obtain ⟨cx,rfl,c⟩:=yX c
  have c:=yY bc c
  refine zB fun cy cz=>?_
  refine zB fun c0 bd=>zA<| zH (gV h) ?_
  have be:=H
  have H:=H.freezeB (i:=5) rfl
  have H:=H.freeze (i:=2) rfl
  have H:=H.freeze (i:=3) rfl
  have H:=H.freeze (i:=4) rfl
  have H:=H.fz (.pt dI (some ⟨h,0,none⟩) (some j)) ⟨_,_,_,rfl,(H.item (i:=5) rfl).1,(H.item (i:=5) rfl).2.1,(dY (x:=j) (H.item (i:=2) rfl) (H.item (i:=3) rfl) (H.item (i:=4) rfl)),(H.item (i:=5) rfl).2.2⟩
  obtain ⟨c1,bf,c⟩:=zD c
  refine yB rfl rfl (zV aDq rfl) (aNx (some j) [112,104,97,115,101] (some ⟨h,0,none⟩) _ bf _ _ _ (H.enter [] [6])) ?_
  rintro _ c2 ⟨rfl,bg⟩
  have H:=be.step (bg.only:Only [] _ _)
  refine ⟨_,rfl,?_⟩
  refine RN bd ?_
  obtain ⟨bh,c⟩:=wF c
  refine dA bh ?_
  obtain rfl:=gJ c
  exact (xG (yI (yI (yT (zF (meet ⟨(K,L,M),zK,H.pick [5,2,3,4,0,1]⟩))))))
 rintro ⟨P,Q,R⟩ ρ c3 H
 have c:=a6
 obtain ⟨A,B,C,D,E,F,G,I,J⟩:=t
 obtain ⟨bi,c,bj⟩:=zD c
 refine yH [2,23,24,25,26,27,28,29,30,31,32,33,34,35,36,37,38,39,40,41,42,43,44,45,46,47,48] (fun (g:Unit)=>[]) (fun g wl=>Hd O w wl S [.blk h [sb A,i6 B,i6 C,i6 D,i6 E,sb F,P,Q,R] 109,.own Rp.str P 9 G,.own gU Q 122 I,.own gZ R 95 J,.fz (.at 0 0 ((Fl.arr 7 Fl.str).f zM)),.fz (.gi 4)]) ?_ ?_
 ·skip
  refine yD ?_
  unfold Fgi at c
  obtain ⟨bk,ay,bl,c⟩:=yS c
  refine xC [2,23,24,25,26,27,28,29,30,31,32,33,34,35,36,37,38,39,40,41,42,43,44,45,46,47,48] (fun (g:Nat)=>[]) (fun g wl=>Hd O w wl S [.blk h [sb A,i6 B,i6 C,i6 D,i6 E,sb F,P,Q,R] 109,.own Rp.str P 9 G,.own gU Q 122 I,.own gZ R 95 J,.fz (.at 0 0 ((Fl.arr 7 Fl.str).f zM)),.fz (.gi 4)]∧fU bk g ()=some bi) (fun g=>g) ay zK ⟨H.pick [0,1,2,3,4,5],c⟩ ?_
  clear H c
  rintro ay ρ c4 ⟨H,c⟩
  obtain ⟨c5,rfl,c⟩:=yX c
  have c:=yY bl c
  refine zB fun c6 c7=>?_
  refine zB fun c8 bm=>zA<| zH (gV h) ?_
  have bn:=H
  have H:=H.freezeB (i:=0) rfl
  have H:=H.freeze (i:=1) rfl
  have H:=H.freeze (i:=2) rfl
  have H:=H.freeze (i:=3) rfl
  have H:=H.fz (.pt dI (some ⟨h,0,none⟩) (some (gB.mk A B (gW.mk C D E F) (Rules.mk G I J)))) ⟨_,_,_,rfl,(H.item (i:=0) rfl).1,(H.item (i:=0) rfl).2.1,(dY (x:=gB.mk A B (gW.mk C D E F) (Rules.mk G I J)) (H.item (i:=1) rfl) (H.item (i:=2) rfl) (H.item (i:=3) rfl)),(H.item (i:=0) rfl).2.2⟩
  obtain ⟨c9,bo,c⟩:=zD c
  refine yB rfl rfl (zV aDq rfl) (aNx (some (gB.mk A B (gW.mk C D E F) (Rules.mk G I J))) [109,111,118,101] (some ⟨h,0,none⟩) _ bo _ _ _ (H.enter [] [6])) ?_
  rintro _ da ⟨rfl,bp⟩
  have H:=bn.step (bp.only:Only [] _ _)
  refine ⟨_,rfl,?_⟩
  refine RN bm ?_
  obtain ⟨bq,c⟩:=wF c
  refine dA bq ?_
  obtain rfl:=gJ c
  exact (xG (yI (yI (yT (zF (meet ⟨(),zK,H.pick [0,1,2,3,4,5]⟩))))))
 rintro _ ρ db H
 have c:=bj
 obtain ⟨u,c,br⟩:=zD c
 refine yH [3,49,50,51,52,53,54,55,56,57,58,59,60,61,62,63,64,65,66,67,68,69,70,71,72] (fun (g:Value×Value×Value)=>[]) (fun g wl=>Hd O w wl S [.blk h [sb u.1,i6 u.2.1,i6 u.2.2.1,i6 u.2.2.2.1,i6 u.2.2.2.2.1,sb u.2.2.2.2.2.1,g.1,g.2.1,g.2.2] 109,.own Rp.str g.1 9 u.2.2.2.2.2.2.1,.own gU g.2.1 122 u.2.2.2.2.2.2.2.1,.own gZ g.2.2 95 u.2.2.2.2.2.2.2.2,.fz (.at 0 0 ((Fl.arr 7 Fl.str).f zM)),.fz (.gi 4)]) ?_ ?_
 ·skip
  refine yD ?_
  unfold Fgw at c
  obtain ⟨bt,az,bu,c⟩:=yS c
  refine xC [3,49,50,51,52,53,54,55,56,57,58,59,60,61,62,63,64,65,66,67,68,69,70,71,72] (fun (g:Nat×Str×Int×Int×Int×Int×Str×(List Str)×(List bK)×(List dE)×Value×Value×Value)=>[]) (fun g wl=>Hd O w wl S [.blk h [sb g.2.1,i6 g.2.2.1,i6 g.2.2.2.1,i6 g.2.2.2.2.1,i6 g.2.2.2.2.2.1,sb g.2.2.2.2.2.2.1,g.2.2.2.2.2.2.2.2.2.2.1,g.2.2.2.2.2.2.2.2.2.2.2.1,g.2.2.2.2.2.2.2.2.2.2.2.2] 109,.own Rp.str g.2.2.2.2.2.2.2.2.2.2.1 9 g.2.2.2.2.2.2.2.1,.own gU g.2.2.2.2.2.2.2.2.2.2.2.1 122 g.2.2.2.2.2.2.2.2.1,.own gZ g.2.2.2.2.2.2.2.2.2.2.2.2 95 g.2.2.2.2.2.2.2.2.2.1,.fz (.at 0 0 ((Fl.arr 7 Fl.str).f zM)),.fz (.gi 4)]∧fU bt g.1 (g.2.1,g.2.2.1,g.2.2.2.1,g.2.2.2.2.1,g.2.2.2.2.2.1,g.2.2.2.2.2.2.1,g.2.2.2.2.2.2.2.1,g.2.2.2.2.2.2.2.2.1,g.2.2.2.2.2.2.2.2.2.1)=some u) (fun g=>g.1) (az,A,B,C,D,E,F,G,I,J,P,Q,R) zK ⟨H.pick [0,1,2,3,4,5],c⟩ ?_
  clear H c
  rintro ⟨az,T,U,V,X,Y,Z,aa,ab,ac,a0,a1,a2⟩ ρ dc ⟨H,c⟩
  obtain ⟨bv,rfl,c⟩:=yX c
  have c:=yY bu c
  refine zB fun dd bw=>?_
  refine zB fun de bx=>zA<| zH (gV h) ?_
  have bz:=H
  have H:=H.freezeB (i:=0) rfl
  have H:=H.freeze (i:=1) rfl
  have H:=H.freeze (i:=2) rfl
  have H:=H.freeze (i:=3) rfl
  have H:=H.fz (.pt dI (some ⟨h,0,none⟩) (some (gB.mk T U (gW.mk V X Y Z) (Rules.mk aa ab ac)))) ⟨_,_,_,rfl,(H.item (i:=0) rfl).1,(H.item (i:=0) rfl).2.1,(dY (x:=gB.mk T U (gW.mk V X Y Z) (Rules.mk aa ab ac)) (H.item (i:=1) rfl) (H.item (i:=2) rfl) (H.item (i:=3) rfl)),(H.item (i:=0) rfl).2.2⟩
  obtain ⟨b0,b1,c⟩:=zD c
  refine yB rfl rfl (zV aDq rfl) (aNx (some (gB.mk T U (gW.mk V X Y Z) (Rules.mk aa ab ac))) [114,117,108,101] (some ⟨h,0,none⟩) _ b1 _ _ _ (H.enter [] [6])) ?_
  rintro _ df ⟨rfl,b2⟩
  have H:=bz.step (b2.only:Only [] _ _)
  refine ⟨_,rfl,?_⟩
  refine RN bx<| zZ (b:=b0) rfl (fun ag=>?_) (fun ag=>?_)
  ·have c:=zN ag c
   refine zW (zF (bw _ _ ?_))
   refine yD ?_
   refine zB fun dg b3=>zA<| zH (gV h) ?_
   obtain ⟨l,b4,c⟩:=zD c
   refine yB rfl rfl (zV aEv rfl) (aPu (gB.mk T U (gW.mk V X Y Z) (Rules.mk aa ab ac)) h a0 a1 a2 _ b4 _ _ _ (H.enter [1,2,3,0] [5])) ?_
   rintro _ b5 ⟨ah,ai,aj,rfl,b6⟩
   have H:Hd _ _ b5 _ [.fz (.at 0 0 ((Fl.arr 7 Fl.str).f zM)),.fz (.gi 4),.own Rp.str ah 9 l.r.Phases,.own gU ai 122 l.r.Moves,.own gZ aj 95 l.r.Rules,.blk h [sb l.text,i6 l.at_,i6 l.now.kind,i6 l.now.at_,i6 l.now.n,sb l.now.text,ah,ai,aj] 109]:=H.back [1,2,3,0] [5] rfl b6
   refine ⟨_,rfl,?_⟩
   refine RN b3<| zB fun dh b7=>zA<| zH (gV h) ?_
   obtain ⟨⟨s,m⟩,b8,c⟩:=zD c
   refine yB rfl rfl (zV en122 rfl) (Fdow (gB.mk l.text l.at_ (gW.mk l.now.kind l.now.at_ l.now.n l.now.text) (Rules.mk l.r.Phases l.r.Moves l.r.Rules)) h ah ai aj _ b8 _ _ _ (H.enter [2,3,4,5] [1])) ?_
   rintro _ b9 ⟨ak,al,am,rfl,ca⟩
   have H:Hd _ _ b9 _ [.fz (.at 0 0 ((Fl.arr 7 Fl.str).f zM)),.fz (.gi 4),.own Rp.str ak 9 m.r.Phases,.own gU al 122 m.r.Moves,.own gZ am 95 m.r.Rules,.blk h [sb m.text,i6 m.at_,i6 m.now.kind,i6 m.now.at_,i6 m.now.n,sb m.now.text,ak,al,am] 109]:=H.back [2,3,4,5] [1] rfl ca
   refine ⟨_,rfl,?_⟩
   refine zG (xM (cs:=[sb s,i6 0,.string (bs []),.string (bs []),i6 0,i6 0,i6 0,.slice none 0 0]) (bt95_0 _))<| yR rfl rfl (xB aBk H) ?_
   rintro _ di ⟨a3,rfl,H⟩
   refine yV rfl (yP (vs:=[sb s,i6 0,.string (bs []),.string (bs []),i6 0,i6 0,i6 0,.slice none 0 0]) H 6 rfl qP rfl rfl rfl ⟨rfl,rfl,rfl,rfl,rfl,rfl,rfl,rfl,trivial⟩ rfl) ?_
   rintro dj H
   refine RN b7<| zB fun dk cb=>zA<| zH (gV h) ?_
   obtain ⟨o,cc,c⟩:=zD c
   refine yB rfl rfl (zV en123 rfl) (Fc6w (gB.mk m.text m.at_ (gW.mk m.now.kind m.now.at_ m.now.n m.now.text) (Rules.mk m.r.Phases m.r.Moves m.r.Rules)) [105,102] h ak al am _ cc _ _ _ (H.enter [2,3,4,5] [1])) ?_
   rintro _ cd ⟨an,ao,ap,rfl,ce⟩
   have H:Hd _ _ cd _ [.fz (.at 0 0 ((Fl.arr 7 Fl.str).f zM)),.fz (.gi 4),.blk a3 [sb s,i6 0,.string (bs []),.string (bs []),i6 0,i6 0,i6 0,.slice none 0 0] 95,.own Rp.str an 9 o.r.Phases,.own gU ao 122 o.r.Moves,.own gZ ap 95 o.r.Rules,.blk h [sb o.text,i6 o.at_,i6 o.now.kind,i6 o.now.at_,i6 o.now.n,sb o.now.text,an,ao,ap] 109]:=H.back [2,3,4,5] [1] rfl ce
   refine ⟨_,rfl,?_⟩
   refine RN cb<| zB fun dl cf=>zA<| zH (gV h) ?_
   obtain ⟨⟨d,p⟩,cg,c⟩:=zD c
   refine yB rfl rfl (zV en124 rfl) (Fha (gB.mk o.text o.at_ (gW.mk o.now.kind o.now.at_ o.now.n o.now.text) (Rules.mk o.r.Phases o.r.Moves o.r.Rules)) 0 h an ao ap _ cg _ _ _ (H.enter [3,4,5,6] [0,1])) ?_
   rintro _ ch ⟨z,aq,ar,a4,rfl,ci⟩
   have H:Hd _ _ ch _ [.fz (.at 0 0 ((Fl.arr 7 Fl.str).f zM)),.fz (.gi 4),.blk a3 [sb s,i6 0,.string (bs []),.string (bs []),i6 0,i6 0,i6 0,.slice none 0 0] 95,f1 fA z d.Kids,.own Rp.str aq 9 p.r.Phases,.own gU ar 122 p.r.Moves,.own gZ a4 95 p.r.Rules,.blk h [sb p.text,i6 p.at_,i6 p.now.kind,i6 p.now.at_,i6 p.now.n,sb p.now.text,aq,ar,a4] 109]:=H.back [3,4,5,6] [0,1] rfl ci
   refine ⟨_,rfl,?_⟩
   refine zG (vW rfl)<| yV rfl (yP (vs:=[i6 d.Kind,sb d.Name,sb d.Other,i6 d.Op,i6 d.N,i6 d.Frames,z]) H 2 rfl eX rfl rfl rfl ⟨rfl,rfl,rfl,rfl,rfl,rfl,(wK (H.item (i:=3) rfl)),trivial⟩ rfl) ?_
   rintro dm H
   refine RN cf ?_
   have cj:=H
   have H:=H.rebase
   have dn:=H
   refine xX H [0,1,2,3,4,5,6,7,8,9,10,11,12] (kz [0,0,0,0,0,1,1,2,3,0,0,0,3]) mixed ?_
   refine XM (gV h)<| XM (gV h)<| XP (fun _ _=>zS rfl)<| XP (fun _ _=>aDe rfl)<| XP (fun _ _=>mP rfl)<| XR sK H 7 8 rfl rfl<| MxM.xZ oS rfl rfl rfl (fun y q=>yK (yJ (cs:=[sb s,i6 d.Kind,sb d.Name,sb d.Other,i6 d.Op,i6 d.N,i6 d.Frames,z]) aEb rfl qP rfl (Blk.cells ((H.sees q).item (i:=2) rfl))) rfl) ?_
   obtain ⟨dp,ck,c⟩:=zC c
   subst ck
   refine MxM.XL_exN oS rfl rfl rfl (fun y q=>pK (kT (r:=gZ) (xl:=[dE.mk s d]) (cs:=[sb s,i6 d.Kind,sb d.Name,sb d.Other,i6 d.Op,i6 d.N,i6 d.Frames,z]) u24 el95 (by decide) (by decide) rfl (xJ (vs:=[.agg [sb s,i6 d.Kind,sb d.Name,sb d.Other,i6 d.Op,i6 d.N,i6 d.Frames,z].toArray]) (by decide) rfl rfl ⟨rfl,trivial⟩ rfl) (H.sees q) ⟨[sb s,i6 d.Kind,sb d.Name,sb d.Other,i6 d.Op,i6 d.N,i6 d.Frames,z],[],rfl,(rRule_mk (x:=dE.mk s d) ((H.sees q).item (i:=3) rfl)),rfl⟩) (aMh (cs:=[sb s,i6 d.Kind,sb d.Name,sb d.Other,i6 d.Op,i6 d.N,i6 d.Frames,z]) u24 el95 (by decide) (by decide) (xJ (vs:=[.agg [sb s,i6 d.Kind,sb d.Name,sb d.Other,i6 d.Op,i6 d.N,i6 d.Frames,z].toArray]) (by decide) rfl rfl ⟨rfl,trivial⟩ rfl))) ?_
   rintro y dq dr q H
   obtain ⟨cl,cm,c⟩:=zD c
   refine MxM.XL_ex oS rfl rfl rfl (fun y q=>kL (H.sees q) (i:=6) rfl u24 el95 rfl rfl (Sr.of_own ((H.sees q).item (i:=8) rfl)) cm) ?_
   rintro y a5 ds q H
   refine ⟨H.only,?_⟩
   refine XP (fun _ _=>zS rfl)<| XP (fun _ _=>aDe rfl)<| XP (fun _ _=>mP rfl)<| MxM.XL_exU oS rfl rfl (fun y q=>xK (H.sees q) 7 rfl sz24 rfl (v:=a5) rfl (kE ((H.sees q).item (i:=6) rfl)) rfl) ?_
   rintro y dt q H
   refine ⟨H.only,?_⟩
   refine MxM.xE fun du hS=>?_
   have H:=H.sees hS
   have H:=cj.rejoin H
   exact (yL (zF (meet ⟨(bv,p.text,p.at_,p.now.kind,p.now.at_,p.now.n,p.now.text,p.r.Phases,p.r.Moves,cl,aq,ar,a5),zK,⟨H.pick [7,4,5,6,0,1],c⟩,Nat.lt_succ_self _⟩)))
  have c:=zO ag c
  obtain rfl:=gJ c
  exact (xG (yI (yI (yT (zF (meet ⟨(a0,a1,a2),zK,H.pick [0,1,2,3,4,5]⟩))))))
 rintro ⟨cn,co,cp⟩ ρ dv H
 have c:=br
 obtain ⟨dw,dx,cq,dy,dz,d0,d1,d2,d3⟩:=u
 refine zB fun d4 cr=>zA<| zH (gV h)<| zG (zS rfl)<| zG (dS rfl)<| zG (kD rfl)<| Ld fK H 0 2 rfl rfl ?_
 obtain ⟨d5,ct,c⟩:=zC c
 refine zG (zL (wI (a:=cq) (b:=0) rfl rfl) ct)<| RN cr ?_
 obtain ⟨cu,c⟩:=wF c
 refine dA cu ?_
 obtain rfl:=gJ c
 refine (zW (uB rfl ?_))
 exact ⟨cn,co,cp,rfl,H.pick [1,2,3,0]⟩
theorem aLw (b:Nat)(w:World):CallsD Tryz.prog 119 #[gV b] .returning w fun e u' a=>e= .returned (.tuple #[])∧u'= .returning∧a=w:=by
 refine callsD_of_wpS Tryz.func119 rfl fun c₀ cs hu=>?_
 apply wpS_seq
 apply wpS_region
 simp [wpOpsS,go_sem,recoverD,hu,Tryz.ntmps119,Exit.thenS]
 apply wpS_seq
 apply wpS_region
 simp [wpOpsS,go_sem,Exit.thenS,Act.eval,Array.replicate]
 refine wpS_cond (t:=false) (by simp [Act.eval,Array.replicate]) ?_
 simp only [Bool.false_eq_true,if_false]
 refine wpS_of_wp (wp_skip ?_)
 cases c₀
 simp_all [bodyPostS,results,Tryz.results119]
theorem en59c:Go.OB.Enters Tryz.prog 59:=⟨_,Tryz.func59,rfl,by kernel_rfl⟩
theorem zero111c:Go.OB.Zero Tryz.prog 111 ([i6 0,i6 0]):=by unfold Go.OB.Zero; kernel_rfl
theorem sz111c:Sz Tryz.prog 111 2:=by unfold Sz; kernel_rfl
theorem agg111c:Agg Tryz.prog 111:=by unfold Agg; kernel_rfl
theorem bz111c:Tryz.prog.built 111 []=some ([i6 0,i6 0]:List Value).toArray:=by kernel_rfl
theorem Feew (a:gB)(b:Nat)(j:Value)(k:Value)(l:Value)(r:aDy×gB)(c:Fee a=some r)(O S:List Nat)(w:World)(H:Hd O w w S [.own Rp.str j 9 a.r.Phases,.own gU k 122 a.r.Moves,.own gZ l 95 a.r.Rules,.blk b [sb a.text,i6 a.at_,i6 a.now.kind,i6 a.now.at_,i6 a.now.n,sb a.now.text,j,k,l] 109,.fz (.at 0 0 ((Fl.arr 7 Fl.str).f zM)),.fz (.gi 4)]):
  Cl 58 [.func (.func 59) #[gV b] #[]] w fun e o=> ∃d h i,e= .returned (.agg [i6 r.1.at_,i6 r.1.e].toArray)∧Hd O w o S [.own Rp.str d 9 r.2.r.Phases,.own gU h 122 r.2.r.Moves,.own gZ i 95 r.2.r.Rules,.blk b [sb r.2.text,i6 r.2.at_,i6 r.2.now.kind,i6 r.2.now.at_,i6 r.2.now.n,sb r.2.now.text,d,h,i] 109]:=by
 unfold Fee at c
 obtain ⟨x,e,c⟩:=zD c
 have hr:=Option.some.inj c
 subst hr
 refine aIf 7 Tryz.func58 rfl rfl rfl ?_
 refine aDi ?_
 refine rF ?_
 refine RLD_ex rfl rfl (xB zero111c H) ?_
 rintro _ p ⟨m,rfl,H⟩
 refine aCw ?_
 refine aDi ?_
 refine rF ?_
 refine aIp rfl rfl (dP rfl) ?_
 refine RLD_defer (x:={target:= .fn (.func 119) #[gV m],args:= #[]}) rfl (run_defer (cap:=[_]) (us:=[]) rfl rfl) ?_
 refine aCw ?_
 refine aDi ?_
 refine rF ?_
 refine aIp rfl rfl (wV (v:= .func (.func 59) #[gV b] #[]) rfl) ?_
 refine RLD_call rfl rfl (DoC_bnd en59c rfl rfl) (Fffw a b j k l _ e _ _ _ (H.enter [0,1,2,3] [4,5])) ?_
 rintro _ q ⟨d,h,i,rfl,G⟩
 have H:=H.back [0,1,2,3] [4,5] rfl G
 refine ⟨_,rfl,?_⟩
 refine aCw ?_
 refine aDi ?_
 refine rF ?_
 refine aIp rfl rfl (xM (cs:=[i6 0,i6 0]) bz111c) ?_
 refine RLD_exU rfl (yP (vs:=[i6 0,i6 0]) H 2 rfl sz111c rfl rfl rfl ⟨rfl,rfl,trivial⟩ rfl) ?_
 rintro s H
 refine aCw ?_
 refine WPD_ret ?_
 intro tmps ht
 refine leaves_cons (f:=119) (args:= #[gV m]) (by simp) (by simp [go_sem]) ?_
 refine (aLw m _).mono ?_
 rintro e u' t ⟨rfl,rfl,rfl⟩
 refine aOs (fn:=_) rfl ht (qA rfl rfl (yU agg111c sz111c rfl (Hbc H 2 rfl)) ?_)
 exact ⟨d,h,i,rfl,H.pick [3,4,5,6]⟩
theorem Fd3w (h:Str)(r:Rules×Int×Int)(c:Fd3 h=some r)(O S:List Nat)(w:World)(H:Hd O w w S [.fz (.at 0 0 ((Fl.arr 7 Fl.str).f zM)),.fz (.gi 4)]):
  Cl 18 [sb h] w fun e q=> ∃u3 u4 u5,e= .returned (.tuple #[.agg [u3,u4,u5].toArray,i6 r.2.1,i6 r.2.2])∧Hd O w q S [f1 Rp.str u3 r.1.Phases,f1 gU u4 r.1.Moves,f1 gZ u5 r.1.Rules]:=by
 unfold Fd3 at c
 refine CW 39 Tryz.func18 ?_
 refine zB fun X s=>zA<| yR rfl rfl (xB zero26 H) ?_
 rintro _ Y ⟨t,rfl,H⟩
 refine zI (i6 0)<| zI (i6 0)<| RN s<| zB fun Z u=>zB fun aa v=>zA<| zH (sb h) ?_
 obtain ⟨x,y,c⟩:=zC c
 refine zG (yK (kG (s1:=h) u9 rfl) (congrArg (Value.int .i64) y)) ?_
 obtain ⟨ab,z,c⟩:=zC c
 refine zG (zL (bZ (a:=x) (b:=200000) rfl rfl) z)<| RN v ?_
 obtain ⟨A,c⟩:=wF c
 refine dA A ?_
 refine zW (zF (u _ _ ?_))
 refine zB fun ac B=>zA<| zH (sb h)<| zG (xM (cs:=[sb h,i6 0,i6 0,i6 0,i6 0,.string (bs []),.slice none 0 0,.slice none 0 0,.slice none 0 0]) (bt109_0 _))<| yR rfl rfl (xW (cs:=[sb h,i6 0,i6 0,i6 0,i6 0,.string (bs []),.slice none 0 0,.slice none 0 0,.slice none 0 0]) rfl H) ?_
 rintro _ ad ⟨m,rfl,H⟩
 refine zI (gV m)<| RN B<| zB fun ae C=>zB fun af D=>zA<| zH (gV m)<| zG (aJi rfl) ?_
 have H:=bW H Rp.str 9
 have H:=bW H gU 122
 have H:=bW H gZ 95
 obtain ⟨⟨o,d⟩,E,c⟩:=zD c
 refine yB rfl rfl (zV en58 rfl) (Feew (gB.mk h 0 (gW.mk 0 0 0 []) (Rules.mk [] [] [])) m (.slice none 0 0) (.slice none 0 0) (.slice none 0 0) _ E _ _ _ (H.enter [4,5,6,3] [0,1])) ?_
 rintro _ F ⟨j,k,l,rfl,G⟩
 have H:Hd _ _ F _ [.fz (.at 0 0 ((Fl.arr 7 Fl.str).f zM)),.fz (.gi 4),.blk t [.slice none 0 0,.slice none 0 0,.slice none 0 0] 26,.own Rp.str j 9 d.r.Phases,.own gU k 122 d.r.Moves,.own gZ l 95 d.r.Rules,.blk m [sb d.text,i6 d.at_,i6 d.now.kind,i6 d.now.at_,i6 d.now.n,sb d.now.text,j,k,l] 109]:=H.back [4,5,6,3] [0,1] rfl G
 refine ⟨_,rfl,?_⟩
 refine yR rfl rfl (xB zero111 H) ?_
 rintro _ ag ⟨ah,rfl,H⟩
 refine yV rfl (yP (vs:=[i6 o.at_,i6 o.e]) H 7 rfl sz111 rfl rfl rfl ⟨rfl,rfl,trivial⟩ rfl) ?_
 rintro ai H
 refine RN D<| zB fun aj I=>zA<| zG (fa111_1 rfl)<| Ld one30 H 7 1 rfl rfl ?_
 obtain ⟨ak,J,c⟩:=zC c
 refine zG (zL (wI (a:=o.e) (b:=0) rfl rfl) J)<| RN I ?_
 obtain ⟨K,c⟩:=wF c
 refine dA K ?_
 refine zW (zF (C _ _ ?_))
 refine zB fun al L=>?_
 refine zB fun am M=>zA<| zH (gV m)<| zG (zS rfl)<| zG (aDe rfl)<| zG (yK (yJ (cs:=[j,k,l]) mZ rfl rZ rfl (Cells.drop (Hbc H 6 rfl) 6 3)) rfl) ?_
 have N:=H
 have H:=H.freeze (i:=3) rfl
 have H:=H.freeze (i:=4) rfl
 have H:=H.freeze (i:=5) rfl
 obtain ⟨p,P,c⟩:=zD c
 refine yB rfl rfl (zV en31 rfl) (Fayw d.r j k l _ P _ _ _ (H.enter [] [3,4,5])) ?_
 rintro _ an ⟨rfl,Q⟩
 have H:=N.step (Q.only:Only [] _ _)
 refine ⟨_,rfl,?_⟩
 refine zI (i6 p)<| RN M<| zB fun ao R=>zA<| zH (i6 p) ?_
 obtain ⟨ap,T,c⟩:=zC c
 refine zG (zL (wI (a:=p) (b:=0) rfl rfl) T)<| RN R ?_
 obtain ⟨U,c⟩:=wF c
 refine dA U ?_
 refine zW (zF (L _ _ ?_))
 refine zB fun aq V=>zA<| zH (gV m)<| zG (zS rfl)<| zG (aDe rfl)<| zG (yK (yJ (cs:=[j,k,l]) mZ rfl rZ rfl (Cells.drop (Hbc H 6 rfl) 6 3)) rfl)<| yV rfl (yP (vs:=[j,k,l]) H 2 rfl rZ rfl rfl rfl ⟨(kE (H.item (i:=3) rfl)),(kE (H.item (i:=4) rfl)),(kE (H.item (i:=5) rfl)),trivial⟩ rfl) ?_
 rintro ar H
 refine zI (i6 0)<| zI (i6 0)<| RN V ?_
 have H:=H.freeze (i:=3) rfl
 have H:=H.freeze (i:=4) rfl
 have H:=H.freeze (i:=5) rfl
 obtain rfl:=gJ c
 refine (zY (postc2 (v1:=i6 0) (v2:=i6 0) rfl rfl (yU mZ rZ rfl (Hbc H 2 rfl)) rfl rfl ?_))
 exact ⟨j,k,l,rfl,H.pick [3,4,5]⟩
abbrev Fb9 (f:Cond→Int→Option Str):Prop:= ∀(p0:Cond) (p1:Int) (v1:Value) (r:Str) (_:f p0 p1=some r) (O S:List Nat) (w:World) (_:Hd O w w S [f1 fA v1 p0.Kids,.fz (.at 0 0 ((Fl.arr 7 Fl.str).f zM))]),
  Cl 69 [.agg [i6 p0.Kind,sb p0.Name,sb p0.Other,i6 p0.Op,i6 p0.N,i6 p0.Frames,v1].toArray,i6 p1] w fun e w'=>e= .returned (sb r)∧Hd O w w' S []
theorem Fdzw (rfJ:Cond→Int→Option Str)(rhJ:Fb9 rfJ)(m:List Cond)(j:Str)(k:Int)(v1:Value)(r:Str)(c:Fdz rfJ m j k=some r)(O S:List Nat)(w:World)(H:Hd O w w S [f1 fA v1 m,.fz (.at 0 0 ((Fl.arr 7 Fl.str).f zM))]):
  Cl 132 [v1,sb j,i6 k] w fun e z=>e= .returned (sb r)∧Hd O w z S []:=by
 unfold Fdz at c
 refine CW 28 Tryz.func132 ?_
 refine zB fun K4 A=>zA<| zI (.string (bs []))<| RN A<| zB fun K5 B=>zA<| zI (.slice none 0 0)<| RN B ?_
 obtain ⟨n,c,C⟩:=zD c
 refine yH [7,9,10,11,12,13,14,15,16,17,18,19,20,21,22] (fun (g:Value)=>[(7,g)]) (fun g wl=>Hd O w wl S [.own Rp.str g 9 n,.fz (.at 0 0 ((Fl.arr 7 Fl.str).f zM))]) ?_ ?_
 ·skip
  refine zB fun ax D=>zA<| zH v1 ?_
  obtain ⟨F,G,c⟩:=zC c
  obtain ⟨ay,az,I⟩:=SlF.len ((H.item (i:=0) rfl))
  refine zG (yK (xH u68 I) (congrArg (Value.int .i64) G))<| zH (i6 0)<| RN D<| yD ?_
  have H:=bW H Rp.str 9
  unfold Fgd at c
  obtain ⟨J,s,K,c⟩:=yS c
  refine xC [7,9,12,13,14,15,16,17,18,19,20,21,22] (fun (g:Nat×(List Str)×Int×Value)=>[(7,g.2.2.2),(12,i6 g.2.2.1)]) (fun g wl=>Hd O w wl S [.own Rp.str g.2.2.2 9 g.2.1,f1 fA v1 m,.fz (.at 0 0 ((Fl.arr 7 Fl.str).f zM))]∧fU J g.1 (g.2.1,g.2.2.1)=some n) (fun g=>g.1) (s,[],0,.slice none 0 0) (zJ rfl (zJ rfl zK)) ⟨H.pick [2,0,1],c⟩ ?_
  clear H c
  rintro ⟨s,a0,o,t⟩ ρ a1 ⟨H,c⟩
  obtain ⟨L,rfl,c⟩:=yX c
  have c:=yY K c
  refine zB fun a2 M=>zA ?_
  obtain ⟨P,Q,c⟩:=zC c
  refine zG (zL (xN (a:=o) (b:=F) rfl rfl) Q)<| RN M<| zB fun a3 R=>zZ (b:=P) rfl (fun p=>?_) (fun p=>?_)
  ·have c:=zN p c
   refine zW (zF (R _ _ ?_))
   refine zB fun a4 T=>?_
   refine yD ?_
   refine zB fun a5 U=>zA ?_
   obtain ⟨d,q,c⟩:=zD c
   obtain ⟨V,X,a6,a7,Y,Z,aa,ab,ac⟩:=dC (H.item (i:=1) rfl) q
   obtain ⟨h,rfl,ad⟩:=dZ Z
   have H:=H.fzs [.at V (X+o.toNat * 7) _,.sl fA h d.Kids] ⟨⟨aa,ab,ac⟩,ad,trivial⟩
   refine zG (xA u68 eX Y rfl (zX q).1 (zX q).2.1 rfl rfl)<| zG (yK (yJ (cs:=[i6 d.Kind,sb d.Name,sb d.Other,i6 d.Op,i6 d.N,i6 d.Frames,h]) dB rfl eX rfl (H.item (i:=3) rfl).2.2) rfl)<| yR rfl rfl (xB aO H) ?_
   rintro _ a8 ⟨a9,rfl,H⟩
   refine yV rfl (yP (vs:=[i6 d.Kind,sb d.Name,sb d.Other,i6 d.Op,i6 d.N,i6 d.Frames,h]) H 5 rfl eX rfl rfl rfl ⟨rfl,rfl,rfl,rfl,rfl,rfl,(wK (H.item (i:=4) rfl)),trivial⟩ rfl) ?_
   rintro ba H
   refine RN U<| zA<| zH t<| zG (yK (yJ (cs:=[i6 d.Kind,sb d.Name,sb d.Other,i6 d.Op,i6 d.N,i6 d.Frames,h]) dB rfl eX rfl (Hbc H 5 rfl)) rfl)<| zH (i6 k) ?_
   have ae:=H
   obtain ⟨l,af,c⟩:=zD c
   refine yB rfl rfl (zV en69 rfl) (rhJ d k h _ af _ _ _ (H.enter [] [4,2])) ?_
   rintro _ bb ⟨rfl,ag⟩
   have H:=ae.step (ag.only:Only [] _ _)
   refine ⟨_,rfl,?_⟩
   obtain ⟨bc,ah,c⟩:=zC c
   subst ah
   refine yR rfl rfl (kT (r:=Rp.str) (xl:=[l]) (cs:=[sb l]) u22 el9 (by decide) (by decide) rfl (xJ (vs:=[sb l]) (by decide) rfl rfl ⟨rfl,trivial⟩ rfl) H ⟨[sb l],[],rfl,rfl,rfl⟩) ?_
   rintro bd be H
   obtain ⟨ai,aj,c⟩:=zD c
   refine yR rfl rfl (kL H (i:=0) rfl u22 el9 rfl rfl (Sr.of_own (H.item (i:=6) rfl)) aj) ?_
   rintro u bf H
   refine zI u<| (yA (yL (zF (T _ _ ?_))))
   refine zA ?_
   obtain ⟨v,ak,c⟩:=zC c
   refine zG (xI (a:=o) (b:=1) rfl rfl ak)<| zH (i6 v) ?_
   exact (yA (zF (meet ⟨(L,ai,v,u),(zJ rfl (zJ rfl zK)),⟨H.pick [0,1,2],c⟩,Nat.lt_succ_self _⟩)))
  have c:=zO p c
  obtain rfl:=gJ c
  exact (xG (yI (yI (yT (zF (meet ⟨t,(zJ rfl zK),H.pick [0,2]⟩))))))
 rintro x ρ bg H
 have c:=C
 refine zB fun bh al=>zA<| zH x<| zH (sb j) ?_
 obtain ⟨am,an,c⟩:=zD c
 refine zG (jV (s1:=[32]) (s2:=j) rfl rfl an) ?_
 obtain ⟨ao,ap,c⟩:=zD c
 refine zG (jV (s1:=am) (s2:=[32]) rfl rfl ap) ?_
 have aq:=H
 have H:=H.freeze (i:=0) rfl
 obtain ⟨y,ar,c⟩:=zD c
 refine yB rfl rfl (zV en188 rfl) (E.Ffcw n ao x _ ar _ _ _ (H.enter [] [0])) ?_
 rintro _ bi ⟨rfl,au⟩
 have H:=aq.step (au.only:Only [] _ _)
 refine ⟨_,rfl,?_⟩
 refine zI (sb y)<| RN al ?_
 obtain rfl:=gJ c
 refine (zY (fB (v1:=sb y) rfl rfl ?_))
 exact ⟨rfl,H.pick []⟩
theorem Ffvw (rfJ:Cond→Int→Option Str)(rhJ:Fb9 rfJ)(a:Cond)(d:Nat)(b:Value)(r:Str)(c:Ffv rfJ a=some r)(O S:List Nat)(w:World)(H:Hd O w w S [.blk d [i6 a.Kind,sb a.Name,sb a.Other,i6 a.Op,i6 a.N,i6 a.Frames,b] 70,f1 fA b a.Kids,.fz (.at 0 0 ((Fl.arr 7 Fl.str).f zM))]):
  Cl 131 [gV d] w fun e i=>e= .returned (sb r)∧Hd O w i S [.blk d [i6 a.Kind,sb a.Name,sb a.Other,i6 a.Op,i6 a.N,i6 a.Frames,b] 70]:=by
 unfold Ffv at c
 refine CW 5 Tryz.func131 ?_
 refine zB fun o j=>zA<| zI (.string (bs []))<| RN j<| zB fun p k=>zA<| zG (pW rfl)<| Ld vJ H 0 6 rfl rfl ?_
 have l:=H
 obtain ⟨h,m,c⟩:=zD c
 refine yB rfl rfl (zV en132 rfl) (Fdzw rfJ rhJ a.Kids [] 3 b _ m _ _ _ (H.enter [] [1,2])) ?_
 rintro _ q ⟨rfl,n⟩
 have H:=l.step (n.only:Only [] _ _)
 refine ⟨_,rfl,?_⟩
 refine zI (sb h)<| RN k ?_
 obtain rfl:=gJ c
 refine (zY (fB (v1:=sb h) rfl rfl ?_))
 exact ⟨rfl,H.pick [0]⟩
theorem Ffgw (rfJ:Cond→Int→Option Str)(rhJ:Fb9 rfJ)(d:Cond)(l:Int)(v1:Value)(r:Str)(c:Ffg rfJ d l=some r)(O S:List Nat)(w:World)(H:Hd O w w S [f1 fA v1 d.Kids,.fz (.at 0 0 ((Fl.arr 7 Fl.str).f zM))]):
  Cl 69 [.agg [i6 d.Kind,sb d.Name,sb d.Other,i6 d.Op,i6 d.N,i6 d.Frames,v1].toArray,i6 l] w fun e h=>e= .returned (sb r)∧Hd O w h S []:=by
 unfold Ffg at c
 refine CW 160 Tryz.func69 ?_
 refine zB fun K4 G=>zA<| yR rfl rfl (xW (cs:=[i6 d.Kind,sb d.Name,sb d.Other,i6 d.Op,i6 d.N,i6 d.Frames,v1]) rfl H) ?_
 rintro _ n ⟨k,rfl,H⟩
 refine zI (.string (bs []))<| RN G<| zB fun K8 I=>zA<| zI (.func (.func 130) #[] #[])<| RN I<| zB fun K9 J=>zA<| zG (dP rfl)<| zI (.func (.func 131) #[] #[gV k])<| RN J<| zB fun b5 K=>zA<| zI (.string (bs []))<| RN K<| zB fun b6 b7=>zB fun b8 L=>zA<| zG (mY rfl) ?_
 refine Ld fK H 2 0 rfl rfl<| RN L<| yD<| zB fun b9 M=>zA ?_
 obtain ⟨P,Q,c⟩:=zC c
 refine zG (zL (yQ (a:=d.Kind) (b:=9) rfl rfl) Q)<| zI (.bool P)<| RN M ?_
 obtain ⟨R,c⟩:=wF c
 refine dA R ?_
 refine zB fun ca T=>zA ?_
 obtain ⟨u,U,c⟩:=zC c
 refine zG (zL (yQ (a:=d.Kind) (b:=10) rfl rfl) U)<| zI (.bool u)<| RN T<| zZ (b:=u) rfl (fun o=>?_) (fun o=>?_)
 ·have c:=zN o c
  refine zB fun cb V=>?_
  refine zB fun cc Y=>zA<| zG (pW rfl)<| Ld vJ H 2 6 rfl rfl ?_
  have Z:=H
  obtain ⟨p,aa,c⟩:=zD c
  refine yB rfl rfl (zV en132 rfl) (Fdzw rfJ rhJ d.Kids [111,114] 1 v1 _ aa _ _ _ (H.enter [] [0,1])) ?_
  rintro _ cd ⟨rfl,ab⟩
  have H:=Z.step (ab.only:Only [] _ _)
  refine ⟨_,rfl,?_⟩
  refine zI (sb p)<| RN Y<| zB fun ce ac=>zA<| zH (i6 l) ?_
  obtain ⟨cf,ad,c⟩:=zC c
  refine zG (zL (wI (a:=l) (b:=0) rfl rfl) ad)<| RN ac ?_
  obtain ⟨ae,c⟩:=jZ c
  refine aFq ae ?_
  refine zA ?_
  refine zH (sb p) ?_
  obtain ⟨af,ag,c⟩:=zD c
  refine zG (jV (s1:=[40]) (s2:=p) rfl rfl ag) ?_
  obtain ⟨m,ah,c⟩:=zD c
  refine zG (jV (s1:=af) (s2:=[41]) rfl rfl ah)<| zI (sb m)<| RN V<| zB fun cg ai=>zA<| zH (sb m)<| zI (sb m)<| RN ai ?_
  obtain rfl:=gJ c
  refine (zY (yC (zT (fB (v1:=sb m) rfl rfl ?_))))
  exact ⟨rfl,H.pick []⟩
 have c:=zO o c
 refine zB fun ch aj=>zA ?_
 obtain ⟨y,ak,c⟩:=zC c
 refine zG (zL (yQ (a:=d.Kind) (b:=1) rfl rfl) ak)<| zI (.bool y)<| RN aj<| zZ (b:=y) rfl (fun q=>?_) (fun q=>?_)
 ·have c:=zN q c
  refine zB fun ci al=>zA<| zI (.string (bs [116,114,117,101]))<| RN al ?_
  obtain rfl:=gJ c
  refine (zY (yC (zT (fB (v1:= .string (bs [116,114,117,101])) rfl rfl ?_))))
  exact ⟨rfl,H.pick []⟩
 have c:=zO q c
 refine zB fun cj am=>zA ?_
 obtain ⟨an,ao,c⟩:=zC c
 refine zG (zL (yQ (a:=d.Kind) (b:=2) rfl rfl) ao)<| zI (.bool an)<| RN am ?_
 obtain ⟨ap,c⟩:=wF c
 refine dA ap ?_
 refine zB fun ck aq=>zA ?_
 obtain ⟨z,ar,c⟩:=zC c
 refine zG (zL (yQ (a:=d.Kind) (b:=3) rfl rfl) ar)<| zI (.bool z)<| RN aq<| zZ (b:=z) rfl (fun s=>?_) (fun s=>?_)
 ·have c:=zN s c
  refine zB fun cl au=>?_
  have av:=H
  have H:=H.rebase
  have aw:=H
  have A:Hd (O++bks (rest [] [f1 fA v1 d.Kids,.fz (.at 0 0 ((Fl.arr 7 Fl.str).f zM)),.blk k [i6 d.Kind,sb d.Name,sb d.Other,i6 d.Op,i6 d.N,i6 d.Frames,v1] 70])) n n (bks (Go.Lf.pick ([]++ [0,1]) [f1 fA v1 d.Kids,.fz (.at 0 0 ((Fl.arr 7 Fl.str).f zM)),.blk k [i6 d.Kind,sb d.Name,sb d.Other,i6 d.Op,i6 d.N,i6 d.Frames,v1] 70])) [f1 fA v1 d.Kids,.fz (.at 0 0 ((Fl.arr 7 Fl.str).f zM))]:=H.enter [] [0,1]
  have t:=H.firmB A (i:=2) rfl (List.mem_append_right _ List.mem_cons_self)
  have H:=A
  have ax:=H.firm (i:=1) rfl
  refine xX H [0,1,2,3,4,5,6,7,8,9,10,11,12,13,14] (kz [0,0,0,0,0,0,0,0,0,0,0,0,3,0,0]) mixed ?_
  refine XP (fun _ _=>jU rfl)<| XP (fun h j=>yZ dU rfl (Cells.get (Blk.cells (t h j)) (i:=1) rfl)) ?_
  obtain ⟨ay,az,c⟩:=zD c
  refine XP (fun _ _=>jV (s1:=d.Name) (s2:=[32]) rfl rfl az)<| XP (fun _ _=>vZ rfl)<| XP (fun h j=>yZ fK rfl (Cells.get (Blk.cells (t h j)) (i:=3) rfl)) ?_
  obtain ⟨B,C,c⟩:=zD c
  refine XP (fun _ _=>nC (X:=zM) u209 sz9 rfl rfl C)<| XP (fun h j=>qB (v:=sb B) dU rfl (Cells.ix (e:=Fl.str) (x:=zM) (ax h j).2.2 C)) ?_
  obtain ⟨a0,a1,c⟩:=zD c
  refine XP (fun _ _=>jV (s1:=ay) (s2:=B) rfl rfl a1) ?_
  obtain ⟨a2,a3,c⟩:=zD c
  refine XP (fun _ _=>jV (s1:=a0) (s2:=[32]) rfl rfl a3)<| XM (.func (.func 130) #[] #[])<| XP (fun _ _=>rD rfl)<| XP (fun h j=>yZ fK rfl (Cells.get (Blk.cells (t h j)) (i:=4) rfl)) ?_
  have a4:=H
  obtain ⟨a5,a6,c⟩:=zD c
  refine MxM.XL_effC oS rfl rfl rfl (fun h j=>bF en130 rfl rfl) (fun h j=>E.Fdcw d.N _ a6 _ _ _ ((H.sees j).enter [] [])) ?_
  rintro h _ cm j ⟨rfl,a7⟩
  have H:=(a4.sees j).step (a7.only:Only [] _ _)
  refine ⟨_,rfl,H.only,?_⟩
  obtain ⟨D,a8,c⟩:=zD c
  refine XP (fun _ _=>jV (s1:=a2) (s2:=a5) rfl rfl a8)<| XP (fun _ _=>xO (v:=sb D) rfl)<| MxM.xE fun a9 hS=>?_
  have H:=H.sees hS
  have H:=aw.back [] [0,1] rfl H
  have H:Hd _ _ _ _ [f1 fA v1 d.Kids,.fz (.at 0 0 ((Fl.arr 7 Fl.str).f zM)),.blk k [i6 d.Kind,sb d.Name,sb d.Other,i6 d.Op,i6 d.N,i6 d.Frames,v1] 70,f1 fA v1 d.Kids,.fz (.at 0 0 ((Fl.arr 7 Fl.str).f zM))]:=H
  have H:Hd O n a9 (bks [f1 fA v1 d.Kids,.fz (.at 0 0 ((Fl.arr 7 Fl.str).f zM)),.blk k [i6 d.Kind,sb d.Name,sb d.Other,i6 d.Op,i6 d.N,i6 d.Frames,v1] 70]) [.blk k [i6 d.Kind,sb d.Name,sb d.Other,i6 d.Op,i6 d.N,i6 d.Frames,v1] 70,f1 fA v1 d.Kids,.fz (.at 0 0 ((Fl.arr 7 Fl.str).f zM))]:=H.pick [2,3,4]
  have H:=av.rejoin H
  refine (zF (au _ _ ?_))
  obtain rfl:=gJ c
  refine (zY (yC (zT (fB (v1:=sb D) rfl rfl ?_))))
  exact ⟨rfl,H.pick []⟩
 have c:=zO s c
 refine zB fun cn ba=>zA ?_
 obtain ⟨bb,bc,c⟩:=zC c
 refine zG (zL (yQ (a:=d.Kind) (b:=4) rfl rfl) bc)<| zI (.bool bb)<| RN ba ?_
 obtain ⟨bd,c⟩:=wF c
 refine dA bd ?_
 refine zB fun co be=>zA ?_
 obtain ⟨bf,bg,c⟩:=zC c
 refine zG (zL (yQ (a:=d.Kind) (b:=5) rfl rfl) bg)<| zI (.bool bf)<| RN be ?_
 obtain ⟨bh,c⟩:=wF c
 refine dA bh ?_
 refine zB fun cp bi=>zA ?_
 obtain ⟨bj,bk,c⟩:=zC c
 refine zG (zL (yQ (a:=d.Kind) (b:=6) rfl rfl) bk)<| zI (.bool bj)<| RN bi ?_
 obtain ⟨bl,c⟩:=wF c
 refine dA bl ?_
 refine zB fun cq bm=>zA ?_
 obtain ⟨bn,bo,c⟩:=zC c
 refine zG (zL (yQ (a:=d.Kind) (b:=7) rfl rfl) bo)<| zI (.bool bn)<| RN bm ?_
 obtain ⟨bp,c⟩:=wF c
 refine dA bp ?_
 refine zB fun cr bq=>zA ?_
 obtain ⟨br,bt,c⟩:=zC c
 refine zG (zL (yQ (a:=d.Kind) (b:=8) rfl rfl) bt)<| zI (.bool br)<| RN bq ?_
 obtain ⟨bu,c⟩:=jZ c
 refine aFq bu ?_
 refine zB fun ct bv=>zA<| zH (.func (.func 131) #[] #[gV k]) ?_
 obtain ⟨bw,bx,c⟩:=zD c
 refine yB rfl rfl (bF en131 rfl rfl) (Ffvw rfJ rhJ d k v1 _ bx _ _ _ (H.enter [2] [0,1])) ?_
 rintro _ bz ⟨rfl,b0⟩
 have H:Hd _ _ bz _ [f1 fA v1 d.Kids,.fz (.at 0 0 ((Fl.arr 7 Fl.str).f zM)),.blk k [i6 d.Kind,sb d.Name,sb d.Other,i6 d.Op,i6 d.N,i6 d.Frames,v1] 70]:=H.back [2] [0,1] rfl b0
 refine ⟨_,rfl,?_⟩
 obtain ⟨F,b1,c⟩:=zD c
 refine zG (jV (s1:=[110,111,116,32]) (s2:=bw) rfl rfl b1)<| zI (sb F)<| RN bv ?_
 obtain rfl:=gJ c
 refine (zY (yC (zT (fB (v1:=sb F) rfl rfl ?_))))
 exact ⟨rfl,H.pick []⟩
theorem Fg4:Fb9 (Fgt):=by
 have h: ∀n,Fb9 (Fdw n):=by
  intro n
  induction n with
  | zero=>intro b c d r a; cases a
  | succ n ih=>intro b c d r a; exact Ffgw (Fdw n) ih b c d r a
 exact h FU
theorem Ffmw (d:List Int)(c:Str)(a:Nat)(v2:Value)(f:Value)(r:Int×Unit×(List Int))(b:Ffm d c=some r)(O S:List Nat)(w:World)(H:Hd O w w S [.own (Rp.int .u8) f 5 d,.blk a [v2,f] 129,.fz (.oq v2 a)]):
  Cl 68 [gV a,sb c] w fun e n=> ∃j u8,e= .returned (.tuple #[i6 r.1,.nilIface])∧Hd O w n S [.fz (.oq j a),.own (Rp.int .u8) u8 5 r.2.2,.blk a [j,u8] 129]:=by
 unfold Ffm at b
 refine CW 19 Tryz.func68 ?_
 refine zB fun B o=>zA<| zI (i6 0)<| zI .nilIface<| RN o<| zB fun C p=>zA<| zH (gV a) ?_
 obtain ⟨q,s,b⟩:=zD b
 refine yB rfl rfl (zV en129 rfl) (E.Fggw d a v2 f _ s _ _ _ (H.enter [0,1] [2])) ?_
 rintro _ t ⟨h,k,rfl,u⟩
 have H:Hd _ _ t _ [.fz (.oq v2 a),.fz (.oq h a),.own (Rp.int .u8) k 5 q,.blk a [h,k] 129]:=H.back [0,1] [2] rfl u
 refine ⟨_,rfl,?_⟩
 refine RN p<| zB fun D x=>zA<| zH (gV a)<| zH (gV a)<| zG (zS rfl)<| zG (aJs rfl)<| Ld one61 H 3 1 rfl rfl<| zH (sb c) ?_
 obtain ⟨F,y,b⟩:=zD b
 refine yR rfl rfl (Lx_appstr H (i:=2) rfl u61 u9 z8_5 rfl rfl y) ?_
 rintro l G H
 refine zG (zS rfl)<| zG (aJs rfl)<| yV rfl (xK H 3 rfl sz61 rfl (v:=l) rfl (kE (H.item (i:=2) rfl)) rfl) ?_
 rintro I H
 refine RN x<| zB fun J z=>zA<| zH (sb c) ?_
 obtain ⟨m,A,b⟩:=zC b
 refine zG (yK (kG (s1:=c) u9 rfl) (congrArg (Value.int .i64) A))<| zI (i6 m)<| zI .nilIface<| RN z ?_
 obtain rfl:=gJ b
 refine (zY (pM (v1:=i6 m) (v2:= .nilIface) rfl rfl rfl ?_))
 exact ⟨h,l,rfl,H.pick [1,2,3]⟩
theorem Ffzw (f:List Int)(a:Nat)(c:Value)(d:Value)(r:Int×(List Int))(b:Ffz f=some r)(O S:List Nat)(w:World)(H:Hd O w w S [.own (Rp.int .u8) d 5 f,.blk a [c,d] 129,.fz (.oq c a)]):
  Cl 70 [gV a] w fun e k=> ∃h u8,e= .returned (i6 r.1)∧Hd O w k S [.fz (.oq h a),.own (Rp.int .u8) u8 5 r.2,.blk a [h,u8] 129]:=by
 unfold Ffz at b
 refine CW 8 Tryz.func70 ?_
 refine zB fun p l=>zA<| zI (i6 0)<| RN l<| zB fun q m=>zA<| zH (gV a)<| zG (zS rfl)<| zG (aJs rfl)<| Ld one61 H 1 1 rfl rfl ?_
 obtain ⟨j,n,b⟩:=zC b
 obtain ⟨s,t,o⟩:=Sr.len (Sr.of_own (H.item (i:=0) rfl))
 refine zG (yK (xH u61 o) (congrArg (Value.int .i64) n))<| zI (i6 j)<| RN m ?_
 obtain rfl:=gJ b
 refine (zY (fB (v1:=i6 j) rfl rfl ?_))
 exact ⟨c,d,rfl,H.pick [2,0,1]⟩
theorem Ffnw (j:Rules)(v1:Value)(v2:Value)(k:Value)(r:Str×Int)(c:Ffn j=some r)(O S:List Nat)(w:World)(H:Hd O w w S [f1 Rp.str v1 j.Phases,f1 gU v2 j.Moves,f1 gZ k j.Rules,.fz (.at 0 0 ((Fl.arr 7 Fl.str).f zM))]):
  Cl 21 [.agg [v1,v2,k].toArray] w fun e n=>e= .returned (.tuple #[sb r.1,i6 r.2])∧Hd O w n S []:=by
 unfold Ffn at c
 refine CW 72 Tryz.func21 ?_
 refine zB fun K8 T=>zA<| yR rfl rfl (xW (cs:=[v1,v2,k]) rfl H) ?_
 rintro _ cj ⟨o,rfl,H⟩
 refine zI (.string (bs []))<| zI (i6 0)<| RN T<| zB fun ck U=>zB fun cl V=>zA<| zG (yK (yJ (cs:=[v1,v2,k]) mZ rfl rZ rfl (Hbc H 4 rfl)) rfl) ?_
 have X:=H
 obtain ⟨s,Y,c⟩:=zD c
 refine yB rfl rfl (zV en31 rfl) (Fayw j v1 v2 k _ Y _ _ _ (H.enter [] [0,1,2])) ?_
 rintro _ cm ⟨rfl,Z⟩
 have H:=X.step (Z.only:Only [] _ _)
 refine ⟨_,rfl,?_⟩
 refine zI (i6 s)<| RN V<| zB fun cn aa=>zA<| zH (i6 s) ?_
 obtain ⟨co,ab,c⟩:=zC c
 refine zG (zL (wI (a:=s) (b:=0) rfl rfl) ab)<| RN aa ?_
 obtain ⟨ac,c⟩:=wF c
 refine dA ac ?_
 refine zW (zF (U _ _ ?_))
 refine zB fun cp ad=>zA<| yR rfl rfl (xB zero129 H) ?_
 rintro _ cq ⟨h,rfl,H⟩
 refine RN ad ?_
 obtain ⟨ae,c,af⟩:=zD c
 refine yH [7,17,18,19,20,21,22,23,24,25,26,27,28] (fun (g:Unit)=>[]) (fun g wl=>Hd O w wl S [f1 Rp.str v1 j.Phases,f1 gU v2 j.Moves,f1 gZ k j.Rules,.fz (.at 0 0 ((Fl.arr 7 Fl.str).f zM)),.blk o [v1,v2,k] 26,.blk h [.pointer none,.slice none 0 0] 129]) ?_ ?_
 ·skip
  refine zB fun cr ag=>zA<| zG (mX rfl)<| Ld jI H 4 0 rfl rfl ?_
  obtain ⟨ah,ai,c⟩:=zC c
  obtain ⟨ct,cu,aj⟩:=SlF.len ((H.item (i:=0) rfl))
  refine zG (yK (xH u22 aj) (congrArg (Value.int .i64) ai))<| zH (i6 0)<| RN ag<| yD ?_
  unfold Fgp at c
  obtain ⟨ak,D,al,c⟩:=yS c
  refine xC [7,20,21,22,23,24,25,26,27,28] (fun (g:Nat)=>[(20,i6 0)]) (fun g wl=>Hd O w wl S [f1 Rp.str v1 j.Phases,f1 gU v2 j.Moves,f1 gZ k j.Rules,.fz (.at 0 0 ((Fl.arr 7 Fl.str).f zM)),.blk o [v1,v2,k] 26,.blk h [.pointer none,.slice none 0 0] 129]∧fU ak g ()=some ae) (fun g=>g) D (zJ rfl zK) ⟨H.pick [0,1,2,3,4,5],c⟩ ?_
  clear H c
  rintro D ρ cv ⟨H,c⟩
  obtain ⟨cw,rfl,c⟩:=yX c
  have c:=yY al c
  refine zB fun cx am=>zA ?_
  obtain ⟨cy,an,c⟩:=zC c
  refine zG (zL (xN (a:=0) (b:=ah) rfl rfl) an)<| RN am<| zB fun cz c0=>?_
  obtain ⟨ao,c⟩:=wF c
  refine dA ao ?_
  obtain rfl:=gJ c
  exact (xG (yI (yI (yT (zF (meet ⟨(),zK,H.pick [0,1,2,3,4,5]⟩))))))
 rintro _ ρ c1 H
 have c:=af
 obtain ⟨ap,c,aq⟩:=zD c
 refine yH [9,29,30,31,32,33,34,35,36,37,38,39,40,41,42,43,44,45,46,47,48,49,50] (fun (g:Unit)=>[]) (fun g wl=>Hd O w wl S [f1 Rp.str v1 j.Phases,f1 gU v2 j.Moves,f1 gZ k j.Rules,.fz (.at 0 0 ((Fl.arr 7 Fl.str).f zM)),.blk o [v1,v2,k] 26,.blk h [.pointer none,.slice none 0 0] 129]) ?_ ?_
 ·skip
  refine zB fun c2 ar=>zA<| zG (aEk rfl)<| Ld aNd H 4 1 rfl rfl ?_
  obtain ⟨au,av,c⟩:=zC c
  obtain ⟨c3,c4,aw⟩:=SlF.len ((H.item (i:=1) rfl))
  refine zG (yK (xH u23 aw) (congrArg (Value.int .i64) av))<| zH (i6 0)<| RN ar<| yD ?_
  unfold Fgm at c
  obtain ⟨ax,F,ay,c⟩:=yS c
  refine xC [9,32,33,34,35,36,37,38,39,40,41,42,43,44,45,46,47,48,49,50] (fun (g:Nat)=>[(32,i6 0)]) (fun g wl=>Hd O w wl S [f1 Rp.str v1 j.Phases,f1 gU v2 j.Moves,f1 gZ k j.Rules,.fz (.at 0 0 ((Fl.arr 7 Fl.str).f zM)),.blk o [v1,v2,k] 26,.blk h [.pointer none,.slice none 0 0] 129]∧fU ax g ()=some ap) (fun g=>g) F (zJ rfl zK) ⟨H.pick [0,1,2,3,4,5],c⟩ ?_
  clear H c
  rintro F ρ c5 ⟨H,c⟩
  obtain ⟨c6,rfl,c⟩:=yX c
  have c:=yY ay c
  refine zB fun c7 az=>zA ?_
  obtain ⟨c8,a0,c⟩:=zC c
  refine zG (zL (xN (a:=0) (b:=au) rfl rfl) a0)<| RN az<| zB fun c9 da=>?_
  obtain ⟨a1,c⟩:=wF c
  refine dA a1 ?_
  obtain rfl:=gJ c
  exact (xG (yI (yI (yT (zF (meet ⟨(),zK,H.pick [0,1,2,3,4,5]⟩))))))
 rintro _ ρ db H
 have c:=aq
 obtain ⟨t,c,a2⟩:=zD c
 refine yH [11,51,52,53,54,55,56,57,58,59,60,61,62,63,64,65,66,67,68] (fun (g:Value×Value)=>[]) (fun g wl=>Hd O w wl S [.fz (.at 0 0 ((Fl.arr 7 Fl.str).f zM)),.blk h [g.1,g.2] 129,.fz (.oq g.1 h),.own (Rp.int .u8) g.2 5 t]) ?_ ?_
 ·skip
  refine zB fun dc a3=>zA<| zG (mP rfl)<| Ld sK H 4 2 rfl rfl ?_
  obtain ⟨a4,a5,c⟩:=zC c
  obtain ⟨dd,de,a6⟩:=SlF.len ((H.item (i:=2) rfl))
  refine zG (yK (xH u24 a6) (congrArg (Value.int .i64) a5))<| zH (i6 0)<| RN a3<| yD ?_
  have H:=H.fz (.oq (.pointer none) h) (.inl rfl)
  have H:=bW H (Rp.int .u8) 5
  unfold Fg1 at c
  obtain ⟨a7,G,a8,c⟩:=yS c
  refine xC [11,54,55,56,57,58,59,60,61,62,63,64,65,66,67,68] (fun (g:Nat×Int×(List Int)×Value×Value)=>[(54,i6 g.2.1)]) (fun g wl=>Hd O w wl S [f1 gZ k j.Rules,.fz (.at 0 0 ((Fl.arr 7 Fl.str).f zM)),.blk h [g.2.2.2.1,g.2.2.2.2] 129,.fz (.oq g.2.2.2.1 h),.own (Rp.int .u8) g.2.2.2.2 5 g.2.2.1]∧fU a7 g.1 (g.2.1,g.2.2.1)=some t) (fun g=>g.1) (G,0,[],.pointer none,.slice none 0 0) (zJ rfl zK) ⟨H.pick [2,3,5,6,7],c⟩ ?_
  clear H c
  rintro ⟨G,p,a9,u,I⟩ ρ df ⟨H,c⟩
  obtain ⟨ba,rfl,c⟩:=yX c
  have c:=yY a8 c
  refine zB fun dg bb=>zA ?_
  obtain ⟨bc,bd,c⟩:=zC c
  refine zG (zL (xN (a:=p) (b:=a4) rfl rfl) bd)<| RN bb<| zB fun dh be=>zZ (b:=bc) rfl (fun x=>?_) (fun x=>?_)
  ·have c:=zN x c
   refine zW (zF (be _ _ ?_))
   refine zB fun di bf=>?_
   refine yD ?_
   refine zB fun dj bg=>zA ?_
   obtain ⟨d,y,c⟩:=zD c
   obtain ⟨J,K,dk,dl,bh,bi,bj,bk,bl⟩:=dC (H.item (i:=0) rfl) y
   obtain ⟨m,rfl,bm⟩:=jS bi
   have H:=H.fzs [.at J (K+p.toNat * 8) _,.sl fA m d.When.Kids] ⟨⟨bj,bk,bl⟩,bm,trivial⟩
   refine zG (xA u24 qP bh rfl (zX y).1 (zX y).2.1 rfl rfl)<| zG (yK (yJ (cs:=[sb d.Name,i6 d.When.Kind,sb d.When.Name,sb d.When.Other,i6 d.When.Op,i6 d.When.N,i6 d.When.Frames,m]) aEb rfl qP rfl (H.item (i:=5) rfl).2.2) rfl)<| yR rfl rfl (xB aBk H) ?_
   rintro _ dm ⟨bn,rfl,H⟩
   refine yV rfl (yP (vs:=[sb d.Name,i6 d.When.Kind,sb d.When.Name,sb d.When.Other,i6 d.When.Op,i6 d.When.N,i6 d.When.Frames,m]) H 7 rfl qP rfl rfl rfl ⟨rfl,rfl,rfl,rfl,rfl,rfl,rfl,(wK (H.item (i:=6) rfl)),trivial⟩ rfl) ?_
   rintro dn H
   refine RN bg ?_
   have bo:=H
   have H:=H.rebase
   have dp:=H
   refine xX H [0,1,2,3,4,5,6,7,8,9] (kz [0,1,0,0,0,1,1,0,0,3]) mixed ?_
   refine XP (fun _ _=>vP rfl)<| XR dU H 7 0 rfl rfl ?_
   obtain ⟨bp,bq,c⟩:=zD c
   refine XP (fun _ _=>jV (s1:=[114,117,108,101,32]) (s2:=d.Name) rfl rfl bq) ?_
   obtain ⟨br,bt,c⟩:=zD c
   refine XP (fun _ _=>jV (s1:=bp) (s2:=[32,105,102,32]) rfl rfl bt)<| XP (fun _ _=>vW rfl)<| MxM.xZ oS rfl rfl rfl (fun n l=>yK (yJ (cs:=[i6 d.When.Kind,sb d.When.Name,sb d.When.Other,i6 d.When.Op,i6 d.When.N,i6 d.When.Frames,m]) dB rfl eX rfl (Cells.drop (Blk.cells ((H.sees l).item (i:=7) rfl)) 1 7)) rfl) ?_
   have bu:=H
   obtain ⟨L,bv,c⟩:=zD c
   refine MxM.XL_call oS rfl rfl rfl (v:=sb L) (fun n l=>zV en69 rfl) (fun n l=>bD (Fg4 d.When 0 m _ bv _ _ _ ((H.sees l).enter [] [6,1]))) ?_
   have H:=bu
   obtain ⟨bw,bx,c⟩:=zD c
   refine XP (fun _ _=>jV (s1:=br) (s2:=L) rfl rfl bx) ?_
   obtain ⟨bz,b0,c⟩:=zD c
   refine XP (fun _ _=>jV (s1:=bw) (s2:=[10]) rfl rfl b0) ?_
   obtain ⟨⟨dq,dr,M⟩,b1,c⟩:=zD c
   refine MxM.XL_effC oS rfl rfl rfl (fun n l=>zV en68 rfl) (fun n l=>Ffmw a9 bz h u I _ b1 _ _ _ ((H.sees l).enter [4,2] [3])) ?_
   rintro n _ b2 l ⟨z,A,rfl,b3⟩
   have H:Hd _ _ b2 _ [f1 gZ k j.Rules,.fz (.at 0 0 ((Fl.arr 7 Fl.str).f zM)),.fz (.oq u h),.fz (.at J (K+p.toNat * 8) [sb d.Name,i6 d.When.Kind,sb d.When.Name,sb d.When.Other,i6 d.When.Op,i6 d.When.N,i6 d.When.Frames,m]),f1 fA m d.When.Kids,.blk bn [sb d.Name,i6 d.When.Kind,sb d.When.Name,sb d.When.Other,i6 d.When.Op,i6 d.When.N,i6 d.When.Frames,m] 95,.fz (.oq z h),.own (Rp.int .u8) A 5 M,.blk h [z,A] 129]:=(H.sees l).back [4,2] [3] rfl b3
   refine ⟨_,rfl,H.only,?_⟩
   refine MxM.xE fun ds hS=>?_
   have H:=H.sees hS
   have H:=bo.rejoin H
   refine yL (zF (bf _ _ ?_))
   refine zA ?_
   obtain ⟨P,b4,c⟩:=zC c
   refine zG (xI (a:=p) (b:=1) rfl rfl b4)<| zH (i6 P) ?_
   exact (yA (zF (meet ⟨(ba,P,M,z,A),(zJ rfl zK),⟨H.pick [0,1,8,6,7],c⟩,Nat.lt_succ_self _⟩)))
  have c:=zO x c
  obtain rfl:=gJ c
  exact (xG (yI (yI (yT (zF (meet ⟨(u,I),zK,H.pick [1,2,3,4]⟩))))))
 rintro ⟨B,b5⟩ ρ dt H
 have c:=a2
 refine zB fun du b6=>?_
 refine zB fun dv b7=>zA ?_
 obtain ⟨⟨b8,Q⟩,b9,c⟩:=zD c
 refine yB rfl rfl (zV en70 rfl) (Ffzw t h B b5 _ b9 _ _ _ (H.enter [3,1] [2])) ?_
 rintro _ ca ⟨q,C,rfl,cb⟩
 have H:Hd _ _ ca _ [.fz (.at 0 0 ((Fl.arr 7 Fl.str).f zM)),.fz (.oq B h),.fz (.oq q h),.own (Rp.int .u8) C 5 Q,.blk h [q,C] 129]:=H.back [3,1] [2] rfl cb
 refine ⟨_,rfl,?_⟩
 obtain ⟨dw,cc,c⟩:=zC c
 refine zG (zL (bZ (a:=b8) (b:=200000) rfl rfl) cc)<| RN b7 ?_
 obtain ⟨cd,c⟩:=wF c
 refine dA cd ?_
 refine zW (zF (b6 _ _ ?_))
 refine zB fun dx ce=>zA ?_
 obtain ⟨R,cf,c⟩:=zD c
 refine yB rfl rfl (zV en71 rfl) (E.Fd9w Q h q C _ cf _ _ _ (H.enter [3,4] [2])) ?_
 rintro _ cg ⟨rfl,ch⟩
 have H:Hd _ _ cg _ [.fz (.at 0 0 ((Fl.arr 7 Fl.str).f zM)),.fz (.oq B h),.fz (.oq q h)]:=H.back [3,4] [2] rfl ch
 refine ⟨_,rfl,?_⟩
 refine zI (sb R)<| zI (i6 0)<| RN ce ?_
 obtain rfl:=gJ c
 refine (zY (pM (v1:=sb R) (v2:=i6 0) rfl rfl rfl ?_))
 exact ⟨rfl,H.pick []⟩
theorem Fblw (r:Bool)(c:Fbl=some r)(O S:List Nat)(w:World)(H:Hd O w w S [.fz (.at 0 0 ((Fl.arr 7 Fl.str).f zM)),.fz (.gi 4)]):
  Cl 20 [] w fun e q=>e= .returned (.bool r)∧Hd O w q S []:=by
 unfold Fbl at c
 refine CW 26 Tryz.func20 ?_
 refine zB fun N s=>zA<| zI (.bool false)<| RN s<| zB fun P t=>zA ?_
 obtain ⟨⟨n,o,k⟩,u,c⟩:=zD c
 refine yB rfl rfl (zV en18 rfl) (Fd3w [114,117,108,101,32,97,32,105,102,32,110,111,116,32,32,40,120,32,62,49,32,111,114,32,116,114,117,101,41] _ u _ _ _ (H.enter [] [0,1])) ?_
 rintro _ Q ⟨d,h,j,rfl,x⟩
 have H:=H.back1 [0,1] rfl x
 refine ⟨_,rfl,?_⟩
 refine zH (.tuple #[.agg [d,h,j].toArray,i6 o,i6 k])<| zG (xR (v:= .agg [d,h,j].toArray) rfl rfl)<| zG (xR (v:=i6 o) rfl rfl)<| zG (xR (v:=i6 k) rfl rfl)<| yR rfl rfl (xB zero26 H) ?_
 rintro _ R ⟨y,rfl,H⟩
 refine yV rfl (yP (vs:=[d,h,j]) H 5 rfl rZ rfl rfl rfl ⟨(wK (H.item (i:=2) rfl)),(wK (H.item (i:=3) rfl)),(wK (H.item (i:=4) rfl)),trivial⟩ rfl) ?_
 rintro T H
 refine zI (i6 o)<| zI (i6 k)<| RN t<| zB fun U z=>zA<| zG (yK (yJ (cs:=[d,h,j]) mZ rfl rZ rfl (Hbc H 5 rfl)) rfl) ?_
 have A:=H
 obtain ⟨⟨l,m⟩,B,c⟩:=zD c
 refine yB rfl rfl (zV en21 rfl) (Ffnw n d h j _ B _ _ _ (H.enter [] [2,3,4,0])) ?_
 rintro _ V ⟨rfl,C⟩
 have H:=A.step (C.only:Only [] _ _)
 refine ⟨_,rfl,?_⟩
 refine zH (.tuple #[sb l,i6 m])<| zG (xR (v:=sb l) rfl rfl)<| zG (xR (v:=i6 m) rfl rfl)<| zI (sb l)<| zI (i6 m)<| RN z<| zB fun X D=>zA<| zH (i6 k) ?_
 obtain ⟨Y,E,c⟩:=zC c
 refine zG (zL (yQ (a:=k) (b:=0) rfl rfl) E) ?_
 obtain ⟨F,c,G⟩:=zD c
 refine dL 4 [18,19,20,21] [(21,.bool F)] (fun wl=>Hd O w wl S [.fz (.at 0 0 ((Fl.arr 7 Fl.str).f zM)),.fz (.gi 4),f1 Rp.str d n.Phases,f1 gU h n.Moves,f1 gZ j n.Rules,.blk y [d,h,j] 26]) ?_ ?_
 ·skip
  obtain ⟨I,c⟩:=jZ c
  refine aKb true I ?_
  refine zH (i6 m) ?_
  obtain ⟨J,K,c⟩:=zC c
  refine zG (zL (yQ (a:=m) (b:=0) rfl rfl) K)<| zG (yG (v:= .bool J) rfl rfl) ?_
  obtain rfl:=gJ c
  exact yA (zF (meet ⟨(zJ rfl zK),H.pick [0,1,2,3,4,5]⟩))
 rintro ρ Z H
 have c:=G
 obtain ⟨L,c⟩:=jZ c
 refine aKb true L ?_
 refine zH (sb l) ?_
 obtain ⟨p,M,c⟩:=zC c
 refine zG (zL (wH (s1:=l) (s2:=[114,117,108,101,32,97,32,105,102,32,110,111,116,32,40,120,32,62,32,49,32,111,114,32,116,114,117,101,41,10]) rfl rfl) M)<| zG (yG (v:= .bool p) rfl rfl)<| zI (.bool p)<| RN D ?_
 obtain rfl:=gJ c
 refine (zY (fB (v1:= .bool p) rfl rfl ?_))
 exact ⟨rfl,H.pick []⟩
abbrev Feq (f:Cond→(List (Str×Int))→Option Int):Prop:= ∀(p0:Cond) (p1:List (Str×Int)) (v1:Value) (b3:Nat) (r:Int) (_:f p0 p1=some r) (O S:List Nat) (w:World) (_:Hd O w w S [f1 fA v1 p0.Kids,.fz (.mp b3 (gY Ky.str (fun v=>Value.int .i64 v) p1))]),
  Cl 97 [.agg [i6 p0.Kind,sb p0.Name,sb p0.Other,i6 p0.Op,i6 p0.N,i6 p0.Frames,v1].toArray,.map (some b3)] w fun e w'=>e= .returned (i6 r)∧Hd O w w' S []
set_option maxRecDepth 100000 in
theorem Fb0w (rfL:Cond→(List (Str×Int))→Option Int)(rhL:Feq rfL)(d:Cond)(l:List (Str×Int))(v1:Value)(h:Nat)(r:Int)(c:Fb0 rfL d l=some r)(O S:List Nat)(w:World)(H:Hd O w w S [f1 fA v1 d.Kids,.fz (.mp h (gY Ky.str (fun v=>Value.int .i64 v) l))]):
  Cl 97 [.agg [i6 d.Kind,sb d.Name,sb d.Other,i6 d.Op,i6 d.N,i6 d.Frames,v1].toArray,.map (some h)] w fun e w'=>e= .returned (i6 r)∧Hd O w w' S []:=by
 unfold Fb0 at c
 refine CW 58 Tryz.func97 ?_
 refine zB fun K5 ak=>zA<| yR rfl rfl (xW (cs:=[i6 d.Kind,sb d.Name,sb d.Other,i6 d.Op,i6 d.N,i6 d.Frames,v1]) rfl H) ?_
 rintro _ w8 ⟨o,rfl,H⟩
 refine zI (i6 0)<| RN ak<| zB fun K9 al=>zA<| zI (i6 0)<| RN al ?_
 obtain ⟨am,an,c⟩:=wJ c
 refine yH [4,5,7,8,9,10,11,12,13,14,15,16,17,18,19,20,21,22,23,24] (fun (g:Int)=>[(5,i6 g)]) (fun g wl=>Hd O w wl S [f1 fA v1 d.Kids,.fz (.mp h (gY Ky.str (fun v=>Value.int .i64 v) l)),.blk o [i6 d.Kind,sb d.Name,sb d.Other,i6 d.Op,i6 d.N,i6 d.Frames,v1] 70]∧am g=some r) ?_ ?_
 ·skip
  refine zB fun cw ao=>zA<| zG (pW rfl)<| Ld vJ H 2 6 rfl rfl ?_
  obtain ⟨ap,aq,c⟩:=zC c
  obtain ⟨cx,cy,ar⟩:=SlF.len ((H.item (i:=0) rfl))
  refine zG (yK (xH u68 ar) (congrArg (Value.int .i64) aq))<| zH (i6 0)<| RN ao<| yD ?_
  unfold Feo at c
  obtain ⟨au,Q,av,c⟩:=yS c
  refine xC [4,5,7,8,12,13,14,15,16,17,18,19,20,21,22,23,24] (fun (g:Nat×Int×Int)=>[(5,i6 g.2.1),(12,i6 g.2.2)]) (fun g wl=>Hd O w wl S [f1 fA v1 d.Kids,.fz (.mp h (gY Ky.str (fun v=>Value.int .i64 v) l)),.blk o [i6 d.Kind,sb d.Name,sb d.Other,i6 d.Op,i6 d.N,i6 d.Frames,v1] 70]∧fU au g.1 (g.2.1,g.2.2)=some r) (fun g=>g.1) (Q,0,0) (zJ rfl (zJ rfl zK)) ⟨H.pick [0,1,2],c⟩ ?_
  clear H c
  rintro ⟨Q,t,u⟩ ρ cz ⟨H,c⟩
  obtain ⟨aw,rfl,c⟩:=yX c
  have c:=yY av c
  refine zB fun c0 ax=>zA ?_
  obtain ⟨ay,az,c⟩:=zC c
  refine zG (zL (xN (a:=u) (b:=ap) rfl rfl) az)<| RN ax<| zB fun c1 a0=>zZ (b:=ay) rfl (fun x=>?_) (fun x=>?_)
  ·have c:=zN x c
   refine zW (zF (a0 _ _ ?_))
   refine zB fun c2 a1=>?_
   refine yD ?_
   refine zB fun c3 a2=>zA ?_
   obtain ⟨f,y,c⟩:=zD c
   obtain ⟨a3,a4,c4,c5,a5,a6,a7,a8,a9⟩:=dC (H.item (i:=0) rfl) y
   obtain ⟨p,rfl,ba⟩:=dZ a6
   have H:=H.fzs [.at a3 (a4+u.toNat * 7) _,.sl fA p f.Kids] ⟨⟨a7,a8,a9⟩,ba,trivial⟩
   refine zG (xA u68 eX a5 rfl (zX y).1 (zX y).2.1 rfl rfl)<| zG (yK (yJ (cs:=[i6 f.Kind,sb f.Name,sb f.Other,i6 f.Op,i6 f.N,i6 f.Frames,p]) dB rfl eX rfl (H.item (i:=3) rfl).2.2) rfl)<| yR rfl rfl (xB aO H) ?_
   rintro _ c6 ⟨c7,rfl,H⟩
   refine yV rfl (yP (vs:=[i6 f.Kind,sb f.Name,sb f.Other,i6 f.Op,i6 f.N,i6 f.Frames,p]) H 5 rfl eX rfl rfl rfl ⟨rfl,rfl,rfl,rfl,rfl,rfl,(wK (H.item (i:=4) rfl)),trivial⟩ rfl) ?_
   rintro c8 H
   refine RN a2<| zB fun c9 bb=>zA<| zG (yK (yJ (cs:=[i6 f.Kind,sb f.Name,sb f.Other,i6 f.Op,i6 f.N,i6 f.Frames,p]) dB rfl eX rfl (Hbc H 5 rfl)) rfl)<| zH (.map (some h)) ?_
   have bc:=H
   obtain ⟨s,bd,c⟩:=zD c
   refine yB rfl rfl (zV en97 rfl) (rhL f l p h _ bd _ _ _ (H.enter [] [4,1])) ?_
   rintro _ da ⟨rfl,be⟩
   have H:=bc.step (be.only:Only [] _ _)
   refine ⟨_,rfl,?_⟩
   refine zI (i6 s)<| RN bb<| zB fun db bf=>zB fun dc bg=>zA<| zH (i6 s) ?_
   obtain ⟨bh,bi,c⟩:=zC c
   refine zG (zL (xN (a:=s) (b:=0) rfl rfl) bi)<| RN bg<| zZ (b:=bh) rfl (fun z=>?_) (fun z=>?_)
   ·have c:=zN z c
    refine zB fun dd bj=>zA<| zI (i6 (-1))<| RN bj ?_
    obtain rfl:=gJ c
    refine (zY (zT (yC (zT (zT (yC (zT (fB (v1:=i6 (-1)) rfl rfl ?_))))))))
    exact ⟨rfl,H.pick []⟩
   have c:=zO z c
   refine zW (zF (bf _ _ ?_))
   refine zA ?_
   refine zH (i6 t)<| zH (i6 s) ?_
   obtain ⟨R,bk,c⟩:=zC c
   refine zG (aNq (j:=t) (q:=s) rfl rfl bk)<| zI (i6 R)<| (yA (yL (zF (a1 _ _ ?_))))
   refine zA ?_
   obtain ⟨T,bl,c⟩:=zC c
   refine zG (xI (a:=u) (b:=1) rfl rfl bl)<| zH (i6 T) ?_
   exact (yA (zF (meet ⟨(aw,R,T),(zJ rfl (zJ rfl zK)),⟨H.pick [0,1,2],c⟩,Nat.lt_succ_self _⟩)))
  have c:=zO x c
  exact (xG (yI (yI (yT (zF (meet ⟨t,(zJ rfl zK),⟨H.pick [0,1,2],c⟩⟩))))))
 rintro n ρ de ⟨H,c⟩
 have c:=wM an c
 refine zB fun df bm=>?_
 refine zB fun dg bn=>zA<| zG (mY rfl)<| Ld fK H 2 0 rfl rfl<| RN bn<| yD<| zB fun dh bo=>zA ?_
 obtain ⟨U,bp,c⟩:=zC c
 refine zG (zL (yQ (a:=d.Kind) (b:=5) rfl rfl) bp)<| zI (.bool U)<| RN bo<| zZ (b:=U) rfl (fun A=>?_) (fun A=>?_)
 ·have c:=zN A c
  refine zB fun di bq=>zA<| zG (pX rfl)<| Ld fK H 2 5 rfl rfl<| zI (i6 d.Frames)<| RN bq ?_
  obtain rfl:=gJ c
  refine (zY (yC (zT (fB (v1:=i6 d.Frames) rfl rfl ?_))))
  exact ⟨rfl,H.pick []⟩
 have c:=zO A c
 obtain ⟨V,c,br⟩:=zD c
 refine yH [31,32,33] (fun (g:Unit)=>[(31,.bool V)]) (fun g wl=>Hd O w wl S [f1 fA v1 d.Kids,.fz (.mp h (gY Ky.str (fun v=>Value.int .i64 v) l)),.blk o [i6 d.Kind,sb d.Name,sb d.Other,i6 d.Op,i6 d.N,i6 d.Frames,v1] 70]) ?_ ?_
 ·skip
  refine zB fun dj bt=>zA ?_
  obtain ⟨X,bu,c⟩:=zC c
  refine zG (zL (yQ (a:=d.Kind) (b:=6) rfl rfl) bu)<| zI (.bool X)<| RN bt<| zZ (b:=X) rfl (fun B=>?_) (fun B=>?_)
  ·have c:=zN B c
   obtain rfl:=gJ c
   exact (zW (zF (meet ⟨(),(zJ rfl zK),H.pick [0,1,2]⟩)))
  have c:=zO B c
  refine zA ?_
  obtain ⟨bv,bw,c⟩:=zC c
  refine zG (zL (yQ (a:=d.Kind) (b:=14) rfl rfl) bw)<| zI (.bool bv) ?_
  obtain rfl:=gJ c
  exact (yA (zF (meet ⟨(),(zJ rfl zK),H.pick [0,1,2]⟩)))
 rintro _ ρ bx H
 have c:=br
 refine zZ (b:=V) rfl (fun C=>?_) (fun C=>?_)
 ·have c:=zN C c
  refine zB fun dk bz=>zA<| zI (i6 (-1))<| RN bz ?_
  obtain rfl:=gJ c
  refine (zY (yC (zT (fB (v1:=i6 (-1)) rfl rfl ?_))))
  exact ⟨rfl,H.pick []⟩
 have c:=zO C c
 refine zB fun dl b0=>zA ?_
 obtain ⟨Y,b1,c⟩:=zC c
 refine zG (zL (yQ (a:=d.Kind) (b:=7) rfl rfl) b1)<| zI (.bool Y)<| RN b0<| zZ (b:=Y) rfl (fun D=>?_) (fun D=>?_)
 ·have c:=zN D c
  refine zB fun dm b2=>zA<| zH (.map (some h))<| zG (jU rfl)<| Ld dU H 2 1 rfl rfl ?_
  obtain ⟨Z,b3,c⟩:=zC c
  refine zG (yK (aOg (K:=Ky.str) (G:=(fun v=>Value.int .i64 v)) (m:=l) (k:=d.Name) (zv:=0) (H.item (i:=1) rfl) aGq u9 rfl rfl (Tryz.zeroValue3 bx)) (congrArg (fun v=>Value.int .i64 v) b3))<| zI (i6 Z)<| RN b2 ?_
  obtain rfl:=gJ c
  refine (zY (yC (zT (fB (v1:=i6 Z) rfl rfl ?_))))
  exact ⟨rfl,H.pick []⟩
 have c:=zO D c
 obtain ⟨aa,c,b4⟩:=zD c
 refine yH [40,41,42,43] (fun (g:Unit)=>[(40,.bool aa)]) (fun g wl=>Hd O w wl S [f1 fA v1 d.Kids,.blk o [i6 d.Kind,sb d.Name,sb d.Other,i6 d.Op,i6 d.N,i6 d.Frames,v1] 70]) ?_ ?_
 ·skip
  refine zB fun dn b5=>zA ?_
  obtain ⟨ab,b6,c⟩:=zC c
  refine zG (zL (yQ (a:=d.Kind) (b:=8) rfl rfl) b6)<| zI (.bool ab)<| RN b5<| zZ (b:=ab) rfl (fun E=>?_) (fun E=>?_)
  ·have c:=zN E c
   obtain rfl:=gJ c
   exact (zW (zF (meet ⟨(),(zJ rfl zK),H.pick [0,2]⟩)))
  have c:=zO E c
  refine zB fun dp b7=>zA ?_
  obtain ⟨ac,b8,c⟩:=zC c
  refine zG (zL (yQ (a:=d.Kind) (b:=9) rfl rfl) b8)<| zI (.bool ac)<| RN b7<| zZ (b:=ac) rfl (fun F=>?_) (fun F=>?_)
  ·have c:=zN F c
   obtain rfl:=gJ c
   exact (zW (zF (meet ⟨(),(zJ rfl zK),H.pick [0,2]⟩)))
  have c:=zO F c
  refine zA ?_
  obtain ⟨b9,ca,c⟩:=zC c
  refine zG (zL (yQ (a:=d.Kind) (b:=10) rfl rfl) ca)<| zI (.bool b9) ?_
  obtain rfl:=gJ c
  exact (yA (zF (meet ⟨(),(zJ rfl zK),H.pick [0,2]⟩)))
 rintro _ ρ dq H
 have c:=b4
 refine zZ (b:=aa) rfl (fun I=>?_) (fun I=>?_)
 ·have c:=zN I c
  refine zB fun dr cb=>zA<| zH (i6 n)<| zI (i6 n)<| RN cb ?_
  obtain rfl:=gJ c
  refine (zY (yC (zT (fB (v1:=i6 n) rfl rfl ?_))))
  exact ⟨rfl,H.pick []⟩
 have c:=zO I c
 obtain ⟨ad,c,cc⟩:=zD c
 refine yH [45,46,47,48] (fun (g:Unit)=>[(45,.bool ad)]) (fun g wl=>Hd O w wl S [f1 fA v1 d.Kids,.blk o [i6 d.Kind,sb d.Name,sb d.Other,i6 d.Op,i6 d.N,i6 d.Frames,v1] 70]) ?_ ?_
 ·skip
  refine zB fun ds cd=>zA ?_
  obtain ⟨ae,ce,c⟩:=zC c
  refine zG (zL (yQ (a:=d.Kind) (b:=11) rfl rfl) ce)<| zI (.bool ae)<| RN cd<| zZ (b:=ae) rfl (fun J=>?_) (fun J=>?_)
  ·have c:=zN J c
   obtain rfl:=gJ c
   exact (zW (zF (meet ⟨(),(zJ rfl zK),H.pick [0,1]⟩)))
  have c:=zO J c
  refine zB fun dt cf=>zA ?_
  obtain ⟨af,cg,c⟩:=zC c
  refine zG (zL (yQ (a:=d.Kind) (b:=12) rfl rfl) cg)<| zI (.bool af)<| RN cf<| zZ (b:=af) rfl (fun L=>?_) (fun L=>?_)
  ·have c:=zN L c
   obtain rfl:=gJ c
   exact (zW (zF (meet ⟨(),(zJ rfl zK),H.pick [0,1]⟩)))
  have c:=zO L c
  refine zA ?_
  obtain ⟨ch,ci,c⟩:=zC c
  refine zG (zL (yQ (a:=d.Kind) (b:=13) rfl rfl) ci)<| zI (.bool ch) ?_
  obtain rfl:=gJ c
  exact (yA (zF (meet ⟨(),(zJ rfl zK),H.pick [0,1]⟩)))
 rintro _ ρ du H
 have c:=cc
 refine zZ (b:=ad) rfl (fun M=>?_) (fun M=>?_)
 ·have c:=zN M c
  refine zB fun dv cj=>zA<| zH (i6 n)<| zG (pX rfl)<| Ld fK H 1 5 rfl rfl ?_
  obtain ⟨ck,cl,c⟩:=zC c
  refine zG (xI (a:=n) (b:=d.Frames) rfl rfl cl) ?_
  obtain ⟨ag,cm,c⟩:=zC c
  refine zG (bY (a:=ck) (b:=1) rfl rfl cm)<| zI (i6 ag)<| RN cj ?_
  obtain rfl:=gJ c
  refine (zY (yC (zT (fB (v1:=i6 ag) rfl rfl ?_))))
  exact ⟨rfl,H.pick []⟩
 have c:=zO M c
 refine zB fun dw cn=>zA ?_
 obtain ⟨ah,co,c⟩:=zC c
 refine zG (zL (yQ (a:=d.Kind) (b:=15) rfl rfl) co)<| zI (.bool ah)<| RN cn<| zZ (b:=ah) rfl (fun P=>?_) (fun P=>?_)
 ·have c:=zN P c
  refine zB fun dx cp=>zA<| zH (i6 n) ?_
  obtain ⟨ai,cq,c⟩:=zC c
  refine zG (xI (a:=n) (b:=1) rfl rfl cq)<| zI (i6 ai)<| RN cp ?_
  obtain rfl:=gJ c
  refine (zY (yC (zT (fB (v1:=i6 ai) rfl rfl ?_))))
  exact ⟨rfl,H.pick []⟩
 have c:=zO P c
 refine (zW (yL (zF (bm _ _ ?_))))
 refine zB fun dy cr=>zA<| zI (i6 1)<| RN cr ?_
 obtain rfl:=gJ c
 refine (zY (fB (v1:=i6 1) rfl rfl ?_))
 exact ⟨rfl,H.pick []⟩
theorem Fg5:Feq (Ffa):=by
 have h: ∀n,Feq (Fbu n):=by
  intro n
  induction n with
  | zero=>intro b c d e r a; cases a
  | succ n ih=>intro b c d e r a; exact Fb0w (Fbu n) ih b c d e r a
 exact h FU
theorem Fa2w (h:Rules)(v1:Value)(v2:Value)(j:Value)(r:(List Int)×Int)(c:Fa2 h=some r)(O S:List Nat)(w:World)(H:Hd O w w S [f1 Rp.str v1 h.Phases,f1 gU v2 h.Moves,f1 gZ j h.Rules]):
  Cl 36 [.agg [v1,v2,j].toArray] w fun e l=> ∃z,e= .returned (.tuple #[z,i6 r.2])∧Hd O w l S [.own (Rp.int .i64) z 3 r.1]:=by
 unfold Fa2 at c
 refine CW 38 Tryz.func36 ?_
 refine zB fun K8 L=>zA<| yR rfl rfl (xW (cs:=[v1,v2,j]) rfl H) ?_
 rintro _ bc ⟨b9,rfl,H⟩
 refine zI (.slice none 0 0)<| zI (i6 0)<| RN L<| zB fun be M=>zB fun bf P=>zA<| zG (yK (yJ (cs:=[v1,v2,j]) mZ rfl rZ rfl (Hbc H 3 rfl)) rfl) ?_
 have Q:=H
 obtain ⟨n,R,c⟩:=zD c
 refine yB rfl rfl (zV en31 rfl) (Fayw h v1 v2 j _ R _ _ _ (H.enter [] [0,1,2])) ?_
 rintro _ bg ⟨rfl,T⟩
 have H:=Q.step (T.only:Only [] _ _)
 refine ⟨_,rfl,?_⟩
 refine zI (i6 n)<| RN P<| zB fun bh U=>zA<| zH (i6 n) ?_
 obtain ⟨V,X,c⟩:=zC c
 refine zG (zL (wI (a:=n) (b:=0) rfl rfl) X)<| RN U<| zZ (b:=V) rfl (fun t=>?_) (fun t=>?_)
 ·have c:=zN t c
  refine zB fun bi Y=>zA<| zH (i6 n)<| zI (.slice none 0 0)<| zI (i6 n)<| RN Y ?_
  have H:=bW H (Rp.int .i64) 3
  obtain rfl:=gJ c
  refine (zY (zT (pM (v1:= .slice none 0 0) (v2:=i6 n) rfl rfl rfl ?_)))
  exact ⟨.slice none 0 0,rfl,H.pick [4]⟩
 have c:=zO t c
 refine zW (zF (M _ _ ?_))
 refine zB fun bj Z=>zA<| zI (.slice none 0 0)<| RN Z<| zB fun bk aa=>zA<| yR rfl rfl (aFe H) ?_
 rintro _ bl ⟨o,rfl,H⟩
 refine zI (.map (some o))<| RN aa ?_
 obtain ⟨A,c,ab⟩:=zD c
 refine yH [5,8,15,16,17,18,19,20,21,22,23,24,25,26,27,28,29,30,31,32,33,34,35,36] (fun (g:Value)=>[(5,g)]) (fun g wl=>Hd O w wl S [.own (Rp.int .i64) g 3 A]) ?_ ?_
 ·skip
  refine zB fun bm ac=>zA<| zG (mP rfl)<| Ld sK H 3 2 rfl rfl ?_
  obtain ⟨ad,ae,c⟩:=zC c
  obtain ⟨bn,bo,af⟩:=SlF.len ((H.item (i:=2) rfl))
  refine zG (yK (xH u24 af) (congrArg (Value.int .i64) ae))<| zH (i6 0)<| RN ac<| yD ?_
  have H:=bW H (Rp.int .i64) 3
  unfold Fdb at c
  obtain ⟨ag,B,ah,c⟩:=yS c
  refine xC [5,8,18,19,20,21,22,23,24,25,26,27,28,29,30,31,32,33,34,35,36] (fun (g:Nat×(List Int)×Int×(List (Str×Int))×Value)=>[(5,g.2.2.2.2),(18,i6 g.2.2.1)]) (fun g wl=>Hd O w wl S [.own (Rp.int .i64) g.2.2.2.2 3 g.2.1,f1 gZ j h.Rules,.mp o (gY Ky.str (fun v=>Value.int .i64 v) g.2.2.2.1)]∧fU ag g.1 (g.2.1,g.2.2.1,g.2.2.2.1)=some A) (fun g=>g.1) (B,[],0,([]:List (Str×Int)),.slice none 0 0) (zJ rfl (zJ rfl zK)) ⟨H.pick [5,2,4],c⟩ ?_
  clear H c
  rintro ⟨B,bp,u,C,D⟩ ρ bq ⟨H,c⟩
  obtain ⟨ai,rfl,c⟩:=yX c
  have c:=yY ah c
  refine zB fun br aj=>zA ?_
  obtain ⟨ak,al,c⟩:=zC c
  refine zG (zL (xN (a:=u) (b:=ad) rfl rfl) al)<| RN aj<| zB fun bt am=>zZ (b:=ak) rfl (fun x=>?_) (fun x=>?_)
  ·have c:=zN x c
   refine zW (zF (am _ _ ?_))
   refine zB fun bu an=>?_
   refine yD ?_
   refine zB fun bv ao=>zA ?_
   obtain ⟨d,y,c⟩:=zD c
   obtain ⟨ap,aq,bw,bx,ar,au,av,aw,ax⟩:=dC (H.item (i:=1) rfl) y
   obtain ⟨p,rfl,ay⟩:=jS au
   have H:=H.fzs [.at ap (aq+u.toNat * 8) _,.sl fA p d.When.Kids] ⟨⟨av,aw,ax⟩,ay,trivial⟩
   refine zG (xA u24 qP ar rfl (zX y).1 (zX y).2.1 rfl rfl)<| zG (yK (yJ (cs:=[sb d.Name,i6 d.When.Kind,sb d.When.Name,sb d.When.Other,i6 d.When.Op,i6 d.When.N,i6 d.When.Frames,p]) aEb rfl qP rfl (H.item (i:=3) rfl).2.2) rfl)<| yR rfl rfl (xB aBk H) ?_
   rintro _ bz ⟨b0,rfl,H⟩
   refine yV rfl (yP (vs:=[sb d.Name,i6 d.When.Kind,sb d.When.Name,sb d.When.Other,i6 d.When.Op,i6 d.When.N,i6 d.When.Frames,p]) H 5 rfl qP rfl rfl rfl ⟨rfl,rfl,rfl,rfl,rfl,rfl,rfl,(wK (H.item (i:=4) rfl)),trivial⟩ rfl) ?_
   rintro b1 H
   refine RN ao<| zB fun b2 az=>?_
   have a0:=H
   have H:=H.rebase
   have b3:=H
   refine xX H [0,1,2,3,4,5,6,7] (kz [0,0,1,0,1,0,1,3]) mixed ?_
   refine XM (.map (some o))<| XP (fun _ _=>vP rfl)<| XR dU H 5 0 rfl rfl<| XP (fun _ _=>vW rfl)<| MxM.xZ oS rfl rfl rfl (fun l f=>yK (yJ (cs:=[i6 d.When.Kind,sb d.When.Name,sb d.When.Other,i6 d.When.Op,i6 d.When.N,i6 d.When.Frames,p]) dB rfl eX rfl (Cells.drop (Blk.cells ((H.sees f).item (i:=5) rfl)) 1 7)) rfl)<| XM (.map (some o)) ?_
   have a1:=H
   have H:=H.freezeM (i:=2) rfl
   obtain ⟨E,a2,c⟩:=zD c
   refine MxM.XL_call oS rfl rfl rfl (v:=i6 E) (fun l f=>zV en97 rfl) (fun l f=>bD (Fg5 d.When C p o _ a2 _ _ _ ((H.sees f).enter [] [4,2]))) ?_
   have H:=a1
   obtain ⟨F,a3,c⟩:=zC c
   refine MxM.XL_exU oS rfl rfl (fun l f=>aBl (K:=Ky.str) (G:=(fun v=>Value.int .i64 v)) (m:=C) (k:=d.Name) (v:=E) (H.sees f) 2 rfl aGq u9 rfl rfl rfl a3) ?_
   rintro l b4 f H
   refine ⟨H.only,?_⟩
   refine MxM.xE fun a4 hS=>?_
   have H:=H.sees hS
   have H:=a0.rejoin H
   refine (zF (az _ _ ?_))
   refine zA ?_
   refine zH D<| zH (.map (some o))<| zG (vP rfl)<| Ld dU H 5 0 rfl rfl ?_
   obtain ⟨q,a5,c⟩:=zC c
   refine zG (yK (jQ (K:=Ky.str) (G:=(fun v=>Value.int .i64 v)) (m:=F) (k:=d.Name) (zv:=0) (H.item (i:=2) rfl) aGq u9 rfl rfl (Tryz.zeroValue3 a4)) (congrArg (fun v=>Value.int .i64 v) a5)) ?_
   obtain ⟨b5,a6,c⟩:=zC c
   subst a6
   refine yR rfl rfl (kT (r:=(Rp.int .i64)) (xl:=[q]) (cs:=[i6 q]) u38 el3 (by decide) (by decide) rfl (xJ (vs:=[i6 q]) (by decide) rfl rfl ⟨rfl,trivial⟩ rfl) H ⟨[i6 q],[],rfl,rfl,rfl⟩) ?_
   rintro b6 b7 H
   obtain ⟨a7,a8,c⟩:=zD c
   refine yR rfl rfl (kL H (i:=0) rfl u38 el3 rfl rfl (Sr.of_own (H.item (i:=6) rfl)) a8) ?_
   rintro I b8 H
   refine zI I<| (yA (yL (zF (an _ _ ?_))))
   refine zA ?_
   obtain ⟨J,a9,c⟩:=zC c
   refine zG (xI (a:=u) (b:=1) rfl rfl a9)<| zH (i6 J) ?_
   exact (yA (zF (meet ⟨(ai,a7,J,F,I),(zJ rfl (zJ rfl zK)),⟨H.pick [0,1,2],c⟩,Nat.lt_succ_self _⟩)))
  have c:=zO x c
  obtain rfl:=gJ c
  exact (xG (yI (yI (yT (zF (meet ⟨D,(zJ rfl zK),H.pick [0]⟩))))))
 rintro s ρ w246 H
 have c:=ab
 refine zB fun ca ba=>zA<| zH s<| zI s<| zI (i6 0)<| RN ba ?_
 obtain rfl:=gJ c
 refine (zY (pM (v1:=s) (v2:=i6 0) rfl rfl rfl ?_))
 exact ⟨s,rfl,H.pick [0]⟩
end Go.Proofs.YtckmiljbaejijaaGreatDoor.L
