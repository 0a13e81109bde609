/- Walks: what each function computes, for every argument; no condition but those that stand in the statements. -/
import Derived.Test.YtckmiljbaejijaaGreatDoorUV0
import Derived.Test.YtckmiljbaejijaaGreatDoorUV7
import Derived.Test.YtckmiljbaejijaaGreatDoorUV8
import Derived.Test.YtckmiljbaejijaaGreatDoorUV2
namespace Go.Proofs.YtckmiljbaejijaaGreatDoor.L
open Go.RowKit Go.OB Go.Lf
set_option maxHeartbeats 4000000
theorem Fffw (k:gB)(h:Nat)(v2:Value)(v3:Value)(v4:Value)(r:gB)(c:Fff k=some r)(O S:List Nat)(w:World)(H:Hd O w w S [.own Rp.str v2 9 k.r.Phases,.own gX v3 122 k.r.Moves,.own fB v4 95 k.r.Rules,.blk h [sb k.text,i6 k.at_,i6 k.now.kind,i6 k.now.at_,i6 k.now.n,sb k.now.text,v2,v3,v4] 109,.fz (.at 0 0 ((Fl.arr 7 Fl.str).f zM)),.fz (.gi 4)]):
  Cl 59 [gV h] w fun e y=> ∃au av aw,e= .returned (.tuple #[])∧Hd O w y S [.own Rp.str au 9 r.r.Phases,.own gX av 122 r.r.Moves,.own fB aw 95 r.r.Rules,.blk h [sb r.text,i6 r.at_,i6 r.now.kind,i6 r.now.at_,i6 r.now.n,sb r.now.text,au,av,aw] 109]:=by
 unfold Fff at c
 refine CW 81 Tryz.func59 ?_
 obtain ⟨t,c,a6⟩:=zC c
 refine yK [4,5,6,7,8,9,10,11,12,13,14,15,16,17,18,19,20,21,22] (fun (g:Value×Value×Value)=>[]) (fun g wl=>Hd O w wl S [.blk h [sb t.1,i6 t.2.1,i6 t.2.2.1,i6 t.2.2.2.1,i6 t.2.2.2.2.1,sb t.2.2.2.2.2.1,g.1,g.2.1,g.2.2] 109,.own Rp.str g.1 9 t.2.2.2.2.2.2.1,.own gX g.2.1 122 t.2.2.2.2.2.2.2.1,.own fB g.2.2 95 t.2.2.2.2.2.2.2.2,.fz (.at 0 0 ((Fl.arr 7 Fl.str).f zM)),.fz (.gi 4)]) ?_ ?_
 ·skip
  refine zB fun cv a7=>zA<| zH (gV h) ?_
  obtain ⟨j,a8,c⟩:=zC c
  refine zZ rfl rfl (zS aGe rfl) (aOh (gB.mk k.text k.at_ (gW.mk k.now.kind k.now.at_ k.now.n k.now.text) (Rules.mk k.r.Phases k.r.Moves k.r.Rules)) h v2 v3 v4 _ a8 _ _ _ (H.enter [0,1,2,3] [5])) ?_
  rintro _ a9 ⟨K,L,M,rfl,ba⟩
  have H:Hd _ _ a9 _ [.fz (.at 0 0 ((Fl.arr 7 Fl.str).f zM)),.fz (.gi 4),.own Rp.str K 9 j.r.Phases,.own gX L 122 j.r.Moves,.own fB M 95 j.r.Rules,.blk h [sb j.text,i6 j.at_,i6 j.now.kind,i6 j.now.at_,i6 j.now.n,sb j.now.text,K,L,M] 109]:=H.back [0,1,2,3] [5] rfl ba
  refine ⟨_,rfl,?_⟩
  refine RN a7<| yD ?_
  unfold Ff6 at c
  obtain ⟨bb,ax,bc,c⟩:=yT c
  refine xB [6,7,8,9,10,11,12,13,14,15,16,17,18,19,20,21,22] (fun (g:Nat)=>[]) (fun g wl=>Hd O w wl S [.fz (.at 0 0 ((Fl.arr 7 Fl.str).f zM)),.fz (.gi 4),.own Rp.str K 9 j.r.Phases,.own gX L 122 j.r.Moves,.own fB M 95 j.r.Rules,.blk h [sb j.text,i6 j.at_,i6 j.now.kind,i6 j.now.at_,i6 j.now.n,sb j.now.text,K,L,M] 109]∧fV bb g ()=some t) (fun g=>g) ax zK ⟨H.pick [0,1,2,3,4,5],c⟩ ?_
  clear H c
  rintro ax ρ cw ⟨H,c⟩
  obtain ⟨cx,rfl,c⟩:=yZ c
  have c:=yY bc c
  refine zB fun cy cz=>?_
  refine zB fun c0 bd=>zA<| zH (gV h) ?_
  have be:=H
  have H:=H.freezeB (i:=5) rfl
  have H:=H.freeze (i:=2) rfl
  have H:=H.freeze (i:=3) rfl
  have H:=H.freeze (i:=4) rfl
  have H:=H.fz (.pt dM (some ⟨h,0,none⟩) (some j)) ⟨_,_,_,rfl,(H.item (i:=5) rfl).1,(H.item (i:=5) rfl).2.1,(bG (x:=j) (H.item (i:=2) rfl) (H.item (i:=3) rfl) (H.item (i:=4) rfl)),(H.item (i:=5) rfl).2.2⟩
  obtain ⟨c1,bf,c⟩:=zC c
  refine zZ rfl rfl (zS aFn rfl) (aPg (some j) [112,104,97,115,101] (some ⟨h,0,none⟩) _ bf _ _ _ (H.enter [] [6])) ?_
  rintro _ c2 ⟨rfl,bg⟩
  have H:=be.step (bg.only:Only [] _ _)
  refine ⟨_,rfl,?_⟩
  refine RN bd ?_
  obtain ⟨bh,c⟩:=xX c
  refine dB bh ?_
  obtain rfl:=gI c
  exact (xI (yI (yI (yV (zF (meet ⟨(K,L,M),zK,H.pick [5,2,3,4,0,1]⟩))))))
 rintro ⟨P,Q,R⟩ ρ c3 H
 have c:=a6
 obtain ⟨A,B,C,D,E,F,G,I,J⟩:=t
 obtain ⟨bi,c,bj⟩:=zC c
 refine yK [2,23,24,25,26,27,28,29,30,31,32,33,34,35,36,37,38,39,40,41,42,43,44,45,46,47,48] (fun (g:Unit)=>[]) (fun g wl=>Hd O w wl S [.blk h [sb A,i6 B,i6 C,i6 D,i6 E,sb F,P,Q,R] 109,.own Rp.str P 9 G,.own gX Q 122 I,.own fB R 95 J,.fz (.at 0 0 ((Fl.arr 7 Fl.str).f zM)),.fz (.gi 4)]) ?_ ?_
 ·skip
  refine yD ?_
  unfold Ff9 at c
  obtain ⟨bk,ay,bl,c⟩:=yT c
  refine xB [2,23,24,25,26,27,28,29,30,31,32,33,34,35,36,37,38,39,40,41,42,43,44,45,46,47,48] (fun (g:Nat)=>[]) (fun g wl=>Hd O w wl S [.blk h [sb A,i6 B,i6 C,i6 D,i6 E,sb F,P,Q,R] 109,.own Rp.str P 9 G,.own gX Q 122 I,.own fB R 95 J,.fz (.at 0 0 ((Fl.arr 7 Fl.str).f zM)),.fz (.gi 4)]∧fV bk g ()=some bi) (fun g=>g) ay zK ⟨H.pick [0,1,2,3,4,5],c⟩ ?_
  clear H c
  rintro ay ρ c4 ⟨H,c⟩
  obtain ⟨c5,rfl,c⟩:=yZ c
  have c:=yY bl c
  refine zB fun c6 c7=>?_
  refine zB fun c8 bm=>zA<| zH (gV h) ?_
  have bn:=H
  have H:=H.freezeB (i:=0) rfl
  have H:=H.freeze (i:=1) rfl
  have H:=H.freeze (i:=2) rfl
  have H:=H.freeze (i:=3) rfl
  have H:=H.fz (.pt dM (some ⟨h,0,none⟩) (some (gB.mk A B (gW.mk C D E F) (Rules.mk G I J)))) ⟨_,_,_,rfl,(H.item (i:=0) rfl).1,(H.item (i:=0) rfl).2.1,(bG (x:=gB.mk A B (gW.mk C D E F) (Rules.mk G I J)) (H.item (i:=1) rfl) (H.item (i:=2) rfl) (H.item (i:=3) rfl)),(H.item (i:=0) rfl).2.2⟩
  obtain ⟨c9,bo,c⟩:=zC c
  refine zZ rfl rfl (zS aFn rfl) (aPg (some (gB.mk A B (gW.mk C D E F) (Rules.mk G I J))) [109,111,118,101] (some ⟨h,0,none⟩) _ bo _ _ _ (H.enter [] [6])) ?_
  rintro _ da ⟨rfl,bp⟩
  have H:=bn.step (bp.only:Only [] _ _)
  refine ⟨_,rfl,?_⟩
  refine RN bm ?_
  obtain ⟨bq,c⟩:=xX c
  refine dB bq ?_
  obtain rfl:=gI c
  exact (xI (yI (yI (yV (zF (meet ⟨(),zK,H.pick [0,1,2,3,4,5]⟩))))))
 rintro _ ρ db H
 have c:=bj
 obtain ⟨u,c,br⟩:=zC c
 refine yK [3,49,50,51,52,53,54,55,56,57,58,59,60,61,62,63,64,65,66,67,68,69,70,71,72] (fun (g:Value×Value×Value)=>[]) (fun g wl=>Hd O w wl S [.blk h [sb u.1,i6 u.2.1,i6 u.2.2.1,i6 u.2.2.2.1,i6 u.2.2.2.2.1,sb u.2.2.2.2.2.1,g.1,g.2.1,g.2.2] 109,.own Rp.str g.1 9 u.2.2.2.2.2.2.1,.own gX g.2.1 122 u.2.2.2.2.2.2.2.1,.own fB g.2.2 95 u.2.2.2.2.2.2.2.2,.fz (.at 0 0 ((Fl.arr 7 Fl.str).f zM)),.fz (.gi 4)]) ?_ ?_
 ·skip
  refine yD ?_
  unfold Ff3 at c
  obtain ⟨bt,az,bu,c⟩:=yT c
  refine xB [3,49,50,51,52,53,54,55,56,57,58,59,60,61,62,63,64,65,66,67,68,69,70,71,72] (fun (g:Nat×Str×Int×Int×Int×Int×Str×(List Str)×(List aF)×(List dH)×Value×Value×Value)=>[]) (fun g wl=>Hd O w wl S [.blk h [sb g.2.1,i6 g.2.2.1,i6 g.2.2.2.1,i6 g.2.2.2.2.1,i6 g.2.2.2.2.2.1,sb g.2.2.2.2.2.2.1,g.2.2.2.2.2.2.2.2.2.2.1,g.2.2.2.2.2.2.2.2.2.2.2.1,g.2.2.2.2.2.2.2.2.2.2.2.2] 109,.own Rp.str g.2.2.2.2.2.2.2.2.2.2.1 9 g.2.2.2.2.2.2.2.1,.own gX g.2.2.2.2.2.2.2.2.2.2.2.1 122 g.2.2.2.2.2.2.2.2.1,.own fB g.2.2.2.2.2.2.2.2.2.2.2.2 95 g.2.2.2.2.2.2.2.2.2.1,.fz (.at 0 0 ((Fl.arr 7 Fl.str).f zM)),.fz (.gi 4)]∧fV bt g.1 (g.2.1,g.2.2.1,g.2.2.2.1,g.2.2.2.2.1,g.2.2.2.2.2.1,g.2.2.2.2.2.2.1,g.2.2.2.2.2.2.2.1,g.2.2.2.2.2.2.2.2.1,g.2.2.2.2.2.2.2.2.2.1)=some u) (fun g=>g.1) (az,A,B,C,D,E,F,G,I,J,P,Q,R) zK ⟨H.pick [0,1,2,3,4,5],c⟩ ?_
  clear H c
  rintro ⟨az,T,U,V,X,Y,Z,aa,ab,ac,a0,a1,a2⟩ ρ dc ⟨H,c⟩
  obtain ⟨bv,rfl,c⟩:=yZ c
  have c:=yY bu c
  refine zB fun dd bw=>?_
  refine zB fun de bx=>zA<| zH (gV h) ?_
  have bz:=H
  have H:=H.freezeB (i:=0) rfl
  have H:=H.freeze (i:=1) rfl
  have H:=H.freeze (i:=2) rfl
  have H:=H.freeze (i:=3) rfl
  have H:=H.fz (.pt dM (some ⟨h,0,none⟩) (some (gB.mk T U (gW.mk V X Y Z) (Rules.mk aa ab ac)))) ⟨_,_,_,rfl,(H.item (i:=0) rfl).1,(H.item (i:=0) rfl).2.1,(bG (x:=gB.mk T U (gW.mk V X Y Z) (Rules.mk aa ab ac)) (H.item (i:=1) rfl) (H.item (i:=2) rfl) (H.item (i:=3) rfl)),(H.item (i:=0) rfl).2.2⟩
  obtain ⟨b0,b1,c⟩:=zC c
  refine zZ rfl rfl (zS aFn rfl) (aPg (some (gB.mk T U (gW.mk V X Y Z) (Rules.mk aa ab ac))) [114,117,108,101] (some ⟨h,0,none⟩) _ b1 _ _ _ (H.enter [] [6])) ?_
  rintro _ df ⟨rfl,b2⟩
  have H:=bz.step (b2.only:Only [] _ _)
  refine ⟨_,rfl,?_⟩
  refine RN bx<| zY (b:=b0) rfl (fun ag=>?_) (fun ag=>?_)
  ·have c:=zO ag c
   refine zX (zF (bw _ _ ?_))
   refine yD ?_
   refine zB fun dg b3=>zA<| zH (gV h) ?_
   obtain ⟨l,b4,c⟩:=zC c
   refine zZ rfl rfl (zS aGe rfl) (aOh (gB.mk T U (gW.mk V X Y Z) (Rules.mk aa ab ac)) h a0 a1 a2 _ b4 _ _ _ (H.enter [1,2,3,0] [5])) ?_
   rintro _ b5 ⟨ah,ai,aj,rfl,b6⟩
   have H:Hd _ _ b5 _ [.fz (.at 0 0 ((Fl.arr 7 Fl.str).f zM)),.fz (.gi 4),.own Rp.str ah 9 l.r.Phases,.own gX ai 122 l.r.Moves,.own fB aj 95 l.r.Rules,.blk h [sb l.text,i6 l.at_,i6 l.now.kind,i6 l.now.at_,i6 l.now.n,sb l.now.text,ah,ai,aj] 109]:=H.back [1,2,3,0] [5] rfl b6
   refine ⟨_,rfl,?_⟩
   refine RN b3<| zB fun dh b7=>zA<| zH (gV h) ?_
   obtain ⟨⟨s,m⟩,b8,c⟩:=zC c
   refine zZ rfl rfl (zS en122 rfl) (Fdzw (gB.mk l.text l.at_ (gW.mk l.now.kind l.now.at_ l.now.n l.now.text) (Rules.mk l.r.Phases l.r.Moves l.r.Rules)) h ah ai aj _ b8 _ _ _ (H.enter [2,3,4,5] [1])) ?_
   rintro _ b9 ⟨ak,al,am,rfl,ca⟩
   have H:Hd _ _ b9 _ [.fz (.at 0 0 ((Fl.arr 7 Fl.str).f zM)),.fz (.gi 4),.own Rp.str ak 9 m.r.Phases,.own gX al 122 m.r.Moves,.own fB am 95 m.r.Rules,.blk h [sb m.text,i6 m.at_,i6 m.now.kind,i6 m.now.at_,i6 m.now.n,sb m.now.text,ak,al,am] 109]:=H.back [2,3,4,5] [1] rfl ca
   refine ⟨_,rfl,?_⟩
   refine zG (xJ (cs:=[sb s,i6 0,.string (bs []),.string (bs []),i6 0,i6 0,i6 0,.slice none 0 0]) (bt95_0 _))<| yQ rfl rfl (xA aFb H) ?_
   rintro _ di ⟨a3,rfl,H⟩
   refine yP rfl (yL (vs:=[sb s,i6 0,.string (bs []),.string (bs []),i6 0,i6 0,i6 0,.slice none 0 0]) H 6 rfl rZ rfl rfl rfl ⟨rfl,rfl,rfl,rfl,rfl,rfl,rfl,rfl,trivial⟩ rfl) ?_
   rintro dj H
   refine RN b7<| zB fun dk cb=>zA<| zH (gV h) ?_
   obtain ⟨o,cc,c⟩:=zC c
   refine zZ rfl rfl (zS en123 rfl) (Fd7w (gB.mk m.text m.at_ (gW.mk m.now.kind m.now.at_ m.now.n m.now.text) (Rules.mk m.r.Phases m.r.Moves m.r.Rules)) [105,102] h ak al am _ cc _ _ _ (H.enter [2,3,4,5] [1])) ?_
   rintro _ cd ⟨an,ao,ap,rfl,ce⟩
   have H:Hd _ _ cd _ [.fz (.at 0 0 ((Fl.arr 7 Fl.str).f zM)),.fz (.gi 4),.blk a3 [sb s,i6 0,.string (bs []),.string (bs []),i6 0,i6 0,i6 0,.slice none 0 0] 95,.own Rp.str an 9 o.r.Phases,.own gX ao 122 o.r.Moves,.own fB ap 95 o.r.Rules,.blk h [sb o.text,i6 o.at_,i6 o.now.kind,i6 o.now.at_,i6 o.now.n,sb o.now.text,an,ao,ap] 109]:=H.back [2,3,4,5] [1] rfl ce
   refine ⟨_,rfl,?_⟩
   refine RN cb<| zB fun dl cf=>zA<| zH (gV h) ?_
   obtain ⟨⟨d,p⟩,cg,c⟩:=zC c
   refine zZ rfl rfl (zS en124 rfl) (Fgo (gB.mk o.text o.at_ (gW.mk o.now.kind o.now.at_ o.now.n o.now.text) (Rules.mk o.r.Phases o.r.Moves o.r.Rules)) 0 h an ao ap _ cg _ _ _ (H.enter [3,4,5,6] [0,1])) ?_
   rintro _ ch ⟨z,aq,ar,a4,rfl,ci⟩
   have H:Hd _ _ ch _ [.fz (.at 0 0 ((Fl.arr 7 Fl.str).f zM)),.fz (.gi 4),.blk a3 [sb s,i6 0,.string (bs []),.string (bs []),i6 0,i6 0,i6 0,.slice none 0 0] 95,f1 fA z d.Kids,.own Rp.str aq 9 p.r.Phases,.own gX ar 122 p.r.Moves,.own fB a4 95 p.r.Rules,.blk h [sb p.text,i6 p.at_,i6 p.now.kind,i6 p.now.at_,i6 p.now.n,sb p.now.text,aq,ar,a4] 109]:=H.back [3,4,5,6] [0,1] rfl ci
   refine ⟨_,rfl,?_⟩
   refine zG (vY rfl)<| yP rfl (yL (vs:=[i6 d.Kind,sb d.Name,sb d.Other,i6 d.Op,i6 d.N,i6 d.Frames,z]) H 2 rfl fZ rfl rfl rfl ⟨rfl,rfl,rfl,rfl,rfl,rfl,(xY (H.item (i:=3) rfl)),trivial⟩ rfl) ?_
   rintro dm H
   refine RN cf ?_
   have cj:=H
   have H:=H.rebase
   have dn:=H
   refine xU H [0,1,2,3,4,5,6,7,8,9,10,11,12] (kz [0,0,0,0,0,1,1,2,3,0,0,0,3]) mixed ?_
   refine XM (gV h)<| XM (gV h)<| XP (fun _ _=>zN rfl)<| XP (fun _ _=>aDn rfl)<| XP (fun _ _=>kY rfl)<| XR rJ H 7 8 rfl rfl<| MxM.wJ oS rfl rfl rfl (fun y q=>yJ (yF (cs:=[sb s,i6 d.Kind,sb d.Name,sb d.Other,i6 d.Op,i6 d.N,i6 d.Frames,z]) aHe rfl rZ rfl (Blk.cells ((H.sees q).item (i:=2) rfl))) rfl) ?_
   obtain ⟨dp,ck,c⟩:=zD c
   subst ck
   refine MxM.XL_exN oS rfl rfl rfl (fun y q=>pY (aX (r:=fB) (xl:=[dH.mk s d]) (cs:=[sb s,i6 d.Kind,sb d.Name,sb d.Other,i6 d.Op,i6 d.N,i6 d.Frames,z]) u24 el95 (by decide) (by decide) rfl (xH (vs:=[.agg [sb s,i6 d.Kind,sb d.Name,sb d.Other,i6 d.Op,i6 d.N,i6 d.Frames,z].toArray]) (by decide) rfl rfl ⟨rfl,trivial⟩ rfl) (H.sees q) ⟨[sb s,i6 d.Kind,sb d.Name,sb d.Other,i6 d.Op,i6 d.N,i6 d.Frames,z],[],rfl,(aLk (x:=dH.mk s d) ((H.sees q).item (i:=3) rfl)),rfl⟩) (aHx (cs:=[sb s,i6 d.Kind,sb d.Name,sb d.Other,i6 d.Op,i6 d.N,i6 d.Frames,z]) u24 el95 (by decide) (by decide) (xH (vs:=[.agg [sb s,i6 d.Kind,sb d.Name,sb d.Other,i6 d.Op,i6 d.N,i6 d.Frames,z].toArray]) (by decide) rfl rfl ⟨rfl,trivial⟩ rfl))) ?_
   rintro y dq dr q H
   obtain ⟨cl,cm,c⟩:=zC c
   refine MxM.XL_ex oS rfl rfl rfl (fun y q=>aJ (H.sees q) (i:=6) rfl u24 el95 rfl rfl (Sr.of_own ((H.sees q).item (i:=8) rfl)) cm) ?_
   rintro y a5 ds q H
   refine ⟨H.only,?_⟩
   refine XP (fun _ _=>zN rfl)<| XP (fun _ _=>aDn rfl)<| XP (fun _ _=>kY rfl)<| MxM.XL_exU oS rfl rfl (fun y q=>xE (H.sees q) 7 rfl sz24 rfl (v:=a5) rfl (bC ((H.sees q).item (i:=6) rfl)) rfl) ?_
   rintro y dt q H
   refine ⟨H.only,?_⟩
   refine MxM.xK fun du hS=>?_
   have H:=H.sees hS
   have H:=cj.rejoin H
   exact (yH (zF (meet ⟨(bv,p.text,p.at_,p.now.kind,p.now.at_,p.now.n,p.now.text,p.r.Phases,p.r.Moves,cl,aq,ar,a5),zK,⟨H.pick [7,4,5,6,0,1],c⟩,Nat.lt_succ_self _⟩)))
  have c:=zQ ag c
  obtain rfl:=gI c
  exact (xI (yI (yI (yV (zF (meet ⟨(a0,a1,a2),zK,H.pick [0,1,2,3,4,5]⟩))))))
 rintro ⟨cn,co,cp⟩ ρ dv H
 have c:=br
 obtain ⟨dw,dx,cq,dy,dz,d0,d1,d2,d3⟩:=u
 refine zB fun d4 cr=>zA<| zH (gV h)<| zG (zN rfl)<| zG (dX rfl)<| zG (kQ rfl)<| Ld fM H 0 2 rfl rfl ?_
 obtain ⟨d5,ct,c⟩:=zD c
 refine zG (zL (dC (a:=cq) (b:=0) rfl rfl) ct)<| RN cr ?_
 obtain ⟨cu,c⟩:=xX c
 refine dB cu ?_
 obtain rfl:=gI c
 refine (zX (nJ rfl ?_))
 exact ⟨cn,co,cp,rfl,H.pick [1,2,3,0]⟩
theorem aLs (b:Nat)(w:World):CallsD Tryz.prog 119 #[gV b] .returning w fun e u' a=>e= .returned (.tuple #[])∧u'= .returning∧a=w:=by
 refine callsD_of_wpS Tryz.func119 rfl fun c₀ cs hu=>?_
 apply wpS_seq
 apply wpS_region
 simp [wpOpsS,go_sem,recoverD,hu,Tryz.ntmps119,Exit.thenS]
 apply wpS_seq
 apply wpS_region
 simp [wpOpsS,go_sem,Exit.thenS,Act.eval,Array.replicate]
 refine wpS_cond (t:=false) (by simp [Act.eval,Array.replicate]) ?_
 simp only [Bool.false_eq_true,if_false]
 refine wpS_of_wp (wp_skip ?_)
 cases c₀
 simp_all [bodyPostS,results,Tryz.results119]
theorem en59c:Go.OB.Enters Tryz.prog 59:=⟨_,Tryz.func59,rfl,by kernel_rfl⟩
theorem zero111c:Go.OB.Zero Tryz.prog 111 ([i6 0,i6 0]):=by unfold Go.OB.Zero; kernel_rfl
theorem sz111c:Sz Tryz.prog 111 2:=by unfold Sz; kernel_rfl
theorem agg111c:Agg Tryz.prog 111:=by unfold Agg; kernel_rfl
theorem bz111c:Tryz.prog.built 111 []=some ([i6 0,i6 0]:List Value).toArray:=by kernel_rfl
theorem Ffvw (a:gB)(b:Nat)(j:Value)(k:Value)(l:Value)(r:aEf×gB)(c:Ffv a=some r)(O S:List Nat)(w:World)(H:Hd O w w S [.own Rp.str j 9 a.r.Phases,.own gX k 122 a.r.Moves,.own fB l 95 a.r.Rules,.blk b [sb a.text,i6 a.at_,i6 a.now.kind,i6 a.now.at_,i6 a.now.n,sb a.now.text,j,k,l] 109,.fz (.at 0 0 ((Fl.arr 7 Fl.str).f zM)),.fz (.gi 4)]):
  Cl 58 [.func (.func 59) #[gV b] #[]] w fun e o=> ∃d h i,e= .returned (.agg [i6 r.1.at_,i6 r.1.e].toArray)∧Hd O w o S [.own Rp.str d 9 r.2.r.Phases,.own gX h 122 r.2.r.Moves,.own fB i 95 r.2.r.Rules,.blk b [sb r.2.text,i6 r.2.at_,i6 r.2.now.kind,i6 r.2.now.at_,i6 r.2.now.n,sb r.2.now.text,d,h,i] 109]:=by
 unfold Ffv at c
 obtain ⟨x,e,c⟩:=zC c
 have hr:=Option.some.inj c
 subst hr
 refine aJb 7 Tryz.func58 rfl rfl rfl ?_
 refine aDi ?_
 refine sH ?_
 refine RLD_ex rfl rfl (xA zero111c H) ?_
 rintro _ p ⟨m,rfl,H⟩
 refine aDm ?_
 refine aDi ?_
 refine sH ?_
 refine aJu rfl rfl (dV rfl) ?_
 refine RLD_defer (x:={target:= .fn (.func 119) #[gV m],args:= #[]}) rfl (run_defer (cap:=[_]) (us:=[]) rfl rfl) ?_
 refine aDm ?_
 refine aDi ?_
 refine sH ?_
 refine aJu rfl rfl (aW (v:= .func (.func 59) #[gV b] #[]) rfl) ?_
 refine RLD_call rfl rfl (DoC_bnd en59c rfl rfl) (Fffw a b j k l _ e _ _ _ (H.enter [0,1,2,3] [4,5])) ?_
 rintro _ q ⟨d,h,i,rfl,G⟩
 have H:=H.back [0,1,2,3] [4,5] rfl G
 refine ⟨_,rfl,?_⟩
 refine aDm ?_
 refine aDi ?_
 refine sH ?_
 refine aJu rfl rfl (xJ (cs:=[i6 0,i6 0]) bz111c) ?_
 refine RLD_exU rfl (yL (vs:=[i6 0,i6 0]) H 2 rfl sz111c rfl rfl rfl ⟨rfl,rfl,trivial⟩ rfl) ?_
 rintro s H
 refine aDm ?_
 refine WPD_ret ?_
 intro tmps ht
 refine leaves_cons (f:=119) (args:= #[gV m]) (by simp) (by simp [go_sem]) ?_
 refine (aLs m _).mono ?_
 rintro e u' t ⟨rfl,rfl,rfl⟩
 refine aQd (fn:=_) rfl ht (jV rfl rfl (yN agg111c sz111c rfl (Hbc H 2 rfl)) ?_)
 exact ⟨d,h,i,rfl,H.pick [3,4,5,6]⟩
theorem Fesw (h:Str)(r:Rules×Int×Int)(c:Fes h=some r)(O S:List Nat)(w:World)(H:Hd O w w S [.fz (.at 0 0 ((Fl.arr 7 Fl.str).f zM)),.fz (.gi 4)]):
  Cl 18 [sb h] w fun e q=> ∃u3 u4 u5,e= .returned (.tuple #[.agg [u3,u4,u5].toArray,i6 r.2.1,i6 r.2.2])∧Hd O w q S [f1 Rp.str u3 r.1.Phases,f1 gX u4 r.1.Moves,f1 fB u5 r.1.Rules]:=by
 unfold Fes at c
 refine CW 39 Tryz.func18 ?_
 refine zB fun X s=>zA<| yQ rfl rfl (xA zero26 H) ?_
 rintro _ Y ⟨t,rfl,H⟩
 refine zI (i6 0)<| zI (i6 0)<| RN s<| zB fun Z u=>zB fun aa v=>zA<| zH (sb h) ?_
 obtain ⟨x,y,c⟩:=zD c
 refine zG (yJ (kP (s1:=h) u9 rfl) (congrArg (Value.int .i64) y)) ?_
 obtain ⟨ab,z,c⟩:=zD c
 refine zG (zL (aI (a:=x) (b:=200000) rfl rfl) z)<| RN v ?_
 obtain ⟨A,c⟩:=xX c
 refine dB A ?_
 refine zX (zF (u _ _ ?_))
 refine zB fun ac B=>zA<| zH (sb h)<| zG (xJ (cs:=[sb h,i6 0,i6 0,i6 0,i6 0,.string (bs []),.slice none 0 0,.slice none 0 0,.slice none 0 0]) (bt109_0 _))<| yQ rfl rfl (xR (cs:=[sb h,i6 0,i6 0,i6 0,i6 0,.string (bs []),.slice none 0 0,.slice none 0 0,.slice none 0 0]) rfl H) ?_
 rintro _ ad ⟨m,rfl,H⟩
 refine zI (gV m)<| RN B<| zB fun ae C=>zB fun af D=>zA<| zH (gV m)<| zG (aIr rfl) ?_
 have H:=bY H Rp.str 9
 have H:=bY H gX 122
 have H:=bY H fB 95
 obtain ⟨⟨o,d⟩,E,c⟩:=zC c
 refine zZ rfl rfl (zS en58 rfl) (Ffvw (gB.mk h 0 (gW.mk 0 0 0 []) (Rules.mk [] [] [])) m (.slice none 0 0) (.slice none 0 0) (.slice none 0 0) _ E _ _ _ (H.enter [4,5,6,3] [0,1])) ?_
 rintro _ F ⟨j,k,l,rfl,G⟩
 have H:Hd _ _ F _ [.fz (.at 0 0 ((Fl.arr 7 Fl.str).f zM)),.fz (.gi 4),.blk t [.slice none 0 0,.slice none 0 0,.slice none 0 0] 26,.own Rp.str j 9 d.r.Phases,.own gX k 122 d.r.Moves,.own fB l 95 d.r.Rules,.blk m [sb d.text,i6 d.at_,i6 d.now.kind,i6 d.now.at_,i6 d.now.n,sb d.now.text,j,k,l] 109]:=H.back [4,5,6,3] [0,1] rfl G
 refine ⟨_,rfl,?_⟩
 refine yQ rfl rfl (xA zero111 H) ?_
 rintro _ ag ⟨ah,rfl,H⟩
 refine yP rfl (yL (vs:=[i6 o.at_,i6 o.e]) H 7 rfl sz111 rfl rfl rfl ⟨rfl,rfl,trivial⟩ rfl) ?_
 rintro ai H
 refine RN D<| zB fun aj I=>zA<| zG (fa111_1 rfl)<| Ld one30 H 7 1 rfl rfl ?_
 obtain ⟨ak,J,c⟩:=zD c
 refine zG (zL (dC (a:=o.e) (b:=0) rfl rfl) J)<| RN I ?_
 obtain ⟨K,c⟩:=xX c
 refine dB K ?_
 refine zX (zF (C _ _ ?_))
 refine zB fun al L=>?_
 refine zB fun am M=>zA<| zH (gV m)<| zG (zN rfl)<| zG (aDn rfl)<| zG (yJ (yF (cs:=[j,k,l]) qM rfl uV rfl (Cells.drop (Hbc H 6 rfl) 6 3)) rfl) ?_
 have N:=H
 have H:=H.freeze (i:=3) rfl
 have H:=H.freeze (i:=4) rfl
 have H:=H.freeze (i:=5) rfl
 obtain ⟨p,P,c⟩:=zC c
 refine zZ rfl rfl (zS en31 rfl) (Fa6w d.r j k l _ P _ _ _ (H.enter [] [3,4,5])) ?_
 rintro _ an ⟨rfl,Q⟩
 have H:=N.step (Q.only:Only [] _ _)
 refine ⟨_,rfl,?_⟩
 refine zI (i6 p)<| RN M<| zB fun ao R=>zA<| zH (i6 p) ?_
 obtain ⟨ap,T,c⟩:=zD c
 refine zG (zL (dC (a:=p) (b:=0) rfl rfl) T)<| RN R ?_
 obtain ⟨U,c⟩:=xX c
 refine dB U ?_
 refine zX (zF (L _ _ ?_))
 refine zB fun aq V=>zA<| zH (gV m)<| zG (zN rfl)<| zG (aDn rfl)<| zG (yJ (yF (cs:=[j,k,l]) qM rfl uV rfl (Cells.drop (Hbc H 6 rfl) 6 3)) rfl)<| yP rfl (yL (vs:=[j,k,l]) H 2 rfl uV rfl rfl rfl ⟨(bC (H.item (i:=3) rfl)),(bC (H.item (i:=4) rfl)),(bC (H.item (i:=5) rfl)),trivial⟩ rfl) ?_
 rintro ar H
 refine zI (i6 0)<| zI (i6 0)<| RN V ?_
 have H:=H.freeze (i:=3) rfl
 have H:=H.freeze (i:=4) rfl
 have H:=H.freeze (i:=5) rfl
 obtain rfl:=gI c
 refine (zW (postc2 (v1:=i6 0) (v2:=i6 0) rfl rfl (yN qM uV rfl (Hbc H 2 rfl)) rfl rfl ?_))
 exact ⟨j,k,l,rfl,H.pick [3,4,5]⟩
abbrev Fcu (f:Cond→Int→Option Str):Prop:= ∀(p0:Cond) (p1:Int) (v1:Value) (r:Str) (_:f p0 p1=some r) (O S:List Nat) (w:World) (_:Hd O w w S [f1 fA v1 p0.Kids,.fz (.at 0 0 ((Fl.arr 7 Fl.str).f zM))]),
  Cl 69 [.agg [i6 p0.Kind,sb p0.Name,sb p0.Other,i6 p0.Op,i6 p0.N,i6 p0.Frames,v1].toArray,i6 p1] w fun e w'=>e= .returned (sb r)∧Hd O w w' S []
theorem Fd4w (rfJ:Cond→Int→Option Str)(rhJ:Fcu rfJ)(m:List Cond)(j:Str)(k:Int)(v1:Value)(r:Str)(c:Fd4 rfJ m j k=some r)(O S:List Nat)(w:World)(H:Hd O w w S [f1 fA v1 m,.fz (.at 0 0 ((Fl.arr 7 Fl.str).f zM))]):
  Cl 132 [v1,sb j,i6 k] w fun e z=>e= .returned (sb r)∧Hd O w z S []:=by
 unfold Fd4 at c
 refine CW 28 Tryz.func132 ?_
 refine zB fun K4 A=>zA<| zI (.string (bs []))<| RN A<| zB fun K5 B=>zA<| zI (.slice none 0 0)<| RN B ?_
 obtain ⟨n,c,C⟩:=zC c
 refine yK [7,9,10,11,12,13,14,15,16,17,18,19,20,21,22] (fun (g:Value)=>[(7,g)]) (fun g wl=>Hd O w wl S [.own Rp.str g 9 n,.fz (.at 0 0 ((Fl.arr 7 Fl.str).f zM))]) ?_ ?_
 ·skip
  refine zB fun ax D=>zA<| zH v1 ?_
  obtain ⟨F,G,c⟩:=zD c
  obtain ⟨ay,az,I⟩:=SlF.len ((H.item (i:=0) rfl))
  refine zG (yJ (xO u68 I) (congrArg (Value.int .i64) G))<| zH (i6 0)<| RN D<| yD ?_
  have H:=bY H Rp.str 9
  unfold Ff8 at c
  obtain ⟨J,s,K,c⟩:=yT c
  refine xB [7,9,12,13,14,15,16,17,18,19,20,21,22] (fun (g:Nat×(List Str)×Int×Value)=>[(7,g.2.2.2),(12,i6 g.2.2.1)]) (fun g wl=>Hd O w wl S [.own Rp.str g.2.2.2 9 g.2.1,f1 fA v1 m,.fz (.at 0 0 ((Fl.arr 7 Fl.str).f zM))]∧fV J g.1 (g.2.1,g.2.2.1)=some n) (fun g=>g.1) (s,[],0,.slice none 0 0) (zJ rfl (zJ rfl zK)) ⟨H.pick [2,0,1],c⟩ ?_
  clear H c
  rintro ⟨s,a0,o,t⟩ ρ a1 ⟨H,c⟩
  obtain ⟨L,rfl,c⟩:=yZ c
  have c:=yY K c
  refine zB fun a2 M=>zA ?_
  obtain ⟨P,Q,c⟩:=zD c
  refine zG (zL (xP (a:=o) (b:=F) rfl rfl) Q)<| RN M<| zB fun a3 R=>zY (b:=P) rfl (fun p=>?_) (fun p=>?_)
  ·have c:=zO p c
   refine zX (zF (R _ _ ?_))
   refine zB fun a4 T=>?_
   refine yD ?_
   refine zB fun a5 U=>zA ?_
   obtain ⟨d,q,c⟩:=zC c
   obtain ⟨V,X,a6,a7,Y,Z,aa,ab,ac⟩:=dI (H.item (i:=1) rfl) q
   obtain ⟨h,rfl,ad⟩:=cO Z
   have H:=H.fzs [.at V (X+o.toNat * 7) _,.sl fA h d.Kids] ⟨⟨aa,ab,ac⟩,ad,trivial⟩
   refine zG (xC u68 fZ Y rfl (yC q).1 (yC q).2.1 rfl rfl)<| zG (yJ (yF (cs:=[i6 d.Kind,sb d.Name,sb d.Other,i6 d.Op,i6 d.N,i6 d.Frames,h]) eG rfl fZ rfl (H.item (i:=3) rfl).2.2) rfl)<| yQ rfl rfl (xA aB H) ?_
   rintro _ a8 ⟨a9,rfl,H⟩
   refine yP rfl (yL (vs:=[i6 d.Kind,sb d.Name,sb d.Other,i6 d.Op,i6 d.N,i6 d.Frames,h]) H 5 rfl fZ rfl rfl rfl ⟨rfl,rfl,rfl,rfl,rfl,rfl,(xY (H.item (i:=4) rfl)),trivial⟩ rfl) ?_
   rintro ba H
   refine RN U<| zA<| zH t<| zG (yJ (yF (cs:=[i6 d.Kind,sb d.Name,sb d.Other,i6 d.Op,i6 d.N,i6 d.Frames,h]) eG rfl fZ rfl (Hbc H 5 rfl)) rfl)<| zH (i6 k) ?_
   have ae:=H
   obtain ⟨l,af,c⟩:=zC c
   refine zZ rfl rfl (zS en69 rfl) (rhJ d k h _ af _ _ _ (H.enter [] [4,2])) ?_
   rintro _ bb ⟨rfl,ag⟩
   have H:=ae.step (ag.only:Only [] _ _)
   refine ⟨_,rfl,?_⟩
   obtain ⟨bc,ah,c⟩:=zD c
   subst ah
   refine yQ rfl rfl (aX (r:=Rp.str) (xl:=[l]) (cs:=[sb l]) u22 el9 (by decide) (by decide) rfl (xH (vs:=[sb l]) (by decide) rfl rfl ⟨rfl,trivial⟩ rfl) H ⟨[sb l],[],rfl,rfl,rfl⟩) ?_
   rintro bd be H
   obtain ⟨ai,aj,c⟩:=zC c
   refine yQ rfl rfl (aJ H (i:=0) rfl u22 el9 rfl rfl (Sr.of_own (H.item (i:=6) rfl)) aj) ?_
   rintro u bf H
   refine zI u<| (yA (yH (zF (T _ _ ?_))))
   refine zA ?_
   obtain ⟨v,ak,c⟩:=zD c
   refine zG (xM (a:=o) (b:=1) rfl rfl ak)<| zH (i6 v) ?_
   exact (yA (zF (meet ⟨(L,ai,v,u),(zJ rfl (zJ rfl zK)),⟨H.pick [0,1,2],c⟩,Nat.lt_succ_self _⟩)))
  have c:=zQ p c
  obtain rfl:=gI c
  exact (xI (yI (yI (yV (zF (meet ⟨t,(zJ rfl zK),H.pick [0,2]⟩))))))
 rintro x ρ bg H
 have c:=C
 refine zB fun bh al=>zA<| zH x<| zH (sb j) ?_
 obtain ⟨am,an,c⟩:=zC c
 refine zG (mO (s1:=[32]) (s2:=j) rfl rfl an) ?_
 obtain ⟨ao,ap,c⟩:=zC c
 refine zG (mO (s1:=am) (s2:=[32]) rfl rfl ap) ?_
 have aq:=H
 have H:=H.freeze (i:=0) rfl
 obtain ⟨y,ar,c⟩:=zC c
 refine zZ rfl rfl (zS en188 rfl) (E.Ffaw n ao x _ ar _ _ _ (H.enter [] [0])) ?_
 rintro _ bi ⟨rfl,au⟩
 have H:=aq.step (au.only:Only [] _ _)
 refine ⟨_,rfl,?_⟩
 refine zI (sb y)<| RN al ?_
 obtain rfl:=gI c
 refine (zW (fC (v1:=sb y) rfl rfl ?_))
 exact ⟨rfl,H.pick []⟩
theorem Feyw (rfJ:Cond→Int→Option Str)(rhJ:Fcu rfJ)(a:Cond)(d:Nat)(b:Value)(r:Str)(c:Fey rfJ a=some r)(O S:List Nat)(w:World)(H:Hd O w w S [.blk d [i6 a.Kind,sb a.Name,sb a.Other,i6 a.Op,i6 a.N,i6 a.Frames,b] 70,f1 fA b a.Kids,.fz (.at 0 0 ((Fl.arr 7 Fl.str).f zM))]):
  Cl 131 [gV d] w fun e i=>e= .returned (sb r)∧Hd O w i S [.blk d [i6 a.Kind,sb a.Name,sb a.Other,i6 a.Op,i6 a.N,i6 a.Frames,b] 70]:=by
 unfold Fey at c
 refine CW 5 Tryz.func131 ?_
 refine zB fun o j=>zA<| zI (.string (bs []))<| RN j<| zB fun p k=>zA<| zG (jJ rfl)<| Ld tJ H 0 6 rfl rfl ?_
 have l:=H
 obtain ⟨h,m,c⟩:=zC c
 refine zZ rfl rfl (zS en132 rfl) (Fd4w rfJ rhJ a.Kids [] 3 b _ m _ _ _ (H.enter [] [1,2])) ?_
 rintro _ q ⟨rfl,n⟩
 have H:=l.step (n.only:Only [] _ _)
 refine ⟨_,rfl,?_⟩
 refine zI (sb h)<| RN k ?_
 obtain rfl:=gI c
 refine (zW (fC (v1:=sb h) rfl rfl ?_))
 exact ⟨rfl,H.pick [0]⟩
theorem Ffqw (rfJ:Cond→Int→Option Str)(rhJ:Fcu rfJ)(d:Cond)(l:Int)(v1:Value)(r:Str)(c:Ffq rfJ d l=some r)(O S:List Nat)(w:World)(H:Hd O w w S [f1 fA v1 d.Kids,.fz (.at 0 0 ((Fl.arr 7 Fl.str).f zM))]):
  Cl 69 [.agg [i6 d.Kind,sb d.Name,sb d.Other,i6 d.Op,i6 d.N,i6 d.Frames,v1].toArray,i6 l] w fun e h=>e= .returned (sb r)∧Hd O w h S []:=by
 unfold Ffq at c
 refine CW 160 Tryz.func69 ?_
 refine zB fun K4 G=>zA<| yQ rfl rfl (xR (cs:=[i6 d.Kind,sb d.Name,sb d.Other,i6 d.Op,i6 d.N,i6 d.Frames,v1]) rfl H) ?_
 rintro _ n ⟨k,rfl,H⟩
 refine zI (.string (bs []))<| RN G<| zB fun K8 I=>zA<| zI (.func (.func 130) #[] #[])<| RN I<| zB fun K9 J=>zA<| zG (dV rfl)<| zI (.func (.func 131) #[] #[gV k])<| RN J<| zB fun b5 K=>zA<| zI (.string (bs []))<| RN K<| zB fun b6 b7=>zB fun b8 L=>zA<| zG (jB rfl) ?_
 refine Ld fM H 2 0 rfl rfl<| RN L<| yD<| zB fun b9 M=>zA ?_
 obtain ⟨P,Q,c⟩:=zD c
 refine zG (zL (yR (a:=d.Kind) (b:=9) rfl rfl) Q)<| zI (.bool P)<| RN M ?_
 obtain ⟨R,c⟩:=xX c
 refine dB R ?_
 refine zB fun ca T=>zA ?_
 obtain ⟨u,U,c⟩:=zD c
 refine zG (zL (yR (a:=d.Kind) (b:=10) rfl rfl) U)<| zI (.bool u)<| RN T<| zY (b:=u) rfl (fun o=>?_) (fun o=>?_)
 ·have c:=zO o c
  refine zB fun cb V=>?_
  refine zB fun cc Y=>zA<| zG (jJ rfl)<| Ld tJ H 2 6 rfl rfl ?_
  have Z:=H
  obtain ⟨p,aa,c⟩:=zC c
  refine zZ rfl rfl (zS en132 rfl) (Fd4w rfJ rhJ d.Kids [111,114] 1 v1 _ aa _ _ _ (H.enter [] [0,1])) ?_
  rintro _ cd ⟨rfl,ab⟩
  have H:=Z.step (ab.only:Only [] _ _)
  refine ⟨_,rfl,?_⟩
  refine zI (sb p)<| RN Y<| zB fun ce ac=>zA<| zH (i6 l) ?_
  obtain ⟨cf,ad,c⟩:=zD c
  refine zG (zL (dC (a:=l) (b:=0) rfl rfl) ad)<| RN ac ?_
  obtain ⟨ae,c⟩:=mV c
  refine aFc ae ?_
  refine zA ?_
  refine zH (sb p) ?_
  obtain ⟨af,ag,c⟩:=zC c
  refine zG (mO (s1:=[40]) (s2:=p) rfl rfl ag) ?_
  obtain ⟨m,ah,c⟩:=zC c
  refine zG (mO (s1:=af) (s2:=[41]) rfl rfl ah)<| zI (sb m)<| RN V<| zB fun cg ai=>zA<| zH (sb m)<| zI (sb m)<| RN ai ?_
  obtain rfl:=gI c
  refine (zW (yE (zV (fC (v1:=sb m) rfl rfl ?_))))
  exact ⟨rfl,H.pick []⟩
 have c:=zQ o c
 refine zB fun ch aj=>zA ?_
 obtain ⟨y,ak,c⟩:=zD c
 refine zG (zL (yR (a:=d.Kind) (b:=1) rfl rfl) ak)<| zI (.bool y)<| RN aj<| zY (b:=y) rfl (fun q=>?_) (fun q=>?_)
 ·have c:=zO q c
  refine zB fun ci al=>zA<| zI (.string (bs [116,114,117,101]))<| RN al ?_
  obtain rfl:=gI c
  refine (zW (yE (zV (fC (v1:= .string (bs [116,114,117,101])) rfl rfl ?_))))
  exact ⟨rfl,H.pick []⟩
 have c:=zQ q c
 refine zB fun cj am=>zA ?_
 obtain ⟨an,ao,c⟩:=zD c
 refine zG (zL (yR (a:=d.Kind) (b:=2) rfl rfl) ao)<| zI (.bool an)<| RN am ?_
 obtain ⟨ap,c⟩:=xX c
 refine dB ap ?_
 refine zB fun ck aq=>zA ?_
 obtain ⟨z,ar,c⟩:=zD c
 refine zG (zL (yR (a:=d.Kind) (b:=3) rfl rfl) ar)<| zI (.bool z)<| RN aq<| zY (b:=z) rfl (fun s=>?_) (fun s=>?_)
 ·have c:=zO s c
  refine zB fun cl au=>?_
  have av:=H
  have H:=H.rebase
  have aw:=H
  have A:Hd (O++bks (rest [] [f1 fA v1 d.Kids,.fz (.at 0 0 ((Fl.arr 7 Fl.str).f zM)),.blk k [i6 d.Kind,sb d.Name,sb d.Other,i6 d.Op,i6 d.N,i6 d.Frames,v1] 70])) n n (bks (Go.Lf.pick ([]++ [0,1]) [f1 fA v1 d.Kids,.fz (.at 0 0 ((Fl.arr 7 Fl.str).f zM)),.blk k [i6 d.Kind,sb d.Name,sb d.Other,i6 d.Op,i6 d.N,i6 d.Frames,v1] 70])) [f1 fA v1 d.Kids,.fz (.at 0 0 ((Fl.arr 7 Fl.str).f zM))]:=H.enter [] [0,1]
  have t:=H.firmB A (i:=2) rfl (List.mem_append_right _ List.mem_cons_self)
  have H:=A
  have ax:=H.firm (i:=1) rfl
  refine xU H [0,1,2,3,4,5,6,7,8,9,10,11,12,13,14] (kz [0,0,0,0,0,0,0,0,0,0,0,0,3,0,0]) mixed ?_
  refine XP (fun _ _=>nK rfl)<| XP (fun h j=>xG bF rfl (Cells.get (Blk.cells (t h j)) (i:=1) rfl)) ?_
  obtain ⟨ay,az,c⟩:=zC c
  refine XP (fun _ _=>mO (s1:=d.Name) (s2:=[32]) rfl rfl az)<| XP (fun _ _=>rY rfl)<| XP (fun h j=>xG fM rfl (Cells.get (Blk.cells (t h j)) (i:=3) rfl)) ?_
  obtain ⟨B,C,c⟩:=zC c
  refine XP (fun _ _=>mP (X:=zM) u209 sz9 rfl rfl C)<| XP (fun h j=>pW (v:=sb B) bF rfl (Cells.ix (e:=Fl.str) (x:=zM) (ax h j).2.2 C)) ?_
  obtain ⟨a0,a1,c⟩:=zC c
  refine XP (fun _ _=>mO (s1:=ay) (s2:=B) rfl rfl a1) ?_
  obtain ⟨a2,a3,c⟩:=zC c
  refine XP (fun _ _=>mO (s1:=a0) (s2:=[32]) rfl rfl a3)<| XM (.func (.func 130) #[] #[])<| XP (fun _ _=>pM rfl)<| XP (fun h j=>xG fM rfl (Cells.get (Blk.cells (t h j)) (i:=4) rfl)) ?_
  have a4:=H
  obtain ⟨a5,a6,c⟩:=zC c
  refine MxM.XL_effC oS rfl rfl rfl (fun h j=>bQ en130 rfl rfl) (fun h j=>E.Fdyw d.N _ a6 _ _ _ ((H.sees j).enter [] [])) ?_
  rintro h _ cm j ⟨rfl,a7⟩
  have H:=(a4.sees j).step (a7.only:Only [] _ _)
  refine ⟨_,rfl,H.only,?_⟩
  obtain ⟨D,a8,c⟩:=zC c
  refine XP (fun _ _=>mO (s1:=a2) (s2:=a5) rfl rfl a8)<| XP (fun _ _=>xN (v:=sb D) rfl)<| MxM.xK fun a9 hS=>?_
  have H:=H.sees hS
  have H:=aw.back [] [0,1] rfl H
  have H:Hd _ _ _ _ [f1 fA v1 d.Kids,.fz (.at 0 0 ((Fl.arr 7 Fl.str).f zM)),.blk k [i6 d.Kind,sb d.Name,sb d.Other,i6 d.Op,i6 d.N,i6 d.Frames,v1] 70,f1 fA v1 d.Kids,.fz (.at 0 0 ((Fl.arr 7 Fl.str).f zM))]:=H
  have H:Hd O n a9 (bks [f1 fA v1 d.Kids,.fz (.at 0 0 ((Fl.arr 7 Fl.str).f zM)),.blk k [i6 d.Kind,sb d.Name,sb d.Other,i6 d.Op,i6 d.N,i6 d.Frames,v1] 70]) [.blk k [i6 d.Kind,sb d.Name,sb d.Other,i6 d.Op,i6 d.N,i6 d.Frames,v1] 70,f1 fA v1 d.Kids,.fz (.at 0 0 ((Fl.arr 7 Fl.str).f zM))]:=H.pick [2,3,4]
  have H:=av.rejoin H
  refine (zF (au _ _ ?_))
  obtain rfl:=gI c
  refine (zW (yE (zV (fC (v1:=sb D) rfl rfl ?_))))
  exact ⟨rfl,H.pick []⟩
 have c:=zQ s c
 refine zB fun cn ba=>zA ?_
 obtain ⟨bb,bc,c⟩:=zD c
 refine zG (zL (yR (a:=d.Kind) (b:=4) rfl rfl) bc)<| zI (.bool bb)<| RN ba ?_
 obtain ⟨bd,c⟩:=xX c
 refine dB bd ?_
 refine zB fun co be=>zA ?_
 obtain ⟨bf,bg,c⟩:=zD c
 refine zG (zL (yR (a:=d.Kind) (b:=5) rfl rfl) bg)<| zI (.bool bf)<| RN be ?_
 obtain ⟨bh,c⟩:=xX c
 refine dB bh ?_
 refine zB fun cp bi=>zA ?_
 obtain ⟨bj,bk,c⟩:=zD c
 refine zG (zL (yR (a:=d.Kind) (b:=6) rfl rfl) bk)<| zI (.bool bj)<| RN bi ?_
 obtain ⟨bl,c⟩:=xX c
 refine dB bl ?_
 refine zB fun cq bm=>zA ?_
 obtain ⟨bn,bo,c⟩:=zD c
 refine zG (zL (yR (a:=d.Kind) (b:=7) rfl rfl) bo)<| zI (.bool bn)<| RN bm ?_
 obtain ⟨bp,c⟩:=xX c
 refine dB bp ?_
 refine zB fun cr bq=>zA ?_
 obtain ⟨br,bt,c⟩:=zD c
 refine zG (zL (yR (a:=d.Kind) (b:=8) rfl rfl) bt)<| zI (.bool br)<| RN bq ?_
 obtain ⟨bu,c⟩:=mV c
 refine aFc bu ?_
 refine zB fun ct bv=>zA<| zH (.func (.func 131) #[] #[gV k]) ?_
 obtain ⟨bw,bx,c⟩:=zC c
 refine zZ rfl rfl (bQ en131 rfl rfl) (Feyw rfJ rhJ d k v1 _ bx _ _ _ (H.enter [2] [0,1])) ?_
 rintro _ bz ⟨rfl,b0⟩
 have H:Hd _ _ bz _ [f1 fA v1 d.Kids,.fz (.at 0 0 ((Fl.arr 7 Fl.str).f zM)),.blk k [i6 d.Kind,sb d.Name,sb d.Other,i6 d.Op,i6 d.N,i6 d.Frames,v1] 70]:=H.back [2] [0,1] rfl b0
 refine ⟨_,rfl,?_⟩
 obtain ⟨F,b1,c⟩:=zC c
 refine zG (mO (s1:=[110,111,116,32]) (s2:=bw) rfl rfl b1)<| zI (sb F)<| RN bv ?_
 obtain rfl:=gI c
 refine (zW (yE (zV (fC (v1:=sb F) rfl rfl ?_))))
 exact ⟨rfl,H.pick []⟩
theorem Fgr:Fcu (Ff7):=by
 have h: ∀n,Fcu (Fd8 n):=by
  intro n
  induction n with
  | zero=>intro b c d r a; cases a
  | succ n ih=>intro b c d r a; exact Ffqw (Fd8 n) ih b c d r a
 exact h FU
theorem Ffgw (d:List Int)(c:Str)(a:Nat)(v2:Value)(f:Value)(r:Int×Unit×(List Int))(b:Ffg d c=some r)(O S:List Nat)(w:World)(H:Hd O w w S [.own (Rp.int .u8) f 5 d,.blk a [v2,f] 129,.fz (.oq v2 a)]):
  Cl 68 [gV a,sb c] w fun e n=> ∃j u8,e= .returned (.tuple #[i6 r.1,.nilIface])∧Hd O w n S [.fz (.oq j a),.own (Rp.int .u8) u8 5 r.2.2,.blk a [j,u8] 129]:=by
 unfold Ffg at b
 refine CW 19 Tryz.func68 ?_
 refine zB fun B o=>zA<| zI (i6 0)<| zI .nilIface<| RN o<| zB fun C p=>zA<| zH (gV a) ?_
 obtain ⟨q,s,b⟩:=zC b
 refine zZ rfl rfl (zS en129 rfl) (E.Fgcw d a v2 f _ s _ _ _ (H.enter [0,1] [2])) ?_
 rintro _ t ⟨h,k,rfl,u⟩
 have H:Hd _ _ t _ [.fz (.oq v2 a),.fz (.oq h a),.own (Rp.int .u8) k 5 q,.blk a [h,k] 129]:=H.back [0,1] [2] rfl u
 refine ⟨_,rfl,?_⟩
 refine RN p<| zB fun D x=>zA<| zH (gV a)<| zH (gV a)<| zG (zN rfl)<| zG (aJc rfl)<| Ld aNo H 3 1 rfl rfl<| zH (sb c) ?_
 obtain ⟨F,y,b⟩:=zC b
 refine yQ rfl rfl (aIh H (i:=2) rfl u61 u9 z8_5 rfl rfl y) ?_
 rintro l G H
 refine zG (zN rfl)<| zG (aJc rfl)<| yP rfl (xE H 3 rfl sz61 rfl (v:=l) rfl (bC (H.item (i:=2) rfl)) rfl) ?_
 rintro I H
 refine RN x<| zB fun J z=>zA<| zH (sb c) ?_
 obtain ⟨m,A,b⟩:=zD b
 refine zG (yJ (kP (s1:=c) u9 rfl) (congrArg (Value.int .i64) A))<| zI (i6 m)<| zI .nilIface<| RN z ?_
 obtain rfl:=gI b
 refine (zW (tH (v1:=i6 m) (v2:= .nilIface) rfl rfl rfl ?_))
 exact ⟨h,l,rfl,H.pick [1,2,3]⟩
theorem Fe2w (f:List Int)(a:Nat)(c:Value)(d:Value)(r:Int×(List Int))(b:Fe2 f=some r)(O S:List Nat)(w:World)(H:Hd O w w S [.own (Rp.int .u8) d 5 f,.blk a [c,d] 129,.fz (.oq c a)]):
  Cl 70 [gV a] w fun e k=> ∃h u8,e= .returned (i6 r.1)∧Hd O w k S [.fz (.oq h a),.own (Rp.int .u8) u8 5 r.2,.blk a [h,u8] 129]:=by
 unfold Fe2 at b
 refine CW 8 Tryz.func70 ?_
 refine zB fun p l=>zA<| zI (i6 0)<| RN l<| zB fun q m=>zA<| zH (gV a)<| zG (zN rfl)<| zG (aJc rfl)<| Ld aNo H 1 1 rfl rfl ?_
 obtain ⟨j,n,b⟩:=zD b
 obtain ⟨s,t,o⟩:=Sr.len (Sr.of_own (H.item (i:=0) rfl))
 refine zG (yJ (xO u61 o) (congrArg (Value.int .i64) n))<| zI (i6 j)<| RN m ?_
 obtain rfl:=gI b
 refine (zW (fC (v1:=i6 j) rfl rfl ?_))
 exact ⟨c,d,rfl,H.pick [2,0,1]⟩
theorem Ffkw (j:Rules)(v1:Value)(v2:Value)(k:Value)(r:Str×Int)(c:Ffk j=some r)(O S:List Nat)(w:World)(H:Hd O w w S [f1 Rp.str v1 j.Phases,f1 gX v2 j.Moves,f1 fB k j.Rules,.fz (.at 0 0 ((Fl.arr 7 Fl.str).f zM))]):
  Cl 21 [.agg [v1,v2,k].toArray] w fun e n=>e= .returned (.tuple #[sb r.1,i6 r.2])∧Hd O w n S []:=by
 unfold Ffk at c
 refine CW 72 Tryz.func21 ?_
 refine zB fun K8 T=>zA<| yQ rfl rfl (xR (cs:=[v1,v2,k]) rfl H) ?_
 rintro _ cj ⟨o,rfl,H⟩
 refine zI (.string (bs []))<| zI (i6 0)<| RN T<| zB fun ck U=>zB fun cl V=>zA<| zG (yJ (yF (cs:=[v1,v2,k]) qM rfl uV rfl (Hbc H 4 rfl)) rfl) ?_
 have X:=H
 obtain ⟨s,Y,c⟩:=zC c
 refine zZ rfl rfl (zS en31 rfl) (Fa6w j v1 v2 k _ Y _ _ _ (H.enter [] [0,1,2])) ?_
 rintro _ cm ⟨rfl,Z⟩
 have H:=X.step (Z.only:Only [] _ _)
 refine ⟨_,rfl,?_⟩
 refine zI (i6 s)<| RN V<| zB fun cn aa=>zA<| zH (i6 s) ?_
 obtain ⟨co,ab,c⟩:=zD c
 refine zG (zL (dC (a:=s) (b:=0) rfl rfl) ab)<| RN aa ?_
 obtain ⟨ac,c⟩:=xX c
 refine dB ac ?_
 refine zX (zF (U _ _ ?_))
 refine zB fun cp ad=>zA<| yQ rfl rfl (xA zero129 H) ?_
 rintro _ cq ⟨h,rfl,H⟩
 refine RN ad ?_
 obtain ⟨ae,c,af⟩:=zC c
 refine yK [7,17,18,19,20,21,22,23,24,25,26,27,28] (fun (g:Unit)=>[]) (fun g wl=>Hd O w wl S [f1 Rp.str v1 j.Phases,f1 gX v2 j.Moves,f1 fB k j.Rules,.fz (.at 0 0 ((Fl.arr 7 Fl.str).f zM)),.blk o [v1,v2,k] 26,.blk h [.pointer none,.slice none 0 0] 129]) ?_ ?_
 ·skip
  refine zB fun cr ag=>zA<| zG (jY rfl)<| Ld jS H 4 0 rfl rfl ?_
  obtain ⟨ah,ai,c⟩:=zD c
  obtain ⟨ct,cu,aj⟩:=SlF.len ((H.item (i:=0) rfl))
  refine zG (yJ (xO u22 aj) (congrArg (Value.int .i64) ai))<| zH (i6 0)<| RN ag<| yD ?_
  unfold Fgg at c
  obtain ⟨ak,D,al,c⟩:=yT c
  refine xB [7,20,21,22,23,24,25,26,27,28] (fun (g:Nat)=>[(20,i6 0)]) (fun g wl=>Hd O w wl S [f1 Rp.str v1 j.Phases,f1 gX v2 j.Moves,f1 fB k j.Rules,.fz (.at 0 0 ((Fl.arr 7 Fl.str).f zM)),.blk o [v1,v2,k] 26,.blk h [.pointer none,.slice none 0 0] 129]∧fV ak g ()=some ae) (fun g=>g) D (zJ rfl zK) ⟨H.pick [0,1,2,3,4,5],c⟩ ?_
  clear H c
  rintro D ρ cv ⟨H,c⟩
  obtain ⟨cw,rfl,c⟩:=yZ c
  have c:=yY al c
  refine zB fun cx am=>zA ?_
  obtain ⟨cy,an,c⟩:=zD c
  refine zG (zL (xP (a:=0) (b:=ah) rfl rfl) an)<| RN am<| zB fun cz c0=>?_
  obtain ⟨ao,c⟩:=xX c
  refine dB ao ?_
  obtain rfl:=gI c
  exact (xI (yI (yI (yV (zF (meet ⟨(),zK,H.pick [0,1,2,3,4,5]⟩))))))
 rintro _ ρ c1 H
 have c:=af
 obtain ⟨ap,c,aq⟩:=zC c
 refine yK [9,29,30,31,32,33,34,35,36,37,38,39,40,41,42,43,44,45,46,47,48,49,50] (fun (g:Unit)=>[]) (fun g wl=>Hd O w wl S [f1 Rp.str v1 j.Phases,f1 gX v2 j.Moves,f1 fB k j.Rules,.fz (.at 0 0 ((Fl.arr 7 Fl.str).f zM)),.blk o [v1,v2,k] 26,.blk h [.pointer none,.slice none 0 0] 129]) ?_ ?_
 ·skip
  refine zB fun c2 ar=>zA<| zG (aBu rfl)<| Ld aHz H 4 1 rfl rfl ?_
  obtain ⟨au,av,c⟩:=zD c
  obtain ⟨c3,c4,aw⟩:=SlF.len ((H.item (i:=1) rfl))
  refine zG (yJ (xO u23 aw) (congrArg (Value.int .i64) av))<| zH (i6 0)<| RN ar<| yD ?_
  unfold Fgb at c
  obtain ⟨ax,F,ay,c⟩:=yT c
  refine xB [9,32,33,34,35,36,37,38,39,40,41,42,43,44,45,46,47,48,49,50] (fun (g:Nat)=>[(32,i6 0)]) (fun g wl=>Hd O w wl S [f1 Rp.str v1 j.Phases,f1 gX v2 j.Moves,f1 fB k j.Rules,.fz (.at 0 0 ((Fl.arr 7 Fl.str).f zM)),.blk o [v1,v2,k] 26,.blk h [.pointer none,.slice none 0 0] 129]∧fV ax g ()=some ap) (fun g=>g) F (zJ rfl zK) ⟨H.pick [0,1,2,3,4,5],c⟩ ?_
  clear H c
  rintro F ρ c5 ⟨H,c⟩
  obtain ⟨c6,rfl,c⟩:=yZ c
  have c:=yY ay c
  refine zB fun c7 az=>zA ?_
  obtain ⟨c8,a0,c⟩:=zD c
  refine zG (zL (xP (a:=0) (b:=au) rfl rfl) a0)<| RN az<| zB fun c9 da=>?_
  obtain ⟨a1,c⟩:=xX c
  refine dB a1 ?_
  obtain rfl:=gI c
  exact (xI (yI (yI (yV (zF (meet ⟨(),zK,H.pick [0,1,2,3,4,5]⟩))))))
 rintro _ ρ db H
 have c:=aq
 obtain ⟨t,c,a2⟩:=zC c
 refine yK [11,51,52,53,54,55,56,57,58,59,60,61,62,63,64,65,66,67,68] (fun (g:Value×Value)=>[]) (fun g wl=>Hd O w wl S [.fz (.at 0 0 ((Fl.arr 7 Fl.str).f zM)),.blk h [g.1,g.2] 129,.fz (.oq g.1 h),.own (Rp.int .u8) g.2 5 t]) ?_ ?_
 ·skip
  refine zB fun dc a3=>zA<| zG (kY rfl)<| Ld rJ H 4 2 rfl rfl ?_
  obtain ⟨a4,a5,c⟩:=zD c
  obtain ⟨dd,de,a6⟩:=SlF.len ((H.item (i:=2) rfl))
  refine zG (yJ (xO u24 a6) (congrArg (Value.int .i64) a5))<| zH (i6 0)<| RN a3<| yD ?_
  have H:=H.fz (.oq (.pointer none) h) (.inl rfl)
  have H:=bY H (Rp.int .u8) 5
  unfold Ff4 at c
  obtain ⟨a7,G,a8,c⟩:=yT c
  refine xB [11,54,55,56,57,58,59,60,61,62,63,64,65,66,67,68] (fun (g:Nat×Int×(List Int)×Value×Value)=>[(54,i6 g.2.1)]) (fun g wl=>Hd O w wl S [f1 fB k j.Rules,.fz (.at 0 0 ((Fl.arr 7 Fl.str).f zM)),.blk h [g.2.2.2.1,g.2.2.2.2] 129,.fz (.oq g.2.2.2.1 h),.own (Rp.int .u8) g.2.2.2.2 5 g.2.2.1]∧fV a7 g.1 (g.2.1,g.2.2.1)=some t) (fun g=>g.1) (G,0,[],.pointer none,.slice none 0 0) (zJ rfl zK) ⟨H.pick [2,3,5,6,7],c⟩ ?_
  clear H c
  rintro ⟨G,p,a9,u,I⟩ ρ df ⟨H,c⟩
  obtain ⟨ba,rfl,c⟩:=yZ c
  have c:=yY a8 c
  refine zB fun dg bb=>zA ?_
  obtain ⟨bc,bd,c⟩:=zD c
  refine zG (zL (xP (a:=p) (b:=a4) rfl rfl) bd)<| RN bb<| zB fun dh be=>zY (b:=bc) rfl (fun x=>?_) (fun x=>?_)
  ·have c:=zO x c
   refine zX (zF (be _ _ ?_))
   refine zB fun di bf=>?_
   refine yD ?_
   refine zB fun dj bg=>zA ?_
   obtain ⟨d,y,c⟩:=zC c
   obtain ⟨J,K,dk,dl,bh,bi,bj,bk,bl⟩:=dI (H.item (i:=0) rfl) y
   obtain ⟨m,rfl,bm⟩:=jE bi
   have H:=H.fzs [.at J (K+p.toNat * 8) _,.sl fA m d.When.Kids] ⟨⟨bj,bk,bl⟩,bm,trivial⟩
   refine zG (xC u24 rZ bh rfl (yC y).1 (yC y).2.1 rfl rfl)<| zG (yJ (yF (cs:=[sb d.Name,i6 d.When.Kind,sb d.When.Name,sb d.When.Other,i6 d.When.Op,i6 d.When.N,i6 d.When.Frames,m]) aHe rfl rZ rfl (H.item (i:=5) rfl).2.2) rfl)<| yQ rfl rfl (xA aFb H) ?_
   rintro _ dm ⟨bn,rfl,H⟩
   refine yP rfl (yL (vs:=[sb d.Name,i6 d.When.Kind,sb d.When.Name,sb d.When.Other,i6 d.When.Op,i6 d.When.N,i6 d.When.Frames,m]) H 7 rfl rZ rfl rfl rfl ⟨rfl,rfl,rfl,rfl,rfl,rfl,rfl,(xY (H.item (i:=6) rfl)),trivial⟩ rfl) ?_
   rintro dn H
   refine RN bg ?_
   have bo:=H
   have H:=H.rebase
   have dp:=H
   refine xU H [0,1,2,3,4,5,6,7,8,9] (kz [0,1,0,0,0,1,1,0,0,3]) mixed ?_
   refine XP (fun _ _=>aBn rfl)<| XR bF H 7 0 rfl rfl ?_
   obtain ⟨bp,bq,c⟩:=zC c
   refine XP (fun _ _=>mO (s1:=[114,117,108,101,32]) (s2:=d.Name) rfl rfl bq) ?_
   obtain ⟨br,bt,c⟩:=zC c
   refine XP (fun _ _=>mO (s1:=bp) (s2:=[32,105,102,32]) rfl rfl bt)<| XP (fun _ _=>vY rfl)<| MxM.wJ oS rfl rfl rfl (fun n l=>yJ (yF (cs:=[i6 d.When.Kind,sb d.When.Name,sb d.When.Other,i6 d.When.Op,i6 d.When.N,i6 d.When.Frames,m]) eG rfl fZ rfl (Cells.drop (Blk.cells ((H.sees l).item (i:=7) rfl)) 1 7)) rfl) ?_
   have bu:=H
   obtain ⟨L,bv,c⟩:=zC c
   refine MxM.XL_call oS rfl rfl rfl (v:=sb L) (fun n l=>zS en69 rfl) (fun n l=>bU (Fgr d.When 0 m _ bv _ _ _ ((H.sees l).enter [] [6,1]))) ?_
   have H:=bu
   obtain ⟨bw,bx,c⟩:=zC c
   refine XP (fun _ _=>mO (s1:=br) (s2:=L) rfl rfl bx) ?_
   obtain ⟨bz,b0,c⟩:=zC c
   refine XP (fun _ _=>mO (s1:=bw) (s2:=[10]) rfl rfl b0) ?_
   obtain ⟨⟨dq,dr,M⟩,b1,c⟩:=zC c
   refine MxM.XL_effC oS rfl rfl rfl (fun n l=>zS en68 rfl) (fun n l=>Ffgw a9 bz h u I _ b1 _ _ _ ((H.sees l).enter [4,2] [3])) ?_
   rintro n _ b2 l ⟨z,A,rfl,b3⟩
   have H:Hd _ _ b2 _ [f1 fB k j.Rules,.fz (.at 0 0 ((Fl.arr 7 Fl.str).f zM)),.fz (.oq u h),.fz (.at J (K+p.toNat * 8) [sb d.Name,i6 d.When.Kind,sb d.When.Name,sb d.When.Other,i6 d.When.Op,i6 d.When.N,i6 d.When.Frames,m]),f1 fA m d.When.Kids,.blk bn [sb d.Name,i6 d.When.Kind,sb d.When.Name,sb d.When.Other,i6 d.When.Op,i6 d.When.N,i6 d.When.Frames,m] 95,.fz (.oq z h),.own (Rp.int .u8) A 5 M,.blk h [z,A] 129]:=(H.sees l).back [4,2] [3] rfl b3
   refine ⟨_,rfl,H.only,?_⟩
   refine MxM.xK fun ds hS=>?_
   have H:=H.sees hS
   have H:=bo.rejoin H
   refine yH (zF (bf _ _ ?_))
   refine zA ?_
   obtain ⟨P,b4,c⟩:=zD c
   refine zG (xM (a:=p) (b:=1) rfl rfl b4)<| zH (i6 P) ?_
   exact (yA (zF (meet ⟨(ba,P,M,z,A),(zJ rfl zK),⟨H.pick [0,1,8,6,7],c⟩,Nat.lt_succ_self _⟩)))
  have c:=zQ x c
  obtain rfl:=gI c
  exact (xI (yI (yI (yV (zF (meet ⟨(u,I),zK,H.pick [1,2,3,4]⟩))))))
 rintro ⟨B,b5⟩ ρ dt H
 have c:=a2
 refine zB fun du b6=>?_
 refine zB fun dv b7=>zA ?_
 obtain ⟨⟨b8,Q⟩,b9,c⟩:=zC c
 refine zZ rfl rfl (zS en70 rfl) (Fe2w t h B b5 _ b9 _ _ _ (H.enter [3,1] [2])) ?_
 rintro _ ca ⟨q,C,rfl,cb⟩
 have H:Hd _ _ ca _ [.fz (.at 0 0 ((Fl.arr 7 Fl.str).f zM)),.fz (.oq B h),.fz (.oq q h),.own (Rp.int .u8) C 5 Q,.blk h [q,C] 129]:=H.back [3,1] [2] rfl cb
 refine ⟨_,rfl,?_⟩
 obtain ⟨dw,cc,c⟩:=zD c
 refine zG (zL (aI (a:=b8) (b:=200000) rfl rfl) cc)<| RN b7 ?_
 obtain ⟨cd,c⟩:=xX c
 refine dB cd ?_
 refine zX (zF (b6 _ _ ?_))
 refine zB fun dx ce=>zA ?_
 obtain ⟨R,cf,c⟩:=zC c
 refine zZ rfl rfl (zS en71 rfl) (E.Feow Q h q C _ cf _ _ _ (H.enter [3,4] [2])) ?_
 rintro _ cg ⟨rfl,ch⟩
 have H:Hd _ _ cg _ [.fz (.at 0 0 ((Fl.arr 7 Fl.str).f zM)),.fz (.oq B h),.fz (.oq q h)]:=H.back [3,4] [2] rfl ch
 refine ⟨_,rfl,?_⟩
 refine zI (sb R)<| zI (i6 0)<| RN ce ?_
 obtain rfl:=gI c
 refine (zW (tH (v1:=sb R) (v2:=i6 0) rfl rfl rfl ?_))
 exact ⟨rfl,H.pick []⟩
theorem Fbww (r:Bool)(c:Fbw=some r)(O S:List Nat)(w:World)(H:Hd O w w S [.fz (.at 0 0 ((Fl.arr 7 Fl.str).f zM)),.fz (.gi 4)]):
  Cl 20 [] w fun e q=>e= .returned (.bool r)∧Hd O w q S []:=by
 unfold Fbw at c
 refine CW 26 Tryz.func20 ?_
 refine zB fun N s=>zA<| zI (.bool false)<| RN s<| zB fun P t=>zA ?_
 obtain ⟨⟨n,o,k⟩,u,c⟩:=zC c
 refine zZ rfl rfl (zS en18 rfl) (Fesw [114,117,108,101,32,97,32,105,102,32,110,111,116,32,32,40,120,32,62,49,32,111,114,32,116,114,117,101,41] _ u _ _ _ (H.enter [] [0,1])) ?_
 rintro _ Q ⟨d,h,j,rfl,x⟩
 have H:=H.back1 [0,1] rfl x
 refine ⟨_,rfl,?_⟩
 refine zH (.tuple #[.agg [d,h,j].toArray,i6 o,i6 k])<| zG (xQ (v:= .agg [d,h,j].toArray) rfl rfl)<| zG (xQ (v:=i6 o) rfl rfl)<| zG (xQ (v:=i6 k) rfl rfl)<| yQ rfl rfl (xA zero26 H) ?_
 rintro _ R ⟨y,rfl,H⟩
 refine yP rfl (yL (vs:=[d,h,j]) H 5 rfl uV rfl rfl rfl ⟨(xY (H.item (i:=2) rfl)),(xY (H.item (i:=3) rfl)),(xY (H.item (i:=4) rfl)),trivial⟩ rfl) ?_
 rintro T H
 refine zI (i6 o)<| zI (i6 k)<| RN t<| zB fun U z=>zA<| zG (yJ (yF (cs:=[d,h,j]) qM rfl uV rfl (Hbc H 5 rfl)) rfl) ?_
 have A:=H
 obtain ⟨⟨l,m⟩,B,c⟩:=zC c
 refine zZ rfl rfl (zS en21 rfl) (Ffkw n d h j _ B _ _ _ (H.enter [] [2,3,4,0])) ?_
 rintro _ V ⟨rfl,C⟩
 have H:=A.step (C.only:Only [] _ _)
 refine ⟨_,rfl,?_⟩
 refine zH (.tuple #[sb l,i6 m])<| zG (xQ (v:=sb l) rfl rfl)<| zG (xQ (v:=i6 m) rfl rfl)<| zI (sb l)<| zI (i6 m)<| RN z<| zB fun X D=>zA<| zH (i6 k) ?_
 obtain ⟨Y,E,c⟩:=zD c
 refine zG (zL (yR (a:=k) (b:=0) rfl rfl) E) ?_
 obtain ⟨F,c,G⟩:=zC c
 refine bJ 4 [18,19,20,21] [(21,.bool F)] (fun wl=>Hd O w wl S [.fz (.at 0 0 ((Fl.arr 7 Fl.str).f zM)),.fz (.gi 4),f1 Rp.str d n.Phases,f1 gX h n.Moves,f1 fB j n.Rules,.blk y [d,h,j] 26]) ?_ ?_
 ·skip
  obtain ⟨I,c⟩:=mV c
  refine aMn true I ?_
  refine zH (i6 m) ?_
  obtain ⟨J,K,c⟩:=zD c
  refine zG (zL (yR (a:=m) (b:=0) rfl rfl) K)<| zG (yO (v:= .bool J) rfl rfl) ?_
  obtain rfl:=gI c
  exact yA (zF (meet ⟨(zJ rfl zK),H.pick [0,1,2,3,4,5]⟩))
 rintro ρ Z H
 have c:=G
 obtain ⟨L,c⟩:=mV c
 refine aMn true L ?_
 refine zH (sb l) ?_
 obtain ⟨p,M,c⟩:=zD c
 refine zG (zL (wB (s1:=l) (s2:=[114,117,108,101,32,97,32,105,102,32,110,111,116,32,40,120,32,62,32,49,32,111,114,32,116,114,117,101,41,10]) rfl rfl) M)<| zG (yO (v:= .bool p) rfl rfl)<| zI (.bool p)<| RN D ?_
 obtain rfl:=gI c
 refine (zW (fC (v1:= .bool p) rfl rfl ?_))
 exact ⟨rfl,H.pick []⟩
theorem Fc6w (b:Option gU)(v1:Option Addr)(r:Str)(a:Fc6 b=some r)(O S:List Nat)(w:World)(H:Hd O w w S [.fz (.pt aY v1 b)]):
  Cl 28 [.pointer v1] w fun e j=>e= .returned (sb r)∧Hd O w j S []:=by
 unfold Fc6 at a
 refine CW 8 Tryz.func28 ?_
 refine zB fun y k=>zA<| zI (.string (bs []))<| RN k<| zB fun z l=>zA<| zH (.pointer v1) ?_
 obtain ⟨c,m,a⟩:=zC a
 obtain ⟨d,f,A,n,o,p,q,t⟩:=qX ((H.item (i:=0) rfl):PtF _ _ _ _ _) m
 obtain ⟨u,rfl,v⟩:=sK q
 have H:=H.fzs [.at d f _,.sl (Rp.int .u8) u c.out] ⟨⟨o,p,t⟩,v,trivial⟩
 refine zG (zN (ad:=⟨d,f,none⟩) (congrArg Value.pointer n))<| zG (aEp rfl)<| zG (xG aNo rfl (Cells.get (H.item (i:=1) rfl).2.2 (i:=0) rfl)) ?_
 obtain ⟨h,x,a⟩:=zD a
 refine zG (yJ (aOk (xl:=c.out) u61 u5 u9 rfl (Sr.of_rd (H.item (i:=2) rfl))) (congrArg (fun s=>Value.string (bs s)) x))<| zI (sb h)<| RN l ?_
 obtain rfl:=gI a
 refine (zW (fC (v1:=sb h) rfl rfl ?_))
 exact ⟨rfl,H.pick []⟩
theorem Fbzw (n:List Int)(d:Int)(h:Int)(v1:Value)(r:(List Int))(c:Fbz n d h=some r)(O S:List Nat)(w:World)(H:Hd O w w S [.own (Rp.int .u8) v1 5 n,.fz (.at 3 0 ((Fl.arr 20 (Fl.int .u64)).f zT))]):
  Cl 166 [v1,i6 d,i6 h] w fun e s=> ∃u4,e= .returned (u4)∧Hd O w s S [.own (Rp.int .u8) u4 5 r]:=by
 unfold Fbz at c
 refine CW 21 Tryz.func166 ?_
 refine zB fun P t=>zA<| zI (.slice none 0 0)<| RN t<| zB fun Q u=>zA<| zH (i6 d) ?_
 obtain ⟨k,v,c⟩:=zD c
 refine zG (qO u2 u297 rfl v)<| zI (.int .u64 k)<| RN u ?_
 obtain ⟨l,c,x⟩:=zC c
 refine yK [0,7,10,11,12,13,14,15,16] (fun (g:Value)=>[(0,g),(7,.int .u64 l.2)]) (fun g wl=>Hd O w wl S [.own (Rp.int .u8) g 5 l.1,.fz (.at 3 0 ((Fl.arr 20 (Fl.int .u64)).f zT))]) ?_ ?_
 ·skip
  refine zB fun R y=>zA<| zH (i6 d) ?_
  obtain ⟨z,A,c⟩:=zD c
  refine zG (zL (xP (a:=d) (b:=0) rfl rfl) A)<| RN y<| zY (b:=z) rfl (fun m=>?_) (fun m=>?_)
  ·have c:=zO m c
   refine zB fun T B=>zA<| zH v1 ?_
   obtain ⟨U,C,c⟩:=zD c
   subst C
   refine yQ rfl rfl (aX (r:=(Rp.int .u8)) (xl:=[45]) (cs:=[.int .u8 45]) u61 el5 (by decide) (by decide) rfl (xH (vs:=[.int .u8 45]) (by decide) rfl rfl ⟨rfl,trivial⟩ rfl) H ⟨[.int .u8 45],[],rfl,rfl,rfl⟩) ?_
   rintro V X H
   obtain ⟨Y,D,c⟩:=zC c
   refine yQ rfl rfl (aJ H (i:=0) rfl u61 el5 rfl rfl (Sr.of_own (H.item (i:=2) rfl)) D) ?_
   rintro o Z H
   refine zI o<| RN B<| zA<| zH (.int .u64 k) ?_
   obtain ⟨F,G,c⟩:=zD c
   refine zG (Do_neg (a:=k) rfl G)<| zI (.int .u64 F) ?_
   obtain rfl:=gI c
   exact (yA (zF (meet ⟨o,(zJ rfl (zJ rfl zK)),H.pick [0,1]⟩)))
  have c:=zQ m c
  obtain rfl:=gI c
  exact (zX (zF (meet ⟨v1,(zJ rfl (zJ rfl zK)),H.pick [0,1]⟩)))
 rintro p ρ aa H
 have c:=x
 obtain ⟨I,q⟩:=l
 refine zB fun ab J=>zA<| zH p<| zH (.int .u64 q)<| zH (i6 h) ?_
 obtain ⟨K,L,c⟩:=zC c
 refine zZ rfl rfl (zS en208 rfl) (E.Fcnw I q h p _ L _ _ _ (H.enter [0] [1])) ?_
 rintro _ M ⟨j,rfl,N⟩
 have H:Hd _ _ M _ [.fz (.at 3 0 ((Fl.arr 20 (Fl.int .u64)).f zT)),.own (Rp.int .u8) j 5 K]:=H.back [0] [1] rfl N
 refine ⟨_,rfl,?_⟩
 refine zI j<| RN J ?_
 obtain rfl:=gI c
 refine (zW (fC (v1:=j) rfl rfl ?_))
 exact ⟨j,rfl,H.pick [1]⟩
theorem Fb1w (h:List Int)(a:Int)(b:Int)(v1:Value)(r:(List Int))(c:Fb1 h a b=some r)(O S:List Nat)(w:World)(H:Hd O w w S [.own (Rp.int .u8) v1 5 h,.fz (.at 3 0 ((Fl.arr 20 (Fl.int .u64)).f zT))]):
  Cl 112 [v1,i6 a,i6 b] w fun e i=> ∃u4,e= .returned (u4)∧Hd O w i S [.own (Rp.int .u8) u4 5 r]:=by
 unfold Fb1 at c
 refine CW 11 Tryz.func112 ?_
 refine zB fun p j=>zA<| zI (.slice none 0 0)<| RN j<| zB fun q k=>zA<| zH v1<| zH (i6 a)<| zH (i6 b) ?_
 obtain ⟨l,m,c⟩:=zC c
 refine zZ rfl rfl (zS en166 rfl) (Fbzw h a b v1 _ m _ _ _ (H.enter [0] [1])) ?_
 rintro _ n ⟨d,rfl,o⟩
 have H:Hd _ _ n _ [.fz (.at 3 0 ((Fl.arr 20 (Fl.int .u64)).f zT)),.own (Rp.int .u8) d 5 l]:=H.back [0] [1] rfl o
 refine ⟨_,rfl,?_⟩
 refine zI d<| RN k ?_
 obtain rfl:=gI c
 refine (zW (fC (v1:=d) rfl rfl ?_))
 exact ⟨d,rfl,H.pick [1]⟩
theorem Fatw (h:gU)(c:Int)(a:Nat)(d:Value)(r:gU)(b:Fat h c=some r)(O S:List Nat)(w:World)(H:Hd O w w S [.own (Rp.int .u8) d 5 h.out,.blk a [d] 63,.fz (.at 3 0 ((Fl.arr 20 (Fl.int .u64)).f zT))]):
  Cl 47 [gV a,i6 c] w fun e m=> ∃j,e= .returned (.tuple #[])∧Hd O w m S [.own (Rp.int .u8) j 5 r.out,.blk a [j] 63]:=by
 unfold Fat at b
 refine CW 22 Tryz.func47 ?_
 refine zB fun x n=>zA<| zH (gV a)<| zH (gV a)<| zG (zN rfl)<| zG (aEp rfl)<| Ld aNo H 1 0 rfl rfl<| zH (i6 c) ?_
 obtain ⟨o,p,b⟩:=zC b
 refine zZ rfl rfl (zS en112 rfl) (Fb1w h.out c 10 d _ p _ _ _ (H.enter [0] [2])) ?_
 rintro _ q ⟨k,rfl,s⟩
 have H:Hd _ _ q _ [.blk a [d] 63,.fz (.at 3 0 ((Fl.arr 20 (Fl.int .u64)).f zT)),.own (Rp.int .u8) k 5 o]:=H.back [0] [2] rfl s
 refine ⟨_,rfl,?_⟩
 refine zG (zN rfl)<| zG (aEp rfl)<| yP rfl (xE H 0 rfl sz61 rfl (v:=k) rfl (bC (H.item (i:=2) rfl)) rfl) ?_
 rintro y H
 refine RN n<| zA<| zH (gV a)<| zH (gV a)<| zG (zN rfl)<| zG (aEp rfl)<| Ld aNo H 0 0 rfl rfl ?_
 obtain ⟨z,t,b⟩:=zD b
 subst t
 refine yQ rfl rfl (aX (r:=(Rp.int .u8)) (xl:=[32]) (cs:=[.int .u8 32]) u61 el5 (by decide) (by decide) rfl (xH (vs:=[.int .u8 32]) (by decide) rfl rfl ⟨rfl,trivial⟩ rfl) H ⟨[.int .u8 32],[],rfl,rfl,rfl⟩) ?_
 rintro A B H
 obtain ⟨C,u,b⟩:=zC b
 refine yQ rfl rfl (aJ H (i:=2) rfl u61 el5 rfl rfl (Sr.of_own (H.item (i:=3) rfl)) u) ?_
 rintro l D H
 refine zG (zN rfl)<| zG (aEp rfl)<| yP rfl (xE H 0 rfl sz61 rfl (v:=l) rfl (bC (H.item (i:=2) rfl)) rfl) ?_
 rintro E H
 obtain rfl:=gI b
 refine (yA (nJ rfl ?_))
 exact ⟨l,rfl,H.pick [2,0]⟩
theorem Fb9w (l:gU)(k:List Int)(d:Nat)(m:Value)(h:Value)(r:gU)(c:Fb9 l k=some r)(O S:List Nat)(w:World)(H:Hd O w w S [.own (Rp.int .u8) m 5 l.out,.blk d [m] 63,f1 (Rp.int .i64) h k,.fz (.at 3 0 ((Fl.arr 20 (Fl.int .u64)).f zT))]):
  Cl 157 [gV d,h] w fun e B=> ∃u8,e= .returned (.tuple #[])∧Hd O w B S [.own (Rp.int .u8) u8 5 r.out,.blk d [u8] 63]:=by
 unfold Fb9 at c
 refine CW 21 Tryz.func157 ?_
 refine zB fun K9 C=>zA<| zH (gV d)<| zH h ?_
 obtain ⟨D,E,c⟩:=zD c
 obtain ⟨al,am,F⟩:=SlF.len ((H.item (i:=2) rfl))
 refine zG (yJ (xO u38 F) (congrArg (Value.int .i64) E)) ?_
 obtain ⟨t,G,c⟩:=zC c
 refine zZ rfl rfl (zS en47 rfl) (Fatw (gU.mk l.out) D d m _ G _ _ _ (H.enter [0,1] [3])) ?_
 rintro _ I ⟨n,rfl,J⟩
 have H:Hd _ _ I _ [f1 (Rp.int .i64) h k,.fz (.at 3 0 ((Fl.arr 20 (Fl.int .u64)).f zT)),.own (Rp.int .u8) n 5 t.out,.blk d [n] 63]:=H.back [0,1] [3] rfl J
 refine ⟨_,rfl,?_⟩
 refine RN C<| zB fun an K=>zA<| zI (i6 0)<| RN K<| yD ?_
 unfold Few at c
 obtain ⟨L,u,M,c⟩:=yT c
 refine xB [4,9,10,11,12,13,14,15,16,17,18,19,20] (fun (g:Nat×Int×(List Int)×Value)=>[(4,i6 g.2.1)]) (fun g wl=>Hd O w wl S [f1 (Rp.int .i64) h k,.fz (.at 3 0 ((Fl.arr 20 (Fl.int .u64)).f zT)),.blk d [g.2.2.2] 63,.own (Rp.int .u8) g.2.2.2 5 g.2.2.1]∧fV L g.1 (g.2.1,g.2.2.1)=some r) (fun g=>g.1) (u,0,t.out,n) (zJ rfl zK) ⟨H.pick [0,1,3,2],c⟩ ?_
 clear H c
 rintro ⟨u,j,N,v⟩ ρ ao ⟨H,c⟩
 obtain ⟨P,rfl,c⟩:=yZ c
 have c:=yY M c
 refine zB fun ap Q=>?_
 refine zB fun aq R=>zA<| zH (i6 j)<| zH h ?_
 obtain ⟨T,U,c⟩:=zD c
 obtain ⟨ar,au,V⟩:=SlF.len ((H.item (i:=0) rfl))
 refine zG (yJ (xO u38 V) (congrArg (Value.int .i64) U)) ?_
 obtain ⟨X,Y,c⟩:=zD c
 refine zG (zL (xP (a:=j) (b:=T) rfl rfl) Y)<| RN R<| zY (b:=X) rfl (fun o=>?_) (fun o=>?_)
 ·have c:=zO o c
  refine zX (zF (Q _ _ ?_))
  refine zB fun av Z=>?_
  refine yD ?_
  refine zA ?_
  refine zH (gV d)<| zH h<| zH (i6 j) ?_
  obtain ⟨p,q,c⟩:=zC c
  obtain ⟨x,y,aw,aa,ab,ac,ad,ae,af⟩:=dI (H.item (i:=0) rfl) q
  obtain rfl:aa= [i6 p]:=ac
  have H:=H.fz (.at x (y+j.toNat * 1) _) ⟨ad,ae,af⟩
  refine zG (xC u38 sz3 ab rfl (yC q).1 (yC q).2.1 rfl rfl)<| zG (xG fM rfl (Cells.get (H.item (i:=4) rfl).2.2 (i:=0) rfl)) ?_
  obtain ⟨z,ag,c⟩:=zC c
  refine zZ rfl rfl (zS en47 rfl) (Fatw (gU.mk N) p d v _ ag _ _ _ (H.enter [3,2] [1])) ?_
  rintro _ ah ⟨s,rfl,ai⟩
  have H:Hd _ _ ah _ [f1 (Rp.int .i64) h k,.fz (.at 3 0 ((Fl.arr 20 (Fl.int .u64)).f zT)),.fz (.at x (y+j.toNat * 1) [i6 p]),.own (Rp.int .u8) s 5 z.out,.blk d [s] 63]:=H.back [3,2] [1] rfl ai
  refine ⟨_,rfl,?_⟩
  refine (yA (yH (zF (Z _ _ ?_))))
  refine zA ?_
  refine zH (i6 j) ?_
  obtain ⟨A,aj,c⟩:=zD c
  refine zG (xM (a:=j) (b:=1) rfl rfl aj)<| zI (i6 A) ?_
  exact (yA (zF (meet ⟨(P,A,z.out,s),(zJ rfl zK),⟨H.pick [0,1,4,3],c⟩,Nat.lt_succ_self _⟩)))
 have c:=zQ o c
 obtain rfl:=gI c
 refine (xI (yI (yI (yV (nJ rfl ?_)))))
 exact ⟨v,rfl,H.pick [3,2]⟩
theorem Fcdw (m:gU)(k:List (List Int))(d:Nat)(n:Value)(h:Value)(r:gU)(c:Fcd m k=some r)(O S:List Nat)(w:World)(H:Hd O w w S [.own (Rp.int .u8) n 5 m.out,.blk d [n] 63,.fz (.sl (Rp.sl (Rp.int .i64)) h k),.fz (.at 3 0 ((Fl.arr 20 (Fl.int .u64)).f zT))]):
  Cl 99 [gV d,h] w fun e C=> ∃u8,e= .returned (.tuple #[])∧Hd O w C S [.own (Rp.int .u8) u8 5 r.out,.blk d [u8] 63]:=by
 unfold Fcd at c
 refine CW 21 Tryz.func99 ?_
 refine zB fun K9 D=>zA<| zH (gV d)<| zH h ?_
 obtain ⟨E,F,c⟩:=zD c
 obtain ⟨am,an,G⟩:=SlF.len ((H.item (i:=2) rfl))
 refine zG (yJ (xO u28 G) (congrArg (Value.int .i64) F)) ?_
 obtain ⟨u,I,c⟩:=zC c
 refine zZ rfl rfl (zS en47 rfl) (Fatw (gU.mk m.out) E d n _ I _ _ _ (H.enter [0,1] [3])) ?_
 rintro _ J ⟨o,rfl,K⟩
 have H:Hd _ _ J _ [.fz (.sl (Rp.sl (Rp.int .i64)) h k),.fz (.at 3 0 ((Fl.arr 20 (Fl.int .u64)).f zT)),.own (Rp.int .u8) o 5 u.out,.blk d [o] 63]:=H.back [0,1] [3] rfl K
 refine ⟨_,rfl,?_⟩
 refine RN D<| zB fun ao L=>zA<| zI (i6 0)<| RN L<| yD ?_
 unfold Fem at c
 obtain ⟨M,v,N,c⟩:=yT c
 refine xB [4,9,10,11,12,13,14,15,16,17,18,19,20] (fun (g:Nat×Int×(List Int)×Value)=>[(4,i6 g.2.1)]) (fun g wl=>Hd O w wl S [.fz (.sl (Rp.sl (Rp.int .i64)) h k),.fz (.at 3 0 ((Fl.arr 20 (Fl.int .u64)).f zT)),.blk d [g.2.2.2] 63,.own (Rp.int .u8) g.2.2.2 5 g.2.2.1]∧fV M g.1 (g.2.1,g.2.2.1)=some r) (fun g=>g.1) (v,0,u.out,o) (zJ rfl zK) ⟨H.pick [0,1,3,2],c⟩ ?_
 clear H c
 rintro ⟨v,j,P,x⟩ ρ ap ⟨H,c⟩
 obtain ⟨Q,rfl,c⟩:=yZ c
 have c:=yY N c
 refine zB fun aq R=>?_
 refine zB fun ar T=>zA<| zH (i6 j)<| zH h ?_
 obtain ⟨U,V,c⟩:=zD c
 obtain ⟨au,av,X⟩:=SlF.len ((H.item (i:=0) rfl))
 refine zG (yJ (xO u28 X) (congrArg (Value.int .i64) V)) ?_
 obtain ⟨Y,Z,c⟩:=zD c
 refine zG (zL (xP (a:=j) (b:=U) rfl rfl) Z)<| RN T<| zY (b:=Y) rfl (fun p=>?_) (fun p=>?_)
 ·have c:=zO p c
  refine zX (zF (R _ _ ?_))
  refine zB fun aw aa=>?_
  refine yD ?_
  refine zA ?_
  refine zH (gV d)<| zH h<| zH (i6 j) ?_
  obtain ⟨q,s,c⟩:=zC c
  obtain ⟨y,z,ax,ay,ab,ac,ad,ae,af⟩:=dI (H.item (i:=0) rfl) s
  obtain ⟨l,rfl,ag⟩:=ac
  have H:=H.fzs [.at y (z+j.toNat * 1) _,.sl (Rp.int .i64) l q] ⟨⟨ad,ae,af⟩,ag,trivial⟩
  refine zG (xC u28 aKw ab rfl (yC s).1 (yC s).2.1 rfl rfl)<| zG (xG rO rfl (Cells.get (H.item (i:=4) rfl).2.2 (i:=0) rfl)) ?_
  obtain ⟨A,ah,c⟩:=zC c
  refine zZ rfl rfl (zS en157 rfl) (Fb9w (gU.mk P) q d x l _ ah _ _ _ (H.enter [3,2] [5,1])) ?_
  rintro _ ai ⟨t,rfl,aj⟩
  have H:Hd _ _ ai _ [.fz (.sl (Rp.sl (Rp.int .i64)) h k),.fz (.at 3 0 ((Fl.arr 20 (Fl.int .u64)).f zT)),.fz (.at y (z+j.toNat * 1) [l]),f1 (Rp.int .i64) l q,.own (Rp.int .u8) t 5 A.out,.blk d [t] 63]:=H.back [3,2] [5,1] rfl aj
  refine ⟨_,rfl,?_⟩
  refine (yA (yH (zF (aa _ _ ?_))))
  refine zA ?_
  refine zH (i6 j) ?_
  obtain ⟨B,ak,c⟩:=zD c
  refine zG (xM (a:=j) (b:=1) rfl rfl ak)<| zI (i6 B) ?_
  exact (yA (zF (meet ⟨(Q,B,A.out,t),(zJ rfl zK),⟨H.pick [0,1,5,4],c⟩,Nat.lt_succ_self _⟩)))
 have c:=zQ p c
 obtain rfl:=gI c
 refine (xI (yI (yI (yV (nJ rfl ?_)))))
 exact ⟨x,rfl,H.pick [3,2]⟩
theorem Fdaw (d:gU)(b:Int)(a:Nat)(h:Value)(r:gU)(c:Fda d b=some r)(O S:List Nat)(w:World)(H:Hd O w w S [.own (Rp.int .u8) h 5 d.out,.blk a [h] 63,.fz (.at 3 0 ((Fl.arr 20 (Fl.int .u64)).f zT))]):
  Cl 57 [gV a,i6 b] w fun e k=> ∃j,e= .returned (.tuple #[])∧Hd O w k S [.own (Rp.int .u8) j 5 r.out,.blk a [j] 63]:=by
 unfold Fda at c
 refine CW 7 Tryz.func57 ?_
 refine zA ?_
 refine zH (gV a)<| zH (i6 b) ?_
 obtain ⟨l,m,c⟩:=zC c
 refine zZ rfl rfl (zS en47 rfl) (Fatw (gU.mk d.out) b a h _ m _ _ _ (H.enter [0,1] [2])) ?_
 rintro _ n ⟨i,rfl,o⟩
 have H:Hd _ _ n _ [.fz (.at 3 0 ((Fl.arr 20 (Fl.int .u64)).f zT)),.own (Rp.int .u8) i 5 l.out,.blk a [i] 63]:=H.back [0,1] [2] rfl o
 refine ⟨_,rfl,?_⟩
 obtain rfl:=gI c
 refine (yA (nJ rfl ?_))
 exact ⟨i,rfl,H.pick [1,2]⟩
theorem Fbvw (c:List (List Int))(d:Int)(v1:Value)(r:Str)(b:Fbv c d=some r)(O S:List Nat)(w:World)(H:Hd O w w S [.fz (.sl (Rp.sl (Rp.int .i64)) v1 c),.fz (.at 3 0 ((Fl.arr 20 (Fl.int .u64)).f zT))]):
  Cl 38 [v1,i6 d] w fun e n=>e= .returned (sb r)∧Hd O w n S []:=by
 unfold Fbv at b
 refine CW 16 Tryz.func38 ?_
 refine zB fun F o=>zA<| zI (.string (bs []))<| RN o<| zB fun G p=>zA<| zG (xJ (cs:=[.slice none 0 0]) bz63)<| yQ rfl rfl (xR (cs:=[.slice none 0 0]) rfl H) ?_
 rintro _ I ⟨a,rfl,H⟩
 refine zI (gV a)<| RN p<| zB fun J q=>zA<| zH (gV a)<| zH v1 ?_
 have H:=bY H (Rp.int .u8) 5
 obtain ⟨k,s,b⟩:=zC b
 refine zZ rfl rfl (zS en99 rfl) (Fcdw (gU.mk []) c a (.slice none 0 0) v1 _ s _ _ _ (H.enter [3,2] [0,1])) ?_
 rintro _ t ⟨j,rfl,u⟩
 have H:Hd _ _ t _ [.fz (.sl (Rp.sl (Rp.int .i64)) v1 c),.fz (.at 3 0 ((Fl.arr 20 (Fl.int .u64)).f zT)),.own (Rp.int .u8) j 5 k.out,.blk a [j] 63]:=H.back [3,2] [0,1] rfl u
 refine ⟨_,rfl,?_⟩
 refine RN q<| zB fun K v=>zA<| zH (gV a)<| zH (i6 d) ?_
 obtain ⟨h,y,b⟩:=zC b
 refine zZ rfl rfl (zS en57 rfl) (Fdaw (gU.mk k.out) d a j _ y _ _ _ (H.enter [2,3] [1])) ?_
 rintro _ z ⟨l,rfl,A⟩
 have H:Hd _ _ z _ [.fz (.sl (Rp.sl (Rp.int .i64)) v1 c),.fz (.at 3 0 ((Fl.arr 20 (Fl.int .u64)).f zT)),.own (Rp.int .u8) l 5 h.out,.blk a [l] 63]:=H.back [2,3] [1] rfl A
 refine ⟨_,rfl,?_⟩
 refine RN v<| zB fun L B=>zA<| zH (gV a) ?_
 have C:=H
 have H:=H.freezeB (i:=3) rfl
 have H:=H.freeze (i:=2) rfl
 have H:=H.fz (.pt aY (some ⟨a,0,none⟩) (some h)) ⟨_,_,_,rfl,(H.item (i:=3) rfl).1,(H.item (i:=3) rfl).2.1,(uX (x:=h) (H.item (i:=2) rfl)),(H.item (i:=3) rfl).2.2⟩
 obtain ⟨m,D,b⟩:=zC b
 refine zZ rfl rfl (zS en28 rfl) (Fc6w (some h) (some ⟨a,0,none⟩) _ D _ _ _ (H.enter [] [4])) ?_
 rintro _ M ⟨rfl,E⟩
 have H:=C.step (E.only:Only [] _ _)
 refine ⟨_,rfl,?_⟩
 refine zI (sb m)<| RN B ?_
 obtain rfl:=gI b
 refine (zW (fC (v1:=sb m) rfl rfl ?_))
 exact ⟨rfl,H.pick []⟩
abbrev Fd2 (f:Cond→Bool→Option Cond):Prop:= ∀(p0:Cond) (p1:Bool) (v1:Value) (r:Cond) (_:f p0 p1=some r) (O S:List Nat) (w:World) (_:Hd O w w S [f1 fA v1 p0.Kids]),
  Cl 115 [.agg [i6 p0.Kind,sb p0.Name,sb p0.Other,i6 p0.Op,i6 p0.N,i6 p0.Frames,v1].toArray,.bool p1] w fun e w'=> ∃u3,e= .returned (.agg [i6 r.Kind,sb r.Name,sb r.Other,i6 r.Op,i6 r.N,i6 r.Frames,u3].toArray)∧Hd O w w' S [f1 fA u3 r.Kids]
end Go.Proofs.YtckmiljbaejijaaGreatDoor.L
