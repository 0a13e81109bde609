/- Walks: what each function computes, for every argument; no condition but those that stand in the statements. -/
import Derived.Test.YtgmikmoapfmedaaGreatDoorVV0
namespace Go.Proofs.YtgmikmoapfmedaaGreatDoor.L
open Go.RowKit Go.OB Go.Lf
set_option maxHeartbeats 4000000
theorem Fb7w (c:gB)(g:Int)(f:Nat)(h:Value)(i:Value)(j:Value)(r:gQ×gB)(d:Fb7 c g=some r)(O S:List Nat)(w:World)(H:Hd O w w S [.own Rp.str h 9 c.r.Phases,.own gX i 129 c.r.Moves,.own gY j 132 c.r.Rules,.blk f [sb c.text,i6 c.at_,i6 c.now.kind,i6 c.now.at_,i6 c.now.n,sb c.now.text,h,i,j] 107,.fz (.gi 5)]):
  Cl 104 [gZ f,i6 g] w fun e o=> ∃k l m,e= .returned (.agg [i6 r.1.kind,i6 r.1.at_,i6 r.1.n,sb r.1.text].toArray)∧Hd O w o S [.own Rp.str k 9 r.2.r.Phases,.own gX l 129 r.2.r.Moves,.own gY m 132 r.2.r.Rules,.blk f [sb r.2.text,i6 r.2.at_,i6 r.2.now.kind,i6 r.2.now.at_,i6 r.2.now.n,sb r.2.now.text,k,l,m] 107]:=by
 unfold Fb7 at d
 refine CW 22 Tryz.func104 ?_
 refine zB fun E p=>zA<| yT rfl rfl (xE aDn H) ?_
 rintro _ F ⟨G,rfl,H⟩
 refine RN p<| zB fun I q=>zB fun J s=>zA<| zH (gZ f)<| zG (yF rfl)<| zG (dG rfl)<| zG (aC rfl)<| Ld fJ H 3 2 rfl rfl<| zH (i6 g) ?_
 obtain ⟨K,t,d⟩:=zC d
 refine zG (zL (eQ (a:=c.now.kind) (b:=g) rfl rfl) t)<| RN s ?_
 obtain ⟨u,d⟩:=yM d
 refine xM u ?_
 refine zQ (zF (q _ _ ?_))
 refine zB fun L v=>zA<| zH (gZ f)<| zG (yF rfl)<| zG (dG rfl)<| zG (yJ (yL (cs:=[i6 c.now.kind,i6 c.now.at_,i6 c.now.n,sb c.now.text]) aCv rfl vV rfl (Cells.drop (Hbc H 3 rfl) 2 4)) rfl)<| yT rfl rfl (xE aDn H) ?_
 rintro _ M ⟨N,rfl,H⟩
 refine xB rfl (yQ (vs:=[i6 c.now.kind,i6 c.now.at_,i6 c.now.n,sb c.now.text]) H 6 rfl vV rfl rfl rfl ⟨rfl,rfl,rfl,rfl,trivial⟩ rfl) ?_
 rintro P H
 refine RN v<| zB fun Q x=>zA<| zH (gZ f) ?_
 obtain ⟨R,y,d⟩:=zD d
 refine zT rfl rfl (zO en78 rfl) (Fajw (gB.mk c.text c.at_ (gQ.mk c.now.kind c.now.at_ c.now.n c.now.text) (Rules.mk c.r.Phases c.r.Moves c.r.Rules)) f h i j _ y _ _ _ (H.enter [0,1,2,3] [4])) ?_
 rintro _ T ⟨z,A,B,rfl,C⟩
 have H:Hd _ _ _ _ [_,_,_,_,_,_,_]:=H.back [0,1,2,3] [4] rfl C
 refine ⟨_,rfl,?_⟩
 refine RN x<| zB fun U D=>zA<| zG (yJ (yL (cs:=[i6 c.now.kind,i6 c.now.at_,i6 c.now.n,sb c.now.text]) aCv rfl vV rfl (Hbc H 2 rfl)) rfl)<| xB rfl (yQ (vs:=[i6 c.now.kind,i6 c.now.at_,i6 c.now.n,sb c.now.text]) H 1 rfl vV rfl rfl rfl ⟨rfl,rfl,rfl,rfl,trivial⟩ rfl) ?_
 rintro V H
 refine RN D ?_
 obtain rfl:=gI d
 refine (zX (nT rfl rfl (yP aCv vV rfl (Hbc H 1 rfl)) ?_))
 exact ⟨z,A,B,rfl,H.pick [3,4,5,6]⟩
theorem Fccw (a:gB)(b:Nat)(d:Value)(f:Value)(g:Value)(r:Str×gB)(c:Fcc a=some r)(O S:List Nat)(w:World)(H:Hd O w w S [.own Rp.str d 9 a.r.Phases,.own gX f 129 a.r.Moves,.own gY g 132 a.r.Rules,.blk b [sb a.text,i6 a.at_,i6 a.now.kind,i6 a.now.at_,i6 a.now.n,sb a.now.text,d,f,g] 107,.fz (.gi 5)]):
  Cl 80 [gZ b] w fun e l=> ∃i j k,e= .returned (sb r.1)∧Hd O w l S [.own Rp.str i 9 r.2.r.Phases,.own gX j 129 r.2.r.Moves,.own gY k 132 r.2.r.Rules,.blk b [sb r.2.text,i6 r.2.at_,i6 r.2.now.kind,i6 r.2.now.at_,i6 r.2.now.n,sb r.2.now.text,i,j,k] 107]:=by
 unfold Fcc at c
 refine CW 6 Tryz.func80 ?_
 refine zB fun x m=>zA<| zI (.string (bs []))<| RN m<| zB fun y o=>zA<| zH (gZ b) ?_
 obtain ⟨⟨h,z⟩,p,c⟩:=zD c
 refine zT rfl rfl (zO en104 rfl) (Fb7w (gB.mk a.text a.at_ (gQ.mk a.now.kind a.now.at_ a.now.n a.now.text) (Rules.mk a.r.Phases a.r.Moves a.r.Rules)) 2 b d f g _ p _ _ _ (H.enter [0,1,2,3] [4])) ?_
 rintro _ A ⟨q,s,t,rfl,u⟩
 have H:Hd _ _ _ _ [_,_,_,_,_]:=H.back [0,1,2,3] [4] rfl u
 refine ⟨_,rfl,?_⟩
 refine zG (vU (v:=sb h.text) fo105_3 dQ rfl rfl)<| zI (sb h.text)<| RN o ?_
 obtain rfl:=gI c
 refine (zX (fB (v1:=sb h.text) rfl rfl ?_))
 exact ⟨q,s,t,rfl,H.pick [1,2,3,4]⟩
theorem Fcrw (a:gB)(d:Str)(c:Nat)(f:Value)(g:Value)(h:Value)(r:gB)(b:Fcr a d=some r)(O S:List Nat)(w:World)(H:Hd O w w S [.own Rp.str f 9 a.r.Phases,.own gX g 129 a.r.Moves,.own gY h 132 a.r.Rules,.blk c [sb a.text,i6 a.at_,i6 a.now.kind,i6 a.now.at_,i6 a.now.n,sb a.now.text,f,g,h] 107,.fz (.gi 5)]):
  Cl 81 [gZ c,sb d] w fun e m=> ∃j k l,e= .returned (.tuple #[])∧Hd O w m S [.own Rp.str j 9 r.r.Phases,.own gX k 129 r.r.Moves,.own gY l 132 r.r.Rules,.blk c [sb r.text,i6 r.at_,i6 r.now.kind,i6 r.now.at_,i6 r.now.n,sb r.now.text,j,k,l] 107]:=by
 unfold Fcr at b
 refine CW 12 Tryz.func81 ?_
 refine zB fun F o=>?_
 refine zB fun G q=>zA<| zH (gZ c)<| zH (sb d) ?_
 have s:=H
 have H:=H.freezeB (i:=3) rfl
 have H:=H.freeze (i:=0) rfl
 have H:=H.freeze (i:=1) rfl
 have H:=H.freeze (i:=2) rfl
 have H:=H.fz (.pt eG (some ⟨c,0,none⟩) (some a)) ⟨_,_,_,rfl,(H.item (i:=3) rfl).1,(H.item (i:=3) rfl).2.1,(dJ (x:=a) (H.item (i:=0) rfl) (H.item (i:=1) rfl) (H.item (i:=2) rfl)),(H.item (i:=3) rfl).2.2⟩
 obtain ⟨t,u,b⟩:=zD b
 refine zT rfl rfl (zO en79 rfl) (Fahw (some a) d (some ⟨c,0,none⟩) _ u _ _ _ (H.enter [] [5])) ?_
 rintro _ I ⟨rfl,v⟩
 have H:=s.step (v.only:Only [] _ _)
 refine ⟨_,rfl,?_⟩
 obtain ⟨J,y,b⟩:=zC b
 refine zG (zL (fU (p:=t) rfl) y)<| RN q ?_
 obtain ⟨z,b⟩:=yM b
 refine xM z ?_
 refine zQ (zF (o _ _ ?_))
 refine zA ?_
 refine zH (gZ c) ?_
 obtain ⟨K,A,b⟩:=zD b
 refine zT rfl rfl (zO en78 rfl) (Fajw (gB.mk a.text a.at_ (gQ.mk a.now.kind a.now.at_ a.now.n a.now.text) (Rules.mk a.r.Phases a.r.Moves a.r.Rules)) c f g h _ A _ _ _ (H.enter [0,1,2,3] [4])) ?_
 rintro _ L ⟨B,C,D,rfl,E⟩
 have H:Hd _ _ _ _ [_,_,_,_,_]:=H.back [0,1,2,3] [4] rfl E
 refine ⟨_,rfl,?_⟩
 obtain rfl:=gI b
 refine (zZ (nC rfl ?_))
 exact ⟨B,C,D,rfl,H.pick [1,2,3,4]⟩
theorem Fcfw (f:Option gB)(v1:Option Addr)(r:Bool)(c:Fcf f=some r)(O S:List Nat)(w:World)(H:Hd O w w S [.fz (.pt eG v1 f)]):
  Cl 141 [.pointer v1] w fun e j=>e= .returned (.bool r)∧Hd O w j S []:=by
 unfold Fcf at c
 refine CW 21 Tryz.func141 ?_
 refine zB fun F k=>zA<| zI (.bool false)<| RN k<| zB fun G I=>zB fun J l=>zA<| zH (.pointer v1) ?_
 obtain ⟨d,m,c⟩:=zD c
 obtain ⟨g,h,K,n,o,p,q,s⟩:=qN ((H.item (i:=0) rfl):PtF _ _ _ _ _) m
 obtain ⟨t,u,v,rfl,x,y,z⟩:=bJ q
 have H:=H.fzs [.at g h _,.sl Rp.str t d.r.Phases,.sl gX u d.r.Moves,.sl gY v d.r.Rules] ⟨⟨o,p,s⟩,x,y,z,trivial⟩
 refine zG (yF (ad:=⟨g,h,none⟩) (congrArg Value.pointer n))<| zG (dG rfl)<| zG (aC rfl)<| zG (yZ fJ rfl (Cells.get (H.item (i:=1) rfl).2.2 (i:=2) rfl))<| RN l<| zY<| zB fun L A=>zA ?_
 obtain ⟨B,C,c⟩:=zC c
 refine zG (zL (fV (a:=d.now.kind) (b:=2) rfl rfl) C)<| zI (.bool B)<| RN A ?_
 obtain ⟨D,c⟩:=eX c
 refine kF D ?_
 refine zB fun M E=>zA<| zI (.bool true)<| RN E ?_
 obtain rfl:=gI c
 refine (zX (yE (zS (fB (v1:= .bool true) rfl rfl ?_))))
 exact ⟨rfl,H.pick []⟩
theorem Fa2w (h:List Str)(f:Str)(v1:Value)(r:Int)(c:Fa2 h f=some r)(O S:List Nat)(w:World)(H:Hd O w w S [f1 Rp.str v1 h]):
  Cl 90 [v1,sb f] w fun e p=>e= .returned (i6 r)∧Hd O w p S []:=by
 unfold Fa2 at c
 refine CW 19 Tryz.func90 ?_
 refine zB fun K3 q=>zA<| zI (i6 0)<| RN q ?_
 obtain ⟨s,t,c⟩:=xH c
 refine yI [4,5,6,7,8,9,10,11,12,13,14,15,16,17,18] (fun (g:Unit)=>[]) (fun g wl=>Hd O w wl S []∧s ()=some r) ?_ ?_
 ·skip
  refine zB fun ab u=>zA<| zH v1 ?_
  obtain ⟨v,x,c⟩:=zC c
  obtain ⟨ac,ad,y⟩:=SlF.len ((H.item (i:=0) rfl))
  refine zG (yJ (xJ u36 y) (congrArg (Value.int .i64) x))<| zH (i6 0)<| RN u<| zY ?_
  unfold Fda at c
  obtain ⟨z,m,A,c⟩:=yK c
  refine yX [4,5,8,9,10,11,12,13,14,15,16,17,18] (fun (g:Nat×Int)=>[(8,i6 g.2)]) (fun g wl=>Hd O w wl S [f1 Rp.str v1 h]∧fE z g.1 g.2=some r) (fun g=>g.1) (m,0) (zJ rfl zK) ⟨H.pick [0],c⟩ ?_
  clear H c
  rintro ⟨m,d⟩ ρ ae ⟨H,c⟩
  obtain ⟨B,rfl,c⟩:=yO c
  have c:=yN A c
  refine zB fun af C=>zA ?_
  obtain ⟨D,E,c⟩:=zC c
  refine zG (zL (xI (a:=d) (b:=v) rfl rfl) E)<| RN C<| zB fun ag F=>yC (b:=D) rfl (fun j=>?_) (fun j=>?_)
  ·have c:=zU j c
   refine zQ (zF (F _ _ ?_))
   refine zB fun ah G=>?_
   refine zY ?_
   refine zB fun ai I=>zA<| zH (i6 d)<| zI (i6 d)<| RN I<| zB fun aj J=>zA<| zH (sb f)<| zH v1<| zH (i6 d) ?_
   obtain ⟨n,k,c⟩:=zD c
   obtain ⟨K,L,ak,M,N,P,Q,R,T⟩:=xU (H.item (i:=0) rfl) k
   obtain rfl:M= [sb n]:=P
   have H:=H.fz (.at K (L+d.toNat * 1) _) ⟨Q,R,T⟩
   refine zG (yU u36 sz9 N rfl (zN k).1 (zN k).2.1 rfl rfl)<| zG (yZ dQ rfl (Cells.get (H.item (i:=1) rfl).2.2 (i:=0) rfl)) ?_
   obtain ⟨U,V,c⟩:=zC c
   refine zG (zL (fO (s1:=f) (s2:=n) rfl rfl) V)<| RN J<| yC (b:=U) rfl (fun l=>?_) (fun l=>?_)
   ·have c:=zU l c
    refine zB fun al X=>zA<| zH (i6 d)<| zI (i6 d)<| RN X ?_
    obtain rfl:=gI c
    refine (zX (yE (zS (zS (yE (zS (fB (v1:=i6 d) rfl rfl ?_)))))))
    exact ⟨rfl,H.pick []⟩
   have c:=zV l c
   refine (zQ (yV (zF (G _ _ ?_))))
   refine zA ?_
   obtain ⟨o,Y,c⟩:=zC c
   refine zG (xP (a:=d) (b:=1) rfl rfl Y)<| zH (i6 o) ?_
   exact (zZ (zF (meet ⟨(B,o),(zJ rfl zK),⟨H.pick [0],c⟩,Nat.lt_succ_self _⟩)))
  have c:=zV j c
  exact (xG (yD (yD (yS (zF (meet ⟨(),zK,⟨H.pick [],c⟩⟩))))))
 rintro _ ρ am ⟨H,c⟩
 have c:=xO t c
 refine zB fun an Z=>zA<| zI (i6 (-1))<| RN Z ?_
 obtain rfl:=gI c
 refine (zX (fB (v1:=i6 (-1)) rfl rfl ?_))
 exact ⟨rfl,H.pick []⟩
theorem Fcmw (a:gB)(b:Nat)(d:Value)(f:Value)(g:Value)(r:Int×gB)(c:Fcm a=some r)(O S:List Nat)(w:World)(H:Hd O w w S [.own Rp.str d 9 a.r.Phases,.own gX f 129 a.r.Moves,.own gY g 132 a.r.Rules,.blk b [sb a.text,i6 a.at_,i6 a.now.kind,i6 a.now.at_,i6 a.now.n,sb a.now.text,d,f,g] 107,.fz (.gi 5)]):
  Cl 144 [gZ b] w fun e l=> ∃i j k,e= .returned (i6 r.1)∧Hd O w l S [.own Rp.str i 9 r.2.r.Phases,.own gX j 129 r.2.r.Moves,.own gY k 132 r.2.r.Rules,.blk b [sb r.2.text,i6 r.2.at_,i6 r.2.now.kind,i6 r.2.now.at_,i6 r.2.now.n,sb r.2.now.text,i,j,k] 107]:=by
 unfold Fcm at c
 refine CW 6 Tryz.func144 ?_
 refine zB fun x m=>zA<| zI (i6 0)<| RN m<| zB fun y o=>zA<| zH (gZ b) ?_
 obtain ⟨⟨h,z⟩,p,c⟩:=zD c
 refine zT rfl rfl (zO en104 rfl) (Fb7w (gB.mk a.text a.at_ (gQ.mk a.now.kind a.now.at_ a.now.n a.now.text) (Rules.mk a.r.Phases a.r.Moves a.r.Rules)) 3 b d f g _ p _ _ _ (H.enter [0,1,2,3] [4])) ?_
 rintro _ A ⟨q,s,t,rfl,u⟩
 have H:Hd _ _ _ _ [_,_,_,_,_]:=H.back [0,1,2,3] [4] rfl u
 refine ⟨_,rfl,?_⟩
 refine zG (vU (v:=i6 h.n) fo105_2 fJ rfl rfl)<| zI (i6 h.n)<| RN o ?_
 obtain rfl:=gI c
 refine (zX (fB (v1:=i6 h.n) rfl rfl ?_))
 exact ⟨q,s,t,rfl,H.pick [1,2,3,4]⟩
theorem Fcvw (d:gB)(g:Nat)(q:Value)(s:Value)(t:Value)(r:Cond×gB)(c:Fcv d=some r)(O S:List Nat)(w:World)(H:Hd O w w S [.own Rp.str q 9 d.r.Phases,.own gX s 129 d.r.Moves,.own gY t 132 d.r.Rules,.blk g [sb d.text,i6 d.at_,i6 d.now.kind,i6 d.now.at_,i6 d.now.n,sb d.now.text,q,s,t] 107,.fz (.at 1 0 ((Fl.arr 7 Fl.str).f zW)),.fz (.gi 5)]):
  Cl 142 [gZ g] w fun e k=> ∃x y z A,e= .returned (.agg [i6 r.1.Kind,sb r.1.Name,sb r.1.Other,i6 r.1.Op,i6 r.1.N,i6 r.1.Frames,x].toArray)∧Hd O w k S [f1 fM x r.1.Kids,.own Rp.str y 9 r.2.r.Phases,.own gX z 129 r.2.r.Moves,.own gY A 132 r.2.r.Rules,.blk g [sb r.2.text,i6 r.2.at_,i6 r.2.now.kind,i6 r.2.now.at_,i6 r.2.now.n,sb r.2.now.text,y,z,A] 107]:=by
 unfold Fcv at c
 refine CW 45 Tryz.func142 ?_
 refine zB fun au C=>zA<| yT rfl rfl (xE kV H) ?_
 rintro _ av ⟨aw,rfl,H⟩
 refine RN C<| zB fun ax D=>zA<| zH (gZ g) ?_
 obtain ⟨⟨p,h⟩,E,c⟩:=zD c
 refine zT rfl rfl (zO en80 rfl) (Fccw (gB.mk d.text d.at_ (gQ.mk d.now.kind d.now.at_ d.now.n d.now.text) (Rules.mk d.r.Phases d.r.Moves d.r.Rules)) g q s t _ E _ _ _ (H.enter [0,1,2,3] [5])) ?_
 rintro _ ay ⟨F,G,I,rfl,J⟩
 have H:Hd _ _ _ _ [_,_,_,_,_,_,_]:=H.back [0,1,2,3] [5] rfl J
 refine ⟨_,rfl,?_⟩
 refine zG (eY (cs:=[i6 3,sb p,.string (bs []),i6 0,i6 0,i6 0,.slice none 0 0]) (bt127_0_1 _ _))<| yT rfl rfl (xE kV H) ?_
 rintro _ az ⟨a0,rfl,H⟩
 refine xB rfl (yQ (vs:=[i6 3,sb p,.string (bs []),i6 0,i6 0,i6 0,.slice none 0 0]) H 7 rfl dP rfl rfl rfl ⟨rfl,rfl,rfl,rfl,rfl,rfl,rfl,trivial⟩ rfl) ?_
 rintro a1 H
 refine RN D<| zB fun a2 K=>?_
 have L:=H
 have H:=H.rebase
 have a3:=H
 refine WP_mix0 H [0,1,2,3,4,5,6,7,8] (kz [0,0,0,0,0,1,1,0,3]) mixed ?_
 refine MxM.XL_exP rfl rfl rfl (aDh (e:=Fl.str) (X:=zW) (r:=Rp.str) (fun _ _ _ _=>Iff.rfl) rfl u201 sz9 (H.item (i:=0) rfl).1 (H.item (i:=0) rfl).2.1 (H.item (i:=0) rfl).2.2 rfl (by decide)) ?_
 rintro B M
 have H:=H.fz (.sl Rp.str B zW.l) M
 refine XM (gZ g)<| XP (fun _ _=>yF rfl)<| XP (fun _ _=>dG rfl)<| XP (fun _ _=>qM rfl)<| XR dQ H 6 5 rfl rfl ?_
 have P:=H
 obtain ⟨m,Q,c⟩:=zD c
 refine MxM.XL_call oS rfl rfl rfl (v:=i6 m) (fun k o=>zO en90 rfl) (fun k o=>jO (Fa2w zW.l h.now.text B _ Q _ _ _ ((H.sees o).enter [] [8]))) ?_
 have H:=P
 refine XP (fun _ _=>aAk rfl)<| MxM.XL_exU oS rfl rfl (fun k o=>xQ (H.sees o) 7 rfl sz3 rfl (v:=i6 m) rfl rfl rfl) ?_
 rintro k a4 o H
 refine ⟨H.only,?_⟩
 refine MxM.XL_nil fun a5 hS=>?_
 have H:=H.sees hS
 have H:=L.rejoin H
 refine (zF (K _ _ ?_))
 refine zB fun a6 R=>?_
 refine zB fun a7 T=>zA<| zH (gZ g)<| zG (yF rfl)<| zG (dG rfl)<| zG (aC rfl)<| Ld fJ H 6 2 rfl rfl ?_
 obtain ⟨a8,U,c⟩:=zC c
 refine zG (zL (eQ (a:=h.now.kind) (b:=4) rfl rfl) U) ?_
 obtain ⟨V,c⟩:=yM c
 refine dL false V ?_
 refine zG (aAk rfl)<| Ld fJ H 7 3 rfl rfl ?_
 obtain ⟨Y,Z,c⟩:=zC c
 refine zG (zL (xI (a:=m) (b:=1) rfl rfl) Z)<| zG (yB (v:= .bool Y) rfl rfl)<| RN T ?_
 obtain ⟨aa,c⟩:=yM c
 refine xM aa ?_
 refine zQ (zF (R _ _ ?_))
 refine zB fun a9 ab=>zA<| zH (gZ g) ?_
 obtain ⟨j,ac,c⟩:=zD c
 refine zT rfl rfl (zO en78 rfl) (Fajw (gB.mk h.text h.at_ (gQ.mk h.now.kind h.now.at_ h.now.n h.now.text) (Rules.mk h.r.Phases h.r.Moves h.r.Rules)) g F G I _ ac _ _ _ (H.enter [3,4,5,6] [1])) ?_
 rintro _ ba ⟨ad,ae,af,rfl,ag⟩
 have H:Hd _ _ _ _ [_,_,_,_,_,_,_,_,_]:=H.back [3,4,5,6] [1] rfl ag
 refine ⟨_,rfl,?_⟩
 refine RN ab<| zB fun bb ah=>zB fun bc ai=>zA<| zH (gZ g)<| zG (yF rfl)<| zG (dG rfl)<| zG (aC rfl)<| Ld fJ H 8 2 rfl rfl ?_
 obtain ⟨bd,aj,c⟩:=zC c
 refine zG (zL (fV (a:=j.now.kind) (b:=2) rfl rfl) aj)<| RN ai ?_
 obtain ⟨ak,c⟩:=yM c
 refine xM ak ?_
 refine zQ (zF (ah _ _ ?_))
 refine zB fun be al=>zA<| zH (gZ g) ?_
 obtain ⟨⟨u,bf⟩,am,c⟩:=zD c
 refine zT rfl rfl (zO en144 rfl) (Fcmw (gB.mk j.text j.at_ (gQ.mk j.now.kind j.now.at_ j.now.n j.now.text) (Rules.mk j.r.Phases j.r.Moves j.r.Rules)) g ad ae af _ am _ _ _ (H.enter [5,6,7,8] [1])) ?_
 rintro _ bg ⟨an,ao,ap,rfl,aq⟩
 have H:Hd _ _ _ _ [_,_,_,_,_,_,_,_,_]:=H.back [5,6,7,8] [1] rfl aq
 refine ⟨_,rfl,?_⟩
 refine zG (aEr rfl)<| xB rfl (xQ H 3 rfl sz3 rfl (v:=i6 u) rfl rfl rfl) ?_
 rintro bh H
 refine RN al<| zB fun bi ar=>zA<| zG (yJ (yL (cs:=[i6 3,sb p,.string (bs []),i6 m,i6 u,i6 0,.slice none 0 0]) dX rfl dP rfl (Hbc H 3 rfl)) rfl)<| xB rfl (yQ (vs:=[i6 3,sb p,.string (bs []),i6 m,i6 u,i6 0,.slice none 0 0]) H 2 rfl dP rfl rfl rfl ⟨rfl,rfl,rfl,rfl,rfl,rfl,rfl,trivial⟩ rfl) ?_
 rintro bj H
 refine RN ar ?_
 have H:=H.fz (.sl fM (.slice none 0 0) []) SlF.nil
 obtain rfl:=gI c
 refine (zX (nT rfl rfl (yP dX dP rfl (Hbc H 2 rfl)) ?_))
 exact ⟨.slice none 0 0,an,ao,ap,rfl,H.pick [9,5,6,7,8]⟩
theorem Fcxw (c:gB)(j:Int)(g:Nat)(k:Value)(l:Value)(m:Value)(r:Cond×gB)(d:Fcx c j=some r)(O S:List Nat)(w:World)(H:Hd O w w S [.own Rp.str k 9 c.r.Phases,.own gX l 129 c.r.Moves,.own gY m 132 c.r.Rules,.blk g [sb c.text,i6 c.at_,i6 c.now.kind,i6 c.now.at_,i6 c.now.n,sb c.now.text,k,l,m] 107,.fz (.at 1 0 ((Fl.arr 7 Fl.str).f zW)),.fz (.gi 5)]):
  Cl 108 [gZ g,i6 j] w fun e v=> ∃o q s t,e= .returned (.agg [i6 r.1.Kind,sb r.1.Name,sb r.1.Other,i6 r.1.Op,i6 r.1.N,i6 r.1.Frames,o].toArray)∧Hd O w v S [f1 fM o r.1.Kids,.own Rp.str q 9 r.2.r.Phases,.own gX s 129 r.2.r.Moves,.own gY t 132 r.2.r.Rules,.blk g [sb r.2.text,i6 r.2.at_,i6 r.2.now.kind,i6 r.2.now.at_,i6 r.2.now.n,sb r.2.now.text,q,s,t] 107]:=by
 unfold Fcx at d
 refine CW 110 Tryz.func108 ?_
 refine zB fun Z y=>zA<| yT rfl rfl (kX rfl rfl H) ?_
 rintro _ aa ⟨ab,rfl,H⟩
 refine yT rfl rfl (kX rfl rfl H) ?_
 rintro _ ac ⟨ad,rfl,H⟩
 refine yT rfl rfl (xE kV H) ?_
 rintro _ ae ⟨af,rfl,H⟩
 refine RN y<| zB fun ag z=>zB fun ah A=>zA<| Ld qR H 6 0 rfl rfl ?_
 have B:=H
 have H:=H.freezeB (i:=3) rfl
 have H:=H.freeze (i:=0) rfl
 have H:=H.freeze (i:=1) rfl
 have H:=H.freeze (i:=2) rfl
 have H:=H.fz (.pt eG (some ⟨g,0,none⟩) (some c)) ⟨_,_,_,rfl,(H.item (i:=3) rfl).1,(H.item (i:=3) rfl).2.1,(dJ (x:=c) (H.item (i:=0) rfl) (H.item (i:=1) rfl) (H.item (i:=2) rfl)),(H.item (i:=3) rfl).2.2⟩
 obtain ⟨C,D,d⟩:=zD d
 refine zT rfl rfl (zO en141 rfl) (Fcfw (some c) (some ⟨g,0,none⟩) _ D _ _ _ (H.enter [] [9])) ?_
 rintro _ ai ⟨rfl,E⟩
 have H:=B.step (E.only:Only [] _ _)
 refine ⟨_,rfl,?_⟩
 obtain ⟨aj,F,d⟩:=zC d
 refine zG (zL (fU (p:=C) rfl) F)<| RN A ?_
 obtain ⟨G,d⟩:=yM d
 refine xM G ?_
 refine zQ (zF (z _ _ ?_))
 refine zB fun ak I=>?_
 refine zB fun al J=>zA<| Ld fJ H 7 0 rfl rfl ?_
 obtain ⟨am,K,d⟩:=zC d
 refine zG (zL (bI (a:=j) (b:=60) rfl rfl) K)<| RN J ?_
 obtain ⟨L,d⟩:=yM d
 refine xM L ?_
 refine zQ (zF (I _ _ ?_))
 refine zB fun an ao=>?_
 refine zB fun ap M=>zA<| Ld qR H 6 0 rfl rfl<| zG (yF rfl)<| zG (dG rfl)<| zG (aC rfl)<| Ld fJ H 3 2 rfl rfl ?_
 obtain ⟨aq,P,d⟩:=zC d
 refine zG (zL (fV (a:=c.now.kind) (b:=2) rfl rfl) P)<| RN M ?_
 obtain ⟨Q,d⟩:=eX d
 refine kF Q ?_
 refine zB fun ar R=>zA<| Ld qR H 6 0 rfl rfl ?_
 obtain ⟨⟨h,au⟩,T,d⟩:=zD d
 refine zT rfl rfl (zO en142 rfl) (Fcvw (gB.mk c.text c.at_ (gQ.mk c.now.kind c.now.at_ c.now.n c.now.text) (Rules.mk c.r.Phases c.r.Moves c.r.Rules)) g k l m _ T _ _ _ (H.enter [0,1,2,3] [4,5])) ?_
 rintro _ av ⟨u,U,V,X,rfl,Y⟩
 have H:Hd _ _ _ _ [_,_,_,_,_,_,_,_,_,_]:=H.back [0,1,2,3] [4,5] rfl Y
 refine ⟨_,rfl,?_⟩
 refine xB rfl (yQ (vs:=[i6 h.Kind,sb h.Name,sb h.Other,i6 h.Op,i6 h.N,i6 h.Frames,u]) H 4 rfl dP rfl rfl rfl ⟨rfl,rfl,rfl,rfl,rfl,rfl,(dW (H.item (i:=5) rfl)),trivial⟩ rfl) ?_
 rintro aw H
 refine RN R ?_
 obtain rfl:=gI d
 refine (zX (zS (nT rfl rfl (yP dX dP rfl (Hbc H 4 rfl)) ?_)))
 exact ⟨u,U,V,X,rfl,H.pick [5,6,7,8,9]⟩
theorem Fddw (a:gB)(d:Int)(h:Nat)(c:Nat)(j:Value)(k:Value)(l:Value)(m:Nat)(r:Cond×gB)(g:Fdd a d=some r)(O S:List Nat)(w:World)(H:Hd O w w S [.own Rp.str j 9 a.r.Phases,.own gX k 129 a.r.Moves,.own gY l 132 a.r.Rules,.blk c [sb a.text,i6 a.at_,i6 a.now.kind,i6 a.now.at_,i6 a.now.n,sb a.now.text,j,k,l] 107,.blk h [gZ c] 103,.blk m [i6 d] 3,.fz (.at 1 0 ((Fl.arr 7 Fl.str).f zW)),.fz (.gi 5)]):
  Cl 107 [gZ h,gZ m] w fun e u=> ∃o p q s,e= .returned (.agg [i6 r.1.Kind,sb r.1.Name,sb r.1.Other,i6 r.1.Op,i6 r.1.N,i6 r.1.Frames,o].toArray)∧Hd O w u S [f1 fM o r.1.Kids,.own Rp.str p 9 r.2.r.Phases,.own gX q 129 r.2.r.Moves,.own gY s 132 r.2.r.Rules,.blk c [sb r.2.text,i6 r.2.at_,i6 r.2.now.kind,i6 r.2.now.at_,i6 r.2.now.n,sb r.2.now.text,p,q,s] 107,.blk h [gZ c] 103,.blk m [i6 d] 3]:=by
 unfold Fdd at g
 refine CW 6 Tryz.func107 ?_
 refine zB fun D v=>zA<| yT rfl rfl (xE kV H) ?_
 rintro _ E ⟨F,rfl,H⟩
 refine RN v<| zB fun G x=>zA<| Ld qR H 4 0 rfl rfl<| Ld fJ H 5 0 rfl rfl ?_
 obtain ⟨⟨b,I⟩,y,g⟩:=zD g
 refine zT rfl rfl (zO en108 rfl) (Fcxw (gB.mk a.text a.at_ (gQ.mk a.now.kind a.now.at_ a.now.n a.now.text) (Rules.mk a.r.Phases a.r.Moves a.r.Rules)) d c j k l _ y _ _ _ (H.enter [0,1,2,3] [6,7])) ?_
 rintro _ J ⟨t,z,A,B,rfl,C⟩
 have H:Hd _ _ _ _ [_,_,_,_,_,_,_,_,_,_]:=H.back [0,1,2,3] [6,7] rfl C
 refine ⟨_,rfl,?_⟩
 refine xB rfl (yQ (vs:=[i6 b.Kind,sb b.Name,sb b.Other,i6 b.Op,i6 b.N,i6 b.Frames,t]) H 4 rfl dP rfl rfl rfl ⟨rfl,rfl,rfl,rfl,rfl,rfl,(dW (H.item (i:=5) rfl)),trivial⟩ rfl) ?_
 rintro K H
 refine RN x ?_
 obtain rfl:=gI g
 refine (zX (nT rfl rfl (yP dX dP rfl (Hbc H 4 rfl)) ?_))
 exact ⟨t,z,A,B,rfl,H.pick [5,6,7,8,9,0,1]⟩
theorem Fdfw (l:gB)(u:Str)(D:Int)(p3c1:Int)(j:Nat)(y:Value)(z:Value)(A:Value)(m:Nat)(o:Nat)(r:Cond×gB)(c:Fdf l u D p3c1=some r)(O S:List Nat)(w:World)(H:Hd O w w S [.own Rp.str y 9 l.r.Phases,.own gX z 129 l.r.Moves,.own gY A 132 l.r.Rules,.blk j [sb l.text,i6 l.at_,i6 l.now.kind,i6 l.now.at_,i6 l.now.n,sb l.now.text,y,z,A] 107,.blk m [gZ j] 103,.blk o [i6 p3c1] 3,.fz (.at 1 0 ((Fl.arr 7 Fl.str).f zW)),.fz (.gi 5)]):
  Cl 105 [gZ j,sb u,i6 D,.func (.func 107) #[] #[gZ m,gZ o]] w fun e L=> ∃E F G I,e= .returned (.agg [i6 r.1.Kind,sb r.1.Name,sb r.1.Other,i6 r.1.Op,i6 r.1.N,i6 r.1.Frames,E].toArray)∧Hd O w L S [f1 fM E r.1.Kids,.own Rp.str F 9 r.2.r.Phases,.own gX G 129 r.2.r.Moves,.own gY I 132 r.2.r.Rules,.blk j [sb r.2.text,i6 r.2.at_,i6 r.2.now.kind,i6 r.2.now.at_,i6 r.2.now.n,sb r.2.now.text,F,G,I] 107,.blk m [gZ j] 103,.blk o [i6 p3c1] 3]:=by
 unfold Fdf at c
 refine CW 32 Tryz.func105 ?_
 refine zB fun ap M=>zA<| yT rfl rfl (xE kV H) ?_
 rintro _ aq ⟨J,rfl,H⟩
 refine RN M<| zB fun ar P=>zA<| zH (.func (.func 107) #[] #[gZ m,gZ o]) ?_
 obtain ⟨⟨d,h⟩,Q,c⟩:=zD c
 refine zT rfl rfl (aB en107 rfl rfl) (Fddw l p3c1 m j y z A o _ Q _ _ _ (H.enter [0,1,2,3,4,5] [6,7])) ?_
 rintro _ au ⟨B,q,s,t,rfl,R⟩
 have H:Hd _ _ _ _ [_,_,_,_,_,_,_,_,_,_]:=H.back [0,1,2,3,4,5] [6,7] rfl R
 refine ⟨_,rfl,?_⟩
 obtain ⟨av,T,c⟩:=zC c
 subst T
 refine yT rfl rfl (jG (r:=fM) (xl:=[d]) (cs:=[i6 d.Kind,sb d.Name,sb d.Other,i6 d.Op,i6 d.N,i6 d.Frames,B]) rP el127 (by decide) (by decide) rfl (fP (vs:=[.agg [i6 d.Kind,sb d.Name,sb d.Other,i6 d.Op,i6 d.N,i6 d.Frames,B].toArray]) (by decide) rfl rfl ⟨rfl,trivial⟩ rfl) H ⟨[i6 d.Kind,sb d.Name,sb d.Other,i6 d.Op,i6 d.N,i6 d.Frames,B],[],rfl,(uI (x:=d) (H.item (i:=3) rfl)),rfl⟩) ?_
 rintro p aw H
 refine zI p<| RN P ?_
 obtain ⟨U,c,V⟩:=zD c
 refine yI [9,13,14,15,16,17,18,19,20,21,22] (fun (g:Unit)=>[(9,p)]) (fun g wl=>Hd O w wl S [.own fM p 127 ([d]:List Cond),.fz (.at 1 0 ((Fl.arr 7 Fl.str).f zW)),.fz (.gi 5),.blk J [i6 0,.string (bs []),.string (bs []),i6 0,i6 0,i6 0,.slice none 0 0] 127,.own Rp.str q 9 h.r.Phases,.own gX s 129 h.r.Moves,.own gY t 132 h.r.Rules,.blk j [sb h.text,i6 h.at_,i6 h.now.kind,i6 h.now.at_,i6 h.now.n,sb h.now.text,q,s,t] 107,.blk m [gZ j] 103,.blk o [i6 p3c1] 3]) ?_ ?_
 ·skip
  refine zY ?_
  unfold Fd9 at c
  obtain ⟨X,K,Y,c⟩:=yK c
  refine yX [9,13,14,15,16,17,18,19,20,21,22] (fun (g:Nat)=>[(9,p)]) (fun g wl=>Hd O w wl S [.own fM p 127 ([d]:List Cond),.fz (.at 1 0 ((Fl.arr 7 Fl.str).f zW)),.fz (.gi 5),.blk J [i6 0,.string (bs []),.string (bs []),i6 0,i6 0,i6 0,.slice none 0 0] 127,.own Rp.str q 9 h.r.Phases,.own gX s 129 h.r.Moves,.own gY t 132 h.r.Rules,.blk j [sb h.text,i6 h.at_,i6 h.now.kind,i6 h.now.at_,i6 h.now.n,sb h.now.text,q,s,t] 107,.blk m [gZ j] 103,.blk o [i6 p3c1] 3]∧fE X g ()=some U) (fun g=>g) K (zJ rfl zK) ⟨H.pick [10,0,1,2,4,5,6,7,8,9],c⟩ ?_
  clear H c
  rintro K ρ ax ⟨H,c⟩
  obtain ⟨ay,rfl,c⟩:=yO c
  have c:=yN Y c
  refine zB fun az a0=>?_
  refine zB fun a1 Z=>zA<| zH (gZ j)<| zH (sb u) ?_
  have aa:=H
  have H:=H.freezeB (i:=7) rfl
  have H:=H.freeze (i:=4) rfl
  have H:=H.freeze (i:=5) rfl
  have H:=H.freeze (i:=6) rfl
  have H:=H.fz (.pt eG (some ⟨j,0,none⟩) (some h)) ⟨_,_,_,rfl,(H.item (i:=7) rfl).1,(H.item (i:=7) rfl).2.1,(dJ (x:=h) (H.item (i:=4) rfl) (H.item (i:=5) rfl) (H.item (i:=6) rfl)),(H.item (i:=7) rfl).2.2⟩
  obtain ⟨a2,ab,c⟩:=zD c
  refine zT rfl rfl (zO en79 rfl) (Fahw (some h) u (some ⟨j,0,none⟩) _ ab _ _ _ (H.enter [] [10])) ?_
  rintro _ a3 ⟨rfl,ac⟩
  have H:=aa.step (ac.only:Only [] _ _)
  refine ⟨_,rfl,?_⟩
  refine RN Z ?_
  obtain ⟨ad,c⟩:=yM c
  refine xM ad ?_
  obtain rfl:=gI c
  exact (xG (yD (yD (yS (zF (meet ⟨(),(zJ rfl zK),H.pick [0,1,2,3,4,5,6,7,8,9]⟩))))))
 rintro _ ρ a4 H
 have c:=V
 refine zB fun a5 a6=>?_
 refine zB fun a7 ae=>zA<| zH p ?_
 obtain ⟨af,ag,c⟩:=zC c
 obtain ⟨a8,a9,ah⟩:=Sr.len (Sr.of_own (H.item (i:=0) rfl))
 refine zG (yJ (xJ rP ah) (congrArg (Value.int .i64) ag)) ?_
 obtain ⟨ba,ai,c⟩:=zC c
 refine zG (zL (fV (a:=af) (b:=1) rfl rfl) ai)<| RN ae ?_
 obtain ⟨aj,c⟩:=eX c
 refine kF aj ?_
 refine zB fun bb ak=>zA<| zH p ?_
 obtain ⟨k,C,c⟩:=zD c
 obtain ⟨bc,bd,be,al,am,an⟩:=dN (H.item (i:=0) rfl) C
 obtain ⟨v,rfl,ao⟩:=nZ am
 have H:=H.fzs [.sl fM v k.Kids] ⟨ao,trivial⟩
 refine zG (yU rP dP al rfl (zN C).1 (zN C).2.1 rfl rfl)<| zG (yJ (yL (cs:=[i6 k.Kind,sb k.Name,sb k.Other,i6 k.Op,i6 k.N,i6 k.Frames,v]) dX rfl dP rfl an) rfl)<| xB rfl (yQ (vs:=[i6 k.Kind,sb k.Name,sb k.Other,i6 k.Op,i6 k.N,i6 k.Frames,v]) H 3 rfl dP rfl rfl rfl ⟨rfl,rfl,rfl,rfl,rfl,rfl,(dW (H.item (i:=10) rfl)),trivial⟩ rfl) ?_
 rintro bf H
 refine RN ak ?_
 obtain rfl:=gI c
 refine (zX (zS (nT rfl rfl (yP dX dP rfl (Hbc H 3 rfl)) ?_)))
 exact ⟨v,q,s,t,rfl,H.pick [10,4,5,6,7,8,9]⟩
theorem Fc3w (a:gB)(d:Int)(g:Nat)(c:Nat)(k:Value)(l:Value)(m:Value)(h:Nat)(r:Cond×gB)(j:Fc3 a d=some r)(O S:List Nat)(w:World)(H:Hd O w w S [.own Rp.str k 9 a.r.Phases,.own gX l 129 a.r.Moves,.own gY m 132 a.r.Rules,.blk c [sb a.text,i6 a.at_,i6 a.now.kind,i6 a.now.at_,i6 a.now.n,sb a.now.text,k,l,m] 107,.blk g [gZ c] 103,.blk h [i6 d] 3,.fz (.at 1 0 ((Fl.arr 7 Fl.str).f zW)),.fz (.gi 5)]):
  Cl 106 [gZ g,gZ h] w fun e u=> ∃o p q s,e= .returned (.agg [i6 r.1.Kind,sb r.1.Name,sb r.1.Other,i6 r.1.Op,i6 r.1.N,i6 r.1.Frames,o].toArray)∧Hd O w u S [f1 fM o r.1.Kids,.own Rp.str p 9 r.2.r.Phases,.own gX q 129 r.2.r.Moves,.own gY s 132 r.2.r.Rules,.blk c [sb r.2.text,i6 r.2.at_,i6 r.2.now.kind,i6 r.2.now.at_,i6 r.2.now.n,sb r.2.now.text,p,q,s] 107,.blk g [gZ c] 103,.blk h [i6 d] 3]:=by
 unfold Fc3 at j
 refine CW 6 Tryz.func106 ?_
 refine zB fun D v=>zA<| yT rfl rfl (xE kV H) ?_
 rintro _ E ⟨F,rfl,H⟩
 refine RN v<| zB fun G x=>zA<| Ld qR H 4 0 rfl rfl<| zG (dC rfl) ?_
 obtain ⟨⟨b,I⟩,y,j⟩:=zD j
 refine zT rfl rfl (zO en105 rfl) (Fdfw (gB.mk a.text a.at_ (gQ.mk a.now.kind a.now.at_ a.now.n a.now.text) (Rules.mk a.r.Phases a.r.Moves a.r.Rules)) [97,110,100] 9 d c k l m g h _ y _ _ _ (H.enter [0,1,2,3,4,5] [6,7])) ?_
 rintro _ J ⟨t,z,A,B,rfl,C⟩
 have H:Hd _ _ _ _ [_,_,_,_,_,_,_,_,_,_]:=H.back [0,1,2,3,4,5] [6,7] rfl C
 refine ⟨_,rfl,?_⟩
 refine xB rfl (yQ (vs:=[i6 b.Kind,sb b.Name,sb b.Other,i6 b.Op,i6 b.N,i6 b.Frames,t]) H 2 rfl dP rfl rfl rfl ⟨rfl,rfl,rfl,rfl,rfl,rfl,(dW (H.item (i:=3) rfl)),trivial⟩ rfl) ?_
 rintro K H
 refine RN x ?_
 obtain rfl:=gI j
 refine (zX (nT rfl rfl (yP dX dP rfl (Hbc H 2 rfl)) ?_))
 exact ⟨t,z,A,B,rfl,H.pick [3,4,5,6,7,8,9]⟩
theorem Fdew (l:gB)(u:Str)(D:Int)(p3c1:Int)(j:Nat)(y:Value)(z:Value)(A:Value)(m:Nat)(o:Nat)(r:Cond×gB)(c:Fde l u D p3c1=some r)(O S:List Nat)(w:World)(H:Hd O w w S [.own Rp.str y 9 l.r.Phases,.own gX z 129 l.r.Moves,.own gY A 132 l.r.Rules,.blk j [sb l.text,i6 l.at_,i6 l.now.kind,i6 l.now.at_,i6 l.now.n,sb l.now.text,y,z,A] 107,.blk m [gZ j] 103,.blk o [i6 p3c1] 3,.fz (.at 1 0 ((Fl.arr 7 Fl.str).f zW)),.fz (.gi 5)]):
  Cl 105 [gZ j,sb u,i6 D,.func (.func 106) #[] #[gZ m,gZ o]] w fun e L=> ∃E F G I,e= .returned (.agg [i6 r.1.Kind,sb r.1.Name,sb r.1.Other,i6 r.1.Op,i6 r.1.N,i6 r.1.Frames,E].toArray)∧Hd O w L S [f1 fM E r.1.Kids,.own Rp.str F 9 r.2.r.Phases,.own gX G 129 r.2.r.Moves,.own gY I 132 r.2.r.Rules,.blk j [sb r.2.text,i6 r.2.at_,i6 r.2.now.kind,i6 r.2.now.at_,i6 r.2.now.n,sb r.2.now.text,F,G,I] 107,.blk m [gZ j] 103,.blk o [i6 p3c1] 3]:=by
 unfold Fde at c
 refine CW 32 Tryz.func105 ?_
 refine zB fun ap M=>zA<| yT rfl rfl (xE kV H) ?_
 rintro _ aq ⟨J,rfl,H⟩
 refine RN M<| zB fun ar P=>zA<| zH (.func (.func 106) #[] #[gZ m,gZ o]) ?_
 obtain ⟨⟨d,h⟩,Q,c⟩:=zD c
 refine zT rfl rfl (aB en106 rfl rfl) (Fc3w l p3c1 m j y z A o _ Q _ _ _ (H.enter [0,1,2,3,4,5] [6,7])) ?_
 rintro _ au ⟨B,q,s,t,rfl,R⟩
 have H:Hd _ _ _ _ [_,_,_,_,_,_,_,_,_,_]:=H.back [0,1,2,3,4,5] [6,7] rfl R
 refine ⟨_,rfl,?_⟩
 obtain ⟨av,T,c⟩:=zC c
 subst T
 refine yT rfl rfl (jG (r:=fM) (xl:=[d]) (cs:=[i6 d.Kind,sb d.Name,sb d.Other,i6 d.Op,i6 d.N,i6 d.Frames,B]) rP el127 (by decide) (by decide) rfl (fP (vs:=[.agg [i6 d.Kind,sb d.Name,sb d.Other,i6 d.Op,i6 d.N,i6 d.Frames,B].toArray]) (by decide) rfl rfl ⟨rfl,trivial⟩ rfl) H ⟨[i6 d.Kind,sb d.Name,sb d.Other,i6 d.Op,i6 d.N,i6 d.Frames,B],[],rfl,(uI (x:=d) (H.item (i:=3) rfl)),rfl⟩) ?_
 rintro p aw H
 refine zI p<| RN P ?_
 obtain ⟨U,c,V⟩:=zD c
 refine yI [9,13,14,15,16,17,18,19,20,21,22] (fun (g:Unit)=>[(9,p)]) (fun g wl=>Hd O w wl S [.own fM p 127 ([d]:List Cond),.fz (.at 1 0 ((Fl.arr 7 Fl.str).f zW)),.fz (.gi 5),.blk J [i6 0,.string (bs []),.string (bs []),i6 0,i6 0,i6 0,.slice none 0 0] 127,.own Rp.str q 9 h.r.Phases,.own gX s 129 h.r.Moves,.own gY t 132 h.r.Rules,.blk j [sb h.text,i6 h.at_,i6 h.now.kind,i6 h.now.at_,i6 h.now.n,sb h.now.text,q,s,t] 107,.blk m [gZ j] 103,.blk o [i6 p3c1] 3]) ?_ ?_
 ·skip
  refine zY ?_
  unfold Fed at c
  obtain ⟨X,K,Y,c⟩:=yK c
  refine yX [9,13,14,15,16,17,18,19,20,21,22] (fun (g:Nat)=>[(9,p)]) (fun g wl=>Hd O w wl S [.own fM p 127 ([d]:List Cond),.fz (.at 1 0 ((Fl.arr 7 Fl.str).f zW)),.fz (.gi 5),.blk J [i6 0,.string (bs []),.string (bs []),i6 0,i6 0,i6 0,.slice none 0 0] 127,.own Rp.str q 9 h.r.Phases,.own gX s 129 h.r.Moves,.own gY t 132 h.r.Rules,.blk j [sb h.text,i6 h.at_,i6 h.now.kind,i6 h.now.at_,i6 h.now.n,sb h.now.text,q,s,t] 107,.blk m [gZ j] 103,.blk o [i6 p3c1] 3]∧fE X g ()=some U) (fun g=>g) K (zJ rfl zK) ⟨H.pick [10,0,1,2,4,5,6,7,8,9],c⟩ ?_
  clear H c
  rintro K ρ ax ⟨H,c⟩
  obtain ⟨ay,rfl,c⟩:=yO c
  have c:=yN Y c
  refine zB fun az a0=>?_
  refine zB fun a1 Z=>zA<| zH (gZ j)<| zH (sb u) ?_
  have aa:=H
  have H:=H.freezeB (i:=7) rfl
  have H:=H.freeze (i:=4) rfl
  have H:=H.freeze (i:=5) rfl
  have H:=H.freeze (i:=6) rfl
  have H:=H.fz (.pt eG (some ⟨j,0,none⟩) (some h)) ⟨_,_,_,rfl,(H.item (i:=7) rfl).1,(H.item (i:=7) rfl).2.1,(dJ (x:=h) (H.item (i:=4) rfl) (H.item (i:=5) rfl) (H.item (i:=6) rfl)),(H.item (i:=7) rfl).2.2⟩
  obtain ⟨a2,ab,c⟩:=zD c
  refine zT rfl rfl (zO en79 rfl) (Fahw (some h) u (some ⟨j,0,none⟩) _ ab _ _ _ (H.enter [] [10])) ?_
  rintro _ a3 ⟨rfl,ac⟩
  have H:=aa.step (ac.only:Only [] _ _)
  refine ⟨_,rfl,?_⟩
  refine RN Z ?_
  obtain ⟨ad,c⟩:=yM c
  refine xM ad ?_
  obtain rfl:=gI c
  exact (xG (yD (yD (yS (zF (meet ⟨(),(zJ rfl zK),H.pick [0,1,2,3,4,5,6,7,8,9]⟩))))))
 rintro _ ρ a4 H
 have c:=V
 refine zB fun a5 a6=>?_
 refine zB fun a7 ae=>zA<| zH p ?_
 obtain ⟨af,ag,c⟩:=zC c
 obtain ⟨a8,a9,ah⟩:=Sr.len (Sr.of_own (H.item (i:=0) rfl))
 refine zG (yJ (xJ rP ah) (congrArg (Value.int .i64) ag)) ?_
 obtain ⟨ba,ai,c⟩:=zC c
 refine zG (zL (fV (a:=af) (b:=1) rfl rfl) ai)<| RN ae ?_
 obtain ⟨aj,c⟩:=eX c
 refine kF aj ?_
 refine zB fun bb ak=>zA<| zH p ?_
 obtain ⟨k,C,c⟩:=zD c
 obtain ⟨bc,bd,be,al,am,an⟩:=dN (H.item (i:=0) rfl) C
 obtain ⟨v,rfl,ao⟩:=nZ am
 have H:=H.fzs [.sl fM v k.Kids] ⟨ao,trivial⟩
 refine zG (yU rP dP al rfl (zN C).1 (zN C).2.1 rfl rfl)<| zG (yJ (yL (cs:=[i6 k.Kind,sb k.Name,sb k.Other,i6 k.Op,i6 k.N,i6 k.Frames,v]) dX rfl dP rfl an) rfl)<| xB rfl (yQ (vs:=[i6 k.Kind,sb k.Name,sb k.Other,i6 k.Op,i6 k.N,i6 k.Frames,v]) H 3 rfl dP rfl rfl rfl ⟨rfl,rfl,rfl,rfl,rfl,rfl,(dW (H.item (i:=10) rfl)),trivial⟩ rfl) ?_
 rintro bf H
 refine RN ak ?_
 obtain rfl:=gI c
 refine (zX (zS (nT rfl rfl (yP dX dP rfl (Hbc H 3 rfl)) ?_)))
 exact ⟨v,q,s,t,rfl,H.pick [10,4,5,6,7,8,9]⟩
theorem Fdiw (a:gB)(g:Int)(c:Nat)(h:Value)(j:Value)(k:Value)(r:Cond×gB)(d:Fdi a g=some r)(O S:List Nat)(w:World)(H:Hd O w w S [.own Rp.str h 9 a.r.Phases,.own gX j 129 a.r.Moves,.own gY k 132 a.r.Rules,.blk c [sb a.text,i6 a.at_,i6 a.now.kind,i6 a.now.at_,i6 a.now.n,sb a.now.text,h,j,k] 107,.fz (.at 1 0 ((Fl.arr 7 Fl.str).f zW)),.fz (.gi 5)]):
  Cl 82 [gZ c,i6 g] w fun e s=> ∃l m o p,e= .returned (.agg [i6 r.1.Kind,sb r.1.Name,sb r.1.Other,i6 r.1.Op,i6 r.1.N,i6 r.1.Frames,l].toArray)∧Hd O w s S [f1 fM l r.1.Kids,.own Rp.str m 9 r.2.r.Phases,.own gX o 129 r.2.r.Moves,.own gY p 132 r.2.r.Rules,.blk c [sb r.2.text,i6 r.2.at_,i6 r.2.now.kind,i6 r.2.now.at_,i6 r.2.now.n,sb r.2.now.text,m,o,p] 107]:=by
 unfold Fdi at d
 refine CW 8 Tryz.func82 ?_
 refine zB fun D t=>zA<| yT rfl rfl (kX rfl rfl H) ?_
 rintro _ E ⟨u,rfl,H⟩
 refine yT rfl rfl (kX rfl rfl H) ?_
 rintro _ F ⟨v,rfl,H⟩
 refine yT rfl rfl (xE kV H) ?_
 rintro _ G ⟨I,rfl,H⟩
 refine RN t<| zB fun J x=>zA<| Ld qR H 6 0 rfl rfl<| zG (dC rfl) ?_
 obtain ⟨⟨b,K⟩,y,d⟩:=zD d
 refine zT rfl rfl (zO en105 rfl) (Fdew (gB.mk a.text a.at_ (gQ.mk a.now.kind a.now.at_ a.now.n a.now.text) (Rules.mk a.r.Phases a.r.Moves a.r.Rules)) [111,114] 10 g c h j k u v _ y _ _ _ (H.enter [0,1,2,3,6,7] [4,5])) ?_
 rintro _ L ⟨q,z,A,B,rfl,C⟩
 have H:Hd _ _ _ _ [_,_,_,_,_,_,_,_,_,_]:=H.back [0,1,2,3,6,7] [4,5] rfl C
 refine ⟨_,rfl,?_⟩
 refine xB rfl (yQ (vs:=[i6 b.Kind,sb b.Name,sb b.Other,i6 b.Op,i6 b.N,i6 b.Frames,q]) H 2 rfl dP rfl rfl rfl ⟨rfl,rfl,rfl,rfl,rfl,rfl,(dW (H.item (i:=3) rfl)),trivial⟩ rfl) ?_
 rintro M H
 refine RN x ?_
 obtain rfl:=gI d
 refine (zX (nT rfl rfl (yP dX dP rfl (Hbc H 2 rfl)) ?_))
 exact ⟨q,z,A,B,rfl,H.pick [3,4,5,6,7]⟩
theorem Fc7w (j:gB)(h:Nat)(v2:Value)(v3:Value)(v4:Value)(r:gB)(c:Fc7 j=some r)(O S:List Nat)(w:World)(H:Hd O w w S [.own Rp.str v2 9 j.r.Phases,.own gX v3 129 j.r.Moves,.own gY v4 132 j.r.Rules,.blk h [sb j.text,i6 j.at_,i6 j.now.kind,i6 j.now.at_,i6 j.now.n,sb j.now.text,v2,v3,v4] 107,.fz (.at 1 0 ((Fl.arr 7 Fl.str).f zW)),.fz (.gi 5)]):
  Cl 57 [gZ h] w fun e u=> ∃ah ai aj,e= .returned (.tuple #[])∧Hd O w u S [.own Rp.str ah 9 r.r.Phases,.own gX ai 129 r.r.Moves,.own gY aj 132 r.r.Rules,.blk h [sb r.text,i6 r.at_,i6 r.now.kind,i6 r.now.at_,i6 r.now.n,sb r.now.text,ah,ai,aj] 107]:=by
 unfold Fc7 at c
 refine CW 81 Tryz.func57 ?_
 obtain ⟨m,c,ar⟩:=zD c
 refine yI [4,5,6,7,8,9,10,11,12,13,14,15,16,17,18,19,20,21,22] (fun (g:Value×Value×Value)=>[]) (fun g wl=>Hd O w wl S [.blk h [sb m.1,i6 m.2.1,i6 m.2.2.1,i6 m.2.2.2.1,i6 m.2.2.2.2.1,sb m.2.2.2.2.2.1,g.1,g.2.1,g.2.2] 107,.own Rp.str g.1 9 m.2.2.2.2.2.2.1,.own gX g.2.1 129 m.2.2.2.2.2.2.2.1,.own gY g.2.2 132 m.2.2.2.2.2.2.2.2,.fz (.at 1 0 ((Fl.arr 7 Fl.str).f zW)),.fz (.gi 5)]) ?_ ?_
 ·skip
  refine zB fun cn au=>zA<| zH (gZ h) ?_
  obtain ⟨l,av,c⟩:=zD c
  refine zT rfl rfl (zO en78 rfl) (Fajw (gB.mk j.text j.at_ (gQ.mk j.now.kind j.now.at_ j.now.n j.now.text) (Rules.mk j.r.Phases j.r.Moves j.r.Rules)) h v2 v3 v4 _ av _ _ _ (H.enter [0,1,2,3] [5])) ?_
  rintro _ co ⟨ad,ae,af,rfl,aw⟩
  have H:Hd _ _ _ _ [_,_,_,_,_,_]:=H.back [0,1,2,3] [5] rfl aw
  refine ⟨_,rfl,?_⟩
  refine RN au<| zY ?_
  unfold Feb at c
  obtain ⟨ax,ak,ay,c⟩:=yK c
  refine yX [6,7,8,9,10,11,12,13,14,15,16,17,18,19,20,21,22] (fun (g:Nat)=>[]) (fun g wl=>Hd O w wl S [.fz (.at 1 0 ((Fl.arr 7 Fl.str).f zW)),.fz (.gi 5),.own Rp.str ad 9 l.r.Phases,.own gX ae 129 l.r.Moves,.own gY af 132 l.r.Rules,.blk h [sb l.text,i6 l.at_,i6 l.now.kind,i6 l.now.at_,i6 l.now.n,sb l.now.text,ad,ae,af] 107]∧fE ax g ()=some m) (fun g=>g) ak zK ⟨H.pick [0,1,2,3,4,5],c⟩ ?_
  clear H c
  rintro ak ρ cp ⟨H,c⟩
  obtain ⟨cq,rfl,c⟩:=yO c
  have c:=yN ay c
  refine zB fun cr ct=>?_
  refine zB fun cu az=>zA<| zH (gZ h) ?_
  have a0:=H
  have H:=H.freezeB (i:=5) rfl
  have H:=H.freeze (i:=2) rfl
  have H:=H.freeze (i:=3) rfl
  have H:=H.freeze (i:=4) rfl
  have H:=H.fz (.pt eG (some ⟨h,0,none⟩) (some l)) ⟨_,_,_,rfl,(H.item (i:=5) rfl).1,(H.item (i:=5) rfl).2.1,(dJ (x:=l) (H.item (i:=2) rfl) (H.item (i:=3) rfl) (H.item (i:=4) rfl)),(H.item (i:=5) rfl).2.2⟩
  obtain ⟨cv,a1,c⟩:=zD c
  refine zT rfl rfl (zO en79 rfl) (Fahw (some l) [112,104,97,115,101] (some ⟨h,0,none⟩) _ a1 _ _ _ (H.enter [] [6])) ?_
  rintro _ cw ⟨rfl,a2⟩
  have H:=a0.step (a2.only:Only [] _ _)
  refine ⟨_,rfl,?_⟩
  refine RN az ?_
  obtain ⟨a3,c⟩:=yM c
  refine xM a3 ?_
  obtain rfl:=gI c
  exact (xG (yD (yD (yS (zF (meet ⟨(ad,ae,af),zK,H.pick [5,2,3,4,0,1]⟩))))))
 rintro ⟨K,L,M⟩ ρ cx H
 have c:=ar
 obtain ⟨A,B,C,D,E,F,G,I,J⟩:=m
 obtain ⟨a4,c,a5⟩:=zD c
 refine yI [2,23,24,25,26,27,28,29,30,31,32,33,34,35,36,37,38,39,40,41,42,43,44,45,46,47,48] (fun (g:Unit)=>[]) (fun g wl=>Hd O w wl S [.blk h [sb A,i6 B,i6 C,i6 D,i6 E,sb F,K,L,M] 107,.own Rp.str K 9 G,.own gX L 129 I,.own gY M 132 J,.fz (.at 1 0 ((Fl.arr 7 Fl.str).f zW)),.fz (.gi 5)]) ?_ ?_
 ·skip
  refine zY ?_
  unfold Fdy at c
  obtain ⟨a6,al,a7,c⟩:=yK c
  refine yX [2,23,24,25,26,27,28,29,30,31,32,33,34,35,36,37,38,39,40,41,42,43,44,45,46,47,48] (fun (g:Nat)=>[]) (fun g wl=>Hd O w wl S [.blk h [sb A,i6 B,i6 C,i6 D,i6 E,sb F,K,L,M] 107,.own Rp.str K 9 G,.own gX L 129 I,.own gY M 132 J,.fz (.at 1 0 ((Fl.arr 7 Fl.str).f zW)),.fz (.gi 5)]∧fE a6 g ()=some a4) (fun g=>g) al zK ⟨H.pick [0,1,2,3,4,5],c⟩ ?_
  clear H c
  rintro al ρ cy ⟨H,c⟩
  obtain ⟨cz,rfl,c⟩:=yO c
  have c:=yN a7 c
  refine zB fun c0 c1=>?_
  refine zB fun c2 a8=>zA<| zH (gZ h) ?_
  have a9:=H
  have H:=H.freezeB (i:=0) rfl
  have H:=H.freeze (i:=1) rfl
  have H:=H.freeze (i:=2) rfl
  have H:=H.freeze (i:=3) rfl
  have H:=H.fz (.pt eG (some ⟨h,0,none⟩) (some (gB.mk A B (gQ.mk C D E F) (Rules.mk G I J)))) ⟨_,_,_,rfl,(H.item (i:=0) rfl).1,(H.item (i:=0) rfl).2.1,(dJ (x:=gB.mk A B (gQ.mk C D E F) (Rules.mk G I J)) (H.item (i:=1) rfl) (H.item (i:=2) rfl) (H.item (i:=3) rfl)),(H.item (i:=0) rfl).2.2⟩
  obtain ⟨c3,ba,c⟩:=zD c
  refine zT rfl rfl (zO en79 rfl) (Fahw (some (gB.mk A B (gQ.mk C D E F) (Rules.mk G I J))) [109,111,118,101] (some ⟨h,0,none⟩) _ ba _ _ _ (H.enter [] [6])) ?_
  rintro _ c4 ⟨rfl,bb⟩
  have H:=a9.step (bb.only:Only [] _ _)
  refine ⟨_,rfl,?_⟩
  refine RN a8 ?_
  obtain ⟨bc,c⟩:=yM c
  refine xM bc ?_
  obtain rfl:=gI c
  exact (xG (yD (yD (yS (zF (meet ⟨(),zK,H.pick [0,1,2,3,4,5]⟩))))))
 rintro _ ρ c5 H
 have c:=a5
 obtain ⟨o,c,bd⟩:=zD c
 refine yI [3,49,50,51,52,53,54,55,56,57,58,59,60,61,62,63,64,65,66,67,68,69,70,71,72] (fun (g:Value×Value×Value)=>[]) (fun g wl=>Hd O w wl S [.blk h [sb o.1,i6 o.2.1,i6 o.2.2.1,i6 o.2.2.2.1,i6 o.2.2.2.2.1,sb o.2.2.2.2.2.1,g.1,g.2.1,g.2.2] 107,.own Rp.str g.1 9 o.2.2.2.2.2.2.1,.own gX g.2.1 129 o.2.2.2.2.2.2.2.1,.own gY g.2.2 132 o.2.2.2.2.2.2.2.2,.fz (.at 1 0 ((Fl.arr 7 Fl.str).f zW)),.fz (.gi 5)]) ?_ ?_
 ·skip
  refine zY ?_
  unfold Fd3 at c
  obtain ⟨be,am,bf,c⟩:=yK c
  refine yX [3,49,50,51,52,53,54,55,56,57,58,59,60,61,62,63,64,65,66,67,68,69,70,71,72] (fun (g:Nat×Str×Int×Int×Int×Int×Str×(List Str)×(List tV)×(List aP)×Value×Value×Value)=>[]) (fun g wl=>Hd O w wl S [.blk h [sb g.2.1,i6 g.2.2.1,i6 g.2.2.2.1,i6 g.2.2.2.2.1,i6 g.2.2.2.2.2.1,sb g.2.2.2.2.2.2.1,g.2.2.2.2.2.2.2.2.2.2.1,g.2.2.2.2.2.2.2.2.2.2.2.1,g.2.2.2.2.2.2.2.2.2.2.2.2] 107,.own Rp.str g.2.2.2.2.2.2.2.2.2.2.1 9 g.2.2.2.2.2.2.2.1,.own gX g.2.2.2.2.2.2.2.2.2.2.2.1 129 g.2.2.2.2.2.2.2.2.1,.own gY g.2.2.2.2.2.2.2.2.2.2.2.2 132 g.2.2.2.2.2.2.2.2.2.1,.fz (.at 1 0 ((Fl.arr 7 Fl.str).f zW)),.fz (.gi 5)]∧fE be g.1 (g.2.1,g.2.2.1,g.2.2.2.1,g.2.2.2.2.1,g.2.2.2.2.2.1,g.2.2.2.2.2.2.1,g.2.2.2.2.2.2.2.1,g.2.2.2.2.2.2.2.2.1,g.2.2.2.2.2.2.2.2.2.1)=some o) (fun g=>g.1) (am,A,B,C,D,E,F,G,I,J,K,L,M) zK ⟨H.pick [0,1,2,3,4,5],c⟩ ?_
  clear H c
  rintro ⟨am,P,Q,R,T,U,V,X,Y,Z,an,ao,ap⟩ ρ c6 ⟨H,c⟩
  obtain ⟨bg,rfl,c⟩:=yO c
  have c:=yN bf c
  refine zB fun c7 bh=>?_
  refine zB fun c8 bi=>zA<| zH (gZ h) ?_
  have bj:=H
  have H:=H.freezeB (i:=0) rfl
  have H:=H.freeze (i:=1) rfl
  have H:=H.freeze (i:=2) rfl
  have H:=H.freeze (i:=3) rfl
  have H:=H.fz (.pt eG (some ⟨h,0,none⟩) (some (gB.mk P Q (gQ.mk R T U V) (Rules.mk X Y Z)))) ⟨_,_,_,rfl,(H.item (i:=0) rfl).1,(H.item (i:=0) rfl).2.1,(dJ (x:=gB.mk P Q (gQ.mk R T U V) (Rules.mk X Y Z)) (H.item (i:=1) rfl) (H.item (i:=2) rfl) (H.item (i:=3) rfl)),(H.item (i:=0) rfl).2.2⟩
  obtain ⟨bk,bl,c⟩:=zD c
  refine zT rfl rfl (zO en79 rfl) (Fahw (some (gB.mk P Q (gQ.mk R T U V) (Rules.mk X Y Z))) [114,117,108,101] (some ⟨h,0,none⟩) _ bl _ _ _ (H.enter [] [6])) ?_
  rintro _ c9 ⟨rfl,bm⟩
  have H:=bj.step (bm.only:Only [] _ _)
  refine ⟨_,rfl,?_⟩
  refine RN bi<| yC (b:=bk) rfl (fun ag=>?_) (fun ag=>?_)
  ·have c:=zU ag c
   refine zQ (zF (bh _ _ ?_))
   refine zY ?_
   refine zB fun da bn=>zA<| zH (gZ h) ?_
   obtain ⟨q,bo,c⟩:=zD c
   refine zT rfl rfl (zO en78 rfl) (Fajw (gB.mk P Q (gQ.mk R T U V) (Rules.mk X Y Z)) h an ao ap _ bo _ _ _ (H.enter [1,2,3,0] [5])) ?_
   rintro _ db ⟨bp,bq,br,rfl,bt⟩
   have H:Hd _ _ _ _ [_,_,_,_,_,_]:=H.back [1,2,3,0] [5] rfl bt
   refine ⟨_,rfl,?_⟩
   refine RN bn<| zB fun dc bu=>zA<| zH (gZ h) ?_
   obtain ⟨⟨p,s⟩,bv,c⟩:=zD c
   refine zT rfl rfl (zO en80 rfl) (Fccw (gB.mk q.text q.at_ (gQ.mk q.now.kind q.now.at_ q.now.n q.now.text) (Rules.mk q.r.Phases q.r.Moves q.r.Rules)) h bp bq br _ bv _ _ _ (H.enter [2,3,4,5] [1])) ?_
   rintro _ dd ⟨bw,bx,bz,rfl,b0⟩
   have H:Hd _ _ _ _ [_,_,_,_,_,_]:=H.back [2,3,4,5] [1] rfl b0
   refine ⟨_,rfl,?_⟩
   refine zG (eY (cs:=[sb p,i6 0,.string (bs []),.string (bs []),i6 0,i6 0,i6 0,.slice none 0 0]) (bt132_0 _))<| yT rfl rfl (xE rY H) ?_
   rintro _ de ⟨df,rfl,H⟩
   refine xB rfl (yQ (vs:=[sb p,i6 0,.string (bs []),.string (bs []),i6 0,i6 0,i6 0,.slice none 0 0]) H 6 rfl aU rfl rfl rfl ⟨rfl,rfl,rfl,rfl,rfl,rfl,rfl,rfl,trivial⟩ rfl) ?_
   rintro dg H
   refine RN bu<| zB fun dh b1=>zA<| zH (gZ h) ?_
   obtain ⟨t,b2,c⟩:=zD c
   refine zT rfl rfl (zO en81 rfl) (Fcrw (gB.mk s.text s.at_ (gQ.mk s.now.kind s.now.at_ s.now.n s.now.text) (Rules.mk s.r.Phases s.r.Moves s.r.Rules)) [105,102] h bw bx bz _ b2 _ _ _ (H.enter [2,3,4,5] [1])) ?_
   rintro _ di ⟨b3,b4,b5,rfl,b6⟩
   have H:Hd _ _ _ _ [_,_,_,_,_,_,_]:=H.back [2,3,4,5] [1] rfl b6
   refine ⟨_,rfl,?_⟩
   refine RN b1<| zB fun dj b7=>zA<| zH (gZ h) ?_
   obtain ⟨⟨d,y⟩,b8,c⟩:=zD c
   refine zT rfl rfl (zO en82 rfl) (Fdiw (gB.mk t.text t.at_ (gQ.mk t.now.kind t.now.at_ t.now.n t.now.text) (Rules.mk t.r.Phases t.r.Moves t.r.Rules)) 0 h b3 b4 b5 _ b8 _ _ _ (H.enter [3,4,5,6] [0,1])) ?_
   rintro _ dk ⟨z,b9,ca,dl,rfl,cb⟩
   have H:Hd _ _ _ _ [_,_,_,_,_,_,_,_]:=H.back [3,4,5,6] [0,1] rfl cb
   refine ⟨_,rfl,?_⟩
   refine zG (qA rfl)<| xB rfl (yQ (vs:=[i6 d.Kind,sb d.Name,sb d.Other,i6 d.Op,i6 d.N,i6 d.Frames,z]) H 2 rfl dP rfl rfl rfl ⟨rfl,rfl,rfl,rfl,rfl,rfl,(dW (H.item (i:=3) rfl)),trivial⟩ rfl) ?_
   rintro dm H
   refine RN b7 ?_
   have cc:=H
   have H:=H.rebase
   have dn:=H
   refine WP_mix0 H [0,1,2,3,4,5,6,7,8,9,10,11,12] (kz [0,0,0,0,0,1,1,2,3,0,0,0,3]) mixed ?_
   refine XM (gZ h)<| XM (gZ h)<| XP (fun _ _=>yF rfl)<| XP (fun _ _=>sD rfl)<| XP (fun _ _=>aQ rfl)<| XR mP H 7 8 rfl rfl<| MxM.xN oS rfl rfl rfl (fun u k=>yJ (yL (cs:=[sb p,i6 d.Kind,sb d.Name,sb d.Other,i6 d.Op,i6 d.N,i6 d.Frames,z]) qU rfl aU rfl (Blk.cells ((H.sees k).item (i:=2) rfl))) rfl) ?_
   obtain ⟨dp,cd,c⟩:=zC c
   subst cd
   refine MxM.XL_exN oS rfl rfl rfl (fun u k=>Ls_of (jG (r:=gY) (xl:=[aP.mk p d]) (cs:=[sb p,i6 d.Kind,sb d.Name,sb d.Other,i6 d.Op,i6 d.N,i6 d.Frames,z]) u73 aCa (by decide) (by decide) rfl (fP (vs:=[.agg [sb p,i6 d.Kind,sb d.Name,sb d.Other,i6 d.Op,i6 d.N,i6 d.Frames,z].toArray]) (by decide) rfl rfl ⟨rfl,trivial⟩ rfl) (H.sees k) ⟨[sb p,i6 d.Kind,sb d.Name,sb d.Other,i6 d.Op,i6 d.N,i6 d.Frames,z],[],rfl,(aBc (x:=aP.mk p d) ((H.sees k).item (i:=3) rfl)),rfl⟩) (Ys_bs (cs:=[sb p,i6 d.Kind,sb d.Name,sb d.Other,i6 d.Op,i6 d.N,i6 d.Frames,z]) u73 aCa (by decide) (by decide) (fP (vs:=[.agg [sb p,i6 d.Kind,sb d.Name,sb d.Other,i6 d.Op,i6 d.N,i6 d.Frames,z].toArray]) (by decide) rfl rfl ⟨rfl,trivial⟩ rfl))) ?_
   rintro u dq dr k H
   obtain ⟨ce,cf,c⟩:=zD c
   refine MxM.XL_ex oS rfl rfl rfl (fun u k=>kU (H.sees k) (i:=6) rfl u73 aCa rfl rfl (Sr.of_own ((H.sees k).item (i:=8) rfl)) cf) ?_
   rintro u aq ds k H
   refine ⟨H.only,?_⟩
   refine XP (fun _ _=>yF rfl)<| XP (fun _ _=>sD rfl)<| XP (fun _ _=>aQ rfl)<| MxM.XL_exU oS rfl rfl (fun u k=>xQ (H.sees k) 7 rfl sz73 rfl (v:=aq) rfl (kH ((H.sees k).item (i:=6) rfl)) rfl) ?_
   rintro u dt k H
   refine ⟨H.only,?_⟩
   refine MxM.XL_nil fun du hS=>?_
   have H:=H.sees hS
   have H:=cc.rejoin H
   exact (yV (zF (meet ⟨(bg,y.text,y.at_,y.now.kind,y.now.at_,y.now.n,y.now.text,y.r.Phases,y.r.Moves,ce,b9,ca,aq),zK,⟨H.pick [7,4,5,6,0,1],c⟩,Nat.lt_succ_self _⟩)))
  have c:=zV ag c
  obtain rfl:=gI c
  exact (xG (yD (yD (yS (zF (meet ⟨(an,ao,ap),zK,H.pick [0,1,2,3,4,5]⟩))))))
 rintro ⟨cg,ch,ci⟩ ρ dv H
 have c:=bd
 obtain ⟨dw,dx,cj,dy,dz,d0,d1,d2,d3⟩:=o
 refine zB fun d4 ck=>zA<| zH (gZ h)<| zG (yF rfl)<| zG (dG rfl)<| zG (aC rfl)<| Ld fJ H 0 2 rfl rfl ?_
 obtain ⟨d5,cl,c⟩:=zC c
 refine zG (zL (eQ (a:=cj) (b:=0) rfl rfl) cl)<| RN ck ?_
 obtain ⟨cm,c⟩:=yM c
 refine xM cm ?_
 obtain rfl:=gI c
 refine (zQ (nC rfl ?_))
 exact ⟨cg,ch,ci,rfl,H.pick [1,2,3,0]⟩
theorem aAw (b:Nat)(w:World):CallsD Tryz.prog 77 #[gZ b] .returning w fun e u' a=>e= .returned (.tuple #[])∧u'= .returning∧a=w:=by
 refine callsD_of_wpS Tryz.func77 rfl fun c₀ cs hu=>?_
 apply wpS_seq
 apply wpS_region
 simp [wpOpsS,go_sem,recoverD,hu,Tryz.ntmps77,Exit.thenS]
 apply wpS_seq
 apply wpS_region
 simp [wpOpsS,go_sem,Exit.thenS,Act.eval,Array.replicate]
 refine wpS_cond (t:=false) (by simp [Act.eval,Array.replicate]) ?_
 simp only [Bool.false_eq_true,if_false]
 refine wpS_of_wp (wp_skip ?_)
 cases c₀
 simp_all [bodyPostS,results,Tryz.results77]
theorem en57c:Go.OB.Enters Tryz.prog 57:=⟨_,Tryz.func57,rfl,by kernel_rfl⟩
theorem zero109c:Go.OB.Zero Tryz.prog 109 ([i6 0,i6 0]):=by unfold Go.OB.Zero; kernel_rfl
theorem sz109c:Sz Tryz.prog 109 2:=by unfold Sz; kernel_rfl
theorem agg109c:Agg Tryz.prog 109:=by unfold Agg; kernel_rfl
theorem bz109c:Tryz.prog.built 109 []=some ([i6 0,i6 0]:List Value).toArray:=by kernel_rfl
theorem Fdbw (a:gB)(b:Nat)(i:Value)(j:Value)(k:Value)(r:sV×gB)(c:Fdb a=some r)(O S:List Nat)(w:World)(H:Hd O w w S [.own Rp.str i 9 a.r.Phases,.own gX j 129 a.r.Moves,.own gY k 132 a.r.Rules,.blk b [sb a.text,i6 a.at_,i6 a.now.kind,i6 a.now.at_,i6 a.now.n,sb a.now.text,i,j,k] 107,.fz (.at 1 0 ((Fl.arr 7 Fl.str).f zW)),.fz (.gi 5)]):
  Cl 56 [.func (.func 57) #[gZ b] #[]] w fun e m=> ∃d g h,e= .returned (.agg [i6 r.1.at_,i6 r.1.e].toArray)∧Hd O w m S [.own Rp.str d 9 r.2.r.Phases,.own gX g 129 r.2.r.Moves,.own gY h 132 r.2.r.Rules,.blk b [sb r.2.text,i6 r.2.at_,i6 r.2.now.kind,i6 r.2.now.at_,i6 r.2.now.n,sb r.2.now.text,d,g,h] 107]:=by
 unfold Fdb at c
 obtain ⟨x,e,c⟩:=zD c
 have hr:=Option.some.inj c
 subst hr
 refine aAa 7 Tryz.func56 rfl rfl rfl ?_
 refine rW ?_
 refine jZ ?_
 refine RLD_ex rfl rfl (xE zero109c H) ?_
 rintro _ o ⟨l,rfl,H⟩
 refine rZ ?_
 refine rW ?_
 refine jZ ?_
 refine aAr rfl rfl (dC rfl) ?_
 refine RLD_defer (x:={target:= .fn (.func 77) #[gZ l],args:= #[]}) rfl (run_defer (cap:=[_]) (us:=[]) rfl rfl) ?_
 refine rZ ?_
 refine rW ?_
 refine jZ ?_
 refine aAr rfl rfl (sG (v:= .func (.func 57) #[gZ b] #[]) rfl) ?_
 refine RLD_call rfl rfl (DoC_bnd en57c rfl rfl) (Fc7w a b i j k _ e _ _ _ (H.enter [0,1,2,3] [4,5])) ?_
 rintro _ p ⟨d,g,h,rfl,G⟩
 have H:=H.back [0,1,2,3] [4,5] rfl G
 refine ⟨_,rfl,?_⟩
 refine rZ ?_
 refine rW ?_
 refine jZ ?_
 refine aAr rfl rfl (eY (cs:=[i6 0,i6 0]) bz109c) ?_
 refine RLD_exU rfl (yQ (vs:=[i6 0,i6 0]) H 2 rfl sz109c rfl rfl rfl ⟨rfl,rfl,trivial⟩ rfl) ?_
 rintro q H
 refine rZ ?_
 refine WPD_ret ?_
 intro tmps ht
 refine leaves_cons (f:=77) (args:= #[gZ l]) (by simp) (by simp [go_sem]) ?_
 refine (aAw l _).mono ?_
 rintro e u' s ⟨rfl,rfl,rfl⟩
 refine aCj (fn:=_) rfl ht (nT rfl rfl (yP agg109c sz109c rfl (Hbc H 2 rfl)) ?_)
 exact ⟨d,g,h,rfl,H.pick [3,4,5,6]⟩
theorem Fdmw (f:List aP)(p1c0:Str)(v1:Value)(d:Nat)(r:Int)(c:Fdm f p1c0=some r)(O S:List Nat)(w:World)(H:Hd O w w S [.blk d [sb p1c0] 9,f1 gY v1 f]):
  Cl 86 [v1,.func (.func 114) #[] #[gZ d]] w fun e j=>e= .returned (i6 r)∧Hd O w j S [.blk d [sb p1c0] 9]:=by
 unfold Fdm at c
 refine CW 19 Tryz.func86 ?_
 refine zB fun z k=>zA<| zI (i6 0)<| RN k ?_
 obtain ⟨l,m,c⟩:=xH c
 refine yI [4,5,6,7,8,9,10,11,12,13,14,15,16,17,18] (fun (g:Unit)=>[]) (fun g wl=>Hd O w wl S [.blk d [sb p1c0] 9]∧l ()=some r) ?_ ?_
 ·skip
  refine zB fun A n=>zA<| zH v1 ?_
  obtain ⟨o,p,c⟩:=zC c
  obtain ⟨B,C,q⟩:=SlF.len ((H.item (i:=1) rfl))
  refine zG (yJ (xJ u73 q) (congrArg (Value.int .i64) p))<| zH (i6 0)<| RN n<| zY ?_
  unfold Fea at c
  obtain ⟨s,h,t,c⟩:=yK c
  refine yX [4,5,8,9,10,11,12,13,14,15,16,17,18] (fun (g:Nat)=>[(8,i6 0)]) (fun g wl=>Hd O w wl S [.blk d [sb p1c0] 9,f1 gY v1 f]∧fE s g ()=some r) (fun g=>g) h (zJ rfl zK) ⟨H.pick [0,1],c⟩ ?_
  clear H c
  rintro h ρ D ⟨H,c⟩
  obtain ⟨E,rfl,c⟩:=yO c
  have c:=yN t c
  refine zB fun F u=>zA ?_
  obtain ⟨G,v,c⟩:=zC c
  refine zG (zL (xI (a:=0) (b:=o) rfl rfl) v)<| RN u<| zB fun I J=>?_
  obtain ⟨x,c⟩:=yM c
  refine xM x ?_
  exact (xG (yD (yD (yS (zF (meet ⟨(),zK,⟨H.pick [0],c⟩⟩))))))
 rintro _ ρ K ⟨H,c⟩
 have c:=xO m c
 refine zB fun L y=>zA<| zI (i6 (-1))<| RN y ?_
 obtain rfl:=gI c
 refine (zX (fB (v1:=i6 (-1)) rfl rfl ?_))
 exact ⟨rfl,H.pick [0]⟩
theorem Fdhw (f:List aP)(p1c0:Str)(v1:Value)(d:Nat)(r:Bool)(c:Fdh f p1c0=some r)(O S:List Nat)(w:World)(H:Hd O w w S [.blk d [sb p1c0] 9,f1 gY v1 f]):
  Cl 113 [v1,.func (.func 114) #[] #[gZ d]] w fun e h=>e= .returned (.bool r)∧Hd O w h S [.blk d [sb p1c0] 9]:=by
 unfold Fdh at c
 refine CW 9 Tryz.func113 ?_
 refine zB fun o i=>zA<| zI (.bool false)<| RN i<| zB fun p j=>zA<| zH v1<| zH (.func (.func 114) #[] #[gZ d]) ?_
 obtain ⟨k,l,c⟩:=zD c
 refine zT rfl rfl (zO en86 rfl) (Fdmw f p1c0 v1 d _ l _ _ _ (H.enter [0] [1])) ?_
 rintro _ q ⟨rfl,m⟩
 have H:Hd _ _ _ _ [_,_]:=H.back [0] [1] rfl m
 refine ⟨_,rfl,?_⟩
 obtain ⟨g,n,c⟩:=zC c
 refine zG (zL (bI (a:=k) (b:=0) rfl rfl) n)<| zI (.bool g)<| RN j ?_
 obtain rfl:=gI c
 refine (zX (fB (v1:= .bool g) rfl rfl ?_))
 exact ⟨rfl,H.pick [1]⟩
theorem Fc5w (c:Str)(b:Rules)(d:Int)(f:Nat)(g:Value)(h:Value)(j:Value)(k:Nat)(r:Bool)(a:Fc5 c b d=some r)(O S:List Nat)(w:World)(H:Hd O w w S [.blk f [g,h,j] 75,.blk k [i6 d] 3,f1 Rp.str g b.Phases,f1 gX h b.Moves,f1 gY j b.Rules]):
  Cl 112 [sb c,gZ f,gZ k] w fun e o=>e= .returned (.bool r)∧Hd O w o S [.blk f [g,h,j] 75,.blk k [i6 d] 3]:=by
 unfold Fc5 at a
 refine CW 11 Tryz.func112 ?_
 refine zB fun y p=>zA<| yT rfl rfl (kX rfl rfl H) ?_
 rintro _ z ⟨q,rfl,H⟩
 refine zI (.bool false)<| RN p<| zB fun A s=>zA<| zG (aQ rfl)<| Ld mP H 0 2 rfl rfl<| Ld fJ H 1 0 rfl rfl ?_
 obtain ⟨l,t,a⟩:=zD a
 refine wW rfl rfl (jT u73 aU (H.item (i:=4) rfl) rfl rfl t) ?_
 rintro m u
 have H:=H.fz (.sl gY m l) u
 refine zG (dC rfl) ?_
 obtain ⟨n,v,a⟩:=zD a
 refine zT rfl rfl (zO en113 rfl) (Fdhw l c m q _ v _ _ _ (H.enter [5] [6])) ?_
 rintro _ B ⟨rfl,x⟩
 have H:Hd _ _ _ _ [_,_,_,_,_,_,_]:=H.back [5] [6] rfl x
 refine ⟨_,rfl,?_⟩
 refine zI (.bool n)<| RN s ?_
 obtain rfl:=gI a
 refine (zX (fB (v1:= .bool n) rfl rfl ?_))
 exact ⟨rfl,H.pick [0,1]⟩
theorem Fc2w (d:Cond)(h:Int)(k:Int)(v1:Value)(f:Nat)(r:Bool×Int)(c:Fc2 d h k=some r)(O S:List Nat)(w:World)(H:Hd O w w S [.blk f [i6 k] 3,f1 fM v1 d.Kids]):
  Cl 145 [.agg [i6 d.Kind,sb d.Name,sb d.Other,i6 d.Op,i6 d.N,i6 d.Frames,v1].toArray,i6 h,gZ f] w fun e m=>e= .returned (.bool r.1)∧Hd O w m S [.blk f [i6 r.2] 3]:=by
 unfold Fc2 at c
 refine CW 36 Tryz.func145 ?_
 refine zB fun P n=>zA<| yT rfl rfl (fQ (cs:=[i6 d.Kind,sb d.Name,sb d.Other,i6 d.Op,i6 d.N,i6 d.Frames,v1]) rfl H) ?_
 rintro _ Q ⟨R,rfl,H⟩
 refine zI (.bool false)<| RN n<| zB fun T o=>zA<| zH (gZ f)<| zG (yF rfl)<| Ld fJ H 0 0 rfl rfl ?_
 obtain ⟨j,p,c⟩:=zC c
 refine zG (xP (a:=k) (b:=1) rfl rfl p)<| zG (yF rfl)<| xB rfl (xQ H 0 rfl sz3 rfl (v:=i6 j) rfl rfl rfl) ?_
 rintro U H
 refine RN o<| zB fun V q=>zB fun X s=>zA<| zH (i6 h) ?_
 obtain ⟨Y,t,c⟩:=zC c
 refine zG (zL (fV (a:=h) (b:=0) rfl rfl) t) ?_
 obtain ⟨u,c⟩:=yM c
 refine dL false u ?_
 refine zH (gZ f)<| zG (yF rfl)<| Ld fJ H 0 0 rfl rfl ?_
 obtain ⟨x,y,c⟩:=zC c
 refine zG (zL (dD (a:=j) (b:=200) rfl rfl) y)<| zG (yB (v:= .bool x) rfl rfl)<| RN s ?_
 obtain ⟨z,c⟩:=yM c
 refine xM z ?_
 refine zQ (zF (q _ _ ?_))
 obtain ⟨A,B,c⟩:=xH c
 refine yI [6,8,22,23,24,25,26,27,28,29,30,31,32,33,34,35] (fun (g:Unit)=>[]) (fun g wl=>Hd O w wl S [.blk f [i6 j] 3]∧A ()=some r) ?_ ?_
 ·skip
  refine zB fun Z C=>zA<| zG (nK rfl)<| Ld qP H 2 6 rfl rfl ?_
  obtain ⟨D,E,c⟩:=zC c
  obtain ⟨aa,ab,F⟩:=SlF.len ((H.item (i:=1) rfl))
  refine zG (yJ (xJ rP F) (congrArg (Value.int .i64) E))<| zH (i6 0)<| RN C<| zY ?_
  unfold Fdz at c
  obtain ⟨G,l,I,c⟩:=yK c
  refine yX [6,8,25,26,27,28,29,30,31,32,33,34,35] (fun (g:Nat)=>[(25,i6 0)]) (fun g wl=>Hd O w wl S [.blk f [i6 j] 3,f1 fM v1 d.Kids]∧fE G g ()=some r) (fun g=>g) l (zJ rfl zK) ⟨H.pick [0,1],c⟩ ?_
  clear H c
  rintro l ρ ac ⟨H,c⟩
  obtain ⟨ad,rfl,c⟩:=yO c
  have c:=yN I c
  refine zB fun ae J=>zA ?_
  obtain ⟨af,K,c⟩:=zC c
  refine zG (zL (xI (a:=0) (b:=D) rfl rfl) K)<| RN J<| zB fun ag ah=>?_
  obtain ⟨L,c⟩:=yM c
  refine xM L ?_
  exact (xG (yD (yD (yS (zF (meet ⟨(),zK,⟨H.pick [0],c⟩⟩))))))
 rintro _ ρ ai ⟨H,c⟩
 have c:=xO B c
 refine zB fun aj M=>zA<| zI (.bool true)<| RN M ?_
 obtain rfl:=gI c
 refine (zX (fB (v1:= .bool true) rfl rfl ?_))
 exact ⟨rfl,H.pick [0]⟩
theorem Fdpw (d:Int)(r:mW×Bool)(c:Fdp d=some r)(O S:List Nat)(w:World)(H:Hd O w w S []):
  Cl 168 [i6 d] w fun e f=>e= .returned (.tuple #[.agg [.bool r.1.name,.bool r.1.other,.bool r.1.op,.bool r.1.n,.bool r.1.frames,i6 r.1.least,i6 r.1.most].toArray,.bool r.2])∧Hd O w f S []:=by
 unfold Fdp at c
 refine CW 41 Tryz.func168 ?_
 refine zB fun y g=>zA<| yT rfl rfl (xE aEo H) ?_
 rintro _ z ⟨A,rfl,H⟩
 refine zI (.bool false)<| RN g<| zB fun B C=>zB fun D h=>zA<| zH (i6 d)<| RN h<| zY<| zB fun E i=>zB fun F j=>zA ?_
 obtain ⟨k,l,c⟩:=zC c
 refine zG (zL (fV (a:=d) (b:=1) rfl rfl) l)<| zI (.bool k)<| RN j ?_
 obtain ⟨m,c⟩:=yM c
 refine xM m ?_
 refine zA ?_
 obtain ⟨o,p,c⟩:=zC c
 refine zG (zL (fV (a:=d) (b:=2) rfl rfl) p)<| zI (.bool o)<| RN i ?_
 obtain ⟨q,c⟩:=yM c
 refine xM q ?_
 refine zB fun G s=>zA ?_
 obtain ⟨t,u,c⟩:=zC c
 refine zG (zL (fV (a:=d) (b:=3) rfl rfl) u)<| zI (.bool t)<| RN s ?_
 obtain ⟨v,c⟩:=eX c
 refine kF v ?_
 refine zB fun I x=>zA<| zG (eY (cs:=[.bool true,.bool false,.bool true,.bool true,.bool false,i6 0,i6 0]) (aAy _ _ _))<| xB rfl (yQ (vs:=[.bool true,.bool false,.bool true,.bool true,.bool false,i6 0,i6 0]) H 0 rfl sz203 rfl rfl rfl ⟨rfl,rfl,rfl,rfl,rfl,rfl,rfl,trivial⟩ rfl) ?_
 rintro J H
 refine zI (.bool true)<| RN x ?_
 obtain rfl:=gI c
 refine (zX (yE (zS (nV (v1:= .bool true) rfl rfl (yP agg203 sz203 rfl (Hbc H 0 rfl)) rfl ?_))))
 exact ⟨rfl,H.pick []⟩
end Go.Proofs.YtgmikmoapfmedaaGreatDoor.L
