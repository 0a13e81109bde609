/- Walks: what each function computes, for every argument; no condition but those that stand in the statements. -/
import Derived.Test.YtgmikmoapfmedaaGreatDoorVV0
import Derived.Test.YtgmikmoapfmedaaGreatDoorVV6
import Derived.Test.YtgmikmoapfmedaaGreatDoorVV3
import Derived.Test.YtgmikmoapfmedaaGreatDoorVV4
namespace Go.Proofs.YtgmikmoapfmedaaGreatDoor.L
open Go.RowKit Go.OB Go.Lf
set_option maxHeartbeats 4000000
theorem Fa9w (m:gB)(h:Series)(d:Nat)(n:Value)(k:Value)(r:gB)(c:Fa9 m h=some r)(O S:List Nat)(w:World)(H:Hd O w w S [.own (Rp.int .u8) n 5 m.out,.blk d [n] 27,f1 gX k h.Samples,.fz (.at 0 0 ((Fl.arr 20 (Fl.int .u64)).f zT))]):
  Cl 66 [gY d,.agg [i6 h.Den,k].toArray] w fun e u=> ∃u8,e= .returned (.tuple #[])∧Hd O w u S [.own (Rp.int .u8) u8 5 r.out,.blk d [u8] 27]:=by
 unfold Fa9 at c
 refine CW 28 Tryz.func66 ?_
 refine zB fun K9 v=>zA<| yS rfl rfl (xZ (cs:=[i6 h.Den,k]) rfl H) ?_
 rintro _ aq ⟨x,rfl,H⟩
 refine RN v<| zB fun ar y=>zA<| zH (gY d)<| zG (nC rfl)<| Ld fK H 4 0 rfl rfl ?_
 obtain ⟨z,A,c⟩:=zC c
 refine zS rfl rfl (zN aCh rfl) (aBs (gB.mk m.out) h.Den d n _ A _ _ _ (H.enter [0,1] [3])) ?_
 rintro _ au ⟨B,rfl,C⟩
 have H:Hd _ _ _ _ [_,_,_,_,_]:=H.back [0,1] [3] rfl C
 refine ⟨_,rfl,?_⟩
 refine RN y<| zB fun av D=>zA<| zH (gY d)<| zG (dX rfl)<| Ld aO H 2 1 rfl rfl ?_
 obtain ⟨E,F,c⟩:=zD c
 obtain ⟨aw,ax,G⟩:=SlF.len ((H.item (i:=0) rfl))
 refine zG (yK (xK u37 G) (congrArg (Value.int .i64) F)) ?_
 obtain ⟨I,J,c⟩:=zC c
 refine zS rfl rfl (zN aCh rfl) (aBs (gB.mk z.out) E d B _ J _ _ _ (H.enter [3,4] [1])) ?_
 rintro _ ay ⟨K,rfl,L⟩
 have H:Hd _ _ _ _ [_,_,_,_,_]:=H.back [3,4] [1] rfl L
 refine ⟨_,rfl,?_⟩
 refine RN D<| zB fun az M=>zA<| zI (i6 0)<| RN M<| zY ?_
 unfold Fc6 at c
 obtain ⟨P,q,Q,c⟩:=yF c
 refine xA [4,14,15,16,17,18,19,20,21,22,23,24,25,26,27] (fun (g:Nat×Int×(List Int)×Value)=>[(4,i6 g.2.1)]) (fun g wl=>Hd O w wl S [f1 gX k h.Samples,.fz (.at 0 0 ((Fl.arr 20 (Fl.int .u64)).f zT)),.blk x [i6 h.Den,k] 39,.blk d [g.2.2.2] 27,.own (Rp.int .u8) g.2.2.2 5 g.2.2.1]∧fF P g.1 (g.2.1,g.2.2.1)=some r) (fun g=>g.1) (q,0,I.out,K) (zJ rfl zK) ⟨H.pick [0,1,2,4,3],c⟩ ?_
 clear H c
 rintro ⟨q,j,R,s⟩ ρ a0 ⟨H,c⟩
 obtain ⟨T,rfl,c⟩:=yN c
 have c:=yO Q c
 refine zB fun a1 U=>?_
 refine zB fun a2 V=>zA<| zH (i6 j)<| zG (dX rfl)<| Ld aO H 2 1 rfl rfl ?_
 obtain ⟨X,Y,c⟩:=zD c
 obtain ⟨a3,a4,Z⟩:=SlF.len ((H.item (i:=0) rfl))
 refine zG (yK (xK u37 Z) (congrArg (Value.int .i64) Y)) ?_
 obtain ⟨aa,ab,c⟩:=zD c
 refine zG (zM (xG (a:=j) (b:=X) rfl rfl) ab)<| RN V<| yB (b:=aa) rfl (fun o=>?_) (fun o=>?_)
 ·have c:=zU o c
  refine zQ (zF (U _ _ ?_))
  refine zB fun a5 ac=>?_
  refine zY ?_
  refine zA ?_
  refine zH (gY d)<| zG (dX rfl)<| Ld aO H 2 1 rfl rfl<| zH (i6 j) ?_
  obtain ⟨l,p,c⟩:=zC c
  obtain ⟨ad,ae,a6,a7,af,ag,ah,ai,aj⟩:=xY (H.item (i:=0) rfl) p
  obtain rfl:=fU ag
  have H:=H.fz (.at ad (ae+j.toNat * 3) _) ⟨ah,ai,aj⟩
  refine zG (yV u37 bD af rfl (zO p).1 (zO p).2.1 rfl rfl)<| zG (yK (yP (cs:=[i6 l.At,i6 l.N,i6 l.Mark]) kH rfl bD rfl (H.item (i:=5) rfl).2.2) rfl) ?_
  obtain ⟨ak,al,c⟩:=zC c
  refine zS rfl rfl (zN en94 rfl) (Fbow (gB.mk R) l d s _ al _ _ _ (H.enter [4,3] [1])) ?_
  rintro _ a8 ⟨am,rfl,an⟩
  have H:Hd _ _ _ _ [_,_,_,_,_,_]:=H.back [4,3] [1] rfl an
  refine ⟨_,rfl,?_⟩
  refine (zX (yX (zF (ac _ _ ?_))))
  refine zA ?_
  refine zH (i6 j) ?_
  obtain ⟨t,ao,c⟩:=zD c
  refine zG (xM (a:=j) (b:=1) rfl rfl ao)<| zI (i6 t) ?_
  exact (zX (zF (meet ⟨(T,t,ak.out,am),(zJ rfl zK),⟨H.pick [0,1,2,5,4],c⟩,Nat.lt_succ_self _⟩)))
 have c:=zV o c
 obtain rfl:=gJ c
 refine (xE (yC (yC (yQ (aJ rfl ?_)))))
 exact ⟨s,rfl,H.pick [4,3]⟩
theorem Fazw (k:gB)(l:List gV)(d:Nat)(m:Value)(j:Value)(r:gB)(c:Faz k l=some r)(O S:List Nat)(w:World)(H:Hd O w w S [.own (Rp.int .u8) m 5 k.out,.blk d [m] 27,f1 fE j l,.fz (.at 0 0 ((Fl.arr 20 (Fl.int .u64)).f zT))]):
  Cl 39 [gY d,j] w fun e A=> ∃u8,e= .returned (.tuple #[])∧Hd O w A S [.own (Rp.int .u8) u8 5 r.out,.blk d [u8] 27]:=by
 unfold Faz at c
 refine CW 36 Tryz.func39 ?_
 refine zB fun K9 B=>zA<| zH (gY d)<| zH j ?_
 obtain ⟨C,D,c⟩:=zD c
 obtain ⟨bi,bj,E⟩:=SlF.len ((H.item (i:=2) rfl))
 refine zG (yK (xK u22 E) (congrArg (Value.int .i64) D)) ?_
 obtain ⟨F,G,c⟩:=zC c
 refine zS rfl rfl (zN aCh rfl) (aBs (gB.mk k.out) C d m _ G _ _ _ (H.enter [0,1] [3])) ?_
 rintro _ bk ⟨I,rfl,J⟩
 have H:Hd _ _ _ _ [_,_,_,_]:=H.back [0,1] [3] rfl J
 refine ⟨_,rfl,?_⟩
 refine RN B<| zB fun bl K=>zA<| zI (i6 0)<| RN K<| zY ?_
 unfold Fdw at c
 obtain ⟨L,u,M,c⟩:=yF c
 refine xA [4,9,10,11,12,13,14,15,16,17,18,19,20,21,22,23,24,25,26,27,28,29,30,31,32,33,34,35] (fun (g:Nat×Int×(List Int)×Value)=>[(4,i6 g.2.1)]) (fun g wl=>Hd O w wl S [f1 fE j l,.fz (.at 0 0 ((Fl.arr 20 (Fl.int .u64)).f zT)),.blk d [g.2.2.2] 27,.own (Rp.int .u8) g.2.2.2 5 g.2.2.1]∧fF L g.1 (g.2.1,g.2.2.1)=some r) (fun g=>g.1) (u,0,F.out,I) (zJ rfl zK) ⟨H.pick [0,1,3,2],c⟩ ?_
 clear H c
 rintro ⟨u,h,N,v⟩ ρ bm ⟨H,c⟩
 obtain ⟨P,rfl,c⟩:=yN c
 have c:=yO M c
 refine zB fun bn Q=>?_
 refine zB fun bo R=>zA<| zH (i6 h)<| zH j ?_
 obtain ⟨T,U,c⟩:=zD c
 obtain ⟨bp,bq,V⟩:=SlF.len ((H.item (i:=0) rfl))
 refine zG (yK (xK u22 V) (congrArg (Value.int .i64) U)) ?_
 obtain ⟨X,Y,c⟩:=zD c
 refine zG (zM (xG (a:=h) (b:=T) rfl rfl) Y)<| RN R<| yB (b:=X) rfl (fun n=>?_) (fun n=>?_)
 ·have c:=zU n c
  refine zQ (zF (Q _ _ ?_))
  refine zB fun br Z=>?_
  refine zY ?_
  refine zB fun bt aa=>zA<| zH (gY d)<| zH j<| zH (i6 h) ?_
  obtain ⟨x,o,c⟩:=zC c
  obtain ⟨ab,ac,bu,bv,ad,ae,af,ag,ah⟩:=xY (H.item (i:=0) rfl) o
  obtain ⟨ai,rfl,aj⟩:=xU ae
  have H:=H.fzs [.at ab (ac+h.toNat * 4) _,.sl gX ai x.Series.Samples] ⟨⟨af,ag,ah⟩,aj,trivial⟩
  refine zG (yV u22 eF ad rfl (zO o).1 (zO o).2.1 rfl rfl)<| zG (mJ rfl)<| zG (yU dQ rfl (Cells.get (H.item (i:=4) rfl).2.2 (i:=0) rfl)) ?_
  obtain ⟨ak,al,c⟩:=zC c
  refine zS rfl rfl (zN en65 rfl) (Fbhw (gB.mk N) x.Name d v _ al _ _ _ (H.enter [3,2] [1])) ?_
  rintro _ bw ⟨am,rfl,an⟩
  have H:Hd _ _ _ _ [_,_,_,_,_,_]:=H.back [3,2] [1] rfl an
  refine ⟨_,rfl,?_⟩
  refine RN aa<| zB fun bx ao=>zA<| zH (gY d)<| zH j<| zH (i6 h) ?_
  obtain ⟨p,q,c⟩:=zC c
  obtain ⟨ap,aq,bz,b0,ar,au,av,aw,ax⟩:=xY (H.item (i:=0) rfl) q
  obtain ⟨s,rfl,ay⟩:=xU au
  have H:=H.fzs [.at ap (aq+h.toNat * 4) _,.sl gX s p.Series.Samples] ⟨⟨av,aw,ax⟩,ay,trivial⟩
  refine zG (yV u22 eF ar rfl (zO q).1 (zO q).2.1 rfl rfl)<| zG (aY rfl)<| zG (yK (yP (cs:=[i6 p.Series.Den,s]) qA rfl wZ rfl (Cells.drop (H.item (i:=6) rfl).2.2 1 2)) rfl) ?_
  obtain ⟨az,a0,c⟩:=zC c
  refine zS rfl rfl (zN en66 rfl) (Fa9w (gB.mk ak.out) p.Series d am s _ a0 _ _ _ (H.enter [4,5] [7,1])) ?_
  rintro _ b1 ⟨a1,rfl,a2⟩
  have H:Hd _ _ _ _ [_,_,_,_,_,_,_,_]:=H.back [4,5] [7,1] rfl a2
  refine ⟨_,rfl,?_⟩
  refine RN ao<| zA<| zH (gY d)<| zH j<| zH (i6 h) ?_
  obtain ⟨y,t,c⟩:=zC c
  obtain ⟨a3,a4,b2,b3,a5,a6,a7,a8,a9⟩:=xY (H.item (i:=0) rfl) t
  obtain ⟨ba,rfl,bb⟩:=xU a6
  have H:=H.fzs [.at a3 (a4+h.toNat * 4) _,.sl gX ba y.Series.Samples] ⟨⟨a7,a8,a9⟩,bb,trivial⟩
  refine zG (yV u22 eF a5 rfl (zO t).1 (zO t).2.1 rfl rfl)<| zG (uM rfl)<| zG (yU fK rfl (Cells.get (H.item (i:=8) rfl).2.2 (i:=3) rfl)) ?_
  obtain ⟨bc,bd,c⟩:=zC c
  refine zS rfl rfl (zN aCh rfl) (aBs (gB.mk az.out) y.Long d a1 _ bd _ _ _ (H.enter [6,7] [1])) ?_
  rintro _ b4 ⟨be,rfl,bf⟩
  have H:Hd _ _ _ _ [_,_,_,_,_,_,_,_,_,_]:=H.back [6,7] [1] rfl bf
  refine ⟨_,rfl,?_⟩
  refine (zX (yX (zF (Z _ _ ?_))))
  refine zA ?_
  refine zH (i6 h) ?_
  obtain ⟨z,bg,c⟩:=zD c
  refine zG (xM (a:=h) (b:=1) rfl rfl bg)<| zI (i6 z) ?_
  exact (zX (zF (meet ⟨(P,z,bc.out,be),(zJ rfl zK),⟨H.pick [0,1,9,8],c⟩,Nat.lt_succ_self _⟩)))
 have c:=zV n c
 obtain rfl:=gJ c
 refine (xE (yC (yC (yQ (aJ rfl ?_)))))
 exact ⟨v,rfl,H.pick [3,2]⟩
theorem Fauw (d:gB)(b:Int)(a:Nat)(g:Value)(r:gB)(c:Fau d b=some r)(O S:List Nat)(w:World)(H:Hd O w w S [.own (Rp.int .u8) g 5 d.out,.blk a [g] 27,.fz (.at 0 0 ((Fl.arr 20 (Fl.int .u64)).f zT))]):
  Cl 40 [gY a,i6 b] w fun e i=> ∃h,e= .returned (.tuple #[])∧Hd O w i S [.own (Rp.int .u8) h 5 r.out,.blk a [h] 27]:=by
 unfold Fau at c
 refine CW 7 Tryz.func40 ?_
 refine zA ?_
 refine zH (gY a)<| zH (i6 b) ?_
 obtain ⟨m,j,c⟩:=zC c
 refine zS rfl rfl (zN aCh rfl) (aBs (gB.mk d.out) b a g _ j _ _ _ (H.enter [0,1] [2])) ?_
 rintro _ n ⟨k,rfl,l⟩
 have H:Hd _ _ _ _ [_,_,_]:=H.back [0,1] [2] rfl l
 refine ⟨_,rfl,?_⟩
 obtain rfl:=gJ c
 refine (zX (aJ rfl ?_))
 exact ⟨k,rfl,H.pick [1,2]⟩
theorem Faww (d:List gV)(c:Int)(v1:Value)(r:Str)(a:Faw d c=some r)(O S:List Nat)(w:World)(H:Hd O w w S [f1 fE v1 d,.fz (.at 0 0 ((Fl.arr 20 (Fl.int .u64)).f zT))]):
  Cl 15 [v1,i6 c] w fun e j=>e= .returned (sb r)∧Hd O w j S []:=by
 unfold Faw at a
 refine CW 16 Tryz.func15 ?_
 refine zB fun B k=>zA<| zI (.string (bs []))<| RN k<| zB fun C l=>zA<| zG (xR (cs:=[.slice none 0 0]) bz27)<| yS rfl rfl (xZ (cs:=[.slice none 0 0]) rfl H) ?_
 rintro _ D ⟨b,rfl,H⟩
 refine zI (gY b)<| RN l<| zB fun E m=>zA<| zH (gY b)<| zH v1 ?_
 have H:=fQ H (Rp.int .u8) 5
 obtain ⟨n,o,a⟩:=zC a
 refine zS rfl rfl (zN en39 rfl) (Fazw (gB.mk []) d b (.slice none 0 0) v1 _ o _ _ _ (H.enter [3,2] [0,1])) ?_
 rintro _ F ⟨p,rfl,q⟩
 have H:Hd _ _ _ _ [_,_,_,_]:=H.back [3,2] [0,1] rfl q
 refine ⟨_,rfl,?_⟩
 refine RN m<| zB fun G s=>zA<| zH (gY b)<| zH (i6 c) ?_
 obtain ⟨g,t,a⟩:=zC a
 refine zS rfl rfl (zN en40 rfl) (Fauw (gB.mk n.out) c b p _ t _ _ _ (H.enter [2,3] [1])) ?_
 rintro _ I ⟨J,rfl,u⟩
 have H:Hd _ _ _ _ [_,_,_,_]:=H.back [2,3] [1] rfl u
 refine ⟨_,rfl,?_⟩
 refine RN s<| zB fun K v=>zA<| zH (gY b) ?_
 have y:=H
 have H:=H.freezeB (i:=3) rfl
 have H:=H.freeze (i:=2) rfl
 have H:=H.fz (.pt cO (some ⟨b,0,none⟩) (some g)) ⟨_,_,_,rfl,(H.item (i:=3) rfl).1,(H.item (i:=3) rfl).2.1,(kJ (x:=g) (H.item (i:=2) rfl)),(H.item (i:=3) rfl).2.2⟩
 obtain ⟨h,z,a⟩:=zC a
 refine zS rfl rfl (zN en9 rfl) (Fbaw (some g) (some ⟨b,0,none⟩) _ z _ _ _ (H.enter [] [4])) ?_
 rintro _ L ⟨rfl,A⟩
 have H:=y.step (A.only:Only [] _ _)
 refine ⟨_,rfl,?_⟩
 refine zI (sb h)<| RN v ?_
 obtain rfl:=gJ a
 refine (zZ (fB (v1:=sb h) rfl rfl ?_))
 exact ⟨rfl,H.pick []⟩
theorem Faow (d:List Int)(c:Int)(v1:Value)(r:Str)(a:Fao d c=some r)(O S:List Nat)(w:World)(H:Hd O w w S [f1 (Rp.int .i64) v1 d,.fz (.at 0 0 ((Fl.arr 20 (Fl.int .u64)).f zT))]):
  Cl 16 [v1,i6 c] w fun e j=>e= .returned (sb r)∧Hd O w j S []:=by
 unfold Fao at a
 refine CW 16 Tryz.func16 ?_
 refine zB fun B k=>zA<| zI (.string (bs []))<| RN k<| zB fun C l=>zA<| zG (xR (cs:=[.slice none 0 0]) bz27)<| yS rfl rfl (xZ (cs:=[.slice none 0 0]) rfl H) ?_
 rintro _ D ⟨b,rfl,H⟩
 refine zI (gY b)<| RN l<| zB fun E m=>zA<| zH (gY b)<| zH v1 ?_
 have H:=fQ H (Rp.int .u8) 5
 obtain ⟨n,o,a⟩:=zC a
 refine zS rfl rfl (zN en29 rfl) (Fasw (gB.mk []) d b (.slice none 0 0) v1 _ o _ _ _ (H.enter [3,2] [0,1])) ?_
 rintro _ F ⟨p,rfl,q⟩
 have H:Hd _ _ _ _ [_,_,_,_]:=H.back [3,2] [0,1] rfl q
 refine ⟨_,rfl,?_⟩
 refine RN m<| zB fun G s=>zA<| zH (gY b)<| zH (i6 c) ?_
 obtain ⟨g,t,a⟩:=zC a
 refine zS rfl rfl (zN en40 rfl) (Fauw (gB.mk n.out) c b p _ t _ _ _ (H.enter [2,3] [1])) ?_
 rintro _ I ⟨J,rfl,u⟩
 have H:Hd _ _ _ _ [_,_,_,_]:=H.back [2,3] [1] rfl u
 refine ⟨_,rfl,?_⟩
 refine RN s<| zB fun K v=>zA<| zH (gY b) ?_
 have y:=H
 have H:=H.freezeB (i:=3) rfl
 have H:=H.freeze (i:=2) rfl
 have H:=H.fz (.pt cO (some ⟨b,0,none⟩) (some g)) ⟨_,_,_,rfl,(H.item (i:=3) rfl).1,(H.item (i:=3) rfl).2.1,(kJ (x:=g) (H.item (i:=2) rfl)),(H.item (i:=3) rfl).2.2⟩
 obtain ⟨h,z,a⟩:=zC a
 refine zS rfl rfl (zN en9 rfl) (Fbaw (some g) (some ⟨b,0,none⟩) _ z _ _ _ (H.enter [] [4])) ?_
 rintro _ L ⟨rfl,A⟩
 have H:=y.step (A.only:Only [] _ _)
 refine ⟨_,rfl,?_⟩
 refine zI (sb h)<| RN v ?_
 obtain rfl:=gJ a
 refine (zZ (fB (v1:=sb h) rfl rfl ?_))
 exact ⟨rfl,H.pick []⟩
theorem Fc0w (y:List gV)(z:List Str)(m:Int)(n:Int)(o:Int)(v1:Value)(p:Value)(r:Bool)(a:Fc0 y z m n o=some r)(O S:List Nat)(w:World)(H:Hd O w w S [f1 fE v1 y,f1 Rp.str p z,.fz (.at 0 0 ((Fl.arr 20 (Fl.int .u64)).f zT)),.fz (.at 1 0 ((Fl.arr 7 Fl.str).f yJ)),.fz (.gi 5)]):
  Cl 5 [v1,p,i6 m,i6 n,i6 o] w fun e j=>e= .returned (.bool r)∧Hd O w j S []:=by
 unfold Fc0 at a
 refine CW 56 Tryz.func5 ?_
 refine zB fun K8 M=>zA<| zI (.bool false)<| RN M<| zB fun K9 N=>zA<| zH v1<| zH p<| zH (i6 m)<| zH (i6 n)<| zH (i6 o) ?_
 obtain ⟨⟨c,P,q⟩,Q,a⟩:=zC a
 refine zS rfl rfl (zN en11 rfl) (Fa5w y z m n o v1 p _ Q _ _ _ (H.enter [] [0,1])) ?_
 rintro _ au ⟨k,s,rfl,R⟩
 have H:=H.back1 [0,1] rfl R
 refine ⟨_,rfl,?_⟩
 refine zH (.tuple #[.agg [sb c.Name,i6 c.Series.Den,k,i6 c.Long].toArray,s,i6 q])<| zG (xC (v:= .agg [sb c.Name,i6 c.Series.Den,k,i6 c.Long].toArray) rfl rfl)<| zG (xC (v:=s) rfl rfl)<| zG (xC (v:=i6 q) rfl rfl)<| yS rfl rfl (xB jI H) ?_
 rintro _ av ⟨aw,rfl,H⟩
 refine yZ rfl (yM (vs:=[sb c.Name,i6 c.Series.Den,k,i6 c.Long]) H 7 rfl eF rfl rfl rfl ⟨rfl,rfl,(dR (H.item (i:=5) rfl)),rfl,trivial⟩ rfl) ?_
 rintro ax H
 refine zI s<| zI (i6 q)<| RN N<| zB fun ay T=>zA<| zH v1<| zH p<| zH (i6 m)<| zH (i6 n)<| zH (i6 o) ?_
 obtain ⟨⟨d,U,t⟩,V,a⟩:=zC a
 refine zS rfl rfl (zN en14 rfl) (Faxw y z m n o v1 p _ V _ _ _ (H.enter [] [0,1])) ?_
 rintro _ az ⟨l,u,rfl,X⟩
 have H:=H.back1 [0,1] rfl X
 refine ⟨_,rfl,?_⟩
 refine zH (.tuple #[.agg [sb d.Name,i6 d.Series.Den,l,i6 d.Long].toArray,u,i6 t])<| zG (xC (v:= .agg [sb d.Name,i6 d.Series.Den,l,i6 d.Long].toArray) rfl rfl)<| zG (xC (v:=u) rfl rfl)<| zG (xC (v:=i6 t) rfl rfl)<| yS rfl rfl (xB jI H) ?_
 rintro _ a0 ⟨a1,rfl,H⟩
 refine yZ rfl (yM (vs:=[sb d.Name,i6 d.Series.Den,l,i6 d.Long]) H 10 rfl eF rfl rfl rfl ⟨rfl,rfl,(dR (H.item (i:=8) rfl)),rfl,trivial⟩ rfl) ?_
 rintro E H
 refine zI u<| zI (i6 t)<| RN T ?_
 obtain ⟨F,a,Y⟩:=zC a
 refine yH [10,37,38,39,40,41,42,43,44,45,46,47,48,49,50,51,52,53,54,55] (fun (g:Unit)=>[(10,.bool F)]) (fun g wl=>Hd O w wl S [.fz (.at 0 0 ((Fl.arr 20 (Fl.int .u64)).f zT)),.fz (.at 1 0 ((Fl.arr 7 Fl.str).f yJ)),.fz (.gi 5)]) ?_ ?_
 ·skip
  have A:=H
  have H:=H.rebase
  have a2:=H
  refine WP_mixM H [0,2,4,6,1,3,5,7,8,9,10,11,12,13,14,15,16,17,18,19] [.read,.mk (World.heap E).size,.pure,.read,.read,.mk (World.heap E).size,.pure,.read,.pure,.pure,.pure,.read,.pure,.read,.pure,.pure,.pure,.read,.pure,.pure] ⟨trivial,rfl,trivial,trivial,trivial,rfl,trivial,trivial,trivial,trivial,trivial,trivial,trivial,trivial,trivial,trivial,trivial,trivial,trivial,trivial,trivial⟩ mixed (by kernel_rfl) (by kernel_rfl) (by kernel_rfl) (by decide) ?_
  have H:=H.hm
  refine MxM.xP oS rfl rfl rfl (fun j h=>yK (yP (cs:=[sb c.Name,i6 c.Series.Den,k,i6 c.Long]) bP rfl eF rfl (Blk.cells ((H.sees h).item (i:=7) rfl))) rfl) ?_
  refine XM (i6 q)<| MxM.xP oS rfl rfl rfl (fun j h=>yK (yP (cs:=[sb d.Name,i6 d.Series.Den,l,i6 d.Long]) bP rfl eF rfl (Blk.cells ((H.sees h).item (i:=10) rfl))) rfl)<| XM (i6 t) ?_
  obtain ⟨a3,Z,a⟩:=zD a
  subst Z
  refine H.bs_rule (r:=fE) (xl:=[c]) (cs:=[sb c.Name,i6 c.Series.Den,k,i6 c.Long]) rfl rfl rfl rfl u22 el41 (by decide) (by decide) rfl (xW (vs:=[.agg [sb c.Name,i6 c.Series.Den,k,i6 c.Long].toArray]) (by decide) rfl rfl ⟨rfl,trivial⟩ rfl) ⟨[sb c.Name,i6 c.Series.Den,k,i6 c.Long],[],rfl,(qR (x:=c) (H.item (i:=5) rfl)),rfl⟩ ?_
  rintro aa a4 a5 H
  have ab:=H
  have H:=H.hd
  have H:=H.freeze (i:=11) rfl
  obtain ⟨G,ac,a⟩:=zC a
  refine MxM.XL_call oS rfl rfl rfl (v:=sb G) (fun j h=>zN en15 rfl) (fun j h=>bY (Faww ([c]:List gV) q aa _ ac _ _ _ ((H.sees h).enter [] [11,2]))) ?_
  have H:=ab
  obtain ⟨a6,ad,a⟩:=zD a
  subst ad
  refine H.bs_rule (r:=fE) (xl:=[d]) (cs:=[sb d.Name,i6 d.Series.Den,l,i6 d.Long]) rfl rfl rfl rfl u22 el41 (by decide) (by decide) rfl (xW (vs:=[.agg [sb d.Name,i6 d.Series.Den,l,i6 d.Long].toArray]) (by decide) rfl rfl ⟨rfl,trivial⟩ rfl) ⟨[sb d.Name,i6 d.Series.Den,l,i6 d.Long],[],rfl,(qR (x:=d) (H.item (i:=8) rfl)),rfl⟩ ?_
  rintro ae a7 a8 H
  have H:=H.hd
  have af:=H
  have H:=H.freeze (i:=12) rfl
  obtain ⟨I,ag,a⟩:=zC a
  refine MxM.XL_call oS rfl rfl rfl (v:=sb I) (fun j h=>zN en15 rfl) (fun j h=>bY (Faww ([d]:List gV) t ae _ ag _ _ _ ((H.sees h).enter [] [12,2]))) ?_
  have H:=af
  obtain ⟨ah,ai,a⟩:=zD a
  refine XP (fun _ _=>zM (wB (s1:=G) (s2:=I) rfl rfl) ai)<| MxM.XL_splitb (b:=ah) rfl rfl rfl rfl (fun B=>?_) (fun B=>?_)
  ·have a:=zU B a
   refine XM s ?_
   have aj:=H
   have H:=H.freeze (i:=6) rfl
   obtain ⟨J,ak,a⟩:=zC a
   refine MxM.XL_call oS rfl rfl rfl (v:=sb J) (fun j h=>zN en16 rfl) (fun j h=>bY (Faow P 0 s _ ak _ _ _ ((H.sees h).enter [] [6,2]))) ?_
   have H:=aj
   refine XM u ?_
   have al:=H
   have H:=H.freeze (i:=9) rfl
   obtain ⟨K,am,a⟩:=zC a
   refine MxM.XL_call oS rfl rfl rfl (v:=sb K) (fun j h=>zN en16 rfl) (fun j h=>bY (Faow U 0 u _ am _ _ _ ((H.sees h).enter [] [9,2]))) ?_
   have H:=al
   obtain ⟨L,an,a⟩:=zD a
   refine XP (fun _ _=>zM (wB (s1:=J) (s2:=K) rfl rfl) an)<| XP (fun _ _=>yL (v:= .bool L) rfl rfl)<| MxM.XL_splitb (b:=L) rfl rfl rfl rfl (fun C=>?_) (fun C=>?_)
   ·have a:=zU C a
    have ao:=H
    obtain ⟨D,ap,a⟩:=zC a
    refine MxM.XL_call oS rfl rfl rfl (v:= .bool D) (fun j h=>zN en10 rfl) (fun j h=>bY (Fcsw _ ap _ _ _ ((H.sees h).enter [] [3,4]))) ?_
    have H:=ao
    refine XP (fun _ _=>yL (v:= .bool D) rfl rfl)<| XP (fun _ _=>eG (v:= .bool D) rfl)<| MxM.XL_nil fun a9 hS=>?_
    have H:=H.sees hS
    have H:=A.rejoin H
    obtain rfl:=gJ a
    exact (zF (meet ⟨(),(zJ rfl zK),H.pick [2,3,4]⟩))
   have a:=zV C a
   refine MxM.XL_offr oS rfl rfl rfl ?_
   refine XP (fun _ _=>yD (v:= .bool false) rfl rfl)<| XP (fun _ _=>eG (v:= .bool false) rfl)<| MxM.XL_nil fun ba hS=>?_
   have H:=H.sees hS
   have H:=A.rejoin H
   obtain rfl:=gJ a
   exact (zF (meet ⟨(),(zJ rfl zK),H.pick [2,3,4]⟩))
  have a:=zV B a
  refine XO<| MxM.XL_offr oS rfl rfl rfl ?_
  refine XO<| MxM.XL_offr oS rfl rfl rfl ?_
  refine XO<| XP (fun _ _=>yD (v:= .bool false) rfl rfl)<| XM (.bool false)<| MxM.XL_offr oS rfl rfl rfl<| XP (fun _ _=>yD (v:= .bool false) rfl rfl)<| XP (fun _ _=>eG (v:= .bool false) rfl)<| MxM.XL_nil fun bb hS=>?_
  have H:=H.sees hS
  have H:=A.rejoin H
  obtain rfl:=gJ a
  exact (zF (meet ⟨(),(zJ rfl zK),H.pick [2,3,4]⟩))
 rintro _ ρ bc H
 have a:=Y
 obtain rfl:=gJ a
 refine (zZ (fB (v1:= .bool F) rfl rfl ?_))
 exact ⟨rfl,H.pick []⟩
end Go.Proofs.YtgmikmoapfmedaaGreatDoor.L
