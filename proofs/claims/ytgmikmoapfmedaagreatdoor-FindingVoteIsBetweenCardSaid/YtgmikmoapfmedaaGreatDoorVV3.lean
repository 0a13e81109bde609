/- Walks: what each function computes, for every argument; no condition but those that stand in the statements. -/
import Derived.Test.YtgmikmoapfmedaaGreatDoorVV0
import Derived.Test.YtgmikmoapfmedaaGreatDoorVV2
namespace Go.Proofs.YtgmikmoapfmedaaGreatDoor.L
open Go.RowKit Go.OB Go.Lf
set_option maxHeartbeats 4000000
theorem Fcyw (f:Rules)(v1:Value)(v2:Value)(d:Value)(r:(List Str)×Int)(c:Fcy f=some r)(O S:List Nat)(w:World)(H:Hd O w w S [f1 Rp.str v1 f.Phases,f1 gX v2 f.Moves,f1 gY d f.Rules]):
  Cl 88 [.agg [v1,v2,d].toArray] w fun e j=> ∃i,e= .returned (.tuple #[i,i6 r.2])∧Hd O w j S [.own Rp.str i 9 r.1]:=by
 unfold Fcy at c
 refine CW 12 Tryz.func88 ?_
 refine zB fun y k=>zA<| yT rfl rfl (fQ (cs:=[v1,v2,d]) rfl H) ?_
 rintro _ z ⟨A,rfl,H⟩
 refine zI (.slice none 0 0)<| zI (i6 0)<| RN k<| zB fun B l=>zB fun C m=>zA<| zG (yJ (yL (cs:=[v1,v2,d]) jL rfl nP rfl (Hbc H 3 rfl)) rfl) ?_
 have n:=H
 obtain ⟨g,o,c⟩:=zD c
 refine zT rfl rfl (zO en58 rfl) (Fbbw f v1 v2 d _ o _ _ _ (H.enter [] [0,1,2])) ?_
 rintro _ D ⟨rfl,p⟩
 have H:=n.step (p.only:Only [] _ _)
 refine ⟨_,rfl,?_⟩
 refine zI (i6 g)<| RN m<| zB fun E q=>zA<| zH (i6 g) ?_
 obtain ⟨F,s,c⟩:=zC c
 refine zG (zL (eQ (a:=g) (b:=0) rfl rfl) s)<| RN q ?_
 obtain ⟨t,c⟩:=yM c
 refine xM t ?_
 refine zQ (zF (l _ _ ?_))
 refine zB fun G u=>zA<| zG (yJ (yL (cs:=[v1,v2,d]) jL rfl nP rfl (Hbc H 3 rfl)) rfl) ?_
 obtain ⟨I,v,c⟩:=zD c
 refine zT rfl rfl (zO en116 rfl) (Fdtw f v1 v2 d _ v _ _ _ (H.enter [] [0,1,2])) ?_
 rintro _ J ⟨h,rfl,x⟩
 have H:=H.back1 [0,1,2] rfl x
 refine ⟨_,rfl,?_⟩
 refine zI h<| zI (i6 0)<| RN u ?_
 obtain rfl:=gI c
 refine (zX (kC (v1:=h) (v2:=i6 0) rfl rfl rfl ?_))
 exact ⟨h,rfl,H.pick [4]⟩
theorem Fc6w (c:Rules)(g:Int)(v1:Value)(d:Value)(f:Value)(r:(List Str))(b:Fc6 c g=some r)(O S:List Nat)(w:World)(H:Hd O w w S [f1 Rp.str v1 c.Phases,f1 gX d c.Moves,f1 gY f c.Rules]):
  Cl 60 [.agg [v1,d,f].toArray,i6 g] w fun e j=> ∃i,e= .returned (i)∧Hd O w j S [.own Rp.str i 9 r]:=by
 unfold Fc6 at b
 refine CW 15 Tryz.func60 ?_
 refine zB fun y k=>zA<| yT rfl rfl (fQ (cs:=[v1,d,f]) rfl H) ?_
 rintro _ z ⟨A,rfl,H⟩
 refine zI (.slice none 0 0)<| RN k<| zB fun B l=>zA<| zG (yJ (yL (cs:=[v1,d,f]) jL rfl nP rfl (Hbc H 3 rfl)) rfl)<| zH (i6 g) ?_
 obtain ⟨m,n,b⟩:=zD b
 refine zT rfl rfl (zO en89 rfl) (Fdcw c g v1 d f _ n _ _ _ (H.enter [] [0,1,2])) ?_
 rintro _ C ⟨o,p,q,rfl,s⟩
 have H:=H.back1 [0,1,2] rfl s
 refine ⟨_,rfl,?_⟩
 obtain ⟨⟨D,h⟩,t,b⟩:=zD b
 refine zT rfl rfl (zO en88 rfl) (Fcyw m o p q _ t _ _ _ (H.enter [] [4,5,6])) ?_
 rintro _ E ⟨a,rfl,u⟩
 have H:=H.back1 [4,5,6] rfl u
 refine ⟨_,rfl,?_⟩
 refine zH (.tuple #[a,i6 h])<| zG (xA (v:=a) rfl rfl)<| zG (xA (v:=i6 h) rfl rfl)<| zI a<| zI (i6 h)<| RN l<| zB fun F x=>zA<| zH a<| zI a<| RN x ?_
 obtain rfl:=gI b
 refine (zX (fB (v1:=a) rfl rfl ?_))
 exact ⟨a,rfl,H.pick [7]⟩
theorem Fdkw (f:Rules)(h:Str)(v1:Value)(v2:Value)(d:Value)(r:(List Str)×Int)(c:Fdk f h=some r)(O S:List Nat)(w:World)(H:Hd O w w S [f1 Rp.str v1 f.Phases,f1 gX v2 f.Moves,f1 gY d f.Rules]):
  Cl 31 [.agg [v1,v2,d].toArray,sb h] w fun e l=> ∃k,e= .returned (.tuple #[k,i6 r.2])∧Hd O w l S [.own Rp.str k 9 r.1]:=by
 unfold Fdk at c
 refine CW 21 Tryz.func31 ?_
 refine zB fun J m=>zA<| yT rfl rfl (fQ (cs:=[v1,v2,d]) rfl H) ?_
 rintro _ K ⟨L,rfl,H⟩
 refine zI (.slice none 0 0)<| zI (i6 0)<| RN m<| zB fun M n=>zB fun N o=>zA<| zG (yJ (yL (cs:=[v1,v2,d]) jL rfl nP rfl (Hbc H 3 rfl)) rfl) ?_
 have p:=H
 obtain ⟨i,q,c⟩:=zD c
 refine zT rfl rfl (zO en58 rfl) (Fbbw f v1 v2 d _ q _ _ _ (H.enter [] [0,1,2])) ?_
 rintro _ P ⟨rfl,s⟩
 have H:=p.step (s.only:Only [] _ _)
 refine ⟨_,rfl,?_⟩
 refine zI (i6 i)<| RN o<| zB fun Q t=>zA<| zH (i6 i) ?_
 obtain ⟨R,u,c⟩:=zC c
 refine zG (zL (eQ (a:=i) (b:=0) rfl rfl) u)<| RN t ?_
 obtain ⟨v,c⟩:=yM c
 refine xM v ?_
 refine zQ (zF (n _ _ ?_))
 refine zB fun T x=>zA<| zG (yJ (yL (cs:=[v1,v2,d]) jL rfl nP rfl (Hbc H 3 rfl)) rfl)<| zH (sb h) ?_
 have y:=H
 obtain ⟨g,z,c⟩:=zD c
 refine zT rfl rfl (zO en59 rfl) (Fcsw f h v1 v2 d _ z _ _ _ (H.enter [] [0,1,2])) ?_
 rintro _ U ⟨rfl,A⟩
 have H:=y.step (A.only:Only [] _ _)
 refine ⟨_,rfl,?_⟩
 refine zI (i6 g)<| RN x<| zB fun V B=>zB fun X C=>zA<| zH (i6 g) ?_
 obtain ⟨Y,D,c⟩:=zC c
 refine zG (zL (xI (a:=g) (b:=0) rfl rfl) D)<| RN C ?_
 obtain ⟨E,c⟩:=yM c
 refine xM E ?_
 refine zQ (zF (B _ _ ?_))
 refine zB fun Z F=>zA<| zG (yJ (yL (cs:=[v1,v2,d]) jL rfl nP rfl (Hbc H 3 rfl)) rfl)<| zH (i6 g) ?_
 obtain ⟨aa,G,c⟩:=zD c
 refine zT rfl rfl (zO en60 rfl) (Fc6w f g v1 v2 d _ G _ _ _ (H.enter [] [0,1,2])) ?_
 rintro _ ab ⟨j,rfl,I⟩
 have H:=H.back1 [0,1,2] rfl I
 refine ⟨_,rfl,?_⟩
 refine zI j<| zI (i6 0)<| RN F ?_
 obtain rfl:=gI c
 refine (zX (kC (v1:=j) (v2:=i6 0) rfl rfl rfl ?_))
 exact ⟨j,rfl,H.pick [4]⟩
theorem Falw (r:Bool)(c:Fal=some r)(O S:List Nat)(w:World)(H:Hd O w w S [.fz (.at 1 0 ((Fl.arr 7 Fl.str).f zW)),.fz (.gi 5)]):
  Cl 10 [] w fun e u=>e= .returned (.bool r)∧Hd O w u S []:=by
 unfold Fal at c
 refine CW 33 Tryz.func10 ?_
 refine zB fun K3 x=>zA<| zI (.bool false)<| RN x<| zB fun K4 y=>zA ?_
 obtain ⟨⟨j,n,l⟩,z,c⟩:=zD c
 refine zT rfl rfl (zO en30 rfl) (Fdnw [114,117,108,101,32,97,32,105,102,32,120,32,62,32,49] _ z _ _ _ (H.enter [] [0,1])) ?_
 rintro _ af ⟨d,g,h,rfl,A⟩
 have H:=H.back1 [0,1] rfl A
 refine ⟨_,rfl,?_⟩
 refine zH (.tuple #[.agg [d,g,h].toArray,i6 n,i6 l])<| zG (xA (v:= .agg [d,g,h].toArray) rfl rfl)<| zG (xA (v:=i6 n) rfl rfl)<| zG (xA (v:=i6 l) rfl rfl)<| yT rfl rfl (xE aAj H) ?_
 rintro _ ag ⟨q,rfl,H⟩
 refine xB rfl (yQ (vs:=[d,g,h]) H 5 rfl nP rfl rfl rfl ⟨(dW (H.item (i:=2) rfl)),(dW (H.item (i:=3) rfl)),(dW (H.item (i:=4) rfl)),trivial⟩ rfl) ?_
 rintro ah H
 refine zI (i6 n)<| zI (i6 l)<| RN y<| zB fun ai B=>zA<| zG (yJ (yL (cs:=[d,g,h]) jL rfl nP rfl (Hbc H 5 rfl)) rfl) ?_
 obtain ⟨⟨s,m⟩,C,c⟩:=zD c
 refine zT rfl rfl (zO en31 rfl) (Fdkw j [97] d g h _ C _ _ _ (H.enter [] [2,3,4])) ?_
 rintro _ aj ⟨k,rfl,D⟩
 have H:=H.back1 [2,3,4] rfl D
 refine ⟨_,rfl,?_⟩
 refine zH (.tuple #[k,i6 m])<| zG (xA (v:=k) rfl rfl)<| zG (xA (v:=i6 m) rfl rfl)<| zI k<| zI (i6 m)<| RN B<| zB fun ak E=>zA<| zH (i6 l) ?_
 obtain ⟨al,F,c⟩:=zC c
 refine zG (zL (fV (a:=l) (b:=0) rfl rfl) F) ?_
 obtain ⟨G,c,I⟩:=zD c
 refine eH 4 [18,19,20,21] [(21,.bool G)] (fun wl=>Hd O w wl S [.fz (.at 1 0 ((Fl.arr 7 Fl.str).f zW)),.fz (.gi 5),f1 Rp.str d j.Phases,f1 gX g j.Moves,f1 gY h j.Rules,.blk q [d,g,h] 75,.own Rp.str k 9 s]) ?_ ?_
 ·skip
  obtain ⟨J,c⟩:=eX c
  refine dL true J ?_
  refine zH (i6 m) ?_
  obtain ⟨K,L,c⟩:=zC c
  refine zG (zL (fV (a:=m) (b:=0) rfl rfl) L)<| zG (yG (v:= .bool K) rfl rfl) ?_
  obtain rfl:=gI c
  exact zZ (zF (meet ⟨(zJ rfl zK),H.pick [0,1,2,3,4,5,6]⟩))
 rintro ρ am H
 have c:=I
 obtain ⟨M,c,N⟩:=zD c
 refine eH 5 [22,23,24,25,26] [(26,.bool M)] (fun wl=>Hd O w wl S [.fz (.at 1 0 ((Fl.arr 7 Fl.str).f zW)),.fz (.gi 5),f1 Rp.str d j.Phases,f1 gX g j.Moves,f1 gY h j.Rules,.blk q [d,g,h] 75,.own Rp.str k 9 s]) ?_ ?_
 ·skip
  obtain ⟨P,c⟩:=eX c
  refine dL true P ?_
  refine zH k ?_
  obtain ⟨Q,R,c⟩:=zC c
  obtain ⟨an,ao,T⟩:=Sr.len (Sr.of_own (H.item (i:=6) rfl))
  refine zG (yJ (xJ u36 T) (congrArg (Value.int .i64) R)) ?_
  obtain ⟨U,V,c⟩:=zC c
  refine zG (zL (fV (a:=Q) (b:=1) rfl rfl) V)<| zG (yG (v:= .bool U) rfl rfl) ?_
  obtain rfl:=gI c
  exact zZ (zF (meet ⟨(zJ rfl zK),H.pick [0,1,2,3,4,5,6]⟩))
 rintro ρ ap H
 have c:=N
 obtain ⟨X,c⟩:=eX c
 refine dL true X ?_
 refine zH k ?_
 obtain ⟨t,o,c⟩:=zD c
 obtain ⟨aq,ar,Y,Z,aa,ab⟩:=dN (H.item (i:=6) rfl) o
 obtain rfl:Y= [sb t]:=aa
 refine zG (yU u36 sz9 Z rfl (zN o).1 (zN o).2.1 rfl rfl)<| zG (yZ dQ rfl (Cells.get ab (i:=0) rfl)) ?_
 obtain ⟨p,ac,c⟩:=zC c
 refine zG (zL (fO (s1:=t) (s2:=[120]) rfl rfl) ac)<| zG (yG (v:= .bool p) rfl rfl)<| zI (.bool p)<| RN E ?_
 obtain rfl:=gI c
 refine (zX (fB (v1:= .bool p) rfl rfl ?_))
 exact ⟨rfl,H.pick []⟩
theorem Fb6w (a:gV)(b:gV)(v1:Value)(d:Nat)(f:Value)(r:Bool)(c:Fb6 a b=some r)(O S:List Nat)(w:World)(H:Hd O w w S [.blk d [sb b.Name,i6 b.Series.Den,f,i6 b.Long] 41,f1 gW v1 a.Series.Samples,f1 gW f b.Series.Samples]):
  Cl 43 [.agg [sb a.Name,i6 a.Series.Den,v1,i6 a.Long].toArray,gZ d] w fun e h=>e= .returned (.bool r)∧Hd O w h S [.blk d [sb b.Name,i6 b.Series.Den,f,i6 b.Long] 41]:=by
 unfold Fb6 at c
 refine CW 9 Tryz.func43 ?_
 refine zB fun l i=>zA<| yT rfl rfl (fQ (cs:=[sb a.Name,i6 a.Series.Den,v1,i6 a.Long]) rfl H) ?_
 rintro _ m ⟨n,rfl,H⟩
 refine zI (.bool false)<| RN i<| zB fun o j=>zA<| zG (jE rfl)<| Ld dQ H 3 0 rfl rfl<| zG (jE rfl)<| Ld dQ H 0 0 rfl rfl ?_
 obtain ⟨g,k,c⟩:=zC c
 refine zG (zL (fO (s1:=a.Name) (s2:=b.Name) rfl rfl) k)<| zI (.bool g)<| RN j ?_
 obtain rfl:=gI c
 refine (zX (fB (v1:= .bool g) rfl rfl ?_))
 exact ⟨rfl,H.pick [0]⟩
theorem Fayw (k:List gV)(p1c0:gV)(v1:Value)(h:Nat)(f:Value)(r:Int)(c:Fay k p1c0=some r)(O S:List Nat)(w:World)(H:Hd O w w S [.blk h [sb p1c0.Name,i6 p1c0.Series.Den,f,i6 p1c0.Long] 41,f1 fD v1 k,f1 gW f p1c0.Series.Samples]):
  Cl 46 [v1,.func (.func 43) #[] #[gZ h]] w fun e s=>e= .returned (i6 r)∧Hd O w s S [.blk h [sb p1c0.Name,i6 p1c0.Series.Den,f,i6 p1c0.Long] 41]:=by
 unfold Fay at c
 refine CW 19 Tryz.func46 ?_
 refine zB fun K7 t=>zA<| zI (i6 0)<| RN t ?_
 obtain ⟨u,v,c⟩:=xH c
 refine yI [4,5,6,7,8,9,10,11,12,13,14,15,16,17,18] (fun (g:Unit)=>[]) (fun g wl=>Hd O w wl S [.blk h [sb p1c0.Name,i6 p1c0.Series.Den,f,i6 p1c0.Long] 41,f1 gW f p1c0.Series.Samples]∧u ()=some r) ?_ ?_
 ·skip
  refine zB fun ae x=>zA<| zH v1 ?_
  obtain ⟨y,z,c⟩:=zC c
  obtain ⟨af,ag,A⟩:=SlF.len ((H.item (i:=1) rfl))
  refine zG (yJ (xJ u22 A) (congrArg (Value.int .i64) z))<| zH (i6 0)<| RN x<| zY ?_
  unfold Fdo at c
  obtain ⟨B,p,C,c⟩:=yK c
  refine yX [4,5,8,9,10,11,12,13,14,15,16,17,18] (fun (g:Nat×Int)=>[(8,i6 g.2)]) (fun g wl=>Hd O w wl S [.blk h [sb p1c0.Name,i6 p1c0.Series.Den,f,i6 p1c0.Long] 41,f1 gW f p1c0.Series.Samples,f1 fD v1 k]∧fE B g.1 g.2=some r) (fun g=>g.1) (p,0) (zJ rfl zK) ⟨H.pick [0,2,1],c⟩ ?_
  clear H c
  rintro ⟨p,d⟩ ρ ah ⟨H,c⟩
  obtain ⟨D,rfl,c⟩:=yO c
  have c:=yN C c
  refine zB fun ai E=>zA ?_
  obtain ⟨F,G,c⟩:=zC c
  refine zG (zL (xI (a:=d) (b:=y) rfl rfl) G)<| RN E<| zB fun aj I=>yC (b:=F) rfl (fun l=>?_) (fun l=>?_)
  ·have c:=zU l c
   refine zQ (zF (I _ _ ?_))
   refine zB fun ak J=>?_
   refine zY ?_
   refine zB fun al K=>zA<| zH (i6 d)<| zI (i6 d)<| RN K<| zB fun am L=>zA<| zH (.func (.func 43) #[] #[gZ h])<| zH v1<| zH (i6 d) ?_
   obtain ⟨j,m,c⟩:=zD c
   obtain ⟨M,N,an,ao,P,Q,R,T,U⟩:=xU (H.item (i:=2) rfl) m
   obtain ⟨n,rfl,V⟩:=xR Q
   have H:=H.fzs [.at M (N+d.toNat * 4) _,.sl gW n j.Series.Samples] ⟨⟨R,T,U⟩,V,trivial⟩
   refine zG (yU u22 cO P rfl (zN m).1 (zN m).2.1 rfl rfl)<| zG (yJ (yL (cs:=[sb j.Name,i6 j.Series.Den,n,i6 j.Long]) mJ rfl cO rfl (H.item (i:=3) rfl).2.2) rfl) ?_
   obtain ⟨X,Y,c⟩:=zD c
   refine zT rfl rfl (aB en43 rfl rfl) (Fb6w j p1c0 n h f _ Y _ _ _ (H.enter [0] [4,1])) ?_
   rintro _ ap ⟨rfl,Z⟩
   have H:Hd _ _ _ _ [_,_,_,_,_]:=H.back [0] [4,1] rfl Z
   refine ⟨_,rfl,?_⟩
   refine RN L<| yC (b:=X) rfl (fun o=>?_) (fun o=>?_)
   ·have c:=zU o c
    refine zB fun aq aa=>zA<| zH (i6 d)<| zI (i6 d)<| RN aa ?_
    obtain rfl:=gI c
    refine (zX (yE (zS (zS (yE (zS (fB (v1:=i6 d) rfl rfl ?_)))))))
    exact ⟨rfl,H.pick [4]⟩
   have c:=zV o c
   refine (zQ (yV (zF (J _ _ ?_))))
   refine zA ?_
   obtain ⟨q,ab,c⟩:=zC c
   refine zG (xP (a:=d) (b:=1) rfl rfl ab)<| zH (i6 q) ?_
   exact (zZ (zF (meet ⟨(D,q),(zJ rfl zK),⟨H.pick [4,0,1],c⟩,Nat.lt_succ_self _⟩)))
  have c:=zV l c
  exact (xG (yD (yD (yS (zF (meet ⟨(),zK,⟨H.pick [0,1],c⟩⟩))))))
 rintro _ ρ ar ⟨H,c⟩
 have c:=xO v c
 refine zB fun au ac=>zA<| zI (i6 (-1))<| RN ac ?_
 obtain rfl:=gI c
 refine (zX (fB (v1:=i6 (-1)) rfl rfl ?_))
 exact ⟨rfl,H.pick [0]⟩
theorem Fazw (g:List gV)(p1c0:gV)(v1:Value)(d:Nat)(f:Value)(r:Bool)(c:Faz g p1c0=some r)(O S:List Nat)(w:World)(H:Hd O w w S [.blk d [sb p1c0.Name,i6 p1c0.Series.Den,f,i6 p1c0.Long] 41,f1 fD v1 g,f1 gW f p1c0.Series.Samples]):
  Cl 42 [v1,.func (.func 43) #[] #[gZ d]] w fun e i=>e= .returned (.bool r)∧Hd O w i S [.blk d [sb p1c0.Name,i6 p1c0.Series.Den,f,i6 p1c0.Long] 41]:=by
 unfold Faz at c
 refine CW 9 Tryz.func42 ?_
 refine zB fun p j=>zA<| zI (.bool false)<| RN j<| zB fun q k=>zA<| zH v1<| zH (.func (.func 43) #[] #[gZ d]) ?_
 obtain ⟨l,m,c⟩:=zD c
 refine zT rfl rfl (zO en46 rfl) (Fayw g p1c0 v1 d f _ m _ _ _ (H.enter [0] [1,2])) ?_
 rintro _ s ⟨rfl,n⟩
 have H:Hd _ _ _ _ [_,_,_]:=H.back [0] [1,2] rfl n
 refine ⟨_,rfl,?_⟩
 obtain ⟨h,o,c⟩:=zC c
 refine zG (zL (bI (a:=l) (b:=0) rfl rfl) o)<| zI (.bool h)<| RN k ?_
 obtain rfl:=gI c
 refine (zX (fB (v1:= .bool h) rfl rfl ?_))
 exact ⟨rfl,H.pick [2]⟩
theorem Fafw (d:Int)(f:Int)(h:Int)(r:Bool)(c:Faf d f h=some r)(O S:List Nat)(w:World)(H:Hd O w w S []):
  Cl 95 [i6 d,i6 f,i6 h] w fun e l=>e= .returned (.bool r)∧Hd O w l S []:=by
 unfold Faf at c
 refine CW 15 Tryz.func95 ?_
 refine zB fun s m=>zA<| zI (.bool false)<| RN m ?_
 obtain ⟨j,c,n⟩:=zD c
 refine yI [6,7,8,9,10,11,12,13,14] (fun (g:Unit)=>[(6,.bool j)]) (fun g wl=>Hd O w wl S []) ?_ ?_
 ·skip
  refine zA ?_
  refine zH (i6 d)<| zH (i6 f) ?_
  obtain ⟨o,p,c⟩:=zC c
  refine zG (zL (bI (a:=d) (b:=f) rfl rfl) p)<| xC (b:=o) rfl rfl rfl (fun i=>?_) (fun i=>?_)
  ·have c:=zU i c
   refine zH (i6 d)<| zH (i6 h) ?_
   obtain ⟨k,q,c⟩:=zC c
   refine zG (zL (bV (a:=d) (b:=h) rfl rfl) q)<| zG (yG (v:= .bool k) rfl rfl)<| zI (.bool k) ?_
   obtain rfl:=gI c
   exact (zZ (zF (meet ⟨(),(zJ rfl zK),H.pick []⟩)))
  have c:=zV i c
  refine yH ?_
  refine yH ?_
  refine yH ?_
  refine zG (yB (v:= .bool false) rfl rfl)<| zI (.bool false) ?_
  obtain rfl:=gI c
  exact (zZ (zF (meet ⟨(),(zJ rfl zK),H.pick []⟩)))
 rintro _ ρ t H
 have c:=n
 obtain rfl:=gI c
 refine (zX (fB (v1:= .bool j) rfl rfl ?_))
 exact ⟨rfl,H.pick []⟩
set_option maxRecDepth 100000 in
theorem Fa7w (h:Series)(v1:Value)(r:Int×Int)(c:Fa7 h=some r)(O S:List Nat)(w:World)(H:Hd O w w S [f1 gW v1 h.Samples]):
  Cl 69 [.agg [i6 h.Den,v1].toArray] w fun e B=>e= .returned (.tuple #[i6 r.1,i6 r.2])∧Hd O w B S []:=by
 unfold Fa7 at c
 refine CW 67 Tryz.func69 ?_
 refine zB fun K3 R=>zA<| yT rfl rfl (fQ (cs:=[i6 h.Den,v1]) rfl H) ?_
 rintro _ w6 ⟨j,rfl,H⟩
 refine zI (i6 0)<| zI (i6 0)<| RN R<| zB fun ci T=>zB fun cj U=>zA<| zG (uU rfl)<| Ld fJ H 1 0 rfl rfl ?_
 have V:=H
 obtain ⟨X,Y,c⟩:=zD c
 refine zT rfl rfl (zO en95 rfl) (Fafw h.Den 1 1000000 _ Y _ _ _ (H.enter [] [])) ?_
 rintro _ ck ⟨rfl,Z⟩
 have H:=V.step (Z.only:Only [] _ _)
 refine ⟨_,rfl,?_⟩
 obtain ⟨aa,ab,c⟩:=zC c
 refine zG (zL (fU (p:=X) rfl) ab)<| RN U<| yC (b:=aa) rfl (fun k=>?_) (fun k=>?_)
 ·have c:=zU k c
  refine zB fun cl ac=>zA<| zI (i6 (-1))<| zI (i6 9)<| RN ac ?_
  obtain rfl:=gI c
  refine (zX (zS (kC (v1:=i6 (-1)) (v2:=i6 9) rfl rfl rfl ?_)))
  exact ⟨rfl,H.pick []⟩
 have c:=zV k c
 refine zQ (zF (T _ _ ?_))
 refine zB fun cm ad=>?_
 refine zB fun cn ae=>zA<| zG (dS rfl)<| Ld bY H 1 1 rfl rfl ?_
 obtain ⟨af,ag,c⟩:=zC c
 obtain ⟨co,cp,ah⟩:=SlF.len ((H.item (i:=0) rfl))
 refine zG (yJ (xJ u37 ah) (congrArg (Value.int .i64) ag)) ?_
 obtain ⟨ai,aj,c⟩:=zC c
 refine zG (zL (dD (a:=af) (b:=20000) rfl rfl) aj)<| RN ae<| yC (b:=ai) rfl (fun l=>?_) (fun l=>?_)
 ·have c:=zU l c
  refine zB fun cq ak=>zA<| zI (i6 (-1))<| zI (i6 3)<| RN ak ?_
  obtain rfl:=gI c
  refine (zX (zS (kC (v1:=i6 (-1)) (v2:=i6 3) rfl rfl rfl ?_)))
  exact ⟨rfl,H.pick []⟩
 have c:=zV l c
 refine zQ (zF (ad _ _ ?_))
 obtain ⟨al,am,c⟩:=xH c
 refine yI [2,3,4,5,14,15,16,17,18,19,20,21,22,23,24,25,26,27,28,29,30,31,32,33,34,35,36,37,38,39,40,41,42,43,44,45,46,47,48,49,50,51,52,53,54,55,56,57,58,59,60,61,62,63,64,65,66] (fun (g:Unit)=>[]) (fun g wl=>Hd O w wl S []∧al ()=some r) ?_ ?_
 ·skip
  refine zB fun cr an=>zA<| zG (dS rfl)<| Ld bY H 1 1 rfl rfl ?_
  obtain ⟨ao,ap,c⟩:=zC c
  obtain ⟨ct,cu,aq⟩:=SlF.len ((H.item (i:=0) rfl))
  refine zG (yJ (xJ u37 aq) (congrArg (Value.int .i64) ap))<| zH (i6 0)<| RN an<| zY ?_
  unfold Fbt at c
  obtain ⟨ar,C,au,c⟩:=yK c
  refine yX [2,3,4,5,17,18,19,20,21,22,23,24,25,26,27,28,29,30,31,32,33,34,35,36,37,38,39,40,41,42,43,44,45,46,47,48,49,50,51,52,53,54,55,56,57,58,59,60,61,62,63,64,65,66] (fun (g:Nat×Int)=>[(17,i6 g.2)]) (fun g wl=>Hd O w wl S [f1 gW v1 h.Samples,.blk j [i6 h.Den,v1] 39]∧fE ar g.1 g.2=some r) (fun g=>g.1) (C,0) (zJ rfl zK) ⟨H.pick [0,1],c⟩ ?_
  clear H c
  rintro ⟨C,f⟩ ρ cv ⟨H,c⟩
  obtain ⟨av,rfl,c⟩:=yO c
  have c:=yN au c
  refine zB fun cw aw=>zA ?_
  obtain ⟨ax,ay,c⟩:=zC c
  refine zG (zL (xI (a:=f) (b:=ao) rfl rfl) ay)<| RN aw<| zB fun cx az=>yC (b:=ax) rfl (fun m=>?_) (fun m=>?_)
  ·have c:=zU m c
   refine zQ (zF (az _ _ ?_))
   refine zB fun cy a0=>?_
   refine zY ?_
   refine zB fun cz a1=>zA<| zH (i6 f) ?_
   obtain ⟨d,n,c⟩:=zD c
   obtain ⟨D,E,c0,c1,a2,a3,a4,a5,a6⟩:=xU (H.item (i:=0) rfl) n
   obtain rfl:=xW a3
   have H:=H.fz (.at D (E+f.toNat * 3) _) ⟨a4,a5,a6⟩
   refine zG (yU u37 dV a2 rfl (zN n).1 (zN n).2.1 rfl rfl)<| zG (yJ (yL (cs:=[i6 d.At,i6 d.N,i6 d.Mark]) aZ rfl dV rfl (H.item (i:=2) rfl).2.2) rfl)<| yT rfl rfl (xE jU H) ?_
   rintro _ c2 ⟨o,rfl,H⟩
   refine zI (i6 f)<| xB rfl (yQ (vs:=[i6 d.At,i6 d.N,i6 d.Mark]) H 3 rfl dV rfl rfl rfl ⟨rfl,rfl,rfl,trivial⟩ rfl) ?_
   rintro c3 H
   refine RN a1<| zY ?_
   obtain ⟨F,c,a7⟩:=zD c
   refine yI [22,23,24,25,26,27,28,29,30,31,32,33,34,35,36,37,38] (fun (g:Unit)=>[(22,.bool F)]) (fun g wl=>Hd O w wl S [f1 gW v1 h.Samples,.blk j [i6 h.Den,v1] 39,.blk o [i6 d.At,i6 d.N,i6 d.Mark] 46]) ?_ ?_
   ·skip
    refine zA ?_
    refine zG (jF rfl)<| Ld fJ H 3 0 rfl rfl ?_
    have a8:=H
    obtain ⟨a9,ba,c⟩:=zD c
    refine zT rfl rfl (zO en95 rfl) (Fafw d.At 0 1099511627776 _ ba _ _ _ (H.enter [] [])) ?_
    rintro _ c4 ⟨rfl,bb⟩
    have H:=a8.step (bb.only:Only [] _ _)
    refine ⟨_,rfl,?_⟩
    obtain ⟨bc,bd,c⟩:=zC c
    refine zG (zL (fU (p:=a9) rfl) bd) ?_
    obtain ⟨G,c,be⟩:=zD c
    refine eH 6 [27,28,29,30,31,32] [(32,.bool G)] (fun wl=>Hd O w wl S [f1 gW v1 h.Samples,.blk j [i6 h.Den,v1] 39,.fz (.at D (E+f.toNat * 3) [i6 d.At,i6 d.N,i6 d.Mark]),.blk o [i6 d.At,i6 d.N,i6 d.Mark] 46]) ?_ ?_
    ·skip
     refine xC (b:=bc) rfl rfl rfl (fun q=>?_) (fun q=>?_)
     ·have c:=zU q c
      refine yH ?_
      refine yH ?_
      refine yH ?_
      refine yH ?_
      refine zG (yG (v:= .bool true) rfl rfl) ?_
      obtain rfl:=gI c
      exact zZ (zF (meet ⟨(zJ rfl zK),H.pick [0,1,2,3]⟩))
     have c:=zV q c
     refine zG (mZ rfl)<| Ld fJ H 3 1 rfl rfl ?_
     have bf:=H
     obtain ⟨bg,bh,c⟩:=zD c
     refine zT rfl rfl (zO en95 rfl) (Fafw d.N (-1125899906842624) 1125899906842624 _ bh _ _ _ (H.enter [] [])) ?_
     rintro _ c5 ⟨rfl,bi⟩
     have H:=bf.step (bi.only:Only [] _ _)
     refine ⟨_,rfl,?_⟩
     obtain ⟨bj,bk,c⟩:=zC c
     refine zG (zL (fU (p:=bg) rfl) bk)<| zG (yB (v:= .bool bj) rfl rfl) ?_
     obtain rfl:=gI c
     exact zZ (zF (meet ⟨(zJ rfl zK),H.pick [0,1,2,3]⟩))
    rintro ρ c6 H
    have c:=be
    refine xC (b:=G) rfl rfl rfl (fun s=>?_) (fun s=>?_)
    ·have c:=zU s c
     refine yH ?_
     refine yH ?_
     refine yH ?_
     refine yH ?_
     refine zG (yG (v:= .bool true) rfl rfl)<| zI (.bool true) ?_
     obtain rfl:=gI c
     exact (zZ (zF (meet ⟨(),(zJ rfl zK),H.pick [0,1,3]⟩)))
    have c:=zV s c
    refine zG (pK rfl)<| Ld fJ H 3 2 rfl rfl ?_
    have bl:=H
    obtain ⟨bm,bn,c⟩:=zD c
    refine zT rfl rfl (zO en95 rfl) (Fafw d.Mark 0 4 _ bn _ _ _ (H.enter [] [])) ?_
    rintro _ c7 ⟨rfl,bo⟩
    have H:=bl.step (bo.only:Only [] _ _)
    refine ⟨_,rfl,?_⟩
    obtain ⟨I,bp,c⟩:=zC c
    refine zG (zL (fU (p:=bm) rfl) bp)<| zG (yB (v:= .bool I) rfl rfl)<| zI (.bool I) ?_
    obtain rfl:=gI c
    exact (zZ (zF (meet ⟨(),(zJ rfl zK),H.pick [0,1,3]⟩)))
   rintro _ ρ c8 H
   have c:=a7
   refine yC (b:=F) rfl (fun t=>?_) (fun t=>?_)
   ·have c:=zU t c
    refine zB fun c9 bq=>zA<| zH (i6 f)<| zI (i6 f)<| zI (i6 9)<| RN bq ?_
    obtain rfl:=gI c
    refine (zX (yE (yE (zS (zS (yE (zS (kC (v1:=i6 f) (v2:=i6 9) rfl rfl rfl ?_))))))))
    exact ⟨rfl,H.pick []⟩
   have c:=zV t c
   obtain ⟨J,c,br⟩:=zD c
   refine yI [40,41,42,43,44,45,46,47,48] (fun (g:Unit)=>[(40,.bool J)]) (fun g wl=>Hd O w wl S [f1 gW v1 h.Samples,.blk j [i6 h.Den,v1] 39,.blk o [i6 d.At,i6 d.N,i6 d.Mark] 46]) ?_ ?_
   ·skip
    refine zA ?_
    refine zG (mZ rfl)<| Ld fJ H 2 1 rfl rfl ?_
    obtain ⟨bt,bu,c⟩:=zC c
    refine zG (zL (eQ (a:=d.N) (b:=0) rfl rfl) bu)<| xC (b:=bt) rfl rfl rfl (fun u=>?_) (fun u=>?_)
    ·have c:=zU u c
     refine zG (pK rfl)<| Ld fJ H 2 2 rfl rfl ?_
     obtain ⟨K,bv,c⟩:=zC c
     refine zG (zL (bV (a:=d.Mark) (b:=1) rfl rfl) bv)<| zG (yG (v:= .bool K) rfl rfl)<| zI (.bool K) ?_
     obtain rfl:=gI c
     exact (zZ (zF (meet ⟨(),(zJ rfl zK),H.pick [0,1,2]⟩)))
    have c:=zV u c
    refine yH ?_
    refine yH ?_
    refine yH ?_
    refine zG (yB (v:= .bool false) rfl rfl)<| zI (.bool false) ?_
    obtain rfl:=gI c
    exact (zZ (zF (meet ⟨(),(zJ rfl zK),H.pick [0,1,2]⟩)))
   rintro _ ρ da H
   have c:=br
   refine yC (b:=J) rfl (fun x=>?_) (fun x=>?_)
   ·have c:=zU x c
    refine zB fun db bw=>zA<| zH (i6 f)<| zI (i6 f)<| zI (i6 2)<| RN bw ?_
    obtain rfl:=gI c
    refine (zX (yE (yE (zS (zS (yE (zS (kC (v1:=i6 f) (v2:=i6 2) rfl rfl rfl ?_))))))))
    exact ⟨rfl,H.pick []⟩
   have c:=zV x c
   obtain ⟨L,c,bx⟩:=zD c
   refine yI [50,51,52,53,54,55,56,57,58,59,60,61,62,63,64] (fun (g:Unit)=>[(50,.bool L)]) (fun g wl=>Hd O w wl S [f1 gW v1 h.Samples,.blk j [i6 h.Den,v1] 39]) ?_ ?_
   ·skip
    have M:=H
    have H:=H.rebase
    have dc:=H
    refine WP_mix0 H [0,1,2,3,4,5,6,7,8,9,10,11,12,13,14] (kz [0,0,0,0,1,0,1,0,0,0,0,1,0,0,0]) mixed ?_
    refine XM (i6 f) ?_
    obtain ⟨bz,b0,c⟩:=zC c
    refine XP (fun _ _=>zL (dD (a:=f) (b:=0) rfl rfl) b0)<| MxM.XL_splitb (b:=bz) rfl rfl rfl rfl (fun y=>?_) (fun y=>?_)
    ·have c:=zU y c
     refine XP (fun _ _=>jF rfl)<| XR fJ H 2 0 rfl rfl<| XP (fun _ _=>dS rfl)<| XR bY H 1 1 rfl rfl<| XM (i6 f) ?_
     obtain ⟨b1,b2,c⟩:=zC c
     refine XP (fun _ _=>dH (a:=f) (b:=1) rfl rfl b2) ?_
     obtain ⟨b3,z,c⟩:=zD c
     obtain ⟨b4,b5,dd,de,b6,b7,b8,b9,ca⟩:=xU (H.item (i:=0) rfl) z
     obtain rfl:=xW b7
     have H:=H.fz (.at b4 (b5+b1.toNat * 3) _) ⟨b8,b9,ca⟩
     refine XP (fun _ _=>yU u37 dV b6 rfl (zN z).1 (zN z).2.1 rfl rfl)<| XP (fun _ _=>jF rfl)<| MxM.xN oS rfl rfl rfl (fun B cb=>yZ fJ rfl (Cells.get ((H.sees cb).item (i:=3) rfl).2.2 (i:=0) rfl)) ?_
     obtain ⟨P,cc,c⟩:=zC c
     refine XP (fun _ _=>zL (bV (a:=d.At) (b:=b3.At) rfl rfl) cc)<| XP (fun _ _=>yG (v:= .bool P) rfl rfl)<| XP (fun _ _=>dU (v:= .bool P) rfl)<| MxM.XL_nil fun df hS=>?_
     have H:=H.sees hS
     have H:=M.rejoin H
     obtain rfl:=gI c
     exact (zF (meet ⟨(),(zJ rfl zK),H.pick [0,1]⟩))
    have c:=zV y c
    refine XO<| MxM.XL_offr oS rfl rfl rfl ?_
    refine XO<| MxM.XL_offr oS rfl rfl rfl ?_
    refine XO<| XO<| XO<| XO<| MxM.XL_offr oS rfl rfl rfl ?_
    refine XO<| XP (fun _ _=>yB (v:= .bool false) rfl rfl)<| XP (fun _ _=>dU (v:= .bool false) rfl)<| MxM.XL_nil fun dg hS=>?_
    have H:=H.sees hS
    have H:=M.rejoin H
    obtain rfl:=gI c
    exact (zF (meet ⟨(),(zJ rfl zK),H.pick [0,1]⟩))
   rintro _ ρ dh H
   have c:=bx
   refine yC (b:=L) rfl (fun A=>?_) (fun A=>?_)
   ·have c:=zU A c
    refine zB fun di cd=>zA<| zH (i6 f)<| zI (i6 f)<| zI (i6 10)<| RN cd ?_
    obtain rfl:=gI c
    refine (zX (yE (yE (zS (zS (yE (zS (kC (v1:=i6 f) (v2:=i6 10) rfl rfl rfl ?_))))))))
    exact ⟨rfl,H.pick []⟩
   have c:=zV A c
   refine (zQ (yV (yV (zF (a0 _ _ ?_)))))
   refine zA ?_
   obtain ⟨Q,ce,c⟩:=zC c
   refine zG (xP (a:=f) (b:=1) rfl rfl ce)<| zH (i6 Q) ?_
   exact (zZ (zF (meet ⟨(av,Q),(zJ rfl zK),⟨H.pick [0,1],c⟩,Nat.lt_succ_self _⟩)))
  have c:=zV m c
  exact (xG (yD (yD (yS (zF (meet ⟨(),zK,⟨H.pick [],c⟩⟩))))))
 rintro _ ρ dj ⟨H,c⟩
 have c:=xO am c
 refine zB fun dk cf=>zA<| zI (i6 (-1))<| zI (i6 0)<| RN cf ?_
 obtain rfl:=gI c
 refine (zX (kC (v1:=i6 (-1)) (v2:=i6 0) rfl rfl rfl ?_))
 exact ⟨rfl,H.pick []⟩
theorem Fbdw (a:Series)(v1:Value)(r:Int)(c:Fbd a=some r)(O S:List Nat)(w:World)(H:Hd O w w S [f1 gW v1 a.Samples]):
  Cl 44 [.agg [i6 a.Den,v1].toArray] w fun e f=>e= .returned (i6 r)∧Hd O w f S []:=by
 unfold Fbd at c
 refine CW 11 Tryz.func44 ?_
 refine zB fun m g=>zA<| yT rfl rfl (fQ (cs:=[i6 a.Den,v1]) rfl H) ?_
 rintro _ n ⟨o,rfl,H⟩
 refine zI (i6 0)<| RN g<| zB fun p h=>zA<| zG (yJ (yL (cs:=[i6 a.Den,v1]) rF rfl aBo rfl (Hbc H 1 rfl)) rfl) ?_
 have i:=H
 obtain ⟨⟨d,b⟩,j,c⟩:=zD c
 refine zT rfl rfl (zO en69 rfl) (Fa7w a v1 _ j _ _ _ (H.enter [] [0])) ?_
 rintro _ q ⟨rfl,k⟩
 have H:=i.step (k.only:Only [] _ _)
 refine ⟨_,rfl,?_⟩
 refine zH (.tuple #[i6 d,i6 b])<| zG (xA (v:=i6 d) rfl rfl)<| zG (xA (v:=i6 b) rfl rfl)<| zI (i6 d)<| zI (i6 b)<| RN h<| zB fun s l=>zA<| zH (i6 b)<| zI (i6 b)<| RN l ?_
 obtain rfl:=gI c
 refine (zX (fB (v1:=i6 b) rfl rfl ?_))
 exact ⟨rfl,H.pick []⟩
set_option maxRecDepth 100000 in
theorem Fa3w (k:List gV)(v1:Value)(r:Int)(c:Fa3 k=some r)(O S:List Nat)(w:World)(H:Hd O w w S [f1 fD v1 k]):
  Cl 17 [v1] w fun e z=>e= .returned (i6 r)∧Hd O w z S []:=by
 unfold Fa3 at c
 refine CW 36 Tryz.func17 ?_
 refine zB fun K3 A=>zA<| zI (i6 0)<| RN A<| zB fun bo B=>zB fun bp C=>zA<| zH v1 ?_
 obtain ⟨D,E,c⟩:=zC c
 obtain ⟨bq,br,F⟩:=SlF.len ((H.item (i:=0) rfl))
 refine zG (yJ (xJ u22 F) (congrArg (Value.int .i64) E)) ?_
 obtain ⟨G,I,c⟩:=zC c
 refine zG (zL (dD (a:=D) (b:=50) rfl rfl) I)<| RN C<| yC (b:=G) rfl (fun l=>?_) (fun l=>?_)
 ·have c:=zU l c
  refine zB fun bt J=>zA<| zI (i6 3)<| RN J ?_
  obtain rfl:=gI c
  refine (zX (zS (fB (v1:=i6 3) rfl rfl ?_)))
  exact ⟨rfl,H.pick []⟩
 have c:=zV l c
 refine zQ (zF (B _ _ ?_))
 obtain ⟨K,L,c⟩:=xH c
 refine yI [2,3,4,5,9,10,11,12,13,14,15,16,17,18,19,20,21,22,23,24,25,26,27,28,29,30,31,32,33,34,35] (fun (g:Unit)=>[]) (fun g wl=>Hd O w wl S []∧K ()=some r) ?_ ?_
 ·skip
  refine zB fun bu M=>zA<| zH v1 ?_
  obtain ⟨N,P,c⟩:=zC c
  obtain ⟨bv,bw,Q⟩:=SlF.len ((H.item (i:=0) rfl))
  refine zG (yJ (xJ u22 Q) (congrArg (Value.int .i64) P))<| zH (i6 0)<| RN M<| zY ?_
  unfold Fc9 at c
  obtain ⟨R,u,T,c⟩:=yK c
  refine yX [2,3,4,5,11,12,13,14,15,16,17,18,19,20,21,22,23,24,25,26,27,28,29,30,31,32,33,34,35] (fun (g:Nat×Int)=>[(11,i6 g.2)]) (fun g wl=>Hd O w wl S [f1 fD v1 k]∧fE R g.1 g.2=some r) (fun g=>g.1) (u,0) (zJ rfl zK) ⟨H.pick [0],c⟩ ?_
  clear H c
  rintro ⟨u,f⟩ ρ bx ⟨H,c⟩
  obtain ⟨U,rfl,c⟩:=yO c
  have c:=yN T c
  refine zB fun bz V=>zA ?_
  obtain ⟨X,Y,c⟩:=zC c
  refine zG (zL (xI (a:=f) (b:=N) rfl rfl) Y)<| RN V<| zB fun b0 Z=>yC (b:=X) rfl (fun m=>?_) (fun m=>?_)
  ·have c:=zU m c
   refine zQ (zF (Z _ _ ?_))
   refine zB fun b1 aa=>?_
   refine zY ?_
   refine zB fun b2 ab=>zA<| zH (i6 f) ?_
   obtain ⟨d,n,c⟩:=zD c
   obtain ⟨ac,ad,b3,b4,ae,af,ag,ah,ai⟩:=xU (H.item (i:=0) rfl) n
   obtain ⟨h,rfl,aj⟩:=xR af
   have H:=H.fzs [.at ac (ad+f.toNat * 4) _,.sl gW h d.Series.Samples] ⟨⟨ag,ah,ai⟩,aj,trivial⟩
   refine zG (yU u22 cO ae rfl (zN n).1 (zN n).2.1 rfl rfl)<| zG (yJ (yL (cs:=[sb d.Name,i6 d.Series.Den,h,i6 d.Long]) mJ rfl cO rfl (H.item (i:=1) rfl).2.2) rfl)<| yT rfl rfl (xE mQ H) ?_
   rintro _ b5 ⟨ak,rfl,H⟩
   refine zI (i6 f)<| xB rfl (yQ (vs:=[sb d.Name,i6 d.Series.Den,h,i6 d.Long]) H 3 rfl cO rfl rfl rfl ⟨rfl,rfl,(dW (H.item (i:=2) rfl)),rfl,trivial⟩ rfl) ?_
   rintro b6 H
   refine RN ab<| zB fun b7 al=>zB fun b8 am=>zA<| zG (jE rfl)<| Ld dQ H 3 0 rfl rfl ?_
   have an:=H
   obtain ⟨ao,ap,c⟩:=zD c
   refine zT rfl rfl (zO en41 rfl) (Fagw d.Name _ ap _ _ _ (H.enter [] [])) ?_
   rintro _ b9 ⟨rfl,aq⟩
   have H:=an.step (aq.only:Only [] _ _)
   refine ⟨_,rfl,?_⟩
   obtain ⟨ar,au,c⟩:=zC c
   refine zG (zL (fU (p:=ao) rfl) au)<| RN am<| yC (b:=ar) rfl (fun o=>?_) (fun o=>?_)
   ·have c:=zU o c
    refine zB fun ca av=>zA<| zI (i6 8)<| RN av ?_
    obtain rfl:=gI c
    refine (zX (zS (yE (zS (zS (yE (zS (fB (v1:=i6 8) rfl rfl ?_))))))))
    exact ⟨rfl,H.pick []⟩
   have c:=zV o c
   refine zQ (zF (al _ _ ?_))
   refine zB fun cb aw=>?_
   refine zB fun cc ax=>zA<| zH v1<| zH (i6 f) ?_
   obtain ⟨v,ay,c⟩:=zD c
   refine wW rfl rfl (jT u22 cO (H.item (i:=0) rfl) rfl rfl ay) ?_
   rintro x az
   have H:=H.fz (.sl fD x v) az
   refine zG (dC rfl) ?_
   obtain ⟨a0,a1,c⟩:=zD c
   refine zT rfl rfl (zO en42 rfl) (Fazw v d x ak h _ a1 _ _ _ (H.enter [3] [4,2])) ?_
   rintro _ cd ⟨rfl,a2⟩
   have H:Hd _ _ _ _ [_,_,_,_,_]:=H.back [3] [4,2] rfl a2
   refine ⟨_,rfl,?_⟩
   refine RN ax<| yC (b:=a0) rfl (fun q=>?_) (fun q=>?_)
   ·have c:=zU q c
    refine zB fun ce a3=>zA<| zI (i6 5)<| RN a3 ?_
    obtain rfl:=gI c
    refine (zX (zS (yE (zS (zS (yE (zS (fB (v1:=i6 5) rfl rfl ?_))))))))
    exact ⟨rfl,H.pick []⟩
   have c:=zV q c
   refine zQ (zF (aw _ _ ?_))
   refine zB fun cf a4=>?_
   refine zB fun cg a5=>zA<| zG (aV rfl)<| zG (yJ (yL (cs:=[i6 d.Series.Den,h]) rF rfl aBo rfl (Cells.drop (Hbc H 4 rfl) 1 2)) rfl) ?_
   have a6:=H
   obtain ⟨j,a7,c⟩:=zD c
   refine zT rfl rfl (zO en44 rfl) (Fbdw d.Series h _ a7 _ _ _ (H.enter [] [2])) ?_
   rintro _ ch ⟨rfl,a8⟩
   have H:=a6.step (a8.only:Only [] _ _)
   refine ⟨_,rfl,?_⟩
   refine zI (i6 j)<| RN a5<| zB fun ci a9=>zA<| zH (i6 j) ?_
   obtain ⟨ba,bb,c⟩:=zC c
   refine zG (zL (eQ (a:=j) (b:=0) rfl rfl) bb)<| RN a9<| yC (b:=ba) rfl (fun s=>?_) (fun s=>?_)
   ·have c:=zU s c
    refine zB fun cj bc=>zA<| zH (i6 j)<| zI (i6 j)<| RN bc ?_
    obtain rfl:=gI c
    refine (zX (zS (yE (zS (zS (yE (zS (fB (v1:=i6 j) rfl rfl ?_))))))))
    exact ⟨rfl,H.pick []⟩
   have c:=zV s c
   refine zQ (zF (a4 _ _ ?_))
   refine zB fun ck bd=>zA<| zG (aAf rfl)<| Ld fJ H 4 3 rfl rfl ?_
   have be:=H
   obtain ⟨bf,bg,c⟩:=zD c
   refine zT rfl rfl (zO en45 rfl) (Fadw d.Long 0 1099511627776 _ bg _ _ _ (H.enter [] [])) ?_
   rintro _ cl ⟨rfl,bh⟩
   have H:=be.step (bh.only:Only [] _ _)
   refine ⟨_,rfl,?_⟩
   obtain ⟨bi,bj,c⟩:=zC c
   refine zG (zL (fU (p:=bf) rfl) bj)<| RN bd<| yC (b:=bi) rfl (fun t=>?_) (fun t=>?_)
   ·have c:=zU t c
    refine zB fun cm bk=>zA<| zI (i6 9)<| RN bk ?_
    obtain rfl:=gI c
    refine (zX (yE (zS (zS (yE (zS (fB (v1:=i6 9) rfl rfl ?_)))))))
    exact ⟨rfl,H.pick []⟩
   have c:=zV t c
   refine (zQ (yV (zF (aa _ _ ?_))))
   refine zA ?_
   obtain ⟨y,bl,c⟩:=zC c
   refine zG (xP (a:=f) (b:=1) rfl rfl bl)<| zH (i6 y) ?_
   exact (zZ (zF (meet ⟨(U,y),(zJ rfl zK),⟨H.pick [0],c⟩,Nat.lt_succ_self _⟩)))
  have c:=zV m c
  exact (xG (yD (yD (yS (zF (meet ⟨(),zK,⟨H.pick [],c⟩⟩))))))
 rintro _ ρ cn ⟨H,c⟩
 have c:=xO L c
 refine zB fun co bm=>zA<| zI (i6 0)<| RN bm ?_
 obtain rfl:=gI c
 refine (zX (fB (v1:=i6 0) rfl rfl ?_))
 exact ⟨rfl,H.pick []⟩
theorem Fb9w (a:gV)(b:Str)(v1:Value)(d:Nat)(r:Bool)(c:Fb9 a b=some r)(O S:List Nat)(w:World)(H:Hd O w w S [.blk d [sb b] 9,f1 gW v1 a.Series.Samples]):
  Cl 47 [.agg [sb a.Name,i6 a.Series.Den,v1,i6 a.Long].toArray,gZ d] w fun e g=>e= .returned (.bool r)∧Hd O w g S [.blk d [sb b] 9]:=by
 unfold Fb9 at c
 refine CW 8 Tryz.func47 ?_
 refine zB fun k h=>zA<| yT rfl rfl (fQ (cs:=[sb a.Name,i6 a.Series.Den,v1,i6 a.Long]) rfl H) ?_
 rintro _ l ⟨m,rfl,H⟩
 refine zI (.bool false)<| RN h<| zB fun n i=>zA<| zG (jE rfl)<| Ld dQ H 2 0 rfl rfl<| Ld dQ H 0 0 rfl rfl ?_
 obtain ⟨f,j,c⟩:=zC c
 refine zG (zL (fO (s1:=a.Name) (s2:=b) rfl rfl) j)<| zI (.bool f)<| RN i ?_
 obtain rfl:=gI c
 refine (zX (fB (v1:= .bool f) rfl rfl ?_))
 exact ⟨rfl,H.pick [0]⟩
theorem Fbfw (j:List gV)(p1c0:Str)(v1:Value)(f:Nat)(r:Int)(c:Fbf j p1c0=some r)(O S:List Nat)(w:World)(H:Hd O w w S [.blk f [sb p1c0] 9,f1 fD v1 j]):
  Cl 46 [v1,.func (.func 47) #[] #[gZ f]] w fun e q=>e= .returned (i6 r)∧Hd O w q S [.blk f [sb p1c0] 9]:=by
 unfold Fbf at c
 refine CW 19 Tryz.func46 ?_
 refine zB fun K5 s=>zA<| zI (i6 0)<| RN s ?_
 obtain ⟨t,u,c⟩:=xH c
 refine yI [4,5,6,7,8,9,10,11,12,13,14,15,16,17,18] (fun (g:Unit)=>[]) (fun g wl=>Hd O w wl S [.blk f [sb p1c0] 9]∧t ()=some r) ?_ ?_
 ·skip
  refine zB fun ad v=>zA<| zH v1 ?_
  obtain ⟨x,y,c⟩:=zC c
  obtain ⟨ae,af,z⟩:=SlF.len ((H.item (i:=1) rfl))
  refine zG (yJ (xJ u22 z) (congrArg (Value.int .i64) y))<| zH (i6 0)<| RN v<| zY ?_
  unfold Fcj at c
  obtain ⟨A,o,B,c⟩:=yK c
  refine yX [4,5,8,9,10,11,12,13,14,15,16,17,18] (fun (g:Nat×Int)=>[(8,i6 g.2)]) (fun g wl=>Hd O w wl S [.blk f [sb p1c0] 9,f1 fD v1 j]∧fE A g.1 g.2=some r) (fun g=>g.1) (o,0) (zJ rfl zK) ⟨H.pick [0,1],c⟩ ?_
  clear H c
  rintro ⟨o,d⟩ ρ ag ⟨H,c⟩
  obtain ⟨C,rfl,c⟩:=yO c
  have c:=yN B c
  refine zB fun ah D=>zA ?_
  obtain ⟨E,F,c⟩:=zC c
  refine zG (zL (xI (a:=d) (b:=x) rfl rfl) F)<| RN D<| zB fun ai G=>yC (b:=E) rfl (fun k=>?_) (fun k=>?_)
  ·have c:=zU k c
   refine zQ (zF (G _ _ ?_))
   refine zB fun aj I=>?_
   refine zY ?_
   refine zB fun ak J=>zA<| zH (i6 d)<| zI (i6 d)<| RN J<| zB fun al K=>zA<| zH (.func (.func 47) #[] #[gZ f])<| zH v1<| zH (i6 d) ?_
   obtain ⟨h,l,c⟩:=zD c
   obtain ⟨L,M,am,an,N,P,Q,R,T⟩:=xU (H.item (i:=1) rfl) l
   obtain ⟨m,rfl,U⟩:=xR P
   have H:=H.fzs [.at L (M+d.toNat * 4) _,.sl gW m h.Series.Samples] ⟨⟨Q,R,T⟩,U,trivial⟩
   refine zG (yU u22 cO N rfl (zN l).1 (zN l).2.1 rfl rfl)<| zG (yJ (yL (cs:=[sb h.Name,i6 h.Series.Den,m,i6 h.Long]) mJ rfl cO rfl (H.item (i:=2) rfl).2.2) rfl) ?_
   obtain ⟨V,X,c⟩:=zD c
   refine zT rfl rfl (aB en47 rfl rfl) (Fb9w h p1c0 m f _ X _ _ _ (H.enter [0] [3])) ?_
   rintro _ ao ⟨rfl,Y⟩
   have H:Hd _ _ _ _ [_,_,_,_]:=H.back [0] [3] rfl Y
   refine ⟨_,rfl,?_⟩
   refine RN K<| yC (b:=V) rfl (fun n=>?_) (fun n=>?_)
   ·have c:=zU n c
    refine zB fun ap Z=>zA<| zH (i6 d)<| zI (i6 d)<| RN Z ?_
    obtain rfl:=gI c
    refine (zX (yE (zS (zS (yE (zS (fB (v1:=i6 d) rfl rfl ?_)))))))
    exact ⟨rfl,H.pick [3]⟩
   have c:=zV n c
   refine (zQ (yV (zF (I _ _ ?_))))
   refine zA ?_
   obtain ⟨p,aa,c⟩:=zC c
   refine zG (xP (a:=d) (b:=1) rfl rfl aa)<| zH (i6 p) ?_
   exact (zZ (zF (meet ⟨(C,p),(zJ rfl zK),⟨H.pick [3,0],c⟩,Nat.lt_succ_self _⟩)))
  have c:=zV k c
  exact (xG (yD (yD (yS (zF (meet ⟨(),zK,⟨H.pick [0],c⟩⟩))))))
 rintro _ ρ aq ⟨H,c⟩
 have c:=xO u c
 refine zB fun ar ab=>zA<| zI (i6 (-1))<| RN ab ?_
 obtain rfl:=gI c
 refine (zX (fB (v1:=i6 (-1)) rfl rfl ?_))
 exact ⟨rfl,H.pick [0]⟩
theorem Faaw (b:List gV)(c:Str)(v1:Value)(r:Int)(a:Faa b c=some r)(O S:List Nat)(w:World)(H:Hd O w w S [f1 fD v1 b]):
  Cl 20 [v1,sb c] w fun e f=>e= .returned (i6 r)∧Hd O w f S []:=by
 unfold Faa at a
 refine CW 8 Tryz.func20 ?_
 refine zB fun l g=>zA<| yT rfl rfl (kX rfl rfl H) ?_
 rintro _ m ⟨h,rfl,H⟩
 refine zI (i6 0)<| RN g<| zB fun n i=>zA<| zH v1<| zG (dC rfl) ?_
 obtain ⟨d,j,a⟩:=zD a
 refine zT rfl rfl (zO en46 rfl) (Fbfw b c v1 h _ j _ _ _ (H.enter [1] [0])) ?_
 rintro _ o ⟨rfl,k⟩
 have H:Hd _ _ _ _ [_,_]:=H.back [1] [0] rfl k
 refine ⟨_,rfl,?_⟩
 refine zI (i6 d)<| RN i ?_
 obtain rfl:=gI a
 refine (zX (fB (v1:=i6 d) rfl rfl ?_))
 exact ⟨rfl,H.pick []⟩
theorem Fa5w (d:Int)(f:Int)(h:Int)(r:Bool)(c:Fa5 d f h=some r)(O S:List Nat)(w:World)(H:Hd O w w S []):
  Cl 33 [i6 d,i6 f,i6 h] w fun e l=>e= .returned (.bool r)∧Hd O w l S []:=by
 unfold Fa5 at c
 refine CW 15 Tryz.func33 ?_
 refine zB fun s m=>zA<| zI (.bool false)<| RN m ?_
 obtain ⟨j,c,n⟩:=zD c
 refine yI [6,7,8,9,10,11,12,13,14] (fun (g:Unit)=>[(6,.bool j)]) (fun g wl=>Hd O w wl S []) ?_ ?_
 ·skip
  refine zA ?_
  refine zH (i6 d)<| zH (i6 f) ?_
  obtain ⟨o,p,c⟩:=zC c
  refine zG (zL (bI (a:=d) (b:=f) rfl rfl) p)<| xC (b:=o) rfl rfl rfl (fun i=>?_) (fun i=>?_)
  ·have c:=zU i c
   refine zH (i6 d)<| zH (i6 h) ?_
   obtain ⟨k,q,c⟩:=zC c
   refine zG (zL (bV (a:=d) (b:=h) rfl rfl) q)<| zG (yG (v:= .bool k) rfl rfl)<| zI (.bool k) ?_
   obtain rfl:=gI c
   exact (zZ (zF (meet ⟨(),(zJ rfl zK),H.pick []⟩)))
  have c:=zV i c
  refine yH ?_
  refine yH ?_
  refine yH ?_
  refine zG (yB (v:= .bool false) rfl rfl)<| zI (.bool false) ?_
  obtain rfl:=gI c
  exact (zZ (zF (meet ⟨(),(zJ rfl zK),H.pick []⟩)))
 rintro _ ρ t H
 have c:=n
 obtain rfl:=gI c
 refine (zX (fB (v1:= .bool j) rfl rfl ?_))
 exact ⟨rfl,H.pick []⟩
theorem Fa6w (d:Int)(f:Int)(r:Int)(c:Fa6 d f=some r)(O S:List Nat)(w:World)(H:Hd O w w S []):
  Cl 19 [i6 d,i6 f] w fun e p=>e= .returned (i6 r)∧Hd O w p S []:=by
 unfold Fa6 at c
 refine CW 23 Tryz.func19 ?_
 refine zB fun M q=>zA<| zI (i6 0)<| RN q<| zB fun N s=>zY ?_
 obtain ⟨l,c,t⟩:=zD c
 refine yI [5,6,7,8,9,10,11,12,13,14,15,16] (fun (g:Unit)=>[(5,.bool l)]) (fun g wl=>Hd O w wl S []) ?_ ?_
 ·skip
  refine zA ?_
  refine zH (i6 d) ?_
  obtain ⟨u,x,c⟩:=zC c
  refine zG (zL (xI (a:=d) (b:=0) rfl rfl) x) ?_
  obtain ⟨m,c,y⟩:=zD c
  refine eH 5 [8,9,10,11,12] [(12,.bool m)] (fun wl=>Hd O w wl S []) ?_ ?_
  ·skip
   refine xC (b:=u) rfl rfl rfl (fun h=>?_) (fun h=>?_)
   ·have c:=zU h c
    refine yH ?_
    refine yH ?_
    refine yH ?_
    refine zG (yG (v:= .bool true) rfl rfl) ?_
    obtain rfl:=gI c
    exact zZ (zF (meet ⟨(zJ rfl zK),H.pick []⟩))
   have c:=zV h c
   refine zH (i6 d)<| zH (i6 f) ?_
   obtain ⟨z,A,c⟩:=zC c
   refine zG (zL (dD (a:=d) (b:=f) rfl rfl) A)<| zG (yB (v:= .bool z) rfl rfl) ?_
   obtain rfl:=gI c
   exact zZ (zF (meet ⟨(zJ rfl zK),H.pick []⟩))
  rintro ρ P H
  have c:=y
  refine xC (b:=m) rfl rfl rfl (fun i=>?_) (fun i=>?_)
  ·have c:=zU i c
   refine yH ?_
   refine yH ?_
   refine zG (yG (v:= .bool true) rfl rfl)<| zI (.bool true) ?_
   obtain rfl:=gI c
   exact (zZ (zF (meet ⟨(),(zJ rfl zK),H.pick []⟩)))
  have c:=zV i c
  refine zH (i6 f) ?_
  obtain ⟨n,B,c⟩:=zC c
  refine zG (zL (bI (a:=f) (b:=4194304) rfl rfl) B)<| zG (yB (v:= .bool n) rfl rfl)<| zI (.bool n) ?_
  obtain rfl:=gI c
  exact (zZ (zF (meet ⟨(),(zJ rfl zK),H.pick []⟩)))
 rintro _ ρ Q H
 have c:=t
 refine yC (b:=l) rfl (fun j=>?_) (fun j=>?_)
 ·have c:=zU j c
  refine zB fun R C=>zA<| zI (i6 9)<| RN C ?_
  obtain rfl:=gI c
  refine (zX (yE (zS (fB (v1:=i6 9) rfl rfl ?_))))
  exact ⟨rfl,H.pick []⟩
 have c:=zV j c
 refine zB fun T D=>zA<| zH (i6 f)<| zH (i6 d) ?_
 obtain ⟨E,F,c⟩:=zC c
 refine zG (dH (a:=f) (b:=d) rfl rfl F) ?_
 obtain ⟨G,I,c⟩:=zC c
 refine zG (xP (a:=E) (b:=1) rfl rfl I) ?_
 obtain ⟨o,J,c⟩:=zC c
 refine zG (zL (dD (a:=G) (b:=20000) rfl rfl) J)<| zI (.bool o)<| RN D<| yC (b:=o) rfl (fun k=>?_) (fun k=>?_)
 ·have c:=zU k c
  refine zB fun U K=>zA<| zI (i6 3)<| RN K ?_
  obtain rfl:=gI c
  refine (zX (yE (zS (fB (v1:=i6 3) rfl rfl ?_))))
  exact ⟨rfl,H.pick []⟩
 have c:=zV k c
 refine (zQ (yV (zF (s _ _ ?_))))
 refine zB fun V L=>zA<| zI (i6 0)<| RN L ?_
 obtain rfl:=gI c
 refine (zX (fB (v1:=i6 0) rfl rfl ?_))
 exact ⟨rfl,H.pick []⟩
theorem Faiw (c:fC)(d:Int)(r:Int)(f:Fai c d=some r)(O S:List Nat)(w:World)(H:Hd O w w S []):
  Cl 174 [.agg [i6 c.At,i6 c.N,i6 c.Mark].toArray,i6 d] w fun e h=>e= .returned (i6 r)∧Hd O w h S []:=by
 unfold Fai at f
 refine CW 9 Tryz.func174 ?_
 refine zB fun l i=>zA<| yT rfl rfl (fQ (cs:=[i6 c.At,i6 c.N,i6 c.Mark]) rfl H) ?_
 rintro _ m ⟨n,rfl,H⟩
 refine zI (i6 0)<| RN i<| zB fun o j=>zA<| zG (jF rfl)<| Ld fJ H 0 0 rfl rfl<| zH (i6 d) ?_
 obtain ⟨g,k,f⟩:=zC f
 refine zG (dH (a:=c.At) (b:=d) rfl rfl k)<| zI (i6 g)<| RN j ?_
 obtain rfl:=gI f
 refine (zX (fB (v1:=i6 g) rfl rfl ?_))
 exact ⟨rfl,H.pick []⟩
theorem Fbuw (n:List fC)(h:Int)(v1:Value)(r:Int×Bool)(c:Fbu n h=some r)(O S:List Nat)(w:World)(H:Hd O w w S [f1 gW v1 n]):
  Cl 173 [v1,i6 h,.func (.func 174) #[] #[]] w fun e E=>e= .returned (.tuple #[i6 r.1,.bool r.2])∧Hd O w E S []:=by
 unfold Fbu at c
 refine CW 49 Tryz.func173 ?_
 refine zB fun K3 F=>zA<| zI (i6 0)<| zI (.bool false)<| RN F<| zB fun K4 G=>zA<| zH v1 ?_
 obtain ⟨k,I,c⟩:=zC c
 obtain ⟨a7,c8,J⟩:=SlF.len ((H.item (i:=0) rfl))
 refine zG (yJ (xJ u37 J) (congrArg (Value.int .i64) I))<| zI (i6 k)<| RN G<| zB fun bc K=>zA<| zH (i6 k)<| zI (i6 0)<| zI (i6 k)<| RN K ?_
 obtain ⟨d,c,L⟩:=zD c
 refine yI [9,10,11,15,16,17,18,19,20,21,22,23,24,25,26,27,28,29,30,31,32,33,34] (fun (g:Unit)=>[(9,i6 d)]) (fun g wl=>Hd O w wl S [f1 gW v1 n]) ?_ ?_
 ·skip
  refine zY ?_
  unfold Fb1 at c
  obtain ⟨M,z,P,c⟩:=yK c
  refine yX [9,10,11,15,16,17,18,19,20,21,22,23,24,25,26,27,28,29,30,31,32,33,34] (fun (g:Nat×Int×Int)=>[(9,i6 g.2.1),(10,i6 g.2.2)]) (fun g wl=>Hd O w wl S [f1 gW v1 n]∧fE M g.1 (g.2.1,g.2.2)=some d) (fun g=>g.1) (z,0,k) (zJ rfl (zJ rfl zK)) ⟨H.pick [0],c⟩ ?_
  clear H c
  rintro ⟨z,l,m⟩ ρ bd ⟨H,c⟩
  obtain ⟨A,rfl,c⟩:=yO c
  have c:=yN P c
  refine zB fun be Q=>?_
  refine zB fun bf R=>zA<| zH (i6 l)<| zH (i6 m) ?_
  obtain ⟨T,U,c⟩:=zC c
  refine zG (zL (xI (a:=l) (b:=m) rfl rfl) U)<| RN R<| yC (b:=T) rfl (fun s=>?_) (fun s=>?_)
  ·have c:=zU s c
   refine zQ (zF (Q _ _ ?_))
   refine zY ?_
   refine zB fun bg V=>zA<| zH (i6 l)<| zH (i6 m) ?_
   obtain ⟨bh,X,c⟩:=zC c
   refine zG (xP (a:=l) (b:=m) rfl rfl X) ?_
   obtain ⟨Y,Z,c⟩:=zC c
   refine zG (aEt u3 u142 rfl Z) ?_
   obtain ⟨bi,aa,c⟩:=zD c
   refine zG (Do_shr' (j:=Y) (q:=1) rfl rfl aa) ?_
   obtain ⟨f,ab,c⟩:=zC c
   refine zG (aEt u142 u3 rfl ab)<| zI (i6 f)<| RN V<| zB fun bj ac=>zA<| zH (.func (.func 174) #[] #[])<| zH v1<| zH (i6 f) ?_
   obtain ⟨o,t,c⟩:=zD c
   obtain ⟨ad,ae,bk,bl,af,ag,ah,ai,aj⟩:=xU (H.item (i:=0) rfl) t
   obtain rfl:=xW ag
   have H:=H.fz (.at ad (ae+f.toNat * 3) _) ⟨ah,ai,aj⟩
   refine zG (yU u37 dV af rfl (zN t).1 (zN t).2.1 rfl rfl)<| zG (yJ (yL (cs:=[i6 o.At,i6 o.N,i6 o.Mark]) aZ rfl dV rfl (H.item (i:=1) rfl).2.2) rfl)<| zH (i6 h) ?_
   have ak:=H
   obtain ⟨al,am,c⟩:=zD c
   refine zT rfl rfl (aB en174 rfl rfl) (Faiw o h _ am _ _ _ (H.enter [] [])) ?_
   rintro _ bm ⟨rfl,an⟩
   have H:=ak.step (an.only:Only [] _ _)
   refine ⟨_,rfl,?_⟩
   obtain ⟨ao,ap,c⟩:=zC c
   refine zG (zL (xI (a:=al) (b:=0) rfl rfl) ap)<| RN ac<| yC (b:=ao) rfl (fun u=>?_) (fun u=>?_)
   ·have c:=zU u c
    refine zA ?_
    refine zH (i6 f) ?_
    obtain ⟨B,aq,c⟩:=zC c
    refine zG (xP (a:=f) (b:=1) rfl rfl aq)<| zI (i6 B) ?_
    exact (zZ (yV (zF (meet ⟨(A,B,m),(zJ rfl (zJ rfl zK)),⟨H.pick [0],c⟩,Nat.lt_succ_self _⟩))))
   have c:=zV u c
   refine zA ?_
   refine zH (i6 f)<| zI (i6 f) ?_
   exact (zZ (yV (zF (meet ⟨(A,l,f),(zJ rfl (zJ rfl zK)),⟨H.pick [0],c⟩,Nat.lt_succ_self _⟩))))
  have c:=zV s c
  obtain rfl:=gI c
  exact (xG (yD (yD (yS (zF (meet ⟨(),(zJ rfl zK),H.pick [0]⟩))))))
 rintro _ ρ bn H
 have c:=L
 obtain ⟨C,c,ar⟩:=zD c
 refine yI [6,7,35,36,37,38,39,40,41,42,43,44,45,46,47,48] (fun (g:Unit)=>[(6,i6 d),(7,.bool C)]) (fun g wl=>Hd O w wl S []) ?_ ?_
 ·skip
  refine zA ?_
  refine zH (i6 d)<| zH (i6 d)<| zH (i6 k) ?_
  obtain ⟨au,av,c⟩:=zC c
  refine zG (zL (xI (a:=d) (b:=k) rfl rfl) av)<| xC (b:=au) rfl rfl rfl (fun x=>?_) (fun x=>?_)
  ·have c:=zU x c
   refine zH (.func (.func 174) #[] #[])<| zH v1<| zH (i6 d) ?_
   obtain ⟨p,y,c⟩:=zD c
   obtain ⟨aw,ax,bo,bp,ay,az,a0,a1,a2⟩:=xU (H.item (i:=0) rfl) y
   obtain rfl:=xW az
   have H:=H.fz (.at aw (ax+d.toNat * 3) _) ⟨a0,a1,a2⟩
   refine zG (yU u37 dV ay rfl (zN y).1 (zN y).2.1 rfl rfl)<| zG (yJ (yL (cs:=[i6 p.At,i6 p.N,i6 p.Mark]) aZ rfl dV rfl (H.item (i:=1) rfl).2.2) rfl)<| zH (i6 h) ?_
   have a3:=H
   obtain ⟨a4,a5,c⟩:=zD c
   refine zT rfl rfl (aB en174 rfl rfl) (Faiw p h _ a5 _ _ _ (H.enter [] [])) ?_
   rintro _ bq ⟨rfl,a6⟩
   have H:=a3.step (a6.only:Only [] _ _)
   refine ⟨_,rfl,?_⟩
   obtain ⟨D,e283,c⟩:=zC c
   refine zG (zL (fV (a:=a4) (b:=0) rfl rfl) e283)<| zG (yG (v:= .bool D) rfl rfl)<| zI (i6 d)<| zI (.bool D) ?_
   obtain rfl:=gI c
   exact (zZ (zF (meet ⟨(),(zJ rfl (zJ rfl zK)),H.pick []⟩)))
  have c:=zV x c
  refine yH ?_
  refine yH ?_
  refine yH ?_
  refine yH ?_
  refine yH ?_
  refine yH ?_
  refine yH ?_
  refine yH ?_
  refine zG (yB (v:= .bool false) rfl rfl)<| zI (i6 d)<| zI (.bool false) ?_
  obtain rfl:=gI c
  exact (zZ (zF (meet ⟨(),(zJ rfl (zJ rfl zK)),H.pick []⟩)))
 rintro _ ρ br H
 have c:=ar
 obtain rfl:=gI c
 refine (zX (kC (v1:=i6 d) (v2:= .bool C) rfl rfl rfl ?_))
 exact ⟨rfl,H.pick []⟩
theorem Favw (f:Series)(h:Int)(v1:Value)(r:Int)(c:Fav f h=some r)(O S:List Nat)(w:World)(H:Hd O w w S [f1 gW v1 f.Samples]):
  Cl 157 [.agg [i6 f.Den,v1].toArray,i6 h] w fun e k=>e= .returned (i6 r)∧Hd O w k S []:=by
 unfold Fav at c
 refine CW 18 Tryz.func157 ?_
 refine zB fun y l=>zA<| yT rfl rfl (fQ (cs:=[i6 f.Den,v1]) rfl H) ?_
 rintro _ z ⟨A,rfl,H⟩
 refine zI (i6 0)<| RN l<| zB fun B m=>zA<| zG (dS rfl)<| Ld bY H 1 1 rfl rfl<| zH (i6 h) ?_
 have n:=H
 obtain ⟨⟨d,g⟩,o,c⟩:=zD c
 refine zT rfl rfl (zO en173 rfl) (Fbuw f.Samples h v1 _ o _ _ _ (H.enter [] [0])) ?_
 rintro _ C ⟨rfl,p⟩
 have H:=n.step (p.only:Only [] _ _)
 refine ⟨_,rfl,?_⟩
 refine zH (.tuple #[i6 d,.bool g])<| zG (xA (v:=i6 d) rfl rfl)<| zG (xA (v:= .bool g) rfl rfl)<| zI (i6 d)<| zI (.bool g)<| RN m<| zB fun D q=>zB fun E s=>zA<| zH (.bool g)<| RN s<| yC (b:=g) rfl (fun i=>?_) (fun i=>?_)
 ·have c:=zU i c
  refine zB fun F t=>zA<| zH (i6 d)<| zI (i6 d)<| RN t ?_
  obtain rfl:=gI c
  refine (zX (zS (fB (v1:=i6 d) rfl rfl ?_)))
  exact ⟨rfl,H.pick []⟩
 have c:=zV i c
 refine zQ (zF (q _ _ ?_))
 refine zB fun G u=>zA<| zH (i6 d) ?_
 obtain ⟨j,x,c⟩:=zC c
 refine zG (dH (a:=d) (b:=1) rfl rfl x)<| zI (i6 j)<| RN u ?_
 obtain rfl:=gI c
 refine (zX (fB (v1:=i6 j) rfl rfl ?_))
 exact ⟨rfl,H.pick []⟩
theorem Fbjw (c:fC)(r:Bool)(d:Fbj c=some r)(O S:List Nat)(w:World)(H:Hd O w w S []):
  Cl 158 [.agg [i6 c.At,i6 c.N,i6 c.Mark].toArray] w fun e g=>e= .returned (.bool r)∧Hd O w g S []:=by
 unfold Fbj at d
 refine CW 6 Tryz.func158 ?_
 refine zB fun k h=>zA<| yT rfl rfl (fQ (cs:=[i6 c.At,i6 c.N,i6 c.Mark]) rfl H) ?_
 rintro _ l ⟨m,rfl,H⟩
 refine zI (.bool false)<| RN h<| zB fun n i=>zA<| zG (pK rfl)<| Ld fJ H 0 2 rfl rfl ?_
 obtain ⟨f,j,d⟩:=zC d
 refine zG (zL (bI (a:=c.Mark) (b:=3) rfl rfl) j)<| zI (.bool f)<| RN i ?_
 obtain rfl:=gI d
 refine (zX (fB (v1:= .bool f) rfl rfl ?_))
 exact ⟨rfl,H.pick []⟩
theorem Fb2w (d:Series)(h:Int)(k:Int)(v1:Value)(r:fC×Bool)(c:Fb2 d h k=some r)(O S:List Nat)(w:World)(H:Hd O w w S [f1 gW v1 d.Samples]):
  Cl 130 [.agg [i6 d.Den,v1].toArray,i6 h,i6 k] w fun e A=>e= .returned (.tuple #[.agg [i6 r.1.At,i6 r.1.N,i6 r.1.Mark].toArray,.bool r.2])∧Hd O w A S []:=by
 unfold Fb2 at c
 refine CW 41 Tryz.func130 ?_
 refine zB fun K3 B=>zA<| yT rfl rfl (fQ (cs:=[i6 d.Den,v1]) rfl H) ?_
 rintro _ w6 ⟨u,rfl,H⟩
 refine yT rfl rfl (xE jU H) ?_
 rintro _ w9 ⟨x,rfl,H⟩
 refine zI (.bool false)<| RN B<| zB fun a3 C=>zA<| zG (yJ (yL (cs:=[i6 d.Den,v1]) rF rfl aBo rfl (Hbc H 1 rfl)) rfl)<| zH (i6 h) ?_
 have D:=H
 obtain ⟨f,E,c⟩:=zD c
 refine zT rfl rfl (zO en157 rfl) (Favw d h v1 _ E _ _ _ (H.enter [] [0])) ?_
 rintro _ a4 ⟨rfl,F⟩
 have H:=D.step (F.only:Only [] _ _)
 refine ⟨_,rfl,?_⟩
 refine zI (i6 f)<| RN C<| zB fun a5 G=>?_
 obtain ⟨y,c,I⟩:=zD c
 refine yI [12,13,14,15,16,17,18,19,20,21,22,23,24,25,26,27,28,29,30,31,32,33,34] (fun (g:Unit)=>[(34,.bool y)]) (fun g wl=>Hd O w wl S [f1 gW v1 d.Samples,.blk u [i6 d.Den,v1] 39,.blk x [i6 0,i6 0,i6 0] 46]) ?_ ?_
 ·skip
  refine zA ?_
  refine zH (i6 f) ?_
  obtain ⟨J,K,c⟩:=zC c
  refine zG (zL (xI (a:=f) (b:=0) rfl rfl) K) ?_
  obtain ⟨z,c,L⟩:=zD c
  refine eH 9 [14,15,16,17,18,19,20,21,22] [(22,.bool z)] (fun wl=>Hd O w wl S [f1 gW v1 d.Samples,.blk u [i6 d.Den,v1] 39,.blk x [i6 0,i6 0,i6 0] 46]) ?_ ?_
  ·skip
   refine xC (b:=J) rfl rfl rfl (fun m=>?_) (fun m=>?_)
   ·have c:=zU m c
    refine yH ?_
    refine yH ?_
    refine yH ?_
    refine yH ?_
    refine yH ?_
    refine yH ?_
    refine yH ?_
    refine zG (yG (v:= .bool true) rfl rfl) ?_
    obtain rfl:=gI c
    exact zZ (zF (meet ⟨(zJ rfl zK),H.pick [0,1,2]⟩))
   have c:=zV m c
   refine zG (dS rfl)<| Ld bY H 1 1 rfl rfl<| zH (i6 f) ?_
   obtain ⟨l,n,c⟩:=zD c
   obtain ⟨M,P,a6,a7,Q,R,T,U,V⟩:=xU (H.item (i:=0) rfl) n
   obtain rfl:=xW R
   have H:=H.fz (.at M (P+f.toNat * 3) _) ⟨T,U,V⟩
   refine zG (yU u37 dV Q rfl (zN n).1 (zN n).2.1 rfl rfl)<| zG (yJ (yL (cs:=[i6 l.At,i6 l.N,i6 l.Mark]) aZ rfl dV rfl (H.item (i:=3) rfl).2.2) rfl) ?_
   have X:=H
   obtain ⟨Y,Z,c⟩:=zD c
   refine zT rfl rfl (zO en158 rfl) (Fbjw l _ Z _ _ _ (H.enter [] [])) ?_
   rintro _ a8 ⟨rfl,aa⟩
   have H:=X.step (aa.only:Only [] _ _)
   refine ⟨_,rfl,?_⟩
   obtain ⟨ab,ac,c⟩:=zC c
   refine zG (zL (fU (p:=Y) rfl) ac)<| zG (yB (v:= .bool ab) rfl rfl) ?_
   obtain rfl:=gI c
   exact zZ (zF (meet ⟨(zJ rfl zK),H.pick [0,1,2]⟩))
  rintro ρ a9 H
  have c:=L
  refine xC (b:=z) rfl rfl rfl (fun o=>?_) (fun o=>?_)
  ·have c:=zU o c
   refine yH ?_
   refine yH ?_
   refine yH ?_
   refine yH ?_
   refine yH ?_
   refine yH ?_
   refine yH ?_
   refine yH ?_
   refine yH ?_
   refine yH ?_
   refine zG (yG (v:= .bool true) rfl rfl) ?_
   obtain rfl:=gI c
   exact (zZ (zF (meet ⟨(),(zJ rfl zK),H.pick [0,1,2]⟩)))
  have c:=zV o c
  refine zH (i6 h)<| zG (dS rfl)<| Ld bY H 1 1 rfl rfl<| zH (i6 f) ?_
  obtain ⟨ad,q,c⟩:=zD c
  obtain ⟨ae,af,ba,bb,ag,ah,ai,aj,ak⟩:=xU (H.item (i:=0) rfl) q
  obtain rfl:=xW ah
  have H:=H.fz (.at ae (af+f.toNat * 3) _) ⟨ai,aj,ak⟩
  refine zG (yU u37 dV ag rfl (zN q).1 (zN q).2.1 rfl rfl)<| zG (jF rfl)<| zG (yZ fJ rfl (Cells.get (H.item (i:=3) rfl).2.2 (i:=0) rfl)) ?_
  obtain ⟨al,am,c⟩:=zC c
  refine zG (dH (a:=h) (b:=ad.At) rfl rfl am)<| zH (i6 k) ?_
  obtain ⟨an,ao,c⟩:=zC c
  refine zG (zL (dD (a:=al) (b:=k) rfl rfl) ao)<| zG (yB (v:= .bool an) rfl rfl) ?_
  obtain rfl:=gI c
  exact (zZ (zF (meet ⟨(),(zJ rfl zK),H.pick [0,1,2]⟩)))
 rintro _ ρ bc H
 have c:=I
 refine yC (b:=y) rfl (fun s=>?_) (fun s=>?_)
 ·have c:=zU s c
  refine zB fun bd ap=>zA<| zG (eY (cs:=[i6 0,i6 0,i6 0]) bz46)<| xB rfl (yQ (vs:=[i6 0,i6 0,i6 0]) H 2 rfl dV rfl rfl rfl ⟨rfl,rfl,rfl,trivial⟩ rfl) ?_
  rintro be H
  refine zI (.bool false)<| RN ap ?_
  obtain rfl:=gI c
  refine (zX (zS (nV (v1:= .bool false) rfl rfl (yP aZ dV rfl (Hbc H 2 rfl)) rfl ?_)))
  exact ⟨rfl,H.pick []⟩
 have c:=zV s c
 refine zQ (zF (G _ _ ?_))
 refine zB fun bf aq=>zA<| zG (dS rfl)<| Ld bY H 1 1 rfl rfl<| zH (i6 f) ?_
 obtain ⟨j,t,c⟩:=zD c
 obtain ⟨ar,au,bg,bh,av,aw,ax,ay,az⟩:=xU (H.item (i:=0) rfl) t
 obtain rfl:=xW aw
 have H:=H.fz (.at ar (au+f.toNat * 3) _) ⟨ax,ay,az⟩
 refine zG (yU u37 dV av rfl (zN t).1 (zN t).2.1 rfl rfl)<| zG (yJ (yL (cs:=[i6 j.At,i6 j.N,i6 j.Mark]) aZ rfl dV rfl (H.item (i:=3) rfl).2.2) rfl)<| xB rfl (yQ (vs:=[i6 j.At,i6 j.N,i6 j.Mark]) H 2 rfl dV rfl rfl rfl ⟨rfl,rfl,rfl,trivial⟩ rfl) ?_
 rintro bi H
 refine zI (.bool true)<| RN aq ?_
 obtain rfl:=gI c
 refine (zX (nV (v1:= .bool true) rfl rfl (yP aZ dV rfl (Hbc H 2 rfl)) rfl ?_))
 exact ⟨rfl,H.pick []⟩
theorem Famw (a:Series)(c:Int)(d:Int)(v1:Value)(r:fC×Bool)(f:Fam a c d=some r)(O S:List Nat)(w:World)(H:Hd O w w S [f1 gW v1 a.Samples]):
  Cl 93 [.agg [i6 a.Den,v1].toArray,i6 c,i6 d] w fun e h=>e= .returned (.tuple #[.agg [i6 r.1.At,i6 r.1.N,i6 r.1.Mark].toArray,.bool r.2])∧Hd O w h S []:=by
 unfold Fam at f
 refine CW 14 Tryz.func93 ?_
 refine zB fun n i=>zA<| yT rfl rfl (fQ (cs:=[i6 a.Den,v1]) rfl H) ?_
 rintro _ o ⟨p,rfl,H⟩
 refine yT rfl rfl (xE jU H) ?_
 rintro _ q ⟨s,rfl,H⟩
 refine zI (.bool false)<| RN i<| zB fun t j=>zA<| zG (yJ (yL (cs:=[i6 a.Den,v1]) rF rfl aBo rfl (Hbc H 1 rfl)) rfl)<| zH (i6 c)<| zH (i6 d) ?_
 have k:=H
 obtain ⟨⟨b,g⟩,l,f⟩:=zD f
 refine zT rfl rfl (zO en130 rfl) (Fb2w a c d v1 _ l _ _ _ (H.enter [] [0])) ?_
 rintro _ u ⟨rfl,m⟩
 have H:=k.step (m.only:Only [] _ _)
 refine ⟨_,rfl,?_⟩
 refine zG (xA (v:= .agg [i6 b.At,i6 b.N,i6 b.Mark].toArray) rfl rfl)<| zG (xA (v:= .bool g) rfl rfl)<| xB rfl (yQ (vs:=[i6 b.At,i6 b.N,i6 b.Mark]) H 2 rfl dV rfl rfl rfl ⟨rfl,rfl,rfl,trivial⟩ rfl) ?_
 rintro x H
 refine zI (.bool g)<| RN j ?_
 obtain rfl:=gI f
 refine (zX (nV (v1:= .bool g) rfl rfl (yP aZ dV rfl (Hbc H 2 rfl)) rfl ?_))
 exact ⟨rfl,H.pick []⟩
theorem Fbcw (m:List gV)(k:Int)(v1:Value)(r:(List fG))(c:Fbc m k=some r)(O S:List Nat)(w:World)(H:Hd O w w S [f1 fD v1 m]):
  Cl 64 [v1,i6 k] w fun e z=> ∃u3,e= .returned (u3)∧Hd O w z S [.own dK u3 51 r]:=by
 unfold Fbc at c
 refine CW 37 Tryz.func64 ?_
 refine zB fun K4 A=>zA<| zI (.slice none 0 0)<| RN A<| zB fun K5 B=>zA<| zI (.slice none 0 0)<| RN B ?_
 obtain ⟨q,c,C⟩:=zD c
 refine yI [5,7,8,9,10,11,12,13,14,15,16,17,18,19,20,21,22,23,24,25,26,27,28,29,30,31,32,33,34,35] (fun (g:Value)=>[(5,g)]) (fun g wl=>Hd O w wl S [.own dK g 51 q]) ?_ ?_
 ·skip
  refine zB fun aw D=>zA<| zH v1 ?_
  obtain ⟨E,F,c⟩:=zC c
  obtain ⟨ax,ay,G⟩:=SlF.len ((H.item (i:=0) rfl))
  refine zG (yJ (xJ u22 G) (congrArg (Value.int .i64) F))<| zH (i6 0)<| RN D<| zY ?_
  have H:=dE H dK 51
  unfold Fcu at c
  obtain ⟨I,s,J,c⟩:=yK c
  refine yX [5,7,8,9,12,13,14,15,16,17,18,19,20,21,22,23,24,25,26,27,28,29,30,31,32,33,34,35] (fun (g:Nat×(List fG)×Int×Value)=>[(5,g.2.2.2),(12,i6 g.2.2.1)]) (fun g wl=>Hd O w wl S [.own dK g.2.2.2 51 g.2.1,f1 fD v1 m]∧fE I g.1 (g.2.1,g.2.2.1)=some q) (fun g=>g.1) (s,[],0,.slice none 0 0) (zJ rfl (zJ rfl zK)) ⟨H.pick [1,0],c⟩ ?_
  clear H c
  rintro ⟨s,az,n,t⟩ ρ a0 ⟨H,c⟩
  obtain ⟨K,rfl,c⟩:=yO c
  have c:=yN J c
  refine zB fun a1 L=>zA ?_
  obtain ⟨M,P,c⟩:=zC c
  refine zG (zL (xI (a:=n) (b:=E) rfl rfl) P)<| RN L<| zB fun a2 Q=>yC (b:=M) rfl (fun o=>?_) (fun o=>?_)
  ·have c:=zU o c
   refine zQ (zF (Q _ _ ?_))
   refine zB fun a3 R=>?_
   refine zY ?_
   refine zB fun a4 T=>zA ?_
   obtain ⟨f,p,c⟩:=zD c
   obtain ⟨U,V,a5,a6,X,Y,Z,aa,ab⟩:=xU (H.item (i:=1) rfl) p
   obtain ⟨j,rfl,ac⟩:=xR Y
   have H:=H.fzs [.at U (V+n.toNat * 4) _,.sl gW j f.Series.Samples] ⟨⟨Z,aa,ab⟩,ac,trivial⟩
   refine zG (yU u22 cO X rfl (zN p).1 (zN p).2.1 rfl rfl)<| zG (yJ (yL (cs:=[sb f.Name,i6 f.Series.Den,j,i6 f.Long]) mJ rfl cO rfl (H.item (i:=2) rfl).2.2) rfl)<| yT rfl rfl (xE mQ H) ?_
   rintro _ a7 ⟨a8,rfl,H⟩
   refine xB rfl (yQ (vs:=[sb f.Name,i6 f.Series.Den,j,i6 f.Long]) H 4 rfl cO rfl rfl rfl ⟨rfl,rfl,(dW (H.item (i:=3) rfl)),rfl,trivial⟩ rfl) ?_
   rintro a9 H
   refine RN T<| zB fun ba ad=>zA<| zG (aV rfl)<| zG (yJ (yL (cs:=[i6 f.Series.Den,j]) rF rfl aBo rfl (Cells.drop (Hbc H 4 rfl) 1 2)) rfl)<| zH (i6 k) ?_
   obtain ⟨ae,af,c⟩:=zC c
   refine zG (aCl (a:=64) (b:=k) rfl rfl af) ?_
   obtain ⟨ag,ah,c⟩:=zC c
   refine zG (xP (a:=ae) (b:=64) rfl rfl ah) ?_
   obtain ⟨ai,aj,c⟩:=zC c
   refine zG (dH (a:=ag) (b:=1) rfl rfl aj)<| zG (aAf rfl)<| Ld fJ H 4 3 rfl rfl ?_
   have ak:=H
   obtain ⟨⟨d,h⟩,al,c⟩:=zD c
   refine zT rfl rfl (zO en93 rfl) (Famw f.Series ai f.Long j _ al _ _ _ (H.enter [] [3])) ?_
   rintro _ bb ⟨rfl,am⟩
   have H:=ak.step (am.only:Only [] _ _)
   refine ⟨_,rfl,?_⟩
   refine zH (.tuple #[.agg [i6 d.At,i6 d.N,i6 d.Mark].toArray,.bool h])<| zG (xA (v:= .agg [i6 d.At,i6 d.N,i6 d.Mark].toArray) rfl rfl)<| zG (xA (v:= .bool h) rfl rfl)<| yT rfl rfl (xE jU H) ?_
   rintro _ bc ⟨bd,rfl,H⟩
   refine xB rfl (yQ (vs:=[i6 d.At,i6 d.N,i6 d.Mark]) H 5 rfl dV rfl rfl rfl ⟨rfl,rfl,rfl,trivial⟩ rfl) ?_
   rintro be H
   refine zI (.bool h)<| RN ad<| zA<| zH t<| zG (mZ rfl)<| Ld fJ H 5 1 rfl rfl<| zH (.bool h)<| zG (eY (cs:=[i6 d.N,.bool h]) (aBq _ _)) ?_
   obtain ⟨bf,an,c⟩:=zC c
   subst an
   refine yT rfl rfl (jG (r:=dK) (xl:=[fG.mk d.N h]) (cs:=[i6 d.N,.bool h]) u47 el51 (by decide) (by decide) rfl (fP (vs:=[.agg [i6 d.N,.bool h].toArray]) (by decide) rfl rfl ⟨rfl,trivial⟩ rfl) H ⟨[i6 d.N,.bool h],[],rfl,(vX (x:=fG.mk d.N h)),rfl⟩) ?_
   rintro bg bh H
   obtain ⟨ao,ap,c⟩:=zD c
   refine yT rfl rfl (kU H (i:=0) rfl u47 el51 rfl rfl (Sr.of_own (H.item (i:=6) rfl)) ap) ?_
   rintro u bi H
   refine zI u<| (zZ (yV (zF (R _ _ ?_))))
   refine zA ?_
   obtain ⟨y,aq,c⟩:=zC c
   refine zG (xP (a:=n) (b:=1) rfl rfl aq)<| zH (i6 y) ?_
   exact (zZ (zF (meet ⟨(K,ao,y,u),(zJ rfl (zJ rfl zK)),⟨H.pick [0,1],c⟩,Nat.lt_succ_self _⟩)))
  have c:=zV o c
  obtain rfl:=gI c
  exact (xG (yD (yD (yS (zF (meet ⟨t,(zJ rfl zK),H.pick [0]⟩))))))
 rintro l ρ bj H
 have c:=C
 refine zB fun bk ar=>zA<| zH l<| zI l<| RN ar ?_
 obtain rfl:=gI c
 refine (zX (fB (v1:=l) rfl rfl ?_))
 exact ⟨l,rfl,H.pick [0]⟩
theorem Fb3w (c:List gV)(a:Int)(v1:Value)(r:(List fG))(b:Fb3 c a=some r)(O S:List Nat)(w:World)(H:Hd O w w S [f1 fD v1 c]):
  Cl 35 [v1,i6 a] w fun e f=> ∃u3,e= .returned (u3)∧Hd O w f S [.own dK u3 51 r]:=by
 unfold Fb3 at b
 refine CW 8 Tryz.func35 ?_
 refine zB fun k g=>zA<| zI (.slice none 0 0)<| RN g<| zB fun l h=>zA<| zH v1<| zH (i6 a) ?_
 obtain ⟨m,i,b⟩:=zD b
 refine zT rfl rfl (zO en64 rfl) (Fbcw c a v1 _ i _ _ _ (H.enter [] [0])) ?_
 rintro _ n ⟨d,rfl,j⟩
 have H:=H.back1 [0] rfl j
 refine ⟨_,rfl,?_⟩
 refine zI d<| RN h ?_
 obtain rfl:=gI b
 refine (zX (fB (v1:=d) rfl rfl ?_))
 exact ⟨d,rfl,H.pick [1]⟩
end Go.Proofs.YtgmikmoapfmedaaGreatDoor.L
