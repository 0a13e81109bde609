/- Walks: what each function computes, for every argument; no condition but those that stand in the statements. -/
import Derived.Test.YtgmikmoapfmedaaGreatDoorVV0
import Derived.Test.YtgmikmoapfmedaaGreatDoorVV2
namespace Go.Proofs.YtgmikmoapfmedaaGreatDoor.L
open Go.RowKit Go.OB Go.Lf
set_option maxHeartbeats 4000000
theorem Feiw (f:Rules)(v1:Value)(v2:Value)(d:Value)(r:(List Str)×Int)(c:Fei f=some r)(O S:List Nat)(w:World)(H:Hd O w w S [f1 Rp.str v1 f.Phases,f1 gZ v2 f.Moves,f1 fC d f.Rules]):
  Cl 88 [.agg [v1,v2,d].toArray] w fun e j=> ∃i,e= .returned (.tuple #[i,i6 r.2])∧Hd O w j S [.own Rp.str i 9 r.1]:=by
 unfold Fei at c
 refine CW 12 Tryz.func88 ?_
 refine zB fun y k=>zA<| yS rfl rfl (xZ (cs:=[v1,v2,d]) rfl H) ?_
 rintro _ z ⟨A,rfl,H⟩
 refine zI (.slice none 0 0)<| zI (i6 0)<| RN k<| zB fun B l=>zB fun C m=>zA<| zG (yK (yP (cs:=[v1,v2,d]) jU rfl nR rfl (Hbc H 3 rfl)) rfl) ?_
 have n:=H
 obtain ⟨g,o,c⟩:=zC c
 refine zS rfl rfl (zN en58 rfl) (Fa4w f v1 v2 d _ o _ _ _ (H.enter [] [0,1,2])) ?_
 rintro _ D ⟨rfl,p⟩
 have H:=n.step (p.only:Only [] _ _)
 refine ⟨_,rfl,?_⟩
 refine zI (i6 g)<| RN m<| zB fun E q=>zA<| zH (i6 g) ?_
 obtain ⟨F,s,c⟩:=zD c
 refine zG (zM (dG (a:=g) (b:=0) rfl rfl) s)<| RN q ?_
 obtain ⟨t,c⟩:=yY c
 refine xQ t ?_
 refine zQ (zF (l _ _ ?_))
 refine zB fun G u=>zA<| zG (yK (yP (cs:=[v1,v2,d]) jU rfl nR rfl (Hbc H 3 rfl)) rfl) ?_
 obtain ⟨I,v,c⟩:=zC c
 refine zS rfl rfl (zN en116 rfl) (Fd1w f v1 v2 d _ v _ _ _ (H.enter [] [0,1,2])) ?_
 rintro _ J ⟨h,rfl,x⟩
 have H:=H.back1 [0,1,2] rfl x
 refine ⟨_,rfl,?_⟩
 refine zI h<| zI (i6 0)<| RN u ?_
 obtain rfl:=gJ c
 refine (zZ (jB (v1:=h) (v2:=i6 0) rfl rfl rfl ?_))
 exact ⟨h,rfl,H.pick [4]⟩
theorem Fedw (c:Rules)(g:Int)(v1:Value)(d:Value)(f:Value)(r:(List Str))(b:Fed c g=some r)(O S:List Nat)(w:World)(H:Hd O w w S [f1 Rp.str v1 c.Phases,f1 gZ d c.Moves,f1 fC f c.Rules]):
  Cl 60 [.agg [v1,d,f].toArray,i6 g] w fun e j=> ∃i,e= .returned (i)∧Hd O w j S [.own Rp.str i 9 r]:=by
 unfold Fed at b
 refine CW 15 Tryz.func60 ?_
 refine zB fun y k=>zA<| yS rfl rfl (xZ (cs:=[v1,d,f]) rfl H) ?_
 rintro _ z ⟨A,rfl,H⟩
 refine zI (.slice none 0 0)<| RN k<| zB fun B l=>zA<| zG (yK (yP (cs:=[v1,d,f]) jU rfl nR rfl (Hbc H 3 rfl)) rfl)<| zH (i6 g) ?_
 obtain ⟨m,n,b⟩:=zC b
 refine zS rfl rfl (zN en89 rfl) (Fd9w c g v1 d f _ n _ _ _ (H.enter [] [0,1,2])) ?_
 rintro _ C ⟨o,p,q,rfl,s⟩
 have H:=H.back1 [0,1,2] rfl s
 refine ⟨_,rfl,?_⟩
 obtain ⟨⟨D,h⟩,t,b⟩:=zC b
 refine zS rfl rfl (zN en88 rfl) (Feiw m o p q _ t _ _ _ (H.enter [] [4,5,6])) ?_
 rintro _ E ⟨a,rfl,u⟩
 have H:=H.back1 [4,5,6] rfl u
 refine ⟨_,rfl,?_⟩
 refine zH (.tuple #[a,i6 h])<| zG (xC (v:=a) rfl rfl)<| zG (xC (v:=i6 h) rfl rfl)<| zI a<| zI (i6 h)<| RN l<| zB fun F x=>zA<| zH a<| zI a<| RN x ?_
 obtain rfl:=gJ b
 refine (zZ (fB (v1:=a) rfl rfl ?_))
 exact ⟨a,rfl,H.pick [7]⟩
theorem Fduw (f:Rules)(h:Str)(v1:Value)(v2:Value)(d:Value)(r:(List Str)×Int)(c:Fdu f h=some r)(O S:List Nat)(w:World)(H:Hd O w w S [f1 Rp.str v1 f.Phases,f1 gZ v2 f.Moves,f1 fC d f.Rules]):
  Cl 31 [.agg [v1,v2,d].toArray,sb h] w fun e l=> ∃k,e= .returned (.tuple #[k,i6 r.2])∧Hd O w l S [.own Rp.str k 9 r.1]:=by
 unfold Fdu at c
 refine CW 21 Tryz.func31 ?_
 refine zB fun J m=>zA<| yS rfl rfl (xZ (cs:=[v1,v2,d]) rfl H) ?_
 rintro _ K ⟨L,rfl,H⟩
 refine zI (.slice none 0 0)<| zI (i6 0)<| RN m<| zB fun M n=>zB fun N o=>zA<| zG (yK (yP (cs:=[v1,v2,d]) jU rfl nR rfl (Hbc H 3 rfl)) rfl) ?_
 have p:=H
 obtain ⟨i,q,c⟩:=zC c
 refine zS rfl rfl (zN en58 rfl) (Fa4w f v1 v2 d _ q _ _ _ (H.enter [] [0,1,2])) ?_
 rintro _ P ⟨rfl,s⟩
 have H:=p.step (s.only:Only [] _ _)
 refine ⟨_,rfl,?_⟩
 refine zI (i6 i)<| RN o<| zB fun Q t=>zA<| zH (i6 i) ?_
 obtain ⟨R,u,c⟩:=zD c
 refine zG (zM (dG (a:=i) (b:=0) rfl rfl) u)<| RN t ?_
 obtain ⟨v,c⟩:=yY c
 refine xQ v ?_
 refine zQ (zF (n _ _ ?_))
 refine zB fun T x=>zA<| zG (yK (yP (cs:=[v1,v2,d]) jU rfl nR rfl (Hbc H 3 rfl)) rfl)<| zH (sb h) ?_
 have y:=H
 obtain ⟨g,z,c⟩:=zC c
 refine zS rfl rfl (zN en59 rfl) (Fecw f h v1 v2 d _ z _ _ _ (H.enter [] [0,1,2])) ?_
 rintro _ U ⟨rfl,A⟩
 have H:=y.step (A.only:Only [] _ _)
 refine ⟨_,rfl,?_⟩
 refine zI (i6 g)<| RN x<| zB fun V B=>zB fun X C=>zA<| zH (i6 g) ?_
 obtain ⟨Y,D,c⟩:=zD c
 refine zG (zM (xG (a:=g) (b:=0) rfl rfl) D)<| RN C ?_
 obtain ⟨E,c⟩:=yY c
 refine xQ E ?_
 refine zQ (zF (B _ _ ?_))
 refine zB fun Z F=>zA<| zG (yK (yP (cs:=[v1,v2,d]) jU rfl nR rfl (Hbc H 3 rfl)) rfl)<| zH (i6 g) ?_
 obtain ⟨aa,G,c⟩:=zC c
 refine zS rfl rfl (zN en60 rfl) (Fedw f g v1 v2 d _ G _ _ _ (H.enter [] [0,1,2])) ?_
 rintro _ ab ⟨j,rfl,I⟩
 have H:=H.back1 [0,1,2] rfl I
 refine ⟨_,rfl,?_⟩
 refine zI j<| zI (i6 0)<| RN F ?_
 obtain rfl:=gJ c
 refine (zZ (jB (v1:=j) (v2:=i6 0) rfl rfl rfl ?_))
 exact ⟨j,rfl,H.pick [4]⟩
theorem Fcsw (r:Bool)(c:Fcs=some r)(O S:List Nat)(w:World)(H:Hd O w w S [.fz (.at 1 0 ((Fl.arr 7 Fl.str).f yJ)),.fz (.gi 5)]):
  Cl 10 [] w fun e u=>e= .returned (.bool r)∧Hd O w u S []:=by
 unfold Fcs at c
 refine CW 33 Tryz.func10 ?_
 refine zB fun K3 x=>zA<| zI (.bool false)<| RN x<| zB fun K4 y=>zA ?_
 obtain ⟨⟨j,n,l⟩,z,c⟩:=zC c
 refine zS rfl rfl (zN en30 rfl) (Feew [114,117,108,101,32,97,32,105,102,32,120,32,62,32,49] _ z _ _ _ (H.enter [] [0,1])) ?_
 rintro _ af ⟨d,g,h,rfl,A⟩
 have H:=H.back1 [0,1] rfl A
 refine ⟨_,rfl,?_⟩
 refine zH (.tuple #[.agg [d,g,h].toArray,i6 n,i6 l])<| zG (xC (v:= .agg [d,g,h].toArray) rfl rfl)<| zG (xC (v:=i6 n) rfl rfl)<| zG (xC (v:=i6 l) rfl rfl)<| yS rfl rfl (xB aAk H) ?_
 rintro _ ag ⟨q,rfl,H⟩
 refine yZ rfl (yM (vs:=[d,g,h]) H 5 rfl nR rfl rfl rfl ⟨(dR (H.item (i:=2) rfl)),(dR (H.item (i:=3) rfl)),(dR (H.item (i:=4) rfl)),trivial⟩ rfl) ?_
 rintro ah H
 refine zI (i6 n)<| zI (i6 l)<| RN y<| zB fun ai B=>zA<| zG (yK (yP (cs:=[d,g,h]) jU rfl nR rfl (Hbc H 5 rfl)) rfl) ?_
 obtain ⟨⟨s,m⟩,C,c⟩:=zC c
 refine zS rfl rfl (zN en31 rfl) (Fduw j [97] d g h _ C _ _ _ (H.enter [] [2,3,4])) ?_
 rintro _ aj ⟨k,rfl,D⟩
 have H:=H.back1 [2,3,4] rfl D
 refine ⟨_,rfl,?_⟩
 refine zH (.tuple #[k,i6 m])<| zG (xC (v:=k) rfl rfl)<| zG (xC (v:=i6 m) rfl rfl)<| zI k<| zI (i6 m)<| RN B<| zB fun ak E=>zA<| zH (i6 l) ?_
 obtain ⟨al,F,c⟩:=zD c
 refine zG (zM (wC (a:=l) (b:=0) rfl rfl) F) ?_
 obtain ⟨G,c,I⟩:=zC c
 refine eU 4 [18,19,20,21] [(21,.bool G)] (fun wl=>Hd O w wl S [.fz (.at 1 0 ((Fl.arr 7 Fl.str).f yJ)),.fz (.gi 5),f1 Rp.str d j.Phases,f1 gZ g j.Moves,f1 fC h j.Rules,.blk q [d,g,h] 75,.own Rp.str k 9 s]) ?_ ?_
 ·skip
  obtain ⟨J,c⟩:=eY c
  refine dM true J ?_
  refine zH (i6 m) ?_
  obtain ⟨K,L,c⟩:=zD c
  refine zG (zM (wC (a:=m) (b:=0) rfl rfl) L)<| zG (yL (v:= .bool K) rfl rfl) ?_
  obtain rfl:=gJ c
  exact zX (zF (meet ⟨(zJ rfl zK),H.pick [0,1,2,3,4,5,6]⟩))
 rintro ρ am H
 have c:=I
 obtain ⟨M,c,N⟩:=zC c
 refine eU 5 [22,23,24,25,26] [(26,.bool M)] (fun wl=>Hd O w wl S [.fz (.at 1 0 ((Fl.arr 7 Fl.str).f yJ)),.fz (.gi 5),f1 Rp.str d j.Phases,f1 gZ g j.Moves,f1 fC h j.Rules,.blk q [d,g,h] 75,.own Rp.str k 9 s]) ?_ ?_
 ·skip
  obtain ⟨P,c⟩:=eY c
  refine dM true P ?_
  refine zH k ?_
  obtain ⟨Q,R,c⟩:=zD c
  obtain ⟨an,ao,T⟩:=Sr.len (Sr.of_own (H.item (i:=6) rfl))
  refine zG (yK (xK u36 T) (congrArg (Value.int .i64) R)) ?_
  obtain ⟨U,V,c⟩:=zD c
  refine zG (zM (wC (a:=Q) (b:=1) rfl rfl) V)<| zG (yL (v:= .bool U) rfl rfl) ?_
  obtain rfl:=gJ c
  exact zX (zF (meet ⟨(zJ rfl zK),H.pick [0,1,2,3,4,5,6]⟩))
 rintro ρ ap H
 have c:=N
 obtain ⟨X,c⟩:=eY c
 refine dM true X ?_
 refine zH k ?_
 obtain ⟨t,o,c⟩:=zC c
 obtain ⟨aq,ar,Y,Z,aa,ab⟩:=fZ (H.item (i:=6) rfl) o
 obtain rfl:Y= [sb t]:=aa
 refine zG (yV u36 sz9 Z rfl (zO o).1 (zO o).2.1 rfl rfl)<| zG (yU dQ rfl (Cells.get ab (i:=0) rfl)) ?_
 obtain ⟨p,ac,c⟩:=zD c
 refine zG (zM (wB (s1:=t) (s2:=[120]) rfl rfl) ac)<| zG (yL (v:= .bool p) rfl rfl)<| zI (.bool p)<| RN E ?_
 obtain rfl:=gJ c
 refine (zZ (fB (v1:= .bool p) rfl rfl ?_))
 exact ⟨rfl,H.pick []⟩
theorem Fcqw (a:gV)(b:gV)(v1:Value)(d:Nat)(f:Value)(r:Bool)(c:Fcq a b=some r)(O S:List Nat)(w:World)(H:Hd O w w S [.blk d [sb b.Name,i6 b.Series.Den,f,i6 b.Long] 41,f1 gX v1 a.Series.Samples,f1 gX f b.Series.Samples]):
  Cl 43 [.agg [sb a.Name,i6 a.Series.Den,v1,i6 a.Long].toArray,gY d] w fun e h=>e= .returned (.bool r)∧Hd O w h S [.blk d [sb b.Name,i6 b.Series.Den,f,i6 b.Long] 41]:=by
 unfold Fcq at c
 refine CW 9 Tryz.func43 ?_
 refine zB fun l i=>zA<| yS rfl rfl (xZ (cs:=[sb a.Name,i6 a.Series.Den,v1,i6 a.Long]) rfl H) ?_
 rintro _ m ⟨n,rfl,H⟩
 refine zI (.bool false)<| RN i<| zB fun o j=>zA<| zG (mJ rfl)<| Ld dQ H 3 0 rfl rfl<| zG (mJ rfl)<| Ld dQ H 0 0 rfl rfl ?_
 obtain ⟨g,k,c⟩:=zD c
 refine zG (zM (wB (s1:=a.Name) (s2:=b.Name) rfl rfl) k)<| zI (.bool g)<| RN j ?_
 obtain rfl:=gJ c
 refine (zZ (fB (v1:= .bool g) rfl rfl ?_))
 exact ⟨rfl,H.pick [0]⟩
theorem Fa8w (k:List gV)(p1c0:gV)(v1:Value)(h:Nat)(f:Value)(r:Int)(c:Fa8 k p1c0=some r)(O S:List Nat)(w:World)(H:Hd O w w S [.blk h [sb p1c0.Name,i6 p1c0.Series.Den,f,i6 p1c0.Long] 41,f1 fE v1 k,f1 gX f p1c0.Series.Samples]):
  Cl 46 [v1,.func (.func 43) #[] #[gY h]] w fun e s=>e= .returned (i6 r)∧Hd O w s S [.blk h [sb p1c0.Name,i6 p1c0.Series.Den,f,i6 p1c0.Long] 41]:=by
 unfold Fa8 at c
 refine CW 19 Tryz.func46 ?_
 refine zB fun K7 t=>zA<| zI (i6 0)<| RN t ?_
 obtain ⟨u,v,c⟩:=xJ c
 refine yH [4,5,6,7,8,9,10,11,12,13,14,15,16,17,18] (fun (g:Unit)=>[]) (fun g wl=>Hd O w wl S [.blk h [sb p1c0.Name,i6 p1c0.Series.Den,f,i6 p1c0.Long] 41,f1 gX f p1c0.Series.Samples]∧u ()=some r) ?_ ?_
 ·skip
  refine zB fun ae x=>zA<| zH v1 ?_
  obtain ⟨y,z,c⟩:=zD c
  obtain ⟨af,ag,A⟩:=SlF.len ((H.item (i:=1) rfl))
  refine zG (yK (xK u22 A) (congrArg (Value.int .i64) z))<| zH (i6 0)<| RN x<| zY ?_
  unfold Fda at c
  obtain ⟨B,p,C,c⟩:=yF c
  refine xA [4,5,8,9,10,11,12,13,14,15,16,17,18] (fun (g:Nat×Int)=>[(8,i6 g.2)]) (fun g wl=>Hd O w wl S [.blk h [sb p1c0.Name,i6 p1c0.Series.Den,f,i6 p1c0.Long] 41,f1 gX f p1c0.Series.Samples,f1 fE v1 k]∧fF B g.1 g.2=some r) (fun g=>g.1) (p,0) (zJ rfl zK) ⟨H.pick [0,2,1],c⟩ ?_
  clear H c
  rintro ⟨p,d⟩ ρ ah ⟨H,c⟩
  obtain ⟨D,rfl,c⟩:=yN c
  have c:=yO C c
  refine zB fun ai E=>zA ?_
  obtain ⟨F,G,c⟩:=zD c
  refine zG (zM (xG (a:=d) (b:=y) rfl rfl) G)<| RN E<| zB fun aj I=>yB (b:=F) rfl (fun l=>?_) (fun l=>?_)
  ·have c:=zU l c
   refine zQ (zF (I _ _ ?_))
   refine zB fun ak J=>?_
   refine zY ?_
   refine zB fun al K=>zA<| zH (i6 d)<| zI (i6 d)<| RN K<| zB fun am L=>zA<| zH (.func (.func 43) #[] #[gY h])<| zH v1<| zH (i6 d) ?_
   obtain ⟨j,m,c⟩:=zC c
   obtain ⟨M,N,an,ao,P,Q,R,T,U⟩:=xY (H.item (i:=2) rfl) m
   obtain ⟨n,rfl,V⟩:=xU Q
   have H:=H.fzs [.at M (N+d.toNat * 4) _,.sl gX n j.Series.Samples] ⟨⟨R,T,U⟩,V,trivial⟩
   refine zG (yV u22 eF P rfl (zO m).1 (zO m).2.1 rfl rfl)<| zG (yK (yP (cs:=[sb j.Name,i6 j.Series.Den,n,i6 j.Long]) bP rfl eF rfl (H.item (i:=3) rfl).2.2) rfl) ?_
   obtain ⟨X,Y,c⟩:=zC c
   refine zS rfl rfl (aG en43 rfl rfl) (Fcqw j p1c0 n h f _ Y _ _ _ (H.enter [0] [4,1])) ?_
   rintro _ ap ⟨rfl,Z⟩
   have H:Hd _ _ _ _ [_,_,_,_,_]:=H.back [0] [4,1] rfl Z
   refine ⟨_,rfl,?_⟩
   refine RN L<| yB (b:=X) rfl (fun o=>?_) (fun o=>?_)
   ·have c:=zU o c
    refine zB fun aq aa=>zA<| zH (i6 d)<| zI (i6 d)<| RN aa ?_
    obtain rfl:=gJ c
    refine (zZ (yG (zW (zW (yG (zW (fB (v1:=i6 d) rfl rfl ?_)))))))
    exact ⟨rfl,H.pick [4]⟩
   have c:=zV o c
   refine (zQ (yX (zF (J _ _ ?_))))
   refine zA ?_
   obtain ⟨q,ab,c⟩:=zD c
   refine zG (xM (a:=d) (b:=1) rfl rfl ab)<| zH (i6 q) ?_
   exact (zX (zF (meet ⟨(D,q),(zJ rfl zK),⟨H.pick [4,0,1],c⟩,Nat.lt_succ_self _⟩)))
  have c:=zV l c
  exact (xE (yC (yC (yQ (zF (meet ⟨(),zK,⟨H.pick [0,1],c⟩⟩))))))
 rintro _ ρ ar ⟨H,c⟩
 have c:=xO v c
 refine zB fun au ac=>zA<| zI (i6 (-1))<| RN ac ?_
 obtain rfl:=gJ c
 refine (zZ (fB (v1:=i6 (-1)) rfl rfl ?_))
 exact ⟨rfl,H.pick [0]⟩
theorem Fbcw (g:List gV)(p1c0:gV)(v1:Value)(d:Nat)(f:Value)(r:Bool)(c:Fbc g p1c0=some r)(O S:List Nat)(w:World)(H:Hd O w w S [.blk d [sb p1c0.Name,i6 p1c0.Series.Den,f,i6 p1c0.Long] 41,f1 fE v1 g,f1 gX f p1c0.Series.Samples]):
  Cl 42 [v1,.func (.func 43) #[] #[gY d]] w fun e i=>e= .returned (.bool r)∧Hd O w i S [.blk d [sb p1c0.Name,i6 p1c0.Series.Den,f,i6 p1c0.Long] 41]:=by
 unfold Fbc at c
 refine CW 9 Tryz.func42 ?_
 refine zB fun p j=>zA<| zI (.bool false)<| RN j<| zB fun q k=>zA<| zH v1<| zH (.func (.func 43) #[] #[gY d]) ?_
 obtain ⟨l,m,c⟩:=zC c
 refine zS rfl rfl (zN en46 rfl) (Fa8w g p1c0 v1 d f _ m _ _ _ (H.enter [0] [1,2])) ?_
 rintro _ s ⟨rfl,n⟩
 have H:Hd _ _ _ _ [_,_,_]:=H.back [0] [1,2] rfl n
 refine ⟨_,rfl,?_⟩
 obtain ⟨h,o,c⟩:=zD c
 refine zG (zM (bG (a:=l) (b:=0) rfl rfl) o)<| zI (.bool h)<| RN k ?_
 obtain rfl:=gJ c
 refine (zZ (fB (v1:= .bool h) rfl rfl ?_))
 exact ⟨rfl,H.pick [2]⟩
theorem Fakw (d:Int)(f:Int)(h:Int)(r:Bool)(c:Fak d f h=some r)(O S:List Nat)(w:World)(H:Hd O w w S []):
  Cl 95 [i6 d,i6 f,i6 h] w fun e l=>e= .returned (.bool r)∧Hd O w l S []:=by
 unfold Fak at c
 refine CW 15 Tryz.func95 ?_
 refine zB fun s m=>zA<| zI (.bool false)<| RN m ?_
 obtain ⟨j,c,n⟩:=zC c
 refine yH [6,7,8,9,10,11,12,13,14] (fun (g:Unit)=>[(6,.bool j)]) (fun g wl=>Hd O w wl S []) ?_ ?_
 ·skip
  refine zA ?_
  refine zH (i6 d)<| zH (i6 f) ?_
  obtain ⟨o,p,c⟩:=zD c
  refine zG (zM (bG (a:=d) (b:=f) rfl rfl) p)<| xI (b:=o) rfl rfl rfl (fun i=>?_) (fun i=>?_)
  ·have c:=zU i c
   refine zH (i6 d)<| zH (i6 h) ?_
   obtain ⟨k,q,c⟩:=zD c
   refine zG (zM (bV (a:=d) (b:=h) rfl rfl) q)<| zG (yL (v:= .bool k) rfl rfl)<| zI (.bool k) ?_
   obtain rfl:=gJ c
   exact (zX (zF (meet ⟨(),(zJ rfl zK),H.pick []⟩)))
  have c:=zV i c
  refine yT ?_
  refine yT ?_
  refine yT ?_
  refine zG (yD (v:= .bool false) rfl rfl)<| zI (.bool false) ?_
  obtain rfl:=gJ c
  exact (zX (zF (meet ⟨(),(zJ rfl zK),H.pick []⟩)))
 rintro _ ρ t H
 have c:=n
 obtain rfl:=gJ c
 refine (zZ (fB (v1:= .bool j) rfl rfl ?_))
 exact ⟨rfl,H.pick []⟩
set_option maxRecDepth 100000 in
theorem Fbjw (h:Series)(v1:Value)(r:Int×Int)(c:Fbj h=some r)(O S:List Nat)(w:World)(H:Hd O w w S [f1 gX v1 h.Samples]):
  Cl 69 [.agg [i6 h.Den,v1].toArray] w fun e B=>e= .returned (.tuple #[i6 r.1,i6 r.2])∧Hd O w B S []:=by
 unfold Fbj at c
 refine CW 67 Tryz.func69 ?_
 refine zB fun K3 R=>zA<| yS rfl rfl (xZ (cs:=[i6 h.Den,v1]) rfl H) ?_
 rintro _ w6 ⟨j,rfl,H⟩
 refine zI (i6 0)<| zI (i6 0)<| RN R<| zB fun ci T=>zB fun cj U=>zA<| zG (nC rfl)<| Ld fK H 1 0 rfl rfl ?_
 have V:=H
 obtain ⟨X,Y,c⟩:=zC c
 refine zS rfl rfl (zN en95 rfl) (Fakw h.Den 1 1000000 _ Y _ _ _ (H.enter [] [])) ?_
 rintro _ ck ⟨rfl,Z⟩
 have H:=V.step (Z.only:Only [] _ _)
 refine ⟨_,rfl,?_⟩
 obtain ⟨aa,ab,c⟩:=zD c
 refine zG (zM (fV (p:=X) rfl) ab)<| RN U<| yB (b:=aa) rfl (fun k=>?_) (fun k=>?_)
 ·have c:=zU k c
  refine zB fun cl ac=>zA<| zI (i6 (-1))<| zI (i6 9)<| RN ac ?_
  obtain rfl:=gJ c
  refine (zZ (zW (jB (v1:=i6 (-1)) (v2:=i6 9) rfl rfl rfl ?_)))
  exact ⟨rfl,H.pick []⟩
 have c:=zV k c
 refine zQ (zF (T _ _ ?_))
 refine zB fun cm ad=>?_
 refine zB fun cn ae=>zA<| zG (dX rfl)<| Ld aO H 1 1 rfl rfl ?_
 obtain ⟨af,ag,c⟩:=zD c
 obtain ⟨co,cp,ah⟩:=SlF.len ((H.item (i:=0) rfl))
 refine zG (yK (xK u37 ah) (congrArg (Value.int .i64) ag)) ?_
 obtain ⟨ai,aj,c⟩:=zD c
 refine zG (zM (eX (a:=af) (b:=20000) rfl rfl) aj)<| RN ae<| yB (b:=ai) rfl (fun l=>?_) (fun l=>?_)
 ·have c:=zU l c
  refine zB fun cq ak=>zA<| zI (i6 (-1))<| zI (i6 3)<| RN ak ?_
  obtain rfl:=gJ c
  refine (zZ (zW (jB (v1:=i6 (-1)) (v2:=i6 3) rfl rfl rfl ?_)))
  exact ⟨rfl,H.pick []⟩
 have c:=zV l c
 refine zQ (zF (ad _ _ ?_))
 obtain ⟨al,am,c⟩:=xJ c
 refine yH [2,3,4,5,14,15,16,17,18,19,20,21,22,23,24,25,26,27,28,29,30,31,32,33,34,35,36,37,38,39,40,41,42,43,44,45,46,47,48,49,50,51,52,53,54,55,56,57,58,59,60,61,62,63,64,65,66] (fun (g:Unit)=>[]) (fun g wl=>Hd O w wl S []∧al ()=some r) ?_ ?_
 ·skip
  refine zB fun cr an=>zA<| zG (dX rfl)<| Ld aO H 1 1 rfl rfl ?_
  obtain ⟨ao,ap,c⟩:=zD c
  obtain ⟨ct,cu,aq⟩:=SlF.len ((H.item (i:=0) rfl))
  refine zG (yK (xK u37 aq) (congrArg (Value.int .i64) ap))<| zH (i6 0)<| RN an<| zY ?_
  unfold Fcb at c
  obtain ⟨ar,C,au,c⟩:=yF c
  refine xA [2,3,4,5,17,18,19,20,21,22,23,24,25,26,27,28,29,30,31,32,33,34,35,36,37,38,39,40,41,42,43,44,45,46,47,48,49,50,51,52,53,54,55,56,57,58,59,60,61,62,63,64,65,66] (fun (g:Nat×Int)=>[(17,i6 g.2)]) (fun g wl=>Hd O w wl S [f1 gX v1 h.Samples,.blk j [i6 h.Den,v1] 39]∧fF ar g.1 g.2=some r) (fun g=>g.1) (C,0) (zJ rfl zK) ⟨H.pick [0,1],c⟩ ?_
  clear H c
  rintro ⟨C,f⟩ ρ cv ⟨H,c⟩
  obtain ⟨av,rfl,c⟩:=yN c
  have c:=yO au c
  refine zB fun cw aw=>zA ?_
  obtain ⟨ax,ay,c⟩:=zD c
  refine zG (zM (xG (a:=f) (b:=ao) rfl rfl) ay)<| RN aw<| zB fun cx az=>yB (b:=ax) rfl (fun m=>?_) (fun m=>?_)
  ·have c:=zU m c
   refine zQ (zF (az _ _ ?_))
   refine zB fun cy a0=>?_
   refine zY ?_
   refine zB fun cz a1=>zA<| zH (i6 f) ?_
   obtain ⟨d,n,c⟩:=zC c
   obtain ⟨D,E,c0,c1,a2,a3,a4,a5,a6⟩:=xY (H.item (i:=0) rfl) n
   obtain rfl:=fU a3
   have H:=H.fz (.at D (E+f.toNat * 3) _) ⟨a4,a5,a6⟩
   refine zG (yV u37 bD a2 rfl (zO n).1 (zO n).2.1 rfl rfl)<| zG (yK (yP (cs:=[i6 d.At,i6 d.N,i6 d.Mark]) kH rfl bD rfl (H.item (i:=2) rfl).2.2) rfl)<| yS rfl rfl (xB mD H) ?_
   rintro _ c2 ⟨o,rfl,H⟩
   refine zI (i6 f)<| yZ rfl (yM (vs:=[i6 d.At,i6 d.N,i6 d.Mark]) H 3 rfl bD rfl rfl rfl ⟨rfl,rfl,rfl,trivial⟩ rfl) ?_
   rintro c3 H
   refine RN a1<| zY ?_
   obtain ⟨F,c,a7⟩:=zC c
   refine yH [22,23,24,25,26,27,28,29,30,31,32,33,34,35,36,37,38] (fun (g:Unit)=>[(22,.bool F)]) (fun g wl=>Hd O w wl S [f1 gX v1 h.Samples,.blk j [i6 h.Den,v1] 39,.blk o [i6 d.At,i6 d.N,i6 d.Mark] 46]) ?_ ?_
   ·skip
    refine zA ?_
    refine zG (kY rfl)<| Ld fK H 3 0 rfl rfl ?_
    have a8:=H
    obtain ⟨a9,ba,c⟩:=zC c
    refine zS rfl rfl (zN en95 rfl) (Fakw d.At 0 1099511627776 _ ba _ _ _ (H.enter [] [])) ?_
    rintro _ c4 ⟨rfl,bb⟩
    have H:=a8.step (bb.only:Only [] _ _)
    refine ⟨_,rfl,?_⟩
    obtain ⟨bc,bd,c⟩:=zD c
    refine zG (zM (fV (p:=a9) rfl) bd) ?_
    obtain ⟨G,c,be⟩:=zC c
    refine eU 6 [27,28,29,30,31,32] [(32,.bool G)] (fun wl=>Hd O w wl S [f1 gX v1 h.Samples,.blk j [i6 h.Den,v1] 39,.fz (.at D (E+f.toNat * 3) [i6 d.At,i6 d.N,i6 d.Mark]),.blk o [i6 d.At,i6 d.N,i6 d.Mark] 46]) ?_ ?_
    ·skip
     refine xI (b:=bc) rfl rfl rfl (fun q=>?_) (fun q=>?_)
     ·have c:=zU q c
      refine yT ?_
      refine yT ?_
      refine yT ?_
      refine yT ?_
      refine zG (yL (v:= .bool true) rfl rfl) ?_
      obtain rfl:=gJ c
      exact zX (zF (meet ⟨(zJ rfl zK),H.pick [0,1,2,3]⟩))
     have c:=zV q c
     refine zG (mQ rfl)<| Ld fK H 3 1 rfl rfl ?_
     have bf:=H
     obtain ⟨bg,bh,c⟩:=zC c
     refine zS rfl rfl (zN en95 rfl) (Fakw d.N (-1125899906842624) 1125899906842624 _ bh _ _ _ (H.enter [] [])) ?_
     rintro _ c5 ⟨rfl,bi⟩
     have H:=bf.step (bi.only:Only [] _ _)
     refine ⟨_,rfl,?_⟩
     obtain ⟨bj,bk,c⟩:=zD c
     refine zG (zM (fV (p:=bg) rfl) bk)<| zG (yD (v:= .bool bj) rfl rfl) ?_
     obtain rfl:=gJ c
     exact zX (zF (meet ⟨(zJ rfl zK),H.pick [0,1,2,3]⟩))
    rintro ρ c6 H
    have c:=be
    refine xI (b:=G) rfl rfl rfl (fun s=>?_) (fun s=>?_)
    ·have c:=zU s c
     refine yT ?_
     refine yT ?_
     refine yT ?_
     refine yT ?_
     refine zG (yL (v:= .bool true) rfl rfl)<| zI (.bool true) ?_
     obtain rfl:=gJ c
     exact (zX (zF (meet ⟨(),(zJ rfl zK),H.pick [0,1,3]⟩)))
    have c:=zV s c
    refine zG (jW rfl)<| Ld fK H 3 2 rfl rfl ?_
    have bl:=H
    obtain ⟨bm,bn,c⟩:=zC c
    refine zS rfl rfl (zN en95 rfl) (Fakw d.Mark 0 4 _ bn _ _ _ (H.enter [] [])) ?_
    rintro _ c7 ⟨rfl,bo⟩
    have H:=bl.step (bo.only:Only [] _ _)
    refine ⟨_,rfl,?_⟩
    obtain ⟨I,bp,c⟩:=zD c
    refine zG (zM (fV (p:=bm) rfl) bp)<| zG (yD (v:= .bool I) rfl rfl)<| zI (.bool I) ?_
    obtain rfl:=gJ c
    exact (zX (zF (meet ⟨(),(zJ rfl zK),H.pick [0,1,3]⟩)))
   rintro _ ρ c8 H
   have c:=a7
   refine yB (b:=F) rfl (fun t=>?_) (fun t=>?_)
   ·have c:=zU t c
    refine zB fun c9 bq=>zA<| zH (i6 f)<| zI (i6 f)<| zI (i6 9)<| RN bq ?_
    obtain rfl:=gJ c
    refine (zZ (yG (yG (zW (zW (yG (zW (jB (v1:=i6 f) (v2:=i6 9) rfl rfl rfl ?_))))))))
    exact ⟨rfl,H.pick []⟩
   have c:=zV t c
   obtain ⟨J,c,br⟩:=zC c
   refine yH [40,41,42,43,44,45,46,47,48] (fun (g:Unit)=>[(40,.bool J)]) (fun g wl=>Hd O w wl S [f1 gX v1 h.Samples,.blk j [i6 h.Den,v1] 39,.blk o [i6 d.At,i6 d.N,i6 d.Mark] 46]) ?_ ?_
   ·skip
    refine zA ?_
    refine zG (mQ rfl)<| Ld fK H 2 1 rfl rfl ?_
    obtain ⟨bt,bu,c⟩:=zD c
    refine zG (zM (dG (a:=d.N) (b:=0) rfl rfl) bu)<| xI (b:=bt) rfl rfl rfl (fun u=>?_) (fun u=>?_)
    ·have c:=zU u c
     refine zG (jW rfl)<| Ld fK H 2 2 rfl rfl ?_
     obtain ⟨K,bv,c⟩:=zD c
     refine zG (zM (bV (a:=d.Mark) (b:=1) rfl rfl) bv)<| zG (yL (v:= .bool K) rfl rfl)<| zI (.bool K) ?_
     obtain rfl:=gJ c
     exact (zX (zF (meet ⟨(),(zJ rfl zK),H.pick [0,1,2]⟩)))
    have c:=zV u c
    refine yT ?_
    refine yT ?_
    refine yT ?_
    refine zG (yD (v:= .bool false) rfl rfl)<| zI (.bool false) ?_
    obtain rfl:=gJ c
    exact (zX (zF (meet ⟨(),(zJ rfl zK),H.pick [0,1,2]⟩)))
   rintro _ ρ da H
   have c:=br
   refine yB (b:=J) rfl (fun x=>?_) (fun x=>?_)
   ·have c:=zU x c
    refine zB fun db bw=>zA<| zH (i6 f)<| zI (i6 f)<| zI (i6 2)<| RN bw ?_
    obtain rfl:=gJ c
    refine (zZ (yG (yG (zW (zW (yG (zW (jB (v1:=i6 f) (v2:=i6 2) rfl rfl rfl ?_))))))))
    exact ⟨rfl,H.pick []⟩
   have c:=zV x c
   obtain ⟨L,c,bx⟩:=zC c
   refine yH [50,51,52,53,54,55,56,57,58,59,60,61,62,63,64] (fun (g:Unit)=>[(50,.bool L)]) (fun g wl=>Hd O w wl S [f1 gX v1 h.Samples,.blk j [i6 h.Den,v1] 39]) ?_ ?_
   ·skip
    have M:=H
    have H:=H.rebase
    have dc:=H
    refine WP_mix0 H [0,1,2,3,4,5,6,7,8,9,10,11,12,13,14] (kz [0,0,0,0,1,0,1,0,0,0,0,1,0,0,0]) mixed ?_
    refine XM (i6 f) ?_
    obtain ⟨bz,b0,c⟩:=zD c
    refine XP (fun _ _=>zM (eX (a:=f) (b:=0) rfl rfl) b0)<| MxM.XL_splitb (b:=bz) rfl rfl rfl rfl (fun y=>?_) (fun y=>?_)
    ·have c:=zU y c
     refine XP (fun _ _=>kY rfl)<| XR fK H 2 0 rfl rfl<| XP (fun _ _=>dX rfl)<| XR aO H 1 1 rfl rfl<| XM (i6 f) ?_
     obtain ⟨b1,b2,c⟩:=zD c
     refine XP (fun _ _=>dH (a:=f) (b:=1) rfl rfl b2) ?_
     obtain ⟨b3,z,c⟩:=zC c
     obtain ⟨b4,b5,dd,de,b6,b7,b8,b9,ca⟩:=xY (H.item (i:=0) rfl) z
     obtain rfl:=fU b7
     have H:=H.fz (.at b4 (b5+b1.toNat * 3) _) ⟨b8,b9,ca⟩
     refine XP (fun _ _=>yV u37 bD b6 rfl (zO z).1 (zO z).2.1 rfl rfl)<| XP (fun _ _=>kY rfl)<| MxM.xP oS rfl rfl rfl (fun B cb=>yU fK rfl (Cells.get ((H.sees cb).item (i:=3) rfl).2.2 (i:=0) rfl)) ?_
     obtain ⟨P,cc,c⟩:=zD c
     refine XP (fun _ _=>zM (bV (a:=d.At) (b:=b3.At) rfl rfl) cc)<| XP (fun _ _=>yL (v:= .bool P) rfl rfl)<| XP (fun _ _=>eG (v:= .bool P) rfl)<| MxM.XL_nil fun df hS=>?_
     have H:=H.sees hS
     have H:=M.rejoin H
     obtain rfl:=gJ c
     exact (zF (meet ⟨(),(zJ rfl zK),H.pick [0,1]⟩))
    have c:=zV y c
    refine XO<| MxM.XL_offr oS rfl rfl rfl ?_
    refine XO<| MxM.XL_offr oS rfl rfl rfl ?_
    refine XO<| XO<| XO<| XO<| MxM.XL_offr oS rfl rfl rfl ?_
    refine XO<| XP (fun _ _=>yD (v:= .bool false) rfl rfl)<| XP (fun _ _=>eG (v:= .bool false) rfl)<| MxM.XL_nil fun dg hS=>?_
    have H:=H.sees hS
    have H:=M.rejoin H
    obtain rfl:=gJ c
    exact (zF (meet ⟨(),(zJ rfl zK),H.pick [0,1]⟩))
   rintro _ ρ dh H
   have c:=bx
   refine yB (b:=L) rfl (fun A=>?_) (fun A=>?_)
   ·have c:=zU A c
    refine zB fun di cd=>zA<| zH (i6 f)<| zI (i6 f)<| zI (i6 10)<| RN cd ?_
    obtain rfl:=gJ c
    refine (zZ (yG (yG (zW (zW (yG (zW (jB (v1:=i6 f) (v2:=i6 10) rfl rfl rfl ?_))))))))
    exact ⟨rfl,H.pick []⟩
   have c:=zV A c
   refine (zQ (yX (yX (zF (a0 _ _ ?_)))))
   refine zA ?_
   obtain ⟨Q,ce,c⟩:=zD c
   refine zG (xM (a:=f) (b:=1) rfl rfl ce)<| zH (i6 Q) ?_
   exact (zX (zF (meet ⟨(av,Q),(zJ rfl zK),⟨H.pick [0,1],c⟩,Nat.lt_succ_self _⟩)))
  have c:=zV m c
  exact (xE (yC (yC (yQ (zF (meet ⟨(),zK,⟨H.pick [],c⟩⟩))))))
 rintro _ ρ dj ⟨H,c⟩
 have c:=xO am c
 refine zB fun dk cf=>zA<| zI (i6 (-1))<| zI (i6 0)<| RN cf ?_
 obtain rfl:=gJ c
 refine (zZ (jB (v1:=i6 (-1)) (v2:=i6 0) rfl rfl rfl ?_))
 exact ⟨rfl,H.pick []⟩
theorem Fbgw (a:Series)(v1:Value)(r:Int)(c:Fbg a=some r)(O S:List Nat)(w:World)(H:Hd O w w S [f1 gX v1 a.Samples]):
  Cl 44 [.agg [i6 a.Den,v1].toArray] w fun e f=>e= .returned (i6 r)∧Hd O w f S []:=by
 unfold Fbg at c
 refine CW 11 Tryz.func44 ?_
 refine zB fun m g=>zA<| yS rfl rfl (xZ (cs:=[i6 a.Den,v1]) rfl H) ?_
 rintro _ n ⟨o,rfl,H⟩
 refine zI (i6 0)<| RN g<| zB fun p h=>zA<| zG (yK (yP (cs:=[i6 a.Den,v1]) qA rfl wZ rfl (Hbc H 1 rfl)) rfl) ?_
 have i:=H
 obtain ⟨⟨d,b⟩,j,c⟩:=zC c
 refine zS rfl rfl (zN en69 rfl) (Fbjw a v1 _ j _ _ _ (H.enter [] [0])) ?_
 rintro _ q ⟨rfl,k⟩
 have H:=i.step (k.only:Only [] _ _)
 refine ⟨_,rfl,?_⟩
 refine zH (.tuple #[i6 d,i6 b])<| zG (xC (v:=i6 d) rfl rfl)<| zG (xC (v:=i6 b) rfl rfl)<| zI (i6 d)<| zI (i6 b)<| RN h<| zB fun s l=>zA<| zH (i6 b)<| zI (i6 b)<| RN l ?_
 obtain rfl:=gJ c
 refine (zZ (fB (v1:=i6 b) rfl rfl ?_))
 exact ⟨rfl,H.pick []⟩
set_option maxRecDepth 100000 in
theorem Fbqw (k:List gV)(v1:Value)(r:Int)(c:Fbq k=some r)(O S:List Nat)(w:World)(H:Hd O w w S [f1 fE v1 k]):
  Cl 17 [v1] w fun e z=>e= .returned (i6 r)∧Hd O w z S []:=by
 unfold Fbq at c
 refine CW 36 Tryz.func17 ?_
 refine zB fun K3 A=>zA<| zI (i6 0)<| RN A<| zB fun bo B=>zB fun bp C=>zA<| zH v1 ?_
 obtain ⟨D,E,c⟩:=zD c
 obtain ⟨bq,br,F⟩:=SlF.len ((H.item (i:=0) rfl))
 refine zG (yK (xK u22 F) (congrArg (Value.int .i64) E)) ?_
 obtain ⟨G,I,c⟩:=zD c
 refine zG (zM (eX (a:=D) (b:=50) rfl rfl) I)<| RN C<| yB (b:=G) rfl (fun l=>?_) (fun l=>?_)
 ·have c:=zU l c
  refine zB fun bt J=>zA<| zI (i6 3)<| RN J ?_
  obtain rfl:=gJ c
  refine (zZ (zW (fB (v1:=i6 3) rfl rfl ?_)))
  exact ⟨rfl,H.pick []⟩
 have c:=zV l c
 refine zQ (zF (B _ _ ?_))
 obtain ⟨K,L,c⟩:=xJ c
 refine yH [2,3,4,5,9,10,11,12,13,14,15,16,17,18,19,20,21,22,23,24,25,26,27,28,29,30,31,32,33,34,35] (fun (g:Unit)=>[]) (fun g wl=>Hd O w wl S []∧K ()=some r) ?_ ?_
 ·skip
  refine zB fun bu M=>zA<| zH v1 ?_
  obtain ⟨N,P,c⟩:=zD c
  obtain ⟨bv,bw,Q⟩:=SlF.len ((H.item (i:=0) rfl))
  refine zG (yK (xK u22 Q) (congrArg (Value.int .i64) P))<| zH (i6 0)<| RN M<| zY ?_
  unfold Fdh at c
  obtain ⟨R,u,T,c⟩:=yF c
  refine xA [2,3,4,5,11,12,13,14,15,16,17,18,19,20,21,22,23,24,25,26,27,28,29,30,31,32,33,34,35] (fun (g:Nat×Int)=>[(11,i6 g.2)]) (fun g wl=>Hd O w wl S [f1 fE v1 k]∧fF R g.1 g.2=some r) (fun g=>g.1) (u,0) (zJ rfl zK) ⟨H.pick [0],c⟩ ?_
  clear H c
  rintro ⟨u,f⟩ ρ bx ⟨H,c⟩
  obtain ⟨U,rfl,c⟩:=yN c
  have c:=yO T c
  refine zB fun bz V=>zA ?_
  obtain ⟨X,Y,c⟩:=zD c
  refine zG (zM (xG (a:=f) (b:=N) rfl rfl) Y)<| RN V<| zB fun b0 Z=>yB (b:=X) rfl (fun m=>?_) (fun m=>?_)
  ·have c:=zU m c
   refine zQ (zF (Z _ _ ?_))
   refine zB fun b1 aa=>?_
   refine zY ?_
   refine zB fun b2 ab=>zA<| zH (i6 f) ?_
   obtain ⟨d,n,c⟩:=zC c
   obtain ⟨ac,ad,b3,b4,ae,af,ag,ah,ai⟩:=xY (H.item (i:=0) rfl) n
   obtain ⟨h,rfl,aj⟩:=xU af
   have H:=H.fzs [.at ac (ad+f.toNat * 4) _,.sl gX h d.Series.Samples] ⟨⟨ag,ah,ai⟩,aj,trivial⟩
   refine zG (yV u22 eF ae rfl (zO n).1 (zO n).2.1 rfl rfl)<| zG (yK (yP (cs:=[sb d.Name,i6 d.Series.Den,h,i6 d.Long]) bP rfl eF rfl (H.item (i:=1) rfl).2.2) rfl)<| yS rfl rfl (xB jI H) ?_
   rintro _ b5 ⟨ak,rfl,H⟩
   refine zI (i6 f)<| yZ rfl (yM (vs:=[sb d.Name,i6 d.Series.Den,h,i6 d.Long]) H 3 rfl eF rfl rfl rfl ⟨rfl,rfl,(dR (H.item (i:=2) rfl)),rfl,trivial⟩ rfl) ?_
   rintro b6 H
   refine RN ab<| zB fun b7 al=>zB fun b8 am=>zA<| zG (mJ rfl)<| Ld dQ H 3 0 rfl rfl ?_
   have an:=H
   obtain ⟨ao,ap,c⟩:=zC c
   refine zS rfl rfl (zN en41 rfl) (Fajw d.Name _ ap _ _ _ (H.enter [] [])) ?_
   rintro _ b9 ⟨rfl,aq⟩
   have H:=an.step (aq.only:Only [] _ _)
   refine ⟨_,rfl,?_⟩
   obtain ⟨ar,au,c⟩:=zD c
   refine zG (zM (fV (p:=ao) rfl) au)<| RN am<| yB (b:=ar) rfl (fun o=>?_) (fun o=>?_)
   ·have c:=zU o c
    refine zB fun ca av=>zA<| zI (i6 8)<| RN av ?_
    obtain rfl:=gJ c
    refine (zZ (zW (yG (zW (zW (yG (zW (fB (v1:=i6 8) rfl rfl ?_))))))))
    exact ⟨rfl,H.pick []⟩
   have c:=zV o c
   refine zQ (zF (al _ _ ?_))
   refine zB fun cb aw=>?_
   refine zB fun cc ax=>zA<| zH v1<| zH (i6 f) ?_
   obtain ⟨v,ay,c⟩:=zC c
   refine aAc rfl rfl (mO u22 eF (H.item (i:=0) rfl) rfl rfl ay) ?_
   rintro x az
   have H:=H.fz (.sl fE x v) az
   refine zG (dI rfl) ?_
   obtain ⟨a0,a1,c⟩:=zC c
   refine zS rfl rfl (zN en42 rfl) (Fbcw v d x ak h _ a1 _ _ _ (H.enter [3] [4,2])) ?_
   rintro _ cd ⟨rfl,a2⟩
   have H:Hd _ _ _ _ [_,_,_,_,_]:=H.back [3] [4,2] rfl a2
   refine ⟨_,rfl,?_⟩
   refine RN ax<| yB (b:=a0) rfl (fun q=>?_) (fun q=>?_)
   ·have c:=zU q c
    refine zB fun ce a3=>zA<| zI (i6 5)<| RN a3 ?_
    obtain rfl:=gJ c
    refine (zZ (zW (yG (zW (zW (yG (zW (fB (v1:=i6 5) rfl rfl ?_))))))))
    exact ⟨rfl,H.pick []⟩
   have c:=zV q c
   refine zQ (zF (aw _ _ ?_))
   refine zB fun cf a4=>?_
   refine zB fun cg a5=>zA<| zG (aY rfl)<| zG (yK (yP (cs:=[i6 d.Series.Den,h]) qA rfl wZ rfl (Cells.drop (Hbc H 4 rfl) 1 2)) rfl) ?_
   have a6:=H
   obtain ⟨j,a7,c⟩:=zC c
   refine zS rfl rfl (zN en44 rfl) (Fbgw d.Series h _ a7 _ _ _ (H.enter [] [2])) ?_
   rintro _ ch ⟨rfl,a8⟩
   have H:=a6.step (a8.only:Only [] _ _)
   refine ⟨_,rfl,?_⟩
   refine zI (i6 j)<| RN a5<| zB fun ci a9=>zA<| zH (i6 j) ?_
   obtain ⟨ba,bb,c⟩:=zD c
   refine zG (zM (dG (a:=j) (b:=0) rfl rfl) bb)<| RN a9<| yB (b:=ba) rfl (fun s=>?_) (fun s=>?_)
   ·have c:=zU s c
    refine zB fun cj bc=>zA<| zH (i6 j)<| zI (i6 j)<| RN bc ?_
    obtain rfl:=gJ c
    refine (zZ (zW (yG (zW (zW (yG (zW (fB (v1:=i6 j) rfl rfl ?_))))))))
    exact ⟨rfl,H.pick []⟩
   have c:=zV s c
   refine zQ (zF (a4 _ _ ?_))
   refine zB fun ck bd=>zA<| zG (uM rfl)<| Ld fK H 4 3 rfl rfl ?_
   have be:=H
   obtain ⟨bf,bg,c⟩:=zC c
   refine zS rfl rfl (zN en45 rfl) (Facw d.Long 0 1099511627776 _ bg _ _ _ (H.enter [] [])) ?_
   rintro _ cl ⟨rfl,bh⟩
   have H:=be.step (bh.only:Only [] _ _)
   refine ⟨_,rfl,?_⟩
   obtain ⟨bi,bj,c⟩:=zD c
   refine zG (zM (fV (p:=bf) rfl) bj)<| RN bd<| yB (b:=bi) rfl (fun t=>?_) (fun t=>?_)
   ·have c:=zU t c
    refine zB fun cm bk=>zA<| zI (i6 9)<| RN bk ?_
    obtain rfl:=gJ c
    refine (zZ (yG (zW (zW (yG (zW (fB (v1:=i6 9) rfl rfl ?_)))))))
    exact ⟨rfl,H.pick []⟩
   have c:=zV t c
   refine (zQ (yX (zF (aa _ _ ?_))))
   refine zA ?_
   obtain ⟨y,bl,c⟩:=zD c
   refine zG (xM (a:=f) (b:=1) rfl rfl bl)<| zH (i6 y) ?_
   exact (zX (zF (meet ⟨(U,y),(zJ rfl zK),⟨H.pick [0],c⟩,Nat.lt_succ_self _⟩)))
  have c:=zV m c
  exact (xE (yC (yC (yQ (zF (meet ⟨(),zK,⟨H.pick [],c⟩⟩))))))
 rintro _ ρ cn ⟨H,c⟩
 have c:=xO L c
 refine zB fun co bm=>zA<| zI (i6 0)<| RN bm ?_
 obtain rfl:=gJ c
 refine (zZ (fB (v1:=i6 0) rfl rfl ?_))
 exact ⟨rfl,H.pick []⟩
theorem Fb2w (a:gV)(b:Str)(v1:Value)(d:Nat)(r:Bool)(c:Fb2 a b=some r)(O S:List Nat)(w:World)(H:Hd O w w S [.blk d [sb b] 9,f1 gX v1 a.Series.Samples]):
  Cl 47 [.agg [sb a.Name,i6 a.Series.Den,v1,i6 a.Long].toArray,gY d] w fun e g=>e= .returned (.bool r)∧Hd O w g S [.blk d [sb b] 9]:=by
 unfold Fb2 at c
 refine CW 8 Tryz.func47 ?_
 refine zB fun k h=>zA<| yS rfl rfl (xZ (cs:=[sb a.Name,i6 a.Series.Den,v1,i6 a.Long]) rfl H) ?_
 rintro _ l ⟨m,rfl,H⟩
 refine zI (.bool false)<| RN h<| zB fun n i=>zA<| zG (mJ rfl)<| Ld dQ H 2 0 rfl rfl<| Ld dQ H 0 0 rfl rfl ?_
 obtain ⟨f,j,c⟩:=zD c
 refine zG (zM (wB (s1:=a.Name) (s2:=b) rfl rfl) j)<| zI (.bool f)<| RN i ?_
 obtain rfl:=gJ c
 refine (zZ (fB (v1:= .bool f) rfl rfl ?_))
 exact ⟨rfl,H.pick [0]⟩
theorem Fa0w (j:List gV)(p1c0:Str)(v1:Value)(f:Nat)(r:Int)(c:Fa0 j p1c0=some r)(O S:List Nat)(w:World)(H:Hd O w w S [.blk f [sb p1c0] 9,f1 fE v1 j]):
  Cl 46 [v1,.func (.func 47) #[] #[gY f]] w fun e q=>e= .returned (i6 r)∧Hd O w q S [.blk f [sb p1c0] 9]:=by
 unfold Fa0 at c
 refine CW 19 Tryz.func46 ?_
 refine zB fun K5 s=>zA<| zI (i6 0)<| RN s ?_
 obtain ⟨t,u,c⟩:=xJ c
 refine yH [4,5,6,7,8,9,10,11,12,13,14,15,16,17,18] (fun (g:Unit)=>[]) (fun g wl=>Hd O w wl S [.blk f [sb p1c0] 9]∧t ()=some r) ?_ ?_
 ·skip
  refine zB fun ad v=>zA<| zH v1 ?_
  obtain ⟨x,y,c⟩:=zD c
  obtain ⟨ae,af,z⟩:=SlF.len ((H.item (i:=1) rfl))
  refine zG (yK (xK u22 z) (congrArg (Value.int .i64) y))<| zH (i6 0)<| RN v<| zY ?_
  unfold Fef at c
  obtain ⟨A,o,B,c⟩:=yF c
  refine xA [4,5,8,9,10,11,12,13,14,15,16,17,18] (fun (g:Nat×Int)=>[(8,i6 g.2)]) (fun g wl=>Hd O w wl S [.blk f [sb p1c0] 9,f1 fE v1 j]∧fF A g.1 g.2=some r) (fun g=>g.1) (o,0) (zJ rfl zK) ⟨H.pick [0,1],c⟩ ?_
  clear H c
  rintro ⟨o,d⟩ ρ ag ⟨H,c⟩
  obtain ⟨C,rfl,c⟩:=yN c
  have c:=yO B c
  refine zB fun ah D=>zA ?_
  obtain ⟨E,F,c⟩:=zD c
  refine zG (zM (xG (a:=d) (b:=x) rfl rfl) F)<| RN D<| zB fun ai G=>yB (b:=E) rfl (fun k=>?_) (fun k=>?_)
  ·have c:=zU k c
   refine zQ (zF (G _ _ ?_))
   refine zB fun aj I=>?_
   refine zY ?_
   refine zB fun ak J=>zA<| zH (i6 d)<| zI (i6 d)<| RN J<| zB fun al K=>zA<| zH (.func (.func 47) #[] #[gY f])<| zH v1<| zH (i6 d) ?_
   obtain ⟨h,l,c⟩:=zC c
   obtain ⟨L,M,am,an,N,P,Q,R,T⟩:=xY (H.item (i:=1) rfl) l
   obtain ⟨m,rfl,U⟩:=xU P
   have H:=H.fzs [.at L (M+d.toNat * 4) _,.sl gX m h.Series.Samples] ⟨⟨Q,R,T⟩,U,trivial⟩
   refine zG (yV u22 eF N rfl (zO l).1 (zO l).2.1 rfl rfl)<| zG (yK (yP (cs:=[sb h.Name,i6 h.Series.Den,m,i6 h.Long]) bP rfl eF rfl (H.item (i:=2) rfl).2.2) rfl) ?_
   obtain ⟨V,X,c⟩:=zC c
   refine zS rfl rfl (aG en47 rfl rfl) (Fb2w h p1c0 m f _ X _ _ _ (H.enter [0] [3])) ?_
   rintro _ ao ⟨rfl,Y⟩
   have H:Hd _ _ _ _ [_,_,_,_]:=H.back [0] [3] rfl Y
   refine ⟨_,rfl,?_⟩
   refine RN K<| yB (b:=V) rfl (fun n=>?_) (fun n=>?_)
   ·have c:=zU n c
    refine zB fun ap Z=>zA<| zH (i6 d)<| zI (i6 d)<| RN Z ?_
    obtain rfl:=gJ c
    refine (zZ (yG (zW (zW (yG (zW (fB (v1:=i6 d) rfl rfl ?_)))))))
    exact ⟨rfl,H.pick [3]⟩
   have c:=zV n c
   refine (zQ (yX (zF (I _ _ ?_))))
   refine zA ?_
   obtain ⟨p,aa,c⟩:=zD c
   refine zG (xM (a:=d) (b:=1) rfl rfl aa)<| zH (i6 p) ?_
   exact (zX (zF (meet ⟨(C,p),(zJ rfl zK),⟨H.pick [3,0],c⟩,Nat.lt_succ_self _⟩)))
  have c:=zV k c
  exact (xE (yC (yC (yQ (zF (meet ⟨(),zK,⟨H.pick [0],c⟩⟩))))))
 rintro _ ρ aq ⟨H,c⟩
 have c:=xO u c
 refine zB fun ar ab=>zA<| zI (i6 (-1))<| RN ab ?_
 obtain rfl:=gJ c
 refine (zZ (fB (v1:=i6 (-1)) rfl rfl ?_))
 exact ⟨rfl,H.pick [0]⟩
theorem Faaw (b:List gV)(c:Str)(v1:Value)(r:Int)(a:Faa b c=some r)(O S:List Nat)(w:World)(H:Hd O w w S [f1 fE v1 b]):
  Cl 20 [v1,sb c] w fun e f=>e= .returned (i6 r)∧Hd O w f S []:=by
 unfold Faa at a
 refine CW 8 Tryz.func20 ?_
 refine zB fun l g=>zA<| yS rfl rfl (jG rfl rfl H) ?_
 rintro _ m ⟨h,rfl,H⟩
 refine zI (i6 0)<| RN g<| zB fun n i=>zA<| zH v1<| zG (dI rfl) ?_
 obtain ⟨d,j,a⟩:=zC a
 refine zS rfl rfl (zN en46 rfl) (Fa0w b c v1 h _ j _ _ _ (H.enter [1] [0])) ?_
 rintro _ o ⟨rfl,k⟩
 have H:Hd _ _ _ _ [_,_]:=H.back [1] [0] rfl k
 refine ⟨_,rfl,?_⟩
 refine zI (i6 d)<| RN i ?_
 obtain rfl:=gJ a
 refine (zZ (fB (v1:=i6 d) rfl rfl ?_))
 exact ⟨rfl,H.pick []⟩
theorem Fbpw (d:Int)(f:Int)(h:Int)(r:Bool)(c:Fbp d f h=some r)(O S:List Nat)(w:World)(H:Hd O w w S []):
  Cl 33 [i6 d,i6 f,i6 h] w fun e l=>e= .returned (.bool r)∧Hd O w l S []:=by
 unfold Fbp at c
 refine CW 15 Tryz.func33 ?_
 refine zB fun s m=>zA<| zI (.bool false)<| RN m ?_
 obtain ⟨j,c,n⟩:=zC c
 refine yH [6,7,8,9,10,11,12,13,14] (fun (g:Unit)=>[(6,.bool j)]) (fun g wl=>Hd O w wl S []) ?_ ?_
 ·skip
  refine zA ?_
  refine zH (i6 d)<| zH (i6 f) ?_
  obtain ⟨o,p,c⟩:=zD c
  refine zG (zM (bG (a:=d) (b:=f) rfl rfl) p)<| xI (b:=o) rfl rfl rfl (fun i=>?_) (fun i=>?_)
  ·have c:=zU i c
   refine zH (i6 d)<| zH (i6 h) ?_
   obtain ⟨k,q,c⟩:=zD c
   refine zG (zM (bV (a:=d) (b:=h) rfl rfl) q)<| zG (yL (v:= .bool k) rfl rfl)<| zI (.bool k) ?_
   obtain rfl:=gJ c
   exact (zX (zF (meet ⟨(),(zJ rfl zK),H.pick []⟩)))
  have c:=zV i c
  refine yT ?_
  refine yT ?_
  refine yT ?_
  refine zG (yD (v:= .bool false) rfl rfl)<| zI (.bool false) ?_
  obtain rfl:=gJ c
  exact (zX (zF (meet ⟨(),(zJ rfl zK),H.pick []⟩)))
 rintro _ ρ t H
 have c:=n
 obtain rfl:=gJ c
 refine (zZ (fB (v1:= .bool j) rfl rfl ?_))
 exact ⟨rfl,H.pick []⟩
theorem Fbiw (d:Int)(f:Int)(r:Int)(c:Fbi d f=some r)(O S:List Nat)(w:World)(H:Hd O w w S []):
  Cl 19 [i6 d,i6 f] w fun e p=>e= .returned (i6 r)∧Hd O w p S []:=by
 unfold Fbi at c
 refine CW 23 Tryz.func19 ?_
 refine zB fun M q=>zA<| zI (i6 0)<| RN q<| zB fun N s=>zY ?_
 obtain ⟨l,c,t⟩:=zC c
 refine yH [5,6,7,8,9,10,11,12,13,14,15,16] (fun (g:Unit)=>[(5,.bool l)]) (fun g wl=>Hd O w wl S []) ?_ ?_
 ·skip
  refine zA ?_
  refine zH (i6 d) ?_
  obtain ⟨u,x,c⟩:=zD c
  refine zG (zM (xG (a:=d) (b:=0) rfl rfl) x) ?_
  obtain ⟨m,c,y⟩:=zC c
  refine eU 5 [8,9,10,11,12] [(12,.bool m)] (fun wl=>Hd O w wl S []) ?_ ?_
  ·skip
   refine xI (b:=u) rfl rfl rfl (fun h=>?_) (fun h=>?_)
   ·have c:=zU h c
    refine yT ?_
    refine yT ?_
    refine yT ?_
    refine zG (yL (v:= .bool true) rfl rfl) ?_
    obtain rfl:=gJ c
    exact zX (zF (meet ⟨(zJ rfl zK),H.pick []⟩))
   have c:=zV h c
   refine zH (i6 d)<| zH (i6 f) ?_
   obtain ⟨z,A,c⟩:=zD c
   refine zG (zM (eX (a:=d) (b:=f) rfl rfl) A)<| zG (yD (v:= .bool z) rfl rfl) ?_
   obtain rfl:=gJ c
   exact zX (zF (meet ⟨(zJ rfl zK),H.pick []⟩))
  rintro ρ P H
  have c:=y
  refine xI (b:=m) rfl rfl rfl (fun i=>?_) (fun i=>?_)
  ·have c:=zU i c
   refine yT ?_
   refine yT ?_
   refine zG (yL (v:= .bool true) rfl rfl)<| zI (.bool true) ?_
   obtain rfl:=gJ c
   exact (zX (zF (meet ⟨(),(zJ rfl zK),H.pick []⟩)))
  have c:=zV i c
  refine zH (i6 f) ?_
  obtain ⟨n,B,c⟩:=zD c
  refine zG (zM (bG (a:=f) (b:=4194304) rfl rfl) B)<| zG (yD (v:= .bool n) rfl rfl)<| zI (.bool n) ?_
  obtain rfl:=gJ c
  exact (zX (zF (meet ⟨(),(zJ rfl zK),H.pick []⟩)))
 rintro _ ρ Q H
 have c:=t
 refine yB (b:=l) rfl (fun j=>?_) (fun j=>?_)
 ·have c:=zU j c
  refine zB fun R C=>zA<| zI (i6 9)<| RN C ?_
  obtain rfl:=gJ c
  refine (zZ (yG (zW (fB (v1:=i6 9) rfl rfl ?_))))
  exact ⟨rfl,H.pick []⟩
 have c:=zV j c
 refine zB fun T D=>zA<| zH (i6 f)<| zH (i6 d) ?_
 obtain ⟨E,F,c⟩:=zD c
 refine zG (dH (a:=f) (b:=d) rfl rfl F) ?_
 obtain ⟨G,I,c⟩:=zD c
 refine zG (xM (a:=E) (b:=1) rfl rfl I) ?_
 obtain ⟨o,J,c⟩:=zD c
 refine zG (zM (eX (a:=G) (b:=20000) rfl rfl) J)<| zI (.bool o)<| RN D<| yB (b:=o) rfl (fun k=>?_) (fun k=>?_)
 ·have c:=zU k c
  refine zB fun U K=>zA<| zI (i6 3)<| RN K ?_
  obtain rfl:=gJ c
  refine (zZ (yG (zW (fB (v1:=i6 3) rfl rfl ?_))))
  exact ⟨rfl,H.pick []⟩
 have c:=zV k c
 refine (zQ (yX (zF (s _ _ ?_))))
 refine zB fun V L=>zA<| zI (i6 0)<| RN L ?_
 obtain rfl:=gJ c
 refine (zZ (fB (v1:=i6 0) rfl rfl ?_))
 exact ⟨rfl,H.pick []⟩
theorem Fagw (c:fA)(d:Int)(r:Int)(f:Fag c d=some r)(O S:List Nat)(w:World)(H:Hd O w w S []):
  Cl 174 [.agg [i6 c.At,i6 c.N,i6 c.Mark].toArray,i6 d] w fun e h=>e= .returned (i6 r)∧Hd O w h S []:=by
 unfold Fag at f
 refine CW 9 Tryz.func174 ?_
 refine zB fun l i=>zA<| yS rfl rfl (xZ (cs:=[i6 c.At,i6 c.N,i6 c.Mark]) rfl H) ?_
 rintro _ m ⟨n,rfl,H⟩
 refine zI (i6 0)<| RN i<| zB fun o j=>zA<| zG (kY rfl)<| Ld fK H 0 0 rfl rfl<| zH (i6 d) ?_
 obtain ⟨g,k,f⟩:=zD f
 refine zG (dH (a:=c.At) (b:=d) rfl rfl k)<| zI (i6 g)<| RN j ?_
 obtain rfl:=gJ f
 refine (zZ (fB (v1:=i6 g) rfl rfl ?_))
 exact ⟨rfl,H.pick []⟩
theorem Fb9w (n:List fA)(h:Int)(v1:Value)(r:Int×Bool)(c:Fb9 n h=some r)(O S:List Nat)(w:World)(H:Hd O w w S [f1 gX v1 n]):
  Cl 173 [v1,i6 h,.func (.func 174) #[] #[]] w fun e E=>e= .returned (.tuple #[i6 r.1,.bool r.2])∧Hd O w E S []:=by
 unfold Fb9 at c
 refine CW 49 Tryz.func173 ?_
 refine zB fun K3 F=>zA<| zI (i6 0)<| zI (.bool false)<| RN F<| zB fun K4 G=>zA<| zH v1 ?_
 obtain ⟨k,I,c⟩:=zD c
 obtain ⟨a7,c8,J⟩:=SlF.len ((H.item (i:=0) rfl))
 refine zG (yK (xK u37 J) (congrArg (Value.int .i64) I))<| zI (i6 k)<| RN G<| zB fun bc K=>zA<| zH (i6 k)<| zI (i6 0)<| zI (i6 k)<| RN K ?_
 obtain ⟨d,c,L⟩:=zC c
 refine yH [9,10,11,15,16,17,18,19,20,21,22,23,24,25,26,27,28,29,30,31,32,33,34] (fun (g:Unit)=>[(9,i6 d)]) (fun g wl=>Hd O w wl S [f1 gX v1 n]) ?_ ?_
 ·skip
  refine zY ?_
  unfold Fcc at c
  obtain ⟨M,z,P,c⟩:=yF c
  refine xA [9,10,11,15,16,17,18,19,20,21,22,23,24,25,26,27,28,29,30,31,32,33,34] (fun (g:Nat×Int×Int)=>[(9,i6 g.2.1),(10,i6 g.2.2)]) (fun g wl=>Hd O w wl S [f1 gX v1 n]∧fF M g.1 (g.2.1,g.2.2)=some d) (fun g=>g.1) (z,0,k) (zJ rfl (zJ rfl zK)) ⟨H.pick [0],c⟩ ?_
  clear H c
  rintro ⟨z,l,m⟩ ρ bd ⟨H,c⟩
  obtain ⟨A,rfl,c⟩:=yN c
  have c:=yO P c
  refine zB fun be Q=>?_
  refine zB fun bf R=>zA<| zH (i6 l)<| zH (i6 m) ?_
  obtain ⟨T,U,c⟩:=zD c
  refine zG (zM (xG (a:=l) (b:=m) rfl rfl) U)<| RN R<| yB (b:=T) rfl (fun s=>?_) (fun s=>?_)
  ·have c:=zU s c
   refine zQ (zF (Q _ _ ?_))
   refine zY ?_
   refine zB fun bg V=>zA<| zH (i6 l)<| zH (i6 m) ?_
   obtain ⟨bh,X,c⟩:=zD c
   refine zG (xM (a:=l) (b:=m) rfl rfl X) ?_
   obtain ⟨Y,Z,c⟩:=zD c
   refine zG (sQ u3 u142 rfl Z) ?_
   obtain ⟨bi,aa,c⟩:=zC c
   refine zG (aEb (j:=Y) (q:=1) rfl rfl aa) ?_
   obtain ⟨f,ab,c⟩:=zD c
   refine zG (sQ u142 u3 rfl ab)<| zI (i6 f)<| RN V<| zB fun bj ac=>zA<| zH (.func (.func 174) #[] #[])<| zH v1<| zH (i6 f) ?_
   obtain ⟨o,t,c⟩:=zC c
   obtain ⟨ad,ae,bk,bl,af,ag,ah,ai,aj⟩:=xY (H.item (i:=0) rfl) t
   obtain rfl:=fU ag
   have H:=H.fz (.at ad (ae+f.toNat * 3) _) ⟨ah,ai,aj⟩
   refine zG (yV u37 bD af rfl (zO t).1 (zO t).2.1 rfl rfl)<| zG (yK (yP (cs:=[i6 o.At,i6 o.N,i6 o.Mark]) kH rfl bD rfl (H.item (i:=1) rfl).2.2) rfl)<| zH (i6 h) ?_
   have ak:=H
   obtain ⟨al,am,c⟩:=zC c
   refine zS rfl rfl (aG en174 rfl rfl) (Fagw o h _ am _ _ _ (H.enter [] [])) ?_
   rintro _ bm ⟨rfl,an⟩
   have H:=ak.step (an.only:Only [] _ _)
   refine ⟨_,rfl,?_⟩
   obtain ⟨ao,ap,c⟩:=zD c
   refine zG (zM (xG (a:=al) (b:=0) rfl rfl) ap)<| RN ac<| yB (b:=ao) rfl (fun u=>?_) (fun u=>?_)
   ·have c:=zU u c
    refine zA ?_
    refine zH (i6 f) ?_
    obtain ⟨B,aq,c⟩:=zD c
    refine zG (xM (a:=f) (b:=1) rfl rfl aq)<| zI (i6 B) ?_
    exact (zX (yX (zF (meet ⟨(A,B,m),(zJ rfl (zJ rfl zK)),⟨H.pick [0],c⟩,Nat.lt_succ_self _⟩))))
   have c:=zV u c
   refine zA ?_
   refine zH (i6 f)<| zI (i6 f) ?_
   exact (zX (yX (zF (meet ⟨(A,l,f),(zJ rfl (zJ rfl zK)),⟨H.pick [0],c⟩,Nat.lt_succ_self _⟩))))
  have c:=zV s c
  obtain rfl:=gJ c
  exact (xE (yC (yC (yQ (zF (meet ⟨(),(zJ rfl zK),H.pick [0]⟩))))))
 rintro _ ρ bn H
 have c:=L
 obtain ⟨C,c,ar⟩:=zC c
 refine yH [6,7,35,36,37,38,39,40,41,42,43,44,45,46,47,48] (fun (g:Unit)=>[(6,i6 d),(7,.bool C)]) (fun g wl=>Hd O w wl S []) ?_ ?_
 ·skip
  refine zA ?_
  refine zH (i6 d)<| zH (i6 d)<| zH (i6 k) ?_
  obtain ⟨au,av,c⟩:=zD c
  refine zG (zM (xG (a:=d) (b:=k) rfl rfl) av)<| xI (b:=au) rfl rfl rfl (fun x=>?_) (fun x=>?_)
  ·have c:=zU x c
   refine zH (.func (.func 174) #[] #[])<| zH v1<| zH (i6 d) ?_
   obtain ⟨p,y,c⟩:=zC c
   obtain ⟨aw,ax,bo,bp,ay,az,a0,a1,a2⟩:=xY (H.item (i:=0) rfl) y
   obtain rfl:=fU az
   have H:=H.fz (.at aw (ax+d.toNat * 3) _) ⟨a0,a1,a2⟩
   refine zG (yV u37 bD ay rfl (zO y).1 (zO y).2.1 rfl rfl)<| zG (yK (yP (cs:=[i6 p.At,i6 p.N,i6 p.Mark]) kH rfl bD rfl (H.item (i:=1) rfl).2.2) rfl)<| zH (i6 h) ?_
   have a3:=H
   obtain ⟨a4,a5,c⟩:=zC c
   refine zS rfl rfl (aG en174 rfl rfl) (Fagw p h _ a5 _ _ _ (H.enter [] [])) ?_
   rintro _ bq ⟨rfl,a6⟩
   have H:=a3.step (a6.only:Only [] _ _)
   refine ⟨_,rfl,?_⟩
   obtain ⟨D,e283,c⟩:=zD c
   refine zG (zM (wC (a:=a4) (b:=0) rfl rfl) e283)<| zG (yL (v:= .bool D) rfl rfl)<| zI (i6 d)<| zI (.bool D) ?_
   obtain rfl:=gJ c
   exact (zX (zF (meet ⟨(),(zJ rfl (zJ rfl zK)),H.pick []⟩)))
  have c:=zV x c
  refine yT ?_
  refine yT ?_
  refine yT ?_
  refine yT ?_
  refine yT ?_
  refine yT ?_
  refine yT ?_
  refine yT ?_
  refine zG (yD (v:= .bool false) rfl rfl)<| zI (i6 d)<| zI (.bool false) ?_
  obtain rfl:=gJ c
  exact (zX (zF (meet ⟨(),(zJ rfl (zJ rfl zK)),H.pick []⟩)))
 rintro _ ρ br H
 have c:=ar
 obtain rfl:=gJ c
 refine (zZ (jB (v1:=i6 d) (v2:= .bool C) rfl rfl rfl ?_))
 exact ⟨rfl,H.pick []⟩
theorem Fbew (f:Series)(h:Int)(v1:Value)(r:Int)(c:Fbe f h=some r)(O S:List Nat)(w:World)(H:Hd O w w S [f1 gX v1 f.Samples]):
  Cl 157 [.agg [i6 f.Den,v1].toArray,i6 h] w fun e k=>e= .returned (i6 r)∧Hd O w k S []:=by
 unfold Fbe at c
 refine CW 18 Tryz.func157 ?_
 refine zB fun y l=>zA<| yS rfl rfl (xZ (cs:=[i6 f.Den,v1]) rfl H) ?_
 rintro _ z ⟨A,rfl,H⟩
 refine zI (i6 0)<| RN l<| zB fun B m=>zA<| zG (dX rfl)<| Ld aO H 1 1 rfl rfl<| zH (i6 h) ?_
 have n:=H
 obtain ⟨⟨d,g⟩,o,c⟩:=zC c
 refine zS rfl rfl (zN en173 rfl) (Fb9w f.Samples h v1 _ o _ _ _ (H.enter [] [0])) ?_
 rintro _ C ⟨rfl,p⟩
 have H:=n.step (p.only:Only [] _ _)
 refine ⟨_,rfl,?_⟩
 refine zH (.tuple #[i6 d,.bool g])<| zG (xC (v:=i6 d) rfl rfl)<| zG (xC (v:= .bool g) rfl rfl)<| zI (i6 d)<| zI (.bool g)<| RN m<| zB fun D q=>zB fun E s=>zA<| zH (.bool g)<| RN s<| yB (b:=g) rfl (fun i=>?_) (fun i=>?_)
 ·have c:=zU i c
  refine zB fun F t=>zA<| zH (i6 d)<| zI (i6 d)<| RN t ?_
  obtain rfl:=gJ c
  refine (zZ (zW (fB (v1:=i6 d) rfl rfl ?_)))
  exact ⟨rfl,H.pick []⟩
 have c:=zV i c
 refine zQ (zF (q _ _ ?_))
 refine zB fun G u=>zA<| zH (i6 d) ?_
 obtain ⟨j,x,c⟩:=zD c
 refine zG (dH (a:=d) (b:=1) rfl rfl x)<| zI (i6 j)<| RN u ?_
 obtain rfl:=gJ c
 refine (zZ (fB (v1:=i6 j) rfl rfl ?_))
 exact ⟨rfl,H.pick []⟩
theorem Fbzw (c:fA)(r:Bool)(d:Fbz c=some r)(O S:List Nat)(w:World)(H:Hd O w w S []):
  Cl 158 [.agg [i6 c.At,i6 c.N,i6 c.Mark].toArray] w fun e g=>e= .returned (.bool r)∧Hd O w g S []:=by
 unfold Fbz at d
 refine CW 6 Tryz.func158 ?_
 refine zB fun k h=>zA<| yS rfl rfl (xZ (cs:=[i6 c.At,i6 c.N,i6 c.Mark]) rfl H) ?_
 rintro _ l ⟨m,rfl,H⟩
 refine zI (.bool false)<| RN h<| zB fun n i=>zA<| zG (jW rfl)<| Ld fK H 0 2 rfl rfl ?_
 obtain ⟨f,j,d⟩:=zD d
 refine zG (zM (bG (a:=c.Mark) (b:=3) rfl rfl) j)<| zI (.bool f)<| RN i ?_
 obtain rfl:=gJ d
 refine (zZ (fB (v1:= .bool f) rfl rfl ?_))
 exact ⟨rfl,H.pick []⟩
theorem Fcjw (d:Series)(h:Int)(k:Int)(v1:Value)(r:fA×Bool)(c:Fcj d h k=some r)(O S:List Nat)(w:World)(H:Hd O w w S [f1 gX v1 d.Samples]):
  Cl 130 [.agg [i6 d.Den,v1].toArray,i6 h,i6 k] w fun e A=>e= .returned (.tuple #[.agg [i6 r.1.At,i6 r.1.N,i6 r.1.Mark].toArray,.bool r.2])∧Hd O w A S []:=by
 unfold Fcj at c
 refine CW 41 Tryz.func130 ?_
 refine zB fun K3 B=>zA<| yS rfl rfl (xZ (cs:=[i6 d.Den,v1]) rfl H) ?_
 rintro _ w6 ⟨u,rfl,H⟩
 refine yS rfl rfl (xB mD H) ?_
 rintro _ w9 ⟨x,rfl,H⟩
 refine zI (.bool false)<| RN B<| zB fun a3 C=>zA<| zG (yK (yP (cs:=[i6 d.Den,v1]) qA rfl wZ rfl (Hbc H 1 rfl)) rfl)<| zH (i6 h) ?_
 have D:=H
 obtain ⟨f,E,c⟩:=zC c
 refine zS rfl rfl (zN en157 rfl) (Fbew d h v1 _ E _ _ _ (H.enter [] [0])) ?_
 rintro _ a4 ⟨rfl,F⟩
 have H:=D.step (F.only:Only [] _ _)
 refine ⟨_,rfl,?_⟩
 refine zI (i6 f)<| RN C<| zB fun a5 G=>?_
 obtain ⟨y,c,I⟩:=zC c
 refine yH [12,13,14,15,16,17,18,19,20,21,22,23,24,25,26,27,28,29,30,31,32,33,34] (fun (g:Unit)=>[(34,.bool y)]) (fun g wl=>Hd O w wl S [f1 gX v1 d.Samples,.blk u [i6 d.Den,v1] 39,.blk x [i6 0,i6 0,i6 0] 46]) ?_ ?_
 ·skip
  refine zA ?_
  refine zH (i6 f) ?_
  obtain ⟨J,K,c⟩:=zD c
  refine zG (zM (xG (a:=f) (b:=0) rfl rfl) K) ?_
  obtain ⟨z,c,L⟩:=zC c
  refine eU 9 [14,15,16,17,18,19,20,21,22] [(22,.bool z)] (fun wl=>Hd O w wl S [f1 gX v1 d.Samples,.blk u [i6 d.Den,v1] 39,.blk x [i6 0,i6 0,i6 0] 46]) ?_ ?_
  ·skip
   refine xI (b:=J) rfl rfl rfl (fun m=>?_) (fun m=>?_)
   ·have c:=zU m c
    refine yT ?_
    refine yT ?_
    refine yT ?_
    refine yT ?_
    refine yT ?_
    refine yT ?_
    refine yT ?_
    refine zG (yL (v:= .bool true) rfl rfl) ?_
    obtain rfl:=gJ c
    exact zX (zF (meet ⟨(zJ rfl zK),H.pick [0,1,2]⟩))
   have c:=zV m c
   refine zG (dX rfl)<| Ld aO H 1 1 rfl rfl<| zH (i6 f) ?_
   obtain ⟨l,n,c⟩:=zC c
   obtain ⟨M,P,a6,a7,Q,R,T,U,V⟩:=xY (H.item (i:=0) rfl) n
   obtain rfl:=fU R
   have H:=H.fz (.at M (P+f.toNat * 3) _) ⟨T,U,V⟩
   refine zG (yV u37 bD Q rfl (zO n).1 (zO n).2.1 rfl rfl)<| zG (yK (yP (cs:=[i6 l.At,i6 l.N,i6 l.Mark]) kH rfl bD rfl (H.item (i:=3) rfl).2.2) rfl) ?_
   have X:=H
   obtain ⟨Y,Z,c⟩:=zC c
   refine zS rfl rfl (zN en158 rfl) (Fbzw l _ Z _ _ _ (H.enter [] [])) ?_
   rintro _ a8 ⟨rfl,aa⟩
   have H:=X.step (aa.only:Only [] _ _)
   refine ⟨_,rfl,?_⟩
   obtain ⟨ab,ac,c⟩:=zD c
   refine zG (zM (fV (p:=Y) rfl) ac)<| zG (yD (v:= .bool ab) rfl rfl) ?_
   obtain rfl:=gJ c
   exact zX (zF (meet ⟨(zJ rfl zK),H.pick [0,1,2]⟩))
  rintro ρ a9 H
  have c:=L
  refine xI (b:=z) rfl rfl rfl (fun o=>?_) (fun o=>?_)
  ·have c:=zU o c
   refine yT ?_
   refine yT ?_
   refine yT ?_
   refine yT ?_
   refine yT ?_
   refine yT ?_
   refine yT ?_
   refine yT ?_
   refine yT ?_
   refine yT ?_
   refine zG (yL (v:= .bool true) rfl rfl) ?_
   obtain rfl:=gJ c
   exact (zX (zF (meet ⟨(),(zJ rfl zK),H.pick [0,1,2]⟩)))
  have c:=zV o c
  refine zH (i6 h)<| zG (dX rfl)<| Ld aO H 1 1 rfl rfl<| zH (i6 f) ?_
  obtain ⟨ad,q,c⟩:=zC c
  obtain ⟨ae,af,ba,bb,ag,ah,ai,aj,ak⟩:=xY (H.item (i:=0) rfl) q
  obtain rfl:=fU ah
  have H:=H.fz (.at ae (af+f.toNat * 3) _) ⟨ai,aj,ak⟩
  refine zG (yV u37 bD ag rfl (zO q).1 (zO q).2.1 rfl rfl)<| zG (kY rfl)<| zG (yU fK rfl (Cells.get (H.item (i:=3) rfl).2.2 (i:=0) rfl)) ?_
  obtain ⟨al,am,c⟩:=zD c
  refine zG (dH (a:=h) (b:=ad.At) rfl rfl am)<| zH (i6 k) ?_
  obtain ⟨an,ao,c⟩:=zD c
  refine zG (zM (eX (a:=al) (b:=k) rfl rfl) ao)<| zG (yD (v:= .bool an) rfl rfl) ?_
  obtain rfl:=gJ c
  exact (zX (zF (meet ⟨(),(zJ rfl zK),H.pick [0,1,2]⟩)))
 rintro _ ρ bc H
 have c:=I
 refine yB (b:=y) rfl (fun s=>?_) (fun s=>?_)
 ·have c:=zU s c
  refine zB fun bd ap=>zA<| zG (xR (cs:=[i6 0,i6 0,i6 0]) bz46)<| yZ rfl (yM (vs:=[i6 0,i6 0,i6 0]) H 2 rfl bD rfl rfl rfl ⟨rfl,rfl,rfl,trivial⟩ rfl) ?_
  rintro be H
  refine zI (.bool false)<| RN ap ?_
  obtain rfl:=gJ c
  refine (zZ (zW (nY (v1:= .bool false) rfl rfl (yI kH bD rfl (Hbc H 2 rfl)) rfl ?_)))
  exact ⟨rfl,H.pick []⟩
 have c:=zV s c
 refine zQ (zF (G _ _ ?_))
 refine zB fun bf aq=>zA<| zG (dX rfl)<| Ld aO H 1 1 rfl rfl<| zH (i6 f) ?_
 obtain ⟨j,t,c⟩:=zC c
 obtain ⟨ar,au,bg,bh,av,aw,ax,ay,az⟩:=xY (H.item (i:=0) rfl) t
 obtain rfl:=fU aw
 have H:=H.fz (.at ar (au+f.toNat * 3) _) ⟨ax,ay,az⟩
 refine zG (yV u37 bD av rfl (zO t).1 (zO t).2.1 rfl rfl)<| zG (yK (yP (cs:=[i6 j.At,i6 j.N,i6 j.Mark]) kH rfl bD rfl (H.item (i:=3) rfl).2.2) rfl)<| yZ rfl (yM (vs:=[i6 j.At,i6 j.N,i6 j.Mark]) H 2 rfl bD rfl rfl rfl ⟨rfl,rfl,rfl,trivial⟩ rfl) ?_
 rintro bi H
 refine zI (.bool true)<| RN aq ?_
 obtain rfl:=gJ c
 refine (zZ (nY (v1:= .bool true) rfl rfl (yI kH bD rfl (Hbc H 2 rfl)) rfl ?_))
 exact ⟨rfl,H.pick []⟩
theorem Faqw (a:Series)(c:Int)(d:Int)(v1:Value)(r:fA×Bool)(f:Faq a c d=some r)(O S:List Nat)(w:World)(H:Hd O w w S [f1 gX v1 a.Samples]):
  Cl 93 [.agg [i6 a.Den,v1].toArray,i6 c,i6 d] w fun e h=>e= .returned (.tuple #[.agg [i6 r.1.At,i6 r.1.N,i6 r.1.Mark].toArray,.bool r.2])∧Hd O w h S []:=by
 unfold Faq at f
 refine CW 14 Tryz.func93 ?_
 refine zB fun n i=>zA<| yS rfl rfl (xZ (cs:=[i6 a.Den,v1]) rfl H) ?_
 rintro _ o ⟨p,rfl,H⟩
 refine yS rfl rfl (xB mD H) ?_
 rintro _ q ⟨s,rfl,H⟩
 refine zI (.bool false)<| RN i<| zB fun t j=>zA<| zG (yK (yP (cs:=[i6 a.Den,v1]) qA rfl wZ rfl (Hbc H 1 rfl)) rfl)<| zH (i6 c)<| zH (i6 d) ?_
 have k:=H
 obtain ⟨⟨b,g⟩,l,f⟩:=zC f
 refine zS rfl rfl (zN en130 rfl) (Fcjw a c d v1 _ l _ _ _ (H.enter [] [0])) ?_
 rintro _ u ⟨rfl,m⟩
 have H:=k.step (m.only:Only [] _ _)
 refine ⟨_,rfl,?_⟩
 refine zG (xC (v:= .agg [i6 b.At,i6 b.N,i6 b.Mark].toArray) rfl rfl)<| zG (xC (v:= .bool g) rfl rfl)<| yZ rfl (yM (vs:=[i6 b.At,i6 b.N,i6 b.Mark]) H 2 rfl bD rfl rfl rfl ⟨rfl,rfl,rfl,trivial⟩ rfl) ?_
 rintro x H
 refine zI (.bool g)<| RN j ?_
 obtain rfl:=gJ f
 refine (zZ (nY (v1:= .bool g) rfl rfl (yI kH bD rfl (Hbc H 2 rfl)) rfl ?_))
 exact ⟨rfl,H.pick []⟩
theorem Fbmw (m:List gV)(k:Int)(v1:Value)(r:(List fG))(c:Fbm m k=some r)(O S:List Nat)(w:World)(H:Hd O w w S [f1 fE v1 m]):
  Cl 64 [v1,i6 k] w fun e z=> ∃u3,e= .returned (u3)∧Hd O w z S [.own aW u3 51 r]:=by
 unfold Fbm at c
 refine CW 37 Tryz.func64 ?_
 refine zB fun K4 A=>zA<| zI (.slice none 0 0)<| RN A<| zB fun K5 B=>zA<| zI (.slice none 0 0)<| RN B ?_
 obtain ⟨q,c,C⟩:=zC c
 refine yH [5,7,8,9,10,11,12,13,14,15,16,17,18,19,20,21,22,23,24,25,26,27,28,29,30,31,32,33,34,35] (fun (g:Value)=>[(5,g)]) (fun g wl=>Hd O w wl S [.own aW g 51 q]) ?_ ?_
 ·skip
  refine zB fun aw D=>zA<| zH v1 ?_
  obtain ⟨E,F,c⟩:=zD c
  obtain ⟨ax,ay,G⟩:=SlF.len ((H.item (i:=0) rfl))
  refine zG (yK (xK u22 G) (congrArg (Value.int .i64) F))<| zH (i6 0)<| RN D<| zY ?_
  have H:=fQ H aW 51
  unfold Feb at c
  obtain ⟨I,s,J,c⟩:=yF c
  refine xA [5,7,8,9,12,13,14,15,16,17,18,19,20,21,22,23,24,25,26,27,28,29,30,31,32,33,34,35] (fun (g:Nat×(List fG)×Int×Value)=>[(5,g.2.2.2),(12,i6 g.2.2.1)]) (fun g wl=>Hd O w wl S [.own aW g.2.2.2 51 g.2.1,f1 fE v1 m]∧fF I g.1 (g.2.1,g.2.2.1)=some q) (fun g=>g.1) (s,[],0,.slice none 0 0) (zJ rfl (zJ rfl zK)) ⟨H.pick [1,0],c⟩ ?_
  clear H c
  rintro ⟨s,az,n,t⟩ ρ a0 ⟨H,c⟩
  obtain ⟨K,rfl,c⟩:=yN c
  have c:=yO J c
  refine zB fun a1 L=>zA ?_
  obtain ⟨M,P,c⟩:=zD c
  refine zG (zM (xG (a:=n) (b:=E) rfl rfl) P)<| RN L<| zB fun a2 Q=>yB (b:=M) rfl (fun o=>?_) (fun o=>?_)
  ·have c:=zU o c
   refine zQ (zF (Q _ _ ?_))
   refine zB fun a3 R=>?_
   refine zY ?_
   refine zB fun a4 T=>zA ?_
   obtain ⟨f,p,c⟩:=zC c
   obtain ⟨U,V,a5,a6,X,Y,Z,aa,ab⟩:=xY (H.item (i:=1) rfl) p
   obtain ⟨j,rfl,ac⟩:=xU Y
   have H:=H.fzs [.at U (V+n.toNat * 4) _,.sl gX j f.Series.Samples] ⟨⟨Z,aa,ab⟩,ac,trivial⟩
   refine zG (yV u22 eF X rfl (zO p).1 (zO p).2.1 rfl rfl)<| zG (yK (yP (cs:=[sb f.Name,i6 f.Series.Den,j,i6 f.Long]) bP rfl eF rfl (H.item (i:=2) rfl).2.2) rfl)<| yS rfl rfl (xB jI H) ?_
   rintro _ a7 ⟨a8,rfl,H⟩
   refine yZ rfl (yM (vs:=[sb f.Name,i6 f.Series.Den,j,i6 f.Long]) H 4 rfl eF rfl rfl rfl ⟨rfl,rfl,(dR (H.item (i:=3) rfl)),rfl,trivial⟩ rfl) ?_
   rintro a9 H
   refine RN T<| zB fun ba ad=>zA<| zG (aY rfl)<| zG (yK (yP (cs:=[i6 f.Series.Den,j]) qA rfl wZ rfl (Cells.drop (Hbc H 4 rfl) 1 2)) rfl)<| zH (i6 k) ?_
   obtain ⟨ae,af,c⟩:=zD c
   refine zG (aAa (a:=64) (b:=k) rfl rfl af) ?_
   obtain ⟨ag,ah,c⟩:=zD c
   refine zG (xM (a:=ae) (b:=64) rfl rfl ah) ?_
   obtain ⟨ai,aj,c⟩:=zD c
   refine zG (dH (a:=ag) (b:=1) rfl rfl aj)<| zG (uM rfl)<| Ld fK H 4 3 rfl rfl ?_
   have ak:=H
   obtain ⟨⟨d,h⟩,al,c⟩:=zC c
   refine zS rfl rfl (zN en93 rfl) (Faqw f.Series ai f.Long j _ al _ _ _ (H.enter [] [3])) ?_
   rintro _ bb ⟨rfl,am⟩
   have H:=ak.step (am.only:Only [] _ _)
   refine ⟨_,rfl,?_⟩
   refine zH (.tuple #[.agg [i6 d.At,i6 d.N,i6 d.Mark].toArray,.bool h])<| zG (xC (v:= .agg [i6 d.At,i6 d.N,i6 d.Mark].toArray) rfl rfl)<| zG (xC (v:= .bool h) rfl rfl)<| yS rfl rfl (xB mD H) ?_
   rintro _ bc ⟨bd,rfl,H⟩
   refine yZ rfl (yM (vs:=[i6 d.At,i6 d.N,i6 d.Mark]) H 5 rfl bD rfl rfl rfl ⟨rfl,rfl,rfl,trivial⟩ rfl) ?_
   rintro be H
   refine zI (.bool h)<| RN ad<| zA<| zH t<| zG (mQ rfl)<| Ld fK H 5 1 rfl rfl<| zH (.bool h)<| zG (xR (cs:=[i6 d.N,.bool h]) (aBu _ _)) ?_
   obtain ⟨bf,an,c⟩:=zD c
   subst an
   refine yS rfl rfl (kN (r:=aW) (xl:=[fG.mk d.N h]) (cs:=[i6 d.N,.bool h]) u47 el51 (by decide) (by decide) rfl (xW (vs:=[.agg [i6 d.N,.bool h].toArray]) (by decide) rfl rfl ⟨rfl,trivial⟩ rfl) H ⟨[i6 d.N,.bool h],[],rfl,(rToldT_mk (x:=fG.mk d.N h)),rfl⟩) ?_
   rintro bg bh H
   obtain ⟨ao,ap,c⟩:=zC c
   refine yS rfl rfl (aU H (i:=0) rfl u47 el51 rfl rfl (Sr.of_own (H.item (i:=6) rfl)) ap) ?_
   rintro u bi H
   refine zI u<| (zX (yX (zF (R _ _ ?_))))
   refine zA ?_
   obtain ⟨y,aq,c⟩:=zD c
   refine zG (xM (a:=n) (b:=1) rfl rfl aq)<| zH (i6 y) ?_
   exact (zX (zF (meet ⟨(K,ao,y,u),(zJ rfl (zJ rfl zK)),⟨H.pick [0,1],c⟩,Nat.lt_succ_self _⟩)))
  have c:=zV o c
  obtain rfl:=gJ c
  exact (xE (yC (yC (yQ (zF (meet ⟨t,(zJ rfl zK),H.pick [0]⟩))))))
 rintro l ρ bj H
 have c:=C
 refine zB fun bk ar=>zA<| zH l<| zI l<| RN ar ?_
 obtain rfl:=gJ c
 refine (zZ (fB (v1:=l) rfl rfl ?_))
 exact ⟨l,rfl,H.pick [0]⟩
theorem Fciw (c:List gV)(a:Int)(v1:Value)(r:(List fG))(b:Fci c a=some r)(O S:List Nat)(w:World)(H:Hd O w w S [f1 fE v1 c]):
  Cl 35 [v1,i6 a] w fun e f=> ∃u3,e= .returned (u3)∧Hd O w f S [.own aW u3 51 r]:=by
 unfold Fci at b
 refine CW 8 Tryz.func35 ?_
 refine zB fun k g=>zA<| zI (.slice none 0 0)<| RN g<| zB fun l h=>zA<| zH v1<| zH (i6 a) ?_
 obtain ⟨m,i,b⟩:=zC b
 refine zS rfl rfl (zN en64 rfl) (Fbmw c a v1 _ i _ _ _ (H.enter [] [0])) ?_
 rintro _ n ⟨d,rfl,j⟩
 have H:=H.back1 [0] rfl j
 refine ⟨_,rfl,?_⟩
 refine zI d<| RN h ?_
 obtain rfl:=gJ b
 refine (zZ (fB (v1:=d) rfl rfl ?_))
 exact ⟨d,rfl,H.pick [1]⟩
end Go.Proofs.YtgmikmoapfmedaaGreatDoor.L
