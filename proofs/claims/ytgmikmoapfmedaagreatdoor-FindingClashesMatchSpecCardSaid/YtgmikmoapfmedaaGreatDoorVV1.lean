/- Walks: what each function computes, for every argument; no condition but those that stand in the statements. -/
import Derived.Test.YtgmikmoapfmedaaGreatDoorVV0
namespace Go.Proofs.YtgmikmoapfmedaaGreatDoor.L
open Go.RowKit Go.OB Go.Lf
set_option maxHeartbeats 4000000
theorem Fbcw (j:List gW)(p1c0:Str)(v1:Value)(f:Nat)(r:Int)(c:Fbc j p1c0=some r)(O S:List Nat)(w:World)(H:Hd O w w S [.blk f [sb p1c0] 9,f1 fH v1 j]):
  Cl 46 [v1,.func (.func 47) #[] #[fA f]] w fun e q=>e= .returned (i6 r)∧Hd O w q S [.blk f [sb p1c0] 9]:=by
 unfold Fbc at c
 refine CW 19 Tryz.func46 ?_
 refine zB fun K5 s=>zA<| zI (i6 0)<| RN s ?_
 obtain ⟨t,u,c⟩:=xM c
 refine yL [4,5,6,7,8,9,10,11,12,13,14,15,16,17,18] (fun (g:Unit)=>[]) (fun g wl=>Hd O w wl S [.blk f [sb p1c0] 9]∧t ()=some r) ?_ ?_
 ·skip
  refine zB fun ad v=>zA<| zH v1 ?_
  obtain ⟨x,y,c⟩:=zC c
  obtain ⟨ae,af,z⟩:=SlF.len ((H.item (i:=1) rfl))
  refine zF (yK (xI u22 z) (congrArg (Value.int .i64) y))<| zH (i6 0)<| RN v<| yA ?_
  unfold Fc8 at c
  obtain ⟨A,o,B,c⟩:=yM c
  refine xA [4,5,8,9,10,11,12,13,14,15,16,17,18] (fun (g:Nat×Int)=>[(8,i6 g.2)]) (fun g wl=>Hd O w wl S [.blk f [sb p1c0] 9,f1 fH v1 j]∧fJ A g.1 g.2=some r) (fun g=>g.1) (o,0) (zJ rfl zK) ⟨H.pick [0,1],c⟩ ?_
  clear H c
  rintro ⟨o,d⟩ ρ ag ⟨H,c⟩
  obtain ⟨C,rfl,c⟩:=yS c
  have c:=yT B c
  refine zB fun ah D=>zA ?_
  obtain ⟨E,F,c⟩:=zC c
  refine zF (zL (xC (a:=d) (b:=x) rfl rfl) F)<| RN D<| zB fun ai G=>yB (b:=E) rfl (fun k=>?_) (fun k=>?_)
  ·have c:=zT k c
   refine zS (zG (G _ _ ?_))
   refine zB fun aj I=>?_
   refine yA ?_
   refine zB fun ak J=>zA<| zH (i6 d)<| zI (i6 d)<| RN J<| zB fun al K=>zA<| zH (.func (.func 47) #[] #[fA f])<| zH v1<| zH (i6 d) ?_
   obtain ⟨h,l,c⟩:=zD c
   obtain ⟨L,M,am,an,N,P,Q,R,T⟩:=fQ (H.item (i:=1) rfl) l
   obtain ⟨m,rfl,U⟩:=fZ P
   have H:=H.fzs [.at L (M+d.toNat * 4) _,.sl gY m h.Series.Samples] ⟨⟨Q,R,T⟩,U,trivial⟩
   refine zF (xG u22 bQ N rfl (zZ l).1 (zZ l).2.1 rfl rfl)<| zF (yK (yH (cs:=[sb h.Name,i6 h.Series.Den,m,i6 h.Long]) mP rfl bQ rfl (H.item (i:=2) rfl).2.2) rfl) ?_
   obtain ⟨V,X,c⟩:=zD c
   refine zO rfl rfl (bY en47 rfl rfl) (Fcmw h p1c0 m f _ X _ _ _ (H.enter [0] [3])) ?_
   rintro _ ao ⟨rfl,Y⟩
   have H:Hd _ _ _ _ [_,_,_,_]:=H.back [0] [3] rfl Y
   refine ⟨_,rfl,?_⟩
   refine RN K<| yB (b:=V) rfl (fun n=>?_) (fun n=>?_)
   ·have c:=zT n c
    refine zB fun ap Z=>zA<| zH (i6 d)<| zI (i6 d)<| RN Z ?_
    obtain rfl:=gI c
    refine (zW (yJ (zV (zV (yJ (zV (gZ (v1:=i6 d) rfl rfl ?_)))))))
    exact ⟨rfl,H.pick [3]⟩
   have c:=zU n c
   refine (zS (yV (zG (I _ _ ?_))))
   refine zA ?_
   obtain ⟨p,aa,c⟩:=zC c
   refine zF (xN (a:=d) (b:=1) rfl rfl aa)<| zH (i6 p) ?_
   exact (zQ (zG (meet ⟨(C,p),(zJ rfl zK),⟨H.pick [3,0],c⟩,Nat.lt_succ_self _⟩)))
  have c:=zU k c
  exact (xH (yI (yI (yU (zG (meet ⟨(),zK,⟨H.pick [0],c⟩⟩))))))
 rintro _ ρ aq ⟨H,c⟩
 have c:=xR u c
 refine zB fun ar ab=>zA<| zI (i6 (-1))<| RN ab ?_
 obtain rfl:=gI c
 refine (zW (gZ (v1:=i6 (-1)) rfl rfl ?_))
 exact ⟨rfl,H.pick [0]⟩
theorem Fakw (b:List gW)(c:Str)(v1:Value)(r:Int)(a:Fak b c=some r)(O S:List Nat)(w:World)(H:Hd O w w S [f1 fH v1 b]):
  Cl 20 [v1,sb c] w fun e f=>e= .returned (i6 r)∧Hd O w f S []:=by
 unfold Fak at a
 refine CW 8 Tryz.func20 ?_
 refine zB fun l g=>zA<| yQ rfl rfl (jA rfl rfl H) ?_
 rintro _ m ⟨h,rfl,H⟩
 refine zI (i6 0)<| RN g<| zB fun n i=>zA<| zH v1<| zF (dC rfl) ?_
 obtain ⟨d,j,a⟩:=zD a
 refine zO rfl rfl (zM en46 rfl) (Fbcw b c v1 h _ j _ _ _ (H.enter [1] [0])) ?_
 rintro _ o ⟨rfl,k⟩
 have H:Hd _ _ _ _ [_,_]:=H.back [1] [0] rfl k
 refine ⟨_,rfl,?_⟩
 refine zI (i6 d)<| RN i ?_
 obtain rfl:=gI a
 refine (zW (gZ (v1:=i6 d) rfl rfl ?_))
 exact ⟨rfl,H.pick []⟩
theorem Fa1w (d:Int)(f:Int)(h:Int)(r:Bool)(c:Fa1 d f h=some r)(O S:List Nat)(w:World)(H:Hd O w w S []):
  Cl 33 [i6 d,i6 f,i6 h] w fun e l=>e= .returned (.bool r)∧Hd O w l S []:=by
 unfold Fa1 at c
 refine CW 15 Tryz.func33 ?_
 refine zB fun s m=>zA<| zI (.bool false)<| RN m ?_
 obtain ⟨j,c,n⟩:=zD c
 refine yL [6,7,8,9,10,11,12,13,14] (fun (g:Unit)=>[(6,.bool j)]) (fun g wl=>Hd O w wl S []) ?_ ?_
 ·skip
  refine zA ?_
  refine zH (i6 d)<| zH (i6 f) ?_
  obtain ⟨o,p,c⟩:=zC c
  refine zF (zL (bK (a:=d) (b:=f) rfl rfl) p)<| yR (b:=o) rfl rfl rfl (fun i=>?_) (fun i=>?_)
  ·have c:=zT i c
   refine zH (i6 d)<| zH (i6 h) ?_
   obtain ⟨k,q,c⟩:=zC c
   refine zF (zL (aB (a:=d) (b:=h) rfl rfl) q)<| zF (yD (v:= .bool k) rfl rfl)<| zI (.bool k) ?_
   obtain rfl:=gI c
   exact (zQ (zG (meet ⟨(),(zJ rfl zK),H.pick []⟩)))
  have c:=zU i c
  refine yC ?_
  refine yC ?_
  refine yC ?_
  refine zF (zY (v:= .bool false) rfl rfl)<| zI (.bool false) ?_
  obtain rfl:=gI c
  exact (zQ (zG (meet ⟨(),(zJ rfl zK),H.pick []⟩)))
 rintro _ ρ t H
 have c:=n
 obtain rfl:=gI c
 refine (zW (gZ (v1:= .bool j) rfl rfl ?_))
 exact ⟨rfl,H.pick []⟩
set_option maxRecDepth 100000 in
theorem Fbrw (f:List gW)(j:List Twins)(v1:Value)(h:Value)(r:Int)(c:Fbr f j=some r)(O S:List Nat)(w:World)(H:Hd O w w S [f1 fH v1 f,f1 dD h j]):
  Cl 18 [v1,h] w fun e C=>e= .returned (i6 r)∧Hd O w C S []:=by
 unfold Fbr at c
 refine CW 35 Tryz.func18 ?_
 refine zB fun K5 D=>zA<| zI (i6 0)<| RN D<| zB fun bc E=>zB fun bd F=>zA<| zH h ?_
 obtain ⟨G,I,c⟩:=zC c
 obtain ⟨be,bf,J⟩:=SlF.len ((H.item (i:=1) rfl))
 refine zF (yK (xI u23 J) (congrArg (Value.int .i64) I)) ?_
 obtain ⟨K,L,c⟩:=zC c
 refine zF (zL (eQ (a:=G) (b:=30) rfl rfl) L)<| RN F<| yB (b:=K) rfl (fun k=>?_) (fun k=>?_)
 ·have c:=zT k c
  refine zB fun bg M=>zA<| zI (i6 3)<| RN M ?_
  obtain rfl:=gI c
  refine (zW (zV (gZ (v1:=i6 3) rfl rfl ?_)))
  exact ⟨rfl,H.pick []⟩
 have c:=zU k c
 refine zS (zG (E _ _ ?_))
 obtain ⟨N,P,c⟩:=xM c
 refine yL [4,6,10,11,12,13,14,15,16,17,18,19,20,21,22,23,24,25,26,27,28,29,30,31,32,33,34] (fun (g:Unit)=>[]) (fun g wl=>Hd O w wl S []∧N ()=some r) ?_ ?_
 ·skip
  refine zB fun bh Q=>zA<| zH h ?_
  obtain ⟨R,T,c⟩:=zC c
  obtain ⟨bi,bj,U⟩:=SlF.len ((H.item (i:=1) rfl))
  refine zF (yK (xI u23 U) (congrArg (Value.int .i64) T))<| zH (i6 0)<| RN Q<| yA ?_
  unfold Fd7 at c
  obtain ⟨V,t,X,c⟩:=yM c
  refine xA [4,6,12,13,14,15,16,17,18,19,20,21,22,23,24,25,26,27,28,29,30,31,32,33,34] (fun (g:Nat×Int)=>[(12,i6 g.2)]) (fun g wl=>Hd O w wl S [f1 fH v1 f,f1 dD h j]∧fJ V g.1 g.2=some r) (fun g=>g.1) (t,0) (zJ rfl zK) ⟨H.pick [0,1],c⟩ ?_
  clear H c
  rintro ⟨t,l⟩ ρ bk ⟨H,c⟩
  obtain ⟨Y,rfl,c⟩:=yS c
  have c:=yT X c
  refine zB fun bl Z=>zA ?_
  obtain ⟨aa,ab,c⟩:=zC c
  refine zF (zL (xC (a:=l) (b:=R) rfl rfl) ab)<| RN Z<| zB fun bm ac=>yB (b:=aa) rfl (fun m=>?_) (fun m=>?_)
  ·have c:=zT m c
   refine zS (zG (ac _ _ ?_))
   refine zB fun bn ad=>?_
   refine yA ?_
   refine zB fun bo ae=>zA ?_
   obtain ⟨d,n,c⟩:=zD c
   obtain ⟨af,ag,bp,bq,ah,ai,aj,ak,al⟩:=fQ (H.item (i:=1) rfl) n
   obtain rfl:=dZ ai
   have H:=H.fz (.at af (ag+l.toNat * 3) _) ⟨aj,ak,al⟩
   refine zF (xG u23 sN ah rfl (zZ n).1 (zZ n).2.1 rfl rfl)<| zF (yK (yH (cs:=[sb d.A,sb d.B,i6 d.Most]) agg60 rfl sN rfl (H.item (i:=2) rfl).2.2) rfl)<| yQ rfl rfl (xB zero60 H) ?_
   rintro _ br ⟨am,rfl,H⟩
   refine yZ rfl (yN (vs:=[sb d.A,sb d.B,i6 d.Most]) H 3 rfl sN rfl rfl rfl ⟨rfl,rfl,rfl,trivial⟩ rfl) ?_
   rintro bt H
   refine RN ae<| yA ?_
   obtain ⟨u,c,an⟩:=zD c
   refine yL [16,17,18,19,20,21,22,23,24,25,26,27,28] (fun (g:Unit)=>[(16,.bool u)]) (fun g wl=>Hd O w wl S [f1 fH v1 f,f1 dD h j,.blk am [sb d.A,sb d.B,i6 d.Most] 60]) ?_ ?_
   ·skip
    refine zA ?_
    refine zH v1<| zF (wW rfl)<| Ld dW H 3 0 rfl rfl ?_
    have ao:=H
    obtain ⟨ap,aq,c⟩:=zD c
    refine zO rfl rfl (zM en20 rfl) (Fakw f d.A v1 _ aq _ _ _ (H.enter [] [0])) ?_
    rintro _ bu ⟨rfl,ar⟩
    have H:=ao.step (ar.only:Only [] _ _)
    refine ⟨_,rfl,?_⟩
    obtain ⟨au,av,c⟩:=zC c
    refine zF (zL (xC (a:=ap) (b:=0) rfl rfl) av)<| yR (b:=au) rfl rfl rfl (fun o=>?_) (fun o=>?_)
    ·have c:=zT o c
     refine yC ?_
     refine yC ?_
     refine yC ?_
     refine yC ?_
     refine yC ?_
     refine zF (yD (v:= .bool true) rfl rfl)<| zI (.bool true) ?_
     obtain rfl:=gI c
     exact (zQ (zG (meet ⟨(),(zJ rfl zK),H.pick [0,1,3]⟩)))
    have c:=zU o c
    refine zH v1<| zF (aAm rfl)<| Ld dW H 3 1 rfl rfl ?_
    have aw:=H
    obtain ⟨ax,ay,c⟩:=zD c
    refine zO rfl rfl (zM en20 rfl) (Fakw f d.B v1 _ ay _ _ _ (H.enter [] [0])) ?_
    rintro _ bv ⟨rfl,az⟩
    have H:=aw.step (az.only:Only [] _ _)
    refine ⟨_,rfl,?_⟩
    obtain ⟨x,a0,c⟩:=zC c
    refine zF (zL (xC (a:=ax) (b:=0) rfl rfl) a0)<| zF (zY (v:= .bool x) rfl rfl)<| zI (.bool x) ?_
    obtain rfl:=gI c
    exact (zQ (zG (meet ⟨(),(zJ rfl zK),H.pick [0,1,3]⟩)))
   rintro _ ρ bw H
   have c:=an
   refine yB (b:=u) rfl (fun q=>?_) (fun q=>?_)
   ·have c:=zT q c
    refine zB fun bx a1=>zA<| zI (i6 4)<| RN a1 ?_
    obtain rfl:=gI c
    refine (zW (yJ (yJ (zV (zV (yJ (zV (gZ (v1:=i6 4) rfl rfl ?_))))))))
    exact ⟨rfl,H.pick []⟩
   have c:=zU q c
   refine zB fun bz a2=>zA<| zF (aAj rfl)<| Ld fK H 2 2 rfl rfl ?_
   have a3:=H
   obtain ⟨a4,a5,c⟩:=zD c
   refine zO rfl rfl (zM en33 rfl) (Fa1w d.Most 0 1125899906842624 _ a5 _ _ _ (H.enter [] [])) ?_
   rintro _ b0 ⟨rfl,a6⟩
   have H:=a3.step (a6.only:Only [] _ _)
   refine ⟨_,rfl,?_⟩
   obtain ⟨y,a7,c⟩:=zC c
   refine zF (zL (xX (p:=a4) rfl) a7)<| zI (.bool y)<| RN a2<| yB (b:=y) rfl (fun s=>?_) (fun s=>?_)
   ·have c:=zT s c
    refine zB fun b1 a8=>zA<| zI (i6 9)<| RN a8 ?_
    obtain rfl:=gI c
    refine (zW (yJ (yJ (zV (zV (yJ (zV (gZ (v1:=i6 9) rfl rfl ?_))))))))
    exact ⟨rfl,H.pick []⟩
   have c:=zU s c
   refine (zS (yV (yV (zG (ad _ _ ?_)))))
   refine zA ?_
   obtain ⟨z,a9,c⟩:=zC c
   refine zF (xN (a:=l) (b:=1) rfl rfl a9)<| zH (i6 z) ?_
   exact (zQ (zG (meet ⟨(Y,z),(zJ rfl zK),⟨H.pick [0,1],c⟩,Nat.lt_succ_self _⟩)))
  have c:=zU m c
  exact (xH (yI (yI (yU (zG (meet ⟨(),zK,⟨H.pick [],c⟩⟩))))))
 rintro _ ρ b2 ⟨H,c⟩
 have c:=xR P c
 refine zB fun b3 ba=>zA<| zI (i6 0)<| RN ba ?_
 obtain rfl:=gI c
 refine (zW (gZ (v1:=i6 0) rfl rfl ?_))
 exact ⟨rfl,H.pick []⟩
theorem Fbqw (d:Int)(f:Int)(r:Int)(c:Fbq d f=some r)(O S:List Nat)(w:World)(H:Hd O w w S []):
  Cl 19 [i6 d,i6 f] w fun e p=>e= .returned (i6 r)∧Hd O w p S []:=by
 unfold Fbq at c
 refine CW 23 Tryz.func19 ?_
 refine zB fun M q=>zA<| zI (i6 0)<| RN q<| zB fun N s=>yA ?_
 obtain ⟨l,c,t⟩:=zD c
 refine yL [5,6,7,8,9,10,11,12,13,14,15,16] (fun (g:Unit)=>[(5,.bool l)]) (fun g wl=>Hd O w wl S []) ?_ ?_
 ·skip
  refine zA ?_
  refine zH (i6 d) ?_
  obtain ⟨u,x,c⟩:=zC c
  refine zF (zL (xC (a:=d) (b:=0) rfl rfl) x) ?_
  obtain ⟨m,c,y⟩:=zD c
  refine eF 5 [8,9,10,11,12] [(12,.bool m)] (fun wl=>Hd O w wl S []) ?_ ?_
  ·skip
   refine yR (b:=u) rfl rfl rfl (fun h=>?_) (fun h=>?_)
   ·have c:=zT h c
    refine yC ?_
    refine yC ?_
    refine yC ?_
    refine zF (yD (v:= .bool true) rfl rfl) ?_
    obtain rfl:=gI c
    exact zQ (zG (meet ⟨(zJ rfl zK),H.pick []⟩))
   have c:=zU h c
   refine zH (i6 d)<| zH (i6 f) ?_
   obtain ⟨z,A,c⟩:=zC c
   refine zF (zL (eQ (a:=d) (b:=f) rfl rfl) A)<| zF (zY (v:= .bool z) rfl rfl) ?_
   obtain rfl:=gI c
   exact zQ (zG (meet ⟨(zJ rfl zK),H.pick []⟩))
  rintro ρ P H
  have c:=y
  refine yR (b:=m) rfl rfl rfl (fun i=>?_) (fun i=>?_)
  ·have c:=zT i c
   refine yC ?_
   refine yC ?_
   refine zF (yD (v:= .bool true) rfl rfl)<| zI (.bool true) ?_
   obtain rfl:=gI c
   exact (zQ (zG (meet ⟨(),(zJ rfl zK),H.pick []⟩)))
  have c:=zU i c
  refine zH (i6 f) ?_
  obtain ⟨n,B,c⟩:=zC c
  refine zF (zL (bK (a:=f) (b:=4194304) rfl rfl) B)<| zF (zY (v:= .bool n) rfl rfl)<| zI (.bool n) ?_
  obtain rfl:=gI c
  exact (zQ (zG (meet ⟨(),(zJ rfl zK),H.pick []⟩)))
 rintro _ ρ Q H
 have c:=t
 refine yB (b:=l) rfl (fun j=>?_) (fun j=>?_)
 ·have c:=zT j c
  refine zB fun R C=>zA<| zI (i6 9)<| RN C ?_
  obtain rfl:=gI c
  refine (zW (yJ (zV (gZ (v1:=i6 9) rfl rfl ?_))))
  exact ⟨rfl,H.pick []⟩
 have c:=zU j c
 refine zB fun T D=>zA<| zH (i6 f)<| zH (i6 d) ?_
 obtain ⟨E,F,c⟩:=zC c
 refine zF (bI (a:=f) (b:=d) rfl rfl F) ?_
 obtain ⟨G,I,c⟩:=zC c
 refine zF (xN (a:=E) (b:=1) rfl rfl I) ?_
 obtain ⟨o,J,c⟩:=zC c
 refine zF (zL (eQ (a:=G) (b:=20000) rfl rfl) J)<| zI (.bool o)<| RN D<| yB (b:=o) rfl (fun k=>?_) (fun k=>?_)
 ·have c:=zT k c
  refine zB fun U K=>zA<| zI (i6 3)<| RN K ?_
  obtain rfl:=gI c
  refine (zW (yJ (zV (gZ (v1:=i6 3) rfl rfl ?_))))
  exact ⟨rfl,H.pick []⟩
 have c:=zU k c
 refine (zS (yV (zG (s _ _ ?_))))
 refine zB fun V L=>zA<| zI (i6 0)<| RN L ?_
 obtain rfl:=gI c
 refine (zW (gZ (v1:=i6 0) rfl rfl ?_))
 exact ⟨rfl,H.pick []⟩
theorem Fajw (c:fF)(d:Int)(r:Int)(f:Faj c d=some r)(O S:List Nat)(w:World)(H:Hd O w w S []):
  Cl 174 [.agg [i6 c.At,i6 c.N,i6 c.Mark].toArray,i6 d] w fun e h=>e= .returned (i6 r)∧Hd O w h S []:=by
 unfold Faj at f
 refine CW 9 Tryz.func174 ?_
 refine zB fun l i=>zA<| yQ rfl rfl (xQ (cs:=[i6 c.At,i6 c.N,i6 c.Mark]) rfl H) ?_
 rintro _ m ⟨n,rfl,H⟩
 refine zI (i6 0)<| RN i<| zB fun o j=>zA<| zF (jB rfl)<| Ld fK H 0 0 rfl rfl<| zH (i6 d) ?_
 obtain ⟨g,k,f⟩:=zC f
 refine zF (bI (a:=c.At) (b:=d) rfl rfl k)<| zI (i6 g)<| RN j ?_
 obtain rfl:=gI f
 refine (zW (gZ (v1:=i6 g) rfl rfl ?_))
 exact ⟨rfl,H.pick []⟩
theorem Fb1w (n:List fF)(h:Int)(v1:Value)(r:Int×Bool)(c:Fb1 n h=some r)(O S:List Nat)(w:World)(H:Hd O w w S [f1 gY v1 n]):
  Cl 173 [v1,i6 h,.func (.func 174) #[] #[]] w fun e E=>e= .returned (.tuple #[i6 r.1,.bool r.2])∧Hd O w E S []:=by
 unfold Fb1 at c
 refine CW 49 Tryz.func173 ?_
 refine zB fun K3 F=>zA<| zI (i6 0)<| zI (.bool false)<| RN F<| zB fun K4 G=>zA<| zH v1 ?_
 obtain ⟨k,I,c⟩:=zC c
 obtain ⟨a7,c8,J⟩:=SlF.len ((H.item (i:=0) rfl))
 refine zF (yK (xI u37 J) (congrArg (Value.int .i64) I))<| zI (i6 k)<| RN G<| zB fun bc K=>zA<| zH (i6 k)<| zI (i6 0)<| zI (i6 k)<| RN K ?_
 obtain ⟨d,c,L⟩:=zD c
 refine yL [9,10,11,15,16,17,18,19,20,21,22,23,24,25,26,27,28,29,30,31,32,33,34] (fun (g:Unit)=>[(9,i6 d)]) (fun g wl=>Hd O w wl S [f1 gY v1 n]) ?_ ?_
 ·skip
  refine yA ?_
  unfold Fb2 at c
  obtain ⟨M,z,P,c⟩:=yM c
  refine xA [9,10,11,15,16,17,18,19,20,21,22,23,24,25,26,27,28,29,30,31,32,33,34] (fun (g:Nat×Int×Int)=>[(9,i6 g.2.1),(10,i6 g.2.2)]) (fun g wl=>Hd O w wl S [f1 gY v1 n]∧fJ M g.1 (g.2.1,g.2.2)=some d) (fun g=>g.1) (z,0,k) (zJ rfl (zJ rfl zK)) ⟨H.pick [0],c⟩ ?_
  clear H c
  rintro ⟨z,l,m⟩ ρ bd ⟨H,c⟩
  obtain ⟨A,rfl,c⟩:=yS c
  have c:=yT P c
  refine zB fun be Q=>?_
  refine zB fun bf R=>zA<| zH (i6 l)<| zH (i6 m) ?_
  obtain ⟨T,U,c⟩:=zC c
  refine zF (zL (xC (a:=l) (b:=m) rfl rfl) U)<| RN R<| yB (b:=T) rfl (fun s=>?_) (fun s=>?_)
  ·have c:=zT s c
   refine zS (zG (Q _ _ ?_))
   refine yA ?_
   refine zB fun bg V=>zA<| zH (i6 l)<| zH (i6 m) ?_
   obtain ⟨bh,X,c⟩:=zC c
   refine zF (xN (a:=l) (b:=m) rfl rfl X) ?_
   obtain ⟨Y,Z,c⟩:=zC c
   refine zF (aW u3 u142 rfl Z) ?_
   obtain ⟨bi,aa,c⟩:=zD c
   refine zF (mG (j:=Y) (q:=1) rfl rfl aa) ?_
   obtain ⟨f,ab,c⟩:=zC c
   refine zF (aW u142 u3 rfl ab)<| zI (i6 f)<| RN V<| zB fun bj ac=>zA<| zH (.func (.func 174) #[] #[])<| zH v1<| zH (i6 f) ?_
   obtain ⟨o,t,c⟩:=zD c
   obtain ⟨ad,ae,bk,bl,af,ag,ah,ai,aj⟩:=fQ (H.item (i:=0) rfl) t
   obtain rfl:=eG ag
   have H:=H.fz (.at ad (ae+f.toNat * 3) _) ⟨ah,ai,aj⟩
   refine zF (xG u37 bF af rfl (zZ t).1 (zZ t).2.1 rfl rfl)<| zF (yK (yH (cs:=[i6 o.At,i6 o.N,i6 o.Mark]) kW rfl bF rfl (H.item (i:=1) rfl).2.2) rfl)<| zH (i6 h) ?_
   have ak:=H
   obtain ⟨al,am,c⟩:=zD c
   refine zO rfl rfl (bY en174 rfl rfl) (Fajw o h _ am _ _ _ (H.enter [] [])) ?_
   rintro _ bm ⟨rfl,an⟩
   have H:=ak.step (an.only:Only [] _ _)
   refine ⟨_,rfl,?_⟩
   obtain ⟨ao,ap,c⟩:=zC c
   refine zF (zL (xC (a:=al) (b:=0) rfl rfl) ap)<| RN ac<| yB (b:=ao) rfl (fun u=>?_) (fun u=>?_)
   ·have c:=zT u c
    refine zA ?_
    refine zH (i6 f) ?_
    obtain ⟨B,aq,c⟩:=zC c
    refine zF (xN (a:=f) (b:=1) rfl rfl aq)<| zI (i6 B) ?_
    exact (zQ (yV (zG (meet ⟨(A,B,m),(zJ rfl (zJ rfl zK)),⟨H.pick [0],c⟩,Nat.lt_succ_self _⟩))))
   have c:=zU u c
   refine zA ?_
   refine zH (i6 f)<| zI (i6 f) ?_
   exact (zQ (yV (zG (meet ⟨(A,l,f),(zJ rfl (zJ rfl zK)),⟨H.pick [0],c⟩,Nat.lt_succ_self _⟩))))
  have c:=zU s c
  obtain rfl:=gI c
  exact (xH (yI (yI (yU (zG (meet ⟨(),(zJ rfl zK),H.pick [0]⟩))))))
 rintro _ ρ bn H
 have c:=L
 obtain ⟨C,c,ar⟩:=zD c
 refine yL [6,7,35,36,37,38,39,40,41,42,43,44,45,46,47,48] (fun (g:Unit)=>[(6,i6 d),(7,.bool C)]) (fun g wl=>Hd O w wl S []) ?_ ?_
 ·skip
  refine zA ?_
  refine zH (i6 d)<| zH (i6 d)<| zH (i6 k) ?_
  obtain ⟨au,av,c⟩:=zC c
  refine zF (zL (xC (a:=d) (b:=k) rfl rfl) av)<| yR (b:=au) rfl rfl rfl (fun x=>?_) (fun x=>?_)
  ·have c:=zT x c
   refine zH (.func (.func 174) #[] #[])<| zH v1<| zH (i6 d) ?_
   obtain ⟨p,y,c⟩:=zD c
   obtain ⟨aw,ax,bo,bp,ay,az,a0,a1,a2⟩:=fQ (H.item (i:=0) rfl) y
   obtain rfl:=eG az
   have H:=H.fz (.at aw (ax+d.toNat * 3) _) ⟨a0,a1,a2⟩
   refine zF (xG u37 bF ay rfl (zZ y).1 (zZ y).2.1 rfl rfl)<| zF (yK (yH (cs:=[i6 p.At,i6 p.N,i6 p.Mark]) kW rfl bF rfl (H.item (i:=1) rfl).2.2) rfl)<| zH (i6 h) ?_
   have a3:=H
   obtain ⟨a4,a5,c⟩:=zD c
   refine zO rfl rfl (bY en174 rfl rfl) (Fajw p h _ a5 _ _ _ (H.enter [] [])) ?_
   rintro _ bq ⟨rfl,a6⟩
   have H:=a3.step (a6.only:Only [] _ _)
   refine ⟨_,rfl,?_⟩
   obtain ⟨D,e283,c⟩:=zC c
   refine zF (zL (xW (a:=a4) (b:=0) rfl rfl) e283)<| zF (yD (v:= .bool D) rfl rfl)<| zI (i6 d)<| zI (.bool D) ?_
   obtain rfl:=gI c
   exact (zQ (zG (meet ⟨(),(zJ rfl (zJ rfl zK)),H.pick []⟩)))
  have c:=zU x c
  refine yC ?_
  refine yC ?_
  refine yC ?_
  refine yC ?_
  refine yC ?_
  refine yC ?_
  refine yC ?_
  refine yC ?_
  refine zF (zY (v:= .bool false) rfl rfl)<| zI (i6 d)<| zI (.bool false) ?_
  obtain rfl:=gI c
  exact (zQ (zG (meet ⟨(),(zJ rfl (zJ rfl zK)),H.pick []⟩)))
 rintro _ ρ br H
 have c:=ar
 obtain rfl:=gI c
 refine (zW (cZ (v1:=i6 d) (v2:= .bool C) rfl rfl rfl ?_))
 exact ⟨rfl,H.pick []⟩
theorem Fbdw (f:Series)(h:Int)(v1:Value)(r:Int)(c:Fbd f h=some r)(O S:List Nat)(w:World)(H:Hd O w w S [f1 gY v1 f.Samples]):
  Cl 157 [.agg [i6 f.Den,v1].toArray,i6 h] w fun e k=>e= .returned (i6 r)∧Hd O w k S []:=by
 unfold Fbd at c
 refine CW 18 Tryz.func157 ?_
 refine zB fun y l=>zA<| yQ rfl rfl (xQ (cs:=[i6 f.Den,v1]) rfl H) ?_
 rintro _ z ⟨A,rfl,H⟩
 refine zI (i6 0)<| RN l<| zB fun B m=>zA<| zF (aA rfl)<| Ld kS H 1 1 rfl rfl<| zH (i6 h) ?_
 have n:=H
 obtain ⟨⟨d,g⟩,o,c⟩:=zD c
 refine zO rfl rfl (zM en173 rfl) (Fb1w f.Samples h v1 _ o _ _ _ (H.enter [] [0])) ?_
 rintro _ C ⟨rfl,p⟩
 have H:=n.step (p.only:Only [] _ _)
 refine ⟨_,rfl,?_⟩
 refine zH (.tuple #[i6 d,.bool g])<| zF (yP (v:=i6 d) rfl rfl)<| zF (yP (v:= .bool g) rfl rfl)<| zI (i6 d)<| zI (.bool g)<| RN m<| zB fun D q=>zB fun E s=>zA<| zH (.bool g)<| RN s<| yB (b:=g) rfl (fun i=>?_) (fun i=>?_)
 ·have c:=zT i c
  refine zB fun F t=>zA<| zH (i6 d)<| zI (i6 d)<| RN t ?_
  obtain rfl:=gI c
  refine (zW (zV (gZ (v1:=i6 d) rfl rfl ?_)))
  exact ⟨rfl,H.pick []⟩
 have c:=zU i c
 refine zS (zG (q _ _ ?_))
 refine zB fun G u=>zA<| zH (i6 d) ?_
 obtain ⟨j,x,c⟩:=zC c
 refine zF (bI (a:=d) (b:=1) rfl rfl x)<| zI (i6 j)<| RN u ?_
 obtain rfl:=gI c
 refine (zW (gZ (v1:=i6 j) rfl rfl ?_))
 exact ⟨rfl,H.pick []⟩
theorem Fbww (c:fF)(r:Bool)(d:Fbw c=some r)(O S:List Nat)(w:World)(H:Hd O w w S []):
  Cl 158 [.agg [i6 c.At,i6 c.N,i6 c.Mark].toArray] w fun e g=>e= .returned (.bool r)∧Hd O w g S []:=by
 unfold Fbw at d
 refine CW 6 Tryz.func158 ?_
 refine zB fun k h=>zA<| yQ rfl rfl (xQ (cs:=[i6 c.At,i6 c.N,i6 c.Mark]) rfl H) ?_
 rintro _ l ⟨m,rfl,H⟩
 refine zI (.bool false)<| RN h<| zB fun n i=>zA<| zF (rX rfl)<| Ld fK H 0 2 rfl rfl ?_
 obtain ⟨f,j,d⟩:=zC d
 refine zF (zL (bK (a:=c.Mark) (b:=3) rfl rfl) j)<| zI (.bool f)<| RN i ?_
 obtain rfl:=gI d
 refine (zW (gZ (v1:= .bool f) rfl rfl ?_))
 exact ⟨rfl,H.pick []⟩
theorem Fb4w (d:Series)(h:Int)(k:Int)(v1:Value)(r:fF×Bool)(c:Fb4 d h k=some r)(O S:List Nat)(w:World)(H:Hd O w w S [f1 gY v1 d.Samples]):
  Cl 130 [.agg [i6 d.Den,v1].toArray,i6 h,i6 k] w fun e A=>e= .returned (.tuple #[.agg [i6 r.1.At,i6 r.1.N,i6 r.1.Mark].toArray,.bool r.2])∧Hd O w A S []:=by
 unfold Fb4 at c
 refine CW 41 Tryz.func130 ?_
 refine zB fun K3 B=>zA<| yQ rfl rfl (xQ (cs:=[i6 d.Den,v1]) rfl H) ?_
 rintro _ w6 ⟨u,rfl,H⟩
 refine yQ rfl rfl (xB nG H) ?_
 rintro _ w9 ⟨x,rfl,H⟩
 refine zI (.bool false)<| RN B<| zB fun a3 C=>zA<| zF (yK (yH (cs:=[i6 d.Den,v1]) qB rfl wZ rfl (Hbc H 1 rfl)) rfl)<| zH (i6 h) ?_
 have D:=H
 obtain ⟨f,E,c⟩:=zD c
 refine zO rfl rfl (zM en157 rfl) (Fbdw d h v1 _ E _ _ _ (H.enter [] [0])) ?_
 rintro _ a4 ⟨rfl,F⟩
 have H:=D.step (F.only:Only [] _ _)
 refine ⟨_,rfl,?_⟩
 refine zI (i6 f)<| RN C<| zB fun a5 G=>?_
 obtain ⟨y,c,I⟩:=zD c
 refine yL [12,13,14,15,16,17,18,19,20,21,22,23,24,25,26,27,28,29,30,31,32,33,34] (fun (g:Unit)=>[(34,.bool y)]) (fun g wl=>Hd O w wl S [f1 gY v1 d.Samples,.blk u [i6 d.Den,v1] 39,.blk x [i6 0,i6 0,i6 0] 46]) ?_ ?_
 ·skip
  refine zA ?_
  refine zH (i6 f) ?_
  obtain ⟨J,K,c⟩:=zC c
  refine zF (zL (xC (a:=f) (b:=0) rfl rfl) K) ?_
  obtain ⟨z,c,L⟩:=zD c
  refine eF 9 [14,15,16,17,18,19,20,21,22] [(22,.bool z)] (fun wl=>Hd O w wl S [f1 gY v1 d.Samples,.blk u [i6 d.Den,v1] 39,.blk x [i6 0,i6 0,i6 0] 46]) ?_ ?_
  ·skip
   refine yR (b:=J) rfl rfl rfl (fun m=>?_) (fun m=>?_)
   ·have c:=zT m c
    refine yC ?_
    refine yC ?_
    refine yC ?_
    refine yC ?_
    refine yC ?_
    refine yC ?_
    refine yC ?_
    refine zF (yD (v:= .bool true) rfl rfl) ?_
    obtain rfl:=gI c
    exact zQ (zG (meet ⟨(zJ rfl zK),H.pick [0,1,2]⟩))
   have c:=zU m c
   refine zF (aA rfl)<| Ld kS H 1 1 rfl rfl<| zH (i6 f) ?_
   obtain ⟨l,n,c⟩:=zD c
   obtain ⟨M,P,a6,a7,Q,R,T,U,V⟩:=fQ (H.item (i:=0) rfl) n
   obtain rfl:=eG R
   have H:=H.fz (.at M (P+f.toNat * 3) _) ⟨T,U,V⟩
   refine zF (xG u37 bF Q rfl (zZ n).1 (zZ n).2.1 rfl rfl)<| zF (yK (yH (cs:=[i6 l.At,i6 l.N,i6 l.Mark]) kW rfl bF rfl (H.item (i:=3) rfl).2.2) rfl) ?_
   have X:=H
   obtain ⟨Y,Z,c⟩:=zD c
   refine zO rfl rfl (zM en158 rfl) (Fbww l _ Z _ _ _ (H.enter [] [])) ?_
   rintro _ a8 ⟨rfl,aa⟩
   have H:=X.step (aa.only:Only [] _ _)
   refine ⟨_,rfl,?_⟩
   obtain ⟨ab,ac,c⟩:=zC c
   refine zF (zL (xX (p:=Y) rfl) ac)<| zF (zY (v:= .bool ab) rfl rfl) ?_
   obtain rfl:=gI c
   exact zQ (zG (meet ⟨(zJ rfl zK),H.pick [0,1,2]⟩))
  rintro ρ a9 H
  have c:=L
  refine yR (b:=z) rfl rfl rfl (fun o=>?_) (fun o=>?_)
  ·have c:=zT o c
   refine yC ?_
   refine yC ?_
   refine yC ?_
   refine yC ?_
   refine yC ?_
   refine yC ?_
   refine yC ?_
   refine yC ?_
   refine yC ?_
   refine yC ?_
   refine zF (yD (v:= .bool true) rfl rfl) ?_
   obtain rfl:=gI c
   exact (zQ (zG (meet ⟨(),(zJ rfl zK),H.pick [0,1,2]⟩)))
  have c:=zU o c
  refine zH (i6 h)<| zF (aA rfl)<| Ld kS H 1 1 rfl rfl<| zH (i6 f) ?_
  obtain ⟨ad,q,c⟩:=zD c
  obtain ⟨ae,af,ba,bb,ag,ah,ai,aj,ak⟩:=fQ (H.item (i:=0) rfl) q
  obtain rfl:=eG ah
  have H:=H.fz (.at ae (af+f.toNat * 3) _) ⟨ai,aj,ak⟩
  refine zF (xG u37 bF ag rfl (zZ q).1 (zZ q).2.1 rfl rfl)<| zF (jB rfl)<| zF (xO fK rfl (Cells.get (H.item (i:=3) rfl).2.2 (i:=0) rfl)) ?_
  obtain ⟨al,am,c⟩:=zC c
  refine zF (bI (a:=h) (b:=ad.At) rfl rfl am)<| zH (i6 k) ?_
  obtain ⟨an,ao,c⟩:=zC c
  refine zF (zL (eQ (a:=al) (b:=k) rfl rfl) ao)<| zF (zY (v:= .bool an) rfl rfl) ?_
  obtain rfl:=gI c
  exact (zQ (zG (meet ⟨(),(zJ rfl zK),H.pick [0,1,2]⟩)))
 rintro _ ρ bc H
 have c:=I
 refine yB (b:=y) rfl (fun s=>?_) (fun s=>?_)
 ·have c:=zT s c
  refine zB fun bd ap=>zA<| zF (dB (cs:=[i6 0,i6 0,i6 0]) bz46)<| yZ rfl (yN (vs:=[i6 0,i6 0,i6 0]) H 2 rfl bF rfl rfl rfl ⟨rfl,rfl,rfl,trivial⟩ rfl) ?_
  rintro be H
  refine zI (.bool false)<| RN ap ?_
  obtain rfl:=gI c
  refine (zW (zV (pF (v1:= .bool false) rfl rfl (yX kW bF rfl (Hbc H 2 rfl)) rfl ?_)))
  exact ⟨rfl,H.pick []⟩
 have c:=zU s c
 refine zS (zG (G _ _ ?_))
 refine zB fun bf aq=>zA<| zF (aA rfl)<| Ld kS H 1 1 rfl rfl<| zH (i6 f) ?_
 obtain ⟨j,t,c⟩:=zD c
 obtain ⟨ar,au,bg,bh,av,aw,ax,ay,az⟩:=fQ (H.item (i:=0) rfl) t
 obtain rfl:=eG aw
 have H:=H.fz (.at ar (au+f.toNat * 3) _) ⟨ax,ay,az⟩
 refine zF (xG u37 bF av rfl (zZ t).1 (zZ t).2.1 rfl rfl)<| zF (yK (yH (cs:=[i6 j.At,i6 j.N,i6 j.Mark]) kW rfl bF rfl (H.item (i:=3) rfl).2.2) rfl)<| yZ rfl (yN (vs:=[i6 j.At,i6 j.N,i6 j.Mark]) H 2 rfl bF rfl rfl rfl ⟨rfl,rfl,rfl,trivial⟩ rfl) ?_
 rintro bi H
 refine zI (.bool true)<| RN aq ?_
 obtain rfl:=gI c
 refine (zW (pF (v1:= .bool true) rfl rfl (yX kW bF rfl (Hbc H 2 rfl)) rfl ?_))
 exact ⟨rfl,H.pick []⟩
theorem Faww (a:Series)(c:Int)(d:Int)(v1:Value)(r:fF×Bool)(f:Faw a c d=some r)(O S:List Nat)(w:World)(H:Hd O w w S [f1 gY v1 a.Samples]):
  Cl 93 [.agg [i6 a.Den,v1].toArray,i6 c,i6 d] w fun e h=>e= .returned (.tuple #[.agg [i6 r.1.At,i6 r.1.N,i6 r.1.Mark].toArray,.bool r.2])∧Hd O w h S []:=by
 unfold Faw at f
 refine CW 14 Tryz.func93 ?_
 refine zB fun n i=>zA<| yQ rfl rfl (xQ (cs:=[i6 a.Den,v1]) rfl H) ?_
 rintro _ o ⟨p,rfl,H⟩
 refine yQ rfl rfl (xB nG H) ?_
 rintro _ q ⟨s,rfl,H⟩
 refine zI (.bool false)<| RN i<| zB fun t j=>zA<| zF (yK (yH (cs:=[i6 a.Den,v1]) qB rfl wZ rfl (Hbc H 1 rfl)) rfl)<| zH (i6 c)<| zH (i6 d) ?_
 have k:=H
 obtain ⟨⟨b,g⟩,l,f⟩:=zD f
 refine zO rfl rfl (zM en130 rfl) (Fb4w a c d v1 _ l _ _ _ (H.enter [] [0])) ?_
 rintro _ u ⟨rfl,m⟩
 have H:=k.step (m.only:Only [] _ _)
 refine ⟨_,rfl,?_⟩
 refine zF (yP (v:= .agg [i6 b.At,i6 b.N,i6 b.Mark].toArray) rfl rfl)<| zF (yP (v:= .bool g) rfl rfl)<| yZ rfl (yN (vs:=[i6 b.At,i6 b.N,i6 b.Mark]) H 2 rfl bF rfl rfl rfl ⟨rfl,rfl,rfl,trivial⟩ rfl) ?_
 rintro x H
 refine zI (.bool g)<| RN j ?_
 obtain rfl:=gI f
 refine (zW (pF (v1:= .bool g) rfl rfl (yX kW bF rfl (Hbc H 2 rfl)) rfl ?_))
 exact ⟨rfl,H.pick []⟩
theorem Fa2w (m:List gW)(k:Int)(v1:Value)(r:(List aH))(c:Fa2 m k=some r)(O S:List Nat)(w:World)(H:Hd O w w S [f1 fH v1 m]):
  Cl 64 [v1,i6 k] w fun e z=> ∃u3,e= .returned (u3)∧Hd O w z S [.own nJ u3 51 r]:=by
 unfold Fa2 at c
 refine CW 37 Tryz.func64 ?_
 refine zB fun K4 A=>zA<| zI (.slice none 0 0)<| RN A<| zB fun K5 B=>zA<| zI (.slice none 0 0)<| RN B ?_
 obtain ⟨q,c,C⟩:=zD c
 refine yL [5,7,8,9,10,11,12,13,14,15,16,17,18,19,20,21,22,23,24,25,26,27,28,29,30,31,32,33,34,35] (fun (g:Value)=>[(5,g)]) (fun g wl=>Hd O w wl S [.own nJ g 51 q]) ?_ ?_
 ·skip
  refine zB fun aw D=>zA<| zH v1 ?_
  obtain ⟨E,F,c⟩:=zC c
  obtain ⟨ax,ay,G⟩:=SlF.len ((H.item (i:=0) rfl))
  refine zF (yK (xI u22 G) (congrArg (Value.int .i64) F))<| zH (i6 0)<| RN D<| yA ?_
  have H:=dL H nJ 51
  unfold Fc4 at c
  obtain ⟨I,s,J,c⟩:=yM c
  refine xA [5,7,8,9,12,13,14,15,16,17,18,19,20,21,22,23,24,25,26,27,28,29,30,31,32,33,34,35] (fun (g:Nat×(List aH)×Int×Value)=>[(5,g.2.2.2),(12,i6 g.2.2.1)]) (fun g wl=>Hd O w wl S [.own nJ g.2.2.2 51 g.2.1,f1 fH v1 m]∧fJ I g.1 (g.2.1,g.2.2.1)=some q) (fun g=>g.1) (s,[],0,.slice none 0 0) (zJ rfl (zJ rfl zK)) ⟨H.pick [1,0],c⟩ ?_
  clear H c
  rintro ⟨s,az,n,t⟩ ρ a0 ⟨H,c⟩
  obtain ⟨K,rfl,c⟩:=yS c
  have c:=yT J c
  refine zB fun a1 L=>zA ?_
  obtain ⟨M,P,c⟩:=zC c
  refine zF (zL (xC (a:=n) (b:=E) rfl rfl) P)<| RN L<| zB fun a2 Q=>yB (b:=M) rfl (fun o=>?_) (fun o=>?_)
  ·have c:=zT o c
   refine zS (zG (Q _ _ ?_))
   refine zB fun a3 R=>?_
   refine yA ?_
   refine zB fun a4 T=>zA ?_
   obtain ⟨f,p,c⟩:=zD c
   obtain ⟨U,V,a5,a6,X,Y,Z,aa,ab⟩:=fQ (H.item (i:=1) rfl) p
   obtain ⟨j,rfl,ac⟩:=fZ Y
   have H:=H.fzs [.at U (V+n.toNat * 4) _,.sl gY j f.Series.Samples] ⟨⟨Z,aa,ab⟩,ac,trivial⟩
   refine zF (xG u22 bQ X rfl (zZ p).1 (zZ p).2.1 rfl rfl)<| zF (yK (yH (cs:=[sb f.Name,i6 f.Series.Den,j,i6 f.Long]) mP rfl bQ rfl (H.item (i:=2) rfl).2.2) rfl)<| yQ rfl rfl (xB rW H) ?_
   rintro _ a7 ⟨a8,rfl,H⟩
   refine yZ rfl (yN (vs:=[sb f.Name,i6 f.Series.Den,j,i6 f.Long]) H 4 rfl bQ rfl rfl rfl ⟨rfl,rfl,(dK (H.item (i:=3) rfl)),rfl,trivial⟩ rfl) ?_
   rintro a9 H
   refine RN T<| zB fun ba ad=>zA<| zF (kV rfl)<| zF (yK (yH (cs:=[i6 f.Series.Den,j]) qB rfl wZ rfl (Cells.drop (Hbc H 4 rfl) 1 2)) rfl)<| zH (i6 k) ?_
   obtain ⟨ae,af,c⟩:=zC c
   refine zF (kQ (a:=64) (b:=k) rfl rfl af) ?_
   obtain ⟨ag,ah,c⟩:=zC c
   refine zF (xN (a:=ae) (b:=64) rfl rfl ah) ?_
   obtain ⟨ai,aj,c⟩:=zC c
   refine zF (bI (a:=ag) (b:=1) rfl rfl aj)<| zF (vF rfl)<| Ld fK H 4 3 rfl rfl ?_
   have ak:=H
   obtain ⟨⟨d,h⟩,al,c⟩:=zD c
   refine zO rfl rfl (zM en93 rfl) (Faww f.Series ai f.Long j _ al _ _ _ (H.enter [] [3])) ?_
   rintro _ bb ⟨rfl,am⟩
   have H:=ak.step (am.only:Only [] _ _)
   refine ⟨_,rfl,?_⟩
   refine zH (.tuple #[.agg [i6 d.At,i6 d.N,i6 d.Mark].toArray,.bool h])<| zF (yP (v:= .agg [i6 d.At,i6 d.N,i6 d.Mark].toArray) rfl rfl)<| zF (yP (v:= .bool h) rfl rfl)<| yQ rfl rfl (xB nG H) ?_
   rintro _ bc ⟨bd,rfl,H⟩
   refine yZ rfl (yN (vs:=[i6 d.At,i6 d.N,i6 d.Mark]) H 5 rfl bF rfl rfl rfl ⟨rfl,rfl,rfl,trivial⟩ rfl) ?_
   rintro be H
   refine zI (.bool h)<| RN ad<| zA<| zH t<| zF (qA rfl)<| Ld fK H 5 1 rfl rfl<| zH (.bool h)<| zF (dB (cs:=[i6 d.N,.bool h]) (bt51_0_1 _ _)) ?_
   obtain ⟨bf,an,c⟩:=zC c
   subst an
   refine yQ rfl rfl (kX (r:=nJ) (xl:=[aH.mk d.N h]) (cs:=[i6 d.N,.bool h]) u47 el51 (by decide) (by decide) rfl (xU (vs:=[.agg [i6 d.N,.bool h].toArray]) (by decide) rfl rfl ⟨rfl,trivial⟩ rfl) H ⟨[i6 d.N,.bool h],[],rfl,(rToldT_mk (x:=aH.mk d.N h)),rfl⟩) ?_
   rintro bg bh H
   obtain ⟨ao,ap,c⟩:=zD c
   refine yQ rfl rfl (jD H (i:=0) rfl u47 el51 rfl rfl (Sr.of_own (H.item (i:=6) rfl)) ap) ?_
   rintro u bi H
   refine zI u<| (zQ (yV (zG (R _ _ ?_))))
   refine zA ?_
   obtain ⟨y,aq,c⟩:=zC c
   refine zF (xN (a:=n) (b:=1) rfl rfl aq)<| zH (i6 y) ?_
   exact (zQ (zG (meet ⟨(K,ao,y,u),(zJ rfl (zJ rfl zK)),⟨H.pick [0,1],c⟩,Nat.lt_succ_self _⟩)))
  have c:=zU o c
  obtain rfl:=gI c
  exact (xH (yI (yI (yU (zG (meet ⟨t,(zJ rfl zK),H.pick [0]⟩))))))
 rintro l ρ bj H
 have c:=C
 refine zB fun bk ar=>zA<| zH l<| zI l<| RN ar ?_
 obtain rfl:=gI c
 refine (zW (gZ (v1:=l) rfl rfl ?_))
 exact ⟨l,rfl,H.pick [0]⟩
theorem Fcaw (c:List gW)(a:Int)(v1:Value)(r:(List aH))(b:Fca c a=some r)(O S:List Nat)(w:World)(H:Hd O w w S [f1 fH v1 c]):
  Cl 35 [v1,i6 a] w fun e f=> ∃u3,e= .returned (u3)∧Hd O w f S [.own nJ u3 51 r]:=by
 unfold Fca at b
 refine CW 8 Tryz.func35 ?_
 refine zB fun k g=>zA<| zI (.slice none 0 0)<| RN g<| zB fun l h=>zA<| zH v1<| zH (i6 a) ?_
 obtain ⟨m,i,b⟩:=zD b
 refine zO rfl rfl (zM en64 rfl) (Fa2w c a v1 _ i _ _ _ (H.enter [] [0])) ?_
 rintro _ n ⟨d,rfl,j⟩
 have H:=H.back1 [0] rfl j
 refine ⟨_,rfl,?_⟩
 refine zI d<| RN h ?_
 obtain rfl:=gI b
 refine (zW (gZ (v1:=d) rfl rfl ?_))
 exact ⟨d,rfl,H.pick [1]⟩
theorem Faaw (d:Int)(r:Int)(c:Faa d=some r)(O S:List Nat)(w:World)(H:Hd O w w S []):
  Cl 96 [i6 d] w fun e j=>e= .returned (i6 r)∧Hd O w j S []:=by
 unfold Faa at c
 refine CW 9 Tryz.func96 ?_
 refine zB fun u k=>zA<| zI (i6 0)<| RN k<| zB fun v l=>yA<| zB fun x m=>zA<| zH (i6 d) ?_
 obtain ⟨h,n,c⟩:=zC c
 refine zF (zL (xC (a:=d) (b:=0) rfl rfl) n)<| zI (.bool h)<| RN m<| yB (b:=h) rfl (fun f=>?_) (fun f=>?_)
 ·have c:=zT f c
  refine zB fun y o=>zA<| zI (i6 (-1))<| RN o ?_
  obtain rfl:=gI c
  refine (zW (yJ (zV (gZ (v1:=i6 (-1)) rfl rfl ?_))))
  exact ⟨rfl,H.pick []⟩
 have c:=zU f c
 refine zB fun z p=>zA<| zH (i6 d) ?_
 obtain ⟨i,q,c⟩:=zC c
 refine zF (zL (eQ (a:=d) (b:=0) rfl rfl) q)<| zI (.bool i)<| RN p<| yB (b:=i) rfl (fun g=>?_) (fun g=>?_)
 ·have c:=zT g c
  refine zB fun A s=>zA<| zI (i6 1)<| RN s ?_
  obtain rfl:=gI c
  refine (zW (yJ (zV (gZ (v1:=i6 1) rfl rfl ?_))))
  exact ⟨rfl,H.pick []⟩
 have c:=zU g c
 refine (zS (yV (zG (l _ _ ?_))))
 refine zB fun B t=>zA<| zI (i6 0)<| RN t ?_
 obtain rfl:=gI c
 refine (zW (gZ (v1:=i6 0) rfl rfl ?_))
 exact ⟨rfl,H.pick []⟩
theorem Faqw (d:Int)(f:Int)(r:Int×Int)(c:Faq d f=some r)(O S:List Nat)(w:World)(H:Hd O w w S []):
  Cl 73 [.int .u64 d,.int .u64 f] w fun e u=>e= .returned (.tuple #[.int .u64 r.1,.int .u64 r.2])∧Hd O w u S []:=by
 unfold Faq at c
 refine CW 51 Tryz.func73 ?_
 refine zB fun K1 v=>zA<| zI (.int .u64 0)<| zI (.int .u64 0)<| RN v<| zB fun K2 x=>zA<| zH (.int .u64 d) ?_
 obtain ⟨g,y,c⟩:=zC c
 refine zF (aCv (a:=d) (b:=4294967295) rfl rfl y)<| zI (.int .u64 g)<| RN x<| zB fun K5 z=>zA<| zH (.int .u64 d) ?_
 obtain ⟨h,A,c⟩:=zD c
 refine zF (mG (j:=d) (q:=32) rfl rfl A)<| zI (.int .u64 h)<| RN z<| zB fun K8 B=>zA<| zH (.int .u64 f) ?_
 obtain ⟨i,C,c⟩:=zC c
 refine zF (aCv (a:=f) (b:=4294967295) rfl rfl C)<| zI (.int .u64 i)<| RN B<| zB fun an D=>zA<| zH (.int .u64 f) ?_
 obtain ⟨k,E,c⟩:=zD c
 refine zF (mG (j:=f) (q:=32) rfl rfl E)<| zI (.int .u64 k)<| RN D<| zB fun ao F=>zA<| zH (.int .u64 g)<| zH (.int .u64 i) ?_
 obtain ⟨m,G,c⟩:=zC c
 refine zF (kQ (a:=g) (b:=i) rfl rfl G)<| zI (.int .u64 m)<| RN F<| zB fun ap I=>zA<| zH (.int .u64 h)<| zH (.int .u64 i) ?_
 obtain ⟨J,K,c⟩:=zC c
 refine zF (kQ (a:=h) (b:=i) rfl rfl K)<| zH (.int .u64 m) ?_
 obtain ⟨L,M,c⟩:=zD c
 refine zF (mG (j:=m) (q:=32) rfl rfl M) ?_
 obtain ⟨l,N,c⟩:=zC c
 refine zF (xN (a:=J) (b:=L) rfl rfl N)<| zI (.int .u64 l)<| RN I<| zB fun aq P=>zA<| zH (.int .u64 l) ?_
 obtain ⟨n,Q,c⟩:=zC c
 refine zF (aCv (a:=l) (b:=4294967295) rfl rfl Q)<| zI (.int .u64 n)<| RN P<| zB fun ar R=>zA<| zH (.int .u64 l) ?_
 obtain ⟨o,T,c⟩:=zD c
 refine zF (mG (j:=l) (q:=32) rfl rfl T)<| zI (.int .u64 o)<| RN R<| zB fun au U=>zA<| zH (.int .u64 n)<| zH (.int .u64 g)<| zH (.int .u64 k) ?_
 obtain ⟨V,X,c⟩:=zC c
 refine zF (kQ (a:=g) (b:=k) rfl rfl X) ?_
 obtain ⟨p,Y,c⟩:=zC c
 refine zF (xN (a:=n) (b:=V) rfl rfl Y)<| zI (.int .u64 p)<| RN U<| zB fun av Z=>zA<| zH (.int .u64 h)<| zH (.int .u64 k) ?_
 obtain ⟨aa,ab,c⟩:=zC c
 refine zF (kQ (a:=h) (b:=k) rfl rfl ab)<| zH (.int .u64 o) ?_
 obtain ⟨ac,ad,c⟩:=zC c
 refine zF (xN (a:=aa) (b:=o) rfl rfl ad)<| zH (.int .u64 p) ?_
 obtain ⟨ae,af,c⟩:=zD c
 refine zF (mG (j:=p) (q:=32) rfl rfl af) ?_
 obtain ⟨s,ag,c⟩:=zC c
 refine zF (xN (a:=ac) (b:=ae) rfl rfl ag)<| zI (.int .u64 s)<| RN Z<| zB fun aw ah=>zA<| zH (.int .u64 d)<| zH (.int .u64 f) ?_
 obtain ⟨t,ai,c⟩:=zC c
 refine zF (kQ (a:=d) (b:=f) rfl rfl ai)<| zI (.int .u64 t)<| RN ah ?_
 obtain rfl:=gI c
 refine (zW (cZ (v1:= .int .u64 s) (v2:= .int .u64 t) rfl rfl rfl ?_))
 exact ⟨rfl,H.pick []⟩
set_option maxRecDepth 100000 in
theorem Fauw (i:Int)(o:Int)(l:Int)(p:Int)(r:Int)(c:Fau i o l p=some r)(O S:List Nat)(w:World)(H:Hd O w w S []):
  Cl 70 [i6 i,i6 o,i6 l,i6 p] w fun e F=>e= .returned (i6 r)∧Hd O w F S []:=by
 unfold Fau at c
 refine CW 75 Tryz.func70 ?_
 refine zB fun K1 G=>zA<| zI (i6 0)<| RN G<| zB fun bg I=>zB fun bh J=>zA<| zH (i6 i) ?_
 have K:=H
 obtain ⟨m,L,c⟩:=zD c
 refine zO rfl rfl (zM en96 rfl) (Faaw i _ L _ _ _ (H.enter [] [])) ?_
 rintro _ bi ⟨rfl,M⟩
 have H:=K.step (M.only:Only [] _ _)
 refine ⟨_,rfl,?_⟩
 refine zH (i6 l) ?_
 have N:=H
 obtain ⟨n,P,c⟩:=zD c
 refine zO rfl rfl (zM en96 rfl) (Faaw l _ P _ _ _ (H.enter [] [])) ?_
 rintro _ bj ⟨rfl,Q⟩
 have H:=N.step (Q.only:Only [] _ _)
 refine ⟨_,rfl,?_⟩
 refine zI (i6 m)<| zI (i6 n)<| RN J<| zB fun bk R=>zA<| zH (i6 m)<| zH (i6 n) ?_
 obtain ⟨T,U,c⟩:=zC c
 refine zF (zL (dJ (a:=m) (b:=n) rfl rfl) U)<| RN R<| yB (b:=T) rfl (fun q=>?_) (fun q=>?_)
 ·have c:=zT q c
  refine zB fun bl V=>zA<| zH (i6 m)<| zH (i6 n) ?_
  obtain ⟨X,Y,c⟩:=zC c
  refine zF (bI (a:=m) (b:=n) rfl rfl Y) ?_
  have Z:=H
  obtain ⟨A,aa,c⟩:=zD c
  refine zO rfl rfl (zM en96 rfl) (Faaw X _ aa _ _ _ (H.enter [] [])) ?_
  rintro _ bm ⟨rfl,ab⟩
  have H:=Z.step (ab.only:Only [] _ _)
  refine ⟨_,rfl,?_⟩
  refine zI (i6 A)<| RN V ?_
  obtain rfl:=gI c
  refine (zW (zV (gZ (v1:=i6 A) rfl rfl ?_)))
  exact ⟨rfl,H.pick []⟩
 have c:=zU q c
 refine zS (zG (I _ _ ?_))
 refine zB fun bn ac=>zA<| zH (i6 i) ?_
 have ad:=H
 obtain ⟨d,ae,c⟩:=zD c
 refine zO rfl rfl (zM en96 rfl) (Faaw i _ ae _ _ _ (H.enter [] [])) ?_
 rintro _ bo ⟨rfl,af⟩
 have H:=ad.step (af.only:Only [] _ _)
 refine ⟨_,rfl,?_⟩
 refine zI (i6 d)<| RN ac<| zB fun bp ag=>zA<| zH (i6 i)<| zH (i6 d) ?_
 obtain ⟨bq,ah,c⟩:=zC c
 refine zF (kQ (a:=i) (b:=d) rfl rfl ah) ?_
 obtain ⟨ai,aj,c⟩:=zC c
 refine zF (aW u3 u96 rfl aj)<| zH (i6 p) ?_
 obtain ⟨ak,al,c⟩:=zC c
 refine zF (aW u3 u96 rfl al) ?_
 have am:=H
 obtain ⟨⟨f,j⟩,an,c⟩:=zD c
 refine zO rfl rfl (zM en73 rfl) (Faqw ai ak _ an _ _ _ (H.enter [] [])) ?_
 rintro _ br ⟨rfl,ao⟩
 have H:=am.step (ao.only:Only [] _ _)
 refine ⟨_,rfl,?_⟩
 refine zH (.tuple #[.int .u64 f,.int .u64 j])<| zF (yP (v:= .int .u64 f) rfl rfl)<| zF (yP (v:= .int .u64 j) rfl rfl)<| zI (.int .u64 f)<| zI (.int .u64 j)<| RN ag<| zB fun bt ap=>zA<| zH (i6 l)<| zH (i6 d) ?_
 obtain ⟨bu,aq,c⟩:=zC c
 refine zF (kQ (a:=l) (b:=d) rfl rfl aq) ?_
 obtain ⟨ar,au,c⟩:=zC c
 refine zF (aW u3 u96 rfl au)<| zH (i6 o) ?_
 obtain ⟨av,aw,c⟩:=zC c
 refine zF (aW u3 u96 rfl aw) ?_
 have ax:=H
 obtain ⟨⟨h,k⟩,ay,c⟩:=zD c
 refine zO rfl rfl (zM en73 rfl) (Faqw ar av _ ay _ _ _ (H.enter [] [])) ?_
 rintro _ bv ⟨rfl,az⟩
 have H:=ax.step (az.only:Only [] _ _)
 refine ⟨_,rfl,?_⟩
 refine zH (.tuple #[.int .u64 h,.int .u64 k])<| zF (yP (v:= .int .u64 h) rfl rfl)<| zF (yP (v:= .int .u64 k) rfl rfl)<| zI (.int .u64 h)<| zI (.int .u64 k)<| RN ap<| zB fun bw a0=>yA ?_
 obtain ⟨B,c,a1⟩:=zD c
 refine yL [49,50,51,52,53,54,55,56,57,58,59,60,61,62] (fun (g:Unit)=>[(49,.bool B)]) (fun g wl=>Hd O w wl S []) ?_ ?_
 ·skip
  refine zA ?_
  refine zH (.int .u64 f)<| zH (.int .u64 h) ?_
  obtain ⟨a2,a3,c⟩:=zC c
  refine zF (zL (xC (a:=f) (b:=h) rfl rfl) a3)<| yR (b:=a2) rfl rfl rfl (fun s=>?_) (fun s=>?_)
  ·have c:=zT s c
   refine yC ?_
   refine yC ?_
   refine yC ?_
   refine yC ?_
   refine yC ?_
   refine yC ?_
   refine yC ?_
   refine yC ?_
   refine zF (yD (v:= .bool true) rfl rfl)<| zI (.bool true) ?_
   obtain rfl:=gI c
   exact (zQ (zG (meet ⟨(),(zJ rfl zK),H.pick []⟩)))
  have c:=zU s c
  refine zH (.int .u64 f)<| zH (.int .u64 h) ?_
  obtain ⟨a4,a5,c⟩:=zC c
  refine zF (zL (xW (a:=f) (b:=h) rfl rfl) a5)<| yR (b:=a4) rfl rfl rfl (fun t=>?_) (fun t=>?_)
  ·have c:=zT t c
   refine zH (.int .u64 j)<| zH (.int .u64 k) ?_
   obtain ⟨u,a6,c⟩:=zC c
   refine zF (zL (xC (a:=j) (b:=k) rfl rfl) a6)<| zF (yD (v:= .bool u) rfl rfl)<| zF (zY (v:= .bool u) rfl rfl)<| zI (.bool u) ?_
   obtain rfl:=gI c
   exact (zQ (zG (meet ⟨(),(zJ rfl zK),H.pick []⟩)))
  have c:=zU t c
  refine yC ?_
  refine yC ?_
  refine yC ?_
  refine zF (zY (v:= .bool false) rfl rfl)<| zF (zY (v:= .bool false) rfl rfl)<| zI (.bool false) ?_
  obtain rfl:=gI c
  exact (zQ (zG (meet ⟨(),(zJ rfl zK),H.pick []⟩)))
 rintro _ ρ bx H
 have c:=a1
 refine yB (b:=B) rfl (fun x=>?_) (fun x=>?_)
 ·have c:=zT x c
  refine zB fun bz a7=>zA<| zH (i6 d) ?_
  obtain ⟨C,a8,c⟩:=zC c
  refine zF (aCm (a:=d) rfl a8)<| zI (i6 C)<| RN a7 ?_
  obtain rfl:=gI c
  refine (zW (yJ (zV (gZ (v1:=i6 C) rfl rfl ?_))))
  exact ⟨rfl,H.pick []⟩
 have c:=zU x c
 obtain ⟨D,c,a9⟩:=zD c
 refine yL [65,66,67,68,69,70,71,72,73] (fun (g:Unit)=>[(65,.bool D)]) (fun g wl=>Hd O w wl S []) ?_ ?_
 ·skip
  refine zA ?_
  refine zH (.int .u64 f)<| zH (.int .u64 h) ?_
  obtain ⟨ba,bb,c⟩:=zC c
  refine zF (zL (xW (a:=f) (b:=h) rfl rfl) bb)<| yR (b:=ba) rfl rfl rfl (fun y=>?_) (fun y=>?_)
  ·have c:=zT y c
   refine zH (.int .u64 j)<| zH (.int .u64 k) ?_
   obtain ⟨E,bc,c⟩:=zC c
   refine zF (zL (xW (a:=j) (b:=k) rfl rfl) bc)<| zF (yD (v:= .bool E) rfl rfl)<| zI (.bool E) ?_
   obtain rfl:=gI c
   exact (zQ (zG (meet ⟨(),(zJ rfl zK),H.pick []⟩)))
  have c:=zU y c
  refine yC ?_
  refine yC ?_
  refine yC ?_
  refine zF (zY (v:= .bool false) rfl rfl)<| zI (.bool false) ?_
  obtain rfl:=gI c
  exact (zQ (zG (meet ⟨(),(zJ rfl zK),H.pick []⟩)))
 rintro _ ρ b0 H
 have c:=a9
 refine yB (b:=D) rfl (fun z=>?_) (fun z=>?_)
 ·have c:=zT z c
  refine zB fun b1 bd=>zA<| zI (i6 0)<| RN bd ?_
  obtain rfl:=gI c
  refine (zW (yJ (zV (gZ (v1:=i6 0) rfl rfl ?_))))
  exact ⟨rfl,H.pick []⟩
 have c:=zU z c
 refine (zS (yV (zG (a0 _ _ ?_))))
 refine zB fun b2 be=>zA<| zH (i6 d)<| zI (i6 d)<| RN be ?_
 obtain rfl:=gI c
 refine (zW (gZ (v1:=i6 d) rfl rfl ?_))
 exact ⟨rfl,H.pick []⟩
theorem Facw (a:Int)(b:Int)(c:Int)(d:Int)(r:Int)(f:Fac a b c d=some r)(O S:List Nat)(w:World)(H:Hd O w w S []):
  Cl 48 [i6 a,i6 b,i6 c,i6 d] w fun e h=>e= .returned (i6 r)∧Hd O w h S []:=by
 unfold Fac at f
 refine CW 14 Tryz.func48 ?_
 refine zB fun n i=>zA<| zI (i6 0)<| RN i<| zB fun o j=>zA<| zH (i6 a)<| zH (i6 b)<| zH (i6 c)<| zH (i6 d) ?_
 have k:=H
 obtain ⟨g,l,f⟩:=zD f
 refine zO rfl rfl (zM en70 rfl) (Fauw a b c d _ l _ _ _ (H.enter [] [])) ?_
 rintro _ p ⟨rfl,m⟩
 have H:=k.step (m.only:Only [] _ _)
 refine ⟨_,rfl,?_⟩
 refine zI (i6 g)<| RN j ?_
 obtain rfl:=gI f
 refine (zW (gZ (v1:=i6 g) rfl rfl ?_))
 exact ⟨rfl,H.pick []⟩
theorem Fa3w (f:gW)(d:gW)(n:Int)(o:Int)(v1:Value)(h:Value)(r:Bool)(c:Fa3 f d n o=some r)(O S:List Nat)(w:World)(H:Hd O w w S [f1 gY v1 f.Series.Samples,f1 gY h d.Series.Samples]):
  Cl 21 [.agg [sb f.Name,i6 f.Series.Den,v1,i6 f.Long].toArray,.agg [sb d.Name,i6 d.Series.Den,h,i6 d.Long].toArray,i6 n,i6 o] w fun e m=>e= .returned (.bool r)∧Hd O w m S []:=by
 unfold Fa3 at c
 refine CW 65 Tryz.func21 ?_
 refine zB fun K5 F=>zA<| yQ rfl rfl (xQ (cs:=[sb f.Name,i6 f.Series.Den,v1,i6 f.Long]) rfl H) ?_
 rintro _ w8 ⟨G,rfl,H⟩
 refine yQ rfl rfl (xQ (cs:=[sb d.Name,i6 d.Series.Den,h,i6 d.Long]) rfl H) ?_
 rintro _ be ⟨I,rfl,H⟩
 refine zI (.bool false)<| RN F<| zB fun bf J=>zA<| zF (yK (yH (cs:=[sb f.Name,i6 f.Series.Den,v1,i6 f.Long]) mP rfl bQ rfl (Hbc H 2 rfl)) rfl)<| zF (yK (yH (cs:=[sb d.Name,i6 d.Series.Den,h,i6 d.Long]) mP rfl bQ rfl (Hbc H 3 rfl)) rfl) ?_
 obtain ⟨bg,K,c⟩:=zC c
 subst K
 refine yQ rfl rfl (kX (r:=fH) (xl:=[f,d]) (cs:=[sb f.Name,i6 f.Series.Den,v1,i6 f.Long,sb d.Name,i6 d.Series.Den,h,i6 d.Long]) u22 el41 (by decide) (by decide) rfl (xU (vs:=[.agg [sb f.Name,i6 f.Series.Den,v1,i6 f.Long].toArray,.agg [sb d.Name,i6 d.Series.Den,h,i6 d.Long].toArray]) (by decide) rfl rfl ⟨rfl,rfl,trivial⟩ rfl) H ⟨[sb f.Name,i6 f.Series.Den,v1,i6 f.Long],[sb d.Name,i6 d.Series.Den,h,i6 d.Long],rfl,(wH (x:=f) (H.item (i:=0) rfl)),⟨[sb d.Name,i6 d.Series.Den,h,i6 d.Long],[],rfl,(wH (x:=d) (H.item (i:=1) rfl)),rfl⟩⟩) ?_
 rintro L bh H
 refine zH (i6 o) ?_
 have H:=H.freeze (i:=4) rfl
 obtain ⟨bi,M,c⟩:=zD c
 refine zO rfl rfl (zM en35 rfl) (Fcaw ([f,d]:List gW) o L _ M _ _ _ (H.enter [] [4])) ?_
 rintro _ C ⟨s,rfl,P⟩
 have H:=H.back1 [4] rfl P
 refine ⟨_,rfl,?_⟩
 refine zI s<| RN J<| zB fun bj Q=>?_
 have H:=H.freeze (i:=5) rfl
 have R:=H
 have H:=H.rebase
 have T:=H
 have bk:=H.firm (i:=5) rfl
 refine aAp H [0,1,2,3,4,5,6,7,8,9] [.pure,.pure,.read,.pure,.pure,.pure,.mk (World.heap C).size,.mk (World.heap C).size,.eff,.eff] ⟨trivial,trivial,trivial,trivial,trivial,trivial,rfl,rfl,trivial,trivial,trivial⟩ mixed (by kernel_rfl) (by kernel_rfl) (by kernel_rfl) (by decide) ?_
 have H:=H.hm
 refine XM s ?_
 obtain ⟨j,t,c⟩:=zD c
 obtain ⟨U,V,bl,bm,X,Y,Z,aa,ab⟩:=fQ (H.item (i:=5) rfl) t
 obtain rfl:=rY Y
 have H:=H.fz (.at U (V+(0:Int).toNat * 2) _) ⟨Z,aa,ab⟩
 refine XP (fun _ _=>xG u47 sz51 X rfl (zZ t).1 (zZ t).2.1 rfl rfl)<| MxM.XL_read oS rfl rfl rfl (fun m k=>yK (yH (cs:=[i6 j.N,.bool j.Known]) agg51 rfl sz51 rfl ((H.sees k).item (i:=6) rfl).2.2) rfl)<| XM s ?_
 obtain ⟨l,u,c⟩:=zD c
 obtain ⟨ac,ad,bn,bo,ae,af,ag,ah,ai⟩:=fQ (H.item (i:=5) rfl) u
 obtain rfl:=rY af
 have H:=H.fz (.at ac (ad+(1:Int).toNat * 2) _) ⟨ag,ah,ai⟩
 refine XP (fun _ _=>xG u47 sz51 ae rfl (zZ u).1 (zZ u).2.1 rfl rfl) ?_
 have aj:=T.firmC (H.item (i:=7) rfl).1.1 (H.item (i:=7) rfl).2.1 (H.item (i:=7) rfl).2.2
 refine XP (fun m k=>yK (yH (cs:=[i6 l.N,.bool l.Known]) agg51 rfl sz51 rfl (aj m k)) rfl)<| H.alloc_rule rfl rfl rfl rfl zero51 ?_
 rintro ak bp H
 refine H.alloc_rule rfl rfl rfl rfl zero51 ?_
 rintro al bq H
 have H:=H.hd
 refine MxM.XL_exU oS rfl rfl (fun m k=>yN (vs:=[i6 j.N,.bool j.Known]) (H.sees k) 8 rfl sz51 rfl rfl rfl ⟨rfl,rfl,trivial⟩ rfl) ?_
 rintro m br k H
 refine ⟨H.only,?_⟩
 refine MxM.XL_exU oS rfl rfl (fun m k=>yN (vs:=[i6 l.N,.bool l.Known]) (H.sees k) 9 rfl sz51 rfl rfl rfl ⟨rfl,rfl,trivial⟩ rfl) ?_
 rintro m bt k H
 refine ⟨H.only,?_⟩
 refine MxM.XL_nil fun bu hS=>?_
 have H:=H.sees hS
 have H:=R.rejoin H
 refine (zG (Q _ _ ?_))
 refine zB fun bv am=>?_
 obtain ⟨D,c,an⟩:=zD c
 refine yL [25,26,27,28,29,30,31,32] (fun (g:Unit)=>[(32,.bool D)]) (fun g wl=>Hd O w wl S [f1 gY v1 f.Series.Samples,f1 gY h d.Series.Samples,.blk G [sb f.Name,i6 f.Series.Den,v1,i6 f.Long] 41,.blk I [sb d.Name,i6 d.Series.Den,h,i6 d.Long] 41,.blk ak [i6 j.N,.bool j.Known] 51,.blk al [i6 l.N,.bool l.Known] 51]) ?_ ?_
 ·skip
  refine zA ?_
  refine zF (fa51_1 rfl)<| Ld jS H 8 1 rfl rfl ?_
  obtain ⟨ao,ap,c⟩:=zC c
  refine zF (zL (xX (p:=j.Known) rfl) ap)<| yR (b:=ao) rfl rfl rfl (fun y=>?_) (fun y=>?_)
  ·have c:=zT y c
   refine yC ?_
   refine yC ?_
   refine yC ?_
   refine zF (yD (v:= .bool true) rfl rfl) ?_
   obtain rfl:=gI c
   exact (zQ (zG (meet ⟨(),(zJ rfl zK),H.pick [0,1,2,3,8,9]⟩)))
  have c:=zU y c
  refine zF (fa51_1 rfl)<| Ld jS H 9 1 rfl rfl ?_
  obtain ⟨aq,ar,c⟩:=zC c
  refine zF (zL (xX (p:=l.Known) rfl) ar)<| zF (zY (v:= .bool aq) rfl rfl) ?_
  obtain rfl:=gI c
  exact (zQ (zG (meet ⟨(),(zJ rfl zK),H.pick [0,1,2,3,8,9]⟩)))
 rintro _ ρ bw H
 have c:=an
 refine yB (b:=D) rfl (fun z=>?_) (fun z=>?_)
 ·have c:=zT z c
  refine zB fun bx au=>zA<| zI (.bool false)<| RN au ?_
  obtain rfl:=gI c
  refine (zW (zV (gZ (v1:= .bool false) rfl rfl ?_)))
  exact ⟨rfl,H.pick []⟩
 have c:=zU z c
 refine zS (zG (am _ _ ?_))
 refine zB fun bz av=>zA<| zF (wX rfl)<| Ld fK H 5 0 rfl rfl<| zF (kV rfl)<| zF (nC rfl)<| Ld fK H 3 1 rfl rfl<| zF (wX rfl)<| Ld fK H 4 0 rfl rfl<| zH (i6 n) ?_
 obtain ⟨aw,ax,c⟩:=zC c
 refine zF (xN (a:=j.N) (b:=n) rfl rfl ax)<| zF (kV rfl)<| zF (nC rfl)<| Ld fK H 2 1 rfl rfl ?_
 have ay:=H
 obtain ⟨az,a0,c⟩:=zD c
 refine zO rfl rfl (zM en48 rfl) (Facw l.N d.Series.Den aw f.Series.Den _ a0 _ _ _ (H.enter [] [])) ?_
 rintro _ b0 ⟨rfl,a1⟩
 have H:=ay.step (a1.only:Only [] _ _)
 refine ⟨_,rfl,?_⟩
 obtain ⟨A,a2,c⟩:=zC c
 refine zF (zL (eQ (a:=az) (b:=0) rfl rfl) a2)<| zI (.bool A)<| RN av<| zB fun b1 a3=>zA<| zF (wX rfl)<| Ld fK H 5 0 rfl rfl<| zF (kV rfl)<| zF (nC rfl)<| Ld fK H 3 1 rfl rfl<| zF (wX rfl)<| Ld fK H 4 0 rfl rfl<| zH (i6 n) ?_
 obtain ⟨a4,a5,c⟩:=zC c
 refine zF (bI (a:=j.N) (b:=n) rfl rfl a5)<| zF (kV rfl)<| zF (nC rfl)<| Ld fK H 2 1 rfl rfl ?_
 have a6:=H
 obtain ⟨a7,a8,c⟩:=zD c
 refine zO rfl rfl (zM en48 rfl) (Facw l.N d.Series.Den a4 f.Series.Den _ a8 _ _ _ (H.enter [] [])) ?_
 rintro _ b2 ⟨rfl,a9⟩
 have H:=a6.step (a9.only:Only [] _ _)
 refine ⟨_,rfl,?_⟩
 obtain ⟨q,ba,c⟩:=zC c
 refine zF (zL (xC (a:=a7) (b:=0) rfl rfl) ba)<| zI (.bool q)<| RN a3 ?_
 obtain ⟨E,c,bb⟩:=zD c
 refine yL [8,61,62,63,64] (fun (g:Unit)=>[(8,.bool E)]) (fun g wl=>Hd O w wl S []) ?_ ?_
 ·skip
  refine zA ?_
  refine zH (.bool A)<| yR (b:=A) rfl rfl rfl (fun B=>?_) (fun B=>?_)
  ·have c:=zT B c
   refine yC ?_
   refine zF (yD (v:= .bool true) rfl rfl)<| zI (.bool true) ?_
   obtain rfl:=gI c
   exact (zQ (zG (meet ⟨(),(zJ rfl zK),H.pick []⟩)))
  have c:=zU B c
  refine zH (.bool q)<| zF (zY (v:= .bool q) rfl rfl)<| zI (.bool q) ?_
  obtain rfl:=gI c
  exact (zQ (zG (meet ⟨(),(zJ rfl zK),H.pick []⟩)))
 rintro _ ρ b3 H
 have c:=bb
 obtain rfl:=gI c
 refine (zW (gZ (v1:= .bool E) rfl rfl ?_))
 exact ⟨rfl,H.pick []⟩
end Go.Proofs.YtgmikmoapfmedaaGreatDoor.L
