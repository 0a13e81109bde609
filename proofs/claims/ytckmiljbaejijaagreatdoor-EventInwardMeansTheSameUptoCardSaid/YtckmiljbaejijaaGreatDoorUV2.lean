/- Walks: what each function computes, for every argument; no condition but those that stand in the statements. -/
import Derived.Test.YtckmiljbaejijaaGreatDoorUV0
import Derived.Test.YtckmiljbaejijaaGreatDoorUV1
namespace Go.Proofs.YtckmiljbaejijaaGreatDoor.L
open Go.RowKit Go.OB Go.Lf
set_option maxHeartbeats 4000000
theorem Fcew (d:Cond)(f:Rules)(c1f1:Int)(v1:Value)(h:Nat)(i:Value)(k:Value)(l:Value)(m:Nat)(j:Nat)(r:Int)(c:Fce d f c1f1=some r)(O S:List Nat)(w:World)(H:Hd O w w S [.blk h [i,k,l] 26,.blk j [i6 c1f1] 3,.blk m [.func (.func 147) #[] #[gV h,gV j]] 48,f1 fA v1 d.Kids,f1 Rp.str i f.Phases,f1 gX k f.Moves,f1 fB l f.Rules]):
  Cl 150 [.agg [i6 d.Kind,sb d.Name,sb d.Other,i6 d.Op,i6 d.N,i6 d.Frames,v1].toArray,gV h,gV m] w fun e z=>e= .returned (i6 r)∧Hd O w z S [.blk h [i,k,l] 26,.blk j [i6 c1f1] 3,.blk m [.func (.func 147) #[] #[gV h,gV j]] 48]:=by
 unfold Fce at c
 refine CW 28 Tryz.func150 ?_
 refine zB fun aa A=>zA<| yQ rfl rfl (xR (cs:=[i6 d.Kind,sb d.Name,sb d.Other,i6 d.Op,i6 d.N,i6 d.Frames,v1]) rfl H) ?_
 rintro _ ab ⟨t,rfl,H⟩
 refine zI (i6 0)<| RN A<| zB fun ac B=>?_
 obtain ⟨u,c,C⟩:=zC c
 refine yK [5,6,7,8,9,10,11,12,13,14,15,16,17,18,19,20,21,22,23,24,25,26,27] (fun (g:Unit)=>[(27,.bool u)]) (fun g wl=>Hd O w wl S [.blk h [i,k,l] 26,f1 Rp.str i f.Phases,f1 gX k f.Moves,f1 fB l f.Rules,.blk j [i6 c1f1] 3,.blk m [.func (.func 147) #[] #[gV h,gV j]] 48]) ?_ ?_
 ·skip
  refine zA ?_
  refine zG (jB rfl)<| Ld fM H 7 0 rfl rfl ?_
  obtain ⟨D,E,c⟩:=zD c
  refine zG (zL (yR (a:=d.Kind) (b:=6) rfl rfl) E) ?_
  obtain ⟨x,c,F⟩:=zC c
  refine bJ 8 [8,9,10,11,12,13,14,15] [(15,.bool x)] (fun wl=>Hd O w wl S [.blk h [i,k,l] 26,.blk j [i6 c1f1] 3,.blk m [.func (.func 147) #[] #[gV h,gV j]] 48,f1 fA v1 d.Kids,f1 Rp.str i f.Phases,f1 gX k f.Moves,f1 fB l f.Rules,.blk t [i6 d.Kind,sb d.Name,sb d.Other,i6 d.Op,i6 d.N,i6 d.Frames,v1] 70]) ?_ ?_
  ·skip
   refine yS (b:=D) rfl rfl rfl (fun n=>?_) (fun n=>?_)
   ·have c:=zO n c
    refine zG (jY rfl)<| Ld jS H 0 0 rfl rfl<| zG (nK rfl)<| Ld bF H 7 1 rfl rfl ?_
    have G:=H
    obtain ⟨I,J,c⟩:=zC c
    refine zZ rfl rfl (zS en87 rfl) (Fapw f.Phases d.Name i _ J _ _ _ (H.enter [] [4])) ?_
    rintro _ ad ⟨rfl,K⟩
    have H:=G.step (K.only:Only [] _ _)
    refine ⟨_,rfl,?_⟩
    obtain ⟨L,M,c⟩:=zD c
    refine zG (zL (wH (p:=I) rfl) M)<| zG (yO (v:= .bool L) rfl rfl) ?_
    obtain rfl:=gI c
    exact yA (zF (meet ⟨(zJ rfl zK),H.pick [0,1,2,3,4,5,6,7]⟩))
   have c:=zQ n c
   refine yG ?_
   refine yG ?_
   refine yG ?_
   refine yG ?_
   refine yG ?_
   refine yG ?_
   refine zG (yM (v:= .bool false) rfl rfl) ?_
   obtain rfl:=gI c
   exact yA (zF (meet ⟨(zJ rfl zK),H.pick [0,1,2,3,4,5,6,7]⟩))
  rintro ρ ae H
  have c:=F
  refine yS (b:=x) rfl rfl rfl (fun o=>?_) (fun o=>?_)
  ·have c:=zO o c
   refine yG ?_
   refine yG ?_
   refine yG ?_
   refine yG ?_
   refine yG ?_
   refine yG ?_
   refine yG ?_
   refine yG ?_
   refine yG ?_
   refine yG ?_
   refine zG (yO (v:= .bool true) rfl rfl) ?_
   obtain rfl:=gI c
   exact (yA (zF (meet ⟨(),(zJ rfl zK),H.pick [0,4,5,6,1,2]⟩)))
  have c:=zQ o c
  refine zG (jB rfl)<| Ld fM H 7 0 rfl rfl ?_
  obtain ⟨P,Q,c⟩:=zD c
  refine zG (zL (yR (a:=d.Kind) (b:=7) rfl rfl) Q)<| yS (b:=P) rfl rfl rfl (fun q=>?_) (fun q=>?_)
  ·have c:=zO q c
   refine Ld one48 H 2 0 rfl rfl<| zG (nK rfl)<| Ld bF H 7 1 rfl rfl ?_
   obtain ⟨R,T,c⟩:=zC c
   refine zZ rfl rfl (bQ en147 rfl rfl) (Fbaw d.Name f c1f1 h i k l j _ T _ _ _ (H.enter [0,1] [4,5,6])) ?_
   rintro _ U ⟨rfl,V⟩
   have H:Hd _ _ U _ [.blk m [.func (.func 147) #[] #[gV h,gV j]] 48,f1 fA v1 d.Kids,f1 Rp.str i f.Phases,f1 gX k f.Moves,f1 fB l f.Rules,.blk t [i6 d.Kind,sb d.Name,sb d.Other,i6 d.Op,i6 d.N,i6 d.Frames,v1] 70,.blk h [i,k,l] 26,.blk j [i6 c1f1] 3]:=H.back [0,1] [4,5,6] rfl V
   refine ⟨_,rfl,?_⟩
   obtain ⟨y,X,c⟩:=zD c
   refine zG (zL (wH (p:=R) rfl) X)<| zG (yO (v:= .bool y) rfl rfl)<| zG (yM (v:= .bool y) rfl rfl) ?_
   obtain rfl:=gI c
   exact (yA (zF (meet ⟨(),(zJ rfl zK),H.pick [6,2,3,4,7,0]⟩)))
  have c:=zQ q c
  refine yG ?_
  refine yG ?_
  refine yG ?_
  refine yG ?_
  refine yG ?_
  refine zG (yM (v:= .bool false) rfl rfl)<| zG (yM (v:= .bool false) rfl rfl) ?_
  obtain rfl:=gI c
  exact (yA (zF (meet ⟨(),(zJ rfl zK),H.pick [0,4,5,6,1,2]⟩)))
 rintro _ ρ af H
 have c:=C
 refine zY (b:=u) rfl (fun s=>?_) (fun s=>?_)
 ·have c:=zO s c
  refine zB fun ag Y=>zA<| zI (i6 4)<| RN Y ?_
  obtain rfl:=gI c
  refine (zW (zV (fC (v1:=i6 4) rfl rfl ?_)))
  exact ⟨rfl,H.pick [0,4,5]⟩
 have c:=zQ s c
 refine zX (zF (B _ _ ?_))
 refine zB fun ah Z=>zA<| zI (i6 0)<| RN Z ?_
 obtain rfl:=gI c
 refine (zW (fC (v1:=i6 0) rfl rfl ?_))
 exact ⟨rfl,H.pick [0,4,5]⟩
abbrev Ffj (f:Cond→Rules→Int→Option Int):Prop:= ∀(p0:Cond) (p1c0:Rules) (p1c1f1:Int) (v1:Value) (b3:Nat) (v4:Value) (v5:Value) (v6:Value) (b11:Nat) (b13:Nat) (r:Int) (_:f p0 p1c0 p1c1f1=some r) (O S:List Nat) (w:World) (_:Hd O w w S [.blk b3 [v4,v5,v6] 26,.blk b13 [i6 p1c1f1] 3,.blk b11 [.func (.func 147) #[] #[gV b3,gV b13]] 48,f1 fA v1 p0.Kids,f1 Rp.str v4 p1c0.Phases,f1 gX v5 p1c0.Moves,f1 fB v6 p1c0.Rules]),
  Cl 81 [.agg [i6 p0.Kind,sb p0.Name,sb p0.Other,i6 p0.Op,i6 p0.N,i6 p0.Frames,v1].toArray,.func (.func 150) #[] #[gV b3,gV b11]] w fun e w'=>e= .returned (i6 r)∧Hd O w w' S [.blk b3 [v4,v5,v6] 26,.blk b13 [i6 p1c1f1] 3,.blk b11 [.func (.func 147) #[] #[gV b3,gV b13]] 48]
theorem Fccw (rfF:Cond→Rules→Int→Option Int)(rhF:Ffj rfF)(f:Cond)(p1c0:Rules)(p1c1f1:Int)(v1:Value)(h:Nat)(k:Value)(l:Value)(m:Value)(n:Nat)(j:Nat)(r:Int)(c:Fcc rfF f p1c0 p1c1f1=some r)(O S:List Nat)(w:World)(H:Hd O w w S [.blk h [k,l,m] 26,.blk j [i6 p1c1f1] 3,.blk n [.func (.func 147) #[] #[gV h,gV j]] 48,f1 fA v1 f.Kids,f1 Rp.str k p1c0.Phases,f1 gX l p1c0.Moves,f1 fB m p1c0.Rules]):
  Cl 81 [.agg [i6 f.Kind,sb f.Name,sb f.Other,i6 f.Op,i6 f.N,i6 f.Frames,v1].toArray,.func (.func 150) #[] #[gV h,gV n]] w fun e C=>e= .returned (i6 r)∧Hd O w C S [.blk h [k,l,m] 26,.blk j [i6 p1c1f1] 3,.blk n [.func (.func 147) #[] #[gV h,gV j]] 48]:=by
 unfold Fcc at c
 refine CW 29 Tryz.func81 ?_
 refine zB fun a1 D=>zA<| yQ rfl rfl (xR (cs:=[i6 f.Kind,sb f.Name,sb f.Other,i6 f.Op,i6 f.N,i6 f.Frames,v1]) rfl H) ?_
 rintro _ a2 ⟨E,rfl,H⟩
 refine zI (i6 0)<| RN D<| zB fun a3 F=>zB fun a4 G=>zA<| zH (.func (.func 150) #[] #[gV h,gV n])<| zG (yJ (yF (cs:=[i6 f.Kind,sb f.Name,sb f.Other,i6 f.Op,i6 f.N,i6 f.Frames,v1]) eG rfl fZ rfl (Hbc H 7 rfl)) rfl) ?_
 obtain ⟨p,I,c⟩:=zC c
 refine zZ rfl rfl (bQ en150 rfl rfl) (Fcew f p1c0 p1c1f1 v1 h k l m n j _ I _ _ _ (H.enter [0,1,2] [3,4,5,6])) ?_
 rintro _ J ⟨rfl,K⟩
 have H:Hd _ _ J _ [f1 fA v1 f.Kids,f1 Rp.str k p1c0.Phases,f1 gX l p1c0.Moves,f1 fB m p1c0.Rules,.blk E [i6 f.Kind,sb f.Name,sb f.Other,i6 f.Op,i6 f.N,i6 f.Frames,v1] 70,.blk h [k,l,m] 26,.blk j [i6 p1c1f1] 3,.blk n [.func (.func 147) #[] #[gV h,gV j]] 48]:=H.back [0,1,2] [3,4,5,6] rfl K
 refine ⟨_,rfl,?_⟩
 refine zI (i6 p)<| RN G<| zB fun a5 L=>zA<| zH (i6 p) ?_
 obtain ⟨M,P,c⟩:=zD c
 refine zG (zL (dC (a:=p) (b:=0) rfl rfl) P)<| RN L<| zY (b:=M) rfl (fun t=>?_) (fun t=>?_)
 ·have c:=zO t c
  refine zB fun a6 Q=>zA<| zH (i6 p)<| zI (i6 p)<| RN Q ?_
  obtain rfl:=gI c
  refine (zW (zV (fC (v1:=i6 p) rfl rfl ?_)))
  exact ⟨rfl,H.pick [5,6,7]⟩
 have c:=zQ t c
 refine zX (zF (F _ _ ?_))
 obtain ⟨R,T,c⟩:=wI c
 refine yK [4,7,8,15,16,17,18,19,20,21,22,23,24,25,26,27,28] (fun (g:Unit)=>[]) (fun g wl=>Hd O w wl S [f1 Rp.str k p1c0.Phases,f1 gX l p1c0.Moves,f1 fB m p1c0.Rules,.blk h [k,l,m] 26,.blk j [i6 p1c1f1] 3,.blk n [.func (.func 147) #[] #[gV h,gV j]] 48]∧R ()=some r) ?_ ?_
 ·skip
  refine zB fun a7 U=>zA<| zG (jJ rfl)<| Ld tJ H 4 6 rfl rfl ?_
  obtain ⟨V,X,c⟩:=zD c
  obtain ⟨a8,a9,Y⟩:=SlF.len ((H.item (i:=0) rfl))
  refine zG (yJ (xO u68 Y) (congrArg (Value.int .i64) X))<| zH (i6 0)<| RN U<| yD ?_
  unfold Fen at c
  obtain ⟨Z,y,aa,c⟩:=yT c
  refine xB [4,7,8,18,19,20,21,22,23,24,25,26,27,28] (fun (g:Nat×Int)=>[(18,i6 g.2)]) (fun g wl=>Hd O w wl S [f1 fA v1 f.Kids,f1 Rp.str k p1c0.Phases,f1 gX l p1c0.Moves,f1 fB m p1c0.Rules,.blk h [k,l,m] 26,.blk j [i6 p1c1f1] 3,.blk n [.func (.func 147) #[] #[gV h,gV j]] 48]∧fV Z g.1 g.2=some r) (fun g=>g.1) (y,0) (zJ rfl zK) ⟨H.pick [0,1,2,3,5,6,7],c⟩ ?_
  clear H c
  rintro ⟨y,s⟩ ρ ba ⟨H,c⟩
  obtain ⟨ab,rfl,c⟩:=yZ c
  have c:=yY aa c
  refine zB fun bb ac=>zA ?_
  obtain ⟨ad,ae,c⟩:=zD c
  refine zG (zL (xP (a:=s) (b:=V) rfl rfl) ae)<| RN ac<| zB fun bc af=>zY (b:=ad) rfl (fun u=>?_) (fun u=>?_)
  ·have c:=zO u c
   refine zX (zF (af _ _ ?_))
   refine zB fun bd ag=>?_
   refine yD ?_
   refine zB fun be ah=>zA ?_
   obtain ⟨d,v,c⟩:=zC c
   obtain ⟨z,A,bf,bg,ai,aj,ak,al,am⟩:=dI (H.item (i:=0) rfl) v
   obtain ⟨o,rfl,an⟩:=cO aj
   have H:=H.fzs [.at z (A+s.toNat * 7) _,.sl fA o d.Kids] ⟨⟨ak,al,am⟩,an,trivial⟩
   refine zG (xC u68 fZ ai rfl (yC v).1 (yC v).2.1 rfl rfl)<| zG (yJ (yF (cs:=[i6 d.Kind,sb d.Name,sb d.Other,i6 d.Op,i6 d.N,i6 d.Frames,o]) eG rfl fZ rfl (H.item (i:=7) rfl).2.2) rfl)<| yQ rfl rfl (xA aB H) ?_
   rintro _ bh ⟨ao,rfl,H⟩
   refine yP rfl (yL (vs:=[i6 d.Kind,sb d.Name,sb d.Other,i6 d.Op,i6 d.N,i6 d.Frames,o]) H 9 rfl fZ rfl rfl rfl ⟨rfl,rfl,rfl,rfl,rfl,rfl,(xY (H.item (i:=8) rfl)),trivial⟩ rfl) ?_
   rintro bi H
   refine RN ah<| zB fun bj ap=>zA<| zG (yJ (yF (cs:=[i6 d.Kind,sb d.Name,sb d.Other,i6 d.Op,i6 d.N,i6 d.Frames,o]) eG rfl fZ rfl (Hbc H 9 rfl)) rfl)<| zH (.func (.func 150) #[] #[gV h,gV n]) ?_
   obtain ⟨q,aq,c⟩:=zC c
   refine zZ rfl rfl (zS aNh rfl) (rhF d p1c0 p1c1f1 o h k l m n j _ aq _ _ _ (H.enter [4,5,6] [8,1,2,3])) ?_
   rintro _ ar ⟨rfl,au⟩
   have H:Hd _ _ ar _ [f1 fA v1 f.Kids,f1 Rp.str k p1c0.Phases,f1 gX l p1c0.Moves,f1 fB m p1c0.Rules,.fz (.at z (A+s.toNat * 7) [i6 d.Kind,sb d.Name,sb d.Other,i6 d.Op,i6 d.N,i6 d.Frames,o]),f1 fA o d.Kids,.blk ao [i6 d.Kind,sb d.Name,sb d.Other,i6 d.Op,i6 d.N,i6 d.Frames,o] 70,.blk h [k,l,m] 26,.blk j [i6 p1c1f1] 3,.blk n [.func (.func 147) #[] #[gV h,gV j]] 48]:=H.back [4,5,6] [8,1,2,3] rfl au
   refine ⟨_,rfl,?_⟩
   refine zI (i6 q)<| RN ap<| zB fun bk av=>zA<| zH (i6 q) ?_
   obtain ⟨aw,ax,c⟩:=zD c
   refine zG (zL (dC (a:=q) (b:=0) rfl rfl) ax)<| RN av<| zY (b:=aw) rfl (fun x=>?_) (fun x=>?_)
   ·have c:=zO x c
    refine zB fun bl ay=>zA<| zH (i6 q)<| zI (i6 q)<| RN ay ?_
    obtain rfl:=gI c
    refine (zW (yE (zV (zV (yE (zV (fC (v1:=i6 q) rfl rfl ?_)))))))
    exact ⟨rfl,H.pick [7,8,9]⟩
   have c:=zQ x c
   refine (zX (yH (zF (ag _ _ ?_))))
   refine zA ?_
   obtain ⟨B,az,c⟩:=zD c
   refine zG (xM (a:=s) (b:=1) rfl rfl az)<| zH (i6 B) ?_
   exact (yA (zF (meet ⟨(ab,B),(zJ rfl zK),⟨H.pick [0,1,2,3,7,8,9],c⟩,Nat.lt_succ_self _⟩)))
  have c:=zQ u c
  exact (xI (yI (yI (yV (zF (meet ⟨(),zK,⟨H.pick [1,2,3,4,5,6],c⟩⟩))))))
 rintro _ ρ bm ⟨H,c⟩
 have c:=dF T c
 refine zB fun bn a0=>zA<| zI (i6 0)<| RN a0 ?_
 obtain rfl:=gI c
 refine (zW (fC (v1:=i6 0) rfl rfl ?_))
 exact ⟨rfl,H.pick [3,4,5]⟩
theorem Fgn:Ffj (Ffb):=by
 have h: ∀n,Ffj (Fbt n):=by
  intro n
  induction n with
  | zero=>intro b p1c0 p1c1f1 c d e f i j k r a; cases a
  | succ n ih=>intro b p1c0 p1c1f1 c d e f i j k r a; exact Fccw (Fbt n) ih b p1c0 p1c1f1 c d e f i j k r a
 exact h FU
theorem Fb6w (h:Rules)(j:Int)(v1:Value)(k:Value)(l:Value)(r:Int)(d:Fb6 h j=some r)(O S:List Nat)(w:World)(H:Hd O w w S [f1 Rp.str v1 h.Phases,f1 gX k h.Moves,f1 fB l h.Rules]):
  Cl 89 [.agg [v1,k,l].toArray,i6 j] w fun e E=>e= .returned (i6 r)∧Hd O w E S []:=by
 unfold Fb6 at d
 refine CW 34 Tryz.func89 ?_
 refine zB fun K7 F=>zA<| yQ rfl rfl (xR (cs:=[v1,k,l]) rfl H) ?_
 rintro _ aw ⟨m,rfl,H⟩
 refine yQ rfl rfl (uZ rfl rfl H) ?_
 rintro _ ax ⟨n,rfl,H⟩
 refine zI (i6 0)<| RN F<| zB fun ay G=>zA<| zG (kY rfl)<| Ld rJ H 3 2 rfl rfl<| Ld fM H 4 0 rfl rfl ?_
 obtain ⟨c,q,d⟩:=zC d
 obtain ⟨s,t,az,a0,I,J,K,L,M⟩:=dI (H.item (i:=2) rfl) q
 obtain ⟨f,rfl,P⟩:=jE J
 have H:=H.fzs [.at s (t+j.toNat * 8) _,.sl fA f c.When.Kids] ⟨⟨K,L,M⟩,P,trivial⟩
 refine zG (xC u24 rZ I rfl (yC q).1 (yC q).2.1 rfl rfl)<| zG (yJ (yF (cs:=[sb c.Name,i6 c.When.Kind,sb c.When.Name,sb c.When.Other,i6 c.When.Op,i6 c.When.N,i6 c.When.Frames,f]) aHe rfl rZ rfl (H.item (i:=5) rfl).2.2) rfl)<| yQ rfl rfl (xA aFb H) ?_
 rintro _ a1 ⟨A,rfl,H⟩
 refine yP rfl (yL (vs:=[sb c.Name,i6 c.When.Kind,sb c.When.Name,sb c.When.Other,i6 c.When.Op,i6 c.When.N,i6 c.When.Frames,f]) H 7 rfl rZ rfl rfl rfl ⟨rfl,rfl,rfl,rfl,rfl,rfl,rfl,(xY (H.item (i:=6) rfl)),trivial⟩ rfl) ?_
 rintro a2 H
 refine RN G<| zB fun a3 Q=>zA<| zG (dV rfl)<| yQ rfl rfl (xA zero48 H) ?_
 rintro _ a4 ⟨u,rfl,H⟩
 refine yP rfl (xE H 8 rfl sz48 rfl (v:= .func (.func 147) #[] #[gV m,gV n]) rfl rfl rfl) ?_
 rintro a5 H
 refine RN Q<| zB fun a6 R=>yD<| zB fun a7 T=>zA<| zG (aBn rfl)<| Ld bF H 7 0 rfl rfl ?_
 have U:=H
 obtain ⟨V,X,d⟩:=zC d
 refine zZ rfl rfl (zS en86 rfl) (Fagw c.Name _ X _ _ _ (H.enter [] [])) ?_
 rintro _ a8 ⟨rfl,Y⟩
 have H:=U.step (Y.only:Only [] _ _)
 refine ⟨_,rfl,?_⟩
 obtain ⟨B,Z,d⟩:=zD d
 refine zG (zL (wH (p:=V) rfl) Z)<| zI (.bool B)<| RN T<| zY (b:=B) rfl (fun x=>?_) (fun x=>?_)
 ·have d:=zO x d
  refine zB fun a9 aa=>zA<| zI (i6 8)<| RN aa ?_
  obtain rfl:=gI d
  refine (zW (yE (zV (fC (v1:=i6 8) rfl rfl ?_))))
  exact ⟨rfl,H.pick []⟩
 have d:=zQ x d
 refine zB fun ba ab=>zA<| Ld one48 H 8 0 rfl rfl<| zG (aBn rfl)<| Ld bF H 7 0 rfl rfl ?_
 obtain ⟨C,ac,d⟩:=zC d
 refine zZ rfl rfl (bQ en147 rfl rfl) (Fbaw c.Name h j m v1 k l n _ ac _ _ _ (H.enter [3,4] [0,1,2])) ?_
 rintro _ ad ⟨rfl,ae⟩
 have H:Hd _ _ ad _ [f1 Rp.str v1 h.Phases,f1 gX k h.Moves,f1 fB l h.Rules,.fz (.at s (t+j.toNat * 8) [sb c.Name,i6 c.When.Kind,sb c.When.Name,sb c.When.Other,i6 c.When.Op,i6 c.When.N,i6 c.When.Frames,f]),f1 fA f c.When.Kids,.blk A [sb c.Name,i6 c.When.Kind,sb c.When.Name,sb c.When.Other,i6 c.When.Op,i6 c.When.N,i6 c.When.Frames,f] 95,.blk u [.func (.func 147) #[] #[gV m,gV n]] 48,.blk m [v1,k,l] 26,.blk n [i6 j] 3]:=H.back [3,4] [0,1,2] rfl ae
 refine ⟨_,rfl,?_⟩
 refine zI (.bool C)<| RN ab<| zY (b:=C) rfl (fun y=>?_) (fun y=>?_)
 ·have d:=zO y d
  refine zB fun bb af=>zA<| zI (i6 5)<| RN af ?_
  obtain rfl:=gI d
  refine (zW (yE (zV (fC (v1:=i6 5) rfl rfl ?_))))
  exact ⟨rfl,H.pick []⟩
 have d:=zQ y d
 refine (zX (yH (zF (R _ _ ?_))))
 refine zB fun bc ag=>?_
 refine zB fun bd ah=>zA<| zG (vY rfl)<| zG (yJ (yF (cs:=[i6 c.When.Kind,sb c.When.Name,sb c.When.Other,i6 c.When.Op,i6 c.When.N,i6 c.When.Frames,f]) eG rfl fZ rfl (Cells.drop (Hbc H 5 rfl) 1 7)) rfl) ?_
 have ai:=H
 obtain ⟨o,aj,d⟩:=zC d
 refine zZ rfl rfl (zS en29 rfl) (Fasw c.When f _ aj _ _ _ (H.enter [] [4])) ?_
 rintro _ be ⟨rfl,ak⟩
 have H:=ai.step (ak.only:Only [] _ _)
 refine ⟨_,rfl,?_⟩
 refine zI (i6 o)<| RN ah<| zB fun bf al=>zA<| zH (i6 o) ?_
 obtain ⟨am,an,d⟩:=zD d
 refine zG (zL (dC (a:=o) (b:=0) rfl rfl) an)<| RN al<| zY (b:=am) rfl (fun z=>?_) (fun z=>?_)
 ·have d:=zO z d
  refine zB fun bg ao=>zA<| zH (i6 o)<| zI (i6 o)<| RN ao ?_
  obtain rfl:=gI d
  refine (zW (zV (fC (v1:=i6 o) rfl rfl ?_)))
  exact ⟨rfl,H.pick []⟩
 have d:=zQ z d
 refine zX (zF (ag _ _ ?_))
 refine zB fun bh ap=>zA<| zG (vY rfl)<| zG (yJ (yF (cs:=[i6 c.When.Kind,sb c.When.Name,sb c.When.Other,i6 c.When.Op,i6 c.When.N,i6 c.When.Frames,f]) eG rfl fZ rfl (Cells.drop (Hbc H 5 rfl) 1 7)) rfl)<| zG (dV rfl) ?_
 obtain ⟨D,aq,d⟩:=zC d
 refine zZ rfl rfl (zS aNh rfl) (Fgn c.When h j f m v1 k l u n _ aq _ _ _ (H.enter [7,8,6] [4,0,1,2])) ?_
 rintro _ ar ⟨rfl,au⟩
 have H:Hd _ _ ar _ [f1 Rp.str v1 h.Phases,f1 gX k h.Moves,f1 fB l h.Rules,.fz (.at s (t+j.toNat * 8) [sb c.Name,i6 c.When.Kind,sb c.When.Name,sb c.When.Other,i6 c.When.Op,i6 c.When.N,i6 c.When.Frames,f]),f1 fA f c.When.Kids,.blk A [sb c.Name,i6 c.When.Kind,sb c.When.Name,sb c.When.Other,i6 c.When.Op,i6 c.When.N,i6 c.When.Frames,f] 95,.blk m [v1,k,l] 26,.blk n [i6 j] 3,.blk u [.func (.func 147) #[] #[gV m,gV n]] 48]:=H.back [7,8,6] [4,0,1,2] rfl au
 refine ⟨_,rfl,?_⟩
 refine zI (i6 D)<| RN ap ?_
 obtain rfl:=gI d
 refine (zW (fC (v1:=i6 D) rfl rfl ?_))
 exact ⟨rfl,H.pick []⟩
set_option maxRecDepth 100000 in
theorem Fa6w (d:Rules)(v1:Value)(h:Value)(j:Value)(r:Int)(c:Fa6 d=some r)(O S:List Nat)(w:World)(H:Hd O w w S [f1 Rp.str v1 d.Phases,f1 gX h d.Moves,f1 fB j d.Rules]):
  Cl 31 [.agg [v1,h,j].toArray] w fun e X=>e= .returned (i6 r)∧Hd O w X S []:=by
 unfold Fa6 at c
 refine CW 71 Tryz.func31 ?_
 refine zB fun K7 Y=>zA<| yQ rfl rfl (xR (cs:=[v1,h,j]) rfl H) ?_
 rintro _ dp ⟨k,rfl,H⟩
 refine zI (i6 0)<| RN Y<| zB fun dq Z=>?_
 obtain ⟨J,c,aa⟩:=zC c
 refine yK [10,11,12,13,14,15,16,17,18,19,20,21,22,23,24,25] (fun (g:Unit)=>[(25,.bool J)]) (fun g wl=>Hd O w wl S [f1 Rp.str v1 d.Phases,f1 gX h d.Moves,f1 fB j d.Rules,.blk k [v1,h,j] 26]) ?_ ?_
 ·skip
  refine zA ?_
  refine zG (jY rfl)<| Ld jS H 3 0 rfl rfl ?_
  obtain ⟨ab,ac,c⟩:=zD c
  obtain ⟨dr,ds,ad⟩:=SlF.len ((H.item (i:=0) rfl))
  refine zG (yJ (xO u22 ad) (congrArg (Value.int .i64) ac)) ?_
  obtain ⟨ae,af,c⟩:=zD c
  refine zG (zL (aI (a:=ab) (b:=20) rfl rfl) af) ?_
  obtain ⟨K,c,ag⟩:=zC c
  refine bJ 6 [14,15,16,17,18,19] [(19,.bool K)] (fun wl=>Hd O w wl S [f1 Rp.str v1 d.Phases,f1 gX h d.Moves,f1 fB j d.Rules,.blk k [v1,h,j] 26]) ?_ ?_
  ·skip
   refine yS (b:=ae) rfl rfl rfl (fun t=>?_) (fun t=>?_)
   ·have c:=zO t c
    refine yG ?_
    refine yG ?_
    refine yG ?_
    refine yG ?_
    refine zG (yO (v:= .bool true) rfl rfl) ?_
    obtain rfl:=gI c
    exact yA (zF (meet ⟨(zJ rfl zK),H.pick [0,1,2,3]⟩))
   have c:=zQ t c
   refine zG (aBu rfl)<| Ld aHz H 3 1 rfl rfl ?_
   obtain ⟨ah,ai,c⟩:=zD c
   obtain ⟨dt,du,aj⟩:=SlF.len ((H.item (i:=1) rfl))
   refine zG (yJ (xO u23 aj) (congrArg (Value.int .i64) ai)) ?_
   obtain ⟨ak,al,c⟩:=zD c
   refine zG (zL (aI (a:=ah) (b:=60) rfl rfl) al)<| zG (yM (v:= .bool ak) rfl rfl) ?_
   obtain rfl:=gI c
   exact yA (zF (meet ⟨(zJ rfl zK),H.pick [0,1,2,3]⟩))
  rintro ρ dv H
  have c:=ag
  refine yS (b:=K) rfl rfl rfl (fun u=>?_) (fun u=>?_)
  ·have c:=zO u c
   refine yG ?_
   refine yG ?_
   refine yG ?_
   refine yG ?_
   refine zG (yO (v:= .bool true) rfl rfl) ?_
   obtain rfl:=gI c
   exact (yA (zF (meet ⟨(),(zJ rfl zK),H.pick [0,1,2,3]⟩)))
  have c:=zQ u c
  refine zG (kY rfl)<| Ld rJ H 3 2 rfl rfl ?_
  obtain ⟨am,an,c⟩:=zD c
  obtain ⟨dw,dx,ao⟩:=SlF.len ((H.item (i:=2) rfl))
  refine zG (yJ (xO u24 ao) (congrArg (Value.int .i64) an)) ?_
  obtain ⟨ap,aq,c⟩:=zD c
  refine zG (zL (aI (a:=am) (b:=60) rfl rfl) aq)<| zG (yM (v:= .bool ap) rfl rfl) ?_
  obtain rfl:=gI c
  exact (yA (zF (meet ⟨(),(zJ rfl zK),H.pick [0,1,2,3]⟩)))
 rintro _ ρ dy H
 have c:=aa
 refine zY (b:=J) rfl (fun x=>?_) (fun x=>?_)
 ·have c:=zO x c
  refine zB fun dz ar=>zA<| zI (i6 3)<| RN ar ?_
  obtain rfl:=gI c
  refine (zW (zV (fC (v1:=i6 3) rfl rfl ?_)))
  exact ⟨rfl,H.pick []⟩
 have c:=zQ x c
 refine zX (zF (Z _ _ ?_))
 obtain ⟨au,av,c⟩:=wI c
 refine yK [2,3,4,26,27,28,29,30,31,32,33,34,35,36,37,38,39,40,41,42,43] (fun (g:Unit)=>[]) (fun g wl=>Hd O w wl S [f1 Rp.str v1 d.Phases,f1 gX h d.Moves,f1 fB j d.Rules,.blk k [v1,h,j] 26]∧au ()=some r) ?_ ?_
 ·skip
  refine zB fun d0 aw=>zA<| zG (jY rfl)<| Ld jS H 3 0 rfl rfl ?_
  obtain ⟨ax,ay,c⟩:=zD c
  obtain ⟨d1,d2,az⟩:=SlF.len ((H.item (i:=0) rfl))
  refine zG (yJ (xO u22 az) (congrArg (Value.int .i64) ay))<| zH (i6 0)<| RN aw<| yD ?_
  unfold Fft at c
  obtain ⟨a0,L,a1,c⟩:=yT c
  refine xB [2,3,4,29,30,31,32,33,34,35,36,37,38,39,40,41,42,43] (fun (g:Nat×Int)=>[(29,i6 g.2)]) (fun g wl=>Hd O w wl S [f1 Rp.str v1 d.Phases,f1 gX h d.Moves,f1 fB j d.Rules,.blk k [v1,h,j] 26]∧fV a0 g.1 g.2=some r) (fun g=>g.1) (L,0) (zJ rfl zK) ⟨H.pick [0,1,2,3],c⟩ ?_
  clear H c
  rintro ⟨L,l⟩ ρ d3 ⟨H,c⟩
  obtain ⟨a2,rfl,c⟩:=yZ c
  have c:=yY a1 c
  refine zB fun d4 a3=>zA ?_
  obtain ⟨a4,a5,c⟩:=zD c
  refine zG (zL (xP (a:=l) (b:=ax) rfl rfl) a5)<| RN a3<| zB fun d5 a6=>zY (b:=a4) rfl (fun y=>?_) (fun y=>?_)
  ·have c:=zO y c
   refine zX (zF (a6 _ _ ?_))
   refine zB fun d6 a7=>?_
   refine yD ?_
   refine zB fun d7 a8=>zA<| zH (i6 l) ?_
   obtain ⟨m,z,c⟩:=zC c
   obtain ⟨a9,ba,d8,bb,bc,bd,be,bf,bg⟩:=dI (H.item (i:=0) rfl) z
   obtain rfl:bb= [sb m]:=bd
   have H:=H.fz (.at a9 (ba+l.toNat * 1) _) ⟨be,bf,bg⟩
   refine zG (xC u22 sz9 bc rfl (yC z).1 (yC z).2.1 rfl rfl)<| zG (xG bF rfl (Cells.get (H.item (i:=4) rfl).2.2 (i:=0) rfl))<| zI (i6 l)<| zI (sb m)<| RN a8<| zB fun d9 bh=>zB fun ea bi=>zA<| zH (sb m) ?_
   have bj:=H
   obtain ⟨bk,bl,c⟩:=zC c
   refine zZ rfl rfl (zS en86 rfl) (Fagw m _ bl _ _ _ (H.enter [] [])) ?_
   rintro _ eb ⟨rfl,bm⟩
   have H:=bj.step (bm.only:Only [] _ _)
   refine ⟨_,rfl,?_⟩
   obtain ⟨bn,bo,c⟩:=zD c
   refine zG (zL (wH (p:=bk) rfl) bo)<| RN bi<| zY (b:=bn) rfl (fun A=>?_) (fun A=>?_)
   ·have c:=zO A c
    refine zB fun ec bp=>zA<| zI (i6 8)<| RN bp ?_
    obtain rfl:=gI c
    refine (zW (zV (yE (zV (zV (yE (zV (fC (v1:=i6 8) rfl rfl ?_))))))))
    exact ⟨rfl,H.pick []⟩
   have c:=zQ A c
   refine zX (zF (bh _ _ ?_))
   refine zB fun ed bq=>zA<| zG (jY rfl)<| Ld jS H 3 0 rfl rfl<| zH (i6 l) ?_
   obtain ⟨M,br,c⟩:=zC c
   refine aEe rfl rfl (wU u22 sz9 (H.item (i:=0) rfl) rfl rfl br) ?_
   rintro P bt
   have H:=H.fz (.sl Rp.str P M) bt
   refine zH (sb m) ?_
   have bu:=H
   obtain ⟨bv,bw,c⟩:=zC c
   refine zZ rfl rfl (zS en87 rfl) (Fapw M m P _ bw _ _ _ (H.enter [] [5])) ?_
   rintro _ ee ⟨rfl,bx⟩
   have H:=bu.step (bx.only:Only [] _ _)
   refine ⟨_,rfl,?_⟩
   refine RN bq<| zY (b:=bv) rfl (fun B=>?_) (fun B=>?_)
   ·have c:=zO B c
    refine zB fun ef bz=>zA<| zI (i6 5)<| RN bz ?_
    obtain rfl:=gI c
    refine (zW (yE (zV (zV (yE (zV (fC (v1:=i6 5) rfl rfl ?_)))))))
    exact ⟨rfl,H.pick []⟩
   have c:=zQ B c
   refine (zX (yH (zF (a7 _ _ ?_))))
   refine zA ?_
   obtain ⟨Q,b0,c⟩:=zD c
   refine zG (xM (a:=l) (b:=1) rfl rfl b0)<| zH (i6 Q) ?_
   exact (yA (zF (meet ⟨(a2,Q),(zJ rfl zK),⟨H.pick [0,1,2,3],c⟩,Nat.lt_succ_self _⟩)))
  have c:=zQ y c
  exact (xI (yI (yI (yV (zF (meet ⟨(),zK,⟨H.pick [0,1,2,3],c⟩⟩))))))
 rintro _ ρ eg ⟨H,c⟩
 have c:=dF av c
 obtain ⟨b1,b2,c⟩:=wI c
 refine yK [2,6,7,44,45,46,47,48,49,50,51,52,53,54,55,56,57] (fun (g:Unit)=>[]) (fun g wl=>Hd O w wl S [f1 Rp.str v1 d.Phases,f1 gX h d.Moves,f1 fB j d.Rules,.blk k [v1,h,j] 26]∧b1 ()=some r) ?_ ?_
 ·skip
  refine zB fun eh b3=>zA<| zG (aBu rfl)<| Ld aHz H 3 1 rfl rfl ?_
  obtain ⟨b4,b5,c⟩:=zD c
  obtain ⟨ei,ej,b6⟩:=SlF.len ((H.item (i:=1) rfl))
  refine zG (yJ (xO u23 b6) (congrArg (Value.int .i64) b5))<| zH (i6 0)<| RN b3<| yD ?_
  unfold Fea at c
  obtain ⟨b7,R,b8,c⟩:=yT c
  refine xB [2,6,7,47,48,49,50,51,52,53,54,55,56,57] (fun (g:Nat×Int)=>[(47,i6 g.2)]) (fun g wl=>Hd O w wl S [f1 Rp.str v1 d.Phases,f1 gX h d.Moves,f1 fB j d.Rules,.blk k [v1,h,j] 26]∧fV b7 g.1 g.2=some r) (fun g=>g.1) (R,0) (zJ rfl zK) ⟨H.pick [0,1,2,3],c⟩ ?_
  clear H c
  rintro ⟨R,C⟩ ρ ek ⟨H,c⟩
  obtain ⟨b9,rfl,c⟩:=yZ c
  have c:=yY b8 c
  refine zB fun el ca=>zA ?_
  obtain ⟨cb,cc,c⟩:=zD c
  refine zG (zL (xP (a:=C) (b:=b4) rfl rfl) cc)<| RN ca<| zB fun em cd=>zY (b:=cb) rfl (fun D=>?_) (fun D=>?_)
  ·have c:=zO D c
   refine zX (zF (cd _ _ ?_))
   refine zB fun en ce=>?_
   refine yD ?_
   refine zB fun eo cf=>zA ?_
   obtain ⟨f,E,c⟩:=zC c
   obtain ⟨cg,ch,ep,er,ci,cj,ck,cl,cm⟩:=dI (H.item (i:=1) rfl) E
   obtain ⟨s,rfl,cn⟩:=uU cj
   have H:=H.fzs [.at cg (ch+C.toNat * 9) _,.sl fA s f.When.Kids] ⟨⟨ck,cl,cm⟩,cn,trivial⟩
   refine zG (xC u23 vO ci rfl (yC E).1 (yC E).2.1 rfl rfl)<| zG (yJ (yF (cs:=[sb f.From,sb f.To,i6 f.When.Kind,sb f.When.Name,sb f.When.Other,i6 f.When.Op,i6 f.When.N,i6 f.When.Frames,s]) aJs rfl vO rfl (H.item (i:=4) rfl).2.2) rfl)<| yQ rfl rfl (xA aJi H) ?_
   rintro _ es ⟨et,rfl,H⟩
   refine yP rfl (yL (vs:=[sb f.From,sb f.To,i6 f.When.Kind,sb f.When.Name,sb f.When.Other,i6 f.When.Op,i6 f.When.N,i6 f.When.Frames,s]) H 6 rfl vO rfl rfl rfl ⟨rfl,rfl,rfl,rfl,rfl,rfl,rfl,rfl,(xY (H.item (i:=5) rfl)),trivial⟩ rfl) ?_
   rintro eu H
   refine RN cf<| zB fun ew co=>zA<| zG (yJ (yF (cs:=[v1,h,j]) qM rfl uV rfl (Hbc H 3 rfl)) rfl)<| zG (yJ (yF (cs:=[sb f.From,sb f.To,i6 f.When.Kind,sb f.When.Name,sb f.When.Other,i6 f.When.Op,i6 f.When.N,i6 f.When.Frames,s]) aJs rfl vO rfl (Hbc H 6 rfl)) rfl) ?_
   have cp:=H
   obtain ⟨n,cq,c⟩:=zC c
   refine zZ rfl rfl (zS en88 rfl) (Fcww d f v1 h j s _ cq _ _ _ (H.enter [] [0,1,2,5])) ?_
   rintro _ ex ⟨rfl,cr⟩
   have H:=cp.step (cr.only:Only [] _ _)
   refine ⟨_,rfl,?_⟩
   refine zI (i6 n)<| RN co<| zB fun ey ct=>zA<| zH (i6 n) ?_
   obtain ⟨cu,cv,c⟩:=zD c
   refine zG (zL (dC (a:=n) (b:=0) rfl rfl) cv)<| RN ct<| zY (b:=cu) rfl (fun F=>?_) (fun F=>?_)
   ·have c:=zO F c
    refine zB fun ez cw=>zA<| zH (i6 n)<| zI (i6 n)<| RN cw ?_
    obtain rfl:=gI c
    refine (zW (yE (zV (zV (yE (zV (fC (v1:=i6 n) rfl rfl ?_)))))))
    exact ⟨rfl,H.pick []⟩
   have c:=zQ F c
   refine (zX (yH (zF (ce _ _ ?_))))
   refine zA ?_
   obtain ⟨T,cx,c⟩:=zD c
   refine zG (xM (a:=C) (b:=1) rfl rfl cx)<| zH (i6 T) ?_
   exact (yA (zF (meet ⟨(b9,T),(zJ rfl zK),⟨H.pick [0,1,2,3],c⟩,Nat.lt_succ_self _⟩)))
  have c:=zQ D c
  exact (xI (yI (yI (yV (zF (meet ⟨(),zK,⟨H.pick [0,1,2,3],c⟩⟩))))))
 rintro _ ρ e0 ⟨H,c⟩
 have c:=dF b2 c
 obtain ⟨cy,cz,c⟩:=wI c
 refine yK [2,8,9,58,59,60,61,62,63,64,65,66,67,68,69,70] (fun (g:Unit)=>[]) (fun g wl=>Hd O w wl S []∧cy ()=some r) ?_ ?_
 ·skip
  refine zB fun e1 c0=>zA<| zG (kY rfl)<| Ld rJ H 3 2 rfl rfl ?_
  obtain ⟨c1,c2,c⟩:=zD c
  obtain ⟨e2,e3,c3⟩:=SlF.len ((H.item (i:=2) rfl))
  refine zG (yJ (xO u24 c3) (congrArg (Value.int .i64) c2))<| zH (i6 0)<| RN c0<| yD ?_
  unfold Feh at c
  obtain ⟨c4,U,c5,c⟩:=yT c
  refine xB [2,8,9,61,62,63,64,65,66,67,68,69,70] (fun (g:Nat×Int)=>[(61,i6 g.2)]) (fun g wl=>Hd O w wl S [f1 Rp.str v1 d.Phases,f1 gX h d.Moves,f1 fB j d.Rules,.blk k [v1,h,j] 26]∧fV c4 g.1 g.2=some r) (fun g=>g.1) (U,0) (zJ rfl zK) ⟨H.pick [0,1,2,3],c⟩ ?_
  clear H c
  rintro ⟨U,o⟩ ρ e4 ⟨H,c⟩
  obtain ⟨c6,rfl,c⟩:=yZ c
  have c:=yY c5 c
  refine zB fun e5 c7=>zA ?_
  obtain ⟨c8,c9,c⟩:=zD c
  refine zG (zL (xP (a:=o) (b:=c1) rfl rfl) c9)<| RN c7<| zB fun e6 da=>zY (b:=c8) rfl (fun G=>?_) (fun G=>?_)
  ·have c:=zO G c
   refine zX (zF (da _ _ ?_))
   refine zB fun e7 db=>?_
   refine yD ?_
   refine zB fun e8 dc=>zA<| zH (i6 o)<| zI (i6 o)<| RN dc<| zB fun e9 dd=>zA<| zG (yJ (yF (cs:=[v1,h,j]) qM rfl uV rfl (Hbc H 3 rfl)) rfl)<| zH (i6 o) ?_
   have de:=H
   obtain ⟨q,df,c⟩:=zC c
   refine zZ rfl rfl (zS en89 rfl) (Fb6w d o v1 h j _ df _ _ _ (H.enter [] [0,1,2])) ?_
   rintro _ fa ⟨rfl,dg⟩
   have H:=de.step (dg.only:Only [] _ _)
   refine ⟨_,rfl,?_⟩
   refine zI (i6 q)<| RN dd<| zB fun fb dh=>zA<| zH (i6 q) ?_
   obtain ⟨di,dj,c⟩:=zD c
   refine zG (zL (dC (a:=q) (b:=0) rfl rfl) dj)<| RN dh<| zY (b:=di) rfl (fun I=>?_) (fun I=>?_)
   ·have c:=zO I c
    refine zB fun fc dk=>zA<| zH (i6 q)<| zI (i6 q)<| RN dk ?_
    obtain rfl:=gI c
    refine (zW (yE (zV (zV (yE (zV (fC (v1:=i6 q) rfl rfl ?_)))))))
    exact ⟨rfl,H.pick []⟩
   have c:=zQ I c
   refine (zX (yH (zF (db _ _ ?_))))
   refine zA ?_
   obtain ⟨V,dl,c⟩:=zD c
   refine zG (xM (a:=o) (b:=1) rfl rfl dl)<| zH (i6 V) ?_
   exact (yA (zF (meet ⟨(c6,V),(zJ rfl zK),⟨H.pick [0,1,2,3],c⟩,Nat.lt_succ_self _⟩)))
  have c:=zQ G c
  exact (xI (yI (yI (yV (zF (meet ⟨(),zK,⟨H.pick [],c⟩⟩))))))
 rintro _ ρ fd ⟨H,c⟩
 have c:=dF cz c
 refine zB fun fe dm=>zA<| zI (i6 0)<| RN dm ?_
 obtain rfl:=gI c
 refine (zW (fC (v1:=i6 0) rfl rfl ?_))
 exact ⟨rfl,H.pick []⟩
theorem Fc4w (a:fH)(b:fH)(v1:Value)(d:Nat)(f:Value)(r:Bool)(c:Fc4 a b=some r)(O S:List Nat)(w:World)(H:Hd O w w S [.blk d [sb b.Name,i6 b.Series.Den,f,i6 b.Long] 37,f1 eU v1 a.Series.Samples,f1 eU f b.Series.Samples]):
  Cl 138 [.agg [sb a.Name,i6 a.Series.Den,v1,i6 a.Long].toArray,gV d] w fun e i=>e= .returned (.bool r)∧Hd O w i S [.blk d [sb b.Name,i6 b.Series.Den,f,i6 b.Long] 37]:=by
 unfold Fc4 at c
 refine CW 9 Tryz.func138 ?_
 refine zB fun m j=>zA<| yQ rfl rfl (xR (cs:=[sb a.Name,i6 a.Series.Den,v1,i6 a.Long]) rfl H) ?_
 rintro _ n ⟨o,rfl,H⟩
 refine zI (.bool false)<| RN j<| zB fun p k=>zA<| zG (aFo rfl)<| Ld bF H 3 0 rfl rfl<| zG (aFo rfl)<| Ld bF H 0 0 rfl rfl ?_
 obtain ⟨h,l,c⟩:=zD c
 refine zG (zL (wB (s1:=a.Name) (s2:=b.Name) rfl rfl) l)<| zI (.bool h)<| RN k ?_
 obtain rfl:=gI c
 refine (zW (fC (v1:= .bool h) rfl rfl ?_))
 exact ⟨rfl,H.pick [0]⟩
theorem Fcqw (l:List fH)(p1c0:fH)(v1:Value)(j:Nat)(d:Value)(r:Int)(c:Fcq l p1c0=some r)(O S:List Nat)(w:World)(H:Hd O w w S [.blk j [sb p1c0.Name,i6 p1c0.Series.Den,d,i6 p1c0.Long] 37,f1 eF v1 l,f1 eU d p1c0.Series.Samples]):
  Cl 189 [v1,.func (.func 138) #[] #[gV j]] w fun e u=>e= .returned (i6 r)∧Hd O w u S [.blk j [sb p1c0.Name,i6 p1c0.Series.Den,d,i6 p1c0.Long] 37]:=by
 unfold Fcq at c
 refine CW 19 Tryz.func189 ?_
 refine zB fun K7 v=>zA<| zI (i6 0)<| RN v ?_
 obtain ⟨x,y,c⟩:=wI c
 refine yK [4,5,6,7,8,9,10,11,12,13,14,15,16,17,18] (fun (g:Unit)=>[]) (fun g wl=>Hd O w wl S [.blk j [sb p1c0.Name,i6 p1c0.Series.Den,d,i6 p1c0.Long] 37,f1 eU d p1c0.Series.Samples]∧x ()=some r) ?_ ?_
 ·skip
  refine zB fun af z=>zA<| zH v1 ?_
  obtain ⟨A,B,c⟩:=zD c
  obtain ⟨ag,ah,C⟩:=SlF.len ((H.item (i:=1) rfl))
  refine zG (yJ (xO u27 C) (congrArg (Value.int .i64) B))<| zH (i6 0)<| RN z<| yD ?_
  unfold Fe1 at c
  obtain ⟨D,p,E,c⟩:=yT c
  refine xB [4,5,8,9,10,11,12,13,14,15,16,17,18] (fun (g:Nat×Int)=>[(8,i6 g.2)]) (fun g wl=>Hd O w wl S [.blk j [sb p1c0.Name,i6 p1c0.Series.Den,d,i6 p1c0.Long] 37,f1 eU d p1c0.Series.Samples,f1 eF v1 l]∧fV D g.1 g.2=some r) (fun g=>g.1) (p,0) (zJ rfl zK) ⟨H.pick [0,2,1],c⟩ ?_
  clear H c
  rintro ⟨p,f⟩ ρ ai ⟨H,c⟩
  obtain ⟨F,rfl,c⟩:=yZ c
  have c:=yY E c
  refine zB fun aj G=>zA ?_
  obtain ⟨I,J,c⟩:=zD c
  refine zG (zL (xP (a:=f) (b:=A) rfl rfl) J)<| RN G<| zB fun ak K=>zY (b:=I) rfl (fun m=>?_) (fun m=>?_)
  ·have c:=zO m c
   refine zX (zF (K _ _ ?_))
   refine zB fun al L=>?_
   refine yD ?_
   refine zB fun am M=>zA<| zH (i6 f)<| zI (i6 f)<| RN M<| zB fun an N=>zA<| zH (.func (.func 138) #[] #[gV j])<| zH v1<| zH (i6 f) ?_
   obtain ⟨h,n,c⟩:=zC c
   obtain ⟨q,s,ao,ap,P,Q,R,T,U⟩:=dI (H.item (i:=2) rfl) n
   obtain ⟨k,rfl,V⟩:=mZ Q
   have H:=H.fzs [.at q (s+f.toNat * 4) _,.sl eU k h.Series.Samples] ⟨⟨R,T,U⟩,V,trivial⟩
   refine zG (xC u27 aAd P rfl (yC n).1 (yC n).2.1 rfl rfl)<| zG (yJ (yF (cs:=[sb h.Name,i6 h.Series.Den,k,i6 h.Long]) aLx rfl aAd rfl (H.item (i:=3) rfl).2.2) rfl) ?_
   obtain ⟨X,Y,c⟩:=zC c
   refine zZ rfl rfl (bQ en138 rfl rfl) (Fc4w h p1c0 k j d _ Y _ _ _ (H.enter [0] [4,1])) ?_
   rintro _ Z ⟨rfl,aa⟩
   have H:Hd _ _ Z _ [f1 eU d p1c0.Series.Samples,f1 eF v1 l,.fz (.at q (s+f.toNat * 4) [sb h.Name,i6 h.Series.Den,k,i6 h.Long]),f1 eU k h.Series.Samples,.blk j [sb p1c0.Name,i6 p1c0.Series.Den,d,i6 p1c0.Long] 37]:=H.back [0] [4,1] rfl aa
   refine ⟨_,rfl,?_⟩
   refine RN N<| zY (b:=X) rfl (fun o=>?_) (fun o=>?_)
   ·have c:=zO o c
    refine zB fun aq ab=>zA<| zH (i6 f)<| zI (i6 f)<| RN ab ?_
    obtain rfl:=gI c
    refine (zW (yE (zV (zV (yE (zV (fC (v1:=i6 f) rfl rfl ?_)))))))
    exact ⟨rfl,H.pick [4]⟩
   have c:=zQ o c
   refine (zX (yH (zF (L _ _ ?_))))
   refine zA ?_
   obtain ⟨t,ac,c⟩:=zD c
   refine zG (xM (a:=f) (b:=1) rfl rfl ac)<| zH (i6 t) ?_
   exact (yA (zF (meet ⟨(F,t),(zJ rfl zK),⟨H.pick [4,0,1],c⟩,Nat.lt_succ_self _⟩)))
  have c:=zQ m c
  exact (xI (yI (yI (yV (zF (meet ⟨(),zK,⟨H.pick [0,1],c⟩⟩))))))
 rintro _ ρ ar ⟨H,c⟩
 have c:=dF y c
 refine zB fun au ad=>zA<| zI (i6 (-1))<| RN ad ?_
 obtain rfl:=gI c
 refine (zW (fC (v1:=i6 (-1)) rfl rfl ?_))
 exact ⟨rfl,H.pick [0]⟩
theorem Fb5w (h:List fH)(p1c0:fH)(v1:Value)(c:Nat)(d:Value)(r:Bool)(f:Fb5 h p1c0=some r)(O S:List Nat)(w:World)(H:Hd O w w S [.blk c [sb p1c0.Name,i6 p1c0.Series.Den,d,i6 p1c0.Long] 37,f1 eF v1 h,f1 eU d p1c0.Series.Samples]):
  Cl 134 [v1,.func (.func 138) #[] #[gV c]] w fun e j=>e= .returned (.bool r)∧Hd O w j S [.blk c [sb p1c0.Name,i6 p1c0.Series.Den,d,i6 p1c0.Long] 37]:=by
 unfold Fb5 at f
 refine CW 9 Tryz.func134 ?_
 refine zB fun s k=>zA<| zI (.bool false)<| RN k<| zB fun t l=>zA<| zH v1<| zH (.func (.func 138) #[] #[gV c]) ?_
 obtain ⟨m,n,f⟩:=zC f
 refine zZ rfl rfl (zS en189 rfl) (Fcqw h p1c0 v1 c d _ n _ _ _ (H.enter [0] [1,2])) ?_
 rintro _ o ⟨rfl,p⟩
 have H:Hd _ _ o _ [f1 eF v1 h,f1 eU d p1c0.Series.Samples,.blk c [sb p1c0.Name,i6 p1c0.Series.Den,d,i6 p1c0.Long] 37]:=H.back [0] [1,2] rfl p
 refine ⟨_,rfl,?_⟩
 obtain ⟨i,q,f⟩:=zD f
 refine zG (zL (kZ (a:=m) (b:=0) rfl rfl) q)<| zI (.bool i)<| RN l ?_
 obtain rfl:=gI f
 refine (zW (fC (v1:= .bool i) rfl rfl ?_))
 exact ⟨rfl,H.pick [2]⟩
theorem Faww (d:Int)(f:Int)(h:Int)(r:Bool)(c:Faw d f h=some r)(O S:List Nat)(w:World)(H:Hd O w w S []):
  Cl 226 [i6 d,i6 f,i6 h] w fun e l=>e= .returned (.bool r)∧Hd O w l S []:=by
 unfold Faw at c
 refine CW 15 Tryz.func226 ?_
 refine zB fun s m=>zA<| zI (.bool false)<| RN m ?_
 obtain ⟨j,c,n⟩:=zC c
 refine yK [6,7,8,9,10,11,12,13,14] (fun (g:Unit)=>[(6,.bool j)]) (fun g wl=>Hd O w wl S []) ?_ ?_
 ·skip
  refine zA ?_
  refine zH (i6 d)<| zH (i6 f) ?_
  obtain ⟨o,p,c⟩:=zD c
  refine zG (zL (kZ (a:=d) (b:=f) rfl rfl) p)<| yS (b:=o) rfl rfl rfl (fun i=>?_) (fun i=>?_)
  ·have c:=zO i c
   refine zH (i6 d)<| zH (i6 h) ?_
   obtain ⟨k,q,c⟩:=zD c
   refine zG (zL (sU (a:=d) (b:=h) rfl rfl) q)<| zG (yO (v:= .bool k) rfl rfl)<| zI (.bool k) ?_
   obtain rfl:=gI c
   exact (yA (zF (meet ⟨(),(zJ rfl zK),H.pick []⟩)))
  have c:=zQ i c
  refine yG ?_
  refine yG ?_
  refine yG ?_
  refine zG (yM (v:= .bool false) rfl rfl)<| zI (.bool false) ?_
  obtain rfl:=gI c
  exact (yA (zF (meet ⟨(),(zJ rfl zK),H.pick []⟩)))
 rintro _ ρ t H
 have c:=n
 obtain rfl:=gI c
 refine (zW (fC (v1:= .bool j) rfl rfl ?_))
 exact ⟨rfl,H.pick []⟩
set_option maxRecDepth 100000 in
theorem Fchw (h:Series)(v1:Value)(r:Int×Int)(c:Fch h=some r)(O S:List Nat)(w:World)(H:Hd O w w S [f1 eU v1 h.Samples]):
  Cl 191 [.agg [i6 h.Den,v1].toArray] w fun e B=>e= .returned (.tuple #[i6 r.1,i6 r.2])∧Hd O w B S []:=by
 unfold Fch at c
 refine CW 67 Tryz.func191 ?_
 refine zB fun K3 R=>zA<| yQ rfl rfl (xR (cs:=[i6 h.Den,v1]) rfl H) ?_
 rintro _ w6 ⟨j,rfl,H⟩
 refine zI (i6 0)<| zI (i6 0)<| RN R<| zB fun ci T=>zB fun cj U=>zA<| zG (fa35_0 rfl)<| Ld fM H 1 0 rfl rfl ?_
 have V:=H
 obtain ⟨X,Y,c⟩:=zC c
 refine zZ rfl rfl (zS aQl rfl) (Faww h.Den 1 1000000 _ Y _ _ _ (H.enter [] [])) ?_
 rintro _ ck ⟨rfl,Z⟩
 have H:=V.step (Z.only:Only [] _ _)
 refine ⟨_,rfl,?_⟩
 obtain ⟨aa,ab,c⟩:=zD c
 refine zG (zL (wH (p:=X) rfl) ab)<| RN U<| zY (b:=aa) rfl (fun k=>?_) (fun k=>?_)
 ·have c:=zO k c
  refine zB fun cl ac=>zA<| zI (i6 (-1))<| zI (i6 9)<| RN ac ?_
  obtain rfl:=gI c
  refine (zW (zV (tH (v1:=i6 (-1)) (v2:=i6 9) rfl rfl rfl ?_)))
  exact ⟨rfl,H.pick []⟩
 have c:=zQ k c
 refine zX (zF (T _ _ ?_))
 refine zB fun cm ad=>?_
 refine zB fun cn ae=>zA<| zG (wS rfl)<| Ld aEv H 1 1 rfl rfl ?_
 obtain ⟨af,ag,c⟩:=zD c
 obtain ⟨co,cp,ah⟩:=SlF.len ((H.item (i:=0) rfl))
 refine zG (yJ (xO u33 ah) (congrArg (Value.int .i64) ag)) ?_
 obtain ⟨ai,aj,c⟩:=zD c
 refine zG (zL (aI (a:=af) (b:=20000) rfl rfl) aj)<| RN ae<| zY (b:=ai) rfl (fun l=>?_) (fun l=>?_)
 ·have c:=zO l c
  refine zB fun cq ak=>zA<| zI (i6 (-1))<| zI (i6 3)<| RN ak ?_
  obtain rfl:=gI c
  refine (zW (zV (tH (v1:=i6 (-1)) (v2:=i6 3) rfl rfl rfl ?_)))
  exact ⟨rfl,H.pick []⟩
 have c:=zQ l c
 refine zX (zF (ad _ _ ?_))
 obtain ⟨al,am,c⟩:=wI c
 refine yK [2,3,4,5,14,15,16,17,18,19,20,21,22,23,24,25,26,27,28,29,30,31,32,33,34,35,36,37,38,39,40,41,42,43,44,45,46,47,48,49,50,51,52,53,54,55,56,57,58,59,60,61,62,63,64,65,66] (fun (g:Unit)=>[]) (fun g wl=>Hd O w wl S []∧al ()=some r) ?_ ?_
 ·skip
  refine zB fun cr an=>zA<| zG (wS rfl)<| Ld aEv H 1 1 rfl rfl ?_
  obtain ⟨ao,ap,c⟩:=zD c
  obtain ⟨ct,cu,aq⟩:=SlF.len ((H.item (i:=0) rfl))
  refine zG (yJ (xO u33 aq) (congrArg (Value.int .i64) ap))<| zH (i6 0)<| RN an<| yD ?_
  unfold Fdc at c
  obtain ⟨ar,C,au,c⟩:=yT c
  refine xB [2,3,4,5,17,18,19,20,21,22,23,24,25,26,27,28,29,30,31,32,33,34,35,36,37,38,39,40,41,42,43,44,45,46,47,48,49,50,51,52,53,54,55,56,57,58,59,60,61,62,63,64,65,66] (fun (g:Nat×Int)=>[(17,i6 g.2)]) (fun g wl=>Hd O w wl S [f1 eU v1 h.Samples,.blk j [i6 h.Den,v1] 35]∧fV ar g.1 g.2=some r) (fun g=>g.1) (C,0) (zJ rfl zK) ⟨H.pick [0,1],c⟩ ?_
  clear H c
  rintro ⟨C,f⟩ ρ cv ⟨H,c⟩
  obtain ⟨av,rfl,c⟩:=yZ c
  have c:=yY au c
  refine zB fun cw aw=>zA ?_
  obtain ⟨ax,ay,c⟩:=zD c
  refine zG (zL (xP (a:=f) (b:=ao) rfl rfl) ay)<| RN aw<| zB fun cx az=>zY (b:=ax) rfl (fun m=>?_) (fun m=>?_)
  ·have c:=zO m c
   refine zX (zF (az _ _ ?_))
   refine zB fun cy a0=>?_
   refine yD ?_
   refine zB fun cz a1=>zA<| zH (i6 f) ?_
   obtain ⟨d,n,c⟩:=zC c
   obtain ⟨D,E,c0,c1,a2,a3,a4,a5,a6⟩:=dI (H.item (i:=0) rfl) n
   obtain rfl:=aK a3
   have H:=H.fz (.at D (E+f.toNat * 3) _) ⟨a4,a5,a6⟩
   refine zG (xC u33 rC a2 rfl (yC n).1 (yC n).2.1 rfl rfl)<| zG (yJ (yF (cs:=[i6 d.At,i6 d.N,i6 d.Mark]) aCn rfl rC rfl (H.item (i:=2) rfl).2.2) rfl)<| yQ rfl rfl (xA aJg H) ?_
   rintro _ c2 ⟨o,rfl,H⟩
   refine zI (i6 f)<| yP rfl (yL (vs:=[i6 d.At,i6 d.N,i6 d.Mark]) H 3 rfl rC rfl rfl rfl ⟨rfl,rfl,rfl,trivial⟩ rfl) ?_
   rintro c3 H
   refine RN a1<| yD ?_
   obtain ⟨F,c,a7⟩:=zC c
   refine yK [22,23,24,25,26,27,28,29,30,31,32,33,34,35,36,37,38] (fun (g:Unit)=>[(22,.bool F)]) (fun g wl=>Hd O w wl S [f1 eU v1 h.Samples,.blk j [i6 h.Den,v1] 35,.blk o [i6 d.At,i6 d.N,i6 d.Mark] 40]) ?_ ?_
   ·skip
    refine zA ?_
    refine zG (aFy rfl)<| Ld fM H 3 0 rfl rfl ?_
    have a8:=H
    obtain ⟨a9,ba,c⟩:=zC c
    refine zZ rfl rfl (zS aQl rfl) (Faww d.At 0 1099511627776 _ ba _ _ _ (H.enter [] [])) ?_
    rintro _ c4 ⟨rfl,bb⟩
    have H:=a8.step (bb.only:Only [] _ _)
    refine ⟨_,rfl,?_⟩
    obtain ⟨bc,bd,c⟩:=zD c
    refine zG (zL (wH (p:=a9) rfl) bd) ?_
    obtain ⟨G,c,be⟩:=zC c
    refine bJ 6 [27,28,29,30,31,32] [(32,.bool G)] (fun wl=>Hd O w wl S [f1 eU v1 h.Samples,.blk j [i6 h.Den,v1] 35,.fz (.at D (E+f.toNat * 3) [i6 d.At,i6 d.N,i6 d.Mark]),.blk o [i6 d.At,i6 d.N,i6 d.Mark] 40]) ?_ ?_
    ·skip
     refine yS (b:=bc) rfl rfl rfl (fun q=>?_) (fun q=>?_)
     ·have c:=zO q c
      refine yG ?_
      refine yG ?_
      refine yG ?_
      refine yG ?_
      refine zG (yO (v:= .bool true) rfl rfl) ?_
      obtain rfl:=gI c
      exact yA (zF (meet ⟨(zJ rfl zK),H.pick [0,1,2,3]⟩))
     have c:=zQ q c
     refine zG (aPi rfl)<| Ld fM H 3 1 rfl rfl ?_
     have bf:=H
     obtain ⟨bg,bh,c⟩:=zC c
     refine zZ rfl rfl (zS aQl rfl) (Faww d.N (-1125899906842624) 1125899906842624 _ bh _ _ _ (H.enter [] [])) ?_
     rintro _ c5 ⟨rfl,bi⟩
     have H:=bf.step (bi.only:Only [] _ _)
     refine ⟨_,rfl,?_⟩
     obtain ⟨bj,bk,c⟩:=zD c
     refine zG (zL (wH (p:=bg) rfl) bk)<| zG (yM (v:= .bool bj) rfl rfl) ?_
     obtain rfl:=gI c
     exact yA (zF (meet ⟨(zJ rfl zK),H.pick [0,1,2,3]⟩))
    rintro ρ c6 H
    have c:=be
    refine yS (b:=G) rfl rfl rfl (fun s=>?_) (fun s=>?_)
    ·have c:=zO s c
     refine yG ?_
     refine yG ?_
     refine yG ?_
     refine yG ?_
     refine zG (yO (v:= .bool true) rfl rfl)<| zI (.bool true) ?_
     obtain rfl:=gI c
     exact (yA (zF (meet ⟨(),(zJ rfl zK),H.pick [0,1,3]⟩)))
    have c:=zQ s c
    refine zG (aPq rfl)<| Ld fM H 3 2 rfl rfl ?_
    have bl:=H
    obtain ⟨bm,bn,c⟩:=zC c
    refine zZ rfl rfl (zS aQl rfl) (Faww d.Mark 0 4 _ bn _ _ _ (H.enter [] [])) ?_
    rintro _ c7 ⟨rfl,bo⟩
    have H:=bl.step (bo.only:Only [] _ _)
    refine ⟨_,rfl,?_⟩
    obtain ⟨I,bp,c⟩:=zD c
    refine zG (zL (wH (p:=bm) rfl) bp)<| zG (yM (v:= .bool I) rfl rfl)<| zI (.bool I) ?_
    obtain rfl:=gI c
    exact (yA (zF (meet ⟨(),(zJ rfl zK),H.pick [0,1,3]⟩)))
   rintro _ ρ c8 H
   have c:=a7
   refine zY (b:=F) rfl (fun t=>?_) (fun t=>?_)
   ·have c:=zO t c
    refine zB fun c9 bq=>zA<| zH (i6 f)<| zI (i6 f)<| zI (i6 9)<| RN bq ?_
    obtain rfl:=gI c
    refine (zW (yE (yE (zV (zV (yE (zV (tH (v1:=i6 f) (v2:=i6 9) rfl rfl rfl ?_))))))))
    exact ⟨rfl,H.pick []⟩
   have c:=zQ t c
   obtain ⟨J,c,br⟩:=zC c
   refine yK [40,41,42,43,44,45,46,47,48] (fun (g:Unit)=>[(40,.bool J)]) (fun g wl=>Hd O w wl S [f1 eU v1 h.Samples,.blk j [i6 h.Den,v1] 35,.blk o [i6 d.At,i6 d.N,i6 d.Mark] 40]) ?_ ?_
   ·skip
    refine zA ?_
    refine zG (aPi rfl)<| Ld fM H 2 1 rfl rfl ?_
    obtain ⟨bt,bu,c⟩:=zD c
    refine zG (zL (dC (a:=d.N) (b:=0) rfl rfl) bu)<| yS (b:=bt) rfl rfl rfl (fun u=>?_) (fun u=>?_)
    ·have c:=zO u c
     refine zG (aPq rfl)<| Ld fM H 2 2 rfl rfl ?_
     obtain ⟨K,bv,c⟩:=zD c
     refine zG (zL (sU (a:=d.Mark) (b:=1) rfl rfl) bv)<| zG (yO (v:= .bool K) rfl rfl)<| zI (.bool K) ?_
     obtain rfl:=gI c
     exact (yA (zF (meet ⟨(),(zJ rfl zK),H.pick [0,1,2]⟩)))
    have c:=zQ u c
    refine yG ?_
    refine yG ?_
    refine yG ?_
    refine zG (yM (v:= .bool false) rfl rfl)<| zI (.bool false) ?_
    obtain rfl:=gI c
    exact (yA (zF (meet ⟨(),(zJ rfl zK),H.pick [0,1,2]⟩)))
   rintro _ ρ da H
   have c:=br
   refine zY (b:=J) rfl (fun x=>?_) (fun x=>?_)
   ·have c:=zO x c
    refine zB fun db bw=>zA<| zH (i6 f)<| zI (i6 f)<| zI (i6 2)<| RN bw ?_
    obtain rfl:=gI c
    refine (zW (yE (yE (zV (zV (yE (zV (tH (v1:=i6 f) (v2:=i6 2) rfl rfl rfl ?_))))))))
    exact ⟨rfl,H.pick []⟩
   have c:=zQ x c
   obtain ⟨L,c,bx⟩:=zC c
   refine yK [50,51,52,53,54,55,56,57,58,59,60,61,62,63,64] (fun (g:Unit)=>[(50,.bool L)]) (fun g wl=>Hd O w wl S [f1 eU v1 h.Samples,.blk j [i6 h.Den,v1] 35]) ?_ ?_
   ·skip
    have M:=H
    have H:=H.rebase
    have dc:=H
    refine xU H [0,1,2,3,4,5,6,7,8,9,10,11,12,13,14] (kz [0,0,0,0,1,0,1,0,0,0,0,1,0,0,0]) mixed ?_
    refine XM (i6 f) ?_
    obtain ⟨bz,b0,c⟩:=zD c
    refine XP (fun _ _=>zL (aI (a:=f) (b:=0) rfl rfl) b0)<| MxM.XL_splitb (b:=bz) rfl rfl rfl rfl (fun y=>?_) (fun y=>?_)
    ·have c:=zO y c
     refine XP (fun _ _=>aFy rfl)<| XR fM H 2 0 rfl rfl<| XP (fun _ _=>wS rfl)<| XR aEv H 1 1 rfl rfl<| XM (i6 f) ?_
     obtain ⟨b1,b2,c⟩:=zD c
     refine XP (fun _ _=>jO (a:=f) (b:=1) rfl rfl b2) ?_
     obtain ⟨b3,z,c⟩:=zC c
     obtain ⟨b4,b5,dd,de,b6,b7,b8,b9,ca⟩:=dI (H.item (i:=0) rfl) z
     obtain rfl:=aK b7
     have H:=H.fz (.at b4 (b5+b1.toNat * 3) _) ⟨b8,b9,ca⟩
     refine XP (fun _ _=>xC u33 rC b6 rfl (yC z).1 (yC z).2.1 rfl rfl)<| XP (fun _ _=>aFy rfl)<| MxM.wJ oS rfl rfl rfl (fun B cb=>xG fM rfl (Cells.get ((H.sees cb).item (i:=3) rfl).2.2 (i:=0) rfl)) ?_
     obtain ⟨P,cc,c⟩:=zD c
     refine XP (fun _ _=>zL (sU (a:=d.At) (b:=b3.At) rfl rfl) cc)<| XP (fun _ _=>yO (v:= .bool P) rfl rfl)<| XP (fun _ _=>xN (v:= .bool P) rfl)<| MxM.xK fun df hS=>?_
     have H:=H.sees hS
     have H:=M.rejoin H
     obtain rfl:=gI c
     exact (zF (meet ⟨(),(zJ rfl zK),H.pick [0,1]⟩))
    have c:=zQ y c
    refine XO<| MxM.XL_offr oS rfl rfl rfl ?_
    refine XO<| MxM.XL_offr oS rfl rfl rfl ?_
    refine XO<| XO<| XO<| XO<| MxM.XL_offr oS rfl rfl rfl ?_
    refine XO<| XP (fun _ _=>yM (v:= .bool false) rfl rfl)<| XP (fun _ _=>xN (v:= .bool false) rfl)<| MxM.xK fun dg hS=>?_
    have H:=H.sees hS
    have H:=M.rejoin H
    obtain rfl:=gI c
    exact (zF (meet ⟨(),(zJ rfl zK),H.pick [0,1]⟩))
   rintro _ ρ dh H
   have c:=bx
   refine zY (b:=L) rfl (fun A=>?_) (fun A=>?_)
   ·have c:=zO A c
    refine zB fun di cd=>zA<| zH (i6 f)<| zI (i6 f)<| zI (i6 10)<| RN cd ?_
    obtain rfl:=gI c
    refine (zW (yE (yE (zV (zV (yE (zV (tH (v1:=i6 f) (v2:=i6 10) rfl rfl rfl ?_))))))))
    exact ⟨rfl,H.pick []⟩
   have c:=zQ A c
   refine (zX (yH (yH (zF (a0 _ _ ?_)))))
   refine zA ?_
   obtain ⟨Q,ce,c⟩:=zD c
   refine zG (xM (a:=f) (b:=1) rfl rfl ce)<| zH (i6 Q) ?_
   exact (yA (zF (meet ⟨(av,Q),(zJ rfl zK),⟨H.pick [0,1],c⟩,Nat.lt_succ_self _⟩)))
  have c:=zQ m c
  exact (xI (yI (yI (yV (zF (meet ⟨(),zK,⟨H.pick [],c⟩⟩))))))
 rintro _ ρ dj ⟨H,c⟩
 have c:=dF am c
 refine zB fun dk cf=>zA<| zI (i6 (-1))<| zI (i6 0)<| RN cf ?_
 obtain rfl:=gI c
 refine (zW (tH (v1:=i6 (-1)) (v2:=i6 0) rfl rfl rfl ?_))
 exact ⟨rfl,H.pick []⟩
theorem Fciw (a:Series)(v1:Value)(r:Int)(c:Fci a=some r)(O S:List Nat)(w:World)(H:Hd O w w S [f1 eU v1 a.Samples]):
  Cl 139 [.agg [i6 a.Den,v1].toArray] w fun e f=>e= .returned (i6 r)∧Hd O w f S []:=by
 unfold Fci at c
 refine CW 11 Tryz.func139 ?_
 refine zB fun n h=>zA<| yQ rfl rfl (xR (cs:=[i6 a.Den,v1]) rfl H) ?_
 rintro _ o ⟨p,rfl,H⟩
 refine zI (i6 0)<| RN h<| zB fun q i=>zA<| zG (yJ (yF (cs:=[i6 a.Den,v1]) aKx rfl sz35 rfl (Hbc H 1 rfl)) rfl) ?_
 have j:=H
 obtain ⟨⟨d,b⟩,k,c⟩:=zC c
 refine zZ rfl rfl (zS en191 rfl) (Fchw a v1 _ k _ _ _ (H.enter [] [0])) ?_
 rintro _ s ⟨rfl,l⟩
 have H:=j.step (l.only:Only [] _ _)
 refine ⟨_,rfl,?_⟩
 refine zH (.tuple #[i6 d,i6 b])<| zG (xQ (v:=i6 d) rfl rfl)<| zG (xQ (v:=i6 b) rfl rfl)<| zI (i6 d)<| zI (i6 b)<| RN i<| zB fun t m=>zA<| zH (i6 b)<| zI (i6 b)<| RN m ?_
 obtain rfl:=gI c
 refine (zW (fC (v1:=i6 b) rfl rfl ?_))
 exact ⟨rfl,H.pick []⟩
set_option maxRecDepth 100000 in
theorem Fb7w (k:List fH)(v1:Value)(r:Int)(c:Fb7 k=some r)(O S:List Nat)(w:World)(H:Hd O w w S [f1 eF v1 k]):
  Cl 75 [v1] w fun e C=>e= .returned (i6 r)∧Hd O w C S []:=by
 unfold Fb7 at c
 refine CW 36 Tryz.func75 ?_
 refine zB fun K3 D=>zA<| zI (i6 0)<| RN D<| zB fun bp E=>zB fun bq F=>zA<| zH v1 ?_
 obtain ⟨G,I,c⟩:=zD c
 obtain ⟨br,bt,J⟩:=SlF.len ((H.item (i:=0) rfl))
 refine zG (yJ (xO u27 J) (congrArg (Value.int .i64) I)) ?_
 obtain ⟨K,L,c⟩:=zD c
 refine zG (zL (aI (a:=G) (b:=50) rfl rfl) L)<| RN F<| zY (b:=K) rfl (fun l=>?_) (fun l=>?_)
 ·have c:=zO l c
  refine zB fun bu M=>zA<| zI (i6 3)<| RN M ?_
  obtain rfl:=gI c
  refine (zW (zV (fC (v1:=i6 3) rfl rfl ?_)))
  exact ⟨rfl,H.pick []⟩
 have c:=zQ l c
 refine zX (zF (E _ _ ?_))
 obtain ⟨N,P,c⟩:=wI c
 refine yK [2,3,4,5,9,10,11,12,13,14,15,16,17,18,19,20,21,22,23,24,25,26,27,28,29,30,31,32,33,34,35] (fun (g:Unit)=>[]) (fun g wl=>Hd O w wl S []∧N ()=some r) ?_ ?_
 ·skip
  refine zB fun bv Q=>zA<| zH v1 ?_
  obtain ⟨R,T,c⟩:=zD c
  obtain ⟨bw,bx,U⟩:=SlF.len ((H.item (i:=0) rfl))
  refine zG (yJ (xO u27 U) (congrArg (Value.int .i64) T))<| zH (i6 0)<| RN Q<| yD ?_
  unfold Fep at c
  obtain ⟨V,x,X,c⟩:=yT c
  refine xB [2,3,4,5,11,12,13,14,15,16,17,18,19,20,21,22,23,24,25,26,27,28,29,30,31,32,33,34,35] (fun (g:Nat×Int)=>[(11,i6 g.2)]) (fun g wl=>Hd O w wl S [f1 eF v1 k]∧fV V g.1 g.2=some r) (fun g=>g.1) (x,0) (zJ rfl zK) ⟨H.pick [0],c⟩ ?_
  clear H c
  rintro ⟨x,h⟩ ρ bz ⟨H,c⟩
  obtain ⟨Y,rfl,c⟩:=yZ c
  have c:=yY X c
  refine zB fun b0 Z=>zA ?_
  obtain ⟨aa,ab,c⟩:=zD c
  refine zG (zL (xP (a:=h) (b:=R) rfl rfl) ab)<| RN Z<| zB fun b1 ac=>zY (b:=aa) rfl (fun m=>?_) (fun m=>?_)
  ·have c:=zO m c
   refine zX (zF (ac _ _ ?_))
   refine zB fun b2 ad=>?_
   refine yD ?_
   refine zB fun b3 ae=>zA<| zH (i6 h) ?_
   obtain ⟨d,n,c⟩:=zC c
   obtain ⟨y,z,b4,b5,af,ag,ah,ai,aj⟩:=dI (H.item (i:=0) rfl) n
   obtain ⟨f,rfl,ak⟩:=mZ ag
   have H:=H.fzs [.at y (z+h.toNat * 4) _,.sl eU f d.Series.Samples] ⟨⟨ah,ai,aj⟩,ak,trivial⟩
   refine zG (xC u27 aAd af rfl (yC n).1 (yC n).2.1 rfl rfl)<| zG (yJ (yF (cs:=[sb d.Name,i6 d.Series.Den,f,i6 d.Long]) aLx rfl aAd rfl (H.item (i:=1) rfl).2.2) rfl)<| yQ rfl rfl (xA aNx H) ?_
   rintro _ b6 ⟨A,rfl,H⟩
   refine zI (i6 h)<| yP rfl (yL (vs:=[sb d.Name,i6 d.Series.Den,f,i6 d.Long]) H 3 rfl aAd rfl rfl rfl ⟨rfl,rfl,(xY (H.item (i:=2) rfl)),rfl,trivial⟩ rfl) ?_
   rintro b7 H
   refine RN ae<| zB fun b8 al=>zB fun b9 am=>zA<| zG (aFo rfl)<| Ld bF H 3 0 rfl rfl ?_
   have an:=H
   obtain ⟨ao,ap,c⟩:=zC c
   refine zZ rfl rfl (zS en86 rfl) (Fagw d.Name _ ap _ _ _ (H.enter [] [])) ?_
   rintro _ ca ⟨rfl,aq⟩
   have H:=an.step (aq.only:Only [] _ _)
   refine ⟨_,rfl,?_⟩
   obtain ⟨ar,au,c⟩:=zD c
   refine zG (zL (wH (p:=ao) rfl) au)<| RN am<| zY (b:=ar) rfl (fun o=>?_) (fun o=>?_)
   ·have c:=zO o c
    refine zB fun cb av=>zA<| zI (i6 8)<| RN av ?_
    obtain rfl:=gI c
    refine (zW (zV (yE (zV (zV (yE (zV (fC (v1:=i6 8) rfl rfl ?_))))))))
    exact ⟨rfl,H.pick []⟩
   have c:=zQ o c
   refine zX (zF (al _ _ ?_))
   refine zB fun cc aw=>?_
   refine zB fun cd ax=>zA<| zH v1<| zH (i6 h) ?_
   obtain ⟨q,ay,c⟩:=zC c
   refine aEe rfl rfl (wU u27 aAd (H.item (i:=0) rfl) rfl rfl ay) ?_
   rintro s az
   have H:=H.fz (.sl eF s q) az
   refine zG (dV rfl) ?_
   obtain ⟨a0,a1,c⟩:=zC c
   refine zZ rfl rfl (zS en134 rfl) (Fb5w q d s A f _ a1 _ _ _ (H.enter [3] [4,2])) ?_
   rintro _ a2 ⟨rfl,a3⟩
   have H:Hd _ _ a2 _ [f1 eF v1 k,.fz (.at y (z+h.toNat * 4) [sb d.Name,i6 d.Series.Den,f,i6 d.Long]),f1 eU f d.Series.Samples,f1 eF s q,.blk A [sb d.Name,i6 d.Series.Den,f,i6 d.Long] 37]:=H.back [3] [4,2] rfl a3
   refine ⟨_,rfl,?_⟩
   refine RN ax<| zY (b:=a0) rfl (fun t=>?_) (fun t=>?_)
   ·have c:=zO t c
    refine zB fun ce a4=>zA<| zI (i6 5)<| RN a4 ?_
    obtain rfl:=gI c
    refine (zW (zV (yE (zV (zV (yE (zV (fC (v1:=i6 5) rfl rfl ?_))))))))
    exact ⟨rfl,H.pick []⟩
   have c:=zQ t c
   refine zX (zF (aw _ _ ?_))
   refine zB fun cf a5=>?_
   refine zB fun cg a6=>zA<| zG (aPu rfl)<| zG (yJ (yF (cs:=[i6 d.Series.Den,f]) aKx rfl sz35 rfl (Cells.drop (Hbc H 4 rfl) 1 2)) rfl) ?_
   have a7:=H
   obtain ⟨j,a8,c⟩:=zC c
   refine zZ rfl rfl (zS en139 rfl) (Fciw d.Series f _ a8 _ _ _ (H.enter [] [2])) ?_
   rintro _ ch ⟨rfl,a9⟩
   have H:=a7.step (a9.only:Only [] _ _)
   refine ⟨_,rfl,?_⟩
   refine zI (i6 j)<| RN a6<| zB fun ci ba=>zA<| zH (i6 j) ?_
   obtain ⟨bb,bc,c⟩:=zD c
   refine zG (zL (dC (a:=j) (b:=0) rfl rfl) bc)<| RN ba<| zY (b:=bb) rfl (fun u=>?_) (fun u=>?_)
   ·have c:=zO u c
    refine zB fun cj bd=>zA<| zH (i6 j)<| zI (i6 j)<| RN bd ?_
    obtain rfl:=gI c
    refine (zW (zV (yE (zV (zV (yE (zV (fC (v1:=i6 j) rfl rfl ?_))))))))
    exact ⟨rfl,H.pick []⟩
   have c:=zQ u c
   refine zX (zF (a5 _ _ ?_))
   refine zB fun ck be=>zA<| zG (fa37_2 rfl)<| Ld fM H 4 3 rfl rfl ?_
   have bf:=H
   obtain ⟨bg,bh,c⟩:=zC c
   refine zZ rfl rfl (zS aQe rfl) (aPb d.Long 0 1099511627776 _ bh _ _ _ (H.enter [] [])) ?_
   rintro _ cl ⟨rfl,bi⟩
   have H:=bf.step (bi.only:Only [] _ _)
   refine ⟨_,rfl,?_⟩
   obtain ⟨bj,bk,c⟩:=zD c
   refine zG (zL (wH (p:=bg) rfl) bk)<| RN be<| zY (b:=bj) rfl (fun v=>?_) (fun v=>?_)
   ·have c:=zO v c
    refine zB fun cm bl=>zA<| zI (i6 9)<| RN bl ?_
    obtain rfl:=gI c
    refine (zW (yE (zV (zV (yE (zV (fC (v1:=i6 9) rfl rfl ?_)))))))
    exact ⟨rfl,H.pick []⟩
   have c:=zQ v c
   refine (zX (yH (zF (ad _ _ ?_))))
   refine zA ?_
   obtain ⟨B,bm,c⟩:=zD c
   refine zG (xM (a:=h) (b:=1) rfl rfl bm)<| zH (i6 B) ?_
   exact (yA (zF (meet ⟨(Y,B),(zJ rfl zK),⟨H.pick [0],c⟩,Nat.lt_succ_self _⟩)))
  have c:=zQ m c
  exact (xI (yI (yI (yV (zF (meet ⟨(),zK,⟨H.pick [],c⟩⟩))))))
 rintro _ ρ cn ⟨H,c⟩
 have c:=dF P c
 refine zB fun co bn=>zA<| zI (i6 0)<| RN bn ?_
 obtain rfl:=gI c
 refine (zW (fC (v1:=i6 0) rfl rfl ?_))
 exact ⟨rfl,H.pick []⟩
theorem Fcxw (d:Cond)(j:List Str)(v1:Value)(f:Nat)(h:Value)(r:Int×(List Str))(c:Fcx d j=some r)(O S:List Nat)(w:World)(H:Hd O w w S [.own Rp.str h 9 j,.blk f [h] 22,f1 fA v1 d.Kids]):
  Cl 196 [.agg [i6 d.Kind,sb d.Name,sb d.Other,i6 d.Op,i6 d.N,i6 d.Frames,v1].toArray,gV f] w fun e u=> ∃n,e= .returned (i6 r.1)∧Hd O w u S [.own Rp.str n 9 r.2,.blk f [n] 22]:=by
 unfold Fcx at c
 refine CW 23 Tryz.func196 ?_
 refine zB fun T x=>zA<| yQ rfl rfl (xR (cs:=[i6 d.Kind,sb d.Name,sb d.Other,i6 d.Op,i6 d.N,i6 d.Frames,v1]) rfl H) ?_
 rintro _ U ⟨y,rfl,H⟩
 refine zI (i6 0)<| RN x ?_
 obtain ⟨z,c,A⟩:=zC c
 refine yK [4,5,6,7,8,9,10,11,12,13,14,15,16,17,18,19,20,21,22] (fun (g:Value)=>[]) (fun g wl=>Hd O w wl S [.own Rp.str g 9 z,.blk f [g] 22]) ?_ ?_
 ·skip
  refine zB fun V B=>zA<| zG (jB rfl)<| Ld fM H 3 0 rfl rfl<| RN B<| yD ?_
  obtain ⟨o,c,C⟩:=zC c
  refine yK [6,7,8] (fun (g:Unit)=>[(6,.bool o)]) (fun g wl=>Hd O w wl S [.own Rp.str h 9 j,.blk f [h] 22,f1 fA v1 d.Kids,.blk y [i6 d.Kind,sb d.Name,sb d.Other,i6 d.Op,i6 d.N,i6 d.Frames,v1] 70]) ?_ ?_
  ·skip
   refine zB fun X D=>zA ?_
   obtain ⟨p,E,c⟩:=zD c
   refine zG (zL (yR (a:=d.Kind) (b:=3) rfl rfl) E)<| zI (.bool p)<| RN D<| zY (b:=p) rfl (fun k=>?_) (fun k=>?_)
   ·have c:=zO k c
    obtain rfl:=gI c
    exact (zX (zF (meet ⟨(),(zJ rfl zK),H.pick [0,1,2,3]⟩)))
   have c:=zQ k c
   refine zA ?_
   obtain ⟨F,G,c⟩:=zD c
   refine zG (zL (yR (a:=d.Kind) (b:=5) rfl rfl) G)<| zI (.bool F) ?_
   obtain rfl:=gI c
   exact (yA (zF (meet ⟨(),(zJ rfl zK),H.pick [0,1,2,3]⟩)))
  rintro _ ρ Y H
  have c:=C
  refine zY (b:=o) rfl (fun l=>?_) (fun l=>?_)
  ·have c:=zO l c
   refine zA ?_
   refine Ld jS H 1 0 rfl rfl<| zG (nK rfl)<| Ld bF H 3 1 rfl rfl ?_
   obtain ⟨Z,I,c⟩:=zD c
   subst I
   refine yQ rfl rfl (aX (r:=Rp.str) (xl:=[d.Name]) (cs:=[sb d.Name]) u22 el9 (by decide) (by decide) rfl (xH (vs:=[sb d.Name]) (by decide) rfl rfl ⟨rfl,trivial⟩ rfl) H ⟨[sb d.Name],[],rfl,rfl,rfl⟩) ?_
   rintro aa ab H
   obtain ⟨ac,J,c⟩:=zC c
   refine yQ rfl rfl (aJ H (i:=0) rfl u22 el9 rfl rfl (Sr.of_own (H.item (i:=4) rfl)) J) ?_
   rintro q ad H
   refine yP rfl (xE H 1 rfl sz22 rfl (v:=q) rfl (bC (H.item (i:=0) rfl)) rfl) ?_
   rintro ae H
   obtain rfl:=gI c
   exact (yA (yH (zF (meet ⟨q,zK,H.pick [0,1]⟩))))
  have c:=zQ l c
  refine zB fun af K=>zA ?_
  obtain ⟨s,L,c⟩:=zD c
  refine zG (zL (yR (a:=d.Kind) (b:=4) rfl rfl) L)<| zI (.bool s)<| RN K<| zY (b:=s) rfl (fun m=>?_) (fun m=>?_)
  ·have c:=zO m c
   refine zA ?_
   refine Ld jS H 1 0 rfl rfl<| zG (nK rfl)<| Ld bF H 3 1 rfl rfl<| zG (aIt rfl)<| Ld bF H 3 2 rfl rfl ?_
   obtain ⟨ag,M,c⟩:=zD c
   subst M
   refine yQ rfl rfl (aX (r:=Rp.str) (xl:=[d.Name,d.Other]) (cs:=[sb d.Name,sb d.Other]) u22 el9 (by decide) (by decide) rfl (xH (vs:=[sb d.Name,sb d.Other]) (by decide) rfl rfl ⟨rfl,rfl,trivial⟩ rfl) H ⟨[sb d.Name],[sb d.Other],rfl,rfl,⟨[sb d.Other],[],rfl,rfl,rfl⟩⟩) ?_
   rintro ah ai H
   obtain ⟨aj,P,c⟩:=zC c
   refine yQ rfl rfl (aJ H (i:=0) rfl u22 el9 rfl rfl (Sr.of_own (H.item (i:=4) rfl)) P) ?_
   rintro t ak H
   refine yP rfl (xE H 1 rfl sz22 rfl (v:=t) rfl (bC (H.item (i:=0) rfl)) rfl) ?_
   rintro al H
   obtain rfl:=gI c
   exact (yA (yH (zF (meet ⟨t,zK,H.pick [0,1]⟩))))
  have c:=zQ m c
  obtain rfl:=gI c
  exact (zX (yH (zF (meet ⟨h,zK,H.pick [0,1]⟩))))
 rintro Q ρ am H
 have c:=A
 refine zB fun an R=>zA<| zI (i6 0)<| RN R ?_
 obtain rfl:=gI c
 refine (zW (fC (v1:=i6 0) rfl rfl ?_))
 exact ⟨Q,rfl,H.pick [0,1]⟩
abbrev Fer (f:Cond→(List Str)→Option (Int×(List Str))):Prop:= ∀(p0:Cond) (p1c0:List Str) (v1:Value) (b3:Nat) (v4:Value) (r:Int×(List Str)) (_:f p0 p1c0=some r) (O S:List Nat) (w:World) (_:Hd O w w S [.own Rp.str v4 9 p1c0,.blk b3 [v4] 22,f1 fA v1 p0.Kids]),
  Cl 81 [.agg [i6 p0.Kind,sb p0.Name,sb p0.Other,i6 p0.Op,i6 p0.N,i6 p0.Frames,v1].toArray,.func (.func 196) #[] #[gV b3]] w fun e w'=> ∃u7,e= .returned (i6 r.1)∧Hd O w w' S [.own Rp.str u7 9 r.2,.blk b3 [u7] 22]
end Go.Proofs.YtckmiljbaejijaaGreatDoor.L
