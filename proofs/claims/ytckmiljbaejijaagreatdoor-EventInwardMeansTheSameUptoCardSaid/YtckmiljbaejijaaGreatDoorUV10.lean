/- Walks: what each function computes, for every argument; no condition but those that stand in the statements. -/
import Derived.Test.YtckmiljbaejijaaGreatDoorUV0
import Derived.Test.YtckmiljbaejijaaGreatDoorUV9
import Derived.Test.YtckmiljbaejijaaGreatDoorUV1
import Derived.Test.YtckmiljbaejijaaGreatDoorUV7
namespace Go.Proofs.YtckmiljbaejijaaGreatDoor.L
open Go.RowKit Go.OB Go.Lf
set_option maxHeartbeats 4000000
theorem Fbdw (rfM:Cond→Bool→Option Cond)(rhM:Fd2 rfM)(l:List Cond)(j:Bool)(v1:Value)(r:(List Cond))(c:Fbd rfM l j=some r)(O S:List Nat)(w:World)(H:Hd O w w S [f1 fA v1 l]):
  Cl 168 [v1,.bool j] w fun e y=> ∃u3,e= .returned (u3)∧Hd O w y S [.own fA u3 70 r]:=by
 unfold Fbd at c
 refine CW 22 Tryz.func168 ?_
 refine zB fun K4 z=>zA<| zI (.slice none 0 0)<| RN z<| zB fun K5 A=>zA<| zI (.slice none 0 0)<| RN A ?_
 obtain ⟨q,c,B⟩:=zC c
 refine yK [5,7,8,9,10,11,12,13,14,15,16,17,18,19,20] (fun (g:Value)=>[(5,g)]) (fun g wl=>Hd O w wl S [.own fA g 70 q]) ?_ ?_
 ·skip
  refine zB fun al C=>zA<| zH v1 ?_
  obtain ⟨D,E,c⟩:=zD c
  obtain ⟨am,an,F⟩:=SlF.len ((H.item (i:=0) rfl))
  refine zG (yJ (xO u68 F) (congrArg (Value.int .i64) E))<| zH (i6 0)<| RN C<| yD ?_
  have H:=bY H fA 70
  unfold Fe0 at c
  obtain ⟨G,s,I,c⟩:=yT c
  refine xB [5,7,10,11,12,13,14,15,16,17,18,19,20] (fun (g:Nat×(List Cond)×Int×Value)=>[(5,g.2.2.2),(10,i6 g.2.2.1)]) (fun g wl=>Hd O w wl S [.own fA g.2.2.2 70 g.2.1,f1 fA v1 l]∧fV G g.1 (g.2.1,g.2.2.1)=some q) (fun g=>g.1) (s,[],0,.slice none 0 0) (zJ rfl (zJ rfl zK)) ⟨H.pick [1,0],c⟩ ?_
  clear H c
  rintro ⟨s,ao,m,t⟩ ρ ap ⟨H,c⟩
  obtain ⟨J,rfl,c⟩:=yZ c
  have c:=yY I c
  refine zB fun aq K=>zA ?_
  obtain ⟨L,M,c⟩:=zD c
  refine zG (zL (xP (a:=m) (b:=D) rfl rfl) M)<| RN K<| zB fun ar P=>zY (b:=L) rfl (fun n=>?_) (fun n=>?_)
  ·have c:=zO n c
   refine zX (zF (P _ _ ?_))
   refine zB fun au Q=>?_
   refine yD ?_
   refine zB fun av R=>zA ?_
   obtain ⟨d,o,c⟩:=zC c
   obtain ⟨T,U,aw,ax,V,X,Y,Z,aa⟩:=dI (H.item (i:=1) rfl) o
   obtain ⟨h,rfl,ab⟩:=cO X
   have H:=H.fzs [.at T (U+m.toNat * 7) _,.sl fA h d.Kids] ⟨⟨Y,Z,aa⟩,ab,trivial⟩
   refine zG (xC u68 fZ V rfl (yC o).1 (yC o).2.1 rfl rfl)<| zG (yJ (yF (cs:=[i6 d.Kind,sb d.Name,sb d.Other,i6 d.Op,i6 d.N,i6 d.Frames,h]) eG rfl fZ rfl (H.item (i:=2) rfl).2.2) rfl)<| yQ rfl rfl (xA aB H) ?_
   rintro _ ay ⟨az,rfl,H⟩
   refine yP rfl (yL (vs:=[i6 d.Kind,sb d.Name,sb d.Other,i6 d.Op,i6 d.N,i6 d.Frames,h]) H 4 rfl fZ rfl rfl rfl ⟨rfl,rfl,rfl,rfl,rfl,rfl,(xY (H.item (i:=3) rfl)),trivial⟩ rfl) ?_
   rintro a0 H
   refine RN R<| zA<| zH t<| zG (yJ (yF (cs:=[i6 d.Kind,sb d.Name,sb d.Other,i6 d.Op,i6 d.N,i6 d.Frames,h]) eG rfl fZ rfl (Hbc H 4 rfl)) rfl)<| zH (.bool j) ?_
   obtain ⟨f,ac,c⟩:=zC c
   refine zZ rfl rfl (zS en115 rfl) (rhM d j h _ ac _ _ _ (H.enter [] [3])) ?_
   rintro _ a1 ⟨p,rfl,ad⟩
   have H:=H.back1 [3] rfl ad
   refine ⟨_,rfl,?_⟩
   obtain ⟨a2,ae,c⟩:=zD c
   subst ae
   refine yQ rfl rfl (aX (r:=fA) (xl:=[f]) (cs:=[i6 f.Kind,sb f.Name,sb f.Other,i6 f.Op,i6 f.N,i6 f.Frames,p]) u68 aIw (by decide) (by decide) rfl (xH (vs:=[.agg [i6 f.Kind,sb f.Name,sb f.Other,i6 f.Op,i6 f.N,i6 f.Frames,p].toArray]) (by decide) rfl rfl ⟨rfl,trivial⟩ rfl) H ⟨[i6 f.Kind,sb f.Name,sb f.Other,i6 f.Op,i6 f.N,i6 f.Frames,p],[],rfl,(qA (x:=f) (H.item (i:=5) rfl)),rfl⟩) ?_
   rintro a3 a4 H
   obtain ⟨af,ag,c⟩:=zC c
   refine yQ rfl rfl (aJ H (i:=0) rfl u68 aIw rfl rfl (Sr.of_own (H.item (i:=6) rfl)) ag) ?_
   rintro u a5 H
   refine zI u<| (yA (yH (zF (Q _ _ ?_))))
   refine zA ?_
   obtain ⟨v,ah,c⟩:=zD c
   refine zG (xM (a:=m) (b:=1) rfl rfl ah)<| zH (i6 v) ?_
   exact (yA (zF (meet ⟨(J,af,v,u),(zJ rfl (zJ rfl zK)),⟨H.pick [0,1],c⟩,Nat.lt_succ_self _⟩)))
  have c:=zQ n c
  obtain rfl:=gI c
  exact (xI (yI (yI (yV (zF (meet ⟨t,(zJ rfl zK),H.pick [0]⟩))))))
 rintro k ρ a6 H
 have c:=B
 refine zB fun a7 ai=>zA<| zH k<| zI k<| RN ai ?_
 obtain rfl:=gI c
 refine (zW (fC (v1:=k) rfl rfl ?_))
 exact ⟨k,rfl,H.pick [0]⟩
set_option maxRecDepth 100000 in
theorem Fb8w (d:Int)(r:Int)(c:Fb8 d=some r)(O S:List Nat)(w:World)(H:Hd O w w S []):
  Cl 169 [i6 d] w fun e q=>e= .returned (i6 r)∧Hd O w q S []:=by
 unfold Fb8 at c
 refine CW 14 Tryz.func169 ?_
 refine zB fun N s=>zA<| zI (i6 0)<| RN s<| zB fun P t=>zB fun Q u=>zA<| zH (i6 d)<| RN u<| yD<| zB fun R v=>zA ?_
 obtain ⟨l,x,c⟩:=zD c
 refine zG (zL (yR (a:=d) (b:=1) rfl rfl) x)<| zI (.bool l)<| RN v<| zY (b:=l) rfl (fun f=>?_) (fun f=>?_)
 ·have c:=zO f c
  refine zB fun T y=>zA<| zI (i6 5)<| RN y ?_
  obtain rfl:=gI c
  refine (zW (yE (zV (fC (v1:=i6 5) rfl rfl ?_))))
  exact ⟨rfl,H.pick []⟩
 have c:=zQ f c
 refine zB fun U z=>zA ?_
 obtain ⟨m,A,c⟩:=zD c
 refine zG (zL (yR (a:=d) (b:=2) rfl rfl) A)<| zI (.bool m)<| RN z<| zY (b:=m) rfl (fun h=>?_) (fun h=>?_)
 ·have c:=zO h c
  refine zB fun V B=>zA<| zI (i6 6)<| RN B ?_
  obtain rfl:=gI c
  refine (zW (yE (zV (fC (v1:=i6 6) rfl rfl ?_))))
  exact ⟨rfl,H.pick []⟩
 have c:=zQ h c
 refine zB fun X C=>zA ?_
 obtain ⟨n,D,c⟩:=zD c
 refine zG (zL (yR (a:=d) (b:=3) rfl rfl) D)<| zI (.bool n)<| RN C<| zY (b:=n) rfl (fun i=>?_) (fun i=>?_)
 ·have c:=zO i c
  refine zB fun Y E=>zA<| zI (i6 4)<| RN E ?_
  obtain rfl:=gI c
  refine (zW (yE (zV (fC (v1:=i6 4) rfl rfl ?_))))
  exact ⟨rfl,H.pick []⟩
 have c:=zQ i c
 refine zB fun Z F=>zA ?_
 obtain ⟨o,G,c⟩:=zD c
 refine zG (zL (yR (a:=d) (b:=4) rfl rfl) G)<| zI (.bool o)<| RN F<| zY (b:=o) rfl (fun j=>?_) (fun j=>?_)
 ·have c:=zO j c
  refine zB fun aa I=>zA<| zI (i6 3)<| RN I ?_
  obtain rfl:=gI c
  refine (zW (yE (zV (fC (v1:=i6 3) rfl rfl ?_))))
  exact ⟨rfl,H.pick []⟩
 have c:=zQ j c
 refine zB fun ab J=>zA ?_
 obtain ⟨p,K,c⟩:=zD c
 refine zG (zL (yR (a:=d) (b:=5) rfl rfl) K)<| zI (.bool p)<| RN J<| zY (b:=p) rfl (fun k=>?_) (fun k=>?_)
 ·have c:=zO k c
  refine zB fun ac L=>zA<| zI (i6 1)<| RN L ?_
  obtain rfl:=gI c
  refine (zW (yE (zV (fC (v1:=i6 1) rfl rfl ?_))))
  exact ⟨rfl,H.pick []⟩
 have c:=zQ k c
 refine (zX (yH (zF (t _ _ ?_))))
 refine zB fun ad M=>zA<| zI (i6 2)<| RN M ?_
 obtain rfl:=gI c
 refine (zW (fC (v1:=i6 2) rfl rfl ?_))
 exact ⟨rfl,H.pick []⟩
set_option maxRecDepth 100000 in
theorem Fcgw (rfM:Cond→Bool→Option Cond)(rhM:Fd2 rfM)(f:Cond)(j:Bool)(o:Value)(r:Cond)(d:Fcg rfM f j=some r)(O S:List Nat)(w:World)(H:Hd O w w S [f1 fA o f.Kids]):
  Cl 115 [.agg [i6 f.Kind,sb f.Name,sb f.Other,i6 f.Op,i6 f.N,i6 f.Frames,o].toArray,.bool j] w fun e w'=> ∃u3,e= .returned (.agg [i6 r.Kind,sb r.Name,sb r.Other,i6 r.Op,i6 r.N,i6 r.Frames,u3].toArray)∧Hd O w w' S [f1 fA u3 r.Kids]:=by
 unfold Fcg at d
 refine CW 66 Tryz.func115 ?_
 refine zB fun K4 al=>zA<| yQ rfl rfl (xR (cs:=[i6 f.Kind,sb f.Name,sb f.Other,i6 f.Op,i6 f.N,i6 f.Frames,o]) rfl H) ?_
 rintro _ w7 ⟨y,rfl,H⟩
 refine yQ rfl rfl (xA aB H) ?_
 rintro _ c1 ⟨z,rfl,H⟩
 refine RN al<| zB fun c2 am=>zA<| yQ rfl rfl (aGg H) ?_
 rintro _ c3 ⟨s,rfl,H⟩
 obtain ⟨an,ao,d⟩:=zC d
 refine yP rfl (pJ (K:=(Ky.int .i64)) (G:=(fun v=>Value.int .i64 v)) (m:=([]:List (Int×Int))) (k:=1) (v:=2) H 3 rfl aQg u3 rfl rfl rfl ao) ?_
 rintro c4 H
 obtain ⟨ap,aq,d⟩:=zC d
 refine yP rfl (pJ (K:=(Ky.int .i64)) (G:=(fun v=>Value.int .i64 v)) (m:=an) (k:=2) (v:=1) H 3 rfl aQg u3 rfl rfl rfl aq) ?_
 rintro c5 H
 obtain ⟨ar,au,d⟩:=zC d
 refine yP rfl (pJ (K:=(Ky.int .i64)) (G:=(fun v=>Value.int .i64 v)) (m:=ap) (k:=9) (v:=10) H 3 rfl aQg u3 rfl rfl rfl au) ?_
 rintro c6 H
 obtain ⟨av,aw,d⟩:=zC d
 refine yP rfl (pJ (K:=(Ky.int .i64)) (G:=(fun v=>Value.int .i64 v)) (m:=ar) (k:=10) (v:=9) H 3 rfl aQg u3 rfl rfl rfl aw) ?_
 rintro c7 H
 obtain ⟨ax,ay,d⟩:=zC d
 refine yP rfl (pJ (K:=(Ky.int .i64)) (G:=(fun v=>Value.int .i64 v)) (m:=av) (k:=11) (v:=12) H 3 rfl aQg u3 rfl rfl rfl ay) ?_
 rintro c8 H
 obtain ⟨A,az,d⟩:=zC d
 refine yP rfl (pJ (K:=(Ky.int .i64)) (G:=(fun v=>Value.int .i64 v)) (m:=ax) (k:=12) (v:=11) H 3 rfl aQg u3 rfl rfl rfl az) ?_
 rintro c9 H
 refine zH (.map (some s))<| zI (.map (some s))<| RN am<| zB fun da a0=>zB fun db a1=>zA<| zG (jB rfl)<| Ld fM H 1 0 rfl rfl<| RN a1<| yD<| zB fun dc a2=>zA ?_
 obtain ⟨U,a3,d⟩:=zD d
 refine zG (zL (yR (a:=f.Kind) (b:=8) rfl rfl) a3)<| zI (.bool U)<| RN a2<| zY (b:=U) rfl (fun B=>?_) (fun B=>?_)
 ·have d:=zO B d
  refine zB fun dd a4=>zA<| zG (jJ rfl)<| Ld tJ H 1 6 rfl rfl ?_
  obtain ⟨l,C,d⟩:=zC d
  obtain ⟨a5,a6,de,df,a7,a8,a9,ba,bb⟩:=dI (H.item (i:=0) rfl) C
  obtain ⟨D,rfl,bc⟩:=cO a8
  have H:=H.fzs [.at a5 (a6+(0:Int).toNat * 7) _,.sl fA D l.Kids] ⟨⟨a9,ba,bb⟩,bc,trivial⟩
  refine zG (xC u68 fZ a7 rfl (yC C).1 (yC C).2.1 rfl rfl)<| zG (yJ (yF (cs:=[i6 l.Kind,sb l.Name,sb l.Other,i6 l.Op,i6 l.N,i6 l.Frames,D]) eG rfl fZ rfl (H.item (i:=4) rfl).2.2) rfl)<| zH (.bool j) ?_
  obtain ⟨bd,be,d⟩:=zD d
  refine zG (zL (wH (p:=j) rfl) be) ?_
  obtain ⟨q,bf,d⟩:=zC d
  refine zZ rfl rfl (zS en115 rfl) (rhM l bd D _ bf _ _ _ (H.enter [] [5])) ?_
  rintro _ dg ⟨V,rfl,bg⟩
  have H:=H.back1 [5] rfl bg
  refine ⟨_,rfl,?_⟩
  refine yP rfl (yL (vs:=[i6 q.Kind,sb q.Name,sb q.Other,i6 q.Op,i6 q.N,i6 q.Frames,V]) H 2 rfl fZ rfl rfl rfl ⟨rfl,rfl,rfl,rfl,rfl,rfl,(xY (H.item (i:=6) rfl)),trivial⟩ rfl) ?_
  rintro dh H
  refine RN a4 ?_
  obtain rfl:=gI d
  refine (zW (yE (zV (jV rfl rfl (yN eG fZ rfl (Hbc H 2 rfl)) ?_))))
  exact ⟨V,rfl,H.pick [6]⟩
 have d:=zQ B d
 obtain ⟨X,d,bh⟩:=zC d
 refine yK [19,20,21,22,23,24] (fun (g:Unit)=>[(19,.bool X)]) (fun g wl=>Hd O w wl S [f1 fA o f.Kids,.blk y [i6 f.Kind,sb f.Name,sb f.Other,i6 f.Op,i6 f.N,i6 f.Frames,o] 70,.blk z [i6 0,.string (bs []),.string (bs []),i6 0,i6 0,i6 0,.slice none 0 0] 70,.mp s (gZ (Ky.int .i64) (fun v=>Value.int .i64 v) A)]) ?_ ?_
 ·skip
  refine zB fun di bi=>zA ?_
  obtain ⟨Y,bj,d⟩:=zD d
  refine zG (zL (yR (a:=f.Kind) (b:=6) rfl rfl) bj)<| zI (.bool Y)<| RN bi<| zY (b:=Y) rfl (fun E=>?_) (fun E=>?_)
  ·have d:=zO E d
   obtain rfl:=gI d
   exact (zX (zF (meet ⟨(),(zJ rfl zK),H.pick [0,1,2,3]⟩)))
  have d:=zQ E d
  refine zB fun dj bk=>zA ?_
  obtain ⟨Z,bl,d⟩:=zD d
  refine zG (zL (yR (a:=f.Kind) (b:=7) rfl rfl) bl)<| zI (.bool Z)<| RN bk<| zY (b:=Z) rfl (fun F=>?_) (fun F=>?_)
  ·have d:=zO F d
   obtain rfl:=gI d
   exact (zX (zF (meet ⟨(),(zJ rfl zK),H.pick [0,1,2,3]⟩)))
  have d:=zQ F d
  refine zB fun dk bm=>zA ?_
  obtain ⟨aa,bn,d⟩:=zD d
  refine zG (zL (yR (a:=f.Kind) (b:=5) rfl rfl) bn)<| zI (.bool aa)<| RN bm<| zY (b:=aa) rfl (fun I=>?_) (fun I=>?_)
  ·have d:=zO I d
   obtain rfl:=gI d
   exact (zX (zF (meet ⟨(),(zJ rfl zK),H.pick [0,1,2,3]⟩)))
  have d:=zQ I d
  refine zB fun dl bo=>zA ?_
  obtain ⟨ab,bp,d⟩:=zD d
  refine zG (zL (yR (a:=f.Kind) (b:=14) rfl rfl) bp)<| zI (.bool ab)<| RN bo<| zY (b:=ab) rfl (fun J=>?_) (fun J=>?_)
  ·have d:=zO J d
   obtain rfl:=gI d
   exact (zX (zF (meet ⟨(),(zJ rfl zK),H.pick [0,1,2,3]⟩)))
  have d:=zQ J d
  refine zA ?_
  obtain ⟨bq,br,d⟩:=zD d
  refine zG (zL (yR (a:=f.Kind) (b:=15) rfl rfl) br)<| zI (.bool bq) ?_
  obtain rfl:=gI d
  exact (yA (zF (meet ⟨(),(zJ rfl zK),H.pick [0,1,2,3]⟩)))
 rintro _ ρ dm H
 have d:=bh
 refine zY (b:=X) rfl (fun L=>?_) (fun L=>?_)
 ·have d:=zO L d
  refine zB fun dn bt=>zA<| zG (jJ rfl)<| Ld tJ H 1 6 rfl rfl ?_
  obtain ⟨ac,bu,d⟩:=zC d
  refine zZ rfl rfl (zS en168 rfl) (Fbdw rfM rhM f.Kids false o _ bu _ _ _ (H.enter [] [0])) ?_
  rintro _ dp ⟨n,rfl,bv⟩
  have H:=H.back1 [0] rfl bv
  refine ⟨_,rfl,?_⟩
  refine zG (jJ rfl)<| yP rfl (xE H 1 rfl sz68 rfl (v:=n) rfl (bC (H.item (i:=4) rfl)) rfl) ?_
  rintro dq H
  refine RN bt<| zB fun dr bw=>zB fun ds bx=>zA<| zH (.bool j)<| RN bx<| zY (b:=j) rfl (fun M=>?_) (fun M=>?_)
  ·have d:=zO M d
   refine zB fun dt bz=>zA<| zG (yJ (yF (cs:=[i6 f.Kind,sb f.Name,sb f.Other,i6 f.Op,i6 f.N,i6 f.Frames,n]) eG rfl fZ rfl (Hbc H 1 rfl)) rfl) ?_
   have H:=H.freeze (i:=4) rfl
   obtain ⟨du,b0,d⟩:=zD d
   subst b0
   refine yQ rfl rfl (aX (r:=fA) (xl:=[Cond.mk f.Kind f.Name f.Other f.Op f.N f.Frames ac]) (cs:=[i6 f.Kind,sb f.Name,sb f.Other,i6 f.Op,i6 f.N,i6 f.Frames,n]) u68 aIw (by decide) (by decide) rfl (xH (vs:=[.agg [i6 f.Kind,sb f.Name,sb f.Other,i6 f.Op,i6 f.N,i6 f.Frames,n].toArray]) (by decide) rfl rfl ⟨rfl,trivial⟩ rfl) H ⟨[i6 f.Kind,sb f.Name,sb f.Other,i6 f.Op,i6 f.N,i6 f.Frames,n],[],rfl,(qA (x:=Cond.mk f.Kind f.Name f.Other f.Op f.N f.Frames ac) (H.item (i:=4) rfl)),rfl⟩) ?_
   rintro t dv H
   obtain ⟨b1,b2,b3⟩: ∃a c,t= .slice a _ c:=Sr.len (Sr.of_own (H.item (i:=5) rfl))
   refine zG (xJ (cs:=[i6 8,.string (bs []),.string (bs []),i6 0,i6 0,i6 0,t]) (by rw [b3]; exact aEh _ b1 _ b2))<| yP rfl (yL (vs:=[i6 8,.string (bs []),.string (bs []),i6 0,i6 0,i6 0,t]) H 2 rfl fZ rfl rfl rfl ⟨rfl,rfl,rfl,rfl,rfl,rfl,(bC (H.item (i:=5) rfl)),trivial⟩ rfl) ?_
   rintro dw H
   refine RN bz ?_
   have H:=H.freeze (i:=5) rfl
   obtain rfl:=gI d
   refine (zW (zV (yE (zV (jV rfl rfl (yN eG fZ rfl (Hbc H 2 rfl)) ?_)))))
   exact ⟨t,rfl,H.pick [5]⟩
  have d:=zQ M d
  refine zX (zF (bw _ _ ?_))
  refine zB fun dx b4=>zA<| zG (yJ (yF (cs:=[i6 f.Kind,sb f.Name,sb f.Other,i6 f.Op,i6 f.N,i6 f.Frames,n]) eG rfl fZ rfl (Hbc H 1 rfl)) rfl)<| yP rfl (yL (vs:=[i6 f.Kind,sb f.Name,sb f.Other,i6 f.Op,i6 f.N,i6 f.Frames,n]) H 2 rfl fZ rfl rfl rfl ⟨rfl,rfl,rfl,rfl,rfl,rfl,(bC (H.item (i:=4) rfl)),trivial⟩ rfl) ?_
  rintro dy H
  refine RN b4 ?_
  have H:=H.freeze (i:=4) rfl
  obtain rfl:=gI d
  refine (zW (yE (zV (jV rfl rfl (yN eG fZ rfl (Hbc H 2 rfl)) ?_))))
  exact ⟨n,rfl,H.pick [4]⟩
 have d:=zQ L d
 refine (zX (yH (zF (a0 _ _ ?_))))
 refine zB fun dz b5=>zA<| zG (jJ rfl)<| Ld tJ H 1 6 rfl rfl<| zH (.bool j) ?_
 obtain ⟨ad,b6,d⟩:=zC d
 refine zZ rfl rfl (zS en168 rfl) (Fbdw rfM rhM f.Kids j o _ b6 _ _ _ (H.enter [] [0])) ?_
 rintro _ d0 ⟨h,rfl,b7⟩
 have H:=H.back1 [0] rfl b7
 refine ⟨_,rfl,?_⟩
 refine zG (jJ rfl)<| yP rfl (xE H 1 rfl sz68 rfl (v:=h) rfl (bC (H.item (i:=4) rfl)) rfl) ?_
 rintro d1 H
 refine RN b5<| zB fun d2 b8=>zB fun d3 b9=>zA<| zH (.bool j) ?_
 obtain ⟨ca,cb,d⟩:=zD d
 refine zG (zL (wH (p:=j) rfl) cb)<| RN b9<| zY (b:=ca) rfl (fun P=>?_) (fun P=>?_)
 ·have d:=zO P d
  refine zB fun d4 cc=>zA<| zG (yJ (yF (cs:=[i6 f.Kind,sb f.Name,sb f.Other,i6 f.Op,i6 f.N,i6 f.Frames,h]) eG rfl fZ rfl (Hbc H 1 rfl)) rfl)<| yP rfl (yL (vs:=[i6 f.Kind,sb f.Name,sb f.Other,i6 f.Op,i6 f.N,i6 f.Frames,h]) H 2 rfl fZ rfl rfl rfl ⟨rfl,rfl,rfl,rfl,rfl,rfl,(bC (H.item (i:=4) rfl)),trivial⟩ rfl) ?_
  rintro d5 H
  refine RN cc ?_
  have H:=H.freeze (i:=4) rfl
  obtain rfl:=gI d
  refine (zW (zV (jV rfl rfl (yN eG fZ rfl (Hbc H 2 rfl)) ?_)))
  exact ⟨h,rfl,H.pick [4]⟩
 have d:=zQ P d
 refine zX (zF (b8 _ _ ?_))
 obtain ⟨u,d,cd⟩:=zC d
 refine yK [42,43,44,45,46,47,48,49,50,51,52,53,54,55,56,57,58,59,60,61,62,63,64] (fun (g:Unit)=>[]) (fun g wl=>Hd O w wl S [.blk y [i6 u.1,sb f.Name,sb f.Other,i6 u.2.1,i6 u.2.2,i6 f.Frames,h] 70,.own fA h 70 ad,.blk z [i6 0,.string (bs []),.string (bs []),i6 0,i6 0,i6 0,.slice none 0 0] 70]) ?_ ?_
 ·skip
  refine zB fun d6 ce=>zA<| zG (jB rfl)<| Ld fM H 1 0 rfl rfl<| RN ce<| yD ?_
  obtain ⟨ae,d,cf⟩:=zC d
  refine yK [49,50,51] (fun (g:Unit)=>[(49,.bool ae)]) (fun g wl=>Hd O w wl S [.blk y [i6 f.Kind,sb f.Name,sb f.Other,i6 f.Op,i6 f.N,i6 f.Frames,h] 70,.own fA h 70 ad,.blk z [i6 0,.string (bs []),.string (bs []),i6 0,i6 0,i6 0,.slice none 0 0] 70,.mp s (gZ (Ky.int .i64) (fun v=>Value.int .i64 v) A)]) ?_ ?_
  ·skip
   refine zB fun d7 cg=>zA ?_
   obtain ⟨af,ch,d⟩:=zD d
   refine zG (zL (yR (a:=f.Kind) (b:=3) rfl rfl) ch)<| zI (.bool af)<| RN cg<| zY (b:=af) rfl (fun Q=>?_) (fun Q=>?_)
   ·have d:=zO Q d
    obtain rfl:=gI d
    exact (zX (zF (meet ⟨(),(zJ rfl zK),H.pick [1,4,2,3]⟩)))
   have d:=zQ Q d
   refine zA ?_
   obtain ⟨ci,cj,d⟩:=zD d
   refine zG (zL (yR (a:=f.Kind) (b:=4) rfl rfl) cj)<| zI (.bool ci) ?_
   obtain rfl:=gI d
   exact (yA (zF (meet ⟨(),(zJ rfl zK),H.pick [1,4,2,3]⟩)))
  rintro _ ρ ck H
  have d:=cf
  refine zY (b:=ae) rfl (fun R=>?_) (fun R=>?_)
  ·have d:=zO R d
   refine zA ?_
   refine zG (rY rfl)<| Ld fM H 0 3 rfl rfl ?_
   have cl:=H
   obtain ⟨cm,cn,d⟩:=zC d
   refine zZ rfl rfl (zS en169 rfl) (Fb8w f.Op _ cn _ _ _ (H.enter [] [])) ?_
   rintro _ d8 ⟨rfl,co⟩
   have H:=cl.step (co.only:Only [] _ _)
   refine ⟨_,rfl,?_⟩
   refine zG (rY rfl)<| yP rfl (xE H 0 rfl sz3 rfl (v:=i6 cm) rfl rfl rfl) ?_
   rintro d9 H
   obtain rfl:=gI d
   exact (yA (yH (zF (meet ⟨(),zK,H.pick [0,1,2]⟩))))
  have d:=zQ R d
  refine zB fun ea cp=>zA ?_
  obtain ⟨ag,cq,d⟩:=zD d
  refine zG (zL (yR (a:=f.Kind) (b:=13) rfl rfl) cq)<| zI (.bool ag)<| RN cp<| zY (b:=ag) rfl (fun T=>?_) (fun T=>?_)
  ·have d:=zO T d
   refine zA ?_
   refine zG (sQ rfl)<| Ld fM H 0 5 rfl rfl ?_
   obtain ⟨cr,ct,d⟩:=zD d
   refine zG (xM (a:=f.Frames) (b:=1) rfl rfl ct)<| zG (pM rfl)<| Ld fM H 0 4 rfl rfl ?_
   obtain ⟨cu,cv,d⟩:=zD d
   refine zG (jO (a:=cr) (b:=f.N) rfl rfl cv)<| zG (pM rfl)<| yP rfl (xE H 0 rfl sz3 rfl (v:=i6 cu) rfl rfl rfl) ?_
   rintro eb H
   obtain rfl:=gI d
   exact (yA (yH (zF (meet ⟨(),zK,H.pick [0,1,2]⟩))))
  have d:=zQ T d
  refine zA ?_
  refine zH (.map (some s))<| zG (jB rfl)<| Ld fM H 0 0 rfl rfl ?_
  obtain ⟨cw,cx,d⟩:=zD d
  refine zG (yJ (nY (K:=(Ky.int .i64)) (G:=(fun v=>Value.int .i64 v)) (m:=A) (k:=f.Kind) (zv:=0) (H.item (i:=3) rfl) aQg u3 rfl rfl (Tryz.zeroValue3 ck)) (congrArg (fun v=>Value.int .i64 v) cx))<| zG (jB rfl)<| yP rfl (xE H 0 rfl sz3 rfl (v:=i6 cw) rfl rfl rfl) ?_
  rintro ec H
  obtain rfl:=gI d
  exact (yA (yH (zF (meet ⟨(),zK,H.pick [0,1,2]⟩))))
 rintro _ ρ ed H
 have d:=cd
 obtain ⟨ah,ai,aj⟩:=u
 refine zB fun ee cy=>zA<| zG (yJ (yF (cs:=[i6 ah,sb f.Name,sb f.Other,i6 ai,i6 aj,i6 f.Frames,h]) eG rfl fZ rfl (Hbc H 0 rfl)) rfl)<| yP rfl (yL (vs:=[i6 ah,sb f.Name,sb f.Other,i6 ai,i6 aj,i6 f.Frames,h]) H 2 rfl fZ rfl rfl rfl ⟨rfl,rfl,rfl,rfl,rfl,rfl,(bC (H.item (i:=1) rfl)),trivial⟩ rfl) ?_
 rintro ef H
 refine RN cy ?_
 have H:=H.freeze (i:=1) rfl
 obtain rfl:=gI d
 refine (zW (jV rfl rfl (yN eG fZ rfl (Hbc H 2 rfl)) ?_))
 exact ⟨h,rfl,H.pick [1]⟩
theorem Fgm:Fd2 (Feb):=by
 have h: ∀n,Fd2 (Fa5 n):=by
  intro n
  induction n with
  | zero=>intro b c d r a; cases a
  | succ n ih=>intro b c d r a; exact Fcgw (Fa5 n) ih b c d r a
 exact h FU
theorem Fc0w (c:Cond)(v1:Value)(r:Cond×Int)(f:Fc0 c=some r)(O S:List Nat)(w:World)(H:Hd O w w S [f1 fA v1 c.Kids]):
  Cl 51 [.agg [i6 c.Kind,sb c.Name,sb c.Other,i6 c.Op,i6 c.N,i6 c.Frames,v1].toArray] w fun e n=> ∃u3,e= .returned (.tuple #[.agg [i6 r.1.Kind,sb r.1.Name,sb r.1.Other,i6 r.1.Op,i6 r.1.N,i6 r.1.Frames,u3].toArray,i6 r.2])∧Hd O w n S [f1 fA u3 r.1.Kids]:=by
 unfold Fc0 at f
 refine CW 22 Tryz.func51 ?_
 refine zB fun Q o=>zA<| yQ rfl rfl (xR (cs:=[i6 c.Kind,sb c.Name,sb c.Other,i6 c.Op,i6 c.N,i6 c.Frames,v1]) rfl H) ?_
 rintro _ R ⟨T,rfl,H⟩
 refine yQ rfl rfl (xA aB H) ?_
 rintro _ U ⟨V,rfl,H⟩
 refine zI (i6 0)<| RN o<| zB fun X p=>zB fun Y q=>zA<| zG (yJ (yF (cs:=[i6 c.Kind,sb c.Name,sb c.Other,i6 c.Op,i6 c.N,i6 c.Frames,v1]) eG rfl fZ rfl (Hbc H 1 rfl)) rfl) ?_
 have s:=H
 obtain ⟨h,t,f⟩:=zC f
 refine zZ rfl rfl (zS en29 rfl) (Fasw c v1 _ t _ _ _ (H.enter [] [0])) ?_
 rintro _ Z ⟨rfl,u⟩
 have H:=s.step (u.only:Only [] _ _)
 refine ⟨_,rfl,?_⟩
 refine zI (i6 h)<| RN q<| zB fun aa v=>zA<| zH (i6 h) ?_
 obtain ⟨x,y,f⟩:=zD f
 refine zG (zL (dC (a:=h) (b:=0) rfl rfl) y)<| RN v<| zY (b:=x) rfl (fun l=>?_) (fun l=>?_)
 ·have f:=zO l f
  refine zB fun ab z=>zA<| zG (xJ (cs:=[i6 0,.string (bs []),.string (bs []),i6 0,i6 0,i6 0,.slice none 0 0]) bz70)<| zH (i6 h)<| yP rfl (yL (vs:=[i6 0,.string (bs []),.string (bs []),i6 0,i6 0,i6 0,.slice none 0 0]) H 2 rfl fZ rfl rfl rfl ⟨rfl,rfl,rfl,rfl,rfl,rfl,rfl,trivial⟩ rfl) ?_
  rintro ac H
  refine zI (i6 h)<| RN z ?_
  have H:=H.fz (.sl fA (.slice none 0 0) []) SlF.nil
  obtain rfl:=gI f
  refine (zW (zV (kE (v1:=i6 h) rfl rfl (yN eG fZ rfl (Hbc H 2 rfl)) rfl ?_)))
  exact ⟨.slice none 0 0,rfl,H.pick [3]⟩
 have f:=zQ l f
 refine zX (zF (p _ _ ?_))
 refine zB fun ad A=>zA<| zG (yJ (yF (cs:=[i6 c.Kind,sb c.Name,sb c.Other,i6 c.Op,i6 c.N,i6 c.Frames,v1]) eG rfl fZ rfl (Hbc H 1 rfl)) rfl) ?_
 obtain ⟨d,B,f⟩:=zC f
 refine zZ rfl rfl (zS en115 rfl) (Fgm c false v1 _ B _ _ _ (H.enter [] [0])) ?_
 rintro _ ae ⟨j,rfl,C⟩
 have H:=H.back1 [0] rfl C
 refine ⟨_,rfl,?_⟩
 refine yQ rfl rfl (xA aB H) ?_
 rintro _ af ⟨ag,rfl,H⟩
 refine yP rfl (yL (vs:=[i6 d.Kind,sb d.Name,sb d.Other,i6 d.Op,i6 d.N,i6 d.Frames,j]) H 4 rfl fZ rfl rfl rfl ⟨rfl,rfl,rfl,rfl,rfl,rfl,(xY (H.item (i:=3) rfl)),trivial⟩ rfl) ?_
 rintro ah H
 refine RN A<| zB fun ai D=>zB fun aj E=>zA<| zG (yJ (yF (cs:=[i6 d.Kind,sb d.Name,sb d.Other,i6 d.Op,i6 d.N,i6 d.Frames,j]) eG rfl fZ rfl (Hbc H 4 rfl)) rfl) ?_
 have F:=H
 obtain ⟨k,G,f⟩:=zC f
 refine zZ rfl rfl (zS en29 rfl) (Fasw d j _ G _ _ _ (H.enter [] [3])) ?_
 rintro _ ak ⟨rfl,I⟩
 have H:=F.step (I.only:Only [] _ _)
 refine ⟨_,rfl,?_⟩
 refine zI (i6 k)<| RN E<| zB fun al J=>zA<| zH (i6 k) ?_
 obtain ⟨K,L,f⟩:=zD f
 refine zG (zL (dC (a:=k) (b:=0) rfl rfl) L)<| RN J<| zY (b:=K) rfl (fun m=>?_) (fun m=>?_)
 ·have f:=zO m f
  refine zB fun am M=>zA<| zG (xJ (cs:=[i6 0,.string (bs []),.string (bs []),i6 0,i6 0,i6 0,.slice none 0 0]) bz70)<| zH (i6 k)<| yP rfl (yL (vs:=[i6 0,.string (bs []),.string (bs []),i6 0,i6 0,i6 0,.slice none 0 0]) H 2 rfl fZ rfl rfl rfl ⟨rfl,rfl,rfl,rfl,rfl,rfl,rfl,trivial⟩ rfl) ?_
  rintro an H
  refine zI (i6 k)<| RN M ?_
  have H:=H.fz (.sl fA (.slice none 0 0) []) SlF.nil
  obtain rfl:=gI f
  refine (zW (zV (kE (v1:=i6 k) rfl rfl (yN eG fZ rfl (Hbc H 2 rfl)) rfl ?_)))
  exact ⟨.slice none 0 0,rfl,H.pick [5]⟩
 have f:=zQ m f
 refine zX (zF (D _ _ ?_))
 refine zB fun ao P=>zA<| zG (yJ (yF (cs:=[i6 d.Kind,sb d.Name,sb d.Other,i6 d.Op,i6 d.N,i6 d.Frames,j]) eG rfl fZ rfl (Hbc H 4 rfl)) rfl)<| yP rfl (yL (vs:=[i6 d.Kind,sb d.Name,sb d.Other,i6 d.Op,i6 d.N,i6 d.Frames,j]) H 2 rfl fZ rfl rfl rfl ⟨rfl,rfl,rfl,rfl,rfl,rfl,(xY (H.item (i:=3) rfl)),trivial⟩ rfl) ?_
 rintro ap H
 refine zI (i6 0)<| RN P ?_
 obtain rfl:=gI f
 refine (zW (kE (v1:=i6 0) rfl rfl (yN eG fZ rfl (Hbc H 2 rfl)) rfl ?_))
 exact ⟨j,rfl,H.pick [3]⟩
set_option maxRecDepth 100000 in
theorem Fdpw (k:Rules)(y:List fH)(A:Int)(B:Int)(v1:Value)(j:Value)(n:Value)(o:Value)(r:Bool)(d:Fdp k y A B=some r)(O S:List Nat)(w:World)(H:Hd O w w S [f1 Rp.str v1 k.Phases,f1 gX j k.Moves,f1 fB n k.Rules,f1 eF o y,.fz (.at 0 0 ((Fl.arr 7 Fl.str).f zM)),.fz (.at 3 0 ((Fl.arr 20 (Fl.int .u64)).f zT)),.fz (.gi 4)]):
  Cl 13 [.agg [v1,j,n].toArray,o,i6 A,i6 B] w fun e p=>e= .returned (.bool r)∧Hd O w p S []:=by
 unfold Fdp at d
 refine CW 87 Tryz.func13 ?_
 refine zB fun c4 af=>zA<| yQ rfl rfl (xR (cs:=[v1,j,n]) rfl H) ?_
 rintro _ c5 ⟨U,rfl,H⟩
 refine zI (.bool false)<| RN af<| zB fun c6 ag=>zA<| zG (yJ (yF (cs:=[v1,j,n]) qM rfl uV rfl (Hbc H 7 rfl)) rfl)<| zH o<| zH (i6 A)<| zH (i6 B) ?_
 obtain ⟨⟨F,C⟩,ah,d⟩:=zC d
 refine zZ rfl rfl (zS en15 rfl) (Fa2w k y A B v1 j n o _ ah _ _ _ (H.enter [] [0,1,2,3])) ?_
 rintro _ c7 ⟨s,rfl,ai⟩
 have H:=H.back1 [0,1,2,3] rfl ai
 refine ⟨_,rfl,?_⟩
 refine zH (.tuple #[s,i6 C])<| zG (xQ (v:=s) rfl rfl)<| zG (xQ (v:=i6 C) rfl rfl)<| zI s<| zI (i6 C)<| RN ag<| zB fun c8 aj=>zB fun c9 ak=>zA<| zH (i6 C) ?_
 obtain ⟨al,am,d⟩:=zD d
 refine zG (zL (dC (a:=C) (b:=0) rfl rfl) am)<| RN ak<| zY (b:=al) rfl (fun I=>?_) (fun I=>?_)
 ·have d:=zO I d
  refine zB fun da an=>zA ?_
  have ao:=H
  obtain ⟨V,ap,d⟩:=zC d
  refine zZ rfl rfl (zS en20 rfl) (Fbww _ ap _ _ _ (H.enter [] [4,6])) ?_
  rintro _ db ⟨rfl,aq⟩
  have H:=ao.step (aq.only:Only [] _ _)
  refine ⟨_,rfl,?_⟩
  refine zI (.bool V)<| RN an ?_
  obtain rfl:=gI d
  refine (zW (zV (fC (v1:= .bool V) rfl rfl ?_)))
  exact ⟨rfl,H.pick []⟩
 have d:=zQ I d
 refine zX (zF (aj _ _ ?_))
 refine zB fun dc ar=>zA<| zG (jY rfl)<| Ld jS H 7 0 rfl rfl<| zG (aBu rfl)<| Ld aHz H 7 1 rfl rfl ?_
 obtain ⟨au,av,aw⟩: ∃a c,v1= .slice a _ c:=SlF.len ((H.item (i:=0) rfl))
 obtain ⟨ax,ay,az⟩: ∃a c,j= .slice a _ c:=SlF.len ((H.item (i:=1) rfl))
 refine zG (xJ (cs:=[v1,j,.slice none 0 0]) (by rw [aw,az]; exact bt26_0_1 au _ av ax _ ay))<| yQ rfl rfl (xA zero26 H) ?_
 rintro _ dd ⟨J,rfl,H⟩
 refine yP rfl (yL (vs:=[v1,j,.slice none 0 0]) H 9 rfl uV rfl rfl rfl ⟨(xY (H.item (i:=0) rfl)),(xY (H.item (i:=1) rfl)),rfl,trivial⟩ rfl) ?_
 rintro de H
 refine RN ar ?_
 obtain ⟨a0,a1,d⟩:=wI d
 refine yK [8,12,13,14,33,34,35,36,37,38,39,40,41,42,43,44,45,46,47,48,49,50,51,52,53,54,55,56,57,58,59,60,61,62,63,64,65,66,67,68,69] (fun (g:(List dH)×Value)=>[]) (fun g wl=>Hd O w wl S [f1 Rp.str v1 k.Phases,f1 gX j k.Moves,f1 eF o y,.fz (.at 0 0 ((Fl.arr 7 Fl.str).f zM)),.fz (.at 3 0 ((Fl.arr 20 (Fl.int .u64)).f zT)),.fz (.gi 4),.fz (.sl (Rp.sl (Rp.int .i64)) s F),.blk J [v1,j,g.2] 26,.own fB g.2 95 g.1]∧a0 g.1=some r) ?_ ?_
 ·skip
  refine zB fun df a2=>zA<| zI (i6 0)<| RN a2<| yD ?_
  have H:=bY H fB 95
  unfold Fd1 at d
  obtain ⟨a3,X,a4,d⟩:=yT d
  refine xB [8,12,13,14,33,34,35,36,37,38,39,40,41,42,43,44,45,46,47,48,49,50,51,52,53,54,55,56,57,58,59,60,61,62,63,64,65,66,67,68,69] (fun (g:Nat×Int×(List dH)×Value)=>[(12,i6 g.2.1)]) (fun g wl=>Hd O w wl S [f1 Rp.str v1 k.Phases,f1 gX j k.Moves,f1 fB n k.Rules,f1 eF o y,.fz (.at 0 0 ((Fl.arr 7 Fl.str).f zM)),.fz (.at 3 0 ((Fl.arr 20 (Fl.int .u64)).f zT)),.fz (.gi 4),.blk U [v1,j,n] 26,.fz (.sl (Rp.sl (Rp.int .i64)) s F),.blk J [v1,j,g.2.2.2] 26,.own fB g.2.2.2 95 g.2.2.1]∧fV a3 g.1 (g.2.1,g.2.2.1)=some r) (fun g=>g.1) (X,0,[],.slice none 0 0) (zJ rfl zK) ⟨H.pick [0,1,2,3,4,5,6,7,8,9,10],d⟩ ?_
  clear H d
  rintro ⟨X,t,a5,a6⟩ ρ dg ⟨H,d⟩
  obtain ⟨a7,rfl,d⟩:=yZ d
  have d:=yY a4 d
  refine zB fun dh a8=>?_
  refine zB fun di a9=>zA<| zH (i6 t)<| zG (kY rfl)<| Ld rJ H 7 2 rfl rfl ?_
  obtain ⟨ba,bb,d⟩:=zD d
  obtain ⟨dj,dk,bc⟩:=SlF.len ((H.item (i:=2) rfl))
  refine zG (yJ (xO u24 bc) (congrArg (Value.int .i64) bb)) ?_
  obtain ⟨bd,be,d⟩:=zD d
  refine zG (zL (xP (a:=t) (b:=ba) rfl rfl) be)<| RN a9<| zY (b:=bd) rfl (fun K=>?_) (fun K=>?_)
  ·have d:=zO K d
   refine zX (zF (a8 _ _ ?_))
   refine zB fun dl bf=>?_
   refine yD ?_
   refine zB fun dm bg=>zA<| zG (kY rfl)<| Ld rJ H 7 2 rfl rfl<| zH (i6 t) ?_
   obtain ⟨u,L,d⟩:=zC d
   obtain ⟨bh,bi,dn,dp,bj,bk,bl,bm,bn⟩:=dI (H.item (i:=2) rfl) L
   obtain ⟨M,rfl,bo⟩:=jE bk
   have H:=H.fzs [.at bh (bi+t.toNat * 8) _,.sl fA M u.When.Kids] ⟨⟨bl,bm,bn⟩,bo,trivial⟩
   refine zG (xC u24 rZ bj rfl (yC L).1 (yC L).2.1 rfl rfl)<| zG (vY rfl)<| zG (yJ (yF (cs:=[i6 u.When.Kind,sb u.When.Name,sb u.When.Other,i6 u.When.Op,i6 u.When.N,i6 u.When.Frames,M]) eG rfl fZ rfl (Cells.drop (H.item (i:=11) rfl).2.2 1 7)) rfl) ?_
   obtain ⟨⟨h,z⟩,bp,d⟩:=zC d
   refine zZ rfl rfl (zS en51 rfl) (Fc0w u.When M _ bp _ _ _ (H.enter [] [12])) ?_
   rintro _ dq ⟨m,rfl,bq⟩
   have H:=H.back1 [12] rfl bq
   refine ⟨_,rfl,?_⟩
   refine zH (.tuple #[.agg [i6 h.Kind,sb h.Name,sb h.Other,i6 h.Op,i6 h.N,i6 h.Frames,m].toArray,i6 z])<| zG (xQ (v:= .agg [i6 h.Kind,sb h.Name,sb h.Other,i6 h.Op,i6 h.N,i6 h.Frames,m].toArray) rfl rfl)<| zG (xQ (v:=i6 z) rfl rfl)<| yQ rfl rfl (xA aB H) ?_
   rintro _ dr ⟨ds,rfl,H⟩
   refine yP rfl (yL (vs:=[i6 h.Kind,sb h.Name,sb h.Other,i6 h.Op,i6 h.N,i6 h.Frames,m]) H 14 rfl fZ rfl rfl rfl ⟨rfl,rfl,rfl,rfl,rfl,rfl,(xY (H.item (i:=13) rfl)),trivial⟩ rfl) ?_
   rintro dt H
   refine zI (i6 z)<| RN bg<| zB fun du br=>zB fun dv bt=>zA<| zH (i6 z) ?_
   obtain ⟨bu,bv,d⟩:=zD d
   refine zG (zL (dC (a:=z) (b:=0) rfl rfl) bv)<| RN bt<| zY (b:=bu) rfl (fun P=>?_) (fun P=>?_)
   ·have d:=zO P d
    obtain ⟨Y,d,bw⟩:=zC d
    refine yK [8,52,53,54,55,56] (fun (g:Unit)=>[(8,.bool Y)]) (fun g wl=>Hd O w wl S [.fz (.at 0 0 ((Fl.arr 7 Fl.str).f zM)),.fz (.at 3 0 ((Fl.arr 20 (Fl.int .u64)).f zT)),.fz (.gi 4)]) ?_ ?_
    ·skip
     refine zA ?_
     refine zH (i6 z) ?_
     obtain ⟨bx,bz,d⟩:=zD d
     refine zG (zL (yR (a:=z) (b:=3) rfl rfl) bz)<| yS (b:=bx) rfl rfl rfl (fun Q=>?_) (fun Q=>?_)
     ·have d:=zO Q d
      have b0:=H
      obtain ⟨Z,b1,d⟩:=zC d
      refine zZ rfl rfl (zS en20 rfl) (Fbww _ b1 _ _ _ (H.enter [] [4,6])) ?_
      rintro _ dw ⟨rfl,b2⟩
      have H:=b0.step (b2.only:Only [] _ _)
      refine ⟨_,rfl,?_⟩
      refine zG (yO (v:= .bool Z) rfl rfl)<| zI (.bool Z) ?_
      obtain rfl:=gI d
      exact (yA (zF (meet ⟨(),(zJ rfl zK),H.pick [4,5,6]⟩)))
     have d:=zQ Q d
     refine yG ?_
     refine zG (yM (v:= .bool false) rfl rfl)<| zI (.bool false) ?_
     obtain rfl:=gI d
     exact (yA (zF (meet ⟨(),(zJ rfl zK),H.pick [4,5,6]⟩)))
    rintro _ ρ dx H
    have d:=bw
    obtain rfl:=gI d
    refine (zW (zV (yE (zV (zV (yE (zV (fC (v1:= .bool Y) rfl rfl ?_))))))))
    exact ⟨rfl,H.pick []⟩
   have d:=zQ P d
   refine zX (zF (br _ _ ?_))
   have b3:=H
   have H:=H.rebase
   have dy:=H
   refine xU H [0,1,2,3,4,5,6,7,8,9,10,11,12,13] (kz [0,1,0,1,0,0,0,1,1,0,2,3,0,3]) mixed ?_
   refine XP (fun _ _=>kY rfl)<| XR rJ H 9 2 rfl rfl<| XP (fun _ _=>kY rfl)<| XR rJ H 7 2 rfl rfl<| XM (i6 t) ?_
   obtain ⟨q,R,d⟩:=zC d
   obtain ⟨b4,b5,dz,d0,b6,b7,b8,b9,ca⟩:=dI (H.item (i:=2) rfl) R
   obtain ⟨cb,rfl,cc⟩:=jE b7
   have H:=H.fzs [.at b4 (b5+t.toNat * 8) _,.sl fA cb q.When.Kids] ⟨⟨b8,b9,ca⟩,cc,trivial⟩
   refine XP (fun _ _=>xC u24 rZ b6 rfl (yC R).1 (yC R).2.1 rfl rfl)<| XP (fun _ _=>aBn rfl)<| MxM.wJ oS rfl rfl rfl (fun p l=>xG bF rfl (Cells.get ((H.sees l).item (i:=15) rfl).2.2 (i:=0) rfl))<| MxM.wJ oS rfl rfl rfl (fun p l=>yJ (yF (cs:=[i6 h.Kind,sb h.Name,sb h.Other,i6 h.Op,i6 h.N,i6 h.Frames,m]) eG rfl fZ rfl (Blk.cells ((H.sees l).item (i:=14) rfl))) rfl) ?_
   obtain ⟨cd,ce,cf⟩: ∃a c,m= .slice a _ c:=SlF.len ((H.item (i:=13) rfl))
   refine XP (fun _ _=>xJ (cs:=[sb q.Name,i6 h.Kind,sb h.Name,sb h.Other,i6 h.Op,i6 h.N,i6 h.Frames,m]) (by rw [cf]; exact bt95_0_1 _ _ _ _ _ _ _ cd _ ce)) ?_
   obtain ⟨d1,cg,d⟩:=zD d
   subst cg
   refine MxM.XL_exN oS rfl rfl rfl (fun p l=>pY (aX (r:=fB) (xl:=[dH.mk q.Name h]) (cs:=[sb q.Name,i6 h.Kind,sb h.Name,sb h.Other,i6 h.Op,i6 h.N,i6 h.Frames,m]) u24 el95 (by decide) (by decide) rfl (xH (vs:=[.agg [sb q.Name,i6 h.Kind,sb h.Name,sb h.Other,i6 h.Op,i6 h.N,i6 h.Frames,m].toArray]) (by decide) rfl rfl ⟨rfl,trivial⟩ rfl) (H.sees l) ⟨[sb q.Name,i6 h.Kind,sb h.Name,sb h.Other,i6 h.Op,i6 h.N,i6 h.Frames,m],[],rfl,(aLk (x:=dH.mk q.Name h) ((H.sees l).item (i:=13) rfl)),rfl⟩) (aHx (cs:=[sb q.Name,i6 h.Kind,sb h.Name,sb h.Other,i6 h.Op,i6 h.N,i6 h.Frames,m]) u24 el95 (by decide) (by decide) (xH (vs:=[.agg [sb q.Name,i6 h.Kind,sb h.Name,sb h.Other,i6 h.Op,i6 h.N,i6 h.Frames,m].toArray]) (by decide) rfl rfl ⟨rfl,trivial⟩ rfl))) ?_
   rintro p d2 d3 l H
   obtain ⟨aa,ch,d⟩:=zC d
   refine MxM.XL_ex oS rfl rfl rfl (fun p l=>aJ (H.sees l) (i:=10) rfl u24 el95 rfl rfl (Sr.of_own ((H.sees l).item (i:=17) rfl)) ch) ?_
   rintro p G d4 l H
   refine ⟨H.only,?_⟩
   refine XP (fun _ _=>kY rfl)<| MxM.XL_exU oS rfl rfl (fun p l=>xE (H.sees l) 9 rfl sz24 rfl (v:=G) rfl (bC ((H.sees l).item (i:=10) rfl)) rfl) ?_
   rintro p d5 l H
   refine ⟨H.only,?_⟩
   refine MxM.xK fun ci hS=>?_
   have H:=H.sees hS
   have H:=b3.rejoin H
   refine yH (zF (bf _ _ ?_))
   have H:Hd O w ci S [f1 Rp.str v1 k.Phases,f1 gX j k.Moves,f1 fB n k.Rules,f1 eF o y,.fz (.at 0 0 ((Fl.arr 7 Fl.str).f zM)),.fz (.at 3 0 ((Fl.arr 20 (Fl.int .u64)).f zT)),.fz (.gi 4),.blk U [v1,j,n] 26,.fz (.sl (Rp.sl (Rp.int .i64)) s F),.blk J [v1,j,G] 26,.own fB G 95 aa]:=H.pick [0,1,2,3,4,5,6,7,8,9,10]
   refine zA ?_
   refine zH (i6 t) ?_
   obtain ⟨ab,cj,d⟩:=zD d
   refine zG (xM (a:=t) (b:=1) rfl rfl cj)<| zI (i6 ab) ?_
   exact (yA (zF (meet ⟨(a7,ab,aa,G),(zJ rfl zK),⟨H.pick [0,1,2,3,4,5,6,7,8,9,10],d⟩,Nat.lt_succ_self _⟩)))
  have d:=zQ K d
  exact (xI (yI (yI (yV (zF (meet ⟨(a5,a6),zK,⟨H.pick [0,1,3,4,5,6,8,9,10],d⟩⟩))))))
 rintro ⟨ck,ac⟩ ρ d6 ⟨H,d⟩
 have d:=dF a1 d
 refine zB fun d7 cl=>zA<| zG (yJ (yF (cs:=[v1,j,ac]) qM rfl uV rfl (Hbc H 7 rfl)) rfl)<| zH o<| zH (i6 A)<| zH (i6 B) ?_
 have H:=H.freeze (i:=8) rfl
 obtain ⟨⟨cm,D⟩,cn,d⟩:=zC d
 refine zZ rfl rfl (zS en15 rfl) (Fa2w (Rules.mk k.Phases k.Moves ck) y A B v1 j ac o _ cn _ _ _ (H.enter [] [0,1,8,2])) ?_
 rintro _ d8 ⟨E,rfl,co⟩
 have H:=H.back1 [0,1,8,2] rfl co
 refine ⟨_,rfl,?_⟩
 refine zH (.tuple #[E,i6 D])<| zG (xQ (v:=E) rfl rfl)<| zG (xQ (v:=i6 D) rfl rfl)<| zI E<| zI (i6 D)<| RN cl ?_
 obtain ⟨ad,d,cp⟩:=zC d
 refine yK [8,78,79,80,81,82,83,84,85,86] (fun (g:Unit)=>[(8,.bool ad)]) (fun g wl=>Hd O w wl S [.fz (.at 0 0 ((Fl.arr 7 Fl.str).f zM)),.fz (.at 3 0 ((Fl.arr 20 (Fl.int .u64)).f zT)),.fz (.gi 4)]) ?_ ?_
 ·skip
  refine zA ?_
  refine zH E<| zH (i6 D) ?_
  have cq:=H
  obtain ⟨cr,ct,d⟩:=zC d
  refine zZ rfl rfl (zS en38 rfl) (Fbvw cm D E _ ct _ _ _ (H.enter [] [9,4])) ?_
  rintro _ d9 ⟨rfl,cu⟩
  have H:=cq.step (cu.only:Only [] _ _)
  refine ⟨_,rfl,?_⟩
  refine zH s ?_
  have cv:=H
  obtain ⟨cw,cx,d⟩:=zC d
  refine zZ rfl rfl (zS en38 rfl) (Fbvw F 0 s _ cx _ _ _ (H.enter [] [6,4])) ?_
  rintro _ ea ⟨rfl,cy⟩
  have H:=cv.step (cy.only:Only [] _ _)
  refine ⟨_,rfl,?_⟩
  obtain ⟨cz,c0,d⟩:=zD d
  refine zG (zL (wB (s1:=cr) (s2:=cw) rfl rfl) c0)<| yS (b:=cz) rfl rfl rfl (fun T=>?_) (fun T=>?_)
  ·have d:=zO T d
   have c1:=H
   obtain ⟨ae,c2,d⟩:=zC d
   refine zZ rfl rfl (zS en20 rfl) (Fbww _ c2 _ _ _ (H.enter [] [3,5])) ?_
   rintro _ eb ⟨rfl,c3⟩
   have H:=c1.step (c3.only:Only [] _ _)
   refine ⟨_,rfl,?_⟩
   refine zG (yO (v:= .bool ae) rfl rfl)<| zI (.bool ae) ?_
   obtain rfl:=gI d
   exact (yA (zF (meet ⟨(),(zJ rfl zK),H.pick [3,4,5]⟩)))
  have d:=zQ T d
  refine yG ?_
  refine zG (yM (v:= .bool false) rfl rfl)<| zI (.bool false) ?_
  obtain rfl:=gI d
  exact (yA (zF (meet ⟨(),(zJ rfl zK),H.pick [3,4,5]⟩)))
 rintro _ ρ ec H
 have d:=cp
 obtain rfl:=gI d
 refine (zW (fC (v1:= .bool ad) rfl rfl ?_))
 exact ⟨rfl,H.pick []⟩
end Go.Proofs.YtckmiljbaejijaaGreatDoor.L
