/- Walks: what each function computes, for every argument; no condition but those that stand in the statements. -/
import Derived.Test.YtckmiljbaejijaaGreatDoorUV0
import Derived.Test.YtckmiljbaejijaaGreatDoorUV4
namespace Go.Proofs.YtckmiljbaejijaaGreatDoor.L
open Go.RowKit Go.OB Go.Lf
set_option maxHeartbeats 4000000
abbrev Fay (f:Nd→gJ→Option (Int×Nd)):Prop:= ∀(p0:Nd) (p1:gJ) (v1:Value) (bs1:List Nat) (b1:Nat) (v52:Value) (v53:Value) (v54:Value) (fid:FuncId) (rv:Value) (hm:mY Tryz.prog "orangebox/event.step" v1 fid rv) (r:Int×Nd) (_:f p0 p1=some r) (O S:List Nat) (w:World) (_:Hd O w w S [.tr fG [v1] bs1 p0,.own (Rp.int .i64) v54 3 p1.rules,.blk b1 [v52,v53,v54] 222,f1 gY v52 p1.told,f1 Rp.bool v53 p1.possible]),
  Calls Tryz.prog fid ([rv,gV b1]:List Value).toArray w fun e w'=> ∃bs',e= .returned (i6 r.1)∧Hd O w w' S [.tr fG [v1] bs' r.2,.own (Rp.int .i64) v54 3 p1.rules,.blk b1 [v52,v53,v54] 222]
theorem Ffcw (a:mQ)(b:gJ)(d:Nat)(f:Value)(h:Value)(c:Value)(r:Int)(i:Ffc a b=some r)(O S:List Nat)(w:World)(H:Hd O w w S [.own (Rp.int .i64) c 3 b.rules,.blk d [f,h,c] 222,f1 gY f b.told,f1 Rp.bool h b.possible]):
  Cl 325 [.agg [i6 a.truth].toArray,gV d] w fun e j=>e= .returned (i6 r)∧Hd O w j S [.own (Rp.int .i64) c 3 b.rules,.blk d [f,h,c] 222]:=by
 unfold Ffc at i
 refine CW 7 Tryz.func325 ?_
 refine zB fun m k=>zA<| yQ rfl rfl (xR (cs:=[i6 a.truth]) rfl H) ?_
 rintro _ n ⟨o,rfl,H⟩
 refine zI (i6 0)<| RN k<| zB fun p l=>zA<| zG (fa277_0 rfl)<| Ld fM H 4 0 rfl rfl<| zI (i6 a.truth)<| RN l ?_
 obtain rfl:=gI i
 refine (zW (fC (v1:=i6 a.truth) rfl rfl ?_))
 exact ⟨rfl,H.pick [0,1]⟩
theorem Fahw (d:Int)(r:Int)(c:Fah d=some r)(O S:List Nat)(w:World)(H:Hd O w w S []):
  Cl 330 [i6 d] w fun e k=>e= .returned (i6 r)∧Hd O w k S []:=by
 unfold Fah at c
 refine CW 9 Tryz.func330 ?_
 refine zB fun v l=>zA<| zI (i6 0)<| RN l<| zB fun x m=>yD<| zB fun y n=>zA<| zH (i6 d) ?_
 obtain ⟨i,o,c⟩:=zD c
 refine zG (zL (xP (a:=d) (b:=0) rfl rfl) o)<| zI (.bool i)<| RN n<| zY (b:=i) rfl (fun f=>?_) (fun f=>?_)
 ·have c:=zO f c
  refine zB fun z p=>zA<| zI (i6 (-1))<| RN p ?_
  obtain rfl:=gI c
  refine (zW (yE (zV (fC (v1:=i6 (-1)) rfl rfl ?_))))
  exact ⟨rfl,H.pick []⟩
 have c:=zQ f c
 refine zB fun A q=>zA<| zH (i6 d) ?_
 obtain ⟨j,s,c⟩:=zD c
 refine zG (zL (aI (a:=d) (b:=0) rfl rfl) s)<| zI (.bool j)<| RN q<| zY (b:=j) rfl (fun h=>?_) (fun h=>?_)
 ·have c:=zO h c
  refine zB fun B t=>zA<| zI (i6 1)<| RN t ?_
  obtain rfl:=gI c
  refine (zW (yE (zV (fC (v1:=i6 1) rfl rfl ?_))))
  exact ⟨rfl,H.pick []⟩
 have c:=zQ h c
 refine (zX (yH (zF (m _ _ ?_))))
 refine zB fun C u=>zA<| zI (i6 0)<| RN u ?_
 obtain rfl:=gI c
 refine (zW (fC (v1:=i6 0) rfl rfl ?_))
 exact ⟨rfl,H.pick []⟩
set_option maxRecDepth 100000 in
theorem Fakw (f:Int)(d:Int)(r:Bool)(c:Fak f d=some r)(O S:List Nat)(w:World)(H:Hd O w w S []):
  Cl 329 [i6 f,i6 d] w fun e z=>e= .returned (.bool r)∧Hd O w z S []:=by
 unfold Fak at c
 refine CW 28 Tryz.func329 ?_
 refine zB fun K1 A=>zA<| zI (.bool false)<| RN A<| zB fun ae B=>zB fun af C=>zA<| zH (i6 f)<| RN C<| yD<| zB fun ag D=>zA ?_
 obtain ⟨m,E,c⟩:=zD c
 refine zG (zL (yR (a:=f) (b:=1) rfl rfl) E)<| zI (.bool m)<| RN D<| zY (b:=m) rfl (fun h=>?_) (fun h=>?_)
 ·have c:=zO h c
  refine zB fun ah F=>zA<| zH (i6 d) ?_
  obtain ⟨n,G,c⟩:=zD c
  refine zG (zL (xP (a:=d) (b:=0) rfl rfl) G)<| zI (.bool n)<| RN F ?_
  obtain rfl:=gI c
  refine (zW (yE (zV (fC (v1:= .bool n) rfl rfl ?_))))
  exact ⟨rfl,H.pick []⟩
 have c:=zQ h c
 refine zB fun ai I=>zA ?_
 obtain ⟨o,J,c⟩:=zD c
 refine zG (zL (yR (a:=f) (b:=2) rfl rfl) J)<| zI (.bool o)<| RN I<| zY (b:=o) rfl (fun i=>?_) (fun i=>?_)
 ·have c:=zO i c
  refine zB fun aj K=>zA<| zH (i6 d) ?_
  obtain ⟨p,L,c⟩:=zD c
  refine zG (zL (sU (a:=d) (b:=0) rfl rfl) L)<| zI (.bool p)<| RN K ?_
  obtain rfl:=gI c
  refine (zW (yE (zV (fC (v1:= .bool p) rfl rfl ?_))))
  exact ⟨rfl,H.pick []⟩
 have c:=zQ i c
 refine zB fun ak M=>zA ?_
 obtain ⟨q,N,c⟩:=zD c
 refine zG (zL (yR (a:=f) (b:=3) rfl rfl) N)<| zI (.bool q)<| RN M<| zY (b:=q) rfl (fun j=>?_) (fun j=>?_)
 ·have c:=zO j c
  refine zB fun al P=>zA<| zH (i6 d) ?_
  obtain ⟨s,Q,c⟩:=zD c
  refine zG (zL (yR (a:=d) (b:=0) rfl rfl) Q)<| zI (.bool s)<| RN P ?_
  obtain rfl:=gI c
  refine (zW (yE (zV (fC (v1:= .bool s) rfl rfl ?_))))
  exact ⟨rfl,H.pick []⟩
 have c:=zQ j c
 refine zB fun am R=>zA ?_
 obtain ⟨t,T,c⟩:=zD c
 refine zG (zL (yR (a:=f) (b:=4) rfl rfl) T)<| zI (.bool t)<| RN R<| zY (b:=t) rfl (fun k=>?_) (fun k=>?_)
 ·have c:=zO k c
  refine zB fun an U=>zA<| zH (i6 d) ?_
  obtain ⟨u,V,c⟩:=zD c
  refine zG (zL (dC (a:=d) (b:=0) rfl rfl) V)<| zI (.bool u)<| RN U ?_
  obtain rfl:=gI c
  refine (zW (yE (zV (fC (v1:= .bool u) rfl rfl ?_))))
  exact ⟨rfl,H.pick []⟩
 have c:=zQ k c
 refine zB fun ao X=>zA ?_
 obtain ⟨v,Y,c⟩:=zD c
 refine zG (zL (yR (a:=f) (b:=5) rfl rfl) Y)<| zI (.bool v)<| RN X<| zY (b:=v) rfl (fun l=>?_) (fun l=>?_)
 ·have c:=zO l c
  refine zB fun ap Z=>zA<| zH (i6 d) ?_
  obtain ⟨x,aa,c⟩:=zD c
  refine zG (zL (kZ (a:=d) (b:=0) rfl rfl) aa)<| zI (.bool x)<| RN Z ?_
  obtain rfl:=gI c
  refine (zW (yE (zV (fC (v1:= .bool x) rfl rfl ?_))))
  exact ⟨rfl,H.pick []⟩
 have c:=zQ l c
 refine (zX (yH (zF (B _ _ ?_))))
 refine zB fun aq ab=>zA<| zH (i6 d) ?_
 obtain ⟨y,ac,c⟩:=zD c
 refine zG (zL (aI (a:=d) (b:=0) rfl rfl) ac)<| zI (.bool y)<| RN ab ?_
 obtain rfl:=gI c
 refine (zW (fC (v1:= .bool y) rfl rfl ?_))
 exact ⟨rfl,H.pick []⟩
theorem Fbgw (c:Bool)(r:Int)(a:Fbg c=some r)(O S:List Nat)(w:World)(H:Hd O w w S []):
  Cl 328 [.bool c] w fun e f=>e= .returned (i6 r)∧Hd O w f S []:=by
 unfold Fbg at a
 refine CW 4 Tryz.func328 ?_
 refine zB fun m h=>zA<| zI (i6 0)<| RN h<| zB fun n i=>zB fun o j=>zA<| zH (.bool c)<| RN j<| zY (b:=c) rfl (fun d=>?_) (fun d=>?_)
 ·have a:=zO d a
  refine zB fun p k=>zA<| zI (i6 2)<| RN k ?_
  obtain rfl:=gI a
  refine (zW (zV (fC (v1:=i6 2) rfl rfl ?_)))
  exact ⟨rfl,H.pick []⟩
 have a:=zQ d a
 refine zX (zF (i _ _ ?_))
 refine zB fun q l=>zA<| zI (i6 1)<| RN l ?_
 obtain rfl:=gI a
 refine (zW (fC (v1:=i6 1) rfl rfl ?_))
 exact ⟨rfl,H.pick []⟩
theorem Faxw (h:kF)(k:gJ)(l:Nat)(o:Value)(q:Value)(m:Value)(r:Int)(c:Fax h k=some r)(O S:List Nat)(w:World)(H:Hd O w w S [.own (Rp.int .i64) m 3 k.rules,.blk l [o,q,m] 222,f1 gY o k.told,f1 Rp.bool q k.possible]):
  Cl 327 [.agg [i6 h.track,i6 h.op,i6 h.n].toArray,gV l] w fun e d=>e= .returned (i6 r)∧Hd O w d S [.own (Rp.int .i64) m 3 k.rules,.blk l [o,q,m] 222]:=by
 unfold Fax at c
 refine CW 27 Tryz.func327 ?_
 refine zB fun K9 z=>zA<| yQ rfl rfl (xR (cs:=[i6 h.track,i6 h.op,i6 h.n]) rfl H) ?_
 rintro _ ae ⟨af,rfl,H⟩
 refine zI (i6 0)<| RN z<| zB fun ag A=>?_
 have B:=H
 have H:=H.rebase
 have ah:=H
 refine xU H [0,1,2,3,4,5,6,7,8,9] (kz [0,0,0,1,0,1,0,1,2,3]) mixed ?_
 refine XM (gV l)<| XP (fun _ _=>zN rfl)<| XP (fun _ _=>aDg rfl)<| XR aNk H 1 0 rfl rfl<| XP (fun _ _=>fa279_0 rfl)<| XR fM H 4 0 rfl rfl ?_
 obtain ⟨j,s,c⟩:=zC c
 obtain ⟨C,D,ai,aj,E,F,G,I,J⟩:=dI (H.item (i:=2) rfl) s
 obtain rfl:=nD F
 have H:=H.fz (.at C (D+h.track.toNat * 2) _) ⟨G,I,J⟩
 refine XP (fun _ _=>xC u55 pR E rfl (yC s).1 (yC s).2.1 rfl rfl)<| MxM.wJ oS rfl rfl rfl (fun d f=>yJ (yF (cs:=[i6 j.N,.bool j.Known]) aEl rfl pR rfl ((H.sees f).item (i:=5) rfl).2.2) rfl)<| MxM.XL_exN oS rfl rfl rfl (fun d f=>pY (xA wZ (H.sees f)) (Ys_alloc wZ)) ?_
 rintro d _ ak f ⟨al,rfl,H⟩
 refine MxM.XL_exU oS rfl rfl (fun d f=>yL (vs:=[i6 j.N,.bool j.Known]) (H.sees f) 6 rfl pR rfl rfl rfl ⟨rfl,rfl,trivial⟩ rfl) ?_
 rintro d am f H
 refine ⟨H.only,?_⟩
 refine MxM.xK fun an hS=>?_
 have H:=H.sees hS
 have H:=B.rejoin H
 refine (zF (A _ _ ?_))
 refine zB fun ao K=>?_
 refine zB fun ap L=>zA<| zG (aDa rfl)<| Ld qY H 6 1 rfl rfl ?_
 obtain ⟨M,P,c⟩:=zD c
 refine zG (zL (wH (p:=j.Known) rfl) P)<| RN L<| zY (b:=M) rfl (fun t=>?_) (fun t=>?_)
 ·have c:=zO t c
  refine zB fun aq Q=>zA<| zI (i6 0)<| RN Q ?_
  obtain rfl:=gI c
  refine (zW (zV (fC (v1:=i6 0) rfl rfl ?_)))
  exact ⟨rfl,H.pick [0,1]⟩
 have c:=zQ t c
 refine zX (zF (K _ _ ?_))
 refine zB fun ar R=>?_
 have T:=H
 have H:=H.rebase
 have au:=H
 refine xU H [0,1,2,3,4,5,6,7,8,9,10] (kz [0,1,0,1,0,1,0,4,4,4,0]) mixed ?_
 refine XP (fun _ _=>fa279_1 rfl)<| XR fM H 4 1 rfl rfl<| XP (fun _ _=>sO rfl)<| XR fM H 6 0 rfl rfl<| XP (fun _ _=>fa279_2 rfl)<| XR fM H 4 2 rfl rfl ?_
 obtain ⟨U,V,c⟩:=zD c
 refine XP (fun _ _=>jO (a:=j.N) (b:=h.n) rfl rfl V) ?_
 have X:=H
 obtain ⟨x,Y,c⟩:=zC c
 refine MxM.XL_fcall oS rfl rfl rfl (v:=i6 x) (fun d f=>zS aLq rfl) (fun d f=>bU (Fahw U _ Y _ _ _ (Hd.fresh0 d))) ?_
 have H:=X
 have Z:=H
 obtain ⟨y,aa,c⟩:=zC c
 refine MxM.XL_fcall oS rfl rfl rfl (v:= .bool y) (fun d f=>zS en329 rfl) (fun d f=>bU (Fakw h.op x _ aa _ _ _ (Hd.fresh0 d))) ?_
 have H:=Z
 have ab:=H
 obtain ⟨u,ac,c⟩:=zC c
 refine MxM.XL_fcall oS rfl rfl rfl (v:=i6 u) (fun d f=>zS en328 rfl) (fun d f=>bU (Fbgw y _ ac _ _ _ (Hd.fresh0 d))) ?_
 have H:=ab
 refine XP (fun _ _=>xN (v:=i6 u) rfl)<| MxM.xK fun av hS=>?_
 have H:=H.sees hS
 have H:=T.rejoin H
 refine (zF (R _ _ ?_))
 obtain rfl:=gI c
 refine (zW (fC (v1:=i6 u) rfl rfl ?_))
 exact ⟨rfl,H.pick [0,1]⟩
theorem Fbxw (d:Int)(f:Int)(r:Int×Int)(c:Fbx d f=some r)(O S:List Nat)(w:World)(H:Hd O w w S []):
  Cl 270 [.int .u64 d,.int .u64 f] w fun e v=>e= .returned (.tuple #[.int .u64 r.1,.int .u64 r.2])∧Hd O w v S []:=by
 unfold Fbx at c
 refine CW 51 Tryz.func270 ?_
 refine zB fun K1 x=>zA<| zI (.int .u64 0)<| zI (.int .u64 0)<| RN x<| zB fun K2 y=>zA<| zH (.int .u64 d) ?_
 obtain ⟨h,z,c⟩:=zD c
 refine zG (aOw (a:=d) (b:=4294967295) rfl rfl z)<| zI (.int .u64 h)<| RN y<| zB fun K5 A=>zA<| zH (.int .u64 d) ?_
 obtain ⟨i,B,c⟩:=zC c
 refine zG (rU (j:=d) (q:=32) rfl rfl B)<| zI (.int .u64 i)<| RN A<| zB fun K8 C=>zA<| zH (.int .u64 f) ?_
 obtain ⟨k,D,c⟩:=zD c
 refine zG (aOw (a:=f) (b:=4294967295) rfl rfl D)<| zI (.int .u64 k)<| RN C<| zB fun ao E=>zA<| zH (.int .u64 f) ?_
 obtain ⟨l,F,c⟩:=zC c
 refine zG (rU (j:=f) (q:=32) rfl rfl F)<| zI (.int .u64 l)<| RN E<| zB fun ap G=>zA<| zH (.int .u64 h)<| zH (.int .u64 k) ?_
 obtain ⟨n,I,c⟩:=zD c
 refine zG (rP (a:=h) (b:=k) rfl rfl I)<| zI (.int .u64 n)<| RN G<| zB fun aq J=>zA<| zH (.int .u64 i)<| zH (.int .u64 k) ?_
 obtain ⟨K,L,c⟩:=zD c
 refine zG (rP (a:=i) (b:=k) rfl rfl L)<| zH (.int .u64 n) ?_
 obtain ⟨M,N,c⟩:=zC c
 refine zG (rU (j:=n) (q:=32) rfl rfl N) ?_
 obtain ⟨m,P,c⟩:=zD c
 refine zG (xM (a:=K) (b:=M) rfl rfl P)<| zI (.int .u64 m)<| RN J<| zB fun ar Q=>zA<| zH (.int .u64 m) ?_
 obtain ⟨o,R,c⟩:=zD c
 refine zG (aOw (a:=m) (b:=4294967295) rfl rfl R)<| zI (.int .u64 o)<| RN Q<| zB fun au T=>zA<| zH (.int .u64 m) ?_
 obtain ⟨p,U,c⟩:=zC c
 refine zG (rU (j:=m) (q:=32) rfl rfl U)<| zI (.int .u64 p)<| RN T<| zB fun av V=>zA<| zH (.int .u64 o)<| zH (.int .u64 h)<| zH (.int .u64 l) ?_
 obtain ⟨X,Y,c⟩:=zD c
 refine zG (rP (a:=h) (b:=l) rfl rfl Y) ?_
 obtain ⟨s,Z,c⟩:=zD c
 refine zG (xM (a:=o) (b:=X) rfl rfl Z)<| zI (.int .u64 s)<| RN V<| zB fun aw aa=>zA<| zH (.int .u64 i)<| zH (.int .u64 l) ?_
 obtain ⟨ab,ac,c⟩:=zD c
 refine zG (rP (a:=i) (b:=l) rfl rfl ac)<| zH (.int .u64 p) ?_
 obtain ⟨ad,ae,c⟩:=zD c
 refine zG (xM (a:=ab) (b:=p) rfl rfl ae)<| zH (.int .u64 s) ?_
 obtain ⟨af,ag,c⟩:=zC c
 refine zG (rU (j:=s) (q:=32) rfl rfl ag) ?_
 obtain ⟨t,ah,c⟩:=zD c
 refine zG (xM (a:=ad) (b:=af) rfl rfl ah)<| zI (.int .u64 t)<| RN aa<| zB fun ax ai=>zA<| zH (.int .u64 d)<| zH (.int .u64 f) ?_
 obtain ⟨u,aj,c⟩:=zD c
 refine zG (rP (a:=d) (b:=f) rfl rfl aj)<| zI (.int .u64 u)<| RN ai ?_
 obtain rfl:=gI c
 refine (zW (tH (v1:= .int .u64 t) (v2:= .int .u64 u) rfl rfl rfl ?_))
 exact ⟨rfl,H.pick []⟩
set_option maxRecDepth 100000 in
theorem Fbqw (i:Int)(o:Int)(l:Int)(p:Int)(r:Int)(c:Fbq i o l p=some r)(O S:List Nat)(w:World)(H:Hd O w w S []):
  Cl 333 [i6 i,i6 o,i6 l,i6 p] w fun e F=>e= .returned (i6 r)∧Hd O w F S []:=by
 unfold Fbq at c
 refine CW 75 Tryz.func333 ?_
 refine zB fun K1 G=>zA<| zI (i6 0)<| RN G<| zB fun bg I=>zB fun bh J=>zA<| zH (i6 i) ?_
 have K:=H
 obtain ⟨m,L,c⟩:=zC c
 refine zZ rfl rfl (zS aLq rfl) (Fahw i _ L _ _ _ (H.enter [] [])) ?_
 rintro _ bi ⟨rfl,M⟩
 have H:=K.step (M.only:Only [] _ _)
 refine ⟨_,rfl,?_⟩
 refine zH (i6 l) ?_
 have N:=H
 obtain ⟨n,P,c⟩:=zC c
 refine zZ rfl rfl (zS aLq rfl) (Fahw l _ P _ _ _ (H.enter [] [])) ?_
 rintro _ bj ⟨rfl,Q⟩
 have H:=N.step (Q.only:Only [] _ _)
 refine ⟨_,rfl,?_⟩
 refine zI (i6 m)<| zI (i6 n)<| RN J<| zB fun bk R=>zA<| zH (i6 m)<| zH (i6 n) ?_
 obtain ⟨T,U,c⟩:=zD c
 refine zG (zL (dC (a:=m) (b:=n) rfl rfl) U)<| RN R<| zY (b:=T) rfl (fun q=>?_) (fun q=>?_)
 ·have c:=zO q c
  refine zB fun bl V=>zA<| zH (i6 m)<| zH (i6 n) ?_
  obtain ⟨X,Y,c⟩:=zD c
  refine zG (jO (a:=m) (b:=n) rfl rfl Y) ?_
  have Z:=H
  obtain ⟨A,aa,c⟩:=zC c
  refine zZ rfl rfl (zS aLq rfl) (Fahw X _ aa _ _ _ (H.enter [] [])) ?_
  rintro _ bm ⟨rfl,ab⟩
  have H:=Z.step (ab.only:Only [] _ _)
  refine ⟨_,rfl,?_⟩
  refine zI (i6 A)<| RN V ?_
  obtain rfl:=gI c
  refine (zW (zV (fC (v1:=i6 A) rfl rfl ?_)))
  exact ⟨rfl,H.pick []⟩
 have c:=zQ q c
 refine zX (zF (I _ _ ?_))
 refine zB fun bn ac=>zA<| zH (i6 i) ?_
 have ad:=H
 obtain ⟨d,ae,c⟩:=zC c
 refine zZ rfl rfl (zS aLq rfl) (Fahw i _ ae _ _ _ (H.enter [] [])) ?_
 rintro _ bo ⟨rfl,af⟩
 have H:=ad.step (af.only:Only [] _ _)
 refine ⟨_,rfl,?_⟩
 refine zI (i6 d)<| RN ac<| zB fun bp ag=>zA<| zH (i6 i)<| zH (i6 d) ?_
 obtain ⟨bq,ah,c⟩:=zD c
 refine zG (rP (a:=i) (b:=d) rfl rfl ah) ?_
 obtain ⟨ai,aj,c⟩:=zD c
 refine zG (qO u3 u297 rfl aj)<| zH (i6 p) ?_
 obtain ⟨ak,al,c⟩:=zD c
 refine zG (qO u3 u297 rfl al) ?_
 have am:=H
 obtain ⟨⟨f,j⟩,an,c⟩:=zC c
 refine zZ rfl rfl (zS en270 rfl) (Fbxw ai ak _ an _ _ _ (H.enter [] [])) ?_
 rintro _ br ⟨rfl,ao⟩
 have H:=am.step (ao.only:Only [] _ _)
 refine ⟨_,rfl,?_⟩
 refine zH (.tuple #[.int .u64 f,.int .u64 j])<| zG (xQ (v:= .int .u64 f) rfl rfl)<| zG (xQ (v:= .int .u64 j) rfl rfl)<| zI (.int .u64 f)<| zI (.int .u64 j)<| RN ag<| zB fun bt ap=>zA<| zH (i6 l)<| zH (i6 d) ?_
 obtain ⟨bu,aq,c⟩:=zD c
 refine zG (rP (a:=l) (b:=d) rfl rfl aq) ?_
 obtain ⟨ar,au,c⟩:=zD c
 refine zG (qO u3 u297 rfl au)<| zH (i6 o) ?_
 obtain ⟨av,aw,c⟩:=zD c
 refine zG (qO u3 u297 rfl aw) ?_
 have ax:=H
 obtain ⟨⟨h,k⟩,ay,c⟩:=zC c
 refine zZ rfl rfl (zS en270 rfl) (Fbxw ar av _ ay _ _ _ (H.enter [] [])) ?_
 rintro _ bv ⟨rfl,az⟩
 have H:=ax.step (az.only:Only [] _ _)
 refine ⟨_,rfl,?_⟩
 refine zH (.tuple #[.int .u64 h,.int .u64 k])<| zG (xQ (v:= .int .u64 h) rfl rfl)<| zG (xQ (v:= .int .u64 k) rfl rfl)<| zI (.int .u64 h)<| zI (.int .u64 k)<| RN ap<| zB fun bw a0=>yD ?_
 obtain ⟨B,c,a1⟩:=zC c
 refine yK [49,50,51,52,53,54,55,56,57,58,59,60,61,62] (fun (g:Unit)=>[(49,.bool B)]) (fun g wl=>Hd O w wl S []) ?_ ?_
 ·skip
  refine zA ?_
  refine zH (.int .u64 f)<| zH (.int .u64 h) ?_
  obtain ⟨a2,a3,c⟩:=zD c
  refine zG (zL (xP (a:=f) (b:=h) rfl rfl) a3)<| yS (b:=a2) rfl rfl rfl (fun s=>?_) (fun s=>?_)
  ·have c:=zO s c
   refine yG ?_
   refine yG ?_
   refine yG ?_
   refine yG ?_
   refine yG ?_
   refine yG ?_
   refine yG ?_
   refine yG ?_
   refine zG (yO (v:= .bool true) rfl rfl)<| zI (.bool true) ?_
   obtain rfl:=gI c
   exact (yA (zF (meet ⟨(),(zJ rfl zK),H.pick []⟩)))
  have c:=zQ s c
  refine zH (.int .u64 f)<| zH (.int .u64 h) ?_
  obtain ⟨a4,a5,c⟩:=zD c
  refine zG (zL (yR (a:=f) (b:=h) rfl rfl) a5)<| yS (b:=a4) rfl rfl rfl (fun t=>?_) (fun t=>?_)
  ·have c:=zO t c
   refine zH (.int .u64 j)<| zH (.int .u64 k) ?_
   obtain ⟨u,a6,c⟩:=zD c
   refine zG (zL (xP (a:=j) (b:=k) rfl rfl) a6)<| zG (yO (v:= .bool u) rfl rfl)<| zG (yM (v:= .bool u) rfl rfl)<| zI (.bool u) ?_
   obtain rfl:=gI c
   exact (yA (zF (meet ⟨(),(zJ rfl zK),H.pick []⟩)))
  have c:=zQ t c
  refine yG ?_
  refine yG ?_
  refine yG ?_
  refine zG (yM (v:= .bool false) rfl rfl)<| zG (yM (v:= .bool false) rfl rfl)<| zI (.bool false) ?_
  obtain rfl:=gI c
  exact (yA (zF (meet ⟨(),(zJ rfl zK),H.pick []⟩)))
 rintro _ ρ bx H
 have c:=a1
 refine zY (b:=B) rfl (fun x=>?_) (fun x=>?_)
 ·have c:=zO x c
  refine zB fun bz a7=>zA<| zH (i6 d) ?_
  obtain ⟨C,a8,c⟩:=zD c
  refine zG (Do_neg (a:=d) rfl a8)<| zI (i6 C)<| RN a7 ?_
  obtain rfl:=gI c
  refine (zW (yE (zV (fC (v1:=i6 C) rfl rfl ?_))))
  exact ⟨rfl,H.pick []⟩
 have c:=zQ x c
 obtain ⟨D,c,a9⟩:=zC c
 refine yK [65,66,67,68,69,70,71,72,73] (fun (g:Unit)=>[(65,.bool D)]) (fun g wl=>Hd O w wl S []) ?_ ?_
 ·skip
  refine zA ?_
  refine zH (.int .u64 f)<| zH (.int .u64 h) ?_
  obtain ⟨ba,bb,c⟩:=zD c
  refine zG (zL (yR (a:=f) (b:=h) rfl rfl) bb)<| yS (b:=ba) rfl rfl rfl (fun y=>?_) (fun y=>?_)
  ·have c:=zO y c
   refine zH (.int .u64 j)<| zH (.int .u64 k) ?_
   obtain ⟨E,bc,c⟩:=zD c
   refine zG (zL (yR (a:=j) (b:=k) rfl rfl) bc)<| zG (yO (v:= .bool E) rfl rfl)<| zI (.bool E) ?_
   obtain rfl:=gI c
   exact (yA (zF (meet ⟨(),(zJ rfl zK),H.pick []⟩)))
  have c:=zQ y c
  refine yG ?_
  refine yG ?_
  refine yG ?_
  refine zG (yM (v:= .bool false) rfl rfl)<| zI (.bool false) ?_
  obtain rfl:=gI c
  exact (yA (zF (meet ⟨(),(zJ rfl zK),H.pick []⟩)))
 rintro _ ρ b0 H
 have c:=a9
 refine zY (b:=D) rfl (fun z=>?_) (fun z=>?_)
 ·have c:=zO z c
  refine zB fun b1 bd=>zA<| zI (i6 0)<| RN bd ?_
  obtain rfl:=gI c
  refine (zW (yE (zV (fC (v1:=i6 0) rfl rfl ?_))))
  exact ⟨rfl,H.pick []⟩
 have c:=zQ z c
 refine (zX (yH (zF (a0 _ _ ?_))))
 refine zB fun b2 be=>zA<| zH (i6 d)<| zI (i6 d)<| RN be ?_
 obtain rfl:=gI c
 refine (zW (fC (v1:=i6 d) rfl rfl ?_))
 exact ⟨rfl,H.pick []⟩
theorem Favw (c:mG)(f:gJ)(q:Nat)(k:Value)(l:Value)(m:Value)(r:Int)(d:Fav c f=some r)(O S:List Nat)(w:World)(H:Hd O w w S [.own (Rp.int .i64) m 3 f.rules,.blk q [k,l,m] 222,f1 gY k f.told,f1 Rp.bool l f.possible]):
  Cl 332 [.agg [i6 c.a,i6 c.b,i6 c.denA,i6 c.denB,i6 c.op].toArray,gV q] w fun e h=>e= .returned (i6 r)∧Hd O w h S [.own (Rp.int .i64) m 3 f.rules,.blk q [k,l,m] 222]:=by
 unfold Fav at d
 refine CW 44 Tryz.func332 ?_
 refine zB fun K9 M=>zA<| yQ rfl rfl (xR (cs:=[i6 c.a,i6 c.b,i6 c.denA,i6 c.denB,i6 c.op]) rfl H) ?_
 rintro _ t ⟨s,rfl,H⟩
 refine zI (i6 0)<| RN M<| zB fun ay P=>?_
 have Q:=H
 have H:=H.rebase
 have R:=H
 have u:Hd (O++bks (rest [0] [.own (Rp.int .i64) m 3 f.rules,.blk q [k,l,m] 222,f1 gY k f.told,f1 Rp.bool l f.possible,.blk s [i6 c.a,i6 c.b,i6 c.denA,i6 c.denB,i6 c.op] 281])) t t (bks (Go.Lf.pick ([0]++ [2,3]) [.own (Rp.int .i64) m 3 f.rules,.blk q [k,l,m] 222,f1 gY k f.told,f1 Rp.bool l f.possible,.blk s [i6 c.a,i6 c.b,i6 c.denA,i6 c.denB,i6 c.op] 281])) [.own (Rp.int .i64) m 3 f.rules,f1 gY k f.told,f1 Rp.bool l f.possible]:=H.enter [0] [2,3]
 have G:=H.firmB u (i:=1) rfl (List.mem_append_right _ List.mem_cons_self)
 have I:=H.firmB u (i:=4) rfl (List.mem_append_right _ (List.mem_cons_of_mem _ List.mem_cons_self))
 have H:=u
 have az:=H.firm (i:=1) rfl
 refine WP_mixM H [0,1,2,3,4,5,6,7,8,9,10,11,12,13,14,15,16,17,18,19] [.pure,.pure,.pure,.pure,.pure,.pure,.pure,.read,.pure,.pure,.pure,.pure,.pure,.pure,.pure,.pure,.mk (World.heap t).size,.mk (World.heap t).size,.eff,.eff] ⟨trivial,trivial,trivial,trivial,trivial,trivial,trivial,trivial,trivial,trivial,trivial,trivial,trivial,trivial,trivial,trivial,rfl,rfl,trivial,trivial,trivial⟩ mixed (by kernel_rfl) (by kernel_rfl) (by kernel_rfl) (by decide) ?_
 have H:=H.hm
 refine XM (gV q)<| XP (fun _ _=>zN rfl)<| XP (fun _ _=>aDg rfl)<| XP (fun h j=>xG aNk rfl (Cells.get (Blk.cells (G h j)) (i:=0) rfl))<| XP (fun _ _=>fa281_0 rfl)<| XP (fun h j=>xG fM rfl (Cells.get (Blk.cells (I h j)) (i:=0) rfl)) ?_
 obtain ⟨n,x,d⟩:=zC d
 obtain ⟨y,o23,a0,a1,T,U,V,X,Y⟩:=dI (H.item (i:=1) rfl) x
 obtain rfl:=nD U
 have H:=H.fz (.at y (o23+c.a.toNat * 2) _) ⟨V,X,Y⟩
 refine XP (fun _ _=>xC u55 pR T rfl (yC x).1 (yC x).2.1 rfl rfl)<| MxM.wJ oS rfl rfl rfl (fun h j=>yJ (yF (cs:=[i6 n.N,.bool n.Known]) aEl rfl pR rfl ((H.sees j).item (i:=3) rfl).2.2) rfl)<| XM (gV q)<| XP (fun _ _=>zN rfl)<| XP (fun _ _=>aDg rfl)<| XP (fun h j=>xG aNk rfl (Cells.get (Blk.cells (G h j)) (i:=0) rfl)) ?_
 refine XP (fun _ _=>fa281_1 rfl)<| XP (fun h j=>xG fM rfl (Cells.get (Blk.cells (I h j)) (i:=1) rfl)) ?_
 obtain ⟨o,z,d⟩:=zC d
 obtain ⟨A,o35,a2,a3,Z,aa,ab,ac,ad⟩:=dI (H.item (i:=1) rfl) z
 obtain rfl:=nD aa
 have H:=H.fz (.at A (o35+c.b.toNat * 2) _) ⟨ab,ac,ad⟩
 refine XP (fun _ _=>xC u55 pR Z rfl (yC z).1 (yC z).2.1 rfl rfl) ?_
 have ae:=u.firmC (H.item (i:=4) rfl).1.1 (H.item (i:=4) rfl).2.1 (H.item (i:=4) rfl).2.2
 refine XP (fun h j=>yJ (yF (cs:=[i6 o.N,.bool o.Known]) aEl rfl pR rfl (ae h j)) rfl)<| H.alloc_rule rfl rfl rfl rfl wZ ?_
 rintro B a4 H
 refine H.alloc_rule rfl rfl rfl rfl wZ ?_
 rintro C a5 H
 have H:=H.hd
 refine MxM.XL_exU oS rfl rfl (fun h j=>yL (vs:=[i6 n.N,.bool n.Known]) (H.sees j) 5 rfl pR rfl rfl rfl ⟨rfl,rfl,trivial⟩ rfl) ?_
 rintro h a6 j H
 refine ⟨H.only,?_⟩
 refine MxM.XL_exU oS rfl rfl (fun h j=>yL (vs:=[i6 o.N,.bool o.Known]) (H.sees j) 6 rfl pR rfl rfl rfl ⟨rfl,rfl,trivial⟩ rfl) ?_
 rintro h a7 j H
 refine ⟨H.only,?_⟩
 refine MxM.xK fun af hS=>?_
 have H:=H.sees hS
 have H:=R.back [0] [2,3] rfl H
 have H:Hd _ _ _ _ [.blk q [k,l,m] 222,f1 gY k f.told,f1 Rp.bool l f.possible,.blk s [i6 c.a,i6 c.b,i6 c.denA,i6 c.denB,i6 c.op] 281,.own (Rp.int .i64) m 3 f.rules,f1 gY k f.told,f1 Rp.bool l f.possible,.fz (.at y (o23+c.a.toNat * 2) [i6 n.N,.bool n.Known]),.fz (.at A (o35+c.b.toNat * 2) [i6 o.N,.bool o.Known]),.blk B [i6 n.N,.bool n.Known] 148,.blk C [i6 o.N,.bool o.Known] 148]:=H
 have H:Hd O t af (bks [.own (Rp.int .i64) m 3 f.rules,.blk q [k,l,m] 222,f1 gY k f.told,f1 Rp.bool l f.possible,.blk s [i6 c.a,i6 c.b,i6 c.denA,i6 c.denB,i6 c.op] 281]) [.blk q [k,l,m] 222,.blk s [i6 c.a,i6 c.b,i6 c.denA,i6 c.denB,i6 c.op] 281,.own (Rp.int .i64) m 3 f.rules,f1 gY k f.told,f1 Rp.bool l f.possible,.fz (.at y (o23+c.a.toNat * 2) [i6 n.N,.bool n.Known]),.fz (.at A (o35+c.b.toNat * 2) [i6 o.N,.bool o.Known]),.blk B [i6 n.N,.bool n.Known] 148,.blk C [i6 o.N,.bool o.Known] 148]:=H.pick [0,3,4,5,6,7,8,9,10]
 have H:=Q.rejoin H
 refine (zF (P _ _ ?_))
 refine zB fun a8 ag=>?_
 obtain ⟨J,d,ah⟩:=zC d
 refine yK [23,24,25,26,27,28,29,30] (fun (g:Unit)=>[(30,.bool J)]) (fun g wl=>Hd O w wl S [.blk q [k,l,m] 222,f1 gY k f.told,f1 Rp.bool l f.possible,.own (Rp.int .i64) m 3 f.rules,.blk s [i6 c.a,i6 c.b,i6 c.denA,i6 c.denB,i6 c.op] 281,.blk B [i6 n.N,.bool n.Known] 148,.blk C [i6 o.N,.bool o.Known] 148]) ?_ ?_
 ·skip
  refine zA ?_
  refine zG (aDa rfl)<| Ld qY H 7 1 rfl rfl ?_
  obtain ⟨ai,aj,d⟩:=zD d
  refine zG (zL (wH (p:=n.Known) rfl) aj)<| yS (b:=ai) rfl rfl rfl (fun D=>?_) (fun D=>?_)
  ·have d:=zO D d
   refine yG ?_
   refine yG ?_
   refine yG ?_
   refine zG (yO (v:= .bool true) rfl rfl) ?_
   obtain rfl:=gI d
   exact (yA (zF (meet ⟨(),(zJ rfl zK),H.pick [0,3,4,2,1,7,8]⟩)))
  have d:=zQ D d
  refine zG (aDa rfl)<| Ld qY H 8 1 rfl rfl ?_
  obtain ⟨ak,al,d⟩:=zD d
  refine zG (zL (wH (p:=o.Known) rfl) al)<| zG (yM (v:= .bool ak) rfl rfl) ?_
  obtain rfl:=gI d
  exact (yA (zF (meet ⟨(),(zJ rfl zK),H.pick [0,3,4,2,1,7,8]⟩)))
 rintro _ ρ a9 H
 have d:=ah
 refine zY (b:=J) rfl (fun E=>?_) (fun E=>?_)
 ·have d:=zO E d
  refine zB fun ba am=>zA<| zI (i6 0)<| RN am ?_
  obtain rfl:=gI d
  refine (zW (zV (fC (v1:=i6 0) rfl rfl ?_)))
  exact ⟨rfl,H.pick [3,0]⟩
 have d:=zQ E d
 refine zX (zF (ag _ _ ?_))
 refine zB fun bb an=>?_
 have ao:=H
 have H:=H.rebase
 have bc:=H
 refine xU H [0,1,2,3,4,5,6,7,8,9,10,11,12,13] (kz [0,1,0,1,0,1,0,1,0,1,4,4,4,0]) mixed ?_
 refine XP (fun _ _=>fa281_4 rfl)<| XR fM H 4 4 rfl rfl<| XP (fun _ _=>sO rfl)<| XR fM H 5 0 rfl rfl<| XP (fun _ _=>fa281_2 rfl)<| XR fM H 4 2 rfl rfl<| XP (fun _ _=>sO rfl)<| XR fM H 6 0 rfl rfl<| XP (fun _ _=>fa281_3 rfl)<| XR fM H 4 3 rfl rfl ?_
 have ap:=H
 obtain ⟨K,aq,d⟩:=zC d
 refine MxM.XL_fcall oS rfl rfl rfl (v:=i6 K) (fun h j=>zS en333 rfl) (fun h j=>bU (Fbqw n.N c.denA o.N c.denB _ aq _ _ _ (Hd.fresh0 h))) ?_
 have H:=ap
 have ar:=H
 obtain ⟨L,au,d⟩:=zC d
 refine MxM.XL_fcall oS rfl rfl rfl (v:= .bool L) (fun h j=>zS en329 rfl) (fun h j=>bU (Fakw c.op K _ au _ _ _ (Hd.fresh0 h))) ?_
 have H:=ar
 have av:=H
 obtain ⟨F,aw,d⟩:=zC d
 refine MxM.XL_fcall oS rfl rfl rfl (v:=i6 F) (fun h j=>zS en328 rfl) (fun h j=>bU (Fbgw L _ aw _ _ _ (Hd.fresh0 h))) ?_
 have H:=av
 refine XP (fun _ _=>xN (v:=i6 F) rfl)<| MxM.xK fun bd hS=>?_
 have H:=H.sees hS
 have H:=ao.rejoin H
 refine (zF (an _ _ ?_))
 obtain rfl:=gI d
 refine (zW (fC (v1:=i6 F) rfl rfl ?_))
 exact ⟨rfl,H.pick [3,0]⟩
set_option maxRecDepth 100000 in
theorem Fa1w (d:dO)(h:gJ)(o:Nat)(y:Value)(an:List Nat)(t:Nat)(l:Value)(m:Value)(k:Value)(r:Int×dO)(c:Fa1 d h=some r)(O S:List Nat)(w:World)(H:Hd O w w S [.tr (Rt.row (Rt.of gY) 148 []) [y] an d.last,.blk o [i6 d.track,i6 d.n,i6 d.frames,y] 241,.own (Rp.int .i64) k 3 h.rules,.blk t [l,m,k] 222,f1 gY l h.told,f1 Rp.bool m h.possible]):
  Cl 310 [gV o,gV t] w fun e D=> ∃Y ao,e= .returned (i6 r.1)∧Hd O w D S [.tr (Rt.row (Rt.of gY) 148 []) [Y] ao r.2.last,.blk o [i6 r.2.track,i6 r.2.n,i6 r.2.frames,Y] 241,.own (Rp.int .i64) k 3 h.rules,.blk t [l,m,k] 222]:=by
 unfold Fa1 at c
 refine CW 83 Tryz.func310 ?_
 refine zB fun ct ap=>zA<| zI (i6 0)<| RN ap<| zB fun cu aq=>?_
 have ar:=H
 have H:=H.rebase
 have cv:=H
 refine xU H [0,1,2,3,4,5,6,7,8,9,10,11,12,13,14,15,16] (kz [0,0,0,1,0,0,0,1,0,0,0,1,0,1,2,3,0]) mixed ?_
 refine XM (gV o)<| XP (fun _ _=>zN rfl)<| XP (fun _ _=>aRk rfl)<| XR aNk H 1 3 rfl rfl<| XM (gV t)<| XP (fun _ _=>zN rfl)<| XP (fun _ _=>aDg rfl)<| XR aNk H 3 0 rfl rfl<| XM (gV o)<| XP (fun _ _=>zN rfl)<| XP (fun _ _=>fa241_0 rfl)<| XR fM H 1 0 rfl rfl ?_
 obtain ⟨s,L,c⟩:=zC c
 obtain ⟨Z,o23,cw,cx,au,av,aw,ax,ay⟩:=dI (H.item (i:=4) rfl) L
 obtain rfl:=nD av
 have H:=H.fz (.at Z (o23+d.track.toNat * 2) _) ⟨aw,ax,ay⟩
 refine XP (fun _ _=>xC u55 pR au rfl (yC L).1 (yC L).2.1 rfl rfl)<| MxM.wJ oS rfl rfl rfl (fun D A=>yJ (yF (cs:=[i6 s.N,.bool s.Known]) aEl rfl pR rfl ((H.sees A).item (i:=6) rfl).2.2) rfl) ?_
 obtain ⟨cy,az,c⟩:=zD c
 subst az
 refine MxM.XL_exN oS rfl rfl rfl (fun D A=>pY (aX (r:=gY) (xl:=[s]) (cs:=[i6 s.N,.bool s.Known]) u55 aMa (by decide) (by decide) rfl (xH (vs:=[.agg [i6 s.N,.bool s.Known].toArray]) (by decide) rfl rfl ⟨rfl,trivial⟩ rfl) (H.sees A) ⟨[i6 s.N,.bool s.Known],[],rfl,(aIj (x:=s)),rfl⟩) (aHx (cs:=[i6 s.N,.bool s.Known]) u55 aMa (by decide) (by decide) (xH (vs:=[.agg [i6 s.N,.bool s.Known].toArray]) (by decide) rfl rfl ⟨rfl,trivial⟩ rfl))) ?_
 rintro D a0 cz A H
 obtain ⟨z,a1,c⟩:=zC c
 refine MxM.XL_ex oS rfl rfl rfl (fun D A=>aDh (H.sees A) 0 rfl u55 aMa rfl rfl (Sr.of_own ((H.sees A).item (i:=7) rfl)) a1) ?_
 rintro D u c0 A ⟨aa,H⟩
 refine ⟨H.only,?_⟩
 have H:Hd _ _ _ _ [.blk o [i6 d.track,i6 d.n,i6 d.frames,y] 241,.own (Rp.int .i64) k 3 h.rules,.blk t [l,m,k] 222,f1 gY l h.told,f1 Rp.bool m h.possible,.fz (.at Z (o23+d.track.toNat * 2) [i6 s.N,.bool s.Known]),.own gY a0 148 ([s]:List eH),.tr (Rt.row (Rt.of gY) 148 []) [u] aa z]:=H
 refine XP (fun _ _=>xN (v:=u) rfl)<| MxM.xK fun c1 hS=>?_
 have H:=H.sees hS
 have H:=ar.rejoin H
 refine (zF (aq _ _ ?_))
 refine zB fun c2 a2=>zA<| zI (i6 0)<| zI (i6 0)<| zI (i6 0)<| RN a2 ?_
 obtain ⟨F,c,a3⟩:=zC c
 refine yK [6,7,8,10,27,28,29,30,31,32,33,34,35,36,37,38,39,40,41,42,43,44,45,46,47,48,49,50,51,52] (fun (g:(List Nat))=>[(6,i6 F.1),(7,i6 F.2.1),(8,i6 F.2.2)]) (fun g wl=>Hd O w wl S [.blk o [i6 d.track,i6 d.n,i6 d.frames,y] 241,.tr (Rt.row (Rt.of gY) 148 []) [u] g z,.own (Rp.int .i64) k 3 h.rules,.blk t [l,m,k] 222,f1 gY l h.told,f1 Rp.bool m h.possible]) ?_ ?_
 ·skip
  refine zB fun c3 a4=>zA<| zH u ?_
  obtain ⟨a5,a6,c⟩:=zD c
  obtain ⟨c4,c5,a7⟩:=nV ((H.item (i:=7) rfl))
  refine zG (yJ (xO u55 a7) (congrArg (Value.int .i64) a6))<| zH (i6 0)<| RN a4<| yD ?_
  unfold Fcj at c
  obtain ⟨a8,ab,a9,c⟩:=yT c
  refine xB [6,7,8,10,29,30,31,32,33,34,35,36,37,38,39,40,41,42,43,44,45,46,47,48,49,50,51,52] (fun (g:Nat×Int×Int×Int×Int×(List Nat))=>[(6,i6 g.2.1),(7,i6 g.2.2.1),(8,i6 g.2.2.2.1),(29,i6 g.2.2.2.2.1)]) (fun g wl=>Hd O w wl S [.blk o [i6 d.track,i6 d.n,i6 d.frames,y] 241,.tr (Rt.row (Rt.of gY) 148 []) [u] g.2.2.2.2.2 z,.own (Rp.int .i64) k 3 h.rules,.blk t [l,m,k] 222,f1 gY l h.told,f1 Rp.bool m h.possible]∧fV a8 g.1 (g.2.1,g.2.2.1,g.2.2.2.1,g.2.2.2.2.1)=some F) (fun g=>g.1) (ab,0,0,0,0,aa) (zJ rfl (zJ rfl (zJ rfl (zJ rfl zK)))) ⟨H.pick [0,7,1,2,3,4],c⟩ ?_
  clear H c
  rintro ⟨ab,G,c6,c7,E,ba⟩ ρ c8 ⟨H,c⟩
  obtain ⟨bb,rfl,c⟩:=yZ c
  have c:=yY a9 c
  refine zB fun c9 bc=>zA ?_
  obtain ⟨bd,be,c⟩:=zD c
  refine zG (zL (xP (a:=E) (b:=a5) rfl rfl) be)<| RN bc<| zB fun da bf=>zY (b:=bd) rfl (fun M=>?_) (fun M=>?_)
  ·have c:=zO M c
   refine zX (zF (bf _ _ ?_))
   obtain ⟨I,c,bg⟩:=zC c
   refine yK [6,7,8,10,31,32,33,34,35,36,37,38,39,40,41,42,43,44,45,46,47,48,49,50,51] (fun (g:(List Nat))=>[(6,i6 I.1),(7,i6 I.2.1),(8,i6 I.2.2)]) (fun g wl=>Hd O w wl S [.blk o [i6 d.track,i6 d.n,i6 d.frames,y] 241,.tr (Rt.row (Rt.of gY) 148 []) [u] g z,.own (Rp.int .i64) k 3 h.rules,.blk t [l,m,k] 222,f1 gY l h.told,f1 Rp.bool m h.possible]) ?_ ?_
   ·skip
    refine yD ?_
    refine zB fun db bh=>zA ?_
    obtain ⟨f,B,c⟩:=zC c
    obtain ⟨dc,dd,de,P⟩:=jC (H.item (i:=1) rfl) B
    refine zG (xC u55 pR P rfl (yC B).1 (yC B).2.1 rfl rfl) ?_
    obtain ⟨df,J,dg,H⟩:=H.focusV 1 rfl P B rfl
    obtain ⟨bi,bj⟩:=trF (H.item (i:=6) rfl)
    subst bi
    obtain rfl:=nD bj
    have H:Hd _ _ _ _ [.blk o [i6 d.track,i6 d.n,i6 d.frames,y] 241,.own (Rp.int .i64) k 3 h.rules,.blk t [l,m,k] 222,f1 gY l h.told,f1 Rp.bool m h.possible,.tr (Rt.row (Rt.of gY) 148 [(E.toNat,[i6 f.N,.bool f.Known])]) [u] J z,.tr (Rt.of gY) [i6 f.N,.bool f.Known] [] f]:=H
    refine zG (yJ (yF (cs:=[i6 f.N,.bool f.Known]) aEl rfl pR rfl (H.holeW 5 rfl P B rfl dG)) rfl)<| yQ rfl rfl (xA wZ H) ?_
    rintro _ dh ⟨C,rfl,H⟩
    refine yP rfl (yL (vs:=[i6 f.N,.bool f.Known]) H 7 rfl pR rfl rfl rfl ⟨rfl,rfl,trivial⟩ rfl) ?_
    rintro di H
    refine RN bh<| zB fun dj bk=>zB fun dk bl=>zA<| zG (aDa rfl)<| Ld qY H 7 1 rfl rfl ?_
    obtain ⟨bm,bn,c⟩:=zD c
    refine zG (zL (wH (p:=f.Known) rfl) bn)<| RN bl<| zY (b:=bm) rfl (fun Q=>?_) (fun Q=>?_)
    ·have c:=zO Q c
     have H:Hd _ _ _ _ [.blk o [i6 d.track,i6 d.n,i6 d.frames,y] 241,.own (Rp.int .i64) k 3 h.rules,.blk t [l,m,k] 222,f1 gY l h.told,f1 Rp.bool m h.possible,.tr (Rt.row (Rt.of gY) 148 [(E.toNat,[i6 f.N,.bool f.Known])]) [u] J z,.tr (Rt.of gY) [i6 f.N,.bool f.Known] [] f,.blk C [i6 f.N,.bool f.Known] 148]:=H
     obtain ⟨ac,H⟩:=H.unfocus0 5 6 rfl rfl (by decide) rfl rfl B
     have H:Hd _ _ _ _ [.blk o [i6 d.track,i6 d.n,i6 d.frames,y] 241,.own (Rp.int .i64) k 3 h.rules,.blk t [l,m,k] 222,f1 gY l h.told,f1 Rp.bool m h.possible,.blk C [i6 f.N,.bool f.Known] 148,.tr (Rt.row (Rt.of gY) 148 []) [u] ac z]:=H
     obtain rfl:=gI c
     exact (xI (yI (yV (zF (meet ⟨ac,(zJ rfl (zJ rfl (zJ rfl zK))),H.pick [0,6,1,2,3,4]⟩)))))
    have c:=zQ Q c
    refine zX (zF (bk _ _ ?_))
    obtain ⟨R,c,bo⟩:=zC c
    refine yK [7,8,36,37,38,39,40,41] (fun (g:(List Nat))=>[(7,i6 R.1),(8,i6 R.2)]) (fun g wl=>Hd O w wl S [.blk o [i6 d.track,i6 d.n,i6 d.frames,y] 241,.tr (Rt.row (Rt.of gY) 148 []) [u] g z,.own (Rp.int .i64) k 3 h.rules,.blk t [l,m,k] 222,f1 gY l h.told,f1 Rp.bool m h.possible,.blk C [i6 f.N,.bool f.Known] 148]) ?_ ?_
    ·skip
     refine zB fun dl bp=>zA<| zH (i6 G) ?_
     obtain ⟨bq,br,c⟩:=zD c
     refine zG (zL (yR (a:=G) (b:=0) rfl rfl) br)<| RN bp<| zY (b:=bq) rfl (fun T=>?_) (fun T=>?_)
     ·have c:=zO T c
      have bt:=H
      have H:=H.rebase
      have dm:=H
      refine xU H [0,1,2,3,4,5] (kz [0,1,0,1,0,0]) mixed ?_
      refine XP (fun _ _=>sO rfl)<| XR fM H 7 0 rfl rfl<| XP (fun _ _=>sO rfl)<| XR fM H 7 0 rfl rfl<| XP (fun _ _=>xN (v:=i6 f.N) rfl)<| XP (fun _ _=>xN (v:=i6 f.N) rfl)<| MxM.xK fun dn hS=>?_
      have H:=H.sees hS
      have H:=bt.rejoin H
      have H:Hd _ _ _ _ [.blk o [i6 d.track,i6 d.n,i6 d.frames,y] 241,.own (Rp.int .i64) k 3 h.rules,.blk t [l,m,k] 222,f1 gY l h.told,f1 Rp.bool m h.possible,.tr (Rt.row (Rt.of gY) 148 [(E.toNat,[i6 f.N,.bool f.Known])]) [u] J z,.tr (Rt.of gY) [i6 f.N,.bool f.Known] [] f,.blk C [i6 f.N,.bool f.Known] 148]:=H
      obtain ⟨ad,H⟩:=H.unfocus0 5 6 rfl rfl (by decide) rfl rfl B
      have H:Hd _ _ _ _ [.blk o [i6 d.track,i6 d.n,i6 d.frames,y] 241,.own (Rp.int .i64) k 3 h.rules,.blk t [l,m,k] 222,f1 gY l h.told,f1 Rp.bool m h.possible,.blk C [i6 f.N,.bool f.Known] 148,.tr (Rt.row (Rt.of gY) 148 []) [u] ad z]:=H
      obtain rfl:=gI c
      exact (zF (meet ⟨ad,(zJ rfl (zJ rfl zK)),H.pick [0,6,1,2,3,4,5]⟩))
     have c:=zQ T c
     have H:Hd _ _ _ _ [.blk o [i6 d.track,i6 d.n,i6 d.frames,y] 241,.own (Rp.int .i64) k 3 h.rules,.blk t [l,m,k] 222,f1 gY l h.told,f1 Rp.bool m h.possible,.tr (Rt.row (Rt.of gY) 148 [(E.toNat,[i6 f.N,.bool f.Known])]) [u] J z,.tr (Rt.of gY) [i6 f.N,.bool f.Known] [] f,.blk C [i6 f.N,.bool f.Known] 148]:=H
     obtain ⟨ae,H⟩:=H.unfocus0 5 6 rfl rfl (by decide) rfl rfl B
     have H:Hd _ _ _ _ [.blk o [i6 d.track,i6 d.n,i6 d.frames,y] 241,.own (Rp.int .i64) k 3 h.rules,.blk t [l,m,k] 222,f1 gY l h.told,f1 Rp.bool m h.possible,.blk C [i6 f.N,.bool f.Known] 148,.tr (Rt.row (Rt.of gY) 148 []) [u] ae z]:=H
     obtain rfl:=gI c
     exact (zX (zF (meet ⟨ae,(zJ rfl (zJ rfl zK)),H.pick [0,6,1,2,3,4,5]⟩)))
    rintro bu ρ dp H
    have c:=bo
    obtain ⟨af,ag⟩:=R
    have bv:=H
    have H:=H.rebase
    have dq:=H
    refine xU H [0,1,2,3,4,5,6,7,8,9,10,11,12] (kz [0,0,0,0,1,0,0,0,1,0,0,0,0]) mixed ?_
    refine XM (i6 G) ?_
    obtain ⟨bw,bx,c⟩:=zD c
    refine XP (fun _ _=>xM (a:=G) (b:=1) rfl rfl bx)<| XM (i6 af)<| XP (fun _ _=>sO rfl)<| XR fM H 6 0 rfl rfl ?_
    obtain ⟨bz,b0,c⟩:=zD c
    refine XP (fun _ _=>Do_min (j:=af) (q:=f.N) rfl rfl b0)<| XM (i6 ag)<| XP (fun _ _=>sO rfl)<| XR fM H 6 0 rfl rfl ?_
    obtain ⟨b1,b2,c⟩:=zD c
    refine XP (fun _ _=>Do_max (j:=ag) (q:=f.N) rfl rfl b2)<| XP (fun _ _=>xN (v:=i6 bw) rfl)<| XP (fun _ _=>xN (v:=i6 bz) rfl)<| XP (fun _ _=>xN (v:=i6 b1) rfl)<| MxM.xK fun dr hS=>?_
    have H:=H.sees hS
    have H:=bv.rejoin H
    obtain rfl:=gI c
    exact (yH (zF (meet ⟨bu,(zJ rfl (zJ rfl (zJ rfl zK))),H.pick [0,1,2,3,4,5]⟩)))
   rintro b3 ρ ds H
   have c:=bg
   obtain ⟨b4,b5,b6⟩:=I
   refine zA ?_
   obtain ⟨ah,b7,c⟩:=zD c
   refine zG (xM (a:=E) (b:=1) rfl rfl b7)<| zH (i6 ah) ?_
   exact (yA (zF (meet ⟨(bb,b4,b5,b6,ah,b3),(zJ rfl (zJ rfl (zJ rfl (zJ rfl zK)))),⟨H.pick [0,1,2,3,4,5],c⟩,Nat.lt_succ_self _⟩)))
  have c:=zQ M c
  obtain rfl:=gI c
  exact (xI (yI (yI (yV (zF (meet ⟨ba,(zJ rfl (zJ rfl (zJ rfl zK))),H.pick [0,1,2,3,4,5]⟩))))))
 rintro U ρ dt H
 have c:=a3
 obtain ⟨ai,aj,ak⟩:=F
 refine zB fun du b8=>zA<| zH (gV o)<| zH u<| zH u ?_
 obtain ⟨b9,ca,c⟩:=zD c
 obtain ⟨dv,dw,cb⟩:=nV ((H.item (i:=1) rfl))
 refine zG (yJ (xO u55 cb) (congrArg (Value.int .i64) ca))<| zH (gV o)<| zG (zN rfl)<| zG (aSr rfl)<| Ld fM H 0 2 rfl rfl ?_
 obtain ⟨cc,cd,c⟩:=zD c
 refine zG (jO (a:=b9) (b:=d.frames) rfl rfl cd) ?_
 obtain ⟨ce,cf,c⟩:=zD c
 refine zG (xM (a:=cc) (b:=1) rfl rfl cf) ?_
 obtain ⟨dx,cg,c⟩:=zD c
 refine zG (Do_max (j:=0) (q:=ce) rfl rfl cg) ?_
 obtain ⟨dy,ch,c⟩:=zC c
 refine aEe rfl rfl (aEd H 1 rfl u55 pR rfl rfl ch) ?_
 rintro K H
 refine zG (zN rfl)<| zG (aRk rfl)<| yP rfl (xE H 0 rfl sz55 rfl (v:=K) rfl (nI (H.item (i:=1) rfl)) rfl) ?_
 rintro dz H
 refine RN b8<| zB fun d0 ci=>yD<| zB fun d1 cj=>zA<| zH (i6 ak)<| zH (i6 aj) ?_
 obtain ⟨ck,cl,c⟩:=zD c
 refine zG (jO (a:=ak) (b:=aj) rfl rfl cl)<| zH (gV o)<| zG (zN rfl)<| zG (fa241_1 rfl)<| Ld fM H 0 1 rfl rfl ?_
 obtain ⟨al,cm,c⟩:=zD c
 refine zG (zL (aI (a:=ck) (b:=d.n) rfl rfl) cm)<| zI (.bool al)<| RN cj<| zY (b:=al) rfl (fun V=>?_) (fun V=>?_)
 ·have c:=zO V c
  refine zB fun d2 cn=>zA<| zI (i6 1)<| RN cn ?_
  obtain rfl:=gI c
  refine (zW (yE (zV (fC (v1:=i6 1) rfl rfl ?_))))
  exact ⟨K,U,rfl,H.pick [1,0,2,3]⟩
 have c:=zQ V c
 refine zB fun d3 co=>zA<| zH (i6 ai)<| zH (gV o)<| zG (zN rfl)<| zG (aSr rfl)<| Ld fM H 0 2 rfl rfl ?_
 obtain ⟨am,cp,c⟩:=zD c
 refine zG (zL (yR (a:=ai) (b:=d.frames) rfl rfl) cp)<| zI (.bool am)<| RN co<| zY (b:=am) rfl (fun X=>?_) (fun X=>?_)
 ·have c:=zO X c
  refine zB fun d4 cq=>zA<| zI (i6 2)<| RN cq ?_
  obtain rfl:=gI c
  refine (zW (yE (zV (fC (v1:=i6 2) rfl rfl ?_))))
  exact ⟨K,U,rfl,H.pick [1,0,2,3]⟩
 have c:=zQ X c
 refine (zX (yH (zF (ci _ _ ?_))))
 refine zB fun d5 cr=>zA<| zI (i6 0)<| RN cr ?_
 obtain rfl:=gI c
 refine (zW (fC (v1:=i6 0) rfl rfl ?_))
 exact ⟨K,U,rfl,H.pick [1,0,2,3]⟩
theorem Fa4w (l:kT)(d:gJ)(k:Nat)(h:Value)(j:Value)(f:Value)(r:Int)(c:Fa4 l d=some r)(O S:List Nat)(w:World)(H:Hd O w w S [.own (Rp.int .i64) f 3 d.rules,.blk k [h,j,f] 222,f1 gY h d.told,f1 Rp.bool j d.possible]):
  Cl 335 [.agg [i6 l.phase].toArray,gV k] w fun e A=>e= .returned (i6 r)∧Hd O w A S [.own (Rp.int .i64) f 3 d.rules,.blk k [h,j,f] 222]:=by
 unfold Fa4 at c
 refine CW 34 Tryz.func335 ?_
 refine zB fun K9 J=>zA<| yQ rfl rfl (xR (cs:=[i6 l.phase]) rfl H) ?_
 rintro _ a9 ⟨o,rfl,H⟩
 refine zI (i6 0)<| RN J<| zB fun ba K=>zA<| zI (i6 0)<| RN K ?_
 obtain ⟨m,c,L⟩:=zC c
 refine yK [5,7,8,9,10,11,12,13,14,15,16,17,18,19,20] (fun (g:Unit)=>[(5,i6 m)]) (fun g wl=>Hd O w wl S [.own (Rp.int .i64) f 3 d.rules,.blk k [h,j,f] 222,f1 gY h d.told,f1 Rp.bool j d.possible,.blk o [i6 l.phase] 283]) ?_ ?_
 ·skip
  refine zB fun bb M=>zA<| zH (gV k)<| zG (zN rfl)<| zG (aKc rfl)<| Ld aBt H 1 1 rfl rfl ?_
  obtain ⟨N,P,c⟩:=zD c
  obtain ⟨bc,bd,Q⟩:=SlF.len ((H.item (i:=3) rfl))
  refine zG (yJ (xO uC Q) (congrArg (Value.int .i64) P))<| zH (i6 0)<| RN M<| yD ?_
  unfold Fcr at c
  obtain ⟨R,B,T,c⟩:=yT c
  refine xB [5,7,13,14,15,16,17,18,19,20] (fun (g:Nat×Int×Int)=>[(5,i6 g.2.1),(13,i6 g.2.2)]) (fun g wl=>Hd O w wl S [.own (Rp.int .i64) f 3 d.rules,.blk k [h,j,f] 222,f1 gY h d.told,f1 Rp.bool j d.possible,.blk o [i6 l.phase] 283]∧fV R g.1 (g.2.1,g.2.2)=some m) (fun g=>g.1) (B,0,0) (zJ rfl (zJ rfl zK)) ⟨H.pick [0,1,2,3,4],c⟩ ?_
  clear H c
  rintro ⟨B,C,q⟩ ρ be ⟨H,c⟩
  obtain ⟨U,rfl,c⟩:=yZ c
  have c:=yY T c
  refine zB fun bf V=>zA ?_
  obtain ⟨X,Y,c⟩:=zD c
  refine zG (zL (xP (a:=q) (b:=N) rfl rfl) Y)<| RN V<| zB fun bg Z=>zY (b:=X) rfl (fun s=>?_) (fun s=>?_)
  ·have c:=zO s c
   refine zX (zF (Z _ _ ?_))
   obtain ⟨D,c,aa⟩:=zC c
   refine yK [5,7,15,16,17,18,19] (fun (g:Unit)=>[(5,i6 D)]) (fun g wl=>Hd O w wl S [.own (Rp.int .i64) f 3 d.rules,.blk k [h,j,f] 222,f1 gY h d.told,f1 Rp.bool j d.possible,.blk o [i6 l.phase] 283]) ?_ ?_
   ·skip
    refine yD ?_
    refine zB fun bh ab=>zA ?_
    obtain ⟨n,t,c⟩:=zC c
    obtain ⟨ac,ad,bi,ae,af,ag,ah,ai,aj⟩:=dI (H.item (i:=3) rfl) t
    obtain rfl:ae= [.bool n]:=ag
    have H:=H.fz (.at ac (ad+q.toNat * 1) _) ⟨ah,ai,aj⟩
    refine zG (xC uC sz4 af rfl (yC t).1 (yC t).2.1 rfl rfl)<| zG (xG qY rfl (Cells.get (H.item (i:=5) rfl).2.2 (i:=0) rfl))<| zI (.bool n)<| RN ab<| zB fun bj ak=>zA<| zH (.bool n)<| RN ak<| zY (b:=n) rfl (fun u=>?_) (fun u=>?_)
    ·have c:=zO u c
     refine zA ?_
     refine zH (i6 C) ?_
     obtain ⟨al,am,c⟩:=zD c
     refine zG (xM (a:=C) (b:=1) rfl rfl am)<| zI (i6 al) ?_
     obtain rfl:=gI c
     exact (yA (yH (zF (meet ⟨(),(zJ rfl zK),H.pick [0,1,2,3,4]⟩))))
    have c:=zQ u c
    obtain rfl:=gI c
    exact (zX (yH (zF (meet ⟨(),(zJ rfl zK),H.pick [0,1,2,3,4]⟩))))
   rintro _ ρ bk H
   have c:=aa
   refine zA ?_
   obtain ⟨E,an,c⟩:=zD c
   refine zG (xM (a:=q) (b:=1) rfl rfl an)<| zH (i6 E) ?_
   exact (yA (zF (meet ⟨(U,D,E),(zJ rfl (zJ rfl zK)),⟨H.pick [0,1,2,3,4],c⟩,Nat.lt_succ_self _⟩)))
  have c:=zQ s c
  obtain rfl:=gI c
  exact (xI (yI (yI (yV (zF (meet ⟨(),(zJ rfl zK),H.pick [0,1,2,3,4]⟩))))))
 rintro _ ρ bl H
 have c:=L
 refine zB fun bm ao=>?_
 refine yD ?_
 refine zB fun bn ap=>?_
 have aq:=H
 have H:=H.rebase
 have bo:=H
 refine xU H [0,1,2,3,4,5,6,7,8,9] (kz [0,0,0,1,0,1,0,1,0,0]) mixed ?_
 refine XM (gV k)<| XP (fun _ _=>zN rfl)<| XP (fun _ _=>aKc rfl)<| XR aBt H 1 1 rfl rfl<| XP (fun _ _=>fa283_0 rfl)<| XR fM H 4 0 rfl rfl ?_
 obtain ⟨F,x,c⟩:=zC c
 obtain ⟨ar,au,bp,av,aw,ax,ay,az,a0⟩:=dI (H.item (i:=3) rfl) x
 obtain rfl:av= [.bool F]:=ax
 have H:=H.fz (.at ar (au+l.phase.toNat * 1) _) ⟨ay,az,a0⟩
 refine XP (fun _ _=>xC uC sz4 aw rfl (yC x).1 (yC x).2.1 rfl rfl)<| MxM.wJ oS rfl rfl rfl (fun A a1=>xG qY rfl (Cells.get ((H.sees a1).item (i:=5) rfl).2.2 (i:=0) rfl)) ?_
 obtain ⟨G,a2,c⟩:=zD c
 refine XP (fun _ _=>zL (wH (p:=F) rfl) a2)<| XP (fun _ _=>xN (v:= .bool G) rfl)<| MxM.xK fun bq hS=>?_
 have H:=H.sees hS
 have H:=aq.rejoin H
 refine (zF (ap _ _ ?_))
 refine zY (b:=G) rfl (fun y=>?_) (fun y=>?_)
 ·have c:=zO y c
  refine zB fun br a3=>zA<| zI (i6 1)<| RN a3 ?_
  obtain rfl:=gI c
  refine (zW (yE (zV (fC (v1:=i6 1) rfl rfl ?_))))
  exact ⟨rfl,H.pick [0,1]⟩
 have c:=zQ y c
 refine zB fun bt a4=>zA<| zH (i6 m) ?_
 obtain ⟨I,a5,c⟩:=zD c
 refine zG (zL (yR (a:=m) (b:=1) rfl rfl) a5)<| zI (.bool I)<| RN a4<| zY (b:=I) rfl (fun z=>?_) (fun z=>?_)
 ·have c:=zO z c
  refine zB fun bu a6=>zA<| zI (i6 2)<| RN a6 ?_
  obtain rfl:=gI c
  refine (zW (yE (zV (fC (v1:=i6 2) rfl rfl ?_))))
  exact ⟨rfl,H.pick [0,1]⟩
 have c:=zQ z c
 refine (zX (yH (zF (ao _ _ ?_))))
 refine zB fun bv a7=>zA<| zI (i6 0)<| RN a7 ?_
 obtain rfl:=gI c
 refine (zW (fC (v1:=i6 0) rfl rfl ?_))
 exact ⟨rfl,H.pick [0,1]⟩
theorem Fejw (f:vH)(a:gJ)(b:Nat)(h:Value)(j:Value)(c:Value)(r:Int)(d:Fej f a=some r)(O S:List Nat)(w:World)(H:Hd O w w S [.own (Rp.int .i64) c 3 a.rules,.blk b [h,j,c] 222,f1 gY h a.told,f1 Rp.bool j a.possible]):
  Cl 337 [.agg [i6 f.rule].toArray,gV b] w fun e m=>e= .returned (i6 r)∧Hd O w m S [.own (Rp.int .i64) c 3 a.rules,.blk b [h,j,c] 222]:=by
 unfold Fej at d
 refine CW 13 Tryz.func337 ?_
 refine zB fun y n=>zA<| yQ rfl rfl (xR (cs:=[i6 f.rule]) rfl H) ?_
 rintro _ z ⟨A,rfl,H⟩
 refine zI (i6 0)<| RN n<| zB fun B o=>?_
 have p:=H
 have H:=H.rebase
 have C:=H
 refine xU H [0,1,2,3,4,5,6,7,8] (kz [0,0,0,1,0,1,0,1,0]) mixed ?_
 refine XM (gV b)<| XP (fun _ _=>zN rfl)<| XP (fun _ _=>aDc rfl)<| XR rO H 1 2 rfl rfl<| XP (fun _ _=>fa285_0 rfl)<| XR fM H 4 0 rfl rfl ?_
 obtain ⟨k,l,d⟩:=zC d
 obtain ⟨D,E,q,s,t,u⟩:=jD (H.item (i:=0) rfl) l
 obtain rfl:q= [i6 k]:=t
 refine XP (fun _ _=>xC u38 sz3 s rfl (yC l).1 (yC l).2.1 rfl rfl)<| MxM.wJ oS rfl rfl rfl (fun m x=>xG fM rfl (Cells.get (u.sees x) (i:=0) rfl))<| XP (fun _ _=>xN (v:=i6 k) rfl)<| MxM.xK fun F hS=>?_
 have H:=H.sees hS
 have H:=p.rejoin H
 refine (zF (o _ _ ?_))
 obtain rfl:=gI d
 refine (zW (fC (v1:=i6 k) rfl rfl ?_))
 exact ⟨rfl,H.pick [0,1]⟩
theorem Fbuw (d:Int)(r:Int)(c:Fbu d=some r)(O S:List Nat)(w:World)(H:Hd O w w S []):
  Cl 317 [i6 d] w fun e k=>e= .returned (i6 r)∧Hd O w k S []:=by
 unfold Fbu at c
 refine CW 8 Tryz.func317 ?_
 refine zB fun x l=>zA<| zI (i6 0)<| RN l<| zB fun y m=>zB fun z n=>zA<| zH (i6 d)<| RN n<| yD<| zB fun A o=>zA ?_
 obtain ⟨i,p,c⟩:=zD c
 refine zG (zL (yR (a:=d) (b:=2) rfl rfl) p)<| zI (.bool i)<| RN o<| zY (b:=i) rfl (fun f=>?_) (fun f=>?_)
 ·have c:=zO f c
  refine zB fun B q=>zA<| zI (i6 1)<| RN q ?_
  obtain rfl:=gI c
  refine (zW (yE (zV (fC (v1:=i6 1) rfl rfl ?_))))
  exact ⟨rfl,H.pick []⟩
 have c:=zQ f c
 refine zB fun C s=>zA ?_
 obtain ⟨j,t,c⟩:=zD c
 refine zG (zL (yR (a:=d) (b:=1) rfl rfl) t)<| zI (.bool j)<| RN s<| zY (b:=j) rfl (fun h=>?_) (fun h=>?_)
 ·have c:=zO h c
  refine zB fun D u=>zA<| zI (i6 2)<| RN u ?_
  obtain rfl:=gI c
  refine (zW (yE (zV (fC (v1:=i6 2) rfl rfl ?_))))
  exact ⟨rfl,H.pick []⟩
 have c:=zQ h c
 refine (zX (yH (zF (m _ _ ?_))))
 refine zB fun E v=>zA<| zI (i6 0)<| RN v ?_
 obtain rfl:=gI c
 refine (zW (fC (v1:=i6 0) rfl rfl ?_))
 exact ⟨rfl,H.pick []⟩
theorem Fbsw (rfI:Nd→gJ→Option (Int×Nd))(rhI:Fay rfI)(l:kN)(a:gJ)(k:Nat)(c:Value)(m:List Nat)(d:Nat)(f:Value)(h:Value)(b:Value)(r:Int×kN)(j:Fbs rfI l a=some r)(O S:List Nat)(w:World)(H:Hd O w w S [.tr fG [c] m l.kid,.blk k [c] 248,.own (Rp.int .i64) b 3 a.rules,.blk d [f,h,b] 222,f1 gY f a.told,f1 Rp.bool h a.possible]):
  Cl 316 [gV k,gV d] w fun e t=> ∃n u,e= .returned (i6 r.1)∧Hd O w t S [.tr fG [n] u r.2.kid,.blk k [n] 248,.own (Rp.int .i64) b 3 a.rules,.blk d [f,h,b] 222]:=by
 unfold Fbs at j
 refine CW 12 Tryz.func316 ?_
 refine zB fun G v=>zA<| zI (i6 0)<| RN v<| zB fun I x=>zA<| zH (gV k)<| zG (zN rfl)<| zG (fa248_0 rfl)<| Ld kV H 1 0 rfl rfl<| zH (gV d) ?_
 obtain ⟨y,z,o⟩:=Fam (H.item (i:=0) rfl)
 obtain ⟨p,A,j⟩:=zC j
 refine zZ rfl rfl (nN o rfl rfl) (rhI l.kid (gJ.mk a.told a.possible a.rules) c m d f h b y z o _ A _ _ _ (H.enter [0,2,3] [4,5])) ?_
 rintro _ B ⟨q,rfl,C⟩
 have H:Hd _ _ B _ [.blk k [c] 248,f1 gY f a.told,f1 Rp.bool h a.possible,.tr fG [c] q p.2,.own (Rp.int .i64) b 3 a.rules,.blk d [f,h,b] 222]:=H.back [0,2,3] [4,5] rfl C
 refine ⟨_,rfl,?_⟩
 have D:=H
 obtain ⟨s,E,j⟩:=zC j
 refine zZ rfl rfl (zS en317 rfl) (Fbuw p.1 _ E _ _ _ (H.enter [] [])) ?_
 rintro _ J ⟨rfl,F⟩
 have H:=D.step (F.only:Only [] _ _)
 refine ⟨_,rfl,?_⟩
 refine zI (i6 s)<| RN x ?_
 obtain rfl:=gI j
 refine (zW (fC (v1:=i6 s) rfl rfl ?_))
 exact ⟨c,q,rfl,H.pick [3,0,4,5]⟩
set_option maxRecDepth 100000 in
theorem Fbrw (rfI:Nd→gJ→Option (Int×Nd))(rhI:Fay rfI)(l:aA)(d:gJ)(m:Nat)(k:Value)(A:List Nat)(n:Nat)(h:Value)(j:Value)(f:Value)(r:Int×aA)(c:Fbr rfI l d=some r)(O S:List Nat)(w:World)(H:Hd O w w S [.tr fO [k] A l.kids,.blk m [k,.bool l.any] 251,.own (Rp.int .i64) f 3 d.rules,.blk n [h,j,f] 222,f1 gY h d.told,f1 Rp.bool j d.possible]):
  Cl 319 [gV m,gV n] w fun e w'=> ∃L ac,e= .returned (i6 r.1)∧Hd O w w' S [.tr fO [L] ac r.2.kids,.blk m [L,.bool r.2.any] 251,.own (Rp.int .i64) f 3 d.rules,.blk n [h,j,f] 222]:=by
 unfold Fbr at c
 refine CW 38 Tryz.func319 ?_
 refine zB fun bq ad=>zA<| zI (i6 0)<| RN ad<| zB fun br ae=>zA<| zI (i6 1)<| zI (i6 2)<| RN ae ?_
 obtain ⟨B,c,af⟩:=zC c
 refine yK [5,6,10,11,12,13] (fun (g:Unit)=>[(5,i6 B.1),(6,i6 B.2)]) (fun g wl=>Hd O w wl S [.tr fO [k] A l.kids,.blk m [k,.bool l.any] 251,.own (Rp.int .i64) f 3 d.rules,.blk n [h,j,f] 222,f1 gY h d.told,f1 Rp.bool j d.possible]) ?_ ?_
 ·skip
  refine zB fun bt ag=>zA<| zH (gV m)<| zG (zN rfl)<| zG (fa251_1 rfl)<| Ld qY H 1 1 rfl rfl<| RN ag<| zY (b:=l.any) rfl (fun C=>?_) (fun C=>?_)
  ·have c:=zO C c
   refine zA ?_
   refine zI (i6 2)<| zI (i6 1) ?_
   obtain rfl:=gI c
   exact (yA (zF (meet ⟨(),(zJ rfl (zJ rfl zK)),H.pick [0,1,2,3,4,5]⟩)))
  have c:=zQ C c
  obtain rfl:=gI c
  exact (zX (zF (meet ⟨(),(zJ rfl (zJ rfl zK)),H.pick [0,1,2,3,4,5]⟩)))
 rintro _ ρ bu H
 have c:=af
 obtain ⟨y,u⟩:=B
 refine zB fun bv ah=>zA<| zH (i6 u)<| zI (i6 u)<| RN ah ?_
 obtain ⟨z,c,ai⟩:=zC c
 refine yK [7,9,15,16,17,18,19,20,21,22,23,24,25,26,27,28,29,30,31,32,33,34,35,36] (fun (g:(List Nat))=>[(7,i6 z.1)]) (fun g wl=>Hd O w wl S [.tr fO [k] g z.2,.blk m [k,.bool l.any] 251,.own (Rp.int .i64) f 3 d.rules,.blk n [h,j,f] 222,f1 gY h d.told,f1 Rp.bool j d.possible]) ?_ ?_
 ·skip
  refine zB fun bw aj=>zA<| zH (gV m)<| zG (zN rfl)<| zG (fa251_0 rfl)<| Ld aPx H 1 0 rfl rfl ?_
  obtain ⟨ak,al,c⟩:=zD c
  obtain ⟨bx,bz,am⟩:=nV ((H.item (i:=0) rfl))
  refine zG (yJ (xO vJ am) (congrArg (Value.int .i64) al))<| zH (i6 0)<| RN aj<| yD ?_
  unfold Fbm at c
  obtain ⟨an,M,ao,c⟩:=yT c
  refine xB [7,9,20,21,22,23,24,25,26,27,28,29,30,31,32,33,34,35,36] (fun (g:Nat×Int×Int×(List Nd)×(List Nat))=>[(7,i6 g.2.1),(20,i6 g.2.2.1)]) (fun g wl=>Hd O w wl S [.tr fO [k] g.2.2.2.2 g.2.2.2.1,.blk m [k,.bool l.any] 251,.own (Rp.int .i64) f 3 d.rules,.blk n [h,j,f] 222,f1 gY h d.told,f1 Rp.bool j d.possible]∧fV an g.1 (g.2.1,g.2.2.1,g.2.2.2.1)=some z) (fun g=>g.1) (M,u,0,l.kids,A) (zJ rfl (zJ rfl zK)) ⟨H.pick [0,1,2,3,4,5],c⟩ ?_
  clear H c
  rintro ⟨M,N,p,s,ap⟩ ρ b0 ⟨H,c⟩
  obtain ⟨aq,rfl,c⟩:=yZ c
  have c:=yY ao c
  refine zB fun b1 ar=>zA ?_
  obtain ⟨au,av,c⟩:=zD c
  refine zG (zL (xP (a:=p) (b:=ak) rfl rfl) av)<| RN ar<| zB fun b2 aw=>zY (b:=au) rfl (fun D=>?_) (fun D=>?_)
  ·have c:=zO D c
   refine zX (zF (aw _ _ ?_))
   obtain ⟨E,c,ax⟩:=zC c
   refine yK [7,9,22,23,24,25,26,27,28,29,30,31,32,33,34,35] (fun (g:(List Nat))=>[(7,i6 E.1)]) (fun g wl=>Hd O w wl S [.tr fO [k] g E.2,.blk m [k,.bool l.any] 251,.own (Rp.int .i64) f 3 d.rules,.blk n [h,j,f] 222,f1 gY h d.told,f1 Rp.bool j d.possible]) ?_ ?_
   ·skip
    refine yD ?_
    refine zB fun b3 ay=>zA ?_
    obtain ⟨P,v,c⟩:=zC c
    obtain ⟨b4,b5,b6,F⟩:=jC (H.item (i:=0) rfl) v
    refine zG (xC vJ aAm F rfl (yC v).1 (yC v).2.1 rfl rfl) ?_
    obtain ⟨b7,t,Q,H⟩:=H.focusV 0 rfl F v rfl
    obtain ⟨o,rfl⟩:=mX rfl (H.item (i:=6) rfl)
    have H:Hd _ _ _ _ [.blk m [k,.bool l.any] 251,.own (Rp.int .i64) f 3 d.rules,.blk n [h,j,f] 222,f1 gY h d.told,f1 Rp.bool j d.possible,.tr (Rt.row fG 170 [(p.toNat,[o])]) [k] t s,.tr fG [o] Q P]:=H
    refine zG (xG kV rfl (Cells.get (H.holeW 5 rfl F v rfl dG) (i:=0) rfl))<| zI o<| RN ay<| zB fun b8 az=>zA<| zH o<| zH (gV n) ?_
    obtain ⟨a0,a1,R⟩:=Fam (H.item (i:=6) rfl)
    obtain ⟨q,a2,c⟩:=zC c
    refine zZ rfl rfl (nN R rfl rfl) (rhI P (gJ.mk d.told d.possible d.rules) o Q n h j f a0 a1 R _ a2 _ _ _ (H.enter [6,1,2] [3,4])) ?_
    rintro _ a3 ⟨x,rfl,a4⟩
    have H:Hd _ _ a3 _ [.blk m [k,.bool l.any] 251,f1 gY h d.told,f1 Rp.bool j d.possible,.tr (Rt.row fG 170 [(p.toNat,[o])]) [k] t s,.tr fG [o] x q.2,.own (Rp.int .i64) f 3 d.rules,.blk n [h,j,f] 222]:=H.back [6,1,2] [3,4] rfl a4
    refine ⟨_,rfl,?_⟩
    refine RN az<| yD<| zB fun b9 a5=>zA<| zH (i6 y) ?_
    obtain ⟨T,a6,c⟩:=zD c
    refine zG (zL (yR (a:=q.1) (b:=y) rfl rfl) a6)<| zI (.bool T)<| RN a5<| zY (b:=T) rfl (fun G=>?_) (fun G=>?_)
    ·have c:=zO G c
     refine zA ?_
     refine zH (i6 y)<| zI (i6 y) ?_
     have H:Hd _ _ _ _ [.blk m [k,.bool l.any] 251,f1 gY h d.told,f1 Rp.bool j d.possible,.tr (Rt.row fG 170 [(p.toNat,[o])]) [k] t s,.tr fG [o] x q.2,.own (Rp.int .i64) f 3 d.rules,.blk n [h,j,f] 222]:=H
     obtain ⟨a7,a8,c⟩:=zC c
     obtain ⟨U,H⟩:=H.unfocus 3 4 rfl rfl (by decide) rfl rfl a8
     have H:Hd _ _ _ _ [.blk m [k,.bool l.any] 251,f1 gY h d.told,f1 Rp.bool j d.possible,.own (Rp.int .i64) f 3 d.rules,.blk n [h,j,f] 222,.tr fO [k] U a7]:=H
     obtain rfl:=gI c
     exact (yA (yH (yH (zF (meet ⟨U,(zJ rfl zK),H.pick [5,0,3,4,1,2]⟩)))))
    have c:=zQ G c
    refine zB fun ca a9=>zA ?_
    obtain ⟨V,ba,c⟩:=zD c
    refine zG (zL (yR (a:=q.1) (b:=0) rfl rfl) ba)<| zI (.bool V)<| RN a9<| zY (b:=V) rfl (fun I=>?_) (fun I=>?_)
    ·have c:=zO I c
     refine zB fun cb bb=>zA<| zH (i6 N)<| zH (i6 u) ?_
     obtain ⟨bc,bd,c⟩:=zD c
     refine zG (zL (yR (a:=N) (b:=u) rfl rfl) bd)<| RN bb<| zY (b:=bc) rfl (fun J=>?_) (fun J=>?_)
     ·have c:=zO J c
      refine zA ?_
      refine zI (i6 0) ?_
      have H:Hd _ _ _ _ [.blk m [k,.bool l.any] 251,f1 gY h d.told,f1 Rp.bool j d.possible,.tr (Rt.row fG 170 [(p.toNat,[o])]) [k] t s,.tr fG [o] x q.2,.own (Rp.int .i64) f 3 d.rules,.blk n [h,j,f] 222]:=H
      obtain ⟨be,bf,c⟩:=zC c
      obtain ⟨X,H⟩:=H.unfocus 3 4 rfl rfl (by decide) rfl rfl bf
      have H:Hd _ _ _ _ [.blk m [k,.bool l.any] 251,f1 gY h d.told,f1 Rp.bool j d.possible,.own (Rp.int .i64) f 3 d.rules,.blk n [h,j,f] 222,.tr fO [k] X be]:=H
      obtain rfl:=gI c
      exact (yA (yH (yH (zF (meet ⟨X,(zJ rfl zK),H.pick [5,0,3,4,1,2]⟩)))))
     have c:=zQ J c
     have H:Hd _ _ _ _ [.blk m [k,.bool l.any] 251,f1 gY h d.told,f1 Rp.bool j d.possible,.tr (Rt.row fG 170 [(p.toNat,[o])]) [k] t s,.tr fG [o] x q.2,.own (Rp.int .i64) f 3 d.rules,.blk n [h,j,f] 222]:=H
     obtain ⟨bg,bh,c⟩:=zC c
     obtain ⟨Y,H⟩:=H.unfocus 3 4 rfl rfl (by decide) rfl rfl bh
     have H:Hd _ _ _ _ [.blk m [k,.bool l.any] 251,f1 gY h d.told,f1 Rp.bool j d.possible,.own (Rp.int .i64) f 3 d.rules,.blk n [h,j,f] 222,.tr fO [k] Y bg]:=H
     obtain rfl:=gI c
     exact (zX (yH (yH (zF (meet ⟨Y,(zJ rfl zK),H.pick [5,0,3,4,1,2]⟩)))))
    have c:=zQ I c
    have H:Hd _ _ _ _ [.blk m [k,.bool l.any] 251,f1 gY h d.told,f1 Rp.bool j d.possible,.tr (Rt.row fG 170 [(p.toNat,[o])]) [k] t s,.tr fG [o] x q.2,.own (Rp.int .i64) f 3 d.rules,.blk n [h,j,f] 222]:=H
    obtain ⟨bi,bj,c⟩:=zC c
    obtain ⟨Z,H⟩:=H.unfocus 3 4 rfl rfl (by decide) rfl rfl bj
    have H:Hd _ _ _ _ [.blk m [k,.bool l.any] 251,f1 gY h d.told,f1 Rp.bool j d.possible,.own (Rp.int .i64) f 3 d.rules,.blk n [h,j,f] 222,.tr fO [k] Z bi]:=H
    obtain rfl:=gI c
    exact (zX (yH (yH (zF (meet ⟨Z,(zJ rfl zK),H.pick [5,0,3,4,1,2]⟩)))))
   rintro bk ρ cc H
   have c:=ax
   obtain ⟨bl,bm⟩:=E
   refine zA ?_
   obtain ⟨aa,bn,c⟩:=zD c
   refine zG (xM (a:=p) (b:=1) rfl rfl bn)<| zH (i6 aa) ?_
   exact (yA (zF (meet ⟨(aq,bl,aa,bm,bk),(zJ rfl (zJ rfl zK)),⟨H.pick [0,1,2,3,4,5],c⟩,Nat.lt_succ_self _⟩)))
  have c:=zQ D c
  obtain rfl:=gI c
  exact (xI (yI (yI (yV (zF (meet ⟨ap,(zJ rfl zK),H.pick [0,1,2,3,4,5]⟩))))))
 rintro bo ρ cd H
 have c:=ai
 obtain ⟨K,ce⟩:=z
 refine zB fun cf bp=>zA<| zH (i6 K)<| zI (i6 K)<| RN bp ?_
 obtain rfl:=gI c
 refine (zW (fC (v1:=i6 K) rfl rfl ?_))
 exact ⟨k,bo,rfl,H.pick [0,1,2,3]⟩
end Go.Proofs.YtckmiljbaejijaaGreatDoor.L
