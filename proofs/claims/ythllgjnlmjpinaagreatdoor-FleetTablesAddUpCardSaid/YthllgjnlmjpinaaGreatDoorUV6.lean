/- Walks: what each function computes, for every argument; no condition but those that stand in the statements. -/
import Derived.Test.YthllgjnlmjpinaaGreatDoorUV0
import Derived.Test.YthllgjnlmjpinaaGreatDoorUV5
namespace Go.Proofs.YthllgjnlmjpinaaGreatDoor.L
open Go.RowKit Go.OB Go.Lf
set_option maxHeartbeats 4000000
theorem Fazw (h:kD)(k:gJ)(l:Nat)(o:Value)(q:Value)(m:Value)(r:Int)(c:Faz h k=some r)(O S:List Nat)(w:World)(H:Hd O w w S [.own (Rp.int .i64) m 3 k.rules,.blk l [o,q,m] 218,f1 fD o k.told,f1 Rp.bool q k.possible]):
  Cl 211 [.agg [i6 h.track,i6 h.op,i6 h.n].toArray,gX l] w fun e d=>e= .returned (i6 r)∧Hd O w d S [.own (Rp.int .i64) m 3 k.rules,.blk l [o,q,m] 218]:=by
 unfold Faz at c
 refine CW 27 Tryz.func211 ?_
 refine zB fun K9 z=>zA<| yP rfl rfl (xJ (cs:=[i6 h.track,i6 h.op,i6 h.n]) rfl H) ?_
 rintro _ ae ⟨af,rfl,H⟩
 refine zI (i6 0)<| RN z<| zB fun ag A=>?_
 have B:=H
 have H:=H.rebase
 have ah:=H
 refine wH H [0,1,2,3,4,5,6,7,8,9] (kz [0,0,0,1,0,1,0,1,2,3]) mixed ?_
 refine XM (gX l)<| XP (fun _ _=>yC rfl)<| XP (fun _ _=>aDm rfl)<| XR aEo H 1 0 rfl rfl<| XP (fun _ _=>fa241_0 rfl)<| XR fG H 4 0 rfl rfl ?_
 obtain ⟨j,s,c⟩:=zC c
 obtain ⟨C,D,ai,aj,E,F,G,I,J⟩:=wJ (H.item (i:=2) rfl) s
 obtain rfl:=mO F
 have H:=H.fz (.at C (D+h.track.toNat * 2) _) ⟨G,I,J⟩
 refine XP (fun _ _=>yS aBm nO E rfl (zU s).1 (zU s).2.1 rfl rfl)<| MxM.XL_read oS rfl rfl rfl (fun d f=>yH (yI (cs:=[i6 j.N,.bool j.Known]) aFm rfl nO rfl ((H.sees f).item (i:=5) rfl).2.2) rfl)<| MxM.XL_exN oS rfl rfl rfl (fun d f=>qA (xI aAs (H.sees f)) (Ys_alloc aAs)) ?_
 rintro d _ ak f ⟨al,rfl,H⟩
 refine MxM.XL_exU oS rfl rfl (fun d f=>yU (vs:=[i6 j.N,.bool j.Known]) (H.sees f) 6 rfl nO rfl rfl rfl ⟨rfl,rfl,trivial⟩ rfl) ?_
 rintro d am f H
 refine ⟨H.only,?_⟩
 refine MxM.xO fun an hS=>?_
 have H:=H.sees hS
 have H:=B.rejoin H
 refine (zF (A _ _ ?_))
 refine zB fun ao K=>?_
 refine zB fun ap L=>zA<| zG (aDj rfl)<| Ld jT H 6 1 rfl rfl ?_
 obtain ⟨M,P,c⟩:=zD c
 refine zG (zO (xX (p:=j.Known) rfl) P)<| RN L<| zW (b:=M) rfl (fun t=>?_) (fun t=>?_)
 ·have c:=zN t c
  refine zB fun aq Q=>zA<| zI (i6 0)<| RN Q ?_
  obtain rfl:=gG c
  refine (zX (zQ (gV (v1:=i6 0) rfl rfl ?_)))
  exact ⟨rfl,H.pick [0,1]⟩
 have c:=zM t c
 refine zZ (zF (K _ _ ?_))
 refine zB fun ar R=>?_
 have T:=H
 have H:=H.rebase
 have au:=H
 refine wH H [0,1,2,3,4,5,6,7,8,9,10] (kz [0,1,0,1,0,1,0,4,4,4,0]) mixed ?_
 refine XP (fun _ _=>fa241_1 rfl)<| XR fG H 4 1 rfl rfl<| XP (fun _ _=>rM rfl)<| XR fG H 6 0 rfl rfl<| XP (fun _ _=>fa241_2 rfl)<| XR fG H 4 2 rfl rfl ?_
 obtain ⟨U,V,c⟩:=zD c
 refine XP (fun _ _=>kX (a:=j.N) (b:=h.n) rfl rfl V) ?_
 have X:=H
 obtain ⟨x,Y,c⟩:=zC c
 refine MxM.XL_fcall oS rfl rfl rfl (v:=i6 x) (fun d f=>zY aLk rfl) (fun d f=>dV (Fakw U _ Y _ _ _ (Hd.fresh0 d))) ?_
 have H:=X
 have Z:=H
 obtain ⟨y,aa,c⟩:=zC c
 refine MxM.XL_fcall oS rfl rfl rfl (v:= .bool y) (fun d f=>zY en213 rfl) (fun d f=>dV (Fbdw h.op x _ aa _ _ _ (Hd.fresh0 d))) ?_
 have H:=Z
 have ab:=H
 obtain ⟨u,ac,c⟩:=zC c
 refine MxM.XL_fcall oS rfl rfl rfl (v:=i6 u) (fun d f=>zY en212 rfl) (fun d f=>dV (Fctw y _ ac _ _ _ (Hd.fresh0 d))) ?_
 have H:=ab
 refine XP (fun _ _=>xB (v:=i6 u) rfl)<| MxM.xO fun av hS=>?_
 have H:=H.sees hS
 have H:=T.rejoin H
 refine (zF (R _ _ ?_))
 obtain rfl:=gG c
 refine (zX (gV (v1:=i6 u) rfl rfl ?_))
 exact ⟨rfl,H.pick [0,1]⟩
theorem Fbmw (d:Int)(f:Int)(r:Int×Int)(c:Fbm d f=some r)(O S:List Nat)(w:World)(H:Hd O w w S []):
  Cl 80 [.int .u64 d,.int .u64 f] w fun e v=>e= .returned (.tuple #[.int .u64 r.1,.int .u64 r.2])∧Hd O w v S []:=by
 unfold Fbm at c
 refine CW 51 Tryz.func80 ?_
 refine zB fun K1 x=>zA<| zI (.int .u64 0)<| zI (.int .u64 0)<| RN x<| zB fun K2 y=>zA<| zH (.int .u64 d) ?_
 obtain ⟨h,z,c⟩:=zD c
 refine zG (aOf (a:=d) (b:=4294967295) rfl rfl z)<| zI (.int .u64 h)<| RN y<| zB fun K5 A=>zA<| zH (.int .u64 d) ?_
 obtain ⟨i,B,c⟩:=zC c
 refine zG (qW (j:=d) (q:=32) rfl rfl B)<| zI (.int .u64 i)<| RN A<| zB fun K8 C=>zA<| zH (.int .u64 f) ?_
 obtain ⟨k,D,c⟩:=zD c
 refine zG (aOf (a:=f) (b:=4294967295) rfl rfl D)<| zI (.int .u64 k)<| RN C<| zB fun ao E=>zA<| zH (.int .u64 f) ?_
 obtain ⟨l,F,c⟩:=zC c
 refine zG (qW (j:=f) (q:=32) rfl rfl F)<| zI (.int .u64 l)<| RN E<| zB fun ap G=>zA<| zH (.int .u64 h)<| zH (.int .u64 k) ?_
 obtain ⟨n,I,c⟩:=zD c
 refine zG (rH (a:=h) (b:=k) rfl rfl I)<| zI (.int .u64 n)<| RN G<| zB fun aq J=>zA<| zH (.int .u64 i)<| zH (.int .u64 k) ?_
 obtain ⟨K,L,c⟩:=zD c
 refine zG (rH (a:=i) (b:=k) rfl rfl L)<| zH (.int .u64 n) ?_
 obtain ⟨M,N,c⟩:=zC c
 refine zG (qW (j:=n) (q:=32) rfl rfl N) ?_
 obtain ⟨m,P,c⟩:=zD c
 refine zG (xC (a:=K) (b:=M) rfl rfl P)<| zI (.int .u64 m)<| RN J<| zB fun ar Q=>zA<| zH (.int .u64 m) ?_
 obtain ⟨o,R,c⟩:=zD c
 refine zG (aOf (a:=m) (b:=4294967295) rfl rfl R)<| zI (.int .u64 o)<| RN Q<| zB fun au T=>zA<| zH (.int .u64 m) ?_
 obtain ⟨p,U,c⟩:=zC c
 refine zG (qW (j:=m) (q:=32) rfl rfl U)<| zI (.int .u64 p)<| RN T<| zB fun av V=>zA<| zH (.int .u64 o)<| zH (.int .u64 h)<| zH (.int .u64 l) ?_
 obtain ⟨X,Y,c⟩:=zD c
 refine zG (rH (a:=h) (b:=l) rfl rfl Y) ?_
 obtain ⟨s,Z,c⟩:=zD c
 refine zG (xC (a:=o) (b:=X) rfl rfl Z)<| zI (.int .u64 s)<| RN V<| zB fun aw aa=>zA<| zH (.int .u64 i)<| zH (.int .u64 l) ?_
 obtain ⟨ab,ac,c⟩:=zD c
 refine zG (rH (a:=i) (b:=l) rfl rfl ac)<| zH (.int .u64 p) ?_
 obtain ⟨ad,ae,c⟩:=zD c
 refine zG (xC (a:=ab) (b:=p) rfl rfl ae)<| zH (.int .u64 s) ?_
 obtain ⟨af,ag,c⟩:=zC c
 refine zG (qW (j:=s) (q:=32) rfl rfl ag) ?_
 obtain ⟨t,ah,c⟩:=zD c
 refine zG (xC (a:=ad) (b:=af) rfl rfl ah)<| zI (.int .u64 t)<| RN aa<| zB fun ax ai=>zA<| zH (.int .u64 d)<| zH (.int .u64 f) ?_
 obtain ⟨u,aj,c⟩:=zD c
 refine zG (rH (a:=d) (b:=f) rfl rfl aj)<| zI (.int .u64 u)<| RN ai ?_
 obtain rfl:=gG c
 refine (zX (mW (v1:= .int .u64 t) (v2:= .int .u64 u) rfl rfl rfl ?_))
 exact ⟨rfl,H.pick []⟩
set_option maxRecDepth 100000 in
theorem Fc4w (i:Int)(o:Int)(l:Int)(p:Int)(r:Int)(c:Fc4 i o l p=some r)(O S:List Nat)(w:World)(H:Hd O w w S []):
  Cl 217 [i6 i,i6 o,i6 l,i6 p] w fun e F=>e= .returned (i6 r)∧Hd O w F S []:=by
 unfold Fc4 at c
 refine CW 75 Tryz.func217 ?_
 refine zB fun K1 G=>zA<| zI (i6 0)<| RN G<| zB fun bg I=>zB fun bh J=>zA<| zH (i6 i) ?_
 have K:=H
 obtain ⟨m,L,c⟩:=zC c
 refine yB rfl rfl (zY aLk rfl) (Fakw i _ L _ _ _ (H.enter [] [])) ?_
 rintro _ bi ⟨rfl,M⟩
 have H:=K.step (M.only:Only [] _ _)
 refine ⟨_,rfl,?_⟩
 refine zH (i6 l) ?_
 have N:=H
 obtain ⟨n,P,c⟩:=zC c
 refine yB rfl rfl (zY aLk rfl) (Fakw l _ P _ _ _ (H.enter [] [])) ?_
 rintro _ bj ⟨rfl,Q⟩
 have H:=N.step (Q.only:Only [] _ _)
 refine ⟨_,rfl,?_⟩
 refine zI (i6 m)<| zI (i6 n)<| RN J<| zB fun bk R=>zA<| zH (i6 m)<| zH (i6 n) ?_
 obtain ⟨T,U,c⟩:=zD c
 refine zG (zO (eX (a:=m) (b:=n) rfl rfl) U)<| RN R<| zW (b:=T) rfl (fun q=>?_) (fun q=>?_)
 ·have c:=zN q c
  refine zB fun bl V=>zA<| zH (i6 m)<| zH (i6 n) ?_
  obtain ⟨X,Y,c⟩:=zD c
  refine zG (kX (a:=m) (b:=n) rfl rfl Y) ?_
  have Z:=H
  obtain ⟨A,aa,c⟩:=zC c
  refine yB rfl rfl (zY aLk rfl) (Fakw X _ aa _ _ _ (H.enter [] [])) ?_
  rintro _ bm ⟨rfl,ab⟩
  have H:=Z.step (ab.only:Only [] _ _)
  refine ⟨_,rfl,?_⟩
  refine zI (i6 A)<| RN V ?_
  obtain rfl:=gG c
  refine (zX (zQ (gV (v1:=i6 A) rfl rfl ?_)))
  exact ⟨rfl,H.pick []⟩
 have c:=zM q c
 refine zZ (zF (I _ _ ?_))
 refine zB fun bn ac=>zA<| zH (i6 i) ?_
 have ad:=H
 obtain ⟨d,ae,c⟩:=zC c
 refine yB rfl rfl (zY aLk rfl) (Fakw i _ ae _ _ _ (H.enter [] [])) ?_
 rintro _ bo ⟨rfl,af⟩
 have H:=ad.step (af.only:Only [] _ _)
 refine ⟨_,rfl,?_⟩
 refine zI (i6 d)<| RN ac<| zB fun bp ag=>zA<| zH (i6 i)<| zH (i6 d) ?_
 obtain ⟨bq,ah,c⟩:=zD c
 refine zG (rH (a:=i) (b:=d) rfl rfl ah) ?_
 obtain ⟨ai,aj,c⟩:=zD c
 refine zG (mX u3 u147 rfl aj)<| zH (i6 p) ?_
 obtain ⟨ak,al,c⟩:=zD c
 refine zG (mX u3 u147 rfl al) ?_
 have am:=H
 obtain ⟨⟨f,j⟩,an,c⟩:=zC c
 refine yB rfl rfl (zY en80 rfl) (Fbmw ai ak _ an _ _ _ (H.enter [] [])) ?_
 rintro _ br ⟨rfl,ao⟩
 have H:=am.step (ao.only:Only [] _ _)
 refine ⟨_,rfl,?_⟩
 refine zH (.tuple #[.int .u64 f,.int .u64 j])<| zG (xU (v:= .int .u64 f) rfl rfl)<| zG (xU (v:= .int .u64 j) rfl rfl)<| zI (.int .u64 f)<| zI (.int .u64 j)<| RN ag<| zB fun bt ap=>zA<| zH (i6 l)<| zH (i6 d) ?_
 obtain ⟨bu,aq,c⟩:=zD c
 refine zG (rH (a:=l) (b:=d) rfl rfl aq) ?_
 obtain ⟨ar,au,c⟩:=zD c
 refine zG (mX u3 u147 rfl au)<| zH (i6 o) ?_
 obtain ⟨av,aw,c⟩:=zD c
 refine zG (mX u3 u147 rfl aw) ?_
 have ax:=H
 obtain ⟨⟨h,k⟩,ay,c⟩:=zC c
 refine yB rfl rfl (zY en80 rfl) (Fbmw ar av _ ay _ _ _ (H.enter [] [])) ?_
 rintro _ bv ⟨rfl,az⟩
 have H:=ax.step (az.only:Only [] _ _)
 refine ⟨_,rfl,?_⟩
 refine zH (.tuple #[.int .u64 h,.int .u64 k])<| zG (xU (v:= .int .u64 h) rfl rfl)<| zG (xU (v:= .int .u64 k) rfl rfl)<| zI (.int .u64 h)<| zI (.int .u64 k)<| RN ap<| zB fun bw a0=>yD ?_
 obtain ⟨B,c,a1⟩:=zC c
 refine yG [49,50,51,52,53,54,55,56,57,58,59,60,61,62] (fun (g:Unit)=>[(49,.bool B)]) (fun g wl=>Hd O w wl S []) ?_ ?_
 ·skip
  refine zA ?_
  refine zH (.int .u64 f)<| zH (.int .u64 h) ?_
  obtain ⟨a2,a3,c⟩:=zD c
  refine zG (zO (xH (a:=f) (b:=h) rfl rfl) a3)<| yO (b:=a2) rfl rfl rfl (fun s=>?_) (fun s=>?_)
  ·have c:=zN s c
   refine yE ?_
   refine yE ?_
   refine yE ?_
   refine yE ?_
   refine yE ?_
   refine yE ?_
   refine yE ?_
   refine yE ?_
   refine zG (yL (v:= .bool true) rfl rfl)<| zI (.bool true) ?_
   obtain rfl:=gG c
   exact (zT (zF (meet ⟨(),(zJ rfl zK),H.pick []⟩)))
  have c:=zM s c
  refine zH (.int .u64 f)<| zH (.int .u64 h) ?_
  obtain ⟨a4,a5,c⟩:=zD c
  refine zG (zO (yY (a:=f) (b:=h) rfl rfl) a5)<| yO (b:=a4) rfl rfl rfl (fun t=>?_) (fun t=>?_)
  ·have c:=zN t c
   refine zH (.int .u64 j)<| zH (.int .u64 k) ?_
   obtain ⟨u,a6,c⟩:=zD c
   refine zG (zO (xH (a:=j) (b:=k) rfl rfl) a6)<| zG (yL (v:= .bool u) rfl rfl)<| zG (yF (v:= .bool u) rfl rfl)<| zI (.bool u) ?_
   obtain rfl:=gG c
   exact (zT (zF (meet ⟨(),(zJ rfl zK),H.pick []⟩)))
  have c:=zM t c
  refine yE ?_
  refine yE ?_
  refine yE ?_
  refine zG (yF (v:= .bool false) rfl rfl)<| zG (yF (v:= .bool false) rfl rfl)<| zI (.bool false) ?_
  obtain rfl:=gG c
  exact (zT (zF (meet ⟨(),(zJ rfl zK),H.pick []⟩)))
 rintro _ ρ bx H
 have c:=a1
 refine zW (b:=B) rfl (fun x=>?_) (fun x=>?_)
 ·have c:=zN x c
  refine zB fun bz a7=>zA<| zH (i6 d) ?_
  obtain ⟨C,a8,c⟩:=zD c
  refine zG (Do_neg (a:=d) rfl a8)<| zI (i6 C)<| RN a7 ?_
  obtain rfl:=gG c
  refine (zX (yA (zQ (gV (v1:=i6 C) rfl rfl ?_))))
  exact ⟨rfl,H.pick []⟩
 have c:=zM x c
 obtain ⟨D,c,a9⟩:=zC c
 refine yG [65,66,67,68,69,70,71,72,73] (fun (g:Unit)=>[(65,.bool D)]) (fun g wl=>Hd O w wl S []) ?_ ?_
 ·skip
  refine zA ?_
  refine zH (.int .u64 f)<| zH (.int .u64 h) ?_
  obtain ⟨ba,bb,c⟩:=zD c
  refine zG (zO (yY (a:=f) (b:=h) rfl rfl) bb)<| yO (b:=ba) rfl rfl rfl (fun y=>?_) (fun y=>?_)
  ·have c:=zN y c
   refine zH (.int .u64 j)<| zH (.int .u64 k) ?_
   obtain ⟨E,bc,c⟩:=zD c
   refine zG (zO (yY (a:=j) (b:=k) rfl rfl) bc)<| zG (yL (v:= .bool E) rfl rfl)<| zI (.bool E) ?_
   obtain rfl:=gG c
   exact (zT (zF (meet ⟨(),(zJ rfl zK),H.pick []⟩)))
  have c:=zM y c
  refine yE ?_
  refine yE ?_
  refine yE ?_
  refine zG (yF (v:= .bool false) rfl rfl)<| zI (.bool false) ?_
  obtain rfl:=gG c
  exact (zT (zF (meet ⟨(),(zJ rfl zK),H.pick []⟩)))
 rintro _ ρ b0 H
 have c:=a9
 refine zW (b:=D) rfl (fun z=>?_) (fun z=>?_)
 ·have c:=zN z c
  refine zB fun b1 bd=>zA<| zI (i6 0)<| RN bd ?_
  obtain rfl:=gG c
  refine (zX (yA (zQ (gV (v1:=i6 0) rfl rfl ?_))))
  exact ⟨rfl,H.pick []⟩
 have c:=zM z c
 refine (zZ (yJ (zF (a0 _ _ ?_))))
 refine zB fun b2 be=>zA<| zH (i6 d)<| zI (i6 d)<| RN be ?_
 obtain rfl:=gG c
 refine (zX (gV (v1:=i6 d) rfl rfl ?_))
 exact ⟨rfl,H.pick []⟩
theorem Fauw (c:jM)(j:gJ)(n:Nat)(l:Value)(m:Value)(k:Value)(r:Int)(d:Fau c j=some r)(O S:List Nat)(w:World)(H:Hd O w w S [.own (Rp.int .i64) k 3 j.rules,.blk n [l,m,k] 218,f1 fD l j.told,f1 Rp.bool m j.possible]):
  Cl 216 [.agg [i6 c.a,i6 c.b,i6 c.denA,i6 c.denB,i6 c.op].toArray,gX n] w fun e f=>e= .returned (i6 r)∧Hd O w f S [.own (Rp.int .i64) k 3 j.rules,.blk n [l,m,k] 218]:=by
 unfold Fau at d
 refine CW 44 Tryz.func216 ?_
 refine zB fun K9 I=>zA<| yP rfl rfl (xJ (cs:=[i6 c.a,i6 c.b,i6 c.denA,i6 c.denB,i6 c.op]) rfl H) ?_
 rintro _ s ⟨u,rfl,H⟩
 refine zI (i6 0)<| RN I<| zB fun ay J=>?_
 have K:=H
 have H:=H.rebase
 have L:=H
 have t:Hd (O++bks (rest [0] [.own (Rp.int .i64) k 3 j.rules,.blk n [l,m,k] 218,f1 fD l j.told,f1 Rp.bool m j.possible,.blk u [i6 c.a,i6 c.b,i6 c.denA,i6 c.denB,i6 c.op] 243])) s s (bks (Go.Lf.pick ([0]++ [2,3]) [.own (Rp.int .i64) k 3 j.rules,.blk n [l,m,k] 218,f1 fD l j.told,f1 Rp.bool m j.possible,.blk u [i6 c.a,i6 c.b,i6 c.denA,i6 c.denB,i6 c.op] 243])) [.own (Rp.int .i64) k 3 j.rules,f1 fD l j.told,f1 Rp.bool m j.possible]:=H.enter [0] [2,3]
 have C:=H.firmB t (i:=1) rfl (List.mem_append_right _ List.mem_cons_self)
 have D:=H.firmB t (i:=4) rfl (List.mem_append_right _ (List.mem_cons_of_mem _ List.mem_cons_self))
 have H:=t
 have az:=H.firm (i:=1) rfl
 refine WP_mixM H [0,1,2,3,4,5,6,7,8,9,10,11,12,13,14,15,16,17,18,19] [.pure,.pure,.pure,.pure,.pure,.pure,.pure,.read,.pure,.pure,.pure,.pure,.pure,.pure,.pure,.pure,.mk (World.heap s).size,.mk (World.heap s).size,.eff,.eff] ⟨trivial,trivial,trivial,trivial,trivial,trivial,trivial,trivial,trivial,trivial,trivial,trivial,trivial,trivial,trivial,trivial,rfl,rfl,trivial,trivial,trivial⟩ mixed (by kernel_rfl) (by kernel_rfl) (by kernel_rfl) (by decide) ?_
 have H:=H.hm
 refine XM (gX n)<| XP (fun _ _=>yC rfl)<| XP (fun _ _=>aDm rfl)<| XP (fun f h=>xG aEo rfl (Cells.get (Blk.cells (C f h)) (i:=0) rfl))<| XP (fun _ _=>fa243_0 rfl)<| XP (fun f h=>xG fG rfl (Cells.get (Blk.cells (D f h)) (i:=0) rfl)) ?_
 obtain ⟨o,x,d⟩:=zC d
 obtain ⟨M,o23,a0,a1,P,Q,R,T,U⟩:=wJ (H.item (i:=1) rfl) x
 obtain rfl:=mO Q
 have H:=H.fz (.at M (o23+c.a.toNat * 2) _) ⟨R,T,U⟩
 refine XP (fun _ _=>yS aBm nO P rfl (zU x).1 (zU x).2.1 rfl rfl)<| MxM.XL_read oS rfl rfl rfl (fun f h=>yH (yI (cs:=[i6 o.N,.bool o.Known]) aFm rfl nO rfl ((H.sees h).item (i:=3) rfl).2.2) rfl)<| XM (gX n)<| XP (fun _ _=>yC rfl)<| XP (fun _ _=>aDm rfl)<| XP (fun f h=>xG aEo rfl (Cells.get (Blk.cells (C f h)) (i:=0) rfl)) ?_
 refine XP (fun _ _=>fa243_1 rfl)<| XP (fun f h=>xG fG rfl (Cells.get (Blk.cells (D f h)) (i:=1) rfl)) ?_
 obtain ⟨q,y,d⟩:=zC d
 obtain ⟨V,X,a2,a3,Y,Z,aa,ab,ac⟩:=wJ (H.item (i:=1) rfl) y
 obtain rfl:=mO Z
 have H:=H.fz (.at V (X+c.b.toNat * 2) _) ⟨aa,ab,ac⟩
 refine XP (fun _ _=>yS aBm nO Y rfl (zU y).1 (zU y).2.1 rfl rfl) ?_
 have ad:=t.firmC (H.item (i:=4) rfl).1.1 (H.item (i:=4) rfl).2.1 (H.item (i:=4) rfl).2.2
 refine XP (fun f h=>yH (yI (cs:=[i6 q.N,.bool q.Known]) aFm rfl nO rfl (ad f h)) rfl)<| H.alloc_rule rfl rfl rfl rfl aAs ?_
 rintro ae a4 H
 refine H.alloc_rule rfl rfl rfl rfl aAs ?_
 rintro af a5 H
 have H:=H.hd
 refine MxM.XL_exU oS rfl rfl (fun f h=>yU (vs:=[i6 o.N,.bool o.Known]) (H.sees h) 5 rfl nO rfl rfl rfl ⟨rfl,rfl,trivial⟩ rfl) ?_
 rintro f a6 h H
 refine ⟨H.only,?_⟩
 refine MxM.XL_exU oS rfl rfl (fun f h=>yU (vs:=[i6 q.N,.bool q.Known]) (H.sees h) 6 rfl nO rfl rfl rfl ⟨rfl,rfl,trivial⟩ rfl) ?_
 rintro f a7 h H
 refine ⟨H.only,?_⟩
 refine MxM.xO fun a8 hS=>?_
 have H:=H.sees hS
 have H:=L.back [0] [2,3] rfl H
 have H:Hd _ _ _ _ [_,_,_,_,_,_,_,_,_,_,_]:=H
 have H:Hd _ _ _ _ [_,_,_,_,_,_,_,_,_]:=H.pick [0,3,4,5,6,7,8,9,10]
 have H:=K.rejoin H
 refine (zF (J _ _ ?_))
 refine zB fun a9 ag=>?_
 obtain ⟨E,d,ah⟩:=zC d
 refine yG [23,24,25,26,27,28,29,30] (fun (g:Unit)=>[(30,.bool E)]) (fun g wl=>Hd O w wl S [.blk n [l,m,k] 218,f1 fD l j.told,f1 Rp.bool m j.possible,.own (Rp.int .i64) k 3 j.rules,.blk u [i6 c.a,i6 c.b,i6 c.denA,i6 c.denB,i6 c.op] 243,.blk ae [i6 o.N,.bool o.Known] 224,.blk af [i6 q.N,.bool q.Known] 224]) ?_ ?_
 ·skip
  refine zA ?_
  refine zG (aDj rfl)<| Ld jT H 7 1 rfl rfl ?_
  obtain ⟨ai,aj,d⟩:=zD d
  refine zG (zO (xX (p:=o.Known) rfl) aj)<| yO (b:=ai) rfl rfl rfl (fun z=>?_) (fun z=>?_)
  ·have d:=zN z d
   refine yE ?_
   refine yE ?_
   refine yE ?_
   refine zG (yL (v:= .bool true) rfl rfl) ?_
   obtain rfl:=gG d
   exact (zT (zF (meet ⟨(),(zJ rfl zK),H.pick [0,3,4,2,1,7,8]⟩)))
  have d:=zM z d
  refine zG (aDj rfl)<| Ld jT H 8 1 rfl rfl ?_
  obtain ⟨ak,al,d⟩:=zD d
  refine zG (zO (xX (p:=q.Known) rfl) al)<| zG (yF (v:= .bool ak) rfl rfl) ?_
  obtain rfl:=gG d
  exact (zT (zF (meet ⟨(),(zJ rfl zK),H.pick [0,3,4,2,1,7,8]⟩)))
 rintro _ ρ ba H
 have d:=ah
 refine zW (b:=E) rfl (fun A=>?_) (fun A=>?_)
 ·have d:=zN A d
  refine zB fun bb am=>zA<| zI (i6 0)<| RN am ?_
  obtain rfl:=gG d
  refine (zX (zQ (gV (v1:=i6 0) rfl rfl ?_)))
  exact ⟨rfl,H.pick [3,0]⟩
 have d:=zM A d
 refine zZ (zF (ag _ _ ?_))
 refine zB fun bc an=>?_
 have ao:=H
 have H:=H.rebase
 have bd:=H
 refine wH H [0,1,2,3,4,5,6,7,8,9,10,11,12,13] (kz [0,1,0,1,0,1,0,1,0,1,4,4,4,0]) mixed ?_
 refine XP (fun _ _=>fa243_4 rfl)<| XR fG H 4 4 rfl rfl<| XP (fun _ _=>rM rfl)<| XR fG H 5 0 rfl rfl<| XP (fun _ _=>fa243_2 rfl)<| XR fG H 4 2 rfl rfl<| XP (fun _ _=>rM rfl)<| XR fG H 6 0 rfl rfl<| XP (fun _ _=>fa243_3 rfl)<| XR fG H 4 3 rfl rfl ?_
 have ap:=H
 obtain ⟨F,aq,d⟩:=zC d
 refine MxM.XL_fcall oS rfl rfl rfl (v:=i6 F) (fun f h=>zY en217 rfl) (fun f h=>dV (Fc4w o.N c.denA q.N c.denB _ aq _ _ _ (Hd.fresh0 f))) ?_
 have H:=ap
 have ar:=H
 obtain ⟨G,au,d⟩:=zC d
 refine MxM.XL_fcall oS rfl rfl rfl (v:= .bool G) (fun f h=>zY en213 rfl) (fun f h=>dV (Fbdw c.op F _ au _ _ _ (Hd.fresh0 f))) ?_
 have H:=ar
 have av:=H
 obtain ⟨B,aw,d⟩:=zC d
 refine MxM.XL_fcall oS rfl rfl rfl (v:=i6 B) (fun f h=>zY en212 rfl) (fun f h=>dV (Fctw G _ aw _ _ _ (Hd.fresh0 f))) ?_
 have H:=av
 refine XP (fun _ _=>xB (v:=i6 B) rfl)<| MxM.xO fun be hS=>?_
 have H:=H.sees hS
 have H:=ao.rejoin H
 refine (zF (an _ _ ?_))
 obtain rfl:=gG d
 refine (zX (gV (v1:=i6 B) rfl rfl ?_))
 exact ⟨rfl,H.pick [3,0]⟩
set_option maxRecDepth 100000 in
theorem Fayw (d:dF)(f:gJ)(k:Nat)(A:Value)(ag:List Nat)(t:Nat)(m:Value)(o:Value)(l:Value)(r:Int×dF)(c:Fay d f=some r)(O S:List Nat)(w:World)(H:Hd O w w S [.tr (Rt.row (Rt.of fD) 224 []) [A] ag d.last,.blk k [i6 d.track,i6 d.n,i6 d.frames,A] 246,.own (Rp.int .i64) l 3 f.rules,.blk t [m,o,l] 218,f1 fD m f.told,f1 Rp.bool o f.possible]):
  Cl 219 [gX k,gX t] w fun e B=> ∃U ah,e= .returned (i6 r.1)∧Hd O w B S [.tr (Rt.row (Rt.of fD) 224 []) [U] ah r.2.last,.blk k [i6 r.2.track,i6 r.2.n,i6 r.2.frames,U] 246,.own (Rp.int .i64) l 3 f.rules,.blk t [m,o,l] 218]:=by
 unfold Fay at c
 refine CW 83 Tryz.func219 ?_
 refine zB fun cr ai=>zA<| zI (i6 0)<| RN ai<| zB fun ct aj=>?_
 have ak:=H
 have H:=H.rebase
 have cu:=H
 refine wH H [0,1,2,3,4,5,6,7,8,9,10,11,12,13,14,15,16] (kz [0,0,0,1,0,0,0,1,0,0,0,1,0,1,2,3,0]) mixed ?_
 refine XM (gX k)<| XP (fun _ _=>yC rfl)<| XP (fun _ _=>aQk rfl)<| XR aEo H 1 3 rfl rfl<| XM (gX t)<| XP (fun _ _=>yC rfl)<| XP (fun _ _=>aDm rfl)<| XR aEo H 3 0 rfl rfl<| XM (gX k)<| XP (fun _ _=>yC rfl)<| XP (fun _ _=>fa246_0 rfl)<| XR fG H 1 0 rfl rfl ?_
 obtain ⟨h,I,c⟩:=zC c
 obtain ⟨al,o23,cv,cw,am,an,ao,ap,aq⟩:=wJ (H.item (i:=4) rfl) I
 obtain rfl:=mO an
 have H:=H.fz (.at al (o23+d.track.toNat * 2) _) ⟨ao,ap,aq⟩
 refine XP (fun _ _=>yS aBm nO am rfl (zU I).1 (zU I).2.1 rfl rfl)<| MxM.XL_read oS rfl rfl rfl (fun B u=>yH (yI (cs:=[i6 h.N,.bool h.Known]) aFm rfl nO rfl ((H.sees u).item (i:=6) rfl).2.2) rfl) ?_
 obtain ⟨cx,ar,c⟩:=zD c
 subst ar
 refine MxM.XL_exN oS rfl rfl rfl (fun B u=>qA (jK (r:=fD) (xl:=[h]) (cs:=[i6 h.N,.bool h.Known]) aBm aMs (by decide) (by decide) rfl (xP (vs:=[.agg [i6 h.N,.bool h.Known].toArray]) (by decide) rfl rfl ⟨rfl,trivial⟩ rfl) (H.sees u) ⟨[i6 h.N,.bool h.Known],[],rfl,(aHo (x:=h)),rfl⟩) (aQn (cs:=[i6 h.N,.bool h.Known]) aBm aMs (by decide) (by decide) (xP (vs:=[.agg [i6 h.N,.bool h.Known].toArray]) (by decide) rfl rfl ⟨rfl,trivial⟩ rfl))) ?_
 rintro B cy cz u H
 obtain ⟨D,au,c⟩:=zC c
 refine MxM.XL_ex oS rfl rfl rfl (fun B u=>aQf (H.sees u) 0 rfl aBm aMs rfl rfl (Sr.of_own ((H.sees u).item (i:=7) rfl)) au) ?_
 rintro B y c0 u ⟨av,H⟩
 refine ⟨H.only,?_⟩
 have H:Hd _ _ _ _ [_,_,_,_,_,_,_,_]:=H
 refine XP (fun _ _=>xB (v:=y) rfl)<| MxM.xO fun c1 hS=>?_
 have H:=H.sees hS
 have H:=ak.rejoin H
 refine (zF (aj _ _ ?_))
 refine zB fun c2 aw=>zA<| zI (i6 0)<| zI (i6 0)<| zI (i6 0)<| RN aw ?_
 obtain ⟨C,c,ax⟩:=zC c
 refine yG [6,7,8,10,27,28,29,30,31,32,33,34,35,36,37,38,39,40,41,42,43,44,45,46,47,48,49,50,51,52] (fun (g:(List Nat))=>[(6,i6 C.1),(7,i6 C.2.1),(8,i6 C.2.2)]) (fun g wl=>Hd O w wl S [.blk k [i6 d.track,i6 d.n,i6 d.frames,A] 246,.tr (Rt.row (Rt.of fD) 224 []) [y] g D,.own (Rp.int .i64) l 3 f.rules,.blk t [m,o,l] 218,f1 fD m f.told,f1 Rp.bool o f.possible]) ?_ ?_
 ·skip
  refine zB fun c3 ay=>zA<| zH y ?_
  obtain ⟨az,a0,c⟩:=zD c
  obtain ⟨c4,c5,a1⟩:=kP ((H.item (i:=7) rfl))
  refine zG (yH (yZ aBm a1) (congrArg (Value.int .i64) a0))<| zH (i6 0)<| RN ay<| yD ?_
  unfold Fda at c
  obtain ⟨a2,V,a3,c⟩:=yQ c
  refine xA [6,7,8,10,29,30,31,32,33,34,35,36,37,38,39,40,41,42,43,44,45,46,47,48,49,50,51,52] (fun (g:Nat×Int×Int×Int×Int×(List Nat))=>[(6,i6 g.2.1),(7,i6 g.2.2.1),(8,i6 g.2.2.2.1),(29,i6 g.2.2.2.2.1)]) (fun g wl=>Hd O w wl S [.blk k [i6 d.track,i6 d.n,i6 d.frames,A] 246,.tr (Rt.row (Rt.of fD) 224 []) [y] g.2.2.2.2.2 D,.own (Rp.int .i64) l 3 f.rules,.blk t [m,o,l] 218,f1 fD m f.told,f1 Rp.bool o f.possible]∧fV a2 g.1 (g.2.1,g.2.2.1,g.2.2.2.1,g.2.2.2.2.1)=some C) (fun g=>g.1) (V,0,0,0,0,av) (zJ rfl (zJ rfl (zJ rfl (zJ rfl zK)))) ⟨H.pick [0,7,1,2,3,4],c⟩ ?_
  clear H c
  rintro ⟨V,E,c6,c7,X,a4⟩ ρ c8 ⟨H,c⟩
  obtain ⟨a5,rfl,c⟩:=yT c
  have c:=yV a3 c
  refine zB fun c9 a6=>zA ?_
  obtain ⟨a7,a8,c⟩:=zD c
  refine zG (zO (xH (a:=X) (b:=az) rfl rfl) a8)<| RN a6<| zB fun da a9=>zW (b:=a7) rfl (fun J=>?_) (fun J=>?_)
  ·have c:=zN J c
   refine zZ (zF (a9 _ _ ?_))
   obtain ⟨F,c,ba⟩:=zC c
   refine yG [6,7,8,10,31,32,33,34,35,36,37,38,39,40,41,42,43,44,45,46,47,48,49,50,51] (fun (g:(List Nat))=>[(6,i6 F.1),(7,i6 F.2.1),(8,i6 F.2.2)]) (fun g wl=>Hd O w wl S [.blk k [i6 d.track,i6 d.n,i6 d.frames,A] 246,.tr (Rt.row (Rt.of fD) 224 []) [y] g D,.own (Rp.int .i64) l 3 f.rules,.blk t [m,o,l] 218,f1 fD m f.told,f1 Rp.bool o f.possible]) ?_ ?_
   ·skip
    refine yD ?_
    refine zB fun db bb=>zA ?_
    obtain ⟨s,z,c⟩:=zC c
    obtain ⟨dc,dd,de,K⟩:=aC (H.item (i:=1) rfl) z
    refine zG (yS aBm nO K rfl (zU z).1 (zU z).2.1 rfl rfl) ?_
    obtain ⟨df,dg,dh,H⟩:=H.focusV 1 rfl K z rfl
    obtain ⟨bc,bd⟩:=trF (H.item (i:=6) rfl)
    subst bc
    obtain rfl:=mO bd
    have H:Hd _ _ _ _ [_,_,_,_,_,_,_]:=H
    refine zG (yH (yI (cs:=[i6 s.N,.bool s.Known]) aFm rfl nO rfl (H.holeW 5 rfl K z rfl wG)) rfl)<| yP rfl rfl (xI aAs H) ?_
    rintro _ di ⟨be,rfl,H⟩
    refine yX rfl (yU (vs:=[i6 s.N,.bool s.Known]) H 7 rfl nO rfl rfl rfl ⟨rfl,rfl,trivial⟩ rfl) ?_
    rintro dj H
    refine RN bb<| zB fun dk bf=>zB fun dl bg=>zA<| zG (aDj rfl)<| Ld jT H 7 1 rfl rfl ?_
    obtain ⟨bh,bi,c⟩:=zD c
    refine zG (zO (xX (p:=s.Known) rfl) bi)<| RN bg<| zW (b:=bh) rfl (fun L=>?_) (fun L=>?_)
    ·have c:=zN L c
     have H:Hd _ _ _ _ [_,_,_,_,_,_,_,_]:=H
     obtain ⟨bj,H⟩:=H.unfocus0 5 6 rfl rfl (by decide) rfl rfl z
     have H:Hd _ _ _ _ [_,_,_,_,_,_,_]:=H
     obtain rfl:=gG c
     exact (xE (yK (yR (zF (meet ⟨bj,(zJ rfl (zJ rfl (zJ rfl zK))),H.pick [0,6,1,2,3,4]⟩)))))
    have c:=zM L c
    refine zZ (zF (bf _ _ ?_))
    obtain ⟨M,c,bk⟩:=zC c
    refine yG [7,8,36,37,38,39,40,41] (fun (g:(List Nat))=>[(7,i6 M.1),(8,i6 M.2)]) (fun g wl=>Hd O w wl S [.blk k [i6 d.track,i6 d.n,i6 d.frames,A] 246,.tr (Rt.row (Rt.of fD) 224 []) [y] g D,.own (Rp.int .i64) l 3 f.rules,.blk t [m,o,l] 218,f1 fD m f.told,f1 Rp.bool o f.possible,.blk be [i6 s.N,.bool s.Known] 224]) ?_ ?_
    ·skip
     refine zB fun dm bl=>zA<| zH (i6 E) ?_
     obtain ⟨bm,bn,c⟩:=zD c
     refine zG (zO (yY (a:=E) (b:=0) rfl rfl) bn)<| RN bl<| zW (b:=bm) rfl (fun P=>?_) (fun P=>?_)
     ·have c:=zN P c
      have bo:=H
      have H:=H.rebase
      have dn:=H
      refine wH H [0,1,2,3,4,5] (kz [0,1,0,1,0,0]) mixed ?_
      refine XP (fun _ _=>rM rfl)<| XR fG H 7 0 rfl rfl<| XP (fun _ _=>rM rfl)<| XR fG H 7 0 rfl rfl<| XP (fun _ _=>xB (v:=i6 s.N) rfl)<| XP (fun _ _=>xB (v:=i6 s.N) rfl)<| MxM.xO fun dp hS=>?_
      have H:=H.sees hS
      have H:=bo.rejoin H
      have H:Hd _ _ _ _ [_,_,_,_,_,_,_,_]:=H
      obtain ⟨bp,H⟩:=H.unfocus0 5 6 rfl rfl (by decide) rfl rfl z
      have H:Hd _ _ _ _ [_,_,_,_,_,_,_]:=H
      obtain rfl:=gG c
      exact (zF (meet ⟨bp,(zJ rfl (zJ rfl zK)),H.pick [0,6,1,2,3,4,5]⟩))
     have c:=zM P c
     have H:Hd _ _ _ _ [_,_,_,_,_,_,_,_]:=H
     obtain ⟨bq,H⟩:=H.unfocus0 5 6 rfl rfl (by decide) rfl rfl z
     have H:Hd _ _ _ _ [_,_,_,_,_,_,_]:=H
     obtain rfl:=gG c
     exact (zZ (zF (meet ⟨bq,(zJ rfl (zJ rfl zK)),H.pick [0,6,1,2,3,4,5]⟩)))
    rintro br ρ dq H
    have c:=bk
    obtain ⟨Y,Z⟩:=M
    have bt:=H
    have H:=H.rebase
    have dr:=H
    refine wH H [0,1,2,3,4,5,6,7,8,9,10,11,12] (kz [0,0,0,0,1,0,0,0,1,0,0,0,0]) mixed ?_
    refine XM (i6 E) ?_
    obtain ⟨bu,bv,c⟩:=zD c
    refine XP (fun _ _=>xC (a:=E) (b:=1) rfl rfl bv)<| XM (i6 Y)<| XP (fun _ _=>rM rfl)<| XR fG H 6 0 rfl rfl ?_
    obtain ⟨bw,bx,c⟩:=zD c
    refine XP (fun _ _=>Do_min (j:=Y) (q:=s.N) rfl rfl bx)<| XM (i6 Z)<| XP (fun _ _=>rM rfl)<| XR fG H 6 0 rfl rfl ?_
    obtain ⟨bz,b0,c⟩:=zD c
    refine XP (fun _ _=>aOj (j:=Z) (q:=s.N) rfl rfl b0)<| XP (fun _ _=>xB (v:=i6 bu) rfl)<| XP (fun _ _=>xB (v:=i6 bw) rfl)<| XP (fun _ _=>xB (v:=i6 bz) rfl)<| MxM.xO fun ds hS=>?_
    have H:=H.sees hS
    have H:=bt.rejoin H
    obtain rfl:=gG c
    exact (yJ (zF (meet ⟨br,(zJ rfl (zJ rfl (zJ rfl zK))),H.pick [0,1,2,3,4,5]⟩)))
   rintro b1 ρ dt H
   have c:=ba
   obtain ⟨b2,b3,b4⟩:=F
   refine zA ?_
   obtain ⟨aa,b5,c⟩:=zD c
   refine zG (xC (a:=X) (b:=1) rfl rfl b5)<| zH (i6 aa) ?_
   exact (zT (zF (meet ⟨(a5,b2,b3,b4,aa,b1),(zJ rfl (zJ rfl (zJ rfl (zJ rfl zK)))),⟨H.pick [0,1,2,3,4,5],c⟩,Nat.lt_succ_self _⟩)))
  have c:=zM J c
  obtain rfl:=gG c
  exact (xE (yK (yK (yR (zF (meet ⟨a4,(zJ rfl (zJ rfl (zJ rfl zK))),H.pick [0,1,2,3,4,5]⟩))))))
 rintro Q ρ du H
 have c:=ax
 obtain ⟨ab,ac,ad⟩:=C
 refine zB fun dv b6=>zA<| zH (gX k)<| zH y<| zH y ?_
 obtain ⟨b7,b8,c⟩:=zD c
 obtain ⟨dw,dx,b9⟩:=kP ((H.item (i:=1) rfl))
 refine zG (yH (yZ aBm b9) (congrArg (Value.int .i64) b8))<| zH (gX k)<| zG (yC rfl)<| zG (aQr rfl)<| Ld fG H 0 2 rfl rfl ?_
 obtain ⟨ca,cb,c⟩:=zD c
 refine zG (kX (a:=b7) (b:=d.frames) rfl rfl cb) ?_
 obtain ⟨cc,cd,c⟩:=zD c
 refine zG (xC (a:=ca) (b:=1) rfl rfl cd) ?_
 obtain ⟨dy,ce,c⟩:=zD c
 refine zG (aOj (j:=0) (q:=cc) rfl rfl ce) ?_
 obtain ⟨dz,cf,c⟩:=zC c
 refine sZ rfl rfl (aEi H 1 rfl aBm nO rfl rfl cf) ?_
 rintro G H
 refine zG (yC rfl)<| zG (aQk rfl)<| yX rfl (xR H 0 rfl sz160 rfl (v:=G) rfl (pR (H.item (i:=1) rfl)) rfl) ?_
 rintro d0 H
 refine RN b6<| zB fun d1 cg=>yD<| zB fun d2 ch=>zA<| zH (i6 ad)<| zH (i6 ac) ?_
 obtain ⟨ci,cj,c⟩:=zD c
 refine zG (kX (a:=ad) (b:=ac) rfl rfl cj)<| zH (gX k)<| zG (yC rfl)<| zG (fa246_1 rfl)<| Ld fG H 0 1 rfl rfl ?_
 obtain ⟨ae,ck,c⟩:=zD c
 refine zG (zO (cZ (a:=ci) (b:=d.n) rfl rfl) ck)<| zI (.bool ae)<| RN ch<| zW (b:=ae) rfl (fun R=>?_) (fun R=>?_)
 ·have c:=zN R c
  refine zB fun d3 cl=>zA<| zI (i6 1)<| RN cl ?_
  obtain rfl:=gG c
  refine (zX (yA (zQ (gV (v1:=i6 1) rfl rfl ?_))))
  exact ⟨G,Q,rfl,H.pick [1,0,2,3]⟩
 have c:=zM R c
 refine zB fun d4 cm=>zA<| zH (i6 ab)<| zH (gX k)<| zG (yC rfl)<| zG (aQr rfl)<| Ld fG H 0 2 rfl rfl ?_
 obtain ⟨af,cn,c⟩:=zD c
 refine zG (zO (yY (a:=ab) (b:=d.frames) rfl rfl) cn)<| zI (.bool af)<| RN cm<| zW (b:=af) rfl (fun T=>?_) (fun T=>?_)
 ·have c:=zN T c
  refine zB fun d5 cp=>zA<| zI (i6 2)<| RN cp ?_
  obtain rfl:=gG c
  refine (zX (yA (zQ (gV (v1:=i6 2) rfl rfl ?_))))
  exact ⟨G,Q,rfl,H.pick [1,0,2,3]⟩
 have c:=zM T c
 refine (zZ (yJ (zF (cg _ _ ?_))))
 refine zB fun d6 cq=>zA<| zI (i6 0)<| RN cq ?_
 obtain rfl:=gG c
 refine (zX (gV (v1:=i6 0) rfl rfl ?_))
 exact ⟨G,Q,rfl,H.pick [1,0,2,3]⟩
theorem Favw (l:kT)(d:gJ)(k:Nat)(h:Value)(j:Value)(f:Value)(r:Int)(c:Fav l d=some r)(O S:List Nat)(w:World)(H:Hd O w w S [.own (Rp.int .i64) f 3 d.rules,.blk k [h,j,f] 218,f1 fD h d.told,f1 Rp.bool j d.possible]):
  Cl 221 [.agg [i6 l.phase].toArray,gX k] w fun e A=>e= .returned (i6 r)∧Hd O w A S [.own (Rp.int .i64) f 3 d.rules,.blk k [h,j,f] 218]:=by
 unfold Fav at c
 refine CW 34 Tryz.func221 ?_
 refine zB fun K9 J=>zA<| yP rfl rfl (xJ (cs:=[i6 l.phase]) rfl H) ?_
 rintro _ a9 ⟨o,rfl,H⟩
 refine zI (i6 0)<| RN J<| zB fun ba K=>zA<| zI (i6 0)<| RN K ?_
 obtain ⟨m,c,L⟩:=zC c
 refine yG [5,7,8,9,10,11,12,13,14,15,16,17,18,19,20] (fun (g:Unit)=>[(5,i6 m)]) (fun g wl=>Hd O w wl S [.own (Rp.int .i64) f 3 d.rules,.blk k [h,j,f] 218,f1 fD h d.told,f1 Rp.bool j d.possible,.blk o [i6 l.phase] 248]) ?_ ?_
 ·skip
  refine zB fun bb M=>zA<| zH (gX k)<| zG (yC rfl)<| zG (aIg rfl)<| Ld sW H 1 1 rfl rfl ?_
  obtain ⟨N,P,c⟩:=zD c
  obtain ⟨bc,bd,Q⟩:=SlF.len ((H.item (i:=3) rfl))
  refine zG (yH (yZ qK Q) (congrArg (Value.int .i64) P))<| zH (i6 0)<| RN M<| yD ?_
  unfold Fci at c
  obtain ⟨R,B,T,c⟩:=yQ c
  refine xA [5,7,13,14,15,16,17,18,19,20] (fun (g:Nat×Int×Int)=>[(5,i6 g.2.1),(13,i6 g.2.2)]) (fun g wl=>Hd O w wl S [.own (Rp.int .i64) f 3 d.rules,.blk k [h,j,f] 218,f1 fD h d.told,f1 Rp.bool j d.possible,.blk o [i6 l.phase] 248]∧fV R g.1 (g.2.1,g.2.2)=some m) (fun g=>g.1) (B,0,0) (zJ rfl (zJ rfl zK)) ⟨H.pick [0,1,2,3,4],c⟩ ?_
  clear H c
  rintro ⟨B,C,q⟩ ρ be ⟨H,c⟩
  obtain ⟨U,rfl,c⟩:=yT c
  have c:=yV T c
  refine zB fun bf V=>zA ?_
  obtain ⟨X,Y,c⟩:=zD c
  refine zG (zO (xH (a:=q) (b:=N) rfl rfl) Y)<| RN V<| zB fun bg Z=>zW (b:=X) rfl (fun s=>?_) (fun s=>?_)
  ·have c:=zN s c
   refine zZ (zF (Z _ _ ?_))
   obtain ⟨D,c,aa⟩:=zC c
   refine yG [5,7,15,16,17,18,19] (fun (g:Unit)=>[(5,i6 D)]) (fun g wl=>Hd O w wl S [.own (Rp.int .i64) f 3 d.rules,.blk k [h,j,f] 218,f1 fD h d.told,f1 Rp.bool j d.possible,.blk o [i6 l.phase] 248]) ?_ ?_
   ·skip
    refine yD ?_
    refine zB fun bh ab=>zA ?_
    obtain ⟨n,t,c⟩:=zC c
    obtain ⟨ac,ad,bi,ae,af,ag,ah,ai,aj⟩:=wJ (H.item (i:=3) rfl) t
    obtain rfl:ae= [.bool n]:=ag
    have H:=H.fz (.at ac (ad+q.toNat * 1) _) ⟨ah,ai,aj⟩
    refine zG (yS qK sz4 af rfl (zU t).1 (zU t).2.1 rfl rfl)<| zG (xG jT rfl (Cells.get (H.item (i:=5) rfl).2.2 (i:=0) rfl))<| zI (.bool n)<| RN ab<| zB fun bj ak=>zA<| zH (.bool n)<| RN ak<| zW (b:=n) rfl (fun u=>?_) (fun u=>?_)
    ·have c:=zN u c
     refine zA ?_
     refine zH (i6 C) ?_
     obtain ⟨al,am,c⟩:=zD c
     refine zG (xC (a:=C) (b:=1) rfl rfl am)<| zI (i6 al) ?_
     obtain rfl:=gG c
     exact (zT (yJ (zF (meet ⟨(),(zJ rfl zK),H.pick [0,1,2,3,4]⟩))))
    have c:=zM u c
    obtain rfl:=gG c
    exact (zZ (yJ (zF (meet ⟨(),(zJ rfl zK),H.pick [0,1,2,3,4]⟩))))
   rintro _ ρ bk H
   have c:=aa
   refine zA ?_
   obtain ⟨E,an,c⟩:=zD c
   refine zG (xC (a:=q) (b:=1) rfl rfl an)<| zH (i6 E) ?_
   exact (zT (zF (meet ⟨(U,D,E),(zJ rfl (zJ rfl zK)),⟨H.pick [0,1,2,3,4],c⟩,Nat.lt_succ_self _⟩)))
  have c:=zM s c
  obtain rfl:=gG c
  exact (xE (yK (yK (yR (zF (meet ⟨(),(zJ rfl zK),H.pick [0,1,2,3,4]⟩))))))
 rintro _ ρ bl H
 have c:=L
 refine zB fun bm ao=>?_
 refine yD ?_
 refine zB fun bn ap=>?_
 have aq:=H
 have H:=H.rebase
 have bo:=H
 refine wH H [0,1,2,3,4,5,6,7,8,9] (kz [0,0,0,1,0,1,0,1,0,0]) mixed ?_
 refine XM (gX k)<| XP (fun _ _=>yC rfl)<| XP (fun _ _=>aIg rfl)<| XR sW H 1 1 rfl rfl<| XP (fun _ _=>fa248_0 rfl)<| XR fG H 4 0 rfl rfl ?_
 obtain ⟨F,x,c⟩:=zC c
 obtain ⟨ar,au,bp,av,aw,ax,ay,az,a0⟩:=wJ (H.item (i:=3) rfl) x
 obtain rfl:av= [.bool F]:=ax
 have H:=H.fz (.at ar (au+l.phase.toNat * 1) _) ⟨ay,az,a0⟩
 refine XP (fun _ _=>yS qK sz4 aw rfl (zU x).1 (zU x).2.1 rfl rfl)<| MxM.XL_read oS rfl rfl rfl (fun A a1=>xG jT rfl (Cells.get ((H.sees a1).item (i:=5) rfl).2.2 (i:=0) rfl)) ?_
 obtain ⟨G,a2,c⟩:=zD c
 refine XP (fun _ _=>zO (xX (p:=F) rfl) a2)<| XP (fun _ _=>xB (v:= .bool G) rfl)<| MxM.xO fun bq hS=>?_
 have H:=H.sees hS
 have H:=aq.rejoin H
 refine (zF (ap _ _ ?_))
 refine zW (b:=G) rfl (fun y=>?_) (fun y=>?_)
 ·have c:=zN y c
  refine zB fun br a3=>zA<| zI (i6 1)<| RN a3 ?_
  obtain rfl:=gG c
  refine (zX (yA (zQ (gV (v1:=i6 1) rfl rfl ?_))))
  exact ⟨rfl,H.pick [0,1]⟩
 have c:=zM y c
 refine zB fun bt a4=>zA<| zH (i6 m) ?_
 obtain ⟨I,a5,c⟩:=zD c
 refine zG (zO (yY (a:=m) (b:=1) rfl rfl) a5)<| zI (.bool I)<| RN a4<| zW (b:=I) rfl (fun z=>?_) (fun z=>?_)
 ·have c:=zN z c
  refine zB fun bu a6=>zA<| zI (i6 2)<| RN a6 ?_
  obtain rfl:=gG c
  refine (zX (yA (zQ (gV (v1:=i6 2) rfl rfl ?_))))
  exact ⟨rfl,H.pick [0,1]⟩
 have c:=zM z c
 refine (zZ (yJ (zF (ao _ _ ?_))))
 refine zB fun bv a7=>zA<| zI (i6 0)<| RN a7 ?_
 obtain rfl:=gG c
 refine (zX (gV (v1:=i6 0) rfl rfl ?_))
 exact ⟨rfl,H.pick [0,1]⟩
theorem Fezw (f:uJ)(a:gJ)(b:Nat)(h:Value)(j:Value)(c:Value)(r:Int)(d:Fez f a=some r)(O S:List Nat)(w:World)(H:Hd O w w S [.own (Rp.int .i64) c 3 a.rules,.blk b [h,j,c] 218,f1 fD h a.told,f1 Rp.bool j a.possible]):
  Cl 223 [.agg [i6 f.rule].toArray,gX b] w fun e m=>e= .returned (i6 r)∧Hd O w m S [.own (Rp.int .i64) c 3 a.rules,.blk b [h,j,c] 218]:=by
 unfold Fez at d
 refine CW 13 Tryz.func223 ?_
 refine zB fun y n=>zA<| yP rfl rfl (xJ (cs:=[i6 f.rule]) rfl H) ?_
 rintro _ z ⟨A,rfl,H⟩
 refine zI (i6 0)<| RN n<| zB fun B o=>?_
 have p:=H
 have H:=H.rebase
 have C:=H
 refine wH H [0,1,2,3,4,5,6,7,8] (kz [0,0,0,1,0,1,0,1,0]) mixed ?_
 refine XM (gX b)<| XP (fun _ _=>yC rfl)<| XP (fun _ _=>aDf rfl)<| XR aF H 1 2 rfl rfl<| XP (fun _ _=>fa250_0 rfl)<| XR fG H 4 0 rfl rfl ?_
 obtain ⟨k,l,d⟩:=zC d
 obtain ⟨D,E,q,s,t,u⟩:=bH (H.item (i:=0) rfl) l
 obtain rfl:q= [i6 k]:=t
 refine XP (fun _ _=>yS u36 sz3 s rfl (zU l).1 (zU l).2.1 rfl rfl)<| MxM.XL_read oS rfl rfl rfl (fun m x=>xG fG rfl (Cells.get (u.sees x) (i:=0) rfl))<| XP (fun _ _=>xB (v:=i6 k) rfl)<| MxM.xO fun F hS=>?_
 have H:=H.sees hS
 have H:=p.rejoin H
 refine (zF (o _ _ ?_))
 obtain rfl:=gG d
 refine (zX (gV (v1:=i6 k) rfl rfl ?_))
 exact ⟨rfl,H.pick [0,1]⟩
theorem Fbcw (d:Int)(r:Int)(c:Fbc d=some r)(O S:List Nat)(w:World)(H:Hd O w w S []):
  Cl 226 [i6 d] w fun e k=>e= .returned (i6 r)∧Hd O w k S []:=by
 unfold Fbc at c
 refine CW 8 Tryz.func226 ?_
 refine zB fun x l=>zA<| zI (i6 0)<| RN l<| zB fun y m=>zB fun z n=>zA<| zH (i6 d)<| RN n<| yD<| zB fun A o=>zA ?_
 obtain ⟨i,p,c⟩:=zD c
 refine zG (zO (yY (a:=d) (b:=2) rfl rfl) p)<| zI (.bool i)<| RN o<| zW (b:=i) rfl (fun f=>?_) (fun f=>?_)
 ·have c:=zN f c
  refine zB fun B q=>zA<| zI (i6 1)<| RN q ?_
  obtain rfl:=gG c
  refine (zX (yA (zQ (gV (v1:=i6 1) rfl rfl ?_))))
  exact ⟨rfl,H.pick []⟩
 have c:=zM f c
 refine zB fun C s=>zA ?_
 obtain ⟨j,t,c⟩:=zD c
 refine zG (zO (yY (a:=d) (b:=1) rfl rfl) t)<| zI (.bool j)<| RN s<| zW (b:=j) rfl (fun h=>?_) (fun h=>?_)
 ·have c:=zN h c
  refine zB fun D u=>zA<| zI (i6 2)<| RN u ?_
  obtain rfl:=gG c
  refine (zX (yA (zQ (gV (v1:=i6 2) rfl rfl ?_))))
  exact ⟨rfl,H.pick []⟩
 have c:=zM h c
 refine (zZ (yJ (zF (m _ _ ?_))))
 refine zB fun E v=>zA<| zI (i6 0)<| RN v ?_
 obtain rfl:=gG c
 refine (zX (gV (v1:=i6 0) rfl rfl ?_))
 exact ⟨rfl,H.pick []⟩
theorem Fbaw (rfG:Nd→gJ→Option (Int×Nd))(rhG:Fas rfG)(l:kM)(a:gJ)(f:Nat)(h:Value)(m:List Nat)(c:Nat)(j:Value)(k:Value)(d:Value)(r:Int×kM)(b:Fba rfG l a=some r)(O S:List Nat)(w:World)(H:Hd O w w S [.tr fJ [h] m l.kid,.blk f [h] 253,.own (Rp.int .i64) d 3 a.rules,.blk c [j,k,d] 218,f1 fD j a.told,f1 Rp.bool k a.possible]):
  Cl 225 [gX f,gX c] w fun e q=> ∃n s,e= .returned (i6 r.1)∧Hd O w q S [.tr fJ [n] s r.2.kid,.blk f [n] 253,.own (Rp.int .i64) d 3 a.rules,.blk c [j,k,d] 218]:=by
 unfold Fba at b
 refine CW 12 Tryz.func225 ?_
 refine zB fun F t=>zA<| zI (i6 0)<| RN t<| zB fun G u=>zA<| zH (gX f)<| zG (yC rfl)<| zG (fa253_0 rfl)<| Ld kS H 1 0 rfl rfl<| zH (gX c) ?_
 obtain ⟨v,x,o⟩:=Fal (H.item (i:=0) rfl)
 obtain ⟨y,z,b⟩:=zC b
 refine yB rfl rfl (nD o rfl rfl) (rhG l.kid (gJ.mk a.told a.possible a.rules) h m c j k d v x o _ z _ _ _ (H.enter [0,2,3] [4,5])) ?_
 rintro _ I ⟨A,rfl,B⟩
 have H:Hd _ _ _ _ [_,_,_,_,_,_]:=H.back [0,2,3] [4,5] rfl B
 refine ⟨_,rfl,?_⟩
 have C:=H
 obtain ⟨p,D,b⟩:=zC b
 refine yB rfl rfl (zY en226 rfl) (Fbcw y.1 _ D _ _ _ (H.enter [] [])) ?_
 rintro _ J ⟨rfl,E⟩
 have H:=C.step (E.only:Only [] _ _)
 refine ⟨_,rfl,?_⟩
 refine zI (i6 p)<| RN u ?_
 obtain rfl:=gG b
 refine (zX (gV (v1:=i6 p) rfl rfl ?_))
 exact ⟨h,A,rfl,H.pick [3,0,4,5]⟩
set_option maxRecDepth 100000 in
theorem Fbgw (rfG:Nd→gJ→Option (Int×Nd))(rhG:Fas rfG)(l:bI)(d:gJ)(m:Nat)(k:Value)(t:List Nat)(n:Nat)(h:Value)(j:Value)(f:Value)(r:Int×bI)(c:Fbg rfG l d=some r)(O S:List Nat)(w:World)(H:Hd O w w S [.tr (Rt.row fJ 212 []) [k] t l.kids,.blk m [k,.bool l.any] 256,.own (Rp.int .i64) f 3 d.rules,.blk n [h,j,f] 218,f1 fD h d.told,f1 Rp.bool j d.possible]):
  Cl 228 [gX m,gX n] w fun e Q=> ∃F R,e= .returned (i6 r.1)∧Hd O w Q S [.tr (Rt.row fJ 212 []) [F] R r.2.kids,.blk m [F,.bool r.2.any] 256,.own (Rp.int .i64) f 3 d.rules,.blk n [h,j,f] 218]:=by
 unfold Fbg at c
 refine CW 38 Tryz.func228 ?_
 refine zB fun bi T=>zA<| zI (i6 0)<| RN T<| zB fun bj U=>zA<| zI (i6 1)<| zI (i6 2)<| RN U ?_
 obtain ⟨u,c,V⟩:=zC c
 refine yG [5,6,10,11,12,13] (fun (g:Unit)=>[(5,i6 u.1),(6,i6 u.2)]) (fun g wl=>Hd O w wl S [.tr (Rt.row fJ 212 []) [k] t l.kids,.blk m [k,.bool l.any] 256,.own (Rp.int .i64) f 3 d.rules,.blk n [h,j,f] 218,f1 fD h d.told,f1 Rp.bool j d.possible]) ?_ ?_
 ·skip
  refine zB fun bk X=>zA<| zH (gX m)<| zG (yC rfl)<| zG (fa256_1 rfl)<| Ld jT H 1 1 rfl rfl<| RN X<| zW (b:=l.any) rfl (fun v=>?_) (fun v=>?_)
  ·have c:=zN v c
   refine zA ?_
   refine zI (i6 2)<| zI (i6 1) ?_
   obtain rfl:=gG c
   exact (zT (zF (meet ⟨(),(zJ rfl (zJ rfl zK)),H.pick [0,1,2,3,4,5]⟩)))
  have c:=zM v c
  obtain rfl:=gG c
  exact (zZ (zF (meet ⟨(),(zJ rfl (zJ rfl zK)),H.pick [0,1,2,3,4,5]⟩)))
 rintro _ ρ bl H
 have c:=V
 obtain ⟨q,o⟩:=u
 refine zB fun bm Y=>zA<| zH (i6 o)<| zI (i6 o)<| RN Y ?_
 obtain ⟨s,c,Z⟩:=zC c
 refine yG [7,9,15,16,17,18,19,20,21,22,23,24,25,26,27,28,29,30,31,32,33,34,35,36] (fun (g:(List Nat))=>[(7,i6 s.1)]) (fun g wl=>Hd O w wl S [.tr (Rt.row fJ 212 []) [k] g s.2,.blk m [k,.bool l.any] 256,.own (Rp.int .i64) f 3 d.rules,.blk n [h,j,f] 218,f1 fD h d.told,f1 Rp.bool j d.possible]) ?_ ?_
 ·skip
  refine zB fun bn aa=>zA<| zH (gX m)<| zG (yC rfl)<| zG (fa256_0 rfl)<| Ld aOz H 1 0 rfl rfl ?_
  obtain ⟨ab,ac,c⟩:=zD c
  obtain ⟨bo,bp,ad⟩:=kP ((H.item (i:=0) rfl))
  refine zG (yH (yZ uN ad) (congrArg (Value.int .i64) ac))<| zH (i6 0)<| RN aa<| yD ?_
  unfold Fbj at c
  obtain ⟨ae,G,af,c⟩:=yQ c
  refine xA [7,9,20,21,22,23,24,25,26,27,28,29,30,31,32,33,34,35,36] (fun (g:Nat×Int×Int×(List Nd)×(List Nat))=>[(7,i6 g.2.1),(20,i6 g.2.2.1)]) (fun g wl=>Hd O w wl S [.tr (Rt.row fJ 212 []) [k] g.2.2.2.2 g.2.2.2.1,.blk m [k,.bool l.any] 256,.own (Rp.int .i64) f 3 d.rules,.blk n [h,j,f] 218,f1 fD h d.told,f1 Rp.bool j d.possible]∧fV ae g.1 (g.2.1,g.2.2.1,g.2.2.2.1)=some s) (fun g=>g.1) (G,o,0,l.kids,t) (zJ rfl (zJ rfl zK)) ⟨H.pick [0,1,2,3,4,5],c⟩ ?_
  clear H c
  rintro ⟨G,I,J,bq,ag⟩ ρ br ⟨H,c⟩
  obtain ⟨ah,rfl,c⟩:=yT c
  have c:=yV af c
  refine zB fun bt ai=>zA ?_
  obtain ⟨aj,ak,c⟩:=zD c
  refine zG (zO (xH (a:=J) (b:=ab) rfl rfl) ak)<| RN ai<| zB fun bu al=>zW (b:=aj) rfl (fun x=>?_) (fun x=>?_)
  ·have c:=zN x c
   refine zZ (zF (al _ _ ?_))
   obtain ⟨y,c,am⟩:=zC c
   refine yG [7,9,22,23,24,25,26,27,28,29,30,31,32,33,34,35] (fun (g:(List Nat))=>[(7,i6 y.1)]) (fun g wl=>Hd O w wl S [.tr (Rt.row fJ 212 []) [k] g y.2,.blk m [k,.bool l.any] 256,.own (Rp.int .i64) f 3 d.rules,.blk n [h,j,f] 218,f1 fD h d.told,f1 Rp.bool j d.possible]) ?_ ?_
   ·skip
    refine yD ?_
    refine zB fun bv an=>zA ?_
    obtain ⟨ao,p,c⟩:=zC c
    obtain ⟨bw,bx,bz,z⟩:=aC (H.item (i:=0) rfl) p
    refine zG (yS uN vY z rfl (zU p).1 (zU p).2.1 rfl rfl) ?_
    obtain ⟨b0,b1,ap,H⟩:=H.focusV 0 rfl z p rfl
    obtain ⟨A,rfl⟩:=nC rfl (H.item (i:=6) rfl)
    have H:Hd _ _ _ _ [_,_,_,_,_,_,_]:=H
    refine zG (xG kS rfl (Cells.get (H.holeW 5 rfl z p rfl wG) (i:=0) rfl))<| zI A<| RN an<| zB fun b2 aq=>zA<| zH A<| zH (gX n) ?_
    obtain ⟨ar,au,K⟩:=Fal (H.item (i:=6) rfl)
    obtain ⟨L,av,c⟩:=zC c
    refine yB rfl rfl (nD K rfl rfl) (rhG ao (gJ.mk d.told d.possible d.rules) A ap n h j f ar au K _ av _ _ _ (H.enter [6,1,2] [3,4])) ?_
    rintro _ b3 ⟨b4,rfl,aw⟩
    have H:Hd _ _ _ _ [_,_,_,_,_,_,_]:=H.back [6,1,2] [3,4] rfl aw
    refine ⟨_,rfl,?_⟩
    refine RN aq<| yD<| zB fun b5 ax=>zA<| zH (i6 q) ?_
    obtain ⟨M,ay,c⟩:=zD c
    refine zG (zO (yY (a:=L.1) (b:=q) rfl rfl) ay)<| zI (.bool M)<| RN ax<| zW (b:=M) rfl (fun B=>?_) (fun B=>?_)
    ·have c:=zN B c
     refine zA ?_
     refine zH (i6 q)<| zI (i6 q) ?_
     have H:Hd _ _ _ _ [_,_,_,_,_,_,_]:=H
     obtain ⟨b6,az,c⟩:=zC c
     obtain ⟨a0,H⟩:=H.unfocus 3 4 rfl rfl (by decide) rfl rfl az
     have H:Hd _ _ _ _ [_,_,_,_,_,_]:=H
     obtain rfl:=gG c
     exact (zT (yJ (yJ (zF (meet ⟨a0,(zJ rfl zK),H.pick [5,0,3,4,1,2]⟩)))))
    have c:=zM B c
    refine zB fun b7 a1=>zA ?_
    obtain ⟨N,a2,c⟩:=zD c
    refine zG (zO (yY (a:=L.1) (b:=0) rfl rfl) a2)<| zI (.bool N)<| RN a1<| zW (b:=N) rfl (fun C=>?_) (fun C=>?_)
    ·have c:=zN C c
     refine zB fun b8 a3=>zA<| zH (i6 I)<| zH (i6 o) ?_
     obtain ⟨a4,a5,c⟩:=zD c
     refine zG (zO (yY (a:=I) (b:=o) rfl rfl) a5)<| RN a3<| zW (b:=a4) rfl (fun D=>?_) (fun D=>?_)
     ·have c:=zN D c
      refine zA ?_
      refine zI (i6 0) ?_
      have H:Hd _ _ _ _ [_,_,_,_,_,_,_]:=H
      obtain ⟨b9,a6,c⟩:=zC c
      obtain ⟨a7,H⟩:=H.unfocus 3 4 rfl rfl (by decide) rfl rfl a6
      have H:Hd _ _ _ _ [_,_,_,_,_,_]:=H
      obtain rfl:=gG c
      exact (zT (yJ (yJ (zF (meet ⟨a7,(zJ rfl zK),H.pick [5,0,3,4,1,2]⟩)))))
     have c:=zM D c
     have H:Hd _ _ _ _ [_,_,_,_,_,_,_]:=H
     obtain ⟨ca,a8,c⟩:=zC c
     obtain ⟨a9,H⟩:=H.unfocus 3 4 rfl rfl (by decide) rfl rfl a8
     have H:Hd _ _ _ _ [_,_,_,_,_,_]:=H
     obtain rfl:=gG c
     exact (zZ (yJ (yJ (zF (meet ⟨a9,(zJ rfl zK),H.pick [5,0,3,4,1,2]⟩)))))
    have c:=zM C c
    have H:Hd _ _ _ _ [_,_,_,_,_,_,_]:=H
    obtain ⟨cb,ba,c⟩:=zC c
    obtain ⟨bb,H⟩:=H.unfocus 3 4 rfl rfl (by decide) rfl rfl ba
    have H:Hd _ _ _ _ [_,_,_,_,_,_]:=H
    obtain rfl:=gG c
    exact (zZ (yJ (yJ (zF (meet ⟨bb,(zJ rfl zK),H.pick [5,0,3,4,1,2]⟩)))))
   rintro bc ρ cc H
   have c:=am
   obtain ⟨bd,be⟩:=y
   refine zA ?_
   obtain ⟨P,bf,c⟩:=zD c
   refine zG (xC (a:=J) (b:=1) rfl rfl bf)<| zH (i6 P) ?_
   exact (zT (zF (meet ⟨(ah,bd,P,be,bc),(zJ rfl (zJ rfl zK)),⟨H.pick [0,1,2,3,4,5],c⟩,Nat.lt_succ_self _⟩)))
  have c:=zM x c
  obtain rfl:=gG c
  exact (xE (yK (yK (yR (zF (meet ⟨ag,(zJ rfl zK),H.pick [0,1,2,3,4,5]⟩))))))
 rintro bg ρ cd H
 have c:=Z
 obtain ⟨E,ce⟩:=s
 refine zB fun cf bh=>zA<| zH (i6 E)<| zI (i6 E)<| RN bh ?_
 obtain rfl:=gG c
 refine (zX (gV (v1:=i6 E) rfl rfl ?_))
 exact ⟨k,bg,rfl,H.pick [0,1,2,3]⟩
theorem Fbiw (rfG:Nd→gJ→Option (Int×Nd))(rhG:Fas rfG)(d:dB)(m:gJ)(h:Nat)(l:Value)(Q:List Nat)(D:Value)(ao:List Nat)(s:Nat)(t:Value)(u:Value)(q:Value)(r:Int×dB)(c:Fbi rfG d m=some r)(O S:List Nat)(w:World)(H:Hd O w w S [.tr fJ [l] Q d.kid,.tr (Rt.row (Rt.of (Rp.int .i64)) 3 []) [D] ao d.last,.blk h ([l,i6 d.n,i6 d.frames,D]++((Fl.arr 3 (Fl.int .i64)).f d.totals)) 260,.own (Rp.int .i64) q 3 m.rules,.blk s [t,u,q] 218,f1 fD t m.told,f1 Rp.bool u m.possible]):
  Cl 230 [gX h,gX s] w fun e p=> ∃R ap T aq,e= .returned (i6 r.1)∧Hd O w p S [.tr fJ [R] ap r.2.kid,.tr (Rt.row (Rt.of (Rp.int .i64)) 3 []) [T] aq r.2.last,.blk h ([R,i6 r.2.n,i6 r.2.frames,T]++((Fl.arr 3 (Fl.int .i64)).f r.2.totals)) 260,.own (Rp.int .i64) q 3 m.rules,.blk s [t,u,q] 218]:=by
 unfold Fbi at c
 refine CW 96 Tryz.func230 ?_
 refine zB fun b7 ar=>zA<| zI (i6 0)<| RN ar<| zB fun b8 au=>zA<| zH (gX h)<| zG (yC rfl)<| zG (fa260_0 rfl)<| Ld kS H 2 0 rfl rfl<| zH (gX s) ?_
 obtain ⟨av,aw,U⟩:=Fal (H.item (i:=0) rfl)
 obtain ⟨o,ax,c⟩:=zC c
 refine yB rfl rfl (nD U rfl rfl) (rhG d.kid (gJ.mk m.told m.possible m.rules) l Q s t u q av aw U _ ax _ _ _ (H.enter [0,3,4] [5,6])) ?_
 rintro _ b9 ⟨B,rfl,ay⟩
 have H:Hd _ _ _ _ [_,_,_,_,_,_,_]:=H.back [0,3,4] [5,6] rfl ay
 refine ⟨_,rfl,?_⟩
 refine zI (i6 o.1)<| RN au<| zB fun ca az=>zA<| zH (gX h)<| zG (yC rfl)<| zG (aAi rfl)<| zG (Do_loadF (e:=(Fl.arr 3 (Fl.int .i64))) (a:=d.totals) agg258 rfl sz258 (Cells.suf (pre:=[l,i6 d.n,i6 d.frames,D]) (Hbc H 1 rfl) rfl))<| yP rfl rfl (xI zero258 H) ?_
 rintro _ cb ⟨a0,rfl,H⟩
 refine yX rfl (Lx_storeW (e:=(Fl.arr 3 (Fl.int .i64))) (a:=(Arr.rep 3 0:Arr 3 Int)) (a':=d.totals) H 7 rfl sz258 rfl rfl) ?_
 rintro cc H
 refine RN az<| zB fun cd a1=>zA<| zH (i6 o.1) ?_
 obtain ⟨V,Y,c⟩:=zC c
 refine zG (mY (X:=d.totals) aMc sz3 rfl rfl Y)<| zG (pV (v:=i6 V) fG rfl (Cells.ix (e:=(Fl.int .i64)) (x:=d.totals) (Hbc H 7 rfl) Y)) ?_
 obtain ⟨Z,a2,c⟩:=zD c
 refine zG (xC (a:=V) (b:=1) rfl rfl a2) ?_
 obtain ⟨ce,E,c⟩:=zC c
 refine zG (mY (X:=d.totals) aMc sz3 rfl rfl E) ?_
 obtain ⟨A,a3,c⟩:=zD c
 refine yX rfl (Lx_storeA (e:=(Fl.int .i64)) (X:=d.totals) (a:=Z) (j:=o.1) H 7 rfl sz3 rfl (v:=i6 Z) rfl rfl (Arr.at_lt E).1 (Arr.at_lt E).2 a3) ?_
 rintro cf H
 refine RN a1<| zB fun cg a4=>zA<| zH (gX h)<| zH (gX h)<| zG (yC rfl)<| zG (uG rfl)<| Ld aF H 1 3 rfl rfl<| zH (i6 o.1) ?_
 obtain ⟨ch,a5,c⟩:=zD c
 subst a5
 refine yP rfl rfl (jK (r:=(Rp.int .i64)) (xl:=[o.1]) (cs:=[i6 o.1]) u36 el3 (by decide) (by decide) rfl (xP (vs:=[i6 o.1]) (by decide) rfl rfl ⟨rfl,trivial⟩ rfl) H ⟨[i6 o.1],[],rfl,rfl,rfl⟩) ?_
 rintro ci cj H
 obtain ⟨ck,a6,c⟩:=zC c
 refine yP rfl rfl (aQf H 0 rfl u36 el3 rfl rfl (Sr.of_own (H.item (i:=8) rfl)) a6) ?_
 rintro y cl ⟨a7,H⟩
 have H:Hd _ _ _ _ [_,_,_,_,_,_,_,_,_]:=H
 refine zG (yC rfl)<| zG (uG rfl)<| yX rfl (xR H 0 rfl sz36 rfl (v:=y) rfl (pR (H.item (i:=8) rfl)) rfl) ?_
 rintro cm H
 refine RN a4<| zB fun cn a8=>?_
 have a9:=H
 have H:=H.rebase
 have cp:=H
 refine wH H [0,1,2,3,4,5,6,7,8,9,10] (kz [0,0,0,0,0,1,0,0,0,0,3]) mixed ?_
 refine XM (gX h)<| XM (i6 o.1)<| XP (fun _ _=>yC rfl)<| XP (fun _ _=>aAi rfl) ?_
 obtain ⟨aa,ab,c⟩:=zC c
 refine XP (fun _ _=>mY (X:=d.totals) aMc sz3 rfl rfl ab)<| MxM.XL_read oS rfl rfl rfl (fun p k=>pV (v:=i6 aa) fG rfl (Cells.ix (e:=(Fl.int .i64)) (x:=d.totals) (Cells.suf (pre:=[l,i6 d.n,i6 d.frames,y]) (Blk.cells ((H.sees k).item (i:=0) rfl)) rfl) ab)) ?_
 obtain ⟨ac,ba,c⟩:=zD c
 refine XP (fun _ _=>xC (a:=aa) (b:=1) rfl rfl ba)<| XP (fun _ _=>yC rfl)<| XP (fun _ _=>aAi rfl) ?_
 obtain ⟨cq,F,c⟩:=zC c
 refine XP (fun _ _=>mY (X:=d.totals) aMc sz3 rfl rfl F) ?_
 obtain ⟨C,bb,c⟩:=zD c
 refine MxM.XL_exU oS rfl rfl (fun p k=>aGw (e:=(Fl.int .i64)) (X:=d.totals) (a:=ac) (j:=o.1) (pre:=[l,i6 d.n,i6 d.frames,y]) (H.sees k) 0 rfl sz3 rfl rfl (v:=i6 ac) rfl rfl (Arr.at_lt F).1 (Arr.at_lt F).2 bb) ?_
 rintro p cr k H
 refine ⟨H.only,?_⟩
 refine MxM.xO fun ct hS=>?_
 have H:=H.sees hS
 have H:=a9.rejoin H
 refine (zF (a8 _ _ ?_))
 obtain ⟨G,c,bc⟩:=zC c
 refine yG [42,43,44,45,46,47,48,49,50,51,52,53,54,55,56,57,58,59,60,61,62,63,64,65,66,67,68,69,70,71,72,73,74] (fun (g:Value×(List Nat))=>[]) (fun g wl=>Hd O w wl S [.blk h ([l,i6 d.n,i6 d.frames,g.1]++((Fl.arr 3 (Fl.int .i64)).f G.2)) 260,.tr fJ [l] B o.2,.tr (Rt.row (Rt.of (Rp.int .i64)) 3 []) [g.1] g.2 G.1,f1 fD t m.told,f1 Rp.bool u m.possible,.own (Rp.int .i64) q 3 m.rules,.blk s [t,u,q] 218,.blk a0 ((Fl.arr 3 (Fl.int .i64)).f A) 258]) ?_ ?_
 ·skip
  refine zB fun cu bd=>?_
  have be:=H
  have H:=H.rebase
  have cv:=H
  refine wH H [0,1,2,3,4,5,6,7,8,9] (kz [0,0,0,1,0,0,0,0,1,0]) mixed ?_
  refine XM (gX h)<| XP (fun _ _=>yC rfl)<| XP (fun _ _=>uG rfl)<| XR aF H 0 3 rfl rfl ?_
  obtain ⟨bf,bg,c⟩:=zD c
  obtain ⟨cw,cx,bh⟩:=kP ((H.item (i:=8) rfl))
  refine XP (fun _ _=>yH (yZ u36 bh) (congrArg (Value.int .i64) bg))<| XM (gX h)<| XP (fun _ _=>yC rfl)<| XP (fun _ _=>aQb rfl)<| XR fG H 0 2 rfl rfl ?_
  obtain ⟨bi,bj,c⟩:=zD c
  refine XP (fun _ _=>zO (yY (a:=bf) (b:=d.frames) rfl rfl) bj)<| MxM.xO fun cy hS=>?_
  have H:=H.sees hS
  have H:=be.rejoin H
  refine (zF (bd _ _ ?_))
  refine zW (b:=bi) rfl (fun I=>?_) (fun I=>?_)
  ·have c:=zN I c
   refine zB fun cz bk=>?_
   have bl:=H
   have H:=H.rebase
   have c0:=H
   refine wH H [0,1,2,3,4,5,6,7,8,9,10,11,12,13,14,15] (kz [0,0,0,0,1,0,1,0,0,0,1,0,0,0,0,3]) mixed ?_
   refine XM (gX h)<| XM (gX h)<| XP (fun _ _=>yC rfl)<| XP (fun _ _=>uG rfl)<| XR aF H 0 3 rfl rfl ?_
   obtain ⟨ad,z,c⟩:=zC c
   obtain ⟨c1,c2,c3,J⟩:=aC (H.item (i:=8) rfl) z
   refine XP (fun _ _=>yS u36 sz3 J rfl (zU z).1 (zU z).2.1 rfl rfl) ?_
   obtain ⟨bm,c4,c5,H⟩:=H.focusV 8 rfl J z rfl
   obtain ⟨bn,bo⟩:=trF (H.item (i:=9) rfl)
   subst bn
   obtain rfl:bm= [i6 ad]:=bo
   have H:Hd _ _ _ _ [_,_,_,_,_,_,_,_,_,_]:=H
   refine MxM.XL_read oS rfl rfl rfl (fun p k=>xG fG rfl (Cells.get ((H.sees k).holeW 8 rfl J z rfl wG) (i:=0) rfl)) ?_
   refine XP (fun _ _=>yC rfl)<| XP (fun _ _=>aAi rfl) ?_
   obtain ⟨ae,af,c⟩:=zC c
   refine XP (fun _ _=>mY (X:=C) aMc sz3 rfl rfl af)<| MxM.XL_read oS rfl rfl rfl (fun p k=>pV (v:=i6 ae) fG rfl (Cells.ix (e:=(Fl.int .i64)) (x:=C) (Cells.suf (pre:=[l,i6 d.n,i6 d.frames,y]) (Blk.cells ((H.sees k).item (i:=0) rfl)) rfl) af)) ?_
   obtain ⟨ag,bp,c⟩:=zD c
   refine XP (fun _ _=>kX (a:=ae) (b:=1) rfl rfl bp)<| XP (fun _ _=>yC rfl)<| XP (fun _ _=>aAi rfl) ?_
   obtain ⟨c6,K,c⟩:=zC c
   refine XP (fun _ _=>mY (X:=C) aMc sz3 rfl rfl K) ?_
   obtain ⟨c7,bq,c⟩:=zD c
   refine MxM.XL_exU oS rfl rfl (fun p k=>aGw (e:=(Fl.int .i64)) (X:=C) (a:=ag) (j:=ad) (pre:=[l,i6 d.n,i6 d.frames,y]) (H.sees k) 0 rfl sz3 rfl rfl (v:=i6 ag) rfl rfl (Arr.at_lt K).1 (Arr.at_lt K).2 bq) ?_
   rintro p c8 k H
   refine ⟨H.only,?_⟩
   refine MxM.xO fun c9 hS=>?_
   have H:=H.sees hS
   have H:=bl.rejoin H
   refine (zF (bk _ _ ?_))
   refine zA ?_
   refine zH (gX h)<| zH (gX h)<| zG (yC rfl)<| zG (uG rfl)<| Ld aF H 0 3 rfl rfl ?_
   have H:Hd _ _ _ _ [_,_,_,_,_,_,_,_,_,_]:=H
   obtain ⟨br,H⟩:=H.unfocus0 8 9 rfl rfl (by decide) rfl rfl z
   have H:Hd _ _ _ _ [_,_,_,_,_,_,_,_,_]:=H
   obtain ⟨da,bt,c⟩:=zC c
   refine sZ rfl rfl (aEi H 8 rfl u36 sz3 rfl rfl bt) ?_
   rintro ah H
   refine zG (yC rfl)<| zG (uG rfl)<| yX rfl (xR H 0 rfl sz36 rfl (v:=ah) rfl (pR (H.item (i:=8) rfl)) rfl) ?_
   rintro db H
   obtain rfl:=gG c
   exact (zT (zF (meet ⟨(ah,br),zK,H.pick [0,3,8,1,2,4,5,6]⟩)))
  have c:=zM I c
  obtain rfl:=gG c
  exact (zZ (zF (meet ⟨(y,a7),zK,H.pick [0,3,8,1,2,4,5,6]⟩)))
 rintro ⟨L,M⟩ ρ dc H
 have c:=bc
 obtain ⟨dd,de⟩:=G
 refine zB fun df bu=>?_
 refine yD ?_
 refine zB fun dg bv=>?_
 have bw:=H
 have H:=H.rebase
 have dh:=H
 refine wH H [0,1,2,3,4,5,6,7] (kz [0,1,0,0,0,1,0,0]) mixed ?_
 obtain ⟨ai,aj,c⟩:=zC c
 refine XP (fun _ _=>mY (X:=A) aMc sz3 rfl rfl aj)<| MxM.XL_read oS rfl rfl rfl (fun p k=>pV (v:=i6 ai) fG rfl (Cells.ix (e:=(Fl.int .i64)) (x:=A) (Blk.cells ((H.sees k).item (i:=7) rfl)) aj))<| XM (gX h)<| XP (fun _ _=>yC rfl)<| XP (fun _ _=>aQd rfl)<| XR fG H 0 1 rfl rfl ?_
 obtain ⟨ak,bx,c⟩:=zD c
 refine XP (fun _ _=>zO (aN (a:=ai) (b:=d.n) rfl rfl) bx)<| XP (fun _ _=>xB (v:= .bool ak) rfl)<| MxM.xO fun di hS=>?_
 have H:=H.sees hS
 have H:=bw.rejoin H
 refine (zF (bv _ _ ?_))
 refine zW (b:=ak) rfl (fun N=>?_) (fun N=>?_)
 ·have c:=zN N c
  refine zB fun dj bz=>zA<| zI (i6 2)<| RN bz ?_
  obtain rfl:=gG c
  refine (zX (yA (zQ (gV (v1:=i6 2) rfl rfl ?_))))
  exact ⟨l,B,L,M,rfl,H.pick [1,2,0,5,6]⟩
 have c:=zM N c
 refine zB fun dk b0=>?_
 have b1:=H
 have H:=H.rebase
 have dl:=H
 refine wH H [0,1,2,3,4,5,6,7,8,9,10,11,12] (kz [0,1,0,0,0,1,0,0,0,1,0,0,0]) mixed ?_
 obtain ⟨al,am,c⟩:=zC c
 refine XP (fun _ _=>mY (X:=A) aMc sz3 rfl rfl am)<| MxM.XL_read oS rfl rfl rfl (fun p k=>pV (v:=i6 al) fG rfl (Cells.ix (e:=(Fl.int .i64)) (x:=A) (Blk.cells ((H.sees k).item (i:=7) rfl)) am))<| XM (gX h)<| XP (fun _ _=>yC rfl)<| XP (fun _ _=>aQb rfl)<| XR fG H 0 2 rfl rfl<| XM (gX h)<| XP (fun _ _=>yC rfl) ?_
 refine XP (fun _ _=>aQd rfl)<| XR fG H 0 1 rfl rfl ?_
 obtain ⟨b2,b3,c⟩:=zD c
 refine XP (fun _ _=>kX (a:=d.frames) (b:=d.n) rfl rfl b3) ?_
 obtain ⟨an,b4,c⟩:=zD c
 refine XP (fun _ _=>zO (cZ (a:=al) (b:=b2) rfl rfl) b4)<| XP (fun _ _=>xB (v:= .bool an) rfl)<| MxM.xO fun dm hS=>?_
 have H:=H.sees hS
 have H:=b1.rejoin H
 refine (zF (b0 _ _ ?_))
 refine zW (b:=an) rfl (fun P=>?_) (fun P=>?_)
 ·have c:=zN P c
  refine zB fun dn b5=>zA<| zI (i6 1)<| RN b5 ?_
  obtain rfl:=gG c
  refine (zX (yA (zQ (gV (v1:=i6 1) rfl rfl ?_))))
  exact ⟨l,B,L,M,rfl,H.pick [1,2,0,5,6]⟩
 have c:=zM P c
 refine (zZ (yJ (zF (bu _ _ ?_))))
 refine zB fun dp b6=>zA<| zI (i6 0)<| RN b6 ?_
 obtain rfl:=gG c
 refine (zX (gV (v1:=i6 0) rfl rfl ?_))
 exact ⟨l,B,L,M,rfl,H.pick [1,2,0,5,6]⟩
set_option maxRecDepth 100000 in
theorem Fbnw (rfG:Nd→gJ→Option (Int×Nd))(rhG:Fas rfG)(f:bJ)(d:gJ)(n:Nat)(l:Value)(x:List Nat)(m:Value)(y:List Nat)(o:Nat)(j:Value)(k:Value)(h:Value)(r:Int×bJ)(c:Fbn rfG f d=some r)(O S:List Nat)(w:World)(H:Hd O w w S [.tr fJ [l] x f.while_,.tr fJ [m] y f.from_,.blk n [l,m,i6 f.last,.bool f.begun] 263,.own (Rp.int .i64) h 3 d.rules,.blk o [j,k,h] 218,f1 fD j d.told,f1 Rp.bool k d.possible]):
  Cl 232 [gX n,gX o] w fun e q=> ∃K U L V,e= .returned (i6 r.1)∧Hd O w q S [.tr fJ [K] U r.2.while_,.tr fJ [L] V r.2.from_,.blk n [K,L,i6 r.2.last,.bool r.2.begun] 263,.own (Rp.int .i64) h 3 d.rules,.blk o [j,k,h] 218]:=by
 unfold Fbn at c
 refine CW 56 Tryz.func232 ?_
 refine zB fun a1 X=>zA<| zI (i6 0)<| RN X<| zB fun a2 Y=>?_
 have Z:=H
 have H:=H.rebase
 have aa:=H
 have M:Hd (O++bks (rest [0,1,3,4] [.tr fJ [l] x f.while_,.tr fJ [m] y f.from_,.blk n [l,m,i6 f.last,.bool f.begun] 263,.own (Rp.int .i64) h 3 d.rules,.blk o [j,k,h] 218,f1 fD j d.told,f1 Rp.bool k d.possible])) w w (bks (Go.Lf.pick ([0,1,3,4]++ [5,6]) [.tr fJ [l] x f.while_,.tr fJ [m] y f.from_,.blk n [l,m,i6 f.last,.bool f.begun] 263,.own (Rp.int .i64) h 3 d.rules,.blk o [j,k,h] 218,f1 fD j d.told,f1 Rp.bool k d.possible])) [.tr fJ [l] x f.while_,.tr fJ [m] y f.from_,.own (Rp.int .i64) h 3 d.rules,.blk o [j,k,h] 218,f1 fD j d.told,f1 Rp.bool k d.possible]:=H.enter [0,1,3,4] [5,6]
 have N:=H.firmB M (i:=2) rfl (List.mem_append_right _ List.mem_cons_self)
 have H:=M
 refine WP_mix H [0,1,2,3,4,6,7,8,9,10,5,11,12,13] (kz [0,0,0,0,0,3,0,0,0,0,0,3,0,0]) mixed ?_
 refine XM (gX n)<| XP (fun _ _=>yC rfl)<| XP (fun _ _=>fa263_0 rfl)<| XP (fun q p=>xG kS rfl (Cells.get (Blk.cells (N q p)) (i:=0) rfl))<| XM (gX o)<| XM (gX n)<| XP (fun _ _=>yC rfl)<| XP (fun _ _=>fa263_1 rfl)<| XP (fun q p=>xG kS rfl (Cells.get (Blk.cells (N q p)) (i:=1) rfl))<| XM (gX o) ?_
 obtain ⟨ab,ac,P⟩:=Fal (H.item (i:=0) rfl)
 obtain ⟨s,ad,c⟩:=zC c
 refine MxM.XL_effC oS rfl rfl rfl (fun q p=>nD P rfl rfl) (fun q p=>rhG f.while_ (gJ.mk d.told d.possible d.rules) l x o j k h ab ac P _ ad _ _ _ ((H.sees p).enter [0,2,3] [4,5])) ?_
 rintro q _ a3 p ⟨z,rfl,ae⟩
 have H:Hd _ _ _ _ [_,_,_,_,_,_]:=(H.sees p).back [0,2,3] [4,5] rfl ae
 refine ⟨_,rfl,H.only,?_⟩
 obtain ⟨af,ag,Q⟩:=Fal (H.item (i:=0) rfl)
 obtain ⟨t,ah,c⟩:=zC c
 refine MxM.XL_effC oS rfl rfl rfl (fun q p=>nD Q rfl rfl) (fun q p=>rhG f.from_ (gJ.mk d.told d.possible d.rules) m y o j k h af ag Q _ ah _ _ _ ((H.sees p).enter [0,4,5] [1,2])) ?_
 rintro q _ a4 p ⟨A,rfl,ai⟩
 have H:Hd _ _ _ _ [_,_,_,_,_,_]:=(H.sees p).back [0,4,5] [1,2] rfl ai
 refine ⟨_,rfl,H.only,?_⟩
 refine XP (fun _ _=>xB (v:=i6 s.1) rfl)<| XP (fun _ _=>xB (v:=i6 t.1) rfl)<| MxM.xO fun a5 hS=>?_
 have H:=H.sees hS
 have H:=aa.back [0,1,3,4] [5,6] rfl H
 have H:Hd _ _ _ _ [_,_,_,_,_,_,_,_,_]:=H
 have H:Hd _ _ _ _ [_,_,_,_,_,_,_]:=H.pick [0,3,4,5,6,7,8]
 have H:=Z.rejoin H
 refine (zF (Y _ _ ?_))
 refine zB fun a6 aj=>zA<| zI (i6 0)<| RN aj ?_
 obtain ⟨u,c,ak⟩:=zC c
 refine yG [7,20,21,22,23,24,25,26,27,28,29,30,31,32,33,34,35,36,37,38,39,40,41,42,43,44,45,46,47] (fun (g:Unit)=>[(7,i6 u)]) (fun g wl=>Hd O w wl S [.blk n [l,m,i6 f.last,.bool f.begun] 263,f1 fD j d.told,f1 Rp.bool k d.possible,.tr fJ [l] z s.2,.tr fJ [m] A t.2,.own (Rp.int .i64) h 3 d.rules,.blk o [j,k,h] 218]) ?_ ?_
 ·skip
  refine yD ?_
  obtain ⟨R,c,al⟩:=zC c
  refine yG [20,21,22,23,24,25,26,27,28,29,30,31,32,33] (fun (g:Unit)=>[(20,.bool R)]) (fun g wl=>Hd O w wl S [.blk n [l,m,i6 f.last,.bool f.begun] 263,f1 fD j d.told,f1 Rp.bool k d.possible,.tr fJ [l] z s.2,.tr fJ [m] A t.2,.own (Rp.int .i64) h 3 d.rules,.blk o [j,k,h] 218]) ?_ ?_
  ·skip
   refine zA ?_
   refine zH (i6 t.1) ?_
   obtain ⟨am,an,c⟩:=zD c
   refine zG (zO (yY (a:=t.1) (b:=2) rfl rfl) an)<| yO (b:=am) rfl rfl rfl (fun B=>?_) (fun B=>?_)
   ·have c:=zN B c
    refine yE ?_
    refine yE ?_
    refine yE ?_
    refine yE ?_
    refine yE ?_
    refine yE ?_
    refine yE ?_
    refine yE ?_
    refine yE ?_
    refine zG (yL (v:= .bool true) rfl rfl)<| zI (.bool true) ?_
    obtain rfl:=gG c
    exact (zT (zF (meet ⟨(),(zJ rfl zK),H.pick [0,1,2,3,4,5,6]⟩)))
   have c:=zM B c
   refine zH (i6 s.1) ?_
   obtain ⟨ao,ap,c⟩:=zD c
   refine zG (zO (yY (a:=s.1) (b:=2) rfl rfl) ap)<| yO (b:=ao) rfl rfl rfl (fun C=>?_) (fun C=>?_)
   ·have c:=zN C c
    refine zH (gX n)<| zG (yC rfl)<| zG (aIz rfl)<| Ld fG H 0 2 rfl rfl ?_
    obtain ⟨D,aq,c⟩:=zD c
    refine zG (zO (yY (a:=f.last) (b:=2) rfl rfl) aq)<| zG (yL (v:= .bool D) rfl rfl)<| zG (yF (v:= .bool D) rfl rfl)<| zI (.bool D) ?_
    obtain rfl:=gG c
    exact (zT (zF (meet ⟨(),(zJ rfl zK),H.pick [0,1,2,3,4,5,6]⟩)))
   have c:=zM C c
   refine yE ?_
   refine yE ?_
   refine yE ?_
   refine yE ?_
   refine yE ?_
   refine zG (yF (v:= .bool false) rfl rfl)<| zG (yF (v:= .bool false) rfl rfl)<| zI (.bool false) ?_
   obtain rfl:=gG c
   exact (zT (zF (meet ⟨(),(zJ rfl zK),H.pick [0,1,2,3,4,5,6]⟩)))
  rintro _ ρ a7 H
  have c:=al
  refine zW (b:=R) rfl (fun E=>?_) (fun E=>?_)
  ·have c:=zN E c
   refine zA ?_
   refine zI (i6 2) ?_
   obtain rfl:=gG c
   exact (zT (yJ (zF (meet ⟨(),(zJ rfl zK),H.pick [0,1,2,3,4,5,6]⟩))))
  have c:=zM E c
  obtain ⟨T,c,ar⟩:=zC c
  refine yG [34,35,36,37,38,39,40,41,42,43,44,45,46,47] (fun (g:Unit)=>[(34,.bool T)]) (fun g wl=>Hd O w wl S [.blk n [l,m,i6 f.last,.bool f.begun] 263,f1 fD j d.told,f1 Rp.bool k d.possible,.tr fJ [l] z s.2,.tr fJ [m] A t.2,.own (Rp.int .i64) h 3 d.rules,.blk o [j,k,h] 218]) ?_ ?_
  ·skip
   refine zA ?_
   refine zH (i6 t.1) ?_
   obtain ⟨au,av,c⟩:=zD c
   refine zG (zO (yY (a:=t.1) (b:=1) rfl rfl) av)<| yO (b:=au) rfl rfl rfl (fun F=>?_) (fun F=>?_)
   ·have c:=zN F c
    refine zH (i6 s.1) ?_
    obtain ⟨aw,ax,c⟩:=zD c
    refine zG (zO (yY (a:=s.1) (b:=1) rfl rfl) ax)<| yO (b:=aw) rfl rfl rfl (fun G=>?_) (fun G=>?_)
    ·have c:=zN G c
     refine yE ?_
     refine yE ?_
     refine yE ?_
     refine yE ?_
     refine yE ?_
     refine zG (yL (v:= .bool true) rfl rfl)<| zG (yL (v:= .bool true) rfl rfl)<| zI (.bool true) ?_
     obtain rfl:=gG c
     exact (zT (zF (meet ⟨(),(zJ rfl zK),H.pick [0,1,2,3,4,5,6]⟩)))
    have c:=zM G c
    refine zH (gX n)<| zG (yC rfl)<| zG (aIz rfl)<| Ld fG H 0 2 rfl rfl ?_
    obtain ⟨I,ay,c⟩:=zD c
    refine zG (zO (yY (a:=f.last) (b:=1) rfl rfl) ay)<| zG (yF (v:= .bool I) rfl rfl)<| zG (yL (v:= .bool I) rfl rfl)<| zI (.bool I) ?_
    obtain rfl:=gG c
    exact (zT (zF (meet ⟨(),(zJ rfl zK),H.pick [0,1,2,3,4,5,6]⟩)))
   have c:=zM F c
   refine yE ?_
   refine yE ?_
   refine yE ?_
   refine yE ?_
   refine yE ?_
   refine yE ?_
   refine yE ?_
   refine yE ?_
   refine yE ?_
   refine zG (yF (v:= .bool false) rfl rfl)<| zI (.bool false) ?_
   obtain rfl:=gG c
   exact (zT (zF (meet ⟨(),(zJ rfl zK),H.pick [0,1,2,3,4,5,6]⟩)))
  rintro _ ρ a8 H
  have c:=ar
  refine zW (b:=T) rfl (fun J=>?_) (fun J=>?_)
  ·have c:=zN J c
   refine zA ?_
   refine zI (i6 1) ?_
   obtain rfl:=gG c
   exact (zT (yJ (zF (meet ⟨(),(zJ rfl zK),H.pick [0,1,2,3,4,5,6]⟩))))
  have c:=zM J c
  obtain rfl:=gG c
  exact (zZ (yJ (zF (meet ⟨(),(zJ rfl zK),H.pick [0,1,2,3,4,5,6]⟩))))
 rintro _ ρ a9 H
 have c:=ak
 refine zB fun ba az=>zA<| zH (gX n)<| zH (gX n)<| zH (i6 u)<| zG (yC rfl)<| zG (aIz rfl)<| yX rfl (xR H 0 rfl sz3 rfl (v:=i6 u) rfl rfl rfl) ?_
 rintro bb H
 refine zG (yC rfl)<| zG (fa263_3 rfl)<| yX rfl (xR H 0 rfl sz4 rfl (v:= .bool true) rfl rfl rfl) ?_
 rintro bc H
 refine RN az<| zB fun bd a0=>zA<| zH (i6 u)<| zI (i6 u)<| RN a0 ?_
 obtain rfl:=gG c
 refine (zX (gV (v1:=i6 u) rfl rfl ?_))
 exact ⟨l,z,m,A,rfl,H.pick [3,4,0,5,6]⟩
end Go.Proofs.YthllgjnlmjpinaaGreatDoor.L
