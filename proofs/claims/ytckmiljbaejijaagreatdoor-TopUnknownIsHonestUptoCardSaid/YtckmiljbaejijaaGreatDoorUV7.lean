/- Walks: what each function computes, for every argument; no condition but those that stand in the statements. -/
import Derived.Test.YtckmiljbaejijaaGreatDoorUV0
import Derived.Test.YtckmiljbaejijaaGreatDoorUV6
namespace Go.Proofs.YtckmiljbaejijaaGreatDoor.L
open Go.RowKit Go.OB Go.Lf
set_option maxHeartbeats 4000000
theorem Fanw (m:List gZ)(k:Int)(v1:Value)(r:(List fO))(c:Fan m k=some r)(O S:List Nat)(w:World)(H:Hd O w w S [f1 fG v1 m]):
  Calls Tryz.prog 77 ([v1,i6 k]:List Value).toArray w fun e z=> ∃u3,e= .returned (u3)∧Hd O w z S [.own gQ u3 148 r]:=by
 unfold Fan at c
 refine zZ 37 Tryz.func77 rfl rfl rfl ?_
 refine zC fun K4 A=>zB<| zK (.slice none 0 0)<| zG (zA (A _ _ ?_))
 refine zC fun K5 B=>zB<| zK (.slice none 0 0)<| zG (zA (B _ _ ?_))
 obtain ⟨q,c,C⟩:=zF c
 refine yH [5,7,8,9,10,11,12,13,14,15,16,17,18,19,20,21,22,23,24,25,26,27,28,29,30,31,32,33,34,35] (fun (g:Value)=>[(5,g)]) (fun g wl=>Hd O w wl S [.own gQ g 148 q]) ?_ ?_
 ·skip
  refine zC fun aw D=>zB<| zJ v1 ?_
  obtain ⟨E,F,c⟩:=zD c
  obtain ⟨ax,ay,G⟩:=SlF.len ((H.item (i:=0) rfl))
  refine zH (yO (xI u27 G) (congrArg (Value.int .i64) F))<| zJ (i6 0)<| zG (zA (D _ _ ?_))
  refine yC ?_
  have H:=aU H gQ 148
  unfold Feo at c
  obtain ⟨I,s,J,c⟩:=yR c
  refine xA [5,7,8,9,12,13,14,15,16,17,18,19,20,21,22,23,24,25,26,27,28,29,30,31,32,33,34,35] (fun (g:Nat×(List fO)×Int×Value)=>[(5,g.2.2.2),(12,i6 g.2.2.1)]) (fun g wl=>Hd O w wl S [.own gQ g.2.2.2 148 g.2.1,f1 fG v1 m]∧fV I g.1 (g.2.1,g.2.2.1)=some q) (fun g=>g.1) (s,[],0,.slice none 0 0) (zI rfl (zI rfl zL)) ⟨H.pick [1,0] (by decide),c⟩ ?_
  clear H c
  rintro ⟨s,az,n,t⟩ ρ a0 ⟨H,c⟩
  obtain ⟨K,rfl,c⟩:=yV c
  have c:=yU J c
  refine zC fun a1 L=>zB ?_
  obtain ⟨M,P,c⟩:=zD c
  refine zH (zM (xK (a:=n) (b:=E) rfl rfl) P)<| zG (zA (L _ _ ?_))
  refine zC fun a2 Q=>?_
  refine zW (b:=M) rfl (fun o=>?_) (fun o=>?_)
  ·have c:=zN o c
   refine zX (zA (Q _ _ ?_))
   refine zC fun a3 R=>?_
   refine yC ?_
   refine zC fun a4 T=>zB ?_
   obtain ⟨f,p,c⟩:=zF c
   obtain ⟨U,V,a5,a6,X,Y,Z,aa,ab⟩:=wH (H.item (i:=1) rfl) p
   obtain ⟨j,rfl,ac⟩:=kK Y
   have H:=H.fzs [.at U (V+n.toNat * 4) _,.sl fP j f.Series.Samples] ⟨⟨Z,aa,ab⟩,ac,trivial⟩
   refine zH (yT u27 sz37 X rfl (zS p).1 (zS p).2.1 rfl rfl)<| zH (yO (yN (cs:=[sb f.Name,i6 f.Series.Den,j,i6 f.Long]) agg37 rfl sz37 rfl (H.item (i:=2) rfl).2.2) rfl)<| yY rfl rfl (xN zero37 H) ?_
   rintro _ a7 ⟨a8,rfl,H⟩
   refine xB rfl (xC (vs:=[sb f.Name,i6 f.Series.Den,j,i6 f.Long]) H 4 rfl sz37 rfl rfl rfl ⟨rfl,rfl,(dU (H.item (i:=3) rfl)),rfl,trivial⟩ rfl) ?_
   rintro a9 H
   refine zG (zA (T _ _ ?_))
   refine zC fun ba ad=>zB<| zH (fa37_1 rfl)<| zH (yO (yN (cs:=[i6 f.Series.Den,j]) agg35 rfl sz35 rfl (Cells.drop (Hbc H 4 rfl) 1 2)) rfl)<| zJ (i6 k) ?_
   obtain ⟨ae,af,c⟩:=zD c
   refine zH (Do_mul (a:=64) (b:=k) rfl rfl af) ?_
   obtain ⟨ag,ah,c⟩:=zD c
   refine zH (xJ (a:=ae) (b:=64) rfl rfl ah) ?_
   obtain ⟨ai,aj,c⟩:=zD c
   refine zH (aZ (a:=ag) (b:=1) rfl rfl aj)<| zH (fa37_2 rfl)<| Ld fU H 4 3 rfl rfl ?_
   have ak:=H
   obtain ⟨⟨d,h⟩,al,c⟩:=zF c
   refine yG rfl rfl (yB en140 rfl) (Fbrw f.Series ai f.Long j _ al _ _ _ (H.enter [] [3] (by decide) rfl)) ?_
   rintro _ bb ⟨rfl,am⟩
   have H:=ak.step (am.only:Only [] _ _)
   refine ⟨_,rfl,?_⟩
   refine zJ (.tuple #[.agg [i6 d.At,i6 d.N,i6 d.Mark].toArray,.bool h])<| zH (xW (v:= .agg [i6 d.At,i6 d.N,i6 d.Mark].toArray) rfl rfl)<| zH (xW (v:= .bool h) rfl rfl)<| yY rfl rfl (xN zero40 H) ?_
   rintro _ bc ⟨bd,rfl,H⟩
   refine xB rfl (xC (vs:=[i6 d.At,i6 d.N,i6 d.Mark]) H 5 rfl sz40 rfl rfl rfl ⟨rfl,rfl,rfl,trivial⟩ rfl) ?_
   rintro be H
   refine zK (.bool h)<| zG (zA (ad _ _ ?_))
   refine zB ?_
   refine zJ t<| zH (fa40_1 rfl)<| Ld fU H 5 1 rfl rfl<| zJ (.bool h)<| zH (xO (cs:=[i6 d.N,.bool h]) (bt148_0_1 _ _)) ?_
   obtain ⟨bf,an,c⟩:=zD c
   subst an
   refine yY rfl rfl (Lx_bs (r:=gQ) (xl:=[fO.mk d.N h]) (cs:=[i6 d.N,.bool h]) u55 el148 (by decide) (by decide) rfl (wG (vs:=[.agg [i6 d.N,.bool h].toArray]) (by decide) rfl rfl ⟨rfl,trivial⟩ rfl) H ⟨[i6 d.N,.bool h],[],rfl,(rToldT_mk (x:=fO.mk d.N h)),rfl⟩) ?_
   rintro bg bh H
   obtain ⟨ao,ap,c⟩:=zF c
   refine yY rfl rfl (Lx_app H (i:=0) rfl u55 el148 rfl rfl (Sr.of_own (H.item (i:=6) rfl)) ap) ?_
   rintro u bi H
   refine zK u<| (zG (yK (zA (R _ _ ?_))))
   refine zB ?_
   obtain ⟨y,aq,c⟩:=zD c
   refine zH (xJ (a:=n) (b:=1) rfl rfl aq)<| zJ (i6 y) ?_
   exact (zG (zA (meet ⟨(K,ao,y,u),(zI rfl (zI rfl zL)),⟨H.pick [0,1] (by decide),c⟩,Nat.lt_succ_self _⟩)))
  have c:=zO o c
  obtain rfl:=gI c
  exact (xH (yL (yL (yS (zA (meet ⟨t,(zI rfl zL),H.pick [0] (by decide)⟩))))))
 rintro l ρ bj H
 have c:=C
 refine zC fun bk ar=>zB<| zJ l<| zK l<| zG (zA (ar _ _ ?_))
 obtain rfl:=gI c
 refine (zY (gX (v1:=l) rfl rfl ?_))
 exact ⟨l,rfl,H.pick [0] (by decide)⟩
theorem Fak {F:Nat→Prop}{w:World}{v:Value}{bs:List Nat}{x:Nd}(h:(Th.tr fC [v] bs x).holds F w): ∃f r,MethodOf Tryz.prog "orangebox/event.step" v f r:=by
 obtain ⟨u,e,h⟩:=h
 obtain rfl:v=u:=by simpa using e
 cases h
 ·exact ⟨_,_,dJ (f:=325) (p:=false) (by kernel_rfl) (by kernel_rfl) en325⟩
 ·exact ⟨_,_,dJ (f:=327) (p:=false) (by kernel_rfl) (by kernel_rfl) en327⟩
 ·exact ⟨_,_,dJ (f:=332) (p:=false) (by kernel_rfl) (by kernel_rfl) en332⟩
 ·exact ⟨_,_,dJ (f:=310) (p:=true) (by kernel_rfl) (by kernel_rfl) en310⟩
 ·exact ⟨_,_,dJ (f:=335) (p:=false) (by kernel_rfl) (by kernel_rfl) en335⟩
 ·exact ⟨_,_,dJ (f:=337) (p:=false) (by kernel_rfl) (by kernel_rfl) en337⟩
 ·exact ⟨_,_,dJ (f:=316) (p:=true) (by kernel_rfl) (by kernel_rfl) en316⟩
 ·exact ⟨_,_,dJ (f:=319) (p:=true) (by kernel_rfl) (by kernel_rfl) en319⟩
 ·exact ⟨_,_,dJ (f:=313) (p:=true) (by kernel_rfl) (by kernel_rfl) en313⟩
 ·exact ⟨_,_,dJ (f:=321) (p:=true) (by kernel_rfl) (by kernel_rfl) en321⟩
 exact ⟨_,_,dJ (f:=323) (p:=true) (by kernel_rfl) (by kernel_rfl) en323⟩
abbrev Fat (f:Nd→gG→Option (Int×Nd)):Prop:= ∀(p0:Nd) (p1:gG) (v1:Value) (bs1:List Nat) (b1:Nat) (v52:Value) (v53:Value) (v54:Value) (fid:FuncId) (rv:Value) (hm:MethodOf Tryz.prog "orangebox/event.step" v1 fid rv) (r:Int×Nd) (_:f p0 p1=some r) (O S:List Nat) (w:World) (_:Hd O w w S [.tr fC [v1] bs1 p0,.own (Rp.int .i64) v54 3 p1.rules,.blk b1 [v52,v53,v54] 222,f1 gQ v52 p1.told,f1 Rp.bool v53 p1.possible]),
  Calls Tryz.prog fid ([rv,gW b1]:List Value).toArray w fun e w'=> ∃bs',e= .returned (i6 r.1)∧Hd O w w' S [.tr fC [v1] bs' r.2,.own (Rp.int .i64) v54 3 p1.rules,.blk b1 [v52,v53,v54] 222]
theorem Fdnw (a:EventConstant)(b:gG)(d:Nat)(f:Value)(h:Value)(c:Value)(r:Int)(i:Fdn a b=some r)(O S:List Nat)(w:World)(H:Hd O w w S [.own (Rp.int .i64) c 3 b.rules,.blk d [f,h,c] 222,f1 gQ f b.told,f1 Rp.bool h b.possible]):
  Calls Tryz.prog 325 ([.agg [i6 a.truth].toArray,gW d]:List Value).toArray w fun e j=>e= .returned (i6 r)∧Hd O w j S [.own (Rp.int .i64) c 3 b.rules,.blk d [f,h,c] 222]:=by
 unfold Fdn at i
 refine zZ 7 Tryz.func325 rfl rfl rfl ?_
 refine zC fun m k=>zB<| yY rfl rfl (xR (cs:=[i6 a.truth]) rfl H) ?_
 rintro _ n ⟨o,rfl,H⟩
 refine zK (i6 0)<| zG (zA (k _ _ ?_))
 refine zC fun p l=>zB<| zH (fa277_0 rfl)<| Ld fU H 4 0 rfl rfl<| zK (i6 a.truth)<| zG (zA (l _ _ ?_))
 obtain rfl:=gI i
 refine (zY (gX (v1:=i6 a.truth) rfl rfl ?_))
 exact ⟨rfl,H.pick [0,1] (by decide)⟩
theorem Faiw (d:Int)(r:Int)(c:Fai d=some r)(O S:List Nat)(w:World)(H:Hd O w w S []):
  Calls Tryz.prog 330 ([i6 d]:List Value).toArray w fun e k=>e= .returned (i6 r)∧Hd O w k S []:=by
 unfold Fai at c
 refine zZ 9 Tryz.func330 rfl rfl rfl ?_
 refine zC fun v l=>zB<| zK (i6 0)<| zG (zA (l _ _ ?_))
 refine zC fun x m=>?_
 refine yC ?_
 refine zC fun y n=>zB<| zJ (i6 d) ?_
 obtain ⟨i,o,c⟩:=zD c
 refine zH (zM (xK (a:=d) (b:=0) rfl rfl) o)<| zK (.bool i)<| zG (zA (n _ _ ?_))
 refine zW (b:=i) rfl (fun f=>?_) (fun f=>?_)
 ·have c:=zN f c
  refine zC fun z p=>zB<| zK (i6 (-1))<| zG (zA (p _ _ ?_))
  obtain rfl:=gI c
  refine (zY (yD (zT (gX (v1:=i6 (-1)) rfl rfl ?_))))
  exact ⟨rfl,H.pick [] (by decide)⟩
 have c:=zO f c
 refine zC fun A q=>zB<| zJ (i6 d) ?_
 obtain ⟨j,s,c⟩:=zD c
 refine zH (zM (bM (a:=d) (b:=0) rfl rfl) s)<| zK (.bool j)<| zG (zA (q _ _ ?_))
 refine zW (b:=j) rfl (fun h=>?_) (fun h=>?_)
 ·have c:=zN h c
  refine zC fun B t=>zB<| zK (i6 1)<| zG (zA (t _ _ ?_))
  obtain rfl:=gI c
  refine (zY (yD (zT (gX (v1:=i6 1) rfl rfl ?_))))
  exact ⟨rfl,H.pick [] (by decide)⟩
 have c:=zO h c
 refine (zX (yK (zA (m _ _ ?_))))
 refine zC fun C u=>zB<| zK (i6 0)<| zG (zA (u _ _ ?_))
 obtain rfl:=gI c
 refine (zY (gX (v1:=i6 0) rfl rfl ?_))
 exact ⟨rfl,H.pick [] (by decide)⟩
set_option maxRecDepth 100000 in
theorem Faww (f:Int)(d:Int)(r:Bool)(c:Faw f d=some r)(O S:List Nat)(w:World)(H:Hd O w w S []):
  Calls Tryz.prog 329 ([i6 f,i6 d]:List Value).toArray w fun e z=>e= .returned (.bool r)∧Hd O w z S []:=by
 unfold Faw at c
 refine zZ 28 Tryz.func329 rfl rfl rfl ?_
 refine zC fun K1 A=>zB<| zK (.bool false)<| zG (zA (A _ _ ?_))
 refine zC fun ae B=>?_
 refine zC fun af C=>zB<| zJ (i6 f)<| zG (zA (C _ _ ?_))
 refine yC ?_
 refine zC fun ag D=>zB ?_
 obtain ⟨m,E,c⟩:=zD c
 refine zH (zM (yZ (a:=f) (b:=1) rfl rfl) E)<| zK (.bool m)<| zG (zA (D _ _ ?_))
 refine zW (b:=m) rfl (fun h=>?_) (fun h=>?_)
 ·have c:=zN h c
  refine zC fun ah F=>zB<| zJ (i6 d) ?_
  obtain ⟨n,G,c⟩:=zD c
  refine zH (zM (xK (a:=d) (b:=0) rfl rfl) G)<| zK (.bool n)<| zG (zA (F _ _ ?_))
  obtain rfl:=gI c
  refine (zY (yD (zT (gX (v1:= .bool n) rfl rfl ?_))))
  exact ⟨rfl,H.pick [] (by decide)⟩
 have c:=zO h c
 refine zC fun ai I=>zB ?_
 obtain ⟨o,J,c⟩:=zD c
 refine zH (zM (yZ (a:=f) (b:=2) rfl rfl) J)<| zK (.bool o)<| zG (zA (I _ _ ?_))
 refine zW (b:=o) rfl (fun i=>?_) (fun i=>?_)
 ·have c:=zN i c
  refine zC fun aj K=>zB<| zJ (i6 d) ?_
  obtain ⟨p,L,c⟩:=zD c
  refine zH (zM (Do_leq (a:=d) (b:=0) rfl rfl) L)<| zK (.bool p)<| zG (zA (K _ _ ?_))
  obtain rfl:=gI c
  refine (zY (yD (zT (gX (v1:= .bool p) rfl rfl ?_))))
  exact ⟨rfl,H.pick [] (by decide)⟩
 have c:=zO i c
 refine zC fun ak M=>zB ?_
 obtain ⟨q,N,c⟩:=zD c
 refine zH (zM (yZ (a:=f) (b:=3) rfl rfl) N)<| zK (.bool q)<| zG (zA (M _ _ ?_))
 refine zW (b:=q) rfl (fun j=>?_) (fun j=>?_)
 ·have c:=zN j c
  refine zC fun al P=>zB<| zJ (i6 d) ?_
  obtain ⟨s,Q,c⟩:=zD c
  refine zH (zM (yZ (a:=d) (b:=0) rfl rfl) Q)<| zK (.bool s)<| zG (zA (P _ _ ?_))
  obtain rfl:=gI c
  refine (zY (yD (zT (gX (v1:= .bool s) rfl rfl ?_))))
  exact ⟨rfl,H.pick [] (by decide)⟩
 have c:=zO j c
 refine zC fun am R=>zB ?_
 obtain ⟨t,T,c⟩:=zD c
 refine zH (zM (yZ (a:=f) (b:=4) rfl rfl) T)<| zK (.bool t)<| zG (zA (R _ _ ?_))
 refine zW (b:=t) rfl (fun k=>?_) (fun k=>?_)
 ·have c:=zN k c
  refine zC fun an U=>zB<| zJ (i6 d) ?_
  obtain ⟨u,V,c⟩:=zD c
  refine zH (zM (wL (a:=d) (b:=0) rfl rfl) V)<| zK (.bool u)<| zG (zA (U _ _ ?_))
  obtain rfl:=gI c
  refine (zY (yD (zT (gX (v1:= .bool u) rfl rfl ?_))))
  exact ⟨rfl,H.pick [] (by decide)⟩
 have c:=zO k c
 refine zC fun ao X=>zB ?_
 obtain ⟨v,Y,c⟩:=zD c
 refine zH (zM (yZ (a:=f) (b:=5) rfl rfl) Y)<| zK (.bool v)<| zG (zA (X _ _ ?_))
 refine zW (b:=v) rfl (fun l=>?_) (fun l=>?_)
 ·have c:=zN l c
  refine zC fun ap Z=>zB<| zJ (i6 d) ?_
  obtain ⟨x,aa,c⟩:=zD c
  refine zH (zM (aJ (a:=d) (b:=0) rfl rfl) aa)<| zK (.bool x)<| zG (zA (Z _ _ ?_))
  obtain rfl:=gI c
  refine (zY (yD (zT (gX (v1:= .bool x) rfl rfl ?_))))
  exact ⟨rfl,H.pick [] (by decide)⟩
 have c:=zO l c
 refine (zX (yK (zA (B _ _ ?_))))
 refine zC fun aq ab=>zB<| zJ (i6 d) ?_
 obtain ⟨y,ac,c⟩:=zD c
 refine zH (zM (bM (a:=d) (b:=0) rfl rfl) ac)<| zK (.bool y)<| zG (zA (ab _ _ ?_))
 obtain rfl:=gI c
 refine (zY (gX (v1:= .bool y) rfl rfl ?_))
 exact ⟨rfl,H.pick [] (by decide)⟩
theorem Fbiw (c:Bool)(r:Int)(a:Fbi c=some r)(O S:List Nat)(w:World)(H:Hd O w w S []):
  Calls Tryz.prog 328 ([.bool c]:List Value).toArray w fun e f=>e= .returned (i6 r)∧Hd O w f S []:=by
 unfold Fbi at a
 refine zZ 4 Tryz.func328 rfl rfl rfl ?_
 refine zC fun m h=>zB<| zK (i6 0)<| zG (zA (h _ _ ?_))
 refine zC fun n i=>?_
 refine zC fun o j=>zB<| zJ (.bool c)<| zG (zA (j _ _ ?_))
 refine zW (b:=c) rfl (fun d=>?_) (fun d=>?_)
 ·have a:=zN d a
  refine zC fun p k=>zB<| zK (i6 2)<| zG (zA (k _ _ ?_))
  obtain rfl:=gI a
  refine (zY (zT (gX (v1:=i6 2) rfl rfl ?_)))
  exact ⟨rfl,H.pick [] (by decide)⟩
 have a:=zO d a
 refine zX (zA (i _ _ ?_))
 refine zC fun q l=>zB<| zK (i6 1)<| zG (zA (l _ _ ?_))
 obtain rfl:=gI a
 refine (zY (gX (v1:=i6 1) rfl rfl ?_))
 exact ⟨rfl,H.pick [] (by decide)⟩
theorem Fasw (h:aG)(k:gG)(l:Nat)(o:Value)(q:Value)(m:Value)(r:Int)(c:Fas h k=some r)(O S:List Nat)(w:World)(H:Hd O w w S [.own (Rp.int .i64) m 3 k.rules,.blk l [o,q,m] 222,f1 gQ o k.told,f1 Rp.bool q k.possible]):
  Calls Tryz.prog 327 ([.agg [i6 h.track,i6 h.op,i6 h.n].toArray,gW l]:List Value).toArray w fun e d=>e= .returned (i6 r)∧Hd O w d S [.own (Rp.int .i64) m 3 k.rules,.blk l [o,q,m] 222]:=by
 unfold Fas at c
 refine zZ 27 Tryz.func327 rfl rfl rfl ?_
 refine zC fun K9 z=>zB<| yY rfl rfl (xR (cs:=[i6 h.track,i6 h.op,i6 h.n]) rfl H) ?_
 rintro _ ae ⟨af,rfl,H⟩
 refine zK (i6 0)<| zG (zA (z _ _ ?_))
 refine zC fun ag A=>?_
 have B:=H
 have H:=H.rebase
 have ah:=H
 refine xX H [0,1,2,3,4,5,6,7,8,9] (kz [0,0,0,1,0,1,0,1,2,3]) mixed ?_
 refine XM (gW l)<| XP (fun _ _=>yA rfl)<| XP (fun _ _=>fa222_0 rfl)<| XR one55 H 1 0 rfl rfl<| XP (fun _ _=>fa279_0 rfl)<| XR fU H 4 0 rfl rfl ?_
 obtain ⟨j,s,c⟩:=zF c
 obtain ⟨C,D,ai,aj,E,F,G,I,J⟩:=wH (H.item (i:=2) rfl) s
 obtain rfl:=rToldT_open F
 have H:=H.fz (.at C (D+h.track.toNat * 2) _) ⟨G,I,J⟩
 refine XP (fun _ _=>yT u55 sz148 E rfl (zS s).1 (zS s).2.1 rfl rfl)<| MxM.xP oS rfl rfl rfl (fun d f=>yO (yN (cs:=[i6 j.N,.bool j.Known]) agg148 rfl sz148 rfl ((H.sees f).item (i:=5) rfl).2.2) rfl)<| MxM.XL_exN oS rfl rfl rfl (fun d f=>Ls_of (xN zero148 (H.sees f)) (Ys_alloc zero148)) ?_
 rintro d _ ak f ⟨al,rfl,H⟩
 refine MxM.XL_exU oS rfl rfl (fun d f=>xC (vs:=[i6 j.N,.bool j.Known]) (H.sees f) 6 rfl sz148 rfl rfl rfl ⟨rfl,rfl,trivial⟩ rfl) ?_
 rintro d am f H
 refine ⟨H.only,?_⟩
 refine MxM.xE fun an hS=>?_
 have H:=H.sees hS
 have H:=B.rejoin H
 refine (zA (A _ _ ?_))
 refine zC fun ao K=>?_
 refine zC fun ap L=>zB<| zH (fa148_1 rfl)<| Ld one4 H 6 1 rfl rfl ?_
 obtain ⟨M,P,c⟩:=zD c
 refine zH (zM (wJ (p:=j.Known) rfl) P)<| zG (zA (L _ _ ?_))
 refine zW (b:=M) rfl (fun t=>?_) (fun t=>?_)
 ·have c:=zN t c
  refine zC fun aq Q=>zB<| zK (i6 0)<| zG (zA (Q _ _ ?_))
  obtain rfl:=gI c
  refine (zY (zT (gX (v1:=i6 0) rfl rfl ?_)))
  exact ⟨rfl,H.pick [0,1] (by decide)⟩
 have c:=zO t c
 refine zX (zA (K _ _ ?_))
 refine zC fun ar R=>?_
 have T:=H
 have H:=H.rebase
 have au:=H
 refine xX H [0,1,2,3,4,5,6,7,8,9,10] (kz [0,1,0,1,0,1,0,4,4,4,0]) mixed ?_
 refine XP (fun _ _=>fa279_1 rfl)<| XR fU H 4 1 rfl rfl<| XP (fun _ _=>fa148_0 rfl)<| XR fU H 6 0 rfl rfl<| XP (fun _ _=>fa279_2 rfl)<| XR fU H 4 2 rfl rfl ?_
 obtain ⟨U,V,c⟩:=zD c
 refine XP (fun _ _=>aZ (a:=j.N) (b:=h.n) rfl rfl V) ?_
 have X:=H
 obtain ⟨x,Y,c⟩:=zF c
 refine MxM.XL_fcall oS rfl rfl rfl (v:=i6 x) (fun d f=>yB en330 rfl) (fun d f=>dG (Faiw U _ Y _ _ _ (Hd.fresh0 d))) ?_
 have H:=X
 have Z:=H
 obtain ⟨y,aa,c⟩:=zF c
 refine MxM.XL_fcall oS rfl rfl rfl (v:= .bool y) (fun d f=>yB en329 rfl) (fun d f=>dG (Faww h.op x _ aa _ _ _ (Hd.fresh0 d))) ?_
 have H:=Z
 have ab:=H
 obtain ⟨u,ac,c⟩:=zF c
 refine MxM.XL_fcall oS rfl rfl rfl (v:=i6 u) (fun d f=>yB en328 rfl) (fun d f=>dG (Fbiw y _ ac _ _ _ (Hd.fresh0 d))) ?_
 have H:=ab
 refine XP (fun _ _=>xM (v:=i6 u) rfl)<| MxM.xE fun av hS=>?_
 have H:=H.sees hS
 have H:=T.rejoin H
 refine (zA (R _ _ ?_))
 obtain rfl:=gI c
 refine (zY (gX (v1:=i6 u) rfl rfl ?_))
 exact ⟨rfl,H.pick [0,1] (by decide)⟩
theorem Fbqw (d:Int)(f:Int)(r:Int×Int)(c:Fbq d f=some r)(O S:List Nat)(w:World)(H:Hd O w w S []):
  Calls Tryz.prog 270 ([.int .u64 d,.int .u64 f]:List Value).toArray w fun e v=>e= .returned (.tuple #[.int .u64 r.1,.int .u64 r.2])∧Hd O w v S []:=by
 unfold Fbq at c
 refine zZ 51 Tryz.func270 rfl rfl rfl ?_
 refine zC fun K1 x=>zB<| zK (.int .u64 0)<| zK (.int .u64 0)<| zG (zA (x _ _ ?_))
 refine zC fun K2 y=>zB<| zJ (.int .u64 d) ?_
 obtain ⟨h,z,c⟩:=zD c
 refine zH (Do_and (a:=d) (b:=4294967295) rfl rfl z)<| zK (.int .u64 h)<| zG (zA (y _ _ ?_))
 refine zC fun K5 A=>zB<| zJ (.int .u64 d) ?_
 obtain ⟨i,B,c⟩:=zF c
 refine zH (Do_shr' (j:=d) (q:=32) rfl rfl B)<| zK (.int .u64 i)<| zG (zA (A _ _ ?_))
 refine zC fun K8 C=>zB<| zJ (.int .u64 f) ?_
 obtain ⟨k,D,c⟩:=zD c
 refine zH (Do_and (a:=f) (b:=4294967295) rfl rfl D)<| zK (.int .u64 k)<| zG (zA (C _ _ ?_))
 refine zC fun ao E=>zB<| zJ (.int .u64 f) ?_
 obtain ⟨l,F,c⟩:=zF c
 refine zH (Do_shr' (j:=f) (q:=32) rfl rfl F)<| zK (.int .u64 l)<| zG (zA (E _ _ ?_))
 refine zC fun ap G=>zB<| zJ (.int .u64 h)<| zJ (.int .u64 k) ?_
 obtain ⟨n,I,c⟩:=zD c
 refine zH (Do_mul (a:=h) (b:=k) rfl rfl I)<| zK (.int .u64 n)<| zG (zA (G _ _ ?_))
 refine zC fun aq J=>zB<| zJ (.int .u64 i)<| zJ (.int .u64 k) ?_
 obtain ⟨K,L,c⟩:=zD c
 refine zH (Do_mul (a:=i) (b:=k) rfl rfl L)<| zJ (.int .u64 n) ?_
 obtain ⟨M,N,c⟩:=zF c
 refine zH (Do_shr' (j:=n) (q:=32) rfl rfl N) ?_
 obtain ⟨m,P,c⟩:=zD c
 refine zH (xJ (a:=K) (b:=M) rfl rfl P)<| zK (.int .u64 m)<| zG (zA (J _ _ ?_))
 refine zC fun ar Q=>zB<| zJ (.int .u64 m) ?_
 obtain ⟨o,R,c⟩:=zD c
 refine zH (Do_and (a:=m) (b:=4294967295) rfl rfl R)<| zK (.int .u64 o)<| zG (zA (Q _ _ ?_))
 refine zC fun au T=>zB<| zJ (.int .u64 m) ?_
 obtain ⟨p,U,c⟩:=zF c
 refine zH (Do_shr' (j:=m) (q:=32) rfl rfl U)<| zK (.int .u64 p)<| zG (zA (T _ _ ?_))
 refine zC fun av V=>zB<| zJ (.int .u64 o)<| zJ (.int .u64 h)<| zJ (.int .u64 l) ?_
 obtain ⟨X,Y,c⟩:=zD c
 refine zH (Do_mul (a:=h) (b:=l) rfl rfl Y) ?_
 obtain ⟨s,Z,c⟩:=zD c
 refine zH (xJ (a:=o) (b:=X) rfl rfl Z)<| zK (.int .u64 s)<| zG (zA (V _ _ ?_))
 refine zC fun aw aa=>zB<| zJ (.int .u64 i)<| zJ (.int .u64 l) ?_
 obtain ⟨ab,ac,c⟩:=zD c
 refine zH (Do_mul (a:=i) (b:=l) rfl rfl ac)<| zJ (.int .u64 p) ?_
 obtain ⟨ad,ae,c⟩:=zD c
 refine zH (xJ (a:=ab) (b:=p) rfl rfl ae)<| zJ (.int .u64 s) ?_
 obtain ⟨af,ag,c⟩:=zF c
 refine zH (Do_shr' (j:=s) (q:=32) rfl rfl ag) ?_
 obtain ⟨t,ah,c⟩:=zD c
 refine zH (xJ (a:=ad) (b:=af) rfl rfl ah)<| zK (.int .u64 t)<| zG (zA (aa _ _ ?_))
 refine zC fun ax ai=>zB<| zJ (.int .u64 d)<| zJ (.int .u64 f) ?_
 obtain ⟨u,aj,c⟩:=zD c
 refine zH (Do_mul (a:=d) (b:=f) rfl rfl aj)<| zK (.int .u64 u)<| zG (zA (ai _ _ ?_))
 obtain rfl:=gI c
 refine (zY (post2 (v1:= .int .u64 t) (v2:= .int .u64 u) rfl rfl rfl ?_))
 exact ⟨rfl,H.pick [] (by decide)⟩
set_option maxRecDepth 100000 in
theorem Fbaw (i:Int)(o:Int)(l:Int)(p:Int)(r:Int)(c:Fba i o l p=some r)(O S:List Nat)(w:World)(H:Hd O w w S []):
  Calls Tryz.prog 333 ([i6 i,i6 o,i6 l,i6 p]:List Value).toArray w fun e F=>e= .returned (i6 r)∧Hd O w F S []:=by
 unfold Fba at c
 refine zZ 75 Tryz.func333 rfl rfl rfl ?_
 refine zC fun K1 G=>zB<| zK (i6 0)<| zG (zA (G _ _ ?_))
 refine zC fun bg I=>?_
 refine zC fun bh J=>zB<| zJ (i6 i) ?_
 have K:=H
 obtain ⟨m,L,c⟩:=zF c
 refine yG rfl rfl (yB en330 rfl) (Faiw i _ L _ _ _ (H.enter [] [] (by decide) rfl)) ?_
 rintro _ bi ⟨rfl,M⟩
 have H:=K.step (M.only:Only [] _ _)
 refine ⟨_,rfl,?_⟩
 refine zJ (i6 l) ?_
 have N:=H
 obtain ⟨n,P,c⟩:=zF c
 refine yG rfl rfl (yB en330 rfl) (Faiw l _ P _ _ _ (H.enter [] [] (by decide) rfl)) ?_
 rintro _ bj ⟨rfl,Q⟩
 have H:=N.step (Q.only:Only [] _ _)
 refine ⟨_,rfl,?_⟩
 refine zK (i6 m)<| zK (i6 n)<| zG (zA (J _ _ ?_))
 refine zC fun bk R=>zB<| zJ (i6 m)<| zJ (i6 n) ?_
 obtain ⟨T,U,c⟩:=zD c
 refine zH (zM (wL (a:=m) (b:=n) rfl rfl) U)<| zG (zA (R _ _ ?_))
 refine zW (b:=T) rfl (fun q=>?_) (fun q=>?_)
 ·have c:=zN q c
  refine zC fun bl V=>zB<| zJ (i6 m)<| zJ (i6 n) ?_
  obtain ⟨X,Y,c⟩:=zD c
  refine zH (aZ (a:=m) (b:=n) rfl rfl Y) ?_
  have Z:=H
  obtain ⟨A,aa,c⟩:=zF c
  refine yG rfl rfl (yB en330 rfl) (Faiw X _ aa _ _ _ (H.enter [] [] (by decide) rfl)) ?_
  rintro _ bm ⟨rfl,ab⟩
  have H:=Z.step (ab.only:Only [] _ _)
  refine ⟨_,rfl,?_⟩
  refine zK (i6 A)<| zG (zA (V _ _ ?_))
  obtain rfl:=gI c
  refine (zY (zT (gX (v1:=i6 A) rfl rfl ?_)))
  exact ⟨rfl,H.pick [] (by decide)⟩
 have c:=zO q c
 refine zX (zA (I _ _ ?_))
 refine zC fun bn ac=>zB<| zJ (i6 i) ?_
 have ad:=H
 obtain ⟨d,ae,c⟩:=zF c
 refine yG rfl rfl (yB en330 rfl) (Faiw i _ ae _ _ _ (H.enter [] [] (by decide) rfl)) ?_
 rintro _ bo ⟨rfl,af⟩
 have H:=ad.step (af.only:Only [] _ _)
 refine ⟨_,rfl,?_⟩
 refine zK (i6 d)<| zG (zA (ac _ _ ?_))
 refine zC fun bp ag=>zB<| zJ (i6 i)<| zJ (i6 d) ?_
 obtain ⟨bq,ah,c⟩:=zD c
 refine zH (Do_mul (a:=i) (b:=d) rfl rfl ah) ?_
 obtain ⟨ai,aj,c⟩:=zD c
 refine zH (Do_conv u3 u297 rfl aj)<| zJ (i6 p) ?_
 obtain ⟨ak,al,c⟩:=zD c
 refine zH (Do_conv u3 u297 rfl al) ?_
 have am:=H
 obtain ⟨⟨f,j⟩,an,c⟩:=zF c
 refine yG rfl rfl (yB en270 rfl) (Fbqw ai ak _ an _ _ _ (H.enter [] [] (by decide) rfl)) ?_
 rintro _ br ⟨rfl,ao⟩
 have H:=am.step (ao.only:Only [] _ _)
 refine ⟨_,rfl,?_⟩
 refine zJ (.tuple #[.int .u64 f,.int .u64 j])<| zH (xW (v:= .int .u64 f) rfl rfl)<| zH (xW (v:= .int .u64 j) rfl rfl)<| zK (.int .u64 f)<| zK (.int .u64 j)<| zG (zA (ag _ _ ?_))
 refine zC fun bt ap=>zB<| zJ (i6 l)<| zJ (i6 d) ?_
 obtain ⟨bu,aq,c⟩:=zD c
 refine zH (Do_mul (a:=l) (b:=d) rfl rfl aq) ?_
 obtain ⟨ar,au,c⟩:=zD c
 refine zH (Do_conv u3 u297 rfl au)<| zJ (i6 o) ?_
 obtain ⟨av,aw,c⟩:=zD c
 refine zH (Do_conv u3 u297 rfl aw) ?_
 have ax:=H
 obtain ⟨⟨h,k⟩,ay,c⟩:=zF c
 refine yG rfl rfl (yB en270 rfl) (Fbqw ar av _ ay _ _ _ (H.enter [] [] (by decide) rfl)) ?_
 rintro _ bv ⟨rfl,az⟩
 have H:=ax.step (az.only:Only [] _ _)
 refine ⟨_,rfl,?_⟩
 refine zJ (.tuple #[.int .u64 h,.int .u64 k])<| zH (xW (v:= .int .u64 h) rfl rfl)<| zH (xW (v:= .int .u64 k) rfl rfl)<| zK (.int .u64 h)<| zK (.int .u64 k)<| zG (zA (ap _ _ ?_))
 refine zC fun bw a0=>?_
 refine yC ?_
 obtain ⟨B,c,a1⟩:=zF c
 refine yH [49,50,51,52,53,54,55,56,57,58,59,60,61,62] (fun (g:Unit)=>[(49,.bool B)]) (fun g wl=>Hd O w wl S []) ?_ ?_
 ·skip
  refine zB ?_
  refine zJ (.int .u64 f)<| zJ (.int .u64 h) ?_
  obtain ⟨a2,a3,c⟩:=zD c
  refine zH (zM (xK (a:=f) (b:=h) rfl rfl) a3)<| yM (b:=a2) rfl rfl rfl (fun s=>?_) (fun s=>?_)
  ·have c:=zN s c
   refine yE ?_
   refine yE ?_
   refine yE ?_
   refine yE ?_
   refine yE ?_
   refine yE ?_
   refine yE ?_
   refine yE ?_
   refine zH (yI (v:= .bool true) rfl rfl)<| zK (.bool true) ?_
   obtain rfl:=gI c
   exact (zG (zA (meet ⟨(),(zI rfl zL),H.pick [] (by decide)⟩)))
  have c:=zO s c
  refine zJ (.int .u64 f)<| zJ (.int .u64 h) ?_
  obtain ⟨a4,a5,c⟩:=zD c
  refine zH (zM (yZ (a:=f) (b:=h) rfl rfl) a5)<| yM (b:=a4) rfl rfl rfl (fun t=>?_) (fun t=>?_)
  ·have c:=zN t c
   refine zJ (.int .u64 j)<| zJ (.int .u64 k) ?_
   obtain ⟨u,a6,c⟩:=zD c
   refine zH (zM (xK (a:=j) (b:=k) rfl rfl) a6)<| zH (yI (v:= .bool u) rfl rfl)<| zH (yF (v:= .bool u) rfl rfl)<| zK (.bool u) ?_
   obtain rfl:=gI c
   exact (zG (zA (meet ⟨(),(zI rfl zL),H.pick [] (by decide)⟩)))
  have c:=zO t c
  refine yE ?_
  refine yE ?_
  refine yE ?_
  refine zH (yF (v:= .bool false) rfl rfl)<| zH (yF (v:= .bool false) rfl rfl)<| zK (.bool false) ?_
  obtain rfl:=gI c
  exact (zG (zA (meet ⟨(),(zI rfl zL),H.pick [] (by decide)⟩)))
 rintro _ ρ bx H
 have c:=a1
 refine zW (b:=B) rfl (fun x=>?_) (fun x=>?_)
 ·have c:=zN x c
  refine zC fun bz a7=>zB<| zJ (i6 d) ?_
  obtain ⟨C,a8,c⟩:=zD c
  refine zH (Do_neg (a:=d) rfl a8)<| zK (i6 C)<| zG (zA (a7 _ _ ?_))
  obtain rfl:=gI c
  refine (zY (yD (zT (gX (v1:=i6 C) rfl rfl ?_))))
  exact ⟨rfl,H.pick [] (by decide)⟩
 have c:=zO x c
 obtain ⟨D,c,a9⟩:=zF c
 refine yH [65,66,67,68,69,70,71,72,73] (fun (g:Unit)=>[(65,.bool D)]) (fun g wl=>Hd O w wl S []) ?_ ?_
 ·skip
  refine zB ?_
  refine zJ (.int .u64 f)<| zJ (.int .u64 h) ?_
  obtain ⟨ba,bb,c⟩:=zD c
  refine zH (zM (yZ (a:=f) (b:=h) rfl rfl) bb)<| yM (b:=ba) rfl rfl rfl (fun y=>?_) (fun y=>?_)
  ·have c:=zN y c
   refine zJ (.int .u64 j)<| zJ (.int .u64 k) ?_
   obtain ⟨E,bc,c⟩:=zD c
   refine zH (zM (yZ (a:=j) (b:=k) rfl rfl) bc)<| zH (yI (v:= .bool E) rfl rfl)<| zK (.bool E) ?_
   obtain rfl:=gI c
   exact (zG (zA (meet ⟨(),(zI rfl zL),H.pick [] (by decide)⟩)))
  have c:=zO y c
  refine yE ?_
  refine yE ?_
  refine yE ?_
  refine zH (yF (v:= .bool false) rfl rfl)<| zK (.bool false) ?_
  obtain rfl:=gI c
  exact (zG (zA (meet ⟨(),(zI rfl zL),H.pick [] (by decide)⟩)))
 rintro _ ρ b0 H
 have c:=a9
 refine zW (b:=D) rfl (fun z=>?_) (fun z=>?_)
 ·have c:=zN z c
  refine zC fun b1 bd=>zB<| zK (i6 0)<| zG (zA (bd _ _ ?_))
  obtain rfl:=gI c
  refine (zY (yD (zT (gX (v1:=i6 0) rfl rfl ?_))))
  exact ⟨rfl,H.pick [] (by decide)⟩
 have c:=zO z c
 refine (zX (yK (zA (a0 _ _ ?_))))
 refine zC fun b2 be=>zB<| zJ (i6 d)<| zK (i6 d)<| zG (zA (be _ _ ?_))
 obtain rfl:=gI c
 refine (zY (gX (v1:=i6 d) rfl rfl ?_))
 exact ⟨rfl,H.pick [] (by decide)⟩
theorem Fayw (c:EventPair)(f:gG)(q:Nat)(k:Value)(l:Value)(m:Value)(r:Int)(d:Fay c f=some r)(O S:List Nat)(w:World)(H:Hd O w w S [.own (Rp.int .i64) m 3 f.rules,.blk q [k,l,m] 222,f1 gQ k f.told,f1 Rp.bool l f.possible]):
  Calls Tryz.prog 332 ([.agg [i6 c.a,i6 c.b,i6 c.denA,i6 c.denB,i6 c.op].toArray,gW q]:List Value).toArray w fun e h=>e= .returned (i6 r)∧Hd O w h S [.own (Rp.int .i64) m 3 f.rules,.blk q [k,l,m] 222]:=by
 unfold Fay at d
 refine zZ 44 Tryz.func332 rfl rfl rfl ?_
 refine zC fun K9 M=>zB<| yY rfl rfl (xR (cs:=[i6 c.a,i6 c.b,i6 c.denA,i6 c.denB,i6 c.op]) rfl H) ?_
 rintro _ t ⟨s,rfl,H⟩
 refine zK (i6 0)<| zG (zA (M _ _ ?_))
 refine zC fun ay P=>?_
 have Q:=H
 have H:=H.rebase
 have R:=H
 have u:Hd (O++bks (rest [0] [.own (Rp.int .i64) m 3 f.rules,.blk q [k,l,m] 222,f1 gQ k f.told,f1 Rp.bool l f.possible,.blk s [i6 c.a,i6 c.b,i6 c.denA,i6 c.denB,i6 c.op] 281])) t t (bks (Go.Lf.pick ([0]++ [2,3]) [.own (Rp.int .i64) m 3 f.rules,.blk q [k,l,m] 222,f1 gQ k f.told,f1 Rp.bool l f.possible,.blk s [i6 c.a,i6 c.b,i6 c.denA,i6 c.denB,i6 c.op] 281])) [.own (Rp.int .i64) m 3 f.rules,f1 gQ k f.told,f1 Rp.bool l f.possible]:=H.enter [0] [2,3] (by decide) rfl
 have G:=H.firmB u (i:=1) rfl (List.mem_append_right _ List.mem_cons_self)
 have I:=H.firmB u (i:=4) rfl (List.mem_append_right _ (List.mem_cons_of_mem _ List.mem_cons_self))
 have H:=u
 have az:=H.firm (i:=1) rfl
 refine WP_mixM H [0,1,2,3,4,5,6,7,8,9,10,11,12,13,14,15,16,17,18,19] [.pure,.pure,.pure,.pure,.pure,.pure,.pure,.read,.pure,.pure,.pure,.pure,.pure,.pure,.pure,.pure,.mk (World.heap t).size,.mk (World.heap t).size,.eff,.eff] ⟨trivial,trivial,trivial,trivial,trivial,trivial,trivial,trivial,trivial,trivial,trivial,trivial,trivial,trivial,trivial,trivial,rfl,rfl,trivial,trivial,trivial⟩ mixed (by kernel_rfl) (by kernel_rfl) (by kernel_rfl) (by decide) ?_
 have H:=H.hm
 refine XM (gW q)<| XP (fun _ _=>yA rfl)<| XP (fun _ _=>fa222_0 rfl)<| XP (fun h j=>yX one55 rfl (Cells.get (Blk.cells (G h j)) (i:=0) rfl))<| XP (fun _ _=>fa281_0 rfl)<| XP (fun h j=>yX fU rfl (Cells.get (Blk.cells (I h j)) (i:=0) rfl)) ?_
 obtain ⟨n,x,d⟩:=zF d
 obtain ⟨y,o23,a0,a1,T,U,V,X,Y⟩:=wH (H.item (i:=1) rfl) x
 obtain rfl:=rToldT_open U
 have H:=H.fz (.at y (o23+c.a.toNat * 2) _) ⟨V,X,Y⟩
 refine XP (fun _ _=>yT u55 sz148 T rfl (zS x).1 (zS x).2.1 rfl rfl)<| MxM.xP oS rfl rfl rfl (fun h j=>yO (yN (cs:=[i6 n.N,.bool n.Known]) agg148 rfl sz148 rfl ((H.sees j).item (i:=3) rfl).2.2) rfl)<| XM (gW q)<| XP (fun _ _=>yA rfl)<| XP (fun _ _=>fa222_0 rfl)<| XP (fun h j=>yX one55 rfl (Cells.get (Blk.cells (G h j)) (i:=0) rfl)) ?_
 refine XP (fun _ _=>fa281_1 rfl)<| XP (fun h j=>yX fU rfl (Cells.get (Blk.cells (I h j)) (i:=1) rfl)) ?_
 obtain ⟨o,z,d⟩:=zF d
 obtain ⟨A,o35,a2,a3,Z,aa,ab,ac,ad⟩:=wH (H.item (i:=1) rfl) z
 obtain rfl:=rToldT_open aa
 have H:=H.fz (.at A (o35+c.b.toNat * 2) _) ⟨ab,ac,ad⟩
 refine XP (fun _ _=>yT u55 sz148 Z rfl (zS z).1 (zS z).2.1 rfl rfl) ?_
 have ae:=u.firmC (H.item (i:=4) rfl).1.1 (H.item (i:=4) rfl).2.1 (H.item (i:=4) rfl).2.2
 refine XP (fun h j=>yO (yN (cs:=[i6 o.N,.bool o.Known]) agg148 rfl sz148 rfl (ae h j)) rfl)<| H.alloc_rule rfl rfl rfl rfl zero148 ?_
 rintro B a4 H
 refine H.alloc_rule rfl rfl rfl rfl zero148 ?_
 rintro C a5 H
 have H:=H.hd
 refine MxM.XL_exU oS rfl rfl (fun h j=>xC (vs:=[i6 n.N,.bool n.Known]) (H.sees j) 5 rfl sz148 rfl rfl rfl ⟨rfl,rfl,trivial⟩ rfl) ?_
 rintro h a6 j H
 refine ⟨H.only,?_⟩
 refine MxM.XL_exU oS rfl rfl (fun h j=>xC (vs:=[i6 o.N,.bool o.Known]) (H.sees j) 6 rfl sz148 rfl rfl rfl ⟨rfl,rfl,trivial⟩ rfl) ?_
 rintro h a7 j H
 refine ⟨H.only,?_⟩
 refine MxM.xE fun af hS=>?_
 have H:=H.sees hS
 have H:=R.back [0] [2,3] rfl H
 have H:Hd _ _ _ _ [.blk q [k,l,m] 222,f1 gQ k f.told,f1 Rp.bool l f.possible,.blk s [i6 c.a,i6 c.b,i6 c.denA,i6 c.denB,i6 c.op] 281,.own (Rp.int .i64) m 3 f.rules,f1 gQ k f.told,f1 Rp.bool l f.possible,.fz (.at y (o23+c.a.toNat * 2) [i6 n.N,.bool n.Known]),.fz (.at A (o35+c.b.toNat * 2) [i6 o.N,.bool o.Known]),.blk B [i6 n.N,.bool n.Known] 148,.blk C [i6 o.N,.bool o.Known] 148]:=H
 have H:Hd O t af (bks [.own (Rp.int .i64) m 3 f.rules,.blk q [k,l,m] 222,f1 gQ k f.told,f1 Rp.bool l f.possible,.blk s [i6 c.a,i6 c.b,i6 c.denA,i6 c.denB,i6 c.op] 281]) [.blk q [k,l,m] 222,.blk s [i6 c.a,i6 c.b,i6 c.denA,i6 c.denB,i6 c.op] 281,.own (Rp.int .i64) m 3 f.rules,f1 gQ k f.told,f1 Rp.bool l f.possible,.fz (.at y (o23+c.a.toNat * 2) [i6 n.N,.bool n.Known]),.fz (.at A (o35+c.b.toNat * 2) [i6 o.N,.bool o.Known]),.blk B [i6 n.N,.bool n.Known] 148,.blk C [i6 o.N,.bool o.Known] 148]:=H.pick [0,3,4,5,6,7,8,9,10] (by decide)
 have H:=Q.rejoin H
 refine (zA (P _ _ ?_))
 refine zC fun a8 ag=>?_
 obtain ⟨J,d,ah⟩:=zF d
 refine yH [23,24,25,26,27,28,29,30] (fun (g:Unit)=>[(30,.bool J)]) (fun g wl=>Hd O w wl S [.blk q [k,l,m] 222,f1 gQ k f.told,f1 Rp.bool l f.possible,.own (Rp.int .i64) m 3 f.rules,.blk s [i6 c.a,i6 c.b,i6 c.denA,i6 c.denB,i6 c.op] 281,.blk B [i6 n.N,.bool n.Known] 148,.blk C [i6 o.N,.bool o.Known] 148]) ?_ ?_
 ·skip
  refine zB ?_
  refine zH (fa148_1 rfl)<| Ld one4 H 7 1 rfl rfl ?_
  obtain ⟨ai,aj,d⟩:=zD d
  refine zH (zM (wJ (p:=n.Known) rfl) aj)<| yM (b:=ai) rfl rfl rfl (fun D=>?_) (fun D=>?_)
  ·have d:=zN D d
   refine yE ?_
   refine yE ?_
   refine yE ?_
   refine zH (yI (v:= .bool true) rfl rfl) ?_
   obtain rfl:=gI d
   exact (zG (zA (meet ⟨(),(zI rfl zL),H.pick [0,3,4,2,1,7,8] (by decide)⟩)))
  have d:=zO D d
  refine zH (fa148_1 rfl)<| Ld one4 H 8 1 rfl rfl ?_
  obtain ⟨ak,al,d⟩:=zD d
  refine zH (zM (wJ (p:=o.Known) rfl) al)<| zH (yF (v:= .bool ak) rfl rfl) ?_
  obtain rfl:=gI d
  exact (zG (zA (meet ⟨(),(zI rfl zL),H.pick [0,3,4,2,1,7,8] (by decide)⟩)))
 rintro _ ρ a9 H
 have d:=ah
 refine zW (b:=J) rfl (fun E=>?_) (fun E=>?_)
 ·have d:=zN E d
  refine zC fun ba am=>zB<| zK (i6 0)<| zG (zA (am _ _ ?_))
  obtain rfl:=gI d
  refine (zY (zT (gX (v1:=i6 0) rfl rfl ?_)))
  exact ⟨rfl,H.pick [3,0] (by decide)⟩
 have d:=zO E d
 refine zX (zA (ag _ _ ?_))
 refine zC fun bb an=>?_
 have ao:=H
 have H:=H.rebase
 have bc:=H
 refine xX H [0,1,2,3,4,5,6,7,8,9,10,11,12,13] (kz [0,1,0,1,0,1,0,1,0,1,4,4,4,0]) mixed ?_
 refine XP (fun _ _=>fa281_4 rfl)<| XR fU H 4 4 rfl rfl<| XP (fun _ _=>fa148_0 rfl)<| XR fU H 5 0 rfl rfl<| XP (fun _ _=>fa281_2 rfl)<| XR fU H 4 2 rfl rfl<| XP (fun _ _=>fa148_0 rfl)<| XR fU H 6 0 rfl rfl<| XP (fun _ _=>fa281_3 rfl)<| XR fU H 4 3 rfl rfl ?_
 have ap:=H
 obtain ⟨K,aq,d⟩:=zF d
 refine MxM.XL_fcall oS rfl rfl rfl (v:=i6 K) (fun h j=>yB en333 rfl) (fun h j=>dG (Fbaw n.N c.denA o.N c.denB _ aq _ _ _ (Hd.fresh0 h))) ?_
 have H:=ap
 have ar:=H
 obtain ⟨L,au,d⟩:=zF d
 refine MxM.XL_fcall oS rfl rfl rfl (v:= .bool L) (fun h j=>yB en329 rfl) (fun h j=>dG (Faww c.op K _ au _ _ _ (Hd.fresh0 h))) ?_
 have H:=ar
 have av:=H
 obtain ⟨F,aw,d⟩:=zF d
 refine MxM.XL_fcall oS rfl rfl rfl (v:=i6 F) (fun h j=>yB en328 rfl) (fun h j=>dG (Fbiw L _ aw _ _ _ (Hd.fresh0 h))) ?_
 have H:=av
 refine XP (fun _ _=>xM (v:=i6 F) rfl)<| MxM.xE fun bd hS=>?_
 have H:=H.sees hS
 have H:=ao.rejoin H
 refine (zA (an _ _ ?_))
 obtain rfl:=gI d
 refine (zY (gX (v1:=i6 F) rfl rfl ?_))
 exact ⟨rfl,H.pick [3,0] (by decide)⟩
set_option maxRecDepth 100000 in
theorem Faow (d:eQ)(h:gG)(o:Nat)(y:Value)(an:List Nat)(t:Nat)(l:Value)(m:Value)(k:Value)(r:Int×eQ)(c:Fao d h=some r)(O S:List Nat)(w:World)(H:Hd O w w S [.tr (Rt.row (Rt.of gQ) 148 []) [y] an d.last,.blk o [i6 d.track,i6 d.n,i6 d.frames,y] 241,.own (Rp.int .i64) k 3 h.rules,.blk t [l,m,k] 222,f1 gQ l h.told,f1 Rp.bool m h.possible]):
  Calls Tryz.prog 310 ([gW o,gW t]:List Value).toArray w fun e D=> ∃Y ao,e= .returned (i6 r.1)∧Hd O w D S [.tr (Rt.row (Rt.of gQ) 148 []) [Y] ao r.2.last,.blk o [i6 r.2.track,i6 r.2.n,i6 r.2.frames,Y] 241,.own (Rp.int .i64) k 3 h.rules,.blk t [l,m,k] 222]:=by
 unfold Fao at c
 refine zZ 83 Tryz.func310 rfl rfl rfl ?_
 refine zC fun ct ap=>zB<| zK (i6 0)<| zG (zA (ap _ _ ?_))
 refine zC fun cu aq=>?_
 have ar:=H
 have H:=H.rebase
 have cv:=H
 refine xX H [0,1,2,3,4,5,6,7,8,9,10,11,12,13,14,15,16] (kz [0,0,0,1,0,0,0,1,0,0,0,1,0,1,2,3,0]) mixed ?_
 refine XM (gW o)<| XP (fun _ _=>yA rfl)<| XP (fun _ _=>fa241_3 rfl)<| XR one55 H 1 3 rfl rfl<| XM (gW t)<| XP (fun _ _=>yA rfl)<| XP (fun _ _=>fa222_0 rfl)<| XR one55 H 3 0 rfl rfl<| XM (gW o)<| XP (fun _ _=>yA rfl)<| XP (fun _ _=>fa241_0 rfl)<| XR fU H 1 0 rfl rfl ?_
 obtain ⟨s,L,c⟩:=zF c
 obtain ⟨Z,o23,cw,cx,au,av,aw,ax,ay⟩:=wH (H.item (i:=4) rfl) L
 obtain rfl:=rToldT_open av
 have H:=H.fz (.at Z (o23+d.track.toNat * 2) _) ⟨aw,ax,ay⟩
 refine XP (fun _ _=>yT u55 sz148 au rfl (zS L).1 (zS L).2.1 rfl rfl)<| MxM.xP oS rfl rfl rfl (fun D A=>yO (yN (cs:=[i6 s.N,.bool s.Known]) agg148 rfl sz148 rfl ((H.sees A).item (i:=6) rfl).2.2) rfl) ?_
 obtain ⟨cy,az,c⟩:=zD c
 subst az
 refine MxM.XL_exN oS rfl rfl rfl (fun D A=>Ls_of (Lx_bs (r:=gQ) (xl:=[s]) (cs:=[i6 s.N,.bool s.Known]) u55 el148 (by decide) (by decide) rfl (wG (vs:=[.agg [i6 s.N,.bool s.Known].toArray]) (by decide) rfl rfl ⟨rfl,trivial⟩ rfl) (H.sees A) ⟨[i6 s.N,.bool s.Known],[],rfl,(rToldT_mk (x:=s)),rfl⟩) (Ys_bs (cs:=[i6 s.N,.bool s.Known]) u55 el148 (by decide) (by decide) (wG (vs:=[.agg [i6 s.N,.bool s.Known].toArray]) (by decide) rfl rfl ⟨rfl,trivial⟩ rfl))) ?_
 rintro D a0 cz A H
 obtain ⟨z,a1,c⟩:=zF c
 refine MxM.XL_ex oS rfl rfl rfl (fun D A=>Lx_appF (H.sees A) 0 rfl u55 el148 rfl rfl (Sr.of_own ((H.sees A).item (i:=7) rfl)) a1) ?_
 rintro D u c0 A ⟨aa,H⟩
 refine ⟨H.only,?_⟩
 have H:Hd _ _ _ _ [.blk o [i6 d.track,i6 d.n,i6 d.frames,y] 241,.own (Rp.int .i64) k 3 h.rules,.blk t [l,m,k] 222,f1 gQ l h.told,f1 Rp.bool m h.possible,.fz (.at Z (o23+d.track.toNat * 2) [i6 s.N,.bool s.Known]),.own gQ a0 148 ([s]:List fO),.tr (Rt.row (Rt.of gQ) 148 []) [u] aa z]:=H
 refine XP (fun _ _=>xM (v:=u) rfl)<| MxM.xE fun c1 hS=>?_
 have H:=H.sees hS
 have H:=ar.rejoin H
 refine (zA (aq _ _ ?_))
 refine zC fun c2 a2=>zB<| zK (i6 0)<| zK (i6 0)<| zK (i6 0)<| zG (zA (a2 _ _ ?_))
 obtain ⟨F,c,a3⟩:=zF c
 refine yH [6,7,8,10,27,28,29,30,31,32,33,34,35,36,37,38,39,40,41,42,43,44,45,46,47,48,49,50,51,52] (fun (g:(List Nat))=>[(6,i6 F.1),(7,i6 F.2.1),(8,i6 F.2.2)]) (fun g wl=>Hd O w wl S [.blk o [i6 d.track,i6 d.n,i6 d.frames,y] 241,.tr (Rt.row (Rt.of gQ) 148 []) [u] g z,.own (Rp.int .i64) k 3 h.rules,.blk t [l,m,k] 222,f1 gQ l h.told,f1 Rp.bool m h.possible]) ?_ ?_
 ·skip
  refine zC fun c3 a4=>zB<| zJ u ?_
  obtain ⟨a5,a6,c⟩:=zD c
  obtain ⟨c4,c5,a7⟩:=row_len ((H.item (i:=7) rfl))
  refine zH (yO (xI u55 a7) (congrArg (Value.int .i64) a6))<| zJ (i6 0)<| zG (zA (a4 _ _ ?_))
  refine yC ?_
  unfold Fcp at c
  obtain ⟨a8,ab,a9,c⟩:=yR c
  refine xA [6,7,8,10,29,30,31,32,33,34,35,36,37,38,39,40,41,42,43,44,45,46,47,48,49,50,51,52] (fun (g:Nat×Int×Int×Int×Int×(List Nat))=>[(6,i6 g.2.1),(7,i6 g.2.2.1),(8,i6 g.2.2.2.1),(29,i6 g.2.2.2.2.1)]) (fun g wl=>Hd O w wl S [.blk o [i6 d.track,i6 d.n,i6 d.frames,y] 241,.tr (Rt.row (Rt.of gQ) 148 []) [u] g.2.2.2.2.2 z,.own (Rp.int .i64) k 3 h.rules,.blk t [l,m,k] 222,f1 gQ l h.told,f1 Rp.bool m h.possible]∧fV a8 g.1 (g.2.1,g.2.2.1,g.2.2.2.1,g.2.2.2.2.1)=some F) (fun g=>g.1) (ab,0,0,0,0,aa) (zI rfl (zI rfl (zI rfl (zI rfl zL)))) ⟨H.pick [0,7,1,2,3,4] (by decide),c⟩ ?_
  clear H c
  rintro ⟨ab,G,c6,c7,E,ba⟩ ρ c8 ⟨H,c⟩
  obtain ⟨bb,rfl,c⟩:=yV c
  have c:=yU a9 c
  refine zC fun c9 bc=>zB ?_
  obtain ⟨bd,be,c⟩:=zD c
  refine zH (zM (xK (a:=E) (b:=a5) rfl rfl) be)<| zG (zA (bc _ _ ?_))
  refine zC fun da bf=>?_
  refine zW (b:=bd) rfl (fun M=>?_) (fun M=>?_)
  ·have c:=zN M c
   refine zX (zA (bf _ _ ?_))
   obtain ⟨I,c,bg⟩:=zF c
   refine yH [6,7,8,10,31,32,33,34,35,36,37,38,39,40,41,42,43,44,45,46,47,48,49,50,51] (fun (g:(List Nat))=>[(6,i6 I.1),(7,i6 I.2.1),(8,i6 I.2.2)]) (fun g wl=>Hd O w wl S [.blk o [i6 d.track,i6 d.n,i6 d.frames,y] 241,.tr (Rt.row (Rt.of gQ) 148 []) [u] g z,.own (Rp.int .i64) k 3 h.rules,.blk t [l,m,k] 222,f1 gQ l h.told,f1 Rp.bool m h.possible]) ?_ ?_
   ·skip
    refine yC ?_
    refine zC fun db bh=>zB ?_
    obtain ⟨f,B,c⟩:=zF c
    obtain ⟨dc,dd,de,P⟩:=aX (H.item (i:=1) rfl) B
    refine zH (yT u55 sz148 P rfl (zS B).1 (zS B).2.1 rfl rfl) ?_
    obtain ⟨df,J,dg,H⟩:=H.focusV 1 rfl P B rfl
    obtain ⟨bi,bj⟩:=trF (H.item (i:=6) rfl)
    subst bi
    obtain rfl:=rToldT_open bj
    have H:Hd _ _ _ _ [.blk o [i6 d.track,i6 d.n,i6 d.frames,y] 241,.own (Rp.int .i64) k 3 h.rules,.blk t [l,m,k] 222,f1 gQ l h.told,f1 Rp.bool m h.possible,.tr (Rt.row (Rt.of gQ) 148 [(E.toNat,[i6 f.N,.bool f.Known])]) [u] J z,.tr (Rt.of gQ) [i6 f.N,.bool f.Known] [] f]:=H
    refine zH (yO (yN (cs:=[i6 f.N,.bool f.Known]) agg148 rfl sz148 rfl (H.holeW 5 rfl P B rfl eU)) rfl)<| yY rfl rfl (xN zero148 H) ?_
    rintro _ dh ⟨C,rfl,H⟩
    refine xB rfl (xC (vs:=[i6 f.N,.bool f.Known]) H 7 rfl sz148 rfl rfl rfl ⟨rfl,rfl,trivial⟩ rfl) ?_
    rintro di H
    refine zG (zA (bh _ _ ?_))
    refine zC fun dj bk=>?_
    refine zC fun dk bl=>zB<| zH (fa148_1 rfl)<| Ld one4 H 7 1 rfl rfl ?_
    obtain ⟨bm,bn,c⟩:=zD c
    refine zH (zM (wJ (p:=f.Known) rfl) bn)<| zG (zA (bl _ _ ?_))
    refine zW (b:=bm) rfl (fun Q=>?_) (fun Q=>?_)
    ·have c:=zN Q c
     have H:Hd _ _ _ _ [.blk o [i6 d.track,i6 d.n,i6 d.frames,y] 241,.own (Rp.int .i64) k 3 h.rules,.blk t [l,m,k] 222,f1 gQ l h.told,f1 Rp.bool m h.possible,.tr (Rt.row (Rt.of gQ) 148 [(E.toNat,[i6 f.N,.bool f.Known])]) [u] J z,.tr (Rt.of gQ) [i6 f.N,.bool f.Known] [] f,.blk C [i6 f.N,.bool f.Known] 148]:=H
     obtain ⟨ac,H⟩:=H.unfocus0 5 6 rfl rfl (by decide) rfl rfl B
     have H:Hd _ _ _ _ [.blk o [i6 d.track,i6 d.n,i6 d.frames,y] 241,.own (Rp.int .i64) k 3 h.rules,.blk t [l,m,k] 222,f1 gQ l h.told,f1 Rp.bool m h.possible,.blk C [i6 f.N,.bool f.Known] 148,.tr (Rt.row (Rt.of gQ) 148 []) [u] ac z]:=H
     obtain rfl:=gI c
     exact (xH (yL (yS (zA (meet ⟨ac,(zI rfl (zI rfl (zI rfl zL))),H.pick [0,6,1,2,3,4] (by decide)⟩)))))
    have c:=zO Q c
    refine zX (zA (bk _ _ ?_))
    obtain ⟨R,c,bo⟩:=zF c
    refine yH [7,8,36,37,38,39,40,41] (fun (g:(List Nat))=>[(7,i6 R.1),(8,i6 R.2)]) (fun g wl=>Hd O w wl S [.blk o [i6 d.track,i6 d.n,i6 d.frames,y] 241,.tr (Rt.row (Rt.of gQ) 148 []) [u] g z,.own (Rp.int .i64) k 3 h.rules,.blk t [l,m,k] 222,f1 gQ l h.told,f1 Rp.bool m h.possible,.blk C [i6 f.N,.bool f.Known] 148]) ?_ ?_
    ·skip
     refine zC fun dl bp=>zB<| zJ (i6 G) ?_
     obtain ⟨bq,br,c⟩:=zD c
     refine zH (zM (yZ (a:=G) (b:=0) rfl rfl) br)<| zG (zA (bp _ _ ?_))
     refine zW (b:=bq) rfl (fun T=>?_) (fun T=>?_)
     ·have c:=zN T c
      have bt:=H
      have H:=H.rebase
      have dm:=H
      refine xX H [0,1,2,3,4,5] (kz [0,1,0,1,0,0]) mixed ?_
      refine XP (fun _ _=>fa148_0 rfl)<| XR fU H 7 0 rfl rfl<| XP (fun _ _=>fa148_0 rfl)<| XR fU H 7 0 rfl rfl<| XP (fun _ _=>xM (v:=i6 f.N) rfl)<| XP (fun _ _=>xM (v:=i6 f.N) rfl)<| MxM.xE fun dn hS=>?_
      have H:=H.sees hS
      have H:=bt.rejoin H
      have H:Hd _ _ _ _ [.blk o [i6 d.track,i6 d.n,i6 d.frames,y] 241,.own (Rp.int .i64) k 3 h.rules,.blk t [l,m,k] 222,f1 gQ l h.told,f1 Rp.bool m h.possible,.tr (Rt.row (Rt.of gQ) 148 [(E.toNat,[i6 f.N,.bool f.Known])]) [u] J z,.tr (Rt.of gQ) [i6 f.N,.bool f.Known] [] f,.blk C [i6 f.N,.bool f.Known] 148]:=H
      obtain ⟨ad,H⟩:=H.unfocus0 5 6 rfl rfl (by decide) rfl rfl B
      have H:Hd _ _ _ _ [.blk o [i6 d.track,i6 d.n,i6 d.frames,y] 241,.own (Rp.int .i64) k 3 h.rules,.blk t [l,m,k] 222,f1 gQ l h.told,f1 Rp.bool m h.possible,.blk C [i6 f.N,.bool f.Known] 148,.tr (Rt.row (Rt.of gQ) 148 []) [u] ad z]:=H
      obtain rfl:=gI c
      exact (zA (meet ⟨ad,(zI rfl (zI rfl zL)),H.pick [0,6,1,2,3,4,5] (by decide)⟩))
     have c:=zO T c
     have H:Hd _ _ _ _ [.blk o [i6 d.track,i6 d.n,i6 d.frames,y] 241,.own (Rp.int .i64) k 3 h.rules,.blk t [l,m,k] 222,f1 gQ l h.told,f1 Rp.bool m h.possible,.tr (Rt.row (Rt.of gQ) 148 [(E.toNat,[i6 f.N,.bool f.Known])]) [u] J z,.tr (Rt.of gQ) [i6 f.N,.bool f.Known] [] f,.blk C [i6 f.N,.bool f.Known] 148]:=H
     obtain ⟨ae,H⟩:=H.unfocus0 5 6 rfl rfl (by decide) rfl rfl B
     have H:Hd _ _ _ _ [.blk o [i6 d.track,i6 d.n,i6 d.frames,y] 241,.own (Rp.int .i64) k 3 h.rules,.blk t [l,m,k] 222,f1 gQ l h.told,f1 Rp.bool m h.possible,.blk C [i6 f.N,.bool f.Known] 148,.tr (Rt.row (Rt.of gQ) 148 []) [u] ae z]:=H
     obtain rfl:=gI c
     exact (zX (zA (meet ⟨ae,(zI rfl (zI rfl zL)),H.pick [0,6,1,2,3,4,5] (by decide)⟩)))
    rintro bu ρ dp H
    have c:=bo
    obtain ⟨af,ag⟩:=R
    have bv:=H
    have H:=H.rebase
    have dq:=H
    refine xX H [0,1,2,3,4,5,6,7,8,9,10,11,12] (kz [0,0,0,0,1,0,0,0,1,0,0,0,0]) mixed ?_
    refine XM (i6 G) ?_
    obtain ⟨bw,bx,c⟩:=zD c
    refine XP (fun _ _=>xJ (a:=G) (b:=1) rfl rfl bx)<| XM (i6 af)<| XP (fun _ _=>fa148_0 rfl)<| XR fU H 6 0 rfl rfl ?_
    obtain ⟨bz,b0,c⟩:=zD c
    refine XP (fun _ _=>Do_min (j:=af) (q:=f.N) rfl rfl b0)<| XM (i6 ag)<| XP (fun _ _=>fa148_0 rfl)<| XR fU H 6 0 rfl rfl ?_
    obtain ⟨b1,b2,c⟩:=zD c
    refine XP (fun _ _=>Do_max (j:=ag) (q:=f.N) rfl rfl b2)<| XP (fun _ _=>xM (v:=i6 bw) rfl)<| XP (fun _ _=>xM (v:=i6 bz) rfl)<| XP (fun _ _=>xM (v:=i6 b1) rfl)<| MxM.xE fun dr hS=>?_
    have H:=H.sees hS
    have H:=bv.rejoin H
    obtain rfl:=gI c
    exact (yK (zA (meet ⟨bu,(zI rfl (zI rfl (zI rfl zL))),H.pick [0,1,2,3,4,5] (by decide)⟩)))
   rintro b3 ρ ds H
   have c:=bg
   obtain ⟨b4,b5,b6⟩:=I
   refine zB ?_
   obtain ⟨ah,b7,c⟩:=zD c
   refine zH (xJ (a:=E) (b:=1) rfl rfl b7)<| zJ (i6 ah) ?_
   exact (zG (zA (meet ⟨(bb,b4,b5,b6,ah,b3),(zI rfl (zI rfl (zI rfl (zI rfl zL)))),⟨H.pick [0,1,2,3,4,5] (by decide),c⟩,Nat.lt_succ_self _⟩)))
  have c:=zO M c
  obtain rfl:=gI c
  exact (xH (yL (yL (yS (zA (meet ⟨ba,(zI rfl (zI rfl (zI rfl zL))),H.pick [0,1,2,3,4,5] (by decide)⟩))))))
 rintro U ρ dt H
 have c:=a3
 obtain ⟨ai,aj,ak⟩:=F
 refine zC fun du b8=>zB<| zJ (gW o)<| zJ u<| zJ u ?_
 obtain ⟨b9,ca,c⟩:=zD c
 obtain ⟨dv,dw,cb⟩:=row_len ((H.item (i:=1) rfl))
 refine zH (yO (xI u55 cb) (congrArg (Value.int .i64) ca))<| zJ (gW o)<| zH (yA rfl)<| zH (fa241_2 rfl)<| Ld fU H 0 2 rfl rfl ?_
 obtain ⟨cc,cd,c⟩:=zD c
 refine zH (aZ (a:=b9) (b:=d.frames) rfl rfl cd) ?_
 obtain ⟨ce,cf,c⟩:=zD c
 refine zH (xJ (a:=cc) (b:=1) rfl rfl cf) ?_
 obtain ⟨dx,cg,c⟩:=zD c
 refine zH (Do_max (j:=0) (q:=ce) rfl rfl cg) ?_
 obtain ⟨dy,ch,c⟩:=zF c
 refine RL_exP rfl rfl (Lx_rpart_l H 1 rfl u55 sz148 rfl rfl ch) ?_
 rintro K H
 refine zH (yA rfl)<| zH (fa241_3 rfl)<| xB rfl (wI H 0 rfl sz55 rfl (v:=K) rfl (tr_one (H.item (i:=1) rfl)) rfl) ?_
 rintro dz H
 refine zG (zA (b8 _ _ ?_))
 refine zC fun d0 ci=>?_
 refine yC ?_
 refine zC fun d1 cj=>zB<| zJ (i6 ak)<| zJ (i6 aj) ?_
 obtain ⟨ck,cl,c⟩:=zD c
 refine zH (aZ (a:=ak) (b:=aj) rfl rfl cl)<| zJ (gW o)<| zH (yA rfl)<| zH (fa241_1 rfl)<| Ld fU H 0 1 rfl rfl ?_
 obtain ⟨al,cm,c⟩:=zD c
 refine zH (zM (bM (a:=ck) (b:=d.n) rfl rfl) cm)<| zK (.bool al)<| zG (zA (cj _ _ ?_))
 refine zW (b:=al) rfl (fun V=>?_) (fun V=>?_)
 ·have c:=zN V c
  refine zC fun d2 cn=>zB<| zK (i6 1)<| zG (zA (cn _ _ ?_))
  obtain rfl:=gI c
  refine (zY (yD (zT (gX (v1:=i6 1) rfl rfl ?_))))
  exact ⟨K,U,rfl,H.pick [1,0,2,3] (by decide)⟩
 have c:=zO V c
 refine zC fun d3 co=>zB<| zJ (i6 ai)<| zJ (gW o)<| zH (yA rfl)<| zH (fa241_2 rfl)<| Ld fU H 0 2 rfl rfl ?_
 obtain ⟨am,cp,c⟩:=zD c
 refine zH (zM (yZ (a:=ai) (b:=d.frames) rfl rfl) cp)<| zK (.bool am)<| zG (zA (co _ _ ?_))
 refine zW (b:=am) rfl (fun X=>?_) (fun X=>?_)
 ·have c:=zN X c
  refine zC fun d4 cq=>zB<| zK (i6 2)<| zG (zA (cq _ _ ?_))
  obtain rfl:=gI c
  refine (zY (yD (zT (gX (v1:=i6 2) rfl rfl ?_))))
  exact ⟨K,U,rfl,H.pick [1,0,2,3] (by decide)⟩
 have c:=zO X c
 refine (zX (yK (zA (ci _ _ ?_))))
 refine zC fun d5 cr=>zB<| zK (i6 0)<| zG (zA (cr _ _ ?_))
 obtain rfl:=gI c
 refine (zY (gX (v1:=i6 0) rfl rfl ?_))
 exact ⟨K,U,rfl,H.pick [1,0,2,3] (by decide)⟩
theorem Favw (l:aW)(d:gG)(k:Nat)(h:Value)(j:Value)(f:Value)(r:Int)(c:Fav l d=some r)(O S:List Nat)(w:World)(H:Hd O w w S [.own (Rp.int .i64) f 3 d.rules,.blk k [h,j,f] 222,f1 gQ h d.told,f1 Rp.bool j d.possible]):
  Calls Tryz.prog 335 ([.agg [i6 l.phase].toArray,gW k]:List Value).toArray w fun e A=>e= .returned (i6 r)∧Hd O w A S [.own (Rp.int .i64) f 3 d.rules,.blk k [h,j,f] 222]:=by
 unfold Fav at c
 refine zZ 34 Tryz.func335 rfl rfl rfl ?_
 refine zC fun K9 J=>zB<| yY rfl rfl (xR (cs:=[i6 l.phase]) rfl H) ?_
 rintro _ a9 ⟨o,rfl,H⟩
 refine zK (i6 0)<| zG (zA (J _ _ ?_))
 refine zC fun ba K=>zB<| zK (i6 0)<| zG (zA (K _ _ ?_))
 obtain ⟨m,c,L⟩:=zF c
 refine yH [5,7,8,9,10,11,12,13,14,15,16,17,18,19,20] (fun (g:Unit)=>[(5,i6 m)]) (fun g wl=>Hd O w wl S [.own (Rp.int .i64) f 3 d.rules,.blk k [h,j,f] 222,f1 gQ h d.told,f1 Rp.bool j d.possible,.blk o [i6 l.phase] 283]) ?_ ?_
 ·skip
  refine zC fun bb M=>zB<| zJ (gW k)<| zH (yA rfl)<| zH (fa222_1 rfl)<| Ld one144 H 1 1 rfl rfl ?_
  obtain ⟨N,P,c⟩:=zD c
  obtain ⟨bc,bd,Q⟩:=SlF.len ((H.item (i:=3) rfl))
  refine zH (yO (xI u144 Q) (congrArg (Value.int .i64) P))<| zJ (i6 0)<| zG (zA (M _ _ ?_))
  refine yC ?_
  unfold Fco at c
  obtain ⟨R,B,T,c⟩:=yR c
  refine xA [5,7,13,14,15,16,17,18,19,20] (fun (g:Nat×Int×Int)=>[(5,i6 g.2.1),(13,i6 g.2.2)]) (fun g wl=>Hd O w wl S [.own (Rp.int .i64) f 3 d.rules,.blk k [h,j,f] 222,f1 gQ h d.told,f1 Rp.bool j d.possible,.blk o [i6 l.phase] 283]∧fV R g.1 (g.2.1,g.2.2)=some m) (fun g=>g.1) (B,0,0) (zI rfl (zI rfl zL)) ⟨H.pick [0,1,2,3,4] (by decide),c⟩ ?_
  clear H c
  rintro ⟨B,C,q⟩ ρ be ⟨H,c⟩
  obtain ⟨U,rfl,c⟩:=yV c
  have c:=yU T c
  refine zC fun bf V=>zB ?_
  obtain ⟨X,Y,c⟩:=zD c
  refine zH (zM (xK (a:=q) (b:=N) rfl rfl) Y)<| zG (zA (V _ _ ?_))
  refine zC fun bg Z=>?_
  refine zW (b:=X) rfl (fun s=>?_) (fun s=>?_)
  ·have c:=zN s c
   refine zX (zA (Z _ _ ?_))
   obtain ⟨D,c,aa⟩:=zF c
   refine yH [5,7,15,16,17,18,19] (fun (g:Unit)=>[(5,i6 D)]) (fun g wl=>Hd O w wl S [.own (Rp.int .i64) f 3 d.rules,.blk k [h,j,f] 222,f1 gQ h d.told,f1 Rp.bool j d.possible,.blk o [i6 l.phase] 283]) ?_ ?_
   ·skip
    refine yC ?_
    refine zC fun bh ab=>zB ?_
    obtain ⟨n,t,c⟩:=zF c
    obtain ⟨ac,ad,bi,ae,af,ag,ah,ai,aj⟩:=wH (H.item (i:=3) rfl) t
    obtain rfl:ae= [.bool n]:=ag
    have H:=H.fz (.at ac (ad+q.toNat * 1) _) ⟨ah,ai,aj⟩
    refine zH (yT u144 sz4 af rfl (zS t).1 (zS t).2.1 rfl rfl)<| zH (yX one4 rfl (Cells.get (H.item (i:=5) rfl).2.2 (i:=0) rfl))<| zK (.bool n)<| zG (zA (ab _ _ ?_))
    refine zC fun bj ak=>zB<| zJ (.bool n)<| zG (zA (ak _ _ ?_))
    refine zW (b:=n) rfl (fun u=>?_) (fun u=>?_)
    ·have c:=zN u c
     refine zB ?_
     refine zJ (i6 C) ?_
     obtain ⟨al,am,c⟩:=zD c
     refine zH (xJ (a:=C) (b:=1) rfl rfl am)<| zK (i6 al) ?_
     obtain rfl:=gI c
     exact (zG (yK (zA (meet ⟨(),(zI rfl zL),H.pick [0,1,2,3,4] (by decide)⟩))))
    have c:=zO u c
    obtain rfl:=gI c
    exact (zX (yK (zA (meet ⟨(),(zI rfl zL),H.pick [0,1,2,3,4] (by decide)⟩))))
   rintro _ ρ bk H
   have c:=aa
   refine zB ?_
   obtain ⟨E,an,c⟩:=zD c
   refine zH (xJ (a:=q) (b:=1) rfl rfl an)<| zJ (i6 E) ?_
   exact (zG (zA (meet ⟨(U,D,E),(zI rfl (zI rfl zL)),⟨H.pick [0,1,2,3,4] (by decide),c⟩,Nat.lt_succ_self _⟩)))
  have c:=zO s c
  obtain rfl:=gI c
  exact (xH (yL (yL (yS (zA (meet ⟨(),(zI rfl zL),H.pick [0,1,2,3,4] (by decide)⟩))))))
 rintro _ ρ bl H
 have c:=L
 refine zC fun bm ao=>?_
 refine yC ?_
 refine zC fun bn ap=>?_
 have aq:=H
 have H:=H.rebase
 have bo:=H
 refine xX H [0,1,2,3,4,5,6,7,8,9] (kz [0,0,0,1,0,1,0,1,0,0]) mixed ?_
 refine XM (gW k)<| XP (fun _ _=>yA rfl)<| XP (fun _ _=>fa222_1 rfl)<| XR one144 H 1 1 rfl rfl<| XP (fun _ _=>fa283_0 rfl)<| XR fU H 4 0 rfl rfl ?_
 obtain ⟨F,x,c⟩:=zF c
 obtain ⟨ar,au,bp,av,aw,ax,ay,az,a0⟩:=wH (H.item (i:=3) rfl) x
 obtain rfl:av= [.bool F]:=ax
 have H:=H.fz (.at ar (au+l.phase.toNat * 1) _) ⟨ay,az,a0⟩
 refine XP (fun _ _=>yT u144 sz4 aw rfl (zS x).1 (zS x).2.1 rfl rfl)<| MxM.xP oS rfl rfl rfl (fun A a1=>yX one4 rfl (Cells.get ((H.sees a1).item (i:=5) rfl).2.2 (i:=0) rfl)) ?_
 obtain ⟨G,a2,c⟩:=zD c
 refine XP (fun _ _=>zM (wJ (p:=F) rfl) a2)<| XP (fun _ _=>xM (v:= .bool G) rfl)<| MxM.xE fun bq hS=>?_
 have H:=H.sees hS
 have H:=aq.rejoin H
 refine (zA (ap _ _ ?_))
 refine zW (b:=G) rfl (fun y=>?_) (fun y=>?_)
 ·have c:=zN y c
  refine zC fun br a3=>zB<| zK (i6 1)<| zG (zA (a3 _ _ ?_))
  obtain rfl:=gI c
  refine (zY (yD (zT (gX (v1:=i6 1) rfl rfl ?_))))
  exact ⟨rfl,H.pick [0,1] (by decide)⟩
 have c:=zO y c
 refine zC fun bt a4=>zB<| zJ (i6 m) ?_
 obtain ⟨I,a5,c⟩:=zD c
 refine zH (zM (yZ (a:=m) (b:=1) rfl rfl) a5)<| zK (.bool I)<| zG (zA (a4 _ _ ?_))
 refine zW (b:=I) rfl (fun z=>?_) (fun z=>?_)
 ·have c:=zN z c
  refine zC fun bu a6=>zB<| zK (i6 2)<| zG (zA (a6 _ _ ?_))
  obtain rfl:=gI c
  refine (zY (yD (zT (gX (v1:=i6 2) rfl rfl ?_))))
  exact ⟨rfl,H.pick [0,1] (by decide)⟩
 have c:=zO z c
 refine (zX (yK (zA (ao _ _ ?_))))
 refine zC fun bv a7=>zB<| zK (i6 0)<| zG (zA (a7 _ _ ?_))
 obtain rfl:=gI c
 refine (zY (gX (v1:=i6 0) rfl rfl ?_))
 exact ⟨rfl,H.pick [0,1] (by decide)⟩
theorem Fdzw (f:EventRule)(a:gG)(b:Nat)(h:Value)(j:Value)(c:Value)(r:Int)(d:Fdz f a=some r)(O S:List Nat)(w:World)(H:Hd O w w S [.own (Rp.int .i64) c 3 a.rules,.blk b [h,j,c] 222,f1 gQ h a.told,f1 Rp.bool j a.possible]):
  Calls Tryz.prog 337 ([.agg [i6 f.rule].toArray,gW b]:List Value).toArray w fun e m=>e= .returned (i6 r)∧Hd O w m S [.own (Rp.int .i64) c 3 a.rules,.blk b [h,j,c] 222]:=by
 unfold Fdz at d
 refine zZ 13 Tryz.func337 rfl rfl rfl ?_
 refine zC fun y n=>zB<| yY rfl rfl (xR (cs:=[i6 f.rule]) rfl H) ?_
 rintro _ z ⟨A,rfl,H⟩
 refine zK (i6 0)<| zG (zA (n _ _ ?_))
 refine zC fun B o=>?_
 have p:=H
 have H:=H.rebase
 have C:=H
 refine xX H [0,1,2,3,4,5,6,7,8] (kz [0,0,0,1,0,1,0,1,0]) mixed ?_
 refine XM (gW b)<| XP (fun _ _=>yA rfl)<| XP (fun _ _=>fa222_2 rfl)<| XR kL H 1 2 rfl rfl<| XP (fun _ _=>fa285_0 rfl)<| XR fU H 4 0 rfl rfl ?_
 obtain ⟨k,l,d⟩:=zF d
 obtain ⟨D,E,q,s,t,u⟩:=bH (H.item (i:=0) rfl) l
 obtain rfl:q= [i6 k]:=t
 refine XP (fun _ _=>yT u38 sz3 s rfl (zS l).1 (zS l).2.1 rfl rfl)<| MxM.xP oS rfl rfl rfl (fun m x=>yX fU rfl (Cells.get (u.sees x) (i:=0) rfl))<| XP (fun _ _=>xM (v:=i6 k) rfl)<| MxM.xE fun F hS=>?_
 have H:=H.sees hS
 have H:=p.rejoin H
 refine (zA (o _ _ ?_))
 obtain rfl:=gI d
 refine (zY (gX (v1:=i6 k) rfl rfl ?_))
 exact ⟨rfl,H.pick [0,1] (by decide)⟩
theorem Fa6w (d:Int)(r:Int)(c:Fa6 d=some r)(O S:List Nat)(w:World)(H:Hd O w w S []):
  Calls Tryz.prog 317 ([i6 d]:List Value).toArray w fun e k=>e= .returned (i6 r)∧Hd O w k S []:=by
 unfold Fa6 at c
 refine zZ 8 Tryz.func317 rfl rfl rfl ?_
 refine zC fun x l=>zB<| zK (i6 0)<| zG (zA (l _ _ ?_))
 refine zC fun y m=>?_
 refine zC fun z n=>zB<| zJ (i6 d)<| zG (zA (n _ _ ?_))
 refine yC ?_
 refine zC fun A o=>zB ?_
 obtain ⟨i,p,c⟩:=zD c
 refine zH (zM (yZ (a:=d) (b:=2) rfl rfl) p)<| zK (.bool i)<| zG (zA (o _ _ ?_))
 refine zW (b:=i) rfl (fun f=>?_) (fun f=>?_)
 ·have c:=zN f c
  refine zC fun B q=>zB<| zK (i6 1)<| zG (zA (q _ _ ?_))
  obtain rfl:=gI c
  refine (zY (yD (zT (gX (v1:=i6 1) rfl rfl ?_))))
  exact ⟨rfl,H.pick [] (by decide)⟩
 have c:=zO f c
 refine zC fun C s=>zB ?_
 obtain ⟨j,t,c⟩:=zD c
 refine zH (zM (yZ (a:=d) (b:=1) rfl rfl) t)<| zK (.bool j)<| zG (zA (s _ _ ?_))
 refine zW (b:=j) rfl (fun h=>?_) (fun h=>?_)
 ·have c:=zN h c
  refine zC fun D u=>zB<| zK (i6 2)<| zG (zA (u _ _ ?_))
  obtain rfl:=gI c
  refine (zY (yD (zT (gX (v1:=i6 2) rfl rfl ?_))))
  exact ⟨rfl,H.pick [] (by decide)⟩
 have c:=zO h c
 refine (zX (yK (zA (m _ _ ?_))))
 refine zC fun E v=>zB<| zK (i6 0)<| zG (zA (v _ _ ?_))
 obtain rfl:=gI c
 refine (zY (gX (v1:=i6 0) rfl rfl ?_))
 exact ⟨rfl,H.pick [] (by decide)⟩
theorem Fbgw (rfI:Nd→gG→Option (Int×Nd))(rhI:Fat rfI)(l:aO)(a:gG)(k:Nat)(c:Value)(m:List Nat)(d:Nat)(f:Value)(h:Value)(b:Value)(r:Int×aO)(j:Fbg rfI l a=some r)(O S:List Nat)(w:World)(H:Hd O w w S [.tr fC [c] m l.kid,.blk k [c] 248,.own (Rp.int .i64) b 3 a.rules,.blk d [f,h,b] 222,f1 gQ f a.told,f1 Rp.bool h a.possible]):
  Calls Tryz.prog 316 ([gW k,gW d]:List Value).toArray w fun e t=> ∃n u,e= .returned (i6 r.1)∧Hd O w t S [.tr fC [n] u r.2.kid,.blk k [n] 248,.own (Rp.int .i64) b 3 a.rules,.blk d [f,h,b] 222]:=by
 unfold Fbg at j
 refine zZ 12 Tryz.func316 rfl rfl rfl ?_
 refine zC fun G v=>zB<| zK (i6 0)<| zG (zA (v _ _ ?_))
 refine zC fun I x=>zB<| zJ (gW k)<| zH (yA rfl)<| zH (fa248_0 rfl)<| Ld kD H 1 0 rfl rfl<| zJ (gW d) ?_
 obtain ⟨y,z,o⟩:=Fak (H.item (i:=0) rfl)
 obtain ⟨p,A,j⟩:=zF j
 refine yG rfl rfl (DoC_inv o rfl rfl) (rhI l.kid (gG.mk a.told a.possible a.rules) c m d f h b y z o _ A _ _ _ (H.enter [0,2,3] [4,5] (by decide) rfl)) ?_
 rintro _ B ⟨q,rfl,C⟩
 have H:Hd _ _ B _ [.blk k [c] 248,f1 gQ f a.told,f1 Rp.bool h a.possible,.tr fC [c] q p.2,.own (Rp.int .i64) b 3 a.rules,.blk d [f,h,b] 222]:=H.back [0,2,3] [4,5] rfl C
 refine ⟨_,rfl,?_⟩
 have D:=H
 obtain ⟨s,E,j⟩:=zF j
 refine yG rfl rfl (yB en317 rfl) (Fa6w p.1 _ E _ _ _ (H.enter [] [] (by decide) rfl)) ?_
 rintro _ J ⟨rfl,F⟩
 have H:=D.step (F.only:Only [] _ _)
 refine ⟨_,rfl,?_⟩
 refine zK (i6 s)<| zG (zA (x _ _ ?_))
 obtain rfl:=gI j
 refine (zY (gX (v1:=i6 s) rfl rfl ?_))
 exact ⟨c,q,rfl,H.pick [3,0,4,5] (by decide)⟩
end Go.Proofs.YtckmiljbaejijaaGreatDoor.L
