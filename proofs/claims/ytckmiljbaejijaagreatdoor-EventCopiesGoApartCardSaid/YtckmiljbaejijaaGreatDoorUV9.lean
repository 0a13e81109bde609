/- Walks: what each function computes, for every argument; no condition but those that stand in the statements. -/
import Derived.Test.YtckmiljbaejijaaGreatDoorUV0
import Derived.Test.YtckmiljbaejijaaGreatDoorUV8
import Derived.Test.YtckmiljbaejijaaGreatDoorUV2
namespace Go.Proofs.YtckmiljbaejijaaGreatDoor.L
open Go.RowKit Go.OB Go.Lf
set_option maxHeartbeats 4000000
theorem Fezw (rfB:gB→Int→Option (Cond×gB))(rhB:Fak rfB)(rfA:gB→Int→Option (Cond×gB))(rhA:Fde rfA)(h:gB)(o:Int)(k:Nat)(F:Value)(G:Value)(I:Value)(r:Cond×gB)(d:Fez rfB rfA h o=some r)(O S:List Nat)(w:World)(H:Hd O w w S [.own Rp.str F 9 h.r.Phases,.own fA G 122 h.r.Moves,.own fC I 95 h.r.Rules,.blk k [sb h.text,i6 h.at_,i6 h.now.kind,i6 h.now.at_,i6 h.now.n,sb h.now.text,F,G,I] 109,.fz (.at 0 0 ((Fl.arr 7 Fl.str).f zM)),.fz (.gi 4)]):
  Cl 181 [gU k,i6 o] w fun e w'=> ∃ad ae af ag,e= .returned (.agg [i6 r.1.Kind,sb r.1.Name,sb r.1.Other,i6 r.1.Op,i6 r.1.N,i6 r.1.Frames,ad].toArray)∧Hd O w w' S [f1 fD ad r.1.Kids,.own Rp.str ae 9 r.2.r.Phases,.own fA af 122 r.2.r.Moves,.own fC ag 95 r.2.r.Rules,.blk k [sb r.2.text,i6 r.2.at_,i6 r.2.now.kind,i6 r.2.now.at_,i6 r.2.now.n,sb r.2.now.text,ae,af,ag] 109]:=by
 unfold Fez at d
 refine zS 110 Tryz.func181 rfl rfl rfl ?_
 refine zC fun c7 ak=>zA<| yP rfl rfl (Lx_box1 rfl rfl H) ?_
 rintro _ c8 ⟨u,rfl,H⟩
 refine yP rfl rfl (Lx_box1 rfl rfl H) ?_
 rintro _ c9 ⟨v,rfl,H⟩
 refine yP rfl rfl (xH kF H) ?_
 rintro _ da ⟨A,rfl,H⟩
 refine zF (zB (ak _ _ ?_))
 refine zC fun db al=>?_
 refine zC fun dc am=>zA<| Ld one105 H 6 0 rfl rfl ?_
 have an:=H
 have H:=H.freezeB (i:=3) rfl
 have H:=H.freeze (i:=0) rfl
 have H:=H.freeze (i:=1) rfl
 have H:=H.freeze (i:=2) rfl
 have H:=H.fz (.pt dM (some ⟨k,0,none⟩) (some h)) ⟨_,_,_,rfl,(H.item (i:=3) rfl).1,(H.item (i:=3) rfl).2.1,(bH (x:=h) (H.item (i:=0) rfl) (H.item (i:=1) rfl) (H.item (i:=2) rfl)),(H.item (i:=3) rfl).2.2⟩
 obtain ⟨ao,ap,d⟩:=zD d
 refine yA rfl rfl (zV en216 rfl) (Ffmw (some h) (some ⟨k,0,none⟩) _ ap _ _ _ (H.enter [] [9] (by decide) rfl)) ?_
 rintro _ dd ⟨rfl,aq⟩
 have H:=an.step (aq.only:Only [] _ _)
 refine ⟨_,rfl,?_⟩
 obtain ⟨de,ar,d⟩:=zG d
 refine zH (zQ (wL (p:=ao) rfl) ar)<| zF (zB (am _ _ ?_))
 obtain ⟨au,d⟩:=xZ d
 refine dD au ?_
 refine yB (zB (al _ _ ?_))
 refine zC fun df av=>?_
 refine zC fun dg aw=>zA<| Ld fU H 7 0 rfl rfl ?_
 obtain ⟨dh,ax,d⟩:=zG d
 refine zH (zQ (Do_geq (a:=o) (b:=60) rfl rfl) ax)<| zF (zB (aw _ _ ?_))
 obtain ⟨ay,d⟩:=xZ d
 refine dD ay ?_
 refine yB (zB (av _ _ ?_))
 refine zC fun di az=>?_
 refine zC fun dj a0=>zA<| Ld one105 H 6 0 rfl rfl<| zH (zN rfl)<| zH (dW rfl)<| zH (kQ rfl)<| Ld fU H 3 2 rfl rfl ?_
 obtain ⟨a1,a2,d⟩:=zG d
 refine zH (zQ (yT (a:=h.now.kind) (b:=2) rfl rfl) a2)<| zF (zB (a0 _ _ ?_))
 refine yC (b:=a1) rfl (fun J=>?_) (fun J=>?_)
 ·have d:=zT J d
  refine zC fun dk a3=>zA<| Ld one105 H 6 0 rfl rfl ?_
  obtain ⟨⟨y,q⟩,a4,d⟩:=zD d
  refine yA rfl rfl (zV en217 rfl) (Ff2w (gB.mk h.text h.at_ (gZ.mk h.now.kind h.now.at_ h.now.n h.now.text) (Rules.mk h.r.Phases h.r.Moves h.r.Rules)) k F G I _ a4 _ _ _ (H.enter [0,1,2,3] [4,5] (by decide) rfl)) ?_
  rintro _ a5 ⟨K,L,M,P,rfl,a6⟩
  have H:Hd _ _ a5 _ [.fz (.at 0 0 ((Fl.arr 7 Fl.str).f zM)),.fz (.gi 4),.blk u [gU k] 105,.blk v [i6 o] 3,.blk A [i6 0,.string (bs []),.string (bs []),i6 0,i6 0,i6 0,.slice none 0 0] 70,f1 fD K y.Kids,.own Rp.str L 9 q.r.Phases,.own fA M 122 q.r.Moves,.own fC P 95 q.r.Rules,.blk k [sb q.text,i6 q.at_,i6 q.now.kind,i6 q.now.at_,i6 q.now.n,sb q.now.text,L,M,P] 109]:=H.back [0,1,2,3] [4,5] rfl a6
  refine ⟨_,rfl,?_⟩
  refine yV rfl (yQ (vs:=[i6 y.Kind,sb y.Name,sb y.Other,i6 y.Op,i6 y.N,i6 y.Frames,K]) H 4 rfl dB rfl rfl rfl ⟨rfl,rfl,rfl,rfl,rfl,rfl,(wH (H.item (i:=5) rfl)),trivial⟩ rfl) ?_
  rintro dl H
  refine zF (zB (a3 _ _ ?_))
  obtain rfl:=gI d
  refine (zY (zZ (postc rfl rfl (xB dI dB rfl (Hbc H 4 rfl)) ?_)))
  exact ⟨K,L,M,P,rfl,H.pick [5,6,7,8,9] (by decide)⟩
 have d:=zU J d
 refine yB (zB (az _ _ ?_))
 refine zC fun dm a7=>zA<| Ld one105 H 6 0 rfl rfl<| zH (zN rfl)<| zH (dW rfl)<| zH (fa107_3 rfl)<| Ld bC H 3 5 rfl rfl<| zK (sb h.now.text)<| zF (zB (a7 _ _ ?_))
 refine zC fun dn a8=>zA<| Ld one105 H 6 0 rfl rfl ?_
 obtain ⟨l,a9,d⟩:=zD d
 refine yA rfl rfl (zV en120 rfl) (Fanw (gB.mk h.text h.at_ (gZ.mk h.now.kind h.now.at_ h.now.n h.now.text) (Rules.mk h.r.Phases h.r.Moves h.r.Rules)) k F G I _ a9 _ _ _ (H.enter [0,1,2,3] [5] (by decide) rfl)) ?_
 rintro _ ba ⟨B,C,D,rfl,bb⟩
 have H:Hd _ _ ba _ [.fz (.at 0 0 ((Fl.arr 7 Fl.str).f zM)),.fz (.gi 4),.blk u [gU k] 105,.blk v [i6 o] 3,.blk A [i6 0,.string (bs []),.string (bs []),i6 0,i6 0,i6 0,.slice none 0 0] 70,.own Rp.str B 9 l.r.Phases,.own fA C 122 l.r.Moves,.own fC D 95 l.r.Rules,.blk k [sb l.text,i6 l.at_,i6 l.now.kind,i6 l.now.at_,i6 l.now.n,sb l.now.text,B,C,D] 109]:=H.back [0,1,2,3] [5] rfl bb
 refine ⟨_,rfl,?_⟩
 refine zF (zB (a8 _ _ ?_))
 refine zC fun dp bc=>zA<| zH (cZ rfl)<| zK (.func (.func 218) #[] #[gU u,gU v])<| zF (zB (bc _ _ ?_))
 refine zC fun dq bd=>?_
 refine zC fun dr be=>zA<| zI (sb h.now.text)<| zF (zB (be _ _ ?_))
 refine yF ?_
 refine zC fun ds bf=>zA ?_
 obtain ⟨ah,bg,d⟩:=zG d
 refine zH (zQ (wE (s1:=h.now.text) (s2:=[116,114,117,101]) rfl rfl) bg)<| zK (.bool ah)<| zF (zB (bf _ _ ?_))
 refine yC (b:=ah) rfl (fun Q=>?_) (fun Q=>?_)
 ·have d:=zT Q d
  refine zC fun dt bh=>zA<| zH (xM (cs:=[i6 1,.string (bs []),.string (bs []),i6 0,i6 0,i6 0,.slice none 0 0]) (bt70_0 _))<| yV rfl (yQ (vs:=[i6 1,.string (bs []),.string (bs []),i6 0,i6 0,i6 0,.slice none 0 0]) H 4 rfl dB rfl rfl rfl ⟨rfl,rfl,rfl,rfl,rfl,rfl,rfl,trivial⟩ rfl) ?_
  rintro du H
  refine zF (zB (bh _ _ ?_))
  have H:=H.fz (.sl fD (.slice none 0 0) []) SlF.nil
  obtain rfl:=gI d
  refine (zY (yG (zZ (postc rfl rfl (xB dI dB rfl (Hbc H 4 rfl)) ?_))))
  exact ⟨.slice none 0 0,B,C,D,rfl,H.pick [9,5,6,7,8] (by decide)⟩
 have d:=zU Q d
 refine zC fun dv bi=>zA ?_
 obtain ⟨bj,bk,d⟩:=zG d
 refine zH (zQ (wE (s1:=h.now.text) (s2:=[102,97,108,115,101]) rfl rfl) bk)<| zK (.bool bj)<| zF (zB (bi _ _ ?_))
 obtain ⟨bl,d⟩:=xZ d
 refine dD bl ?_
 refine zC fun dw bm=>zA ?_
 obtain ⟨bn,bo,d⟩:=zG d
 refine zH (zQ (wE (s1:=h.now.text) (s2:=[115,116,101,97,100,121]) rfl rfl) bo)<| zK (.bool bn)<| zF (zB (bm _ _ ?_))
 obtain ⟨bp,d⟩:=xZ d
 refine dD bp ?_
 refine zC fun dx bq=>zA ?_
 obtain ⟨br,bt,d⟩:=zG d
 refine zH (zQ (wE (s1:=h.now.text) (s2:=[112,104,97,115,101]) rfl rfl) bt)<| zK (.bool br)<| zF (zB (bq _ _ ?_))
 obtain ⟨bu,d⟩:=xZ d
 refine dD bu ?_
 refine zC fun dy bv=>zA ?_
 obtain ⟨bw,bx,d⟩:=zG d
 refine zH (zQ (wE (s1:=h.now.text) (s2:=[114,117,108,101]) rfl rfl) bx)<| zK (.bool bw)<| zF (zB (bv _ _ ?_))
 obtain ⟨bz,d⟩:=xZ d
 refine dD bz ?_
 refine zC fun dz b0=>zA ?_
 obtain ⟨ai,b1,d⟩:=zG d
 refine zH (zQ (wE (s1:=h.now.text) (s2:=[110,111,116]) rfl rfl) b1)<| zK (.bool ai)<| zF (zB (b0 _ _ ?_))
 refine yC (b:=ai) rfl (fun R=>?_) (fun R=>?_)
 ·have d:=zT R d
  refine zC fun d0 b2=>zA<| zI (.func (.func 218) #[] #[gU u,gU v]) ?_
  obtain ⟨⟨b3,s⟩,b4,d⟩:=zD d
  refine yA rfl rfl (aP en218 rfl rfl) (Fd9w rfA rhA 1 l o u k B C D v _ b4 _ _ _ (H.enter [5,6,7,8,2,3] [0,1] (by decide) rfl)) ?_
  rintro _ b5 ⟨E,T,U,V,rfl,b6⟩
  have H:Hd _ _ b5 _ [.fz (.at 0 0 ((Fl.arr 7 Fl.str).f zM)),.fz (.gi 4),.blk A [i6 0,.string (bs []),.string (bs []),i6 0,i6 0,i6 0,.slice none 0 0] 70,.own fD E 70 b3,.own Rp.str T 9 s.r.Phases,.own fA U 122 s.r.Moves,.own fC V 95 s.r.Rules,.blk k [sb s.text,i6 s.at_,i6 s.now.kind,i6 s.now.at_,i6 s.now.n,sb s.now.text,T,U,V] 109,.blk u [gU k] 105,.blk v [i6 o] 3]:=H.back [5,6,7,8,2,3] [0,1] rfl b6
  refine ⟨_,rfl,?_⟩
  obtain ⟨b7,b8,b9⟩: ∃a c,E= .slice a _ c:=Sr.len (Sr.of_own (H.item (i:=3) rfl))
  refine zH (xM (cs:=[i6 8,.string (bs []),.string (bs []),i6 0,i6 0,i6 0,E]) (by rw [b9]; exact bt70_0_6 _ b7 _ b8))<| yV rfl (yQ (vs:=[i6 8,.string (bs []),.string (bs []),i6 0,i6 0,i6 0,E]) H 2 rfl dB rfl rfl rfl ⟨rfl,rfl,rfl,rfl,rfl,rfl,(bY (H.item (i:=3) rfl)),trivial⟩ rfl) ?_
  rintro d1 H
  refine zF (zB (b2 _ _ ?_))
  have H:=H.freeze (i:=3) rfl
  obtain rfl:=gI d
  refine (zY (yG (zZ (postc rfl rfl (xB dI dB rfl (Hbc H 2 rfl)) ?_))))
  exact ⟨E,T,U,V,rfl,H.pick [3,4,5,6,7] (by decide)⟩
 have d:=zU R d
 refine zC fun d2 ca=>zA ?_
 obtain ⟨cb,cc,d⟩:=zG d
 refine zH (zQ (wE (s1:=h.now.text) (s2:=[102,111,114]) rfl rfl) cc)<| zK (.bool cb)<| zF (zB (ca _ _ ?_))
 obtain ⟨cd,d⟩:=xZ d
 refine dD cd ?_
 refine zC fun d3 ce=>zA ?_
 obtain ⟨cf,cg,d⟩:=zG d
 refine zH (zQ (wE (s1:=h.now.text) (s2:=[119,105,116,104,105,110]) rfl rfl) cg)<| zK (.bool cf)<| zF (zB (ce _ _ ?_))
 obtain ⟨ch,d⟩:=xZ d
 refine dD ch ?_
 refine zC fun d4 ci=>zA ?_
 obtain ⟨cj,ck,d⟩:=zG d
 refine zH (zQ (wE (s1:=h.now.text) (s2:=[99,111,117,110,116]) rfl rfl) ck)<| zK (.bool cj)<| zF (zB (ci _ _ ?_))
 obtain ⟨cl,d⟩:=xZ d
 refine dD cl ?_
 refine zC fun d5 cm=>zA ?_
 obtain ⟨cn,co,d⟩:=zG d
 refine zH (zQ (wE (s1:=h.now.text) (s2:=[114,105,115,101,115]) rfl rfl) co)<| zK (.bool cn)<| zF (zB (cm _ _ ?_))
 obtain ⟨cp,d⟩:=xZ d
 refine dD cp ?_
 refine zC fun d6 cq=>zA ?_
 obtain ⟨cr,ct,d⟩:=zG d
 refine zH (zQ (wE (s1:=h.now.text) (s2:=[115,105,110,99,101]) rfl rfl) ct)<| zK (.bool cr)<| zF (zB (cq _ _ ?_))
 obtain ⟨cu,d⟩:=xZ d
 refine dD cu ?_
 refine (yB (yK (zB (bd _ _ ?_))))
 refine zC fun d7 cv=>zA<| Ld one105 H 2 0 rfl rfl<| Ld fU H 3 0 rfl rfl ?_
 obtain ⟨cw,cx,d⟩:=zG d
 refine zH (xQ (a:=o) (b:=1) rfl rfl cx) ?_
 obtain ⟨⟨j,m⟩,cy,d⟩:=zD d
 refine yA rfl rfl (zV en124 rfl) (rhB (gB.mk l.text l.at_ (gZ.mk l.now.kind l.now.at_ l.now.n l.now.text) (Rules.mk l.r.Phases l.r.Moves l.r.Rules)) cw k B C D _ cy _ _ _ (H.enter [5,6,7,8] [0,1] (by decide) rfl)) ?_
 rintro _ cz ⟨z,X,Y,Z,rfl,c0⟩
 have H:Hd _ _ cz _ [.fz (.at 0 0 ((Fl.arr 7 Fl.str).f zM)),.fz (.gi 4),.blk u [gU k] 105,.blk v [i6 o] 3,.blk A [i6 0,.string (bs []),.string (bs []),i6 0,i6 0,i6 0,.slice none 0 0] 70,f1 fD z j.Kids,.own Rp.str X 9 m.r.Phases,.own fA Y 122 m.r.Moves,.own fC Z 95 m.r.Rules,.blk k [sb m.text,i6 m.at_,i6 m.now.kind,i6 m.now.at_,i6 m.now.n,sb m.now.text,X,Y,Z] 109]:=H.back [5,6,7,8] [0,1] rfl c0
 refine ⟨_,rfl,?_⟩
 refine yP rfl rfl (xH kF H) ?_
 rintro _ d8 ⟨c1,rfl,H⟩
 refine yV rfl (yQ (vs:=[i6 j.Kind,sb j.Name,sb j.Other,i6 j.Op,i6 j.N,i6 j.Frames,z]) H 10 rfl dB rfl rfl rfl ⟨rfl,rfl,rfl,rfl,rfl,rfl,(wH (H.item (i:=5) rfl)),trivial⟩ rfl) ?_
 rintro d9 H
 refine zF (zB (cv _ _ ?_))
 refine zC fun ea c2=>zA<| Ld one105 H 2 0 rfl rfl ?_
 obtain ⟨t,c3,d⟩:=zD d
 refine yA rfl rfl (zV en123 rfl) (Fdnw (gB.mk m.text m.at_ (gZ.mk m.now.kind m.now.at_ m.now.n m.now.text) (Rules.mk m.r.Phases m.r.Moves m.r.Rules)) [41] k X Y Z _ c3 _ _ _ (H.enter [6,7,8,9] [1] (by decide) rfl)) ?_
 rintro _ c4 ⟨aa,ab,ac,rfl,c5⟩
 have H:Hd _ _ c4 _ [.fz (.at 0 0 ((Fl.arr 7 Fl.str).f zM)),.fz (.gi 4),.blk u [gU k] 105,.blk v [i6 o] 3,.blk A [i6 0,.string (bs []),.string (bs []),i6 0,i6 0,i6 0,.slice none 0 0] 70,f1 fD z j.Kids,.blk c1 [i6 j.Kind,sb j.Name,sb j.Other,i6 j.Op,i6 j.N,i6 j.Frames,z] 70,.own Rp.str aa 9 t.r.Phases,.own fA ab 122 t.r.Moves,.own fC ac 95 t.r.Rules,.blk k [sb t.text,i6 t.at_,i6 t.now.kind,i6 t.now.at_,i6 t.now.n,sb t.now.text,aa,ab,ac] 109]:=H.back [6,7,8,9] [1] rfl c5
 refine ⟨_,rfl,?_⟩
 refine zF (zB (c2 _ _ ?_))
 refine zC fun eb c6=>zA<| zH (yJ (yM (cs:=[i6 j.Kind,sb j.Name,sb j.Other,i6 j.Op,i6 j.N,i6 j.Frames,z]) dI rfl dB rfl (Hbc H 6 rfl)) rfl)<| yV rfl (yQ (vs:=[i6 j.Kind,sb j.Name,sb j.Other,i6 j.Op,i6 j.N,i6 j.Frames,z]) H 4 rfl dB rfl rfl rfl ⟨rfl,rfl,rfl,rfl,rfl,rfl,(wH (H.item (i:=5) rfl)),trivial⟩ rfl) ?_
 rintro ec H
 refine zF (zB (c6 _ _ ?_))
 obtain rfl:=gI d
 refine (zY (postc rfl rfl (xB dI dB rfl (Hbc H 4 rfl)) ?_))
 exact ⟨z,aa,ab,ac,rfl,H.pick [5,7,8,9,10] (by decide)⟩
theorem Fgw (rfB:gB→Int→Option (Cond×gB))(rhB:Fak rfB):Fde (Fgi rfB):=by
 have h: ∀n,Fde (Fd1 rfB n):=by
  intro n
  induction n with
  | zero=>intro b c d e f i r a; cases a
  | succ n ih=>intro b c d e f i r a; exact Fezw rfB rhB (Fd1 rfB n) ih b c d e f i r a
 exact h FU
theorem Ffyw (rfB:gB→Int→Option (Cond×gB))(rhB:Fak rfB)(a:gB)(h:Int)(j:Nat)(c:Nat)(m:Value)(o:Value)(p:Value)(k:Nat)(r:Cond×gB)(l:Ffy rfB a h=some r)(O S:List Nat)(w:World)(H:Hd O w w S [.own Rp.str m 9 a.r.Phases,.own fA o 122 a.r.Moves,.own fC p 95 a.r.Rules,.blk c [sb a.text,i6 a.at_,i6 a.now.kind,i6 a.now.at_,i6 a.now.n,sb a.now.text,m,o,p] 109,.blk j [gU c] 105,.blk k [i6 h] 3,.fz (.at 0 0 ((Fl.arr 7 Fl.str).f zM)),.fz (.gi 4)]):
  Cl 180 [gU j,gU k] w fun e A=> ∃v x y z,e= .returned (.agg [i6 r.1.Kind,sb r.1.Name,sb r.1.Other,i6 r.1.Op,i6 r.1.N,i6 r.1.Frames,v].toArray)∧Hd O w A S [f1 fD v r.1.Kids,.own Rp.str x 9 r.2.r.Phases,.own fA y 122 r.2.r.Moves,.own fC z 95 r.2.r.Rules,.blk c [sb r.2.text,i6 r.2.at_,i6 r.2.now.kind,i6 r.2.now.at_,i6 r.2.now.n,sb r.2.now.text,x,y,z] 109,.blk j [gU c] 105,.blk k [i6 h] 3]:=by
 unfold Ffy at l
 refine zS 6 Tryz.func180 rfl rfl rfl ?_
 refine zC fun I B=>zA<| yP rfl rfl (xH kF H) ?_
 rintro _ J ⟨C,rfl,H⟩
 refine zF (zB (B _ _ ?_))
 refine zC fun K D=>zA<| Ld one105 H 4 0 rfl rfl<| Ld fU H 5 0 rfl rfl ?_
 obtain ⟨⟨d,b⟩,E,l⟩:=zD l
 refine yA rfl rfl (zV en181 rfl) (Fgw rfB rhB (gB.mk a.text a.at_ (gZ.mk a.now.kind a.now.at_ a.now.n a.now.text) (Rules.mk a.r.Phases a.r.Moves a.r.Rules)) h c m o p _ E _ _ _ (H.enter [0,1,2,3] [6,7] (by decide) rfl)) ?_
 rintro _ F ⟨q,s,t,u,rfl,G⟩
 have H:Hd _ _ F _ [.blk j [gU c] 105,.blk k [i6 h] 3,.fz (.at 0 0 ((Fl.arr 7 Fl.str).f zM)),.fz (.gi 4),.blk C [i6 0,.string (bs []),.string (bs []),i6 0,i6 0,i6 0,.slice none 0 0] 70,f1 fD q d.Kids,.own Rp.str s 9 b.r.Phases,.own fA t 122 b.r.Moves,.own fC u 95 b.r.Rules,.blk c [sb b.text,i6 b.at_,i6 b.now.kind,i6 b.now.at_,i6 b.now.n,sb b.now.text,s,t,u] 109]:=H.back [0,1,2,3] [6,7] rfl G
 refine ⟨_,rfl,?_⟩
 refine yV rfl (yQ (vs:=[i6 d.Kind,sb d.Name,sb d.Other,i6 d.Op,i6 d.N,i6 d.Frames,q]) H 4 rfl dB rfl rfl rfl ⟨rfl,rfl,rfl,rfl,rfl,rfl,(wH (H.item (i:=5) rfl)),trivial⟩ rfl) ?_
 rintro L H
 refine zF (zB (D _ _ ?_))
 obtain rfl:=gI l
 refine (zY (postc rfl rfl (xB dI dB rfl (Hbc H 4 rfl)) ?_))
 exact ⟨q,s,t,u,rfl,H.pick [5,6,7,8,9,0,1] (by decide)⟩
theorem Ff3w (rfB:gB→Int→Option (Cond×gB))(rhB:Fak rfB)(l:gB)(u:Str)(E:Int)(p3c1:Int)(j:Nat)(z:Value)(A:Value)(B:Value)(m:Nat)(o:Nat)(r:Cond×gB)(c:Ff3 rfB l u E p3c1=some r)(O S:List Nat)(w:World)(H:Hd O w w S [.own Rp.str z 9 l.r.Phases,.own fA A 122 l.r.Moves,.own fC B 95 l.r.Rules,.blk j [sb l.text,i6 l.at_,i6 l.now.kind,i6 l.now.at_,i6 l.now.n,sb l.now.text,z,A,B] 109,.blk m [gU j] 105,.blk o [i6 p3c1] 3,.fz (.at 0 0 ((Fl.arr 7 Fl.str).f zM)),.fz (.gi 4)]):
  Cl 178 [gU j,sb u,i6 E,.func (.func 180) #[] #[gU m,gU o]] w fun e L=> ∃F G I J,e= .returned (.agg [i6 r.1.Kind,sb r.1.Name,sb r.1.Other,i6 r.1.Op,i6 r.1.N,i6 r.1.Frames,F].toArray)∧Hd O w L S [f1 fD F r.1.Kids,.own Rp.str G 9 r.2.r.Phases,.own fA I 122 r.2.r.Moves,.own fC J 95 r.2.r.Rules,.blk j [sb r.2.text,i6 r.2.at_,i6 r.2.now.kind,i6 r.2.now.at_,i6 r.2.now.n,sb r.2.now.text,G,I,J] 109,.blk m [gU j] 105,.blk o [i6 p3c1] 3]:=by
 unfold Ff3 at c
 refine zS 32 Tryz.func178 rfl rfl rfl ?_
 refine zC fun aq M=>zA<| yP rfl rfl (xH kF H) ?_
 rintro _ ar ⟨C,rfl,H⟩
 refine zF (zB (M _ _ ?_))
 refine zC fun au P=>zA<| zI (.func (.func 180) #[] #[gU m,gU o]) ?_
 obtain ⟨⟨h,d⟩,Q,c⟩:=zD c
 refine yA rfl rfl (aP en180 rfl rfl) (Ffyw rfB rhB l p3c1 m j z A B o _ Q _ _ _ (H.enter [0,1,2,3,4,5] [6,7] (by decide) rfl)) ?_
 rintro _ R ⟨v,p,q,s,rfl,T⟩
 have H:Hd _ _ R _ [.fz (.at 0 0 ((Fl.arr 7 Fl.str).f zM)),.fz (.gi 4),.blk C [i6 0,.string (bs []),.string (bs []),i6 0,i6 0,i6 0,.slice none 0 0] 70,f1 fD v h.Kids,.own Rp.str p 9 d.r.Phases,.own fA q 122 d.r.Moves,.own fC s 95 d.r.Rules,.blk j [sb d.text,i6 d.at_,i6 d.now.kind,i6 d.now.at_,i6 d.now.n,sb d.now.text,p,q,s] 109,.blk m [gU j] 105,.blk o [i6 p3c1] 3]:=H.back [0,1,2,3,4,5] [6,7] rfl T
 refine ⟨_,rfl,?_⟩
 obtain ⟨av,U,c⟩:=zG c
 subst U
 refine yP rfl rfl (kM (r:=fD) (xl:=[h]) (cs:=[i6 h.Kind,sb h.Name,sb h.Other,i6 h.Op,i6 h.N,i6 h.Frames,v]) u68 el70 (by decide) (by decide) rfl (xP (vs:=[.agg [i6 h.Kind,sb h.Name,sb h.Other,i6 h.Op,i6 h.N,i6 h.Frames,v].toArray]) (by decide) rfl rfl ⟨rfl,trivial⟩ rfl) H ⟨[i6 h.Kind,sb h.Name,sb h.Other,i6 h.Op,i6 h.N,i6 h.Frames,v],[],rfl,(rCond_mk (x:=h) (H.item (i:=3) rfl)),rfl⟩) ?_
 rintro t aw H
 refine zK t<| zF (zB (P _ _ ?_))
 obtain ⟨V,c,X⟩:=zD c
 refine yL [9,13,14,15,16,17,18,19,20,21,22] (fun (g:Unit)=>[(9,t)]) (fun g wl=>Hd O w wl S [.own fD t 70 ([h]:List Cond),.fz (.at 0 0 ((Fl.arr 7 Fl.str).f zM)),.fz (.gi 4),.blk C [i6 0,.string (bs []),.string (bs []),i6 0,i6 0,i6 0,.slice none 0 0] 70,.own Rp.str p 9 d.r.Phases,.own fA q 122 d.r.Moves,.own fC s 95 d.r.Rules,.blk j [sb d.text,i6 d.at_,i6 d.now.kind,i6 d.now.at_,i6 d.now.n,sb d.now.text,p,q,s] 109,.blk m [gU j] 105,.blk o [i6 p3c1] 3]) ?_ ?_
 ·skip
  refine yF ?_
  unfold Fgl at c
  obtain ⟨Y,K,Z,c⟩:=yR c
  refine xG [9,13,14,15,16,17,18,19,20,21,22] (fun (g:Nat)=>[(9,t)]) (fun g wl=>Hd O w wl S [.own fD t 70 ([h]:List Cond),.fz (.at 0 0 ((Fl.arr 7 Fl.str).f zM)),.fz (.gi 4),.blk C [i6 0,.string (bs []),.string (bs []),i6 0,i6 0,i6 0,.slice none 0 0] 70,.own Rp.str p 9 d.r.Phases,.own fA q 122 d.r.Moves,.own fC s 95 d.r.Rules,.blk j [sb d.text,i6 d.at_,i6 d.now.kind,i6 d.now.at_,i6 d.now.n,sb d.now.text,p,q,s] 109,.blk m [gU j] 105,.blk o [i6 p3c1] 3]∧eF Y g ()=some V) (fun g=>g) K (zL rfl zO) ⟨H.pick [10,0,1,2,4,5,6,7,8,9] (by decide),c⟩ ?_
  clear H c
  rintro K ρ ax ⟨H,c⟩
  obtain ⟨ay,rfl,c⟩:=yX c
  have c:=yY Z c
  refine zC fun az a0=>?_
  refine zC fun a1 aa=>zA<| zI (gU j)<| zI (sb u) ?_
  have ab:=H
  have H:=H.freezeB (i:=7) rfl
  have H:=H.freeze (i:=4) rfl
  have H:=H.freeze (i:=5) rfl
  have H:=H.freeze (i:=6) rfl
  have H:=H.fz (.pt dM (some ⟨j,0,none⟩) (some d)) ⟨_,_,_,rfl,(H.item (i:=7) rfl).1,(H.item (i:=7) rfl).2.1,(bH (x:=d) (H.item (i:=4) rfl) (H.item (i:=5) rfl) (H.item (i:=6) rfl)),(H.item (i:=7) rfl).2.2⟩
  obtain ⟨a2,ac,c⟩:=zD c
  refine yA rfl rfl (zV en121 rfl) (Fajw (some d) u (some ⟨j,0,none⟩) _ ac _ _ _ (H.enter [] [10] (by decide) rfl)) ?_
  rintro _ a3 ⟨rfl,ad⟩
  have H:=ab.step (ad.only:Only [] _ _)
  refine ⟨_,rfl,?_⟩
  refine zF (zB (aa _ _ ?_))
  obtain ⟨ae,c⟩:=xZ c
  refine dD ae ?_
  obtain rfl:=gI c
  exact (xK (yH (yH (yU (zB (meet ⟨(),(zL rfl zO),H.pick [0,1,2,3,4,5,6,7,8,9] (by decide)⟩))))))
 rintro _ ρ a4 H
 have c:=X
 refine zC fun a5 a6=>?_
 refine zC fun a7 af=>zA<| zI t ?_
 obtain ⟨ag,ah,c⟩:=zG c
 obtain ⟨a8,a9,ai⟩:=Sr.len (Sr.of_own (H.item (i:=0) rfl))
 refine zH (yJ (xN u68 ai) (congrArg (Value.int .i64) ah)) ?_
 obtain ⟨ba,aj,c⟩:=zG c
 refine zH (zQ (yT (a:=ag) (b:=1) rfl rfl) aj)<| zF (zB (af _ _ ?_))
 obtain ⟨ak,c⟩:=iteB_nf c
 refine WP_ifT ak ?_
 refine zC fun bb al=>zA<| zI t ?_
 obtain ⟨k,D,c⟩:=zD c
 obtain ⟨bc,bd,be,am,an,ao⟩:=kT (H.item (i:=0) rfl) D
 obtain ⟨y,rfl,ap⟩:=bQ an
 have H:=H.fzs [.sl fD y k.Kids] ⟨ap,trivial⟩
 refine zH (xJ u68 dB am rfl (yE D).1 (yE D).2.1 rfl rfl)<| zH (yJ (yM (cs:=[i6 k.Kind,sb k.Name,sb k.Other,i6 k.Op,i6 k.N,i6 k.Frames,y]) dI rfl dB rfl ao) rfl)<| yV rfl (yQ (vs:=[i6 k.Kind,sb k.Name,sb k.Other,i6 k.Op,i6 k.N,i6 k.Frames,y]) H 3 rfl dB rfl rfl rfl ⟨rfl,rfl,rfl,rfl,rfl,rfl,(wH (H.item (i:=10) rfl)),trivial⟩ rfl) ?_
 rintro bf H
 refine zF (zB (al _ _ ?_))
 obtain rfl:=gI c
 refine (zY (zZ (postc rfl rfl (xB dI dB rfl (Hbc H 3 rfl)) ?_)))
 exact ⟨y,p,q,s,rfl,H.pick [10,4,5,6,7,8,9] (by decide)⟩
theorem Fdtw (rfB:gB→Int→Option (Cond×gB))(rhB:Fak rfB)(a:gB)(h:Int)(j:Nat)(c:Nat)(m:Value)(o:Value)(p:Value)(k:Nat)(r:Cond×gB)(l:Fdt rfB a h=some r)(O S:List Nat)(w:World)(H:Hd O w w S [.own Rp.str m 9 a.r.Phases,.own fA o 122 a.r.Moves,.own fC p 95 a.r.Rules,.blk c [sb a.text,i6 a.at_,i6 a.now.kind,i6 a.now.at_,i6 a.now.n,sb a.now.text,m,o,p] 109,.blk j [gU c] 105,.blk k [i6 h] 3,.fz (.at 0 0 ((Fl.arr 7 Fl.str).f zM)),.fz (.gi 4)]):
  Cl 179 [gU j,gU k] w fun e A=> ∃v x y z,e= .returned (.agg [i6 r.1.Kind,sb r.1.Name,sb r.1.Other,i6 r.1.Op,i6 r.1.N,i6 r.1.Frames,v].toArray)∧Hd O w A S [f1 fD v r.1.Kids,.own Rp.str x 9 r.2.r.Phases,.own fA y 122 r.2.r.Moves,.own fC z 95 r.2.r.Rules,.blk c [sb r.2.text,i6 r.2.at_,i6 r.2.now.kind,i6 r.2.now.at_,i6 r.2.now.n,sb r.2.now.text,x,y,z] 109,.blk j [gU c] 105,.blk k [i6 h] 3]:=by
 unfold Fdt at l
 refine zS 6 Tryz.func179 rfl rfl rfl ?_
 refine zC fun I B=>zA<| yP rfl rfl (xH kF H) ?_
 rintro _ J ⟨C,rfl,H⟩
 refine zF (zB (B _ _ ?_))
 refine zC fun K D=>zA<| Ld one105 H 4 0 rfl rfl<| zH (cZ rfl) ?_
 obtain ⟨⟨d,b⟩,E,l⟩:=zD l
 refine yA rfl rfl (zV en178 rfl) (Ff3w rfB rhB (gB.mk a.text a.at_ (gZ.mk a.now.kind a.now.at_ a.now.n a.now.text) (Rules.mk a.r.Phases a.r.Moves a.r.Rules)) [97,110,100] 9 h c m o p j k _ E _ _ _ (H.enter [0,1,2,3,4,5] [6,7] (by decide) rfl)) ?_
 rintro _ F ⟨q,s,t,u,rfl,G⟩
 have H:Hd _ _ F _ [.fz (.at 0 0 ((Fl.arr 7 Fl.str).f zM)),.fz (.gi 4),.blk C [i6 0,.string (bs []),.string (bs []),i6 0,i6 0,i6 0,.slice none 0 0] 70,f1 fD q d.Kids,.own Rp.str s 9 b.r.Phases,.own fA t 122 b.r.Moves,.own fC u 95 b.r.Rules,.blk c [sb b.text,i6 b.at_,i6 b.now.kind,i6 b.now.at_,i6 b.now.n,sb b.now.text,s,t,u] 109,.blk j [gU c] 105,.blk k [i6 h] 3]:=H.back [0,1,2,3,4,5] [6,7] rfl G
 refine ⟨_,rfl,?_⟩
 refine yV rfl (yQ (vs:=[i6 d.Kind,sb d.Name,sb d.Other,i6 d.Op,i6 d.N,i6 d.Frames,q]) H 2 rfl dB rfl rfl rfl ⟨rfl,rfl,rfl,rfl,rfl,rfl,(wH (H.item (i:=3) rfl)),trivial⟩ rfl) ?_
 rintro L H
 refine zF (zB (D _ _ ?_))
 obtain rfl:=gI l
 refine (zY (postc rfl rfl (xB dI dB rfl (Hbc H 2 rfl)) ?_))
 exact ⟨q,s,t,u,rfl,H.pick [3,4,5,6,7,8,9] (by decide)⟩
theorem Fenw (rfB:gB→Int→Option (Cond×gB))(rhB:Fak rfB)(t:gB)(A:Str)(y:Int)(p3c1:Int)(h:Nat)(R:Value)(T:Value)(U:Value)(p:Nat)(q:Nat)(r:Cond×gB)(d:Fen rfB t A y p3c1=some r)(O S:List Nat)(w:World)(H:Hd O w w S [.own Rp.str R 9 t.r.Phases,.own fA T 122 t.r.Moves,.own fC U 95 t.r.Rules,.blk h [sb t.text,i6 t.at_,i6 t.now.kind,i6 t.now.at_,i6 t.now.n,sb t.now.text,R,T,U] 109,.blk p [gU h] 105,.blk q [i6 p3c1] 3,.fz (.at 0 0 ((Fl.arr 7 Fl.str).f zM)),.fz (.gi 4)]):
  Cl 178 [gU h,sb A,i6 y,.func (.func 179) #[] #[gU p,gU q]] w fun e w'=> ∃ai aj ak al,e= .returned (.agg [i6 r.1.Kind,sb r.1.Name,sb r.1.Other,i6 r.1.Op,i6 r.1.N,i6 r.1.Frames,ai].toArray)∧Hd O w w' S [f1 fD ai r.1.Kids,.own Rp.str aj 9 r.2.r.Phases,.own fA ak 122 r.2.r.Moves,.own fC al 95 r.2.r.Rules,.blk h [sb r.2.text,i6 r.2.at_,i6 r.2.now.kind,i6 r.2.now.at_,i6 r.2.now.n,sb r.2.now.text,aj,ak,al] 109,.blk p [gU h] 105,.blk q [i6 p3c1] 3]:=by
 unfold Fen at d
 refine zS 32 Tryz.func178 rfl rfl rfl ?_
 refine zC fun b7 az=>zA<| yP rfl rfl (xH kF H) ?_
 rintro _ b8 ⟨z,rfl,H⟩
 refine zF (zB (az _ _ ?_))
 refine zC fun b9 a0=>zA<| zI (.func (.func 179) #[] #[gU p,gU q]) ?_
 obtain ⟨⟨j,l⟩,a1,d⟩:=zD d
 refine yA rfl rfl (aP en179 rfl rfl) (Fdtw rfB rhB t p3c1 p h R T U q _ a1 _ _ _ (H.enter [0,1,2,3,4,5] [6,7] (by decide) rfl)) ?_
 rintro _ a2 ⟨B,V,X,Y,rfl,a3⟩
 have H:Hd _ _ a2 _ [.fz (.at 0 0 ((Fl.arr 7 Fl.str).f zM)),.fz (.gi 4),.blk z [i6 0,.string (bs []),.string (bs []),i6 0,i6 0,i6 0,.slice none 0 0] 70,f1 fD B j.Kids,.own Rp.str V 9 l.r.Phases,.own fA X 122 l.r.Moves,.own fC Y 95 l.r.Rules,.blk h [sb l.text,i6 l.at_,i6 l.now.kind,i6 l.now.at_,i6 l.now.n,sb l.now.text,V,X,Y] 109,.blk p [gU h] 105,.blk q [i6 p3c1] 3]:=H.back [0,1,2,3,4,5] [6,7] rfl a3
 refine ⟨_,rfl,?_⟩
 obtain ⟨ca,a4,d⟩:=zG d
 subst a4
 refine yP rfl rfl (kM (r:=fD) (xl:=[j]) (cs:=[i6 j.Kind,sb j.Name,sb j.Other,i6 j.Op,i6 j.N,i6 j.Frames,B]) u68 el70 (by decide) (by decide) rfl (xP (vs:=[.agg [i6 j.Kind,sb j.Name,sb j.Other,i6 j.Op,i6 j.N,i6 j.Frames,B].toArray]) (by decide) rfl rfl ⟨rfl,trivial⟩ rfl) H ⟨[i6 j.Kind,sb j.Name,sb j.Other,i6 j.Op,i6 j.N,i6 j.Frames,B],[],rfl,(rCond_mk (x:=j) (H.item (i:=3) rfl)),rfl⟩) ?_
 rintro am cb H
 refine zK am<| zF (zB (a0 _ _ ?_))
 obtain ⟨s,d,a5⟩:=zD d
 refine yL [9,13,14,15,16,17,18,19,20,21,22] (fun (g:Value×Value×Value×Value)=>[(9,g.1)]) (fun g wl=>Hd O w wl S [.own fD g.1 70 s.1,.fz (.at 0 0 ((Fl.arr 7 Fl.str).f zM)),.fz (.gi 4),.blk z [i6 0,.string (bs []),.string (bs []),i6 0,i6 0,i6 0,.slice none 0 0] 70,.blk h [sb s.2.1,i6 s.2.2.1,i6 s.2.2.2.1,i6 s.2.2.2.2.1,i6 s.2.2.2.2.2.1,sb s.2.2.2.2.2.2.1,g.2.1,g.2.2.1,g.2.2.2] 109,.own Rp.str g.2.1 9 s.2.2.2.2.2.2.2.1,.own fA g.2.2.1 122 s.2.2.2.2.2.2.2.2.1,.own fC g.2.2.2 95 s.2.2.2.2.2.2.2.2.2,.blk p [gU h] 105,.blk q [i6 p3c1] 3]) ?_ ?_
 ·skip
  refine yF ?_
  unfold Fgm at d
  obtain ⟨a6,an,a7,d⟩:=yR d
  refine xG [9,13,14,15,16,17,18,19,20,21,22] (fun (g:Nat×(List Cond)×Str×Int×Int×Int×Int×Str×(List Str)×(List aF)×(List bJ)×Value×Value×Value×Value)=>[(9,g.2.2.2.2.2.2.2.2.2.2.2.1)]) (fun g wl=>Hd O w wl S [.own fD g.2.2.2.2.2.2.2.2.2.2.2.1 70 g.2.1,.fz (.at 0 0 ((Fl.arr 7 Fl.str).f zM)),.fz (.gi 4),.blk z [i6 0,.string (bs []),.string (bs []),i6 0,i6 0,i6 0,.slice none 0 0] 70,.blk h [sb g.2.2.1,i6 g.2.2.2.1,i6 g.2.2.2.2.1,i6 g.2.2.2.2.2.1,i6 g.2.2.2.2.2.2.1,sb g.2.2.2.2.2.2.2.1,g.2.2.2.2.2.2.2.2.2.2.2.2.1,g.2.2.2.2.2.2.2.2.2.2.2.2.2.1,g.2.2.2.2.2.2.2.2.2.2.2.2.2.2] 109,.own Rp.str g.2.2.2.2.2.2.2.2.2.2.2.2.1 9 g.2.2.2.2.2.2.2.2.1,.own fA g.2.2.2.2.2.2.2.2.2.2.2.2.2.1 122 g.2.2.2.2.2.2.2.2.2.1,.own fC g.2.2.2.2.2.2.2.2.2.2.2.2.2.2 95 g.2.2.2.2.2.2.2.2.2.2.1,.blk p [gU h] 105,.blk q [i6 p3c1] 3]∧eF a6 g.1 (g.2.1,g.2.2.1,g.2.2.2.1,g.2.2.2.2.1,g.2.2.2.2.2.1,g.2.2.2.2.2.2.1,g.2.2.2.2.2.2.2.1,g.2.2.2.2.2.2.2.2.1,g.2.2.2.2.2.2.2.2.2.1,g.2.2.2.2.2.2.2.2.2.2.1)=some s) (fun g=>g.1) (an,([j]:List Cond),l.text,l.at_,l.now.kind,l.now.at_,l.now.n,l.now.text,l.r.Phases,l.r.Moves,l.r.Rules,am,V,X,Y) (zL rfl zO) ⟨H.pick [10,0,1,2,7,4,5,6,8,9] (by decide),d⟩ ?_
  clear H d
  rintro ⟨an,ao,C,D,E,F,G,I,J,K,L,M,ap,aq,ar⟩ ρ cc ⟨H,d⟩
  obtain ⟨a8,rfl,d⟩:=yX d
  have d:=yY a7 d
  refine zC fun cd a9=>?_
  refine zC fun ce ba=>zA<| zI (gU h)<| zI (sb A) ?_
  have bb:=H
  have H:=H.freezeB (i:=4) rfl
  have H:=H.freeze (i:=5) rfl
  have H:=H.freeze (i:=6) rfl
  have H:=H.freeze (i:=7) rfl
  have H:=H.fz (.pt dM (some ⟨h,0,none⟩) (some (gB.mk C D (gZ.mk E F G I) (Rules.mk J K L)))) ⟨_,_,_,rfl,(H.item (i:=4) rfl).1,(H.item (i:=4) rfl).2.1,(bH (x:=gB.mk C D (gZ.mk E F G I) (Rules.mk J K L)) (H.item (i:=5) rfl) (H.item (i:=6) rfl) (H.item (i:=7) rfl)),(H.item (i:=4) rfl).2.2⟩
  obtain ⟨bc,bd,d⟩:=zD d
  refine yA rfl rfl (zV en121 rfl) (Fajw (some (gB.mk C D (gZ.mk E F G I) (Rules.mk J K L))) A (some ⟨h,0,none⟩) _ bd _ _ _ (H.enter [] [10] (by decide) rfl)) ?_
  rintro _ cf ⟨rfl,be⟩
  have H:=bb.step (be.only:Only [] _ _)
  refine ⟨_,rfl,?_⟩
  refine zF (zB (ba _ _ ?_))
  refine yC (b:=bc) rfl (fun Z=>?_) (fun Z=>?_)
  ·have d:=zT Z d
   refine yB (zB (a9 _ _ ?_))
   refine yF ?_
   refine zC fun cg bf=>zA<| zI (gU h) ?_
   obtain ⟨u,bg,d⟩:=zD d
   refine yA rfl rfl (zV en120 rfl) (Fanw (gB.mk C D (gZ.mk E F G I) (Rules.mk J K L)) h ap aq ar _ bg _ _ _ (H.enter [5,6,7,4] [2] (by decide) rfl)) ?_
   rintro _ bh ⟨aa,ab,ac,rfl,bi⟩
   have H:Hd _ _ bh _ [.own fD M 70 ao,.fz (.at 0 0 ((Fl.arr 7 Fl.str).f zM)),.fz (.gi 4),.blk z [i6 0,.string (bs []),.string (bs []),i6 0,i6 0,i6 0,.slice none 0 0] 70,.blk p [gU h] 105,.blk q [i6 p3c1] 3,.own Rp.str aa 9 u.r.Phases,.own fA ab 122 u.r.Moves,.own fC ac 95 u.r.Rules,.blk h [sb u.text,i6 u.at_,i6 u.now.kind,i6 u.now.at_,i6 u.now.n,sb u.now.text,aa,ab,ac] 109]:=H.back [5,6,7,4] [2] rfl bi
   refine ⟨_,rfl,?_⟩
   refine zF (zB (bf _ _ ?_))
   refine zA ?_
   refine zI M<| zI (.func (.func 179) #[] #[gU p,gU q]) ?_
   obtain ⟨⟨k,m⟩,bj,d⟩:=zD d
   refine yA rfl rfl (aP en179 rfl rfl) (Fdtw rfB rhB u p3c1 p h aa ab ac q _ bj _ _ _ (H.enter [6,7,8,9,4,5] [1,2] (by decide) rfl)) ?_
   rintro _ bk ⟨P,ad,ae,af,rfl,bl⟩
   have H:Hd _ _ bk _ [.own fD M 70 ao,.fz (.at 0 0 ((Fl.arr 7 Fl.str).f zM)),.fz (.gi 4),.blk z [i6 0,.string (bs []),.string (bs []),i6 0,i6 0,i6 0,.slice none 0 0] 70,f1 fD P k.Kids,.own Rp.str ad 9 m.r.Phases,.own fA ae 122 m.r.Moves,.own fC af 95 m.r.Rules,.blk h [sb m.text,i6 m.at_,i6 m.now.kind,i6 m.now.at_,i6 m.now.n,sb m.now.text,ad,ae,af] 109,.blk p [gU h] 105,.blk q [i6 p3c1] 3]:=H.back [6,7,8,9,4,5] [1,2] rfl bl
   refine ⟨_,rfl,?_⟩
   obtain ⟨ch,bm,d⟩:=zG d
   subst bm
   refine yP rfl rfl (kM (r:=fD) (xl:=[k]) (cs:=[i6 k.Kind,sb k.Name,sb k.Other,i6 k.Op,i6 k.N,i6 k.Frames,P]) u68 el70 (by decide) (by decide) rfl (xP (vs:=[.agg [i6 k.Kind,sb k.Name,sb k.Other,i6 k.Op,i6 k.N,i6 k.Frames,P].toArray]) (by decide) rfl rfl ⟨rfl,trivial⟩ rfl) H ⟨[i6 k.Kind,sb k.Name,sb k.Other,i6 k.Op,i6 k.N,i6 k.Frames,P],[],rfl,(rCond_mk (x:=k) (H.item (i:=4) rfl)),rfl⟩) ?_
   rintro ci cj H
   obtain ⟨bn,bo,d⟩:=zD d
   refine yP rfl rfl (aO H (i:=0) rfl u68 el70 rfl rfl (Sr.of_own (H.item (i:=11) rfl)) bo) ?_
   rintro au ck H
   refine zK au ?_
   exact (zF (yK (zB (meet ⟨(a8,bn,m.text,m.at_,m.now.kind,m.now.at_,m.now.n,m.now.text,m.r.Phases,m.r.Moves,m.r.Rules,au,ad,ae,af),(zL rfl zO),⟨H.pick [0,1,2,3,8,5,6,7,9,10] (by decide),d⟩,Nat.lt_succ_self _⟩))))
  have d:=zU Z d
  obtain rfl:=gI d
  exact (xK (yH (yH (yU (zB (meet ⟨(M,ap,aq,ar),(zL rfl zO),H.pick [0,1,2,3,4,5,6,7,8,9] (by decide)⟩))))))
 rintro ⟨v,av,aw,ax⟩ ρ cl H
 have d:=a5
 obtain ⟨cm,cn,co,cp,cq,cr,ct,cu,cv,cw⟩:=s
 refine zC fun cx bp=>?_
 refine zC fun cy bq=>zA<| zI v ?_
 obtain ⟨br,bt,d⟩:=zG d
 obtain ⟨cz,c0,bu⟩:=Sr.len (Sr.of_own (H.item (i:=0) rfl))
 refine zH (yJ (xN u68 bu) (congrArg (Value.int .i64) bt)) ?_
 obtain ⟨bv,bw,d⟩:=zG d
 refine zH (zQ (yT (a:=br) (b:=1) rfl rfl) bw)<| zF (zB (bq _ _ ?_))
 refine yC (b:=bv) rfl (fun ag=>?_) (fun ag=>?_)
 ·have d:=zT ag d
  refine zC fun c1 bx=>zA<| zI v ?_
  obtain ⟨o,ah,d⟩:=zD d
  obtain ⟨c2,c3,c4,bz,b0,b1⟩:=kT (H.item (i:=0) rfl) ah
  obtain ⟨Q,rfl,b2⟩:=bQ b0
  have H:=H.fzs [.sl fD Q o.Kids] ⟨b2,trivial⟩
  refine zH (xJ u68 dB bz rfl (yE ah).1 (yE ah).2.1 rfl rfl)<| zH (yJ (yM (cs:=[i6 o.Kind,sb o.Name,sb o.Other,i6 o.Op,i6 o.N,i6 o.Frames,Q]) dI rfl dB rfl b1) rfl)<| yV rfl (yQ (vs:=[i6 o.Kind,sb o.Name,sb o.Other,i6 o.Op,i6 o.N,i6 o.Frames,Q]) H 3 rfl dB rfl rfl rfl ⟨rfl,rfl,rfl,rfl,rfl,rfl,(wH (H.item (i:=10) rfl)),trivial⟩ rfl) ?_
  rintro c5 H
  refine zF (zB (bx _ _ ?_))
  obtain rfl:=gI d
  refine (zY (zZ (postc rfl rfl (xB dI dB rfl (Hbc H 3 rfl)) ?_)))
  exact ⟨Q,av,aw,ax,rfl,H.pick [10,5,6,7,4,8,9] (by decide)⟩
 have d:=zU ag d
 refine yB (zB (bp _ _ ?_))
 refine zC fun c6 b3=>zA<| zI (i6 y)<| zI v ?_
 obtain ⟨b4,b5,b6⟩: ∃a c,v= .slice a _ c:=Sr.len (Sr.of_own (H.item (i:=0) rfl))
 refine zH (xM (cs:=[i6 y,.string (bs []),.string (bs []),i6 0,i6 0,i6 0,v]) (by rw [b6]; exact bt70_0_6 _ b4 _ b5))<| yV rfl (yQ (vs:=[i6 y,.string (bs []),.string (bs []),i6 0,i6 0,i6 0,v]) H 3 rfl dB rfl rfl rfl ⟨rfl,rfl,rfl,rfl,rfl,rfl,(bY (H.item (i:=0) rfl)),trivial⟩ rfl) ?_
 rintro c7 H
 refine zF (zB (b3 _ _ ?_))
 have H:=H.freeze (i:=0) rfl
 obtain rfl:=gI d
 refine (zY (postc rfl rfl (xB dI dB rfl (Hbc H 3 rfl)) ?_))
 exact ⟨v,av,aw,ax,rfl,H.pick [0,5,6,7,4,8,9] (by decide)⟩
theorem Fetw (rfB:gB→Int→Option (Cond×gB))(rhB:Fak rfB)(a:gB)(h:Int)(d:Nat)(k:Value)(l:Value)(m:Value)(r:Cond×gB)(j:Fet rfB a h=some r)(O S:List Nat)(w:World)(H:Hd O w w S [.own Rp.str k 9 a.r.Phases,.own fA l 122 a.r.Moves,.own fC m 95 a.r.Rules,.blk d [sb a.text,i6 a.at_,i6 a.now.kind,i6 a.now.at_,i6 a.now.n,sb a.now.text,k,l,m] 109,.fz (.at 0 0 ((Fl.arr 7 Fl.str).f zM)),.fz (.gi 4)]):
  Cl 124 [gU d,i6 h] w fun e A=> ∃t u v x,e= .returned (.agg [i6 r.1.Kind,sb r.1.Name,sb r.1.Other,i6 r.1.Op,i6 r.1.N,i6 r.1.Frames,t].toArray)∧Hd O w A S [f1 fD t r.1.Kids,.own Rp.str u 9 r.2.r.Phases,.own fA v 122 r.2.r.Moves,.own fC x 95 r.2.r.Rules,.blk d [sb r.2.text,i6 r.2.at_,i6 r.2.now.kind,i6 r.2.now.at_,i6 r.2.now.n,sb r.2.now.text,u,v,x] 109]:=by
 unfold Fet at j
 refine zS 8 Tryz.func124 rfl rfl rfl ?_
 refine zC fun I B=>zA<| yP rfl rfl (Lx_box1 rfl rfl H) ?_
 rintro _ J ⟨y,rfl,H⟩
 refine yP rfl rfl (Lx_box1 rfl rfl H) ?_
 rintro _ K ⟨z,rfl,H⟩
 refine yP rfl rfl (xH kF H) ?_
 rintro _ L ⟨C,rfl,H⟩
 refine zF (zB (B _ _ ?_))
 refine zC fun M D=>zA<| Ld one105 H 6 0 rfl rfl<| zH (cZ rfl) ?_
 obtain ⟨⟨c,b⟩,E,j⟩:=zD j
 refine yA rfl rfl (zV en178 rfl) (Fenw rfB rhB (gB.mk a.text a.at_ (gZ.mk a.now.kind a.now.at_ a.now.n a.now.text) (Rules.mk a.r.Phases a.r.Moves a.r.Rules)) [111,114] 10 h d k l m y z _ E _ _ _ (H.enter [0,1,2,3,6,7] [4,5] (by decide) rfl)) ?_
 rintro _ F ⟨o,p,q,s,rfl,G⟩
 have H:Hd _ _ F _ [.fz (.at 0 0 ((Fl.arr 7 Fl.str).f zM)),.fz (.gi 4),.blk C [i6 0,.string (bs []),.string (bs []),i6 0,i6 0,i6 0,.slice none 0 0] 70,f1 fD o c.Kids,.own Rp.str p 9 b.r.Phases,.own fA q 122 b.r.Moves,.own fC s 95 b.r.Rules,.blk d [sb b.text,i6 b.at_,i6 b.now.kind,i6 b.now.at_,i6 b.now.n,sb b.now.text,p,q,s] 109,.blk y [gU d] 105,.blk z [i6 h] 3]:=H.back [0,1,2,3,6,7] [4,5] rfl G
 refine ⟨_,rfl,?_⟩
 refine yV rfl (yQ (vs:=[i6 c.Kind,sb c.Name,sb c.Other,i6 c.Op,i6 c.N,i6 c.Frames,o]) H 2 rfl dB rfl rfl rfl ⟨rfl,rfl,rfl,rfl,rfl,rfl,(wH (H.item (i:=3) rfl)),trivial⟩ rfl) ?_
 rintro P H
 refine zF (zB (D _ _ ?_))
 obtain rfl:=gI j
 refine (zY (postc rfl rfl (xB dI dB rfl (Hbc H 2 rfl)) ?_))
 exact ⟨o,p,q,s,rfl,H.pick [3,4,5,6,7] (by decide)⟩
theorem Fgz:Fak (Fgd):=by
 have h: ∀n,Fak (Fdm n):=by
  intro n
  induction n with
  | zero=>intro b c d e f i r a; cases a
  | succ n ih=>intro b c d e f i r a; exact Fetw (Fdm n) ih b c d e f i r a
 exact h FU
theorem Fe3w (k:gB)(h:Nat)(v2:Value)(v3:Value)(v4:Value)(r:gB)(c:Fe3 k=some r)(O S:List Nat)(w:World)(H:Hd O w w S [.own Rp.str v2 9 k.r.Phases,.own fA v3 122 k.r.Moves,.own fC v4 95 k.r.Rules,.blk h [sb k.text,i6 k.at_,i6 k.now.kind,i6 k.now.at_,i6 k.now.n,sb k.now.text,v2,v3,v4] 109,.fz (.at 0 0 ((Fl.arr 7 Fl.str).f zM)),.fz (.gi 4)]):
  Cl 59 [gU h] w fun e y=> ∃au av aw,e= .returned (.tuple #[])∧Hd O w y S [.own Rp.str au 9 r.r.Phases,.own fA av 122 r.r.Moves,.own fC aw 95 r.r.Rules,.blk h [sb r.text,i6 r.at_,i6 r.now.kind,i6 r.now.at_,i6 r.now.n,sb r.now.text,au,av,aw] 109]:=by
 unfold Fe3 at c
 refine zS 81 Tryz.func59 rfl rfl rfl ?_
 obtain ⟨t,c,a6⟩:=zD c
 refine yL [4,5,6,7,8,9,10,11,12,13,14,15,16,17,18,19,20,21,22] (fun (g:Value×Value×Value)=>[]) (fun g wl=>Hd O w wl S [.blk h [sb t.1,i6 t.2.1,i6 t.2.2.1,i6 t.2.2.2.1,i6 t.2.2.2.2.1,sb t.2.2.2.2.2.1,g.1,g.2.1,g.2.2] 109,.own Rp.str g.1 9 t.2.2.2.2.2.2.1,.own fA g.2.1 122 t.2.2.2.2.2.2.2.1,.own fC g.2.2 95 t.2.2.2.2.2.2.2.2,.fz (.at 0 0 ((Fl.arr 7 Fl.str).f zM)),.fz (.gi 4)]) ?_ ?_
 ·skip
  refine zC fun cv a7=>zA<| zI (gU h) ?_
  obtain ⟨j,a8,c⟩:=zD c
  refine yA rfl rfl (zV en120 rfl) (Fanw (gB.mk k.text k.at_ (gZ.mk k.now.kind k.now.at_ k.now.n k.now.text) (Rules.mk k.r.Phases k.r.Moves k.r.Rules)) h v2 v3 v4 _ a8 _ _ _ (H.enter [0,1,2,3] [5] (by decide) rfl)) ?_
  rintro _ a9 ⟨K,L,M,rfl,ba⟩
  have H:Hd _ _ a9 _ [.fz (.at 0 0 ((Fl.arr 7 Fl.str).f zM)),.fz (.gi 4),.own Rp.str K 9 j.r.Phases,.own fA L 122 j.r.Moves,.own fC M 95 j.r.Rules,.blk h [sb j.text,i6 j.at_,i6 j.now.kind,i6 j.now.at_,i6 j.now.n,sb j.now.text,K,L,M] 109]:=H.back [0,1,2,3] [5] rfl ba
  refine ⟨_,rfl,?_⟩
  refine zF (zB (a7 _ _ ?_))
  refine yF ?_
  unfold Fgj at c
  obtain ⟨bb,ax,bc,c⟩:=yR c
  refine xG [6,7,8,9,10,11,12,13,14,15,16,17,18,19,20,21,22] (fun (g:Nat)=>[]) (fun g wl=>Hd O w wl S [.fz (.at 0 0 ((Fl.arr 7 Fl.str).f zM)),.fz (.gi 4),.own Rp.str K 9 j.r.Phases,.own fA L 122 j.r.Moves,.own fC M 95 j.r.Rules,.blk h [sb j.text,i6 j.at_,i6 j.now.kind,i6 j.now.at_,i6 j.now.n,sb j.now.text,K,L,M] 109]∧eF bb g ()=some t) (fun g=>g) ax zO ⟨H.pick [0,1,2,3,4,5] (by decide),c⟩ ?_
  clear H c
  rintro ax ρ cw ⟨H,c⟩
  obtain ⟨cx,rfl,c⟩:=yX c
  have c:=yY bc c
  refine zC fun cy cz=>?_
  refine zC fun c0 bd=>zA<| zI (gU h) ?_
  have be:=H
  have H:=H.freezeB (i:=5) rfl
  have H:=H.freeze (i:=2) rfl
  have H:=H.freeze (i:=3) rfl
  have H:=H.freeze (i:=4) rfl
  have H:=H.fz (.pt dM (some ⟨h,0,none⟩) (some j)) ⟨_,_,_,rfl,(H.item (i:=5) rfl).1,(H.item (i:=5) rfl).2.1,(bH (x:=j) (H.item (i:=2) rfl) (H.item (i:=3) rfl) (H.item (i:=4) rfl)),(H.item (i:=5) rfl).2.2⟩
  obtain ⟨c1,bf,c⟩:=zD c
  refine yA rfl rfl (zV en121 rfl) (Fajw (some j) [112,104,97,115,101] (some ⟨h,0,none⟩) _ bf _ _ _ (H.enter [] [6] (by decide) rfl)) ?_
  rintro _ c2 ⟨rfl,bg⟩
  have H:=be.step (bg.only:Only [] _ _)
  refine ⟨_,rfl,?_⟩
  refine zF (zB (bd _ _ ?_))
  obtain ⟨bh,c⟩:=xZ c
  refine dD bh ?_
  obtain rfl:=gI c
  exact (xK (yH (yH (yU (zB (meet ⟨(K,L,M),zO,H.pick [5,2,3,4,0,1] (by decide)⟩))))))
 rintro ⟨P,Q,R⟩ ρ c3 H
 have c:=a6
 obtain ⟨A,B,C,D,E,F,G,I,J⟩:=t
 obtain ⟨bi,c,bj⟩:=zD c
 refine yL [2,23,24,25,26,27,28,29,30,31,32,33,34,35,36,37,38,39,40,41,42,43,44,45,46,47,48] (fun (g:Unit)=>[]) (fun g wl=>Hd O w wl S [.blk h [sb A,i6 B,i6 C,i6 D,i6 E,sb F,P,Q,R] 109,.own Rp.str P 9 G,.own fA Q 122 I,.own fC R 95 J,.fz (.at 0 0 ((Fl.arr 7 Fl.str).f zM)),.fz (.gi 4)]) ?_ ?_
 ·skip
  refine yF ?_
  unfold Fgr at c
  obtain ⟨bk,ay,bl,c⟩:=yR c
  refine xG [2,23,24,25,26,27,28,29,30,31,32,33,34,35,36,37,38,39,40,41,42,43,44,45,46,47,48] (fun (g:Nat)=>[]) (fun g wl=>Hd O w wl S [.blk h [sb A,i6 B,i6 C,i6 D,i6 E,sb F,P,Q,R] 109,.own Rp.str P 9 G,.own fA Q 122 I,.own fC R 95 J,.fz (.at 0 0 ((Fl.arr 7 Fl.str).f zM)),.fz (.gi 4)]∧eF bk g ()=some bi) (fun g=>g) ay zO ⟨H.pick [0,1,2,3,4,5] (by decide),c⟩ ?_
  clear H c
  rintro ay ρ c4 ⟨H,c⟩
  obtain ⟨c5,rfl,c⟩:=yX c
  have c:=yY bl c
  refine zC fun c6 c7=>?_
  refine zC fun c8 bm=>zA<| zI (gU h) ?_
  have bn:=H
  have H:=H.freezeB (i:=0) rfl
  have H:=H.freeze (i:=1) rfl
  have H:=H.freeze (i:=2) rfl
  have H:=H.freeze (i:=3) rfl
  have H:=H.fz (.pt dM (some ⟨h,0,none⟩) (some (gB.mk A B (gZ.mk C D E F) (Rules.mk G I J)))) ⟨_,_,_,rfl,(H.item (i:=0) rfl).1,(H.item (i:=0) rfl).2.1,(bH (x:=gB.mk A B (gZ.mk C D E F) (Rules.mk G I J)) (H.item (i:=1) rfl) (H.item (i:=2) rfl) (H.item (i:=3) rfl)),(H.item (i:=0) rfl).2.2⟩
  obtain ⟨c9,bo,c⟩:=zD c
  refine yA rfl rfl (zV en121 rfl) (Fajw (some (gB.mk A B (gZ.mk C D E F) (Rules.mk G I J))) [109,111,118,101] (some ⟨h,0,none⟩) _ bo _ _ _ (H.enter [] [6] (by decide) rfl)) ?_
  rintro _ da ⟨rfl,bp⟩
  have H:=bn.step (bp.only:Only [] _ _)
  refine ⟨_,rfl,?_⟩
  refine zF (zB (bm _ _ ?_))
  obtain ⟨bq,c⟩:=xZ c
  refine dD bq ?_
  obtain rfl:=gI c
  exact (xK (yH (yH (yU (zB (meet ⟨(),zO,H.pick [0,1,2,3,4,5] (by decide)⟩))))))
 rintro _ ρ db H
 have c:=bj
 obtain ⟨u,c,br⟩:=zD c
 refine yL [3,49,50,51,52,53,54,55,56,57,58,59,60,61,62,63,64,65,66,67,68,69,70,71,72] (fun (g:Value×Value×Value)=>[]) (fun g wl=>Hd O w wl S [.blk h [sb u.1,i6 u.2.1,i6 u.2.2.1,i6 u.2.2.2.1,i6 u.2.2.2.2.1,sb u.2.2.2.2.2.1,g.1,g.2.1,g.2.2] 109,.own Rp.str g.1 9 u.2.2.2.2.2.2.1,.own fA g.2.1 122 u.2.2.2.2.2.2.2.1,.own fC g.2.2 95 u.2.2.2.2.2.2.2.2,.fz (.at 0 0 ((Fl.arr 7 Fl.str).f zM)),.fz (.gi 4)]) ?_ ?_
 ·skip
  refine yF ?_
  unfold Ff8 at c
  obtain ⟨bt,az,bu,c⟩:=yR c
  refine xG [3,49,50,51,52,53,54,55,56,57,58,59,60,61,62,63,64,65,66,67,68,69,70,71,72] (fun (g:Nat×Str×Int×Int×Int×Int×Str×(List Str)×(List aF)×(List bJ)×Value×Value×Value)=>[]) (fun g wl=>Hd O w wl S [.blk h [sb g.2.1,i6 g.2.2.1,i6 g.2.2.2.1,i6 g.2.2.2.2.1,i6 g.2.2.2.2.2.1,sb g.2.2.2.2.2.2.1,g.2.2.2.2.2.2.2.2.2.2.1,g.2.2.2.2.2.2.2.2.2.2.2.1,g.2.2.2.2.2.2.2.2.2.2.2.2] 109,.own Rp.str g.2.2.2.2.2.2.2.2.2.2.1 9 g.2.2.2.2.2.2.2.1,.own fA g.2.2.2.2.2.2.2.2.2.2.2.1 122 g.2.2.2.2.2.2.2.2.1,.own fC g.2.2.2.2.2.2.2.2.2.2.2.2 95 g.2.2.2.2.2.2.2.2.2.1,.fz (.at 0 0 ((Fl.arr 7 Fl.str).f zM)),.fz (.gi 4)]∧eF bt g.1 (g.2.1,g.2.2.1,g.2.2.2.1,g.2.2.2.2.1,g.2.2.2.2.2.1,g.2.2.2.2.2.2.1,g.2.2.2.2.2.2.2.1,g.2.2.2.2.2.2.2.2.1,g.2.2.2.2.2.2.2.2.2.1)=some u) (fun g=>g.1) (az,A,B,C,D,E,F,G,I,J,P,Q,R) zO ⟨H.pick [0,1,2,3,4,5] (by decide),c⟩ ?_
  clear H c
  rintro ⟨az,T,U,V,X,Y,Z,aa,ab,ac,a0,a1,a2⟩ ρ dc ⟨H,c⟩
  obtain ⟨bv,rfl,c⟩:=yX c
  have c:=yY bu c
  refine zC fun dd bw=>?_
  refine zC fun de bx=>zA<| zI (gU h) ?_
  have bz:=H
  have H:=H.freezeB (i:=0) rfl
  have H:=H.freeze (i:=1) rfl
  have H:=H.freeze (i:=2) rfl
  have H:=H.freeze (i:=3) rfl
  have H:=H.fz (.pt dM (some ⟨h,0,none⟩) (some (gB.mk T U (gZ.mk V X Y Z) (Rules.mk aa ab ac)))) ⟨_,_,_,rfl,(H.item (i:=0) rfl).1,(H.item (i:=0) rfl).2.1,(bH (x:=gB.mk T U (gZ.mk V X Y Z) (Rules.mk aa ab ac)) (H.item (i:=1) rfl) (H.item (i:=2) rfl) (H.item (i:=3) rfl)),(H.item (i:=0) rfl).2.2⟩
  obtain ⟨b0,b1,c⟩:=zD c
  refine yA rfl rfl (zV en121 rfl) (Fajw (some (gB.mk T U (gZ.mk V X Y Z) (Rules.mk aa ab ac))) [114,117,108,101] (some ⟨h,0,none⟩) _ b1 _ _ _ (H.enter [] [6] (by decide) rfl)) ?_
  rintro _ df ⟨rfl,b2⟩
  have H:=bz.step (b2.only:Only [] _ _)
  refine ⟨_,rfl,?_⟩
  refine zF (zB (bx _ _ ?_))
  refine yC (b:=b0) rfl (fun ag=>?_) (fun ag=>?_)
  ·have c:=zT ag c
   refine yB (zB (bw _ _ ?_))
   refine yF ?_
   refine zC fun dg b3=>zA<| zI (gU h) ?_
   obtain ⟨l,b4,c⟩:=zD c
   refine yA rfl rfl (zV en120 rfl) (Fanw (gB.mk T U (gZ.mk V X Y Z) (Rules.mk aa ab ac)) h a0 a1 a2 _ b4 _ _ _ (H.enter [1,2,3,0] [5] (by decide) rfl)) ?_
   rintro _ b5 ⟨ah,ai,aj,rfl,b6⟩
   have H:Hd _ _ b5 _ [.fz (.at 0 0 ((Fl.arr 7 Fl.str).f zM)),.fz (.gi 4),.own Rp.str ah 9 l.r.Phases,.own fA ai 122 l.r.Moves,.own fC aj 95 l.r.Rules,.blk h [sb l.text,i6 l.at_,i6 l.now.kind,i6 l.now.at_,i6 l.now.n,sb l.now.text,ah,ai,aj] 109]:=H.back [1,2,3,0] [5] rfl b6
   refine ⟨_,rfl,?_⟩
   refine zF (zB (b3 _ _ ?_))
   refine zC fun dh b7=>zA<| zI (gU h) ?_
   obtain ⟨⟨s,m⟩,b8,c⟩:=zD c
   refine yA rfl rfl (zV en122 rfl) (Fdfw (gB.mk l.text l.at_ (gZ.mk l.now.kind l.now.at_ l.now.n l.now.text) (Rules.mk l.r.Phases l.r.Moves l.r.Rules)) h ah ai aj _ b8 _ _ _ (H.enter [2,3,4,5] [1] (by decide) rfl)) ?_
   rintro _ b9 ⟨ak,al,am,rfl,ca⟩
   have H:Hd _ _ b9 _ [.fz (.at 0 0 ((Fl.arr 7 Fl.str).f zM)),.fz (.gi 4),.own Rp.str ak 9 m.r.Phases,.own fA al 122 m.r.Moves,.own fC am 95 m.r.Rules,.blk h [sb m.text,i6 m.at_,i6 m.now.kind,i6 m.now.at_,i6 m.now.n,sb m.now.text,ak,al,am] 109]:=H.back [2,3,4,5] [1] rfl ca
   refine ⟨_,rfl,?_⟩
   refine zH (xM (cs:=[sb s,i6 0,.string (bs []),.string (bs []),i6 0,i6 0,i6 0,.slice none 0 0]) (bt95_0 _))<| yP rfl rfl (xH zero95 H) ?_
   rintro _ di ⟨a3,rfl,H⟩
   refine yV rfl (yQ (vs:=[sb s,i6 0,.string (bs []),.string (bs []),i6 0,i6 0,i6 0,.slice none 0 0]) H 6 rfl sz95 rfl rfl rfl ⟨rfl,rfl,rfl,rfl,rfl,rfl,rfl,rfl,trivial⟩ rfl) ?_
   rintro dj H
   refine zF (zB (b7 _ _ ?_))
   refine zC fun dk cb=>zA<| zI (gU h) ?_
   obtain ⟨o,cc,c⟩:=zD c
   refine yA rfl rfl (zV en123 rfl) (Fdnw (gB.mk m.text m.at_ (gZ.mk m.now.kind m.now.at_ m.now.n m.now.text) (Rules.mk m.r.Phases m.r.Moves m.r.Rules)) [105,102] h ak al am _ cc _ _ _ (H.enter [2,3,4,5] [1] (by decide) rfl)) ?_
   rintro _ cd ⟨an,ao,ap,rfl,ce⟩
   have H:Hd _ _ cd _ [.fz (.at 0 0 ((Fl.arr 7 Fl.str).f zM)),.fz (.gi 4),.blk a3 [sb s,i6 0,.string (bs []),.string (bs []),i6 0,i6 0,i6 0,.slice none 0 0] 95,.own Rp.str an 9 o.r.Phases,.own fA ao 122 o.r.Moves,.own fC ap 95 o.r.Rules,.blk h [sb o.text,i6 o.at_,i6 o.now.kind,i6 o.now.at_,i6 o.now.n,sb o.now.text,an,ao,ap] 109]:=H.back [2,3,4,5] [1] rfl ce
   refine ⟨_,rfl,?_⟩
   refine zF (zB (cb _ _ ?_))
   refine zC fun dl cf=>zA<| zI (gU h) ?_
   obtain ⟨⟨d,p⟩,cg,c⟩:=zD c
   refine yA rfl rfl (zV en124 rfl) (Fgz (gB.mk o.text o.at_ (gZ.mk o.now.kind o.now.at_ o.now.n o.now.text) (Rules.mk o.r.Phases o.r.Moves o.r.Rules)) 0 h an ao ap _ cg _ _ _ (H.enter [3,4,5,6] [0,1] (by decide) rfl)) ?_
   rintro _ ch ⟨z,aq,ar,a4,rfl,ci⟩
   have H:Hd _ _ ch _ [.fz (.at 0 0 ((Fl.arr 7 Fl.str).f zM)),.fz (.gi 4),.blk a3 [sb s,i6 0,.string (bs []),.string (bs []),i6 0,i6 0,i6 0,.slice none 0 0] 95,f1 fD z d.Kids,.own Rp.str aq 9 p.r.Phases,.own fA ar 122 p.r.Moves,.own fC a4 95 p.r.Rules,.blk h [sb p.text,i6 p.at_,i6 p.now.kind,i6 p.now.at_,i6 p.now.n,sb p.now.text,aq,ar,a4] 109]:=H.back [3,4,5,6] [0,1] rfl ci
   refine ⟨_,rfl,?_⟩
   refine zH (fa95_1 rfl)<| yV rfl (yQ (vs:=[i6 d.Kind,sb d.Name,sb d.Other,i6 d.Op,i6 d.N,i6 d.Frames,z]) H 2 rfl dB rfl rfl rfl ⟨rfl,rfl,rfl,rfl,rfl,rfl,(wH (H.item (i:=3) rfl)),trivial⟩ rfl) ?_
   rintro dm H
   refine zF (zB (cf _ _ ?_))
   have cj:=H
   have H:=H.rebase
   have dn:=H
   refine wB H [0,1,2,3,4,5,6,7,8,9,10,11,12] (kz [0,0,0,0,0,1,1,2,3,0,0,0,3]) mixed ?_
   refine XM (gU h)<| XM (gU h)<| XP (fun _ _=>zN rfl)<| XP (fun _ _=>fa109_3 rfl)<| XP (fun _ _=>fa26_2 rfl)<| XR one24 H 7 8 rfl rfl<| MxM.XL_read oS rfl rfl rfl (fun y q=>yJ (yM (cs:=[sb s,i6 d.Kind,sb d.Name,sb d.Other,i6 d.Op,i6 d.N,i6 d.Frames,z]) agg95 rfl sz95 rfl (Blk.cells ((H.sees q).item (i:=2) rfl))) rfl) ?_
   obtain ⟨dp,ck,c⟩:=zG c
   subst ck
   refine MxM.XL_exN oS rfl rfl rfl (fun y q=>Ls_of (kM (r:=fC) (xl:=[bJ.mk s d]) (cs:=[sb s,i6 d.Kind,sb d.Name,sb d.Other,i6 d.Op,i6 d.N,i6 d.Frames,z]) u24 el95 (by decide) (by decide) rfl (xP (vs:=[.agg [sb s,i6 d.Kind,sb d.Name,sb d.Other,i6 d.Op,i6 d.N,i6 d.Frames,z].toArray]) (by decide) rfl rfl ⟨rfl,trivial⟩ rfl) (H.sees q) ⟨[sb s,i6 d.Kind,sb d.Name,sb d.Other,i6 d.Op,i6 d.N,i6 d.Frames,z],[],rfl,(rRule_mk (x:=bJ.mk s d) ((H.sees q).item (i:=3) rfl)),rfl⟩) (Ys_bs (cs:=[sb s,i6 d.Kind,sb d.Name,sb d.Other,i6 d.Op,i6 d.N,i6 d.Frames,z]) u24 el95 (by decide) (by decide) (xP (vs:=[.agg [sb s,i6 d.Kind,sb d.Name,sb d.Other,i6 d.Op,i6 d.N,i6 d.Frames,z].toArray]) (by decide) rfl rfl ⟨rfl,trivial⟩ rfl))) ?_
   rintro y dq dr q H
   obtain ⟨cl,cm,c⟩:=zD c
   refine MxM.XL_ex oS rfl rfl rfl (fun y q=>aO (H.sees q) (i:=6) rfl u24 el95 rfl rfl (Sr.of_own ((H.sees q).item (i:=8) rfl)) cm) ?_
   rintro y a5 ds q H
   refine ⟨H.only,?_⟩
   refine XP (fun _ _=>zN rfl)<| XP (fun _ _=>fa109_3 rfl)<| XP (fun _ _=>fa26_2 rfl)<| MxM.XL_exU oS rfl rfl (fun y q=>xE (H.sees q) 7 rfl sz24 rfl (v:=a5) rfl (bY ((H.sees q).item (i:=6) rfl)) rfl) ?_
   rintro y dt q H
   refine ⟨H.only,?_⟩
   refine MxM.xI fun du hS=>?_
   have H:=H.sees hS
   have H:=cj.rejoin H
   exact (yK (zB (meet ⟨(bv,p.text,p.at_,p.now.kind,p.now.at_,p.now.n,p.now.text,p.r.Phases,p.r.Moves,cl,aq,ar,a5),zO,⟨H.pick [7,4,5,6,0,1] (by decide),c⟩,Nat.lt_succ_self _⟩)))
  have c:=zU ag c
  obtain rfl:=gI c
  exact (xK (yH (yH (yU (zB (meet ⟨(a0,a1,a2),zO,H.pick [0,1,2,3,4,5] (by decide)⟩))))))
 rintro ⟨cn,co,cp⟩ ρ dv H
 have c:=br
 obtain ⟨dw,dx,cq,dy,dz,d0,d1,d2,d3⟩:=u
 refine zC fun d4 cr=>zA<| zI (gU h)<| zH (zN rfl)<| zH (dW rfl)<| zH (kQ rfl)<| Ld fU H 0 2 rfl rfl ?_
 obtain ⟨d5,ct,c⟩:=zG c
 refine zH (zQ (dH (a:=cq) (b:=0) rfl rfl) ct)<| zF (zB (cr _ _ ?_))
 obtain ⟨cu,c⟩:=xZ c
 refine dD cu ?_
 obtain rfl:=gI c
 refine (yB (post0n rfl ?_))
 exact ⟨cn,co,cp,rfl,H.pick [1,2,3,0] (by decide)⟩
theorem caught_idle (b:Nat)(w:World):CallsD Tryz.prog 119 #[gU b] .returning w fun e u' a=>e= .returned (.tuple #[])∧u'= .returning∧a=w:=by
 refine callsD_of_wpS Tryz.func119 rfl fun c₀ cs hu=>?_
 apply wpS_seq
 apply wpS_region
 simp [wpOpsS,go_sem,recoverD,hu,Tryz.ntmps119,Exit.thenS]
 apply wpS_seq
 apply wpS_region
 simp [wpOpsS,go_sem,Exit.thenS,Act.eval,Array.replicate]
 refine wpS_cond (t:=false) (by simp [Act.eval,Array.replicate]) ?_
 simp only [Bool.false_eq_true,if_false]
 refine wpS_of_wp (wp_skip ?_)
 cases c₀
 simp_all [bodyPostS,results,Tryz.results119]
theorem en59c:Go.OB.Enters Tryz.prog 59:=⟨_,Tryz.func59,rfl,by kernel_rfl⟩
theorem zero111c:Go.OB.Zero Tryz.prog 111 ([i6 0,i6 0]):=by unfold Go.OB.Zero; kernel_rfl
theorem sz111c:Sz Tryz.prog 111 2:=by unfold Sz; kernel_rfl
theorem agg111c:Agg Tryz.prog 111:=by unfold Agg; kernel_rfl
theorem bz111c:Tryz.prog.built 111 []=some ([i6 0,i6 0]:List Value).toArray:=by kernel_rfl
theorem Ferw (a:gB)(b:Nat)(j:Value)(k:Value)(l:Value)(r:EventFault×gB)(c:Fer a=some r)(O S:List Nat)(w:World)(H:Hd O w w S [.own Rp.str j 9 a.r.Phases,.own fA k 122 a.r.Moves,.own fC l 95 a.r.Rules,.blk b [sb a.text,i6 a.at_,i6 a.now.kind,i6 a.now.at_,i6 a.now.n,sb a.now.text,j,k,l] 109,.fz (.at 0 0 ((Fl.arr 7 Fl.str).f zM)),.fz (.gi 4)]):
  Cl 58 [.func (.func 59) #[gU b] #[]] w fun e o=> ∃d h i,e= .returned (.agg [i6 r.1.at_,i6 r.1.e].toArray)∧Hd O w o S [.own Rp.str d 9 r.2.r.Phases,.own fA h 122 r.2.r.Moves,.own fC i 95 r.2.r.Rules,.blk b [sb r.2.text,i6 r.2.at_,i6 r.2.now.kind,i6 r.2.now.at_,i6 r.2.now.n,sb r.2.now.text,d,h,i] 109]:=by
 unfold Fer at c
 obtain ⟨x,e,c⟩:=zD c
 have hr:=Option.some.inj c
 subst hr
 refine calls_of_WPD 7 Tryz.func58 rfl rfl rfl ?_
 refine WPD_seq ?_
 refine WPD_region ?_
 refine RLD_ex rfl rfl (xH zero111c H) ?_
 rintro _ p ⟨m,rfl,H⟩
 refine RLD_nil ?_
 refine WPD_seq ?_
 refine WPD_region ?_
 refine RLD_do rfl rfl (cZ rfl) ?_
 refine RLD_defer (x:={target:= .fn (.func 119) #[gU m],args:= #[]}) rfl (run_defer (cap:=[_]) (us:=[]) rfl rfl) ?_
 refine RLD_nil ?_
 refine WPD_seq ?_
 refine WPD_region ?_
 refine RLD_do rfl rfl (aV (v:= .func (.func 59) #[gU b] #[]) rfl) ?_
 refine RLD_call rfl rfl (DoC_bnd en59c rfl rfl) (Fe3w a b j k l _ e _ _ _ (H.enter [0,1,2,3] [4,5] (by decide) rfl)) ?_
 rintro _ q ⟨d,h,i,rfl,G⟩
 have H:=H.back [0,1,2,3] [4,5] rfl G
 refine ⟨_,rfl,?_⟩
 refine RLD_nil ?_
 refine WPD_seq ?_
 refine WPD_region ?_
 refine RLD_do rfl rfl (xM (cs:=[i6 0,i6 0]) bz111c) ?_
 refine RLD_exU rfl (yQ (vs:=[i6 0,i6 0]) H 2 rfl sz111c rfl rfl rfl ⟨rfl,rfl,trivial⟩ rfl) ?_
 rintro s H
 refine RLD_nil ?_
 refine WPD_ret ?_
 intro tmps ht
 refine leaves_cons (f:=119) (args:= #[gU m]) (by simp) (by simp [go_sem]) ?_
 refine (caught_idle m _).mono ?_
 rintro e u' t ⟨rfl,rfl,rfl⟩
 refine leaves_res (fn:=_) rfl ht (postc rfl rfl (xB agg111c sz111c rfl (Hbc H 2 rfl)) ?_)
 exact ⟨d,h,i,rfl,H.pick [3,4,5,6] (by decide)⟩
theorem Feyw (h:Str)(r:Rules×Int×Int)(c:Fey h=some r)(O S:List Nat)(w:World)(H:Hd O w w S [.fz (.at 0 0 ((Fl.arr 7 Fl.str).f zM)),.fz (.gi 4)]):
  Cl 18 [sb h] w fun e q=> ∃u3 u4 u5,e= .returned (.tuple #[.agg [u3,u4,u5].toArray,i6 r.2.1,i6 r.2.2])∧Hd O w q S [f1 Rp.str u3 r.1.Phases,f1 fA u4 r.1.Moves,f1 fC u5 r.1.Rules]:=by
 unfold Fey at c
 refine zS 39 Tryz.func18 rfl rfl rfl ?_
 refine zC fun X s=>zA<| yP rfl rfl (xH zero26 H) ?_
 rintro _ Y ⟨t,rfl,H⟩
 refine zK (i6 0)<| zK (i6 0)<| zF (zB (s _ _ ?_))
 refine zC fun Z u=>?_
 refine zC fun aa v=>zA<| zI (sb h) ?_
 obtain ⟨x,y,c⟩:=zG c
 refine zH (yJ (kD (s1:=h) u9 rfl) (congrArg (Value.int .i64) y)) ?_
 obtain ⟨ab,z,c⟩:=zG c
 refine zH (zQ (kH (a:=x) (b:=200000) rfl rfl) z)<| zF (zB (v _ _ ?_))
 obtain ⟨A,c⟩:=xZ c
 refine dD A ?_
 refine yB (zB (u _ _ ?_))
 refine zC fun ac B=>zA<| zI (sb h)<| zH (xM (cs:=[sb h,i6 0,i6 0,i6 0,i6 0,.string (bs []),.slice none 0 0,.slice none 0 0,.slice none 0 0]) (bt109_0 _))<| yP rfl rfl (xW (cs:=[sb h,i6 0,i6 0,i6 0,i6 0,.string (bs []),.slice none 0 0,.slice none 0 0,.slice none 0 0]) rfl H) ?_
 rintro _ ad ⟨m,rfl,H⟩
 refine zK (gU m)<| zF (zB (B _ _ ?_))
 refine zC fun ae C=>?_
 refine zC fun af D=>zA<| zI (gU m)<| zH (Do_makeFuncB rfl) ?_
 have H:=dY H Rp.str 9
 have H:=dY H fA 122
 have H:=dY H fC 95
 obtain ⟨⟨o,d⟩,E,c⟩:=zD c
 refine yA rfl rfl (zV en58 rfl) (Ferw (gB.mk h 0 (gZ.mk 0 0 0 []) (Rules.mk [] [] [])) m (.slice none 0 0) (.slice none 0 0) (.slice none 0 0) _ E _ _ _ (H.enter [4,5,6,3] [0,1] (by decide) rfl)) ?_
 rintro _ F ⟨j,k,l,rfl,G⟩
 have H:Hd _ _ F _ [.fz (.at 0 0 ((Fl.arr 7 Fl.str).f zM)),.fz (.gi 4),.blk t [.slice none 0 0,.slice none 0 0,.slice none 0 0] 26,.own Rp.str j 9 d.r.Phases,.own fA k 122 d.r.Moves,.own fC l 95 d.r.Rules,.blk m [sb d.text,i6 d.at_,i6 d.now.kind,i6 d.now.at_,i6 d.now.n,sb d.now.text,j,k,l] 109]:=H.back [4,5,6,3] [0,1] rfl G
 refine ⟨_,rfl,?_⟩
 refine yP rfl rfl (xH zero111 H) ?_
 rintro _ ag ⟨ah,rfl,H⟩
 refine yV rfl (yQ (vs:=[i6 o.at_,i6 o.e]) H 7 rfl sz111 rfl rfl rfl ⟨rfl,rfl,trivial⟩ rfl) ?_
 rintro ai H
 refine zF (zB (D _ _ ?_))
 refine zC fun aj I=>zA<| zH (fa111_1 rfl)<| Ld one30 H 7 1 rfl rfl ?_
 obtain ⟨ak,J,c⟩:=zG c
 refine zH (zQ (dH (a:=o.e) (b:=0) rfl rfl) J)<| zF (zB (I _ _ ?_))
 obtain ⟨K,c⟩:=xZ c
 refine dD K ?_
 refine yB (zB (C _ _ ?_))
 refine zC fun al L=>?_
 refine zC fun am M=>zA<| zI (gU m)<| zH (zN rfl)<| zH (fa109_3 rfl)<| zH (yJ (yM (cs:=[j,k,l]) agg26 rfl sz26 rfl (Cells.drop (Hbc H 6 rfl) 6 3)) rfl) ?_
 have N:=H
 have H:=H.freeze (i:=3) rfl
 have H:=H.freeze (i:=4) rfl
 have H:=H.freeze (i:=5) rfl
 obtain ⟨p,P,c⟩:=zD c
 refine yA rfl rfl (zV en31 rfl) (Fa1w d.r j k l _ P _ _ _ (H.enter [] [3,4,5] (by decide) rfl)) ?_
 rintro _ an ⟨rfl,Q⟩
 have H:=N.step (Q.only:Only [] _ _)
 refine ⟨_,rfl,?_⟩
 refine zK (i6 p)<| zF (zB (M _ _ ?_))
 refine zC fun ao R=>zA<| zI (i6 p) ?_
 obtain ⟨ap,T,c⟩:=zG c
 refine zH (zQ (dH (a:=p) (b:=0) rfl rfl) T)<| zF (zB (R _ _ ?_))
 obtain ⟨U,c⟩:=xZ c
 refine dD U ?_
 refine yB (zB (L _ _ ?_))
 refine zC fun aq V=>zA<| zI (gU m)<| zH (zN rfl)<| zH (fa109_3 rfl)<| zH (yJ (yM (cs:=[j,k,l]) agg26 rfl sz26 rfl (Cells.drop (Hbc H 6 rfl) 6 3)) rfl)<| yV rfl (yQ (vs:=[j,k,l]) H 2 rfl sz26 rfl rfl rfl ⟨(bY (H.item (i:=3) rfl)),(bY (H.item (i:=4) rfl)),(bY (H.item (i:=5) rfl)),trivial⟩ rfl) ?_
 rintro ar H
 refine zK (i6 0)<| zK (i6 0)<| zF (zB (V _ _ ?_))
 have H:=H.freeze (i:=3) rfl
 have H:=H.freeze (i:=4) rfl
 have H:=H.freeze (i:=5) rfl
 obtain rfl:=gI c
 refine (zY (postc2 (v1:=i6 0) (v2:=i6 0) rfl rfl (xB agg26 sz26 rfl (Hbc H 2 rfl)) rfl rfl ?_))
 exact ⟨j,k,l,rfl,H.pick [3,4,5] (by decide)⟩
abbrev Fca (f:Cond→Int→Option Str):Prop:= ∀(p0:Cond) (p1:Int) (v1:Value) (r:Str) (_:f p0 p1=some r) (O S:List Nat) (w:World) (_:Hd O w w S [f1 fD v1 p0.Kids,.fz (.at 0 0 ((Fl.arr 7 Fl.str).f zM))]),
  Cl 69 [.agg [i6 p0.Kind,sb p0.Name,sb p0.Other,i6 p0.Op,i6 p0.N,i6 p0.Frames,v1].toArray,i6 p1] w fun e w'=>e= .returned (sb r)∧Hd O w w' S []
theorem Fc9w (rfJ:Cond→Int→Option Str)(rhJ:Fca rfJ)(m:List Cond)(j:Str)(k:Int)(v1:Value)(r:Str)(c:Fc9 rfJ m j k=some r)(O S:List Nat)(w:World)(H:Hd O w w S [f1 fD v1 m,.fz (.at 0 0 ((Fl.arr 7 Fl.str).f zM))]):
  Cl 132 [v1,sb j,i6 k] w fun e z=>e= .returned (sb r)∧Hd O w z S []:=by
 unfold Fc9 at c
 refine zS 28 Tryz.func132 rfl rfl rfl ?_
 refine zC fun K4 A=>zA<| zK (.string (bs []))<| zF (zB (A _ _ ?_))
 refine zC fun K5 B=>zA<| zK (.slice none 0 0)<| zF (zB (B _ _ ?_))
 obtain ⟨n,c,C⟩:=zD c
 refine yL [7,9,10,11,12,13,14,15,16,17,18,19,20,21,22] (fun (g:Value)=>[(7,g)]) (fun g wl=>Hd O w wl S [.own Rp.str g 9 n,.fz (.at 0 0 ((Fl.arr 7 Fl.str).f zM))]) ?_ ?_
 ·skip
  refine zC fun ax D=>zA<| zI v1 ?_
  obtain ⟨F,G,c⟩:=zG c
  obtain ⟨ay,az,I⟩:=SlF.len ((H.item (i:=0) rfl))
  refine zH (yJ (xN u68 I) (congrArg (Value.int .i64) G))<| zI (i6 0)<| zF (zB (D _ _ ?_))
  refine yF ?_
  have H:=dY H Rp.str 9
  unfold Fgo at c
  obtain ⟨J,s,K,c⟩:=yR c
  refine xG [7,9,12,13,14,15,16,17,18,19,20,21,22] (fun (g:Nat×(List Str)×Int×Value)=>[(7,g.2.2.2),(12,i6 g.2.2.1)]) (fun g wl=>Hd O w wl S [.own Rp.str g.2.2.2 9 g.2.1,f1 fD v1 m,.fz (.at 0 0 ((Fl.arr 7 Fl.str).f zM))]∧eF J g.1 (g.2.1,g.2.2.1)=some n) (fun g=>g.1) (s,[],0,.slice none 0 0) (zL rfl (zL rfl zO)) ⟨H.pick [2,0,1] (by decide),c⟩ ?_
  clear H c
  rintro ⟨s,a0,o,t⟩ ρ a1 ⟨H,c⟩
  obtain ⟨L,rfl,c⟩:=yX c
  have c:=yY K c
  refine zC fun a2 M=>zA ?_
  obtain ⟨P,Q,c⟩:=zG c
  refine zH (zQ (xR (a:=o) (b:=F) rfl rfl) Q)<| zF (zB (M _ _ ?_))
  refine zC fun a3 R=>?_
  refine yC (b:=P) rfl (fun p=>?_) (fun p=>?_)
  ·have c:=zT p c
   refine yB (zB (R _ _ ?_))
   refine zC fun a4 T=>?_
   refine yF ?_
   refine zC fun a5 U=>zA ?_
   obtain ⟨d,q,c⟩:=zD c
   obtain ⟨V,X,a6,a7,Y,Z,aa,ab,ac⟩:=dQ (H.item (i:=1) rfl) q
   obtain ⟨h,rfl,ad⟩:=bQ Z
   have H:=H.fzs [.at V (X+o.toNat * 7) _,.sl fD h d.Kids] ⟨⟨aa,ab,ac⟩,ad,trivial⟩
   refine zH (xJ u68 dB Y rfl (yE q).1 (yE q).2.1 rfl rfl)<| zH (yJ (yM (cs:=[i6 d.Kind,sb d.Name,sb d.Other,i6 d.Op,i6 d.N,i6 d.Frames,h]) dI rfl dB rfl (H.item (i:=3) rfl).2.2) rfl)<| yP rfl rfl (xH kF H) ?_
   rintro _ a8 ⟨a9,rfl,H⟩
   refine yV rfl (yQ (vs:=[i6 d.Kind,sb d.Name,sb d.Other,i6 d.Op,i6 d.N,i6 d.Frames,h]) H 5 rfl dB rfl rfl rfl ⟨rfl,rfl,rfl,rfl,rfl,rfl,(wH (H.item (i:=4) rfl)),trivial⟩ rfl) ?_
   rintro ba H
   refine zF (zB (U _ _ ?_))
   refine zA ?_
   refine zI t<| zH (yJ (yM (cs:=[i6 d.Kind,sb d.Name,sb d.Other,i6 d.Op,i6 d.N,i6 d.Frames,h]) dI rfl dB rfl (Hbc H 5 rfl)) rfl)<| zI (i6 k) ?_
   have ae:=H
   obtain ⟨l,af,c⟩:=zD c
   refine yA rfl rfl (zV en69 rfl) (rhJ d k h _ af _ _ _ (H.enter [] [4,2] (by decide) rfl)) ?_
   rintro _ bb ⟨rfl,ag⟩
   have H:=ae.step (ag.only:Only [] _ _)
   refine ⟨_,rfl,?_⟩
   obtain ⟨bc,ah,c⟩:=zG c
   subst ah
   refine yP rfl rfl (kM (r:=Rp.str) (xl:=[l]) (cs:=[sb l]) u22 el9 (by decide) (by decide) rfl (xP (vs:=[sb l]) (by decide) rfl rfl ⟨rfl,trivial⟩ rfl) H ⟨[sb l],[],rfl,rfl,rfl⟩) ?_
   rintro bd be H
   obtain ⟨ai,aj,c⟩:=zD c
   refine yP rfl rfl (aO H (i:=0) rfl u22 el9 rfl rfl (Sr.of_own (H.item (i:=6) rfl)) aj) ?_
   rintro u bf H
   refine zK u<| (zF (yK (zB (T _ _ ?_))))
   refine zA ?_
   obtain ⟨v,ak,c⟩:=zG c
   refine zH (xQ (a:=o) (b:=1) rfl rfl ak)<| zI (i6 v) ?_
   exact (zF (zB (meet ⟨(L,ai,v,u),(zL rfl (zL rfl zO)),⟨H.pick [0,1,2] (by decide),c⟩,Nat.lt_succ_self _⟩)))
  have c:=zU p c
  obtain rfl:=gI c
  exact (xK (yH (yH (yU (zB (meet ⟨t,(zL rfl zO),H.pick [0,2] (by decide)⟩))))))
 rintro x ρ bg H
 have c:=C
 refine zC fun bh al=>zA<| zI x<| zI (sb j) ?_
 obtain ⟨am,an,c⟩:=zD c
 refine zH (Do_cat (s1:=[32]) (s2:=j) rfl rfl an) ?_
 obtain ⟨ao,ap,c⟩:=zD c
 refine zH (Do_cat (s1:=am) (s2:=[32]) rfl rfl ap) ?_
 have aq:=H
 have H:=H.freeze (i:=0) rfl
 obtain ⟨y,ar,c⟩:=zD c
 refine yA rfl rfl (zV en188 rfl) (E.Fedw n ao x _ ar _ _ _ (H.enter [] [0] (by decide) rfl)) ?_
 rintro _ bi ⟨rfl,au⟩
 have H:=aq.step (au.only:Only [] _ _)
 refine ⟨_,rfl,?_⟩
 refine zK (sb y)<| zF (zB (al _ _ ?_))
 obtain rfl:=gI c
 refine (zY (fF (v1:=sb y) rfl rfl ?_))
 exact ⟨rfl,H.pick [] (by decide)⟩
theorem Ffzw (rfJ:Cond→Int→Option Str)(rhJ:Fca rfJ)(a:Cond)(d:Nat)(b:Value)(r:Str)(c:Ffz rfJ a=some r)(O S:List Nat)(w:World)(H:Hd O w w S [.blk d [i6 a.Kind,sb a.Name,sb a.Other,i6 a.Op,i6 a.N,i6 a.Frames,b] 70,f1 fD b a.Kids,.fz (.at 0 0 ((Fl.arr 7 Fl.str).f zM))]):
  Cl 131 [gU d] w fun e i=>e= .returned (sb r)∧Hd O w i S [.blk d [i6 a.Kind,sb a.Name,sb a.Other,i6 a.Op,i6 a.N,i6 a.Frames,b] 70]:=by
 unfold Ffz at c
 refine zS 5 Tryz.func131 rfl rfl rfl ?_
 refine zC fun o j=>zA<| zK (.string (bs []))<| zF (zB (j _ _ ?_))
 refine zC fun p k=>zA<| zH (fa70_6 rfl)<| Ld one68 H 0 6 rfl rfl ?_
 have l:=H
 obtain ⟨h,m,c⟩:=zD c
 refine yA rfl rfl (zV en132 rfl) (Fc9w rfJ rhJ a.Kids [] 3 b _ m _ _ _ (H.enter [] [1,2] (by decide) rfl)) ?_
 rintro _ q ⟨rfl,n⟩
 have H:=l.step (n.only:Only [] _ _)
 refine ⟨_,rfl,?_⟩
 refine zK (sb h)<| zF (zB (k _ _ ?_))
 obtain rfl:=gI c
 refine (zY (fF (v1:=sb h) rfl rfl ?_))
 exact ⟨rfl,H.pick [0] (by decide)⟩
end Go.Proofs.YtckmiljbaejijaaGreatDoor.L
