/- Walks: what each function computes, for every argument; no condition but those that stand in the statements. -/
import Derived.Test.YtckmiljbaejijaaGreatDoorUV0
import Derived.Test.YtckmiljbaejijaaGreatDoorUV7
namespace Go.Proofs.YtckmiljbaejijaaGreatDoor.L
open Go.RowKit Go.OB Go.Lf
set_option maxHeartbeats 4000000
theorem Fd5w (c:gB)(i:Int)(f:Nat)(j:Value)(k:Value)(l:Value)(r:gW×gB)(h:Fd5 c i=some r)(O S:List Nat)(w:World)(H:Hd O w w S [.own Rp.str j 9 c.r.Phases,.own gX k 122 c.r.Moves,.own fB l 95 c.r.Rules,.blk f [sb c.text,i6 c.at_,i6 c.now.kind,i6 c.now.at_,i6 c.now.n,sb c.now.text,j,k,l] 109,.fz (.gi 4)]):
  Cl 177 [gV f,i6 i] w fun e u=> ∃q s t,e= .returned (.agg [i6 r.1.kind,i6 r.1.at_,i6 r.1.n,sb r.1.text].toArray)∧Hd O w u S [.own Rp.str q 9 r.2.r.Phases,.own gX s 122 r.2.r.Moves,.own fB t 95 r.2.r.Rules,.blk f [sb r.2.text,i6 r.2.at_,i6 r.2.now.kind,i6 r.2.now.at_,i6 r.2.now.n,sb r.2.now.text,q,s,t] 109]:=by
 unfold Fd5 at h
 refine CW 22 Tryz.func177 ?_
 refine zB fun K v=>zA<| yQ rfl rfl (xA aSh H) ?_
 rintro _ L ⟨x,rfl,H⟩
 refine RN v<| zB fun M y=>zB fun N z=>zA<| zH (gV f)<| zG (zN rfl)<| zG (dX rfl)<| zG (kQ rfl)<| Ld fM H 3 2 rfl rfl<| zH (i6 i) ?_
 obtain ⟨P,A,h⟩:=zD h
 refine zG (zL (dC (a:=c.now.kind) (b:=i) rfl rfl) A)<| RN z ?_
 obtain ⟨B,h⟩:=xX h
 refine dB B ?_
 refine zX (zF (y _ _ ?_))
 refine zB fun Q C=>zA<| zH (gV f)<| zG (zN rfl)<| zG (dX rfl)<| zG (yJ (yF (cs:=[i6 c.now.kind,i6 c.now.at_,i6 c.now.n,sb c.now.text]) aOp rfl aHv rfl (Cells.drop (Hbc H 3 rfl) 2 4)) rfl)<| yQ rfl rfl (xA aSh H) ?_
 rintro _ R ⟨D,rfl,H⟩
 refine yP rfl (yL (vs:=[i6 c.now.kind,i6 c.now.at_,i6 c.now.n,sb c.now.text]) H 6 rfl aHv rfl rfl rfl ⟨rfl,rfl,rfl,rfl,trivial⟩ rfl) ?_
 rintro T H
 refine RN C<| zB fun U E=>zA<| zH (gV f) ?_
 obtain ⟨d,F,h⟩:=zC h
 refine zZ rfl rfl (zS aGe rfl) (aOh (gB.mk c.text c.at_ (gW.mk c.now.kind c.now.at_ c.now.n c.now.text) (Rules.mk c.r.Phases c.r.Moves c.r.Rules)) f j k l _ F _ _ _ (H.enter [0,1,2,3] [4])) ?_
 rintro _ G ⟨m,o,p,rfl,I⟩
 have H:Hd _ _ G _ [.fz (.gi 4),.blk x [i6 0,i6 0,i6 0,.string (bs [])] 107,.blk D [i6 c.now.kind,i6 c.now.at_,i6 c.now.n,sb c.now.text] 107,.own Rp.str m 9 d.r.Phases,.own gX o 122 d.r.Moves,.own fB p 95 d.r.Rules,.blk f [sb d.text,i6 d.at_,i6 d.now.kind,i6 d.now.at_,i6 d.now.n,sb d.now.text,m,o,p] 109]:=H.back [0,1,2,3] [4] rfl I
 refine ⟨_,rfl,?_⟩
 refine RN E<| zB fun V J=>zA<| zG (yJ (yF (cs:=[i6 c.now.kind,i6 c.now.at_,i6 c.now.n,sb c.now.text]) aOp rfl aHv rfl (Hbc H 2 rfl)) rfl)<| yP rfl (yL (vs:=[i6 c.now.kind,i6 c.now.at_,i6 c.now.n,sb c.now.text]) H 1 rfl aHv rfl rfl rfl ⟨rfl,rfl,rfl,rfl,trivial⟩ rfl) ?_
 rintro X H
 refine RN J ?_
 obtain rfl:=gI h
 refine (zW (jV rfl rfl (yN aOp aHv rfl (Hbc H 1 rfl)) ?_))
 exact ⟨m,o,p,rfl,H.pick [3,4,5,6]⟩
theorem Fdzw (a:gB)(c:Nat)(f:Value)(h:Value)(i:Value)(r:Str×gB)(d:Fdz a=some r)(O S:List Nat)(w:World)(H:Hd O w w S [.own Rp.str f 9 a.r.Phases,.own gX h 122 a.r.Moves,.own fB i 95 a.r.Rules,.blk c [sb a.text,i6 a.at_,i6 a.now.kind,i6 a.now.at_,i6 a.now.n,sb a.now.text,f,h,i] 109,.fz (.gi 4)]):
  Cl 122 [gV c] w fun e s=> ∃o p q,e= .returned (sb r.1)∧Hd O w s S [.own Rp.str o 9 r.2.r.Phases,.own gX p 122 r.2.r.Moves,.own fB q 95 r.2.r.Rules,.blk c [sb r.2.text,i6 r.2.at_,i6 r.2.now.kind,i6 r.2.now.at_,i6 r.2.now.n,sb r.2.now.text,o,p,q] 109]:=by
 unfold Fdz at d
 refine CW 6 Tryz.func122 ?_
 refine zB fun A t=>zA<| zI (.string (bs []))<| RN t<| zB fun B u=>zA<| zH (gV c) ?_
 obtain ⟨⟨j,b⟩,x,d⟩:=zC d
 refine zZ rfl rfl (zS en177 rfl) (Fd5w (gB.mk a.text a.at_ (gW.mk a.now.kind a.now.at_ a.now.n a.now.text) (Rules.mk a.r.Phases a.r.Moves a.r.Rules)) 2 c f h i _ x _ _ _ (H.enter [0,1,2,3] [4])) ?_
 rintro _ y ⟨k,l,m,rfl,z⟩
 have H:Hd _ _ y _ [.fz (.gi 4),.own Rp.str k 9 b.r.Phases,.own gX l 122 b.r.Moves,.own fB m 95 b.r.Rules,.blk c [sb b.text,i6 b.at_,i6 b.now.kind,i6 b.now.at_,i6 b.now.n,sb b.now.text,k,l,m] 109]:=H.back [0,1,2,3] [4] rfl z
 refine ⟨_,rfl,?_⟩
 refine zG (aHh (v:=sb j.text) fo107_3 bF rfl rfl)<| zI (sb j.text)<| RN u ?_
 obtain rfl:=gI d
 refine (zW (fC (v1:=sb j.text) rfl rfl ?_))
 exact ⟨k,l,m,rfl,H.pick [1,2,3,4]⟩
theorem Fd7w (a:gB)(f:Str)(c:Nat)(h:Value)(j:Value)(k:Value)(r:gB)(b:Fd7 a f=some r)(O S:List Nat)(w:World)(H:Hd O w w S [.own Rp.str h 9 a.r.Phases,.own gX j 122 a.r.Moves,.own fB k 95 a.r.Rules,.blk c [sb a.text,i6 a.at_,i6 a.now.kind,i6 a.now.at_,i6 a.now.n,sb a.now.text,h,j,k] 109,.fz (.gi 4)]):
  Cl 123 [gV c,sb f] w fun e u=> ∃q s t,e= .returned (.tuple #[])∧Hd O w u S [.own Rp.str q 9 r.r.Phases,.own gX s 122 r.r.Moves,.own fB t 95 r.r.Rules,.blk c [sb r.text,i6 r.at_,i6 r.now.kind,i6 r.now.at_,i6 r.now.n,sb r.now.text,q,s,t] 109]:=by
 unfold Fd7 at b
 refine CW 12 Tryz.func123 ?_
 refine zB fun J v=>?_
 refine zB fun K y=>zA<| zH (gV c)<| zH (sb f) ?_
 have z:=H
 have H:=H.freezeB (i:=3) rfl
 have H:=H.freeze (i:=0) rfl
 have H:=H.freeze (i:=1) rfl
 have H:=H.freeze (i:=2) rfl
 have H:=H.fz (.pt dM (some ⟨c,0,none⟩) (some a)) ⟨_,_,_,rfl,(H.item (i:=3) rfl).1,(H.item (i:=3) rfl).2.1,(bG (x:=a) (H.item (i:=0) rfl) (H.item (i:=1) rfl) (H.item (i:=2) rfl)),(H.item (i:=3) rfl).2.2⟩
 obtain ⟨A,B,b⟩:=zC b
 refine zZ rfl rfl (zS aFn rfl) (aPg (some a) f (some ⟨c,0,none⟩) _ B _ _ _ (H.enter [] [5])) ?_
 rintro _ L ⟨rfl,C⟩
 have H:=z.step (C.only:Only [] _ _)
 refine ⟨_,rfl,?_⟩
 obtain ⟨M,D,b⟩:=zD b
 refine zG (zL (wH (p:=A) rfl) D)<| RN y ?_
 obtain ⟨E,b⟩:=xX b
 refine dB E ?_
 refine zX (zF (v _ _ ?_))
 refine zA ?_
 refine zH (gV c) ?_
 obtain ⟨d,F,b⟩:=zC b
 refine zZ rfl rfl (zS aGe rfl) (aOh (gB.mk a.text a.at_ (gW.mk a.now.kind a.now.at_ a.now.n a.now.text) (Rules.mk a.r.Phases a.r.Moves a.r.Rules)) c h j k _ F _ _ _ (H.enter [0,1,2,3] [4])) ?_
 rintro _ G ⟨l,m,o,rfl,I⟩
 have H:Hd _ _ G _ [.fz (.gi 4),.own Rp.str l 9 d.r.Phases,.own gX m 122 d.r.Moves,.own fB o 95 d.r.Rules,.blk c [sb d.text,i6 d.at_,i6 d.now.kind,i6 d.now.at_,i6 d.now.n,sb d.now.text,l,m,o] 109]:=H.back [0,1,2,3] [4] rfl I
 refine ⟨_,rfl,?_⟩
 obtain rfl:=gI b
 refine (yA (nJ rfl ?_))
 exact ⟨l,m,o,rfl,H.pick [1,2,3,4]⟩
abbrev Fao (f:gB→Int→Option (Cond×gB)):Prop:= ∀(p0:gB) (p1:Int) (b1:Nat) (v2:Value) (v3:Value) (v4:Value) (r:Cond×gB) (_:f p0 p1=some r) (O S:List Nat) (w:World) (_:Hd O w w S [.own Rp.str v2 9 p0.r.Phases,.own gX v3 122 p0.r.Moves,.own fB v4 95 p0.r.Rules,.blk b1 [sb p0.text,i6 p0.at_,i6 p0.now.kind,i6 p0.now.at_,i6 p0.now.n,sb p0.now.text,v2,v3,v4] 109,.fz (.at 0 0 ((Fl.arr 7 Fl.str).f zM)),.fz (.gi 4)]),
  Cl 124 [gV b1,i6 p1] w fun e w'=> ∃u11 u12 u13 u14,e= .returned (.agg [i6 r.1.Kind,sb r.1.Name,sb r.1.Other,i6 r.1.Op,i6 r.1.N,i6 r.1.Frames,u11].toArray)∧Hd O w w' S [f1 fA u11 r.1.Kids,.own Rp.str u12 9 r.2.r.Phases,.own gX u13 122 r.2.r.Moves,.own fB u14 95 r.2.r.Rules,.blk b1 [sb r.2.text,i6 r.2.at_,i6 r.2.now.kind,i6 r.2.now.at_,i6 r.2.now.n,sb r.2.now.text,u12,u13,u14] 109]
theorem Fekw (h:Option gB)(v1:Option Addr)(r:Bool)(c:Fek h=some r)(O S:List Nat)(w:World)(H:Hd O w w S [.fz (.pt dM v1 h)]):
  Cl 216 [.pointer v1] w fun e t=>e= .returned (.bool r)∧Hd O w t S []:=by
 unfold Fek at c
 refine CW 21 Tryz.func216 ?_
 refine zB fun K3 u=>zA<| zI (.bool false)<| RN u<| zB fun ar v=>zB fun au x=>zA<| zH (.pointer v1) ?_
 obtain ⟨d,y,c⟩:=zC c
 obtain ⟨l,o70,av,z,A,B,C,D⟩:=qX ((H.item (i:=0) rfl):PtF _ _ _ _ _) y
 obtain ⟨E,F,G,rfl,I,J,K⟩:=bW C
 have H:=H.fzs [.at l o70 _,.sl Rp.str E d.r.Phases,.sl gX F d.r.Moves,.sl fB G d.r.Rules] ⟨⟨A,B,D⟩,I,J,K,trivial⟩
 refine zG (zN (ad:=⟨l,o70,none⟩) (congrArg Value.pointer z))<| zG (dX rfl)<| zG (kQ rfl)<| zG (xG fM rfl (Cells.get (H.item (i:=1) rfl).2.2 (i:=2) rfl))<| RN x<| yD<| zB fun aw L=>zA ?_
 obtain ⟨m,M,c⟩:=zD c
 refine zG (zL (yR (a:=d.now.kind) (b:=2) rfl rfl) M)<| zI (.bool m)<| RN L<| zY (b:=m) rfl (fun j=>?_) (fun j=>?_)
 ·have c:=zO j c
  refine zB fun ax N=>zA<| zI (.bool true)<| RN N ?_
  obtain rfl:=gI c
  refine (zW (yE (zV (fC (v1:= .bool true) rfl rfl ?_))))
  exact ⟨rfl,H.pick []⟩
 have c:=zQ j c
 refine zB fun ay P=>zA ?_
 obtain ⟨n,Q,c⟩:=zD c
 refine zG (zL (yR (a:=d.now.kind) (b:=1) rfl rfl) Q)<| zI (.bool n)<| RN P<| zY (b:=n) rfl (fun k=>?_) (fun k=>?_)
 ·have c:=zO k c
  refine zB fun az R=>zA ?_
  obtain ⟨a0,T,c⟩:=zD c
  subst T
  refine yQ rfl rfl (aX (r:=Rp.str) (xl:=[[116,114,117,101],[102,97,108,115,101],[115,116,101,97,100,121],[112,104,97,115,101],[114,117,108,101],[110,111,116],[102,111,114],[119,105,116,104,105,110],[99,111,117,110,116],[114,105,115,101,115],[115,105,110,99,101]]) (cs:=[.string (bs [116,114,117,101]),.string (bs [102,97,108,115,101]),.string (bs [115,116,101,97,100,121]),.string (bs [112,104,97,115,101]),.string (bs [114,117,108,101]),.string (bs [110,111,116]),.string (bs [102,111,114]),.string (bs [119,105,116,104,105,110]),.string (bs [99,111,117,110,116]),.string (bs [114,105,115,101,115]),.string (bs [115,105,110,99,101])]) u22 el9 (by decide) (by decide) rfl (xH (vs:=[.string (bs [116,114,117,101]),.string (bs [102,97,108,115,101]),.string (bs [115,116,101,97,100,121]),.string (bs [112,104,97,115,101]),.string (bs [114,117,108,101]),.string (bs [110,111,116]),.string (bs [102,111,114]),.string (bs [119,105,116,104,105,110]),.string (bs [99,111,117,110,116]),.string (bs [114,105,115,101,115]),.string (bs [115,105,110,99,101])]) (by decide) rfl rfl ⟨rfl,rfl,rfl,rfl,rfl,rfl,rfl,rfl,rfl,rfl,rfl,trivial⟩ rfl) H ⟨[.string (bs [116,114,117,101])],[.string (bs [102,97,108,115,101]),.string (bs [115,116,101,97,100,121]),.string (bs [112,104,97,115,101]),.string (bs [114,117,108,101]),.string (bs [110,111,116]),.string (bs [102,111,114]),.string (bs [119,105,116,104,105,110]),.string (bs [99,111,117,110,116]),.string (bs [114,105,115,101,115]),.string (bs [115,105,110,99,101])],rfl,rfl,⟨[.string (bs [102,97,108,115,101])],[.string (bs [115,116,101,97,100,121]),.string (bs [112,104,97,115,101]),.string (bs [114,117,108,101]),.string (bs [110,111,116]),.string (bs [102,111,114]),.string (bs [119,105,116,104,105,110]),.string (bs [99,111,117,110,116]),.string (bs [114,105,115,101,115]),.string (bs [115,105,110,99,101])],rfl,rfl,⟨[.string (bs [115,116,101,97,100,121])],[.string (bs [112,104,97,115,101]),.string (bs [114,117,108,101]),.string (bs [110,111,116]),.string (bs [102,111,114]),.string (bs [119,105,116,104,105,110]),.string (bs [99,111,117,110,116]),.string (bs [114,105,115,101,115]),.string (bs [115,105,110,99,101])],rfl,rfl,⟨[.string (bs [112,104,97,115,101])],[.string (bs [114,117,108,101]),.string (bs [110,111,116]),.string (bs [102,111,114]),.string (bs [119,105,116,104,105,110]),.string (bs [99,111,117,110,116]),.string (bs [114,105,115,101,115]),.string (bs [115,105,110,99,101])],rfl,rfl,⟨[.string (bs [114,117,108,101])],[.string (bs [110,111,116]),.string (bs [102,111,114]),.string (bs [119,105,116,104,105,110]),.string (bs [99,111,117,110,116]),.string (bs [114,105,115,101,115]),.string (bs [115,105,110,99,101])],rfl,rfl,⟨[.string (bs [110,111,116])],[.string (bs [102,111,114]),.string (bs [119,105,116,104,105,110]),.string (bs [99,111,117,110,116]),.string (bs [114,105,115,101,115]),.string (bs [115,105,110,99,101])],rfl,rfl,⟨[.string (bs [102,111,114])],[.string (bs [119,105,116,104,105,110]),.string (bs [99,111,117,110,116]),.string (bs [114,105,115,101,115]),.string (bs [115,105,110,99,101])],rfl,rfl,⟨[.string (bs [119,105,116,104,105,110])],[.string (bs [99,111,117,110,116]),.string (bs [114,105,115,101,115]),.string (bs [115,105,110,99,101])],rfl,rfl,⟨[.string (bs [99,111,117,110,116])],[.string (bs [114,105,115,101,115]),.string (bs [115,105,110,99,101])],rfl,rfl,⟨[.string (bs [114,105,115,101,115])],[.string (bs [115,105,110,99,101])],rfl,rfl,⟨[.string (bs [115,105,110,99,101])],[],rfl,rfl,rfl⟩⟩⟩⟩⟩⟩⟩⟩⟩⟩⟩) ?_
  rintro U a1 H
  refine zH (.pointer v1) ?_
  obtain ⟨f,V,c⟩:=zC c
  obtain ⟨o,p,a2,X,Y,Z,aa,ab⟩:=qX ((H.item (i:=0) rfl):PtF _ _ _ _ _) V
  obtain ⟨ac,ae,af,rfl,ag,ah,ai⟩:=bW aa
  have H:=H.fzs [.at o p _,.sl Rp.str ac f.r.Phases,.sl gX ae f.r.Moves,.sl fB af f.r.Rules] ⟨⟨Y,Z,ab⟩,ag,ah,ai,trivial⟩
  refine zG (zN (ad:=⟨o,p,none⟩) (congrArg Value.pointer X))<| zG (dX rfl)<| zG (sJ rfl)<| zG (xG bF rfl (Cells.get (H.item (i:=6) rfl).2.2 (i:=5) rfl)) ?_
  have aj:=H
  have H:=H.freeze (i:=5) rfl
  obtain ⟨q,ak,c⟩:=zC c
  refine zZ rfl rfl (zS en87 rfl) (Fapw ([[116,114,117,101],[102,97,108,115,101],[115,116,101,97,100,121],[112,104,97,115,101],[114,117,108,101],[110,111,116],[102,111,114],[119,105,116,104,105,110],[99,111,117,110,116],[114,105,115,101,115],[115,105,110,99,101]]:List Str) f.now.text U _ ak _ _ _ (H.enter [] [5])) ?_
  rintro _ a3 ⟨rfl,al⟩
  have H:=aj.step (al.only:Only [] _ _)
  refine ⟨_,rfl,?_⟩
  refine zI (.bool q)<| RN R ?_
  obtain rfl:=gI c
  refine (zW (yE (zV (fC (v1:= .bool q) rfl rfl ?_))))
  exact ⟨rfl,H.pick []⟩
 have c:=zQ k c
 refine (zX (yH (zF (v _ _ ?_))))
 refine zB fun a4 am=>zA<| zH (.pointer v1) ?_
 have an:=H
 obtain ⟨s,ao,c⟩:=zC c
 refine zZ rfl rfl (zS aFn rfl) (aPg h [40] v1 _ ao _ _ _ (H.enter [] [0])) ?_
 rintro _ a5 ⟨rfl,ap⟩
 have H:=an.step (ap.only:Only [] _ _)
 refine ⟨_,rfl,?_⟩
 refine zI (.bool s)<| RN am ?_
 obtain rfl:=gI c
 refine (zW (fC (v1:= .bool s) rfl rfl ?_))
 exact ⟨rfl,H.pick []⟩
theorem Fe8w (a:gB)(c:Nat)(f:Value)(h:Value)(i:Value)(r:Int×gB)(d:Fe8 a=some r)(O S:List Nat)(w:World)(H:Hd O w w S [.own Rp.str f 9 a.r.Phases,.own gX h 122 a.r.Moves,.own fB i 95 a.r.Rules,.blk c [sb a.text,i6 a.at_,i6 a.now.kind,i6 a.now.at_,i6 a.now.n,sb a.now.text,f,h,i] 109,.fz (.gi 4)]):
  Cl 219 [gV c] w fun e s=> ∃o p q,e= .returned (i6 r.1)∧Hd O w s S [.own Rp.str o 9 r.2.r.Phases,.own gX p 122 r.2.r.Moves,.own fB q 95 r.2.r.Rules,.blk c [sb r.2.text,i6 r.2.at_,i6 r.2.now.kind,i6 r.2.now.at_,i6 r.2.now.n,sb r.2.now.text,o,p,q] 109]:=by
 unfold Fe8 at d
 refine CW 6 Tryz.func219 ?_
 refine zB fun A t=>zA<| zI (i6 0)<| RN t<| zB fun B u=>zA<| zH (gV c) ?_
 obtain ⟨⟨j,b⟩,x,d⟩:=zC d
 refine zZ rfl rfl (zS en177 rfl) (Fd5w (gB.mk a.text a.at_ (gW.mk a.now.kind a.now.at_ a.now.n a.now.text) (Rules.mk a.r.Phases a.r.Moves a.r.Rules)) 3 c f h i _ x _ _ _ (H.enter [0,1,2,3] [4])) ?_
 rintro _ y ⟨k,l,m,rfl,z⟩
 have H:Hd _ _ y _ [.fz (.gi 4),.own Rp.str k 9 b.r.Phases,.own gX l 122 b.r.Moves,.own fB m 95 b.r.Rules,.blk c [sb b.text,i6 b.at_,i6 b.now.kind,i6 b.now.at_,i6 b.now.n,sb b.now.text,k,l,m] 109]:=H.back [0,1,2,3] [4] rfl z
 refine ⟨_,rfl,?_⟩
 refine zG (aHh (v:=i6 j.n) fo107_2 fM rfl rfl)<| zI (i6 j.n)<| RN u ?_
 obtain rfl:=gI d
 refine (zW (fC (v1:=i6 j.n) rfl rfl ?_))
 exact ⟨k,l,m,rfl,H.pick [1,2,3,4]⟩
theorem Fezw (h:gB)(k:Nat)(u:Value)(x:Value)(y:Value)(r:Cond×gB)(c:Fez h=some r)(O S:List Nat)(w:World)(H:Hd O w w S [.own Rp.str u 9 h.r.Phases,.own gX x 122 h.r.Moves,.own fB y 95 h.r.Rules,.blk k [sb h.text,i6 h.at_,i6 h.now.kind,i6 h.now.at_,i6 h.now.n,sb h.now.text,u,x,y] 109,.fz (.at 0 0 ((Fl.arr 7 Fl.str).f zM)),.fz (.gi 4)]):
  Cl 217 [gV k] w fun e q=> ∃L M P Q,e= .returned (.agg [i6 r.1.Kind,sb r.1.Name,sb r.1.Other,i6 r.1.Op,i6 r.1.N,i6 r.1.Frames,L].toArray)∧Hd O w q S [f1 fA L r.1.Kids,.own Rp.str M 9 r.2.r.Phases,.own gX P 122 r.2.r.Moves,.own fB Q 95 r.2.r.Rules,.blk k [sb r.2.text,i6 r.2.at_,i6 r.2.now.kind,i6 r.2.now.at_,i6 r.2.now.n,sb r.2.now.text,M,P,Q] 109]:=by
 unfold Fez at c
 refine CW 45 Tryz.func217 ?_
 refine zB fun a1 T=>zA<| yQ rfl rfl (xA aB H) ?_
 rintro _ a2 ⟨z,rfl,H⟩
 refine RN T<| zB fun a3 U=>zA<| zH (gV k) ?_
 obtain ⟨⟨p,d⟩,V,c⟩:=zC c
 refine zZ rfl rfl (zS en122 rfl) (Fdzw (gB.mk h.text h.at_ (gW.mk h.now.kind h.now.at_ h.now.n h.now.text) (Rules.mk h.r.Phases h.r.Moves h.r.Rules)) k u x y _ V _ _ _ (H.enter [0,1,2,3] [5])) ?_
 rintro _ Y ⟨A,B,C,rfl,Z⟩
 have H:Hd _ _ Y _ [.fz (.at 0 0 ((Fl.arr 7 Fl.str).f zM)),.fz (.gi 4),.blk z [i6 0,.string (bs []),.string (bs []),i6 0,i6 0,i6 0,.slice none 0 0] 70,.own Rp.str A 9 d.r.Phases,.own gX B 122 d.r.Moves,.own fB C 95 d.r.Rules,.blk k [sb d.text,i6 d.at_,i6 d.now.kind,i6 d.now.at_,i6 d.now.n,sb d.now.text,A,B,C] 109]:=H.back [0,1,2,3] [5] rfl Z
 refine ⟨_,rfl,?_⟩
 refine zG (xJ (cs:=[i6 3,sb p,.string (bs []),i6 0,i6 0,i6 0,.slice none 0 0]) (bt70_0_1 _ _))<| yQ rfl rfl (xA aB H) ?_
 rintro _ a4 ⟨R,rfl,H⟩
 refine yP rfl (yL (vs:=[i6 3,sb p,.string (bs []),i6 0,i6 0,i6 0,.slice none 0 0]) H 7 rfl fZ rfl rfl rfl ⟨rfl,rfl,rfl,rfl,rfl,rfl,rfl,trivial⟩ rfl) ?_
 rintro a5 H
 refine RN U<| zB fun a6 aa=>?_
 have ab:=H
 have H:=H.rebase
 have a7:=H
 refine xU H [0,1,2,3,4,5,6,7,8] (kz [0,0,0,0,0,1,1,0,3]) mixed ?_
 refine MxM.XL_exP rfl rfl rfl (aOo (e:=Fl.str) (X:=zM) (r:=Rp.str) (fun _ _ _ _=>Iff.rfl) rfl u209 sz9 (H.item (i:=0) rfl).1 (H.item (i:=0) rfl).2.1 (H.item (i:=0) rfl).2.2 rfl (by decide)) ?_
 rintro t ac
 have H:=H.fz (.sl Rp.str t zM.l) ac
 refine XM (gV k)<| XP (fun _ _=>zN rfl)<| XP (fun _ _=>dX rfl)<| XP (fun _ _=>sJ rfl)<| XR bF H 6 5 rfl rfl ?_
 have ad:=H
 obtain ⟨o,ae,c⟩:=zC c
 refine MxM.XL_call oS rfl rfl rfl (v:=i6 o) (fun q s=>zS aMx rfl) (fun q s=>bU (Faew zM.l d.now.text t _ ae _ _ _ ((H.sees s).enter [] [8]))) ?_
 have H:=ad
 refine XP (fun _ _=>rY rfl)<| MxM.XL_exU oS rfl rfl (fun q s=>xE (H.sees s) 7 rfl sz3 rfl (v:=i6 o) rfl rfl rfl) ?_
 rintro q a8 s H
 refine ⟨H.only,?_⟩
 refine MxM.xK fun a9 hS=>?_
 have H:=H.sees hS
 have H:=ab.rejoin H
 refine (zF (aa _ _ ?_))
 refine zB fun ba af=>?_
 refine zB fun bb ag=>zA<| zH (gV k)<| zG (zN rfl)<| zG (dX rfl)<| zG (kQ rfl)<| Ld fM H 6 2 rfl rfl ?_
 obtain ⟨bc,ah,c⟩:=zD c
 refine zG (zL (dC (a:=d.now.kind) (b:=4) rfl rfl) ah) ?_
 obtain ⟨ai,c⟩:=xX c
 refine aMn false ai ?_
 refine zG (rY rfl)<| Ld fM H 7 3 rfl rfl ?_
 obtain ⟨aj,ak,c⟩:=zD c
 refine zG (zL (xP (a:=o) (b:=1) rfl rfl) ak)<| zG (yM (v:= .bool aj) rfl rfl)<| RN ag ?_
 obtain ⟨al,c⟩:=xX c
 refine dB al ?_
 refine zX (zF (af _ _ ?_))
 refine zB fun bd am=>zA<| zH (gV k) ?_
 obtain ⟨j,an,c⟩:=zC c
 refine zZ rfl rfl (zS aGe rfl) (aOh (gB.mk d.text d.at_ (gW.mk d.now.kind d.now.at_ d.now.n d.now.text) (Rules.mk d.r.Phases d.r.Moves d.r.Rules)) k A B C _ an _ _ _ (H.enter [3,4,5,6] [1])) ?_
 rintro _ ao ⟨D,E,F,rfl,ap⟩
 have H:Hd _ _ ao _ [.fz (.at 0 0 ((Fl.arr 7 Fl.str).f zM)),.fz (.gi 4),.blk z [i6 0,.string (bs []),.string (bs []),i6 0,i6 0,i6 0,.slice none 0 0] 70,.blk R [i6 3,sb p,.string (bs []),i6 o,i6 0,i6 0,.slice none 0 0] 70,f1 Rp.str t zM.l,.own Rp.str D 9 j.r.Phases,.own gX E 122 j.r.Moves,.own fB F 95 j.r.Rules,.blk k [sb j.text,i6 j.at_,i6 j.now.kind,i6 j.now.at_,i6 j.now.n,sb j.now.text,D,E,F] 109]:=H.back [3,4,5,6] [1] rfl ap
 refine ⟨_,rfl,?_⟩
 refine RN am<| zB fun be aq=>zB fun bf ar=>zA<| zH (gV k)<| zG (zN rfl)<| zG (dX rfl)<| zG (kQ rfl)<| Ld fM H 8 2 rfl rfl ?_
 obtain ⟨bg,au,c⟩:=zD c
 refine zG (zL (yR (a:=j.now.kind) (b:=2) rfl rfl) au)<| RN ar ?_
 obtain ⟨av,c⟩:=xX c
 refine dB av ?_
 refine zX (zF (aq _ _ ?_))
 refine zB fun bh aw=>zA<| zH (gV k) ?_
 obtain ⟨⟨G,m⟩,ax,c⟩:=zC c
 refine zZ rfl rfl (zS en219 rfl) (Fe8w (gB.mk j.text j.at_ (gW.mk j.now.kind j.now.at_ j.now.n j.now.text) (Rules.mk j.r.Phases j.r.Moves j.r.Rules)) k D E F _ ax _ _ _ (H.enter [5,6,7,8] [1])) ?_
 rintro _ ay ⟨I,J,K,rfl,az⟩
 have H:Hd _ _ ay _ [.fz (.at 0 0 ((Fl.arr 7 Fl.str).f zM)),.fz (.gi 4),.blk z [i6 0,.string (bs []),.string (bs []),i6 0,i6 0,i6 0,.slice none 0 0] 70,.blk R [i6 3,sb p,.string (bs []),i6 o,i6 0,i6 0,.slice none 0 0] 70,f1 Rp.str t zM.l,.own Rp.str I 9 m.r.Phases,.own gX J 122 m.r.Moves,.own fB K 95 m.r.Rules,.blk k [sb m.text,i6 m.at_,i6 m.now.kind,i6 m.now.at_,i6 m.now.n,sb m.now.text,I,J,K] 109]:=H.back [5,6,7,8] [1] rfl az
 refine ⟨_,rfl,?_⟩
 refine zG (pM rfl)<| yP rfl (xE H 3 rfl sz3 rfl (v:=i6 G) rfl rfl rfl) ?_
 rintro bi H
 refine RN aw<| zB fun bj a0=>zA<| zG (yJ (yF (cs:=[i6 3,sb p,.string (bs []),i6 o,i6 G,i6 0,.slice none 0 0]) eG rfl fZ rfl (Hbc H 3 rfl)) rfl)<| yP rfl (yL (vs:=[i6 3,sb p,.string (bs []),i6 o,i6 G,i6 0,.slice none 0 0]) H 2 rfl fZ rfl rfl rfl ⟨rfl,rfl,rfl,rfl,rfl,rfl,rfl,trivial⟩ rfl) ?_
 rintro bk H
 refine RN a0 ?_
 have H:=H.fz (.sl fA (.slice none 0 0) []) SlF.nil
 obtain rfl:=gI c
 refine (zW (jV rfl rfl (yN eG fZ rfl (Hbc H 2 rfl)) ?_))
 exact ⟨.slice none 0 0,I,J,K,rfl,H.pick [9,5,6,7,8]⟩
abbrev Fc5 (f:gB→Int→Option (Cond×gB)):Prop:= ∀(p0:gB) (p1:Int) (b1:Nat) (v2:Value) (v3:Value) (v4:Value) (r:Cond×gB) (_:f p0 p1=some r) (O S:List Nat) (w:World) (_:Hd O w w S [.own Rp.str v2 9 p0.r.Phases,.own gX v3 122 p0.r.Moves,.own fB v4 95 p0.r.Rules,.blk b1 [sb p0.text,i6 p0.at_,i6 p0.now.kind,i6 p0.now.at_,i6 p0.now.n,sb p0.now.text,v2,v3,v4] 109,.fz (.at 0 0 ((Fl.arr 7 Fl.str).f zM)),.fz (.gi 4)]),
  Cl 181 [gV b1,i6 p1] w fun e w'=> ∃u11 u12 u13 u14,e= .returned (.agg [i6 r.1.Kind,sb r.1.Name,sb r.1.Other,i6 r.1.Op,i6 r.1.N,i6 r.1.Frames,u11].toArray)∧Hd O w w' S [f1 fA u11 r.1.Kids,.own Rp.str u12 9 r.2.r.Phases,.own gX u13 122 r.2.r.Moves,.own fB u14 95 r.2.r.Rules,.blk b1 [sb r.2.text,i6 r.2.at_,i6 r.2.now.kind,i6 r.2.now.at_,i6 r.2.now.n,sb r.2.now.text,u12,u13,u14] 109]
theorem Ffmw (rfA:gB→Int→Option (Cond×gB))(rhA:Fc5 rfA)(q:Int)(h:gB)(m:Int)(o:Nat)(l:Nat)(u:Value)(v:Value)(y:Value)(p:Nat)(r:(List Cond)×gB)(c:Ffm rfA q h m=some r)(O S:List Nat)(w:World)(H:Hd O w w S [.own Rp.str u 9 h.r.Phases,.own gX v 122 h.r.Moves,.own fB y 95 h.r.Rules,.blk l [sb h.text,i6 h.at_,i6 h.now.kind,i6 h.now.at_,i6 h.now.n,sb h.now.text,u,v,y] 109,.blk o [gV l] 105,.blk p [i6 m] 3,.fz (.at 0 0 ((Fl.arr 7 Fl.str).f zM)),.fz (.gi 4)]):
  Cl 218 [i6 q,gV o,gV p] w fun e T=> ∃E F G I,e= .returned (E)∧Hd O w T S [.own fA E 70 r.1,.own Rp.str F 9 r.2.r.Phases,.own gX G 122 r.2.r.Moves,.own fB I 95 r.2.r.Rules,.blk l [sb r.2.text,i6 r.2.at_,i6 r.2.now.kind,i6 r.2.now.at_,i6 r.2.now.n,sb r.2.now.text,F,G,I] 109,.blk o [gV l] 105,.blk p [i6 m] 3]:=by
 unfold Ffm at c
 refine CW 18 Tryz.func218 ?_
 refine zB fun a6 U=>zA<| zI (.slice none 0 0)<| RN U<| zB fun a7 V=>zA<| zI (.slice none 0 0)<| RN V ?_
 obtain ⟨k,c,X⟩:=zC c
 refine yK [5,6,7,8,9,10,11,12,13,14,15,16] (fun (g:Value×Value×Value×Value)=>[(5,g.1)]) (fun g wl=>Hd O w wl S [.own fA g.1 70 k.1,.blk l [sb k.2.1,i6 k.2.2.1,i6 k.2.2.2.1,i6 k.2.2.2.2.1,i6 k.2.2.2.2.2.1,sb k.2.2.2.2.2.2.1,g.2.1,g.2.2.1,g.2.2.2] 109,.own Rp.str g.2.1 9 k.2.2.2.2.2.2.2.1,.own gX g.2.2.1 122 k.2.2.2.2.2.2.2.2.1,.own fB g.2.2.2 95 k.2.2.2.2.2.2.2.2.2,.blk o [gV l] 105,.blk p [i6 m] 3,.fz (.at 0 0 ((Fl.arr 7 Fl.str).f zM)),.fz (.gi 4)]) ?_ ?_
 ·skip
  refine zB fun a8 Y=>zA<| zH (i6 q)<| zH (i6 0)<| RN Y<| yD ?_
  have H:=bY H fA 70
  unfold Ff2 at c
  obtain ⟨Z,J,aa,c⟩:=yT c
  refine xB [5,7,8,9,10,11,12,13,14,15,16] (fun (g:Nat×(List Cond)×Int×Str×Int×Int×Int×Int×Str×(List Str)×(List aF)×(List dH)×Value×Value×Value×Value)=>[(5,g.2.2.2.2.2.2.2.2.2.2.2.2.1),(7,i6 g.2.2.1)]) (fun g wl=>Hd O w wl S [.own fA g.2.2.2.2.2.2.2.2.2.2.2.2.1 70 g.2.1,.blk l [sb g.2.2.2.1,i6 g.2.2.2.2.1,i6 g.2.2.2.2.2.1,i6 g.2.2.2.2.2.2.1,i6 g.2.2.2.2.2.2.2.1,sb g.2.2.2.2.2.2.2.2.1,g.2.2.2.2.2.2.2.2.2.2.2.2.2.1,g.2.2.2.2.2.2.2.2.2.2.2.2.2.2.1,g.2.2.2.2.2.2.2.2.2.2.2.2.2.2.2] 109,.own Rp.str g.2.2.2.2.2.2.2.2.2.2.2.2.2.1 9 g.2.2.2.2.2.2.2.2.2.1,.own gX g.2.2.2.2.2.2.2.2.2.2.2.2.2.2.1 122 g.2.2.2.2.2.2.2.2.2.2.1,.own fB g.2.2.2.2.2.2.2.2.2.2.2.2.2.2.2 95 g.2.2.2.2.2.2.2.2.2.2.2.1,.blk o [gV l] 105,.blk p [i6 m] 3,.fz (.at 0 0 ((Fl.arr 7 Fl.str).f zM)),.fz (.gi 4)]∧fV Z g.1 (g.2.1,g.2.2.1,g.2.2.2.1,g.2.2.2.2.1,g.2.2.2.2.2.1,g.2.2.2.2.2.2.1,g.2.2.2.2.2.2.2.1,g.2.2.2.2.2.2.2.2.1,g.2.2.2.2.2.2.2.2.2.1,g.2.2.2.2.2.2.2.2.2.2.1,g.2.2.2.2.2.2.2.2.2.2.2.1)=some k) (fun g=>g.1) (J,[],0,h.text,h.at_,h.now.kind,h.now.at_,h.now.n,h.now.text,h.r.Phases,h.r.Moves,h.r.Rules,.slice none 0 0,u,v,y) (zJ rfl (zJ rfl zK)) ⟨H.pick [8,3,0,1,2,4,5,6,7],c⟩ ?_
  clear H c
  rintro ⟨J,ab,K,ac,ad,ae,af,ag,ah,ai,aj,ak,z,L,M,P⟩ ρ a9 ⟨H,c⟩
  obtain ⟨al,rfl,c⟩:=yZ c
  have c:=yY aa c
  refine zB fun ba am=>zA ?_
  obtain ⟨an,ao,c⟩:=zD c
  refine zG (zL (xP (a:=K) (b:=q) rfl rfl) ao)<| RN am<| zB fun bb ap=>zY (b:=an) rfl (fun A=>?_) (fun A=>?_)
  ·have c:=zO A c
   refine zX (zF (ap _ _ ?_))
   refine zB fun bc aq=>?_
   refine yD ?_
   refine zA ?_
   refine zH z<| Ld pU H 5 0 rfl rfl<| Ld fM H 6 0 rfl rfl ?_
   obtain ⟨ar,au,c⟩:=zD c
   refine zG (xM (a:=m) (b:=1) rfl rfl au) ?_
   obtain ⟨⟨d,j⟩,av,c⟩:=zC c
   refine zZ rfl rfl (zS en181 rfl) (rhA (gB.mk ac ad (gW.mk ae af ag ah) (Rules.mk ai aj ak)) ar l L M P _ av _ _ _ (H.enter [2,3,4,1] [7,8])) ?_
   rintro _ aw ⟨s,B,C,D,rfl,ax⟩
   have H:Hd _ _ aw _ [.own fA z 70 ab,.blk o [gV l] 105,.blk p [i6 m] 3,.fz (.at 0 0 ((Fl.arr 7 Fl.str).f zM)),.fz (.gi 4),f1 fA s d.Kids,.own Rp.str B 9 j.r.Phases,.own gX C 122 j.r.Moves,.own fB D 95 j.r.Rules,.blk l [sb j.text,i6 j.at_,i6 j.now.kind,i6 j.now.at_,i6 j.now.n,sb j.now.text,B,C,D] 109]:=H.back [2,3,4,1] [7,8] rfl ax
   refine ⟨_,rfl,?_⟩
   obtain ⟨bd,ay,c⟩:=zD c
   subst ay
   refine yQ rfl rfl (aX (r:=fA) (xl:=[d]) (cs:=[i6 d.Kind,sb d.Name,sb d.Other,i6 d.Op,i6 d.N,i6 d.Frames,s]) u68 aIw (by decide) (by decide) rfl (xH (vs:=[.agg [i6 d.Kind,sb d.Name,sb d.Other,i6 d.Op,i6 d.N,i6 d.Frames,s].toArray]) (by decide) rfl rfl ⟨rfl,trivial⟩ rfl) H ⟨[i6 d.Kind,sb d.Name,sb d.Other,i6 d.Op,i6 d.N,i6 d.Frames,s],[],rfl,(qA (x:=d) (H.item (i:=5) rfl)),rfl⟩) ?_
   rintro be bf H
   obtain ⟨az,a0,c⟩:=zC c
   refine yQ rfl rfl (aJ H (i:=0) rfl u68 aIw rfl rfl (Sr.of_own (H.item (i:=10) rfl)) a0) ?_
   rintro Q bg H
   refine zI Q<| (yA (yH (zF (aq _ _ ?_))))
   refine zA ?_
   obtain ⟨R,a1,c⟩:=zD c
   refine zG (xM (a:=K) (b:=1) rfl rfl a1)<| zH (i6 R) ?_
   exact (yA (zF (meet ⟨(al,az,R,j.text,j.at_,j.now.kind,j.now.at_,j.now.n,j.now.text,j.r.Phases,j.r.Moves,j.r.Rules,Q,B,C,D),(zJ rfl (zJ rfl zK)),⟨H.pick [0,9,6,7,8,1,2,3,4],c⟩,Nat.lt_succ_self _⟩)))
  have c:=zQ A c
  obtain rfl:=gI c
  exact (xI (yI (yI (yV (zF (meet ⟨(z,L,M,P),(zJ rfl zK),H.pick [0,1,2,3,4,5,6,7,8]⟩))))))
 rintro ⟨t,a2,a3,a4⟩ ρ bh H
 have c:=X
 obtain ⟨bi,bj,bk,bl,bm,bn,bo,bp,bq,br⟩:=k
 refine zB fun bt a5=>zA<| zH t<| zI t<| RN a5 ?_
 obtain rfl:=gI c
 refine (zW (fC (v1:=t) rfl rfl ?_))
 exact ⟨t,a2,a3,a4,rfl,H.pick [0,2,3,4,1,5,6]⟩
theorem Fe9w (rfB:gB→Int→Option (Cond×gB))(rhB:Fao rfB)(rfA:gB→Int→Option (Cond×gB))(rhA:Fc5 rfA)(h:gB)(o:Int)(k:Nat)(F:Value)(G:Value)(I:Value)(r:Cond×gB)(d:Fe9 rfB rfA h o=some r)(O S:List Nat)(w:World)(H:Hd O w w S [.own Rp.str F 9 h.r.Phases,.own gX G 122 h.r.Moves,.own fB I 95 h.r.Rules,.blk k [sb h.text,i6 h.at_,i6 h.now.kind,i6 h.now.at_,i6 h.now.n,sb h.now.text,F,G,I] 109,.fz (.at 0 0 ((Fl.arr 7 Fl.str).f zM)),.fz (.gi 4)]):
  Cl 181 [gV k,i6 o] w fun e w'=> ∃ad ae af ag,e= .returned (.agg [i6 r.1.Kind,sb r.1.Name,sb r.1.Other,i6 r.1.Op,i6 r.1.N,i6 r.1.Frames,ad].toArray)∧Hd O w w' S [f1 fA ad r.1.Kids,.own Rp.str ae 9 r.2.r.Phases,.own gX af 122 r.2.r.Moves,.own fB ag 95 r.2.r.Rules,.blk k [sb r.2.text,i6 r.2.at_,i6 r.2.now.kind,i6 r.2.now.at_,i6 r.2.now.n,sb r.2.now.text,ae,af,ag] 109]:=by
 unfold Fe9 at d
 refine CW 110 Tryz.func181 ?_
 refine zB fun c7 ak=>zA<| yQ rfl rfl (uZ rfl rfl H) ?_
 rintro _ c8 ⟨u,rfl,H⟩
 refine yQ rfl rfl (uZ rfl rfl H) ?_
 rintro _ c9 ⟨v,rfl,H⟩
 refine yQ rfl rfl (xA aB H) ?_
 rintro _ da ⟨A,rfl,H⟩
 refine RN ak<| zB fun db al=>zB fun dc am=>zA<| Ld pU H 6 0 rfl rfl ?_
 have an:=H
 have H:=H.freezeB (i:=3) rfl
 have H:=H.freeze (i:=0) rfl
 have H:=H.freeze (i:=1) rfl
 have H:=H.freeze (i:=2) rfl
 have H:=H.fz (.pt dM (some ⟨k,0,none⟩) (some h)) ⟨_,_,_,rfl,(H.item (i:=3) rfl).1,(H.item (i:=3) rfl).2.1,(bG (x:=h) (H.item (i:=0) rfl) (H.item (i:=1) rfl) (H.item (i:=2) rfl)),(H.item (i:=3) rfl).2.2⟩
 obtain ⟨ao,ap,d⟩:=zC d
 refine zZ rfl rfl (zS en216 rfl) (Fekw (some h) (some ⟨k,0,none⟩) _ ap _ _ _ (H.enter [] [9])) ?_
 rintro _ dd ⟨rfl,aq⟩
 have H:=an.step (aq.only:Only [] _ _)
 refine ⟨_,rfl,?_⟩
 obtain ⟨de,ar,d⟩:=zD d
 refine zG (zL (wH (p:=ao) rfl) ar)<| RN am ?_
 obtain ⟨au,d⟩:=xX d
 refine dB au ?_
 refine zX (zF (al _ _ ?_))
 refine zB fun df av=>?_
 refine zB fun dg aw=>zA<| Ld fM H 7 0 rfl rfl ?_
 obtain ⟨dh,ax,d⟩:=zD d
 refine zG (zL (kZ (a:=o) (b:=60) rfl rfl) ax)<| RN aw ?_
 obtain ⟨ay,d⟩:=xX d
 refine dB ay ?_
 refine zX (zF (av _ _ ?_))
 refine zB fun di az=>?_
 refine zB fun dj a0=>zA<| Ld pU H 6 0 rfl rfl<| zG (zN rfl)<| zG (dX rfl)<| zG (kQ rfl)<| Ld fM H 3 2 rfl rfl ?_
 obtain ⟨a1,a2,d⟩:=zD d
 refine zG (zL (yR (a:=h.now.kind) (b:=2) rfl rfl) a2)<| RN a0<| zY (b:=a1) rfl (fun J=>?_) (fun J=>?_)
 ·have d:=zO J d
  refine zB fun dk a3=>zA<| Ld pU H 6 0 rfl rfl ?_
  obtain ⟨⟨y,q⟩,a4,d⟩:=zC d
  refine zZ rfl rfl (zS en217 rfl) (Fezw (gB.mk h.text h.at_ (gW.mk h.now.kind h.now.at_ h.now.n h.now.text) (Rules.mk h.r.Phases h.r.Moves h.r.Rules)) k F G I _ a4 _ _ _ (H.enter [0,1,2,3] [4,5])) ?_
  rintro _ a5 ⟨K,L,M,P,rfl,a6⟩
  have H:Hd _ _ a5 _ [.fz (.at 0 0 ((Fl.arr 7 Fl.str).f zM)),.fz (.gi 4),.blk u [gV k] 105,.blk v [i6 o] 3,.blk A [i6 0,.string (bs []),.string (bs []),i6 0,i6 0,i6 0,.slice none 0 0] 70,f1 fA K y.Kids,.own Rp.str L 9 q.r.Phases,.own gX M 122 q.r.Moves,.own fB P 95 q.r.Rules,.blk k [sb q.text,i6 q.at_,i6 q.now.kind,i6 q.now.at_,i6 q.now.n,sb q.now.text,L,M,P] 109]:=H.back [0,1,2,3] [4,5] rfl a6
  refine ⟨_,rfl,?_⟩
  refine yP rfl (yL (vs:=[i6 y.Kind,sb y.Name,sb y.Other,i6 y.Op,i6 y.N,i6 y.Frames,K]) H 4 rfl fZ rfl rfl rfl ⟨rfl,rfl,rfl,rfl,rfl,rfl,(xY (H.item (i:=5) rfl)),trivial⟩ rfl) ?_
  rintro dl H
  refine RN a3 ?_
  obtain rfl:=gI d
  refine (zW (zV (jV rfl rfl (yN eG fZ rfl (Hbc H 4 rfl)) ?_)))
  exact ⟨K,L,M,P,rfl,H.pick [5,6,7,8,9]⟩
 have d:=zQ J d
 refine zX (zF (az _ _ ?_))
 refine zB fun dm a7=>zA<| Ld pU H 6 0 rfl rfl<| zG (zN rfl)<| zG (dX rfl)<| zG (sJ rfl)<| Ld bF H 3 5 rfl rfl<| zI (sb h.now.text)<| RN a7<| zB fun dn a8=>zA<| Ld pU H 6 0 rfl rfl ?_
 obtain ⟨l,a9,d⟩:=zC d
 refine zZ rfl rfl (zS aGe rfl) (aOh (gB.mk h.text h.at_ (gW.mk h.now.kind h.now.at_ h.now.n h.now.text) (Rules.mk h.r.Phases h.r.Moves h.r.Rules)) k F G I _ a9 _ _ _ (H.enter [0,1,2,3] [5])) ?_
 rintro _ ba ⟨B,C,D,rfl,bb⟩
 have H:Hd _ _ ba _ [.fz (.at 0 0 ((Fl.arr 7 Fl.str).f zM)),.fz (.gi 4),.blk u [gV k] 105,.blk v [i6 o] 3,.blk A [i6 0,.string (bs []),.string (bs []),i6 0,i6 0,i6 0,.slice none 0 0] 70,.own Rp.str B 9 l.r.Phases,.own gX C 122 l.r.Moves,.own fB D 95 l.r.Rules,.blk k [sb l.text,i6 l.at_,i6 l.now.kind,i6 l.now.at_,i6 l.now.n,sb l.now.text,B,C,D] 109]:=H.back [0,1,2,3] [5] rfl bb
 refine ⟨_,rfl,?_⟩
 refine RN a8<| zB fun dp bc=>zA<| zG (dV rfl)<| zI (.func (.func 218) #[] #[gV u,gV v])<| RN bc<| zB fun dq bd=>zB fun dr be=>zA<| zH (sb h.now.text)<| RN be<| yD<| zB fun ds bf=>zA ?_
 obtain ⟨ah,bg,d⟩:=zD d
 refine zG (zL (wB (s1:=h.now.text) (s2:=[116,114,117,101]) rfl rfl) bg)<| zI (.bool ah)<| RN bf<| zY (b:=ah) rfl (fun Q=>?_) (fun Q=>?_)
 ·have d:=zO Q d
  refine zB fun dt bh=>zA<| zG (xJ (cs:=[i6 1,.string (bs []),.string (bs []),i6 0,i6 0,i6 0,.slice none 0 0]) (bt70_0 _))<| yP rfl (yL (vs:=[i6 1,.string (bs []),.string (bs []),i6 0,i6 0,i6 0,.slice none 0 0]) H 4 rfl fZ rfl rfl rfl ⟨rfl,rfl,rfl,rfl,rfl,rfl,rfl,trivial⟩ rfl) ?_
  rintro du H
  refine RN bh ?_
  have H:=H.fz (.sl fA (.slice none 0 0) []) SlF.nil
  obtain rfl:=gI d
  refine (zW (yE (zV (jV rfl rfl (yN eG fZ rfl (Hbc H 4 rfl)) ?_))))
  exact ⟨.slice none 0 0,B,C,D,rfl,H.pick [9,5,6,7,8]⟩
 have d:=zQ Q d
 refine zB fun dv bi=>zA ?_
 obtain ⟨bj,bk,d⟩:=zD d
 refine zG (zL (wB (s1:=h.now.text) (s2:=[102,97,108,115,101]) rfl rfl) bk)<| zI (.bool bj)<| RN bi ?_
 obtain ⟨bl,d⟩:=xX d
 refine dB bl ?_
 refine zB fun dw bm=>zA ?_
 obtain ⟨bn,bo,d⟩:=zD d
 refine zG (zL (wB (s1:=h.now.text) (s2:=[115,116,101,97,100,121]) rfl rfl) bo)<| zI (.bool bn)<| RN bm ?_
 obtain ⟨bp,d⟩:=xX d
 refine dB bp ?_
 refine zB fun dx bq=>zA ?_
 obtain ⟨br,bt,d⟩:=zD d
 refine zG (zL (wB (s1:=h.now.text) (s2:=[112,104,97,115,101]) rfl rfl) bt)<| zI (.bool br)<| RN bq ?_
 obtain ⟨bu,d⟩:=xX d
 refine dB bu ?_
 refine zB fun dy bv=>zA ?_
 obtain ⟨bw,bx,d⟩:=zD d
 refine zG (zL (wB (s1:=h.now.text) (s2:=[114,117,108,101]) rfl rfl) bx)<| zI (.bool bw)<| RN bv ?_
 obtain ⟨bz,d⟩:=xX d
 refine dB bz ?_
 refine zB fun dz b0=>zA ?_
 obtain ⟨ai,b1,d⟩:=zD d
 refine zG (zL (wB (s1:=h.now.text) (s2:=[110,111,116]) rfl rfl) b1)<| zI (.bool ai)<| RN b0<| zY (b:=ai) rfl (fun R=>?_) (fun R=>?_)
 ·have d:=zO R d
  refine zB fun d0 b2=>zA<| zH (.func (.func 218) #[] #[gV u,gV v]) ?_
  obtain ⟨⟨b3,s⟩,b4,d⟩:=zC d
  refine zZ rfl rfl (bQ en218 rfl rfl) (Ffmw rfA rhA 1 l o u k B C D v _ b4 _ _ _ (H.enter [5,6,7,8,2,3] [0,1])) ?_
  rintro _ b5 ⟨E,T,U,V,rfl,b6⟩
  have H:Hd _ _ b5 _ [.fz (.at 0 0 ((Fl.arr 7 Fl.str).f zM)),.fz (.gi 4),.blk A [i6 0,.string (bs []),.string (bs []),i6 0,i6 0,i6 0,.slice none 0 0] 70,.own fA E 70 b3,.own Rp.str T 9 s.r.Phases,.own gX U 122 s.r.Moves,.own fB V 95 s.r.Rules,.blk k [sb s.text,i6 s.at_,i6 s.now.kind,i6 s.now.at_,i6 s.now.n,sb s.now.text,T,U,V] 109,.blk u [gV k] 105,.blk v [i6 o] 3]:=H.back [5,6,7,8,2,3] [0,1] rfl b6
  refine ⟨_,rfl,?_⟩
  obtain ⟨b7,b8,b9⟩: ∃a c,E= .slice a _ c:=Sr.len (Sr.of_own (H.item (i:=3) rfl))
  refine zG (xJ (cs:=[i6 8,.string (bs []),.string (bs []),i6 0,i6 0,i6 0,E]) (by rw [b9]; exact aEh _ b7 _ b8))<| yP rfl (yL (vs:=[i6 8,.string (bs []),.string (bs []),i6 0,i6 0,i6 0,E]) H 2 rfl fZ rfl rfl rfl ⟨rfl,rfl,rfl,rfl,rfl,rfl,(bC (H.item (i:=3) rfl)),trivial⟩ rfl) ?_
  rintro d1 H
  refine RN b2 ?_
  have H:=H.freeze (i:=3) rfl
  obtain rfl:=gI d
  refine (zW (yE (zV (jV rfl rfl (yN eG fZ rfl (Hbc H 2 rfl)) ?_))))
  exact ⟨E,T,U,V,rfl,H.pick [3,4,5,6,7]⟩
 have d:=zQ R d
 refine zB fun d2 ca=>zA ?_
 obtain ⟨cb,cc,d⟩:=zD d
 refine zG (zL (wB (s1:=h.now.text) (s2:=[102,111,114]) rfl rfl) cc)<| zI (.bool cb)<| RN ca ?_
 obtain ⟨cd,d⟩:=xX d
 refine dB cd ?_
 refine zB fun d3 ce=>zA ?_
 obtain ⟨cf,cg,d⟩:=zD d
 refine zG (zL (wB (s1:=h.now.text) (s2:=[119,105,116,104,105,110]) rfl rfl) cg)<| zI (.bool cf)<| RN ce ?_
 obtain ⟨ch,d⟩:=xX d
 refine dB ch ?_
 refine zB fun d4 ci=>zA ?_
 obtain ⟨cj,ck,d⟩:=zD d
 refine zG (zL (wB (s1:=h.now.text) (s2:=[99,111,117,110,116]) rfl rfl) ck)<| zI (.bool cj)<| RN ci ?_
 obtain ⟨cl,d⟩:=xX d
 refine dB cl ?_
 refine zB fun d5 cm=>zA ?_
 obtain ⟨cn,co,d⟩:=zD d
 refine zG (zL (wB (s1:=h.now.text) (s2:=[114,105,115,101,115]) rfl rfl) co)<| zI (.bool cn)<| RN cm ?_
 obtain ⟨cp,d⟩:=xX d
 refine dB cp ?_
 refine zB fun d6 cq=>zA ?_
 obtain ⟨cr,ct,d⟩:=zD d
 refine zG (zL (wB (s1:=h.now.text) (s2:=[115,105,110,99,101]) rfl rfl) ct)<| zI (.bool cr)<| RN cq ?_
 obtain ⟨cu,d⟩:=xX d
 refine dB cu ?_
 refine (zX (yH (zF (bd _ _ ?_))))
 refine zB fun d7 cv=>zA<| Ld pU H 2 0 rfl rfl<| Ld fM H 3 0 rfl rfl ?_
 obtain ⟨cw,cx,d⟩:=zD d
 refine zG (xM (a:=o) (b:=1) rfl rfl cx) ?_
 obtain ⟨⟨j,m⟩,cy,d⟩:=zC d
 refine zZ rfl rfl (zS en124 rfl) (rhB (gB.mk l.text l.at_ (gW.mk l.now.kind l.now.at_ l.now.n l.now.text) (Rules.mk l.r.Phases l.r.Moves l.r.Rules)) cw k B C D _ cy _ _ _ (H.enter [5,6,7,8] [0,1])) ?_
 rintro _ cz ⟨z,X,Y,Z,rfl,c0⟩
 have H:Hd _ _ cz _ [.fz (.at 0 0 ((Fl.arr 7 Fl.str).f zM)),.fz (.gi 4),.blk u [gV k] 105,.blk v [i6 o] 3,.blk A [i6 0,.string (bs []),.string (bs []),i6 0,i6 0,i6 0,.slice none 0 0] 70,f1 fA z j.Kids,.own Rp.str X 9 m.r.Phases,.own gX Y 122 m.r.Moves,.own fB Z 95 m.r.Rules,.blk k [sb m.text,i6 m.at_,i6 m.now.kind,i6 m.now.at_,i6 m.now.n,sb m.now.text,X,Y,Z] 109]:=H.back [5,6,7,8] [0,1] rfl c0
 refine ⟨_,rfl,?_⟩
 refine yQ rfl rfl (xA aB H) ?_
 rintro _ d8 ⟨c1,rfl,H⟩
 refine yP rfl (yL (vs:=[i6 j.Kind,sb j.Name,sb j.Other,i6 j.Op,i6 j.N,i6 j.Frames,z]) H 10 rfl fZ rfl rfl rfl ⟨rfl,rfl,rfl,rfl,rfl,rfl,(xY (H.item (i:=5) rfl)),trivial⟩ rfl) ?_
 rintro d9 H
 refine RN cv<| zB fun ea c2=>zA<| Ld pU H 2 0 rfl rfl ?_
 obtain ⟨t,c3,d⟩:=zC d
 refine zZ rfl rfl (zS en123 rfl) (Fd7w (gB.mk m.text m.at_ (gW.mk m.now.kind m.now.at_ m.now.n m.now.text) (Rules.mk m.r.Phases m.r.Moves m.r.Rules)) [41] k X Y Z _ c3 _ _ _ (H.enter [6,7,8,9] [1])) ?_
 rintro _ c4 ⟨aa,ab,ac,rfl,c5⟩
 have H:Hd _ _ c4 _ [.fz (.at 0 0 ((Fl.arr 7 Fl.str).f zM)),.fz (.gi 4),.blk u [gV k] 105,.blk v [i6 o] 3,.blk A [i6 0,.string (bs []),.string (bs []),i6 0,i6 0,i6 0,.slice none 0 0] 70,f1 fA z j.Kids,.blk c1 [i6 j.Kind,sb j.Name,sb j.Other,i6 j.Op,i6 j.N,i6 j.Frames,z] 70,.own Rp.str aa 9 t.r.Phases,.own gX ab 122 t.r.Moves,.own fB ac 95 t.r.Rules,.blk k [sb t.text,i6 t.at_,i6 t.now.kind,i6 t.now.at_,i6 t.now.n,sb t.now.text,aa,ab,ac] 109]:=H.back [6,7,8,9] [1] rfl c5
 refine ⟨_,rfl,?_⟩
 refine RN c2<| zB fun eb c6=>zA<| zG (yJ (yF (cs:=[i6 j.Kind,sb j.Name,sb j.Other,i6 j.Op,i6 j.N,i6 j.Frames,z]) eG rfl fZ rfl (Hbc H 6 rfl)) rfl)<| yP rfl (yL (vs:=[i6 j.Kind,sb j.Name,sb j.Other,i6 j.Op,i6 j.N,i6 j.Frames,z]) H 4 rfl fZ rfl rfl rfl ⟨rfl,rfl,rfl,rfl,rfl,rfl,(xY (H.item (i:=5) rfl)),trivial⟩ rfl) ?_
 rintro ec H
 refine RN c6 ?_
 obtain rfl:=gI d
 refine (zW (jV rfl rfl (yN eG fZ rfl (Hbc H 4 rfl)) ?_))
 exact ⟨z,aa,ab,ac,rfl,H.pick [5,7,8,9,10]⟩
theorem Fgk (rfB:gB→Int→Option (Cond×gB))(rhB:Fao rfB):Fc5 (Fgd rfB):=by
 have h: ∀n,Fc5 (Fdo rfB n):=by
  intro n
  induction n with
  | zero=>intro b c d e f i r a; cases a
  | succ n ih=>intro b c d e f i r a; exact Fe9w rfB rhB (Fdo rfB n) ih b c d e f i r a
 exact h FU
theorem Felw (rfB:gB→Int→Option (Cond×gB))(rhB:Fao rfB)(a:gB)(h:Int)(j:Nat)(c:Nat)(m:Value)(o:Value)(p:Value)(k:Nat)(r:Cond×gB)(l:Fel rfB a h=some r)(O S:List Nat)(w:World)(H:Hd O w w S [.own Rp.str m 9 a.r.Phases,.own gX o 122 a.r.Moves,.own fB p 95 a.r.Rules,.blk c [sb a.text,i6 a.at_,i6 a.now.kind,i6 a.now.at_,i6 a.now.n,sb a.now.text,m,o,p] 109,.blk j [gV c] 105,.blk k [i6 h] 3,.fz (.at 0 0 ((Fl.arr 7 Fl.str).f zM)),.fz (.gi 4)]):
  Cl 180 [gV j,gV k] w fun e A=> ∃v x y z,e= .returned (.agg [i6 r.1.Kind,sb r.1.Name,sb r.1.Other,i6 r.1.Op,i6 r.1.N,i6 r.1.Frames,v].toArray)∧Hd O w A S [f1 fA v r.1.Kids,.own Rp.str x 9 r.2.r.Phases,.own gX y 122 r.2.r.Moves,.own fB z 95 r.2.r.Rules,.blk c [sb r.2.text,i6 r.2.at_,i6 r.2.now.kind,i6 r.2.now.at_,i6 r.2.now.n,sb r.2.now.text,x,y,z] 109,.blk j [gV c] 105,.blk k [i6 h] 3]:=by
 unfold Fel at l
 refine CW 6 Tryz.func180 ?_
 refine zB fun I B=>zA<| yQ rfl rfl (xA aB H) ?_
 rintro _ J ⟨C,rfl,H⟩
 refine RN B<| zB fun K D=>zA<| Ld pU H 4 0 rfl rfl<| Ld fM H 5 0 rfl rfl ?_
 obtain ⟨⟨d,b⟩,E,l⟩:=zC l
 refine zZ rfl rfl (zS en181 rfl) (Fgk rfB rhB (gB.mk a.text a.at_ (gW.mk a.now.kind a.now.at_ a.now.n a.now.text) (Rules.mk a.r.Phases a.r.Moves a.r.Rules)) h c m o p _ E _ _ _ (H.enter [0,1,2,3] [6,7])) ?_
 rintro _ F ⟨q,s,t,u,rfl,G⟩
 have H:Hd _ _ F _ [.blk j [gV c] 105,.blk k [i6 h] 3,.fz (.at 0 0 ((Fl.arr 7 Fl.str).f zM)),.fz (.gi 4),.blk C [i6 0,.string (bs []),.string (bs []),i6 0,i6 0,i6 0,.slice none 0 0] 70,f1 fA q d.Kids,.own Rp.str s 9 b.r.Phases,.own gX t 122 b.r.Moves,.own fB u 95 b.r.Rules,.blk c [sb b.text,i6 b.at_,i6 b.now.kind,i6 b.now.at_,i6 b.now.n,sb b.now.text,s,t,u] 109]:=H.back [0,1,2,3] [6,7] rfl G
 refine ⟨_,rfl,?_⟩
 refine yP rfl (yL (vs:=[i6 d.Kind,sb d.Name,sb d.Other,i6 d.Op,i6 d.N,i6 d.Frames,q]) H 4 rfl fZ rfl rfl rfl ⟨rfl,rfl,rfl,rfl,rfl,rfl,(xY (H.item (i:=5) rfl)),trivial⟩ rfl) ?_
 rintro L H
 refine RN D ?_
 obtain rfl:=gI l
 refine (zW (jV rfl rfl (yN eG fZ rfl (Hbc H 4 rfl)) ?_))
 exact ⟨q,s,t,u,rfl,H.pick [5,6,7,8,9,0,1]⟩
theorem Fefw (rfB:gB→Int→Option (Cond×gB))(rhB:Fao rfB)(l:gB)(u:Str)(E:Int)(p3c1:Int)(j:Nat)(z:Value)(A:Value)(B:Value)(m:Nat)(o:Nat)(r:Cond×gB)(c:Fef rfB l u E p3c1=some r)(O S:List Nat)(w:World)(H:Hd O w w S [.own Rp.str z 9 l.r.Phases,.own gX A 122 l.r.Moves,.own fB B 95 l.r.Rules,.blk j [sb l.text,i6 l.at_,i6 l.now.kind,i6 l.now.at_,i6 l.now.n,sb l.now.text,z,A,B] 109,.blk m [gV j] 105,.blk o [i6 p3c1] 3,.fz (.at 0 0 ((Fl.arr 7 Fl.str).f zM)),.fz (.gi 4)]):
  Cl 178 [gV j,sb u,i6 E,.func (.func 180) #[] #[gV m,gV o]] w fun e L=> ∃F G I J,e= .returned (.agg [i6 r.1.Kind,sb r.1.Name,sb r.1.Other,i6 r.1.Op,i6 r.1.N,i6 r.1.Frames,F].toArray)∧Hd O w L S [f1 fA F r.1.Kids,.own Rp.str G 9 r.2.r.Phases,.own gX I 122 r.2.r.Moves,.own fB J 95 r.2.r.Rules,.blk j [sb r.2.text,i6 r.2.at_,i6 r.2.now.kind,i6 r.2.now.at_,i6 r.2.now.n,sb r.2.now.text,G,I,J] 109,.blk m [gV j] 105,.blk o [i6 p3c1] 3]:=by
 unfold Fef at c
 refine CW 32 Tryz.func178 ?_
 refine zB fun aq M=>zA<| yQ rfl rfl (xA aB H) ?_
 rintro _ ar ⟨C,rfl,H⟩
 refine RN M<| zB fun au P=>zA<| zH (.func (.func 180) #[] #[gV m,gV o]) ?_
 obtain ⟨⟨h,d⟩,Q,c⟩:=zC c
 refine zZ rfl rfl (bQ en180 rfl rfl) (Felw rfB rhB l p3c1 m j z A B o _ Q _ _ _ (H.enter [0,1,2,3,4,5] [6,7])) ?_
 rintro _ R ⟨v,p,q,s,rfl,T⟩
 have H:Hd _ _ R _ [.fz (.at 0 0 ((Fl.arr 7 Fl.str).f zM)),.fz (.gi 4),.blk C [i6 0,.string (bs []),.string (bs []),i6 0,i6 0,i6 0,.slice none 0 0] 70,f1 fA v h.Kids,.own Rp.str p 9 d.r.Phases,.own gX q 122 d.r.Moves,.own fB s 95 d.r.Rules,.blk j [sb d.text,i6 d.at_,i6 d.now.kind,i6 d.now.at_,i6 d.now.n,sb d.now.text,p,q,s] 109,.blk m [gV j] 105,.blk o [i6 p3c1] 3]:=H.back [0,1,2,3,4,5] [6,7] rfl T
 refine ⟨_,rfl,?_⟩
 obtain ⟨av,U,c⟩:=zD c
 subst U
 refine yQ rfl rfl (aX (r:=fA) (xl:=[h]) (cs:=[i6 h.Kind,sb h.Name,sb h.Other,i6 h.Op,i6 h.N,i6 h.Frames,v]) u68 aIw (by decide) (by decide) rfl (xH (vs:=[.agg [i6 h.Kind,sb h.Name,sb h.Other,i6 h.Op,i6 h.N,i6 h.Frames,v].toArray]) (by decide) rfl rfl ⟨rfl,trivial⟩ rfl) H ⟨[i6 h.Kind,sb h.Name,sb h.Other,i6 h.Op,i6 h.N,i6 h.Frames,v],[],rfl,(qA (x:=h) (H.item (i:=3) rfl)),rfl⟩) ?_
 rintro t aw H
 refine zI t<| RN P ?_
 obtain ⟨V,c,X⟩:=zC c
 refine yK [9,13,14,15,16,17,18,19,20,21,22] (fun (g:Unit)=>[(9,t)]) (fun g wl=>Hd O w wl S [.own fA t 70 ([h]:List Cond),.fz (.at 0 0 ((Fl.arr 7 Fl.str).f zM)),.fz (.gi 4),.blk C [i6 0,.string (bs []),.string (bs []),i6 0,i6 0,i6 0,.slice none 0 0] 70,.own Rp.str p 9 d.r.Phases,.own gX q 122 d.r.Moves,.own fB s 95 d.r.Rules,.blk j [sb d.text,i6 d.at_,i6 d.now.kind,i6 d.now.at_,i6 d.now.n,sb d.now.text,p,q,s] 109,.blk m [gV j] 105,.blk o [i6 p3c1] 3]) ?_ ?_
 ·skip
  refine yD ?_
  unfold Fgh at c
  obtain ⟨Y,K,Z,c⟩:=yT c
  refine xB [9,13,14,15,16,17,18,19,20,21,22] (fun (g:Nat)=>[(9,t)]) (fun g wl=>Hd O w wl S [.own fA t 70 ([h]:List Cond),.fz (.at 0 0 ((Fl.arr 7 Fl.str).f zM)),.fz (.gi 4),.blk C [i6 0,.string (bs []),.string (bs []),i6 0,i6 0,i6 0,.slice none 0 0] 70,.own Rp.str p 9 d.r.Phases,.own gX q 122 d.r.Moves,.own fB s 95 d.r.Rules,.blk j [sb d.text,i6 d.at_,i6 d.now.kind,i6 d.now.at_,i6 d.now.n,sb d.now.text,p,q,s] 109,.blk m [gV j] 105,.blk o [i6 p3c1] 3]∧fV Y g ()=some V) (fun g=>g) K (zJ rfl zK) ⟨H.pick [10,0,1,2,4,5,6,7,8,9],c⟩ ?_
  clear H c
  rintro K ρ ax ⟨H,c⟩
  obtain ⟨ay,rfl,c⟩:=yZ c
  have c:=yY Z c
  refine zB fun az a0=>?_
  refine zB fun a1 aa=>zA<| zH (gV j)<| zH (sb u) ?_
  have ab:=H
  have H:=H.freezeB (i:=7) rfl
  have H:=H.freeze (i:=4) rfl
  have H:=H.freeze (i:=5) rfl
  have H:=H.freeze (i:=6) rfl
  have H:=H.fz (.pt dM (some ⟨j,0,none⟩) (some d)) ⟨_,_,_,rfl,(H.item (i:=7) rfl).1,(H.item (i:=7) rfl).2.1,(bG (x:=d) (H.item (i:=4) rfl) (H.item (i:=5) rfl) (H.item (i:=6) rfl)),(H.item (i:=7) rfl).2.2⟩
  obtain ⟨a2,ac,c⟩:=zC c
  refine zZ rfl rfl (zS aFn rfl) (aPg (some d) u (some ⟨j,0,none⟩) _ ac _ _ _ (H.enter [] [10])) ?_
  rintro _ a3 ⟨rfl,ad⟩
  have H:=ab.step (ad.only:Only [] _ _)
  refine ⟨_,rfl,?_⟩
  refine RN aa ?_
  obtain ⟨ae,c⟩:=xX c
  refine dB ae ?_
  obtain rfl:=gI c
  exact (xI (yI (yI (yV (zF (meet ⟨(),(zJ rfl zK),H.pick [0,1,2,3,4,5,6,7,8,9]⟩))))))
 rintro _ ρ a4 H
 have c:=X
 refine zB fun a5 a6=>?_
 refine zB fun a7 af=>zA<| zH t ?_
 obtain ⟨ag,ah,c⟩:=zD c
 obtain ⟨a8,a9,ai⟩:=Sr.len (Sr.of_own (H.item (i:=0) rfl))
 refine zG (yJ (xO u68 ai) (congrArg (Value.int .i64) ah)) ?_
 obtain ⟨ba,aj,c⟩:=zD c
 refine zG (zL (yR (a:=ag) (b:=1) rfl rfl) aj)<| RN af ?_
 obtain ⟨ak,c⟩:=mV c
 refine aFc ak ?_
 refine zB fun bb al=>zA<| zH t ?_
 obtain ⟨k,D,c⟩:=zC c
 obtain ⟨bc,bd,be,am,an,ao⟩:=jD (H.item (i:=0) rfl) D
 obtain ⟨y,rfl,ap⟩:=cO an
 have H:=H.fzs [.sl fA y k.Kids] ⟨ap,trivial⟩
 refine zG (xC u68 fZ am rfl (yC D).1 (yC D).2.1 rfl rfl)<| zG (yJ (yF (cs:=[i6 k.Kind,sb k.Name,sb k.Other,i6 k.Op,i6 k.N,i6 k.Frames,y]) eG rfl fZ rfl ao) rfl)<| yP rfl (yL (vs:=[i6 k.Kind,sb k.Name,sb k.Other,i6 k.Op,i6 k.N,i6 k.Frames,y]) H 3 rfl fZ rfl rfl rfl ⟨rfl,rfl,rfl,rfl,rfl,rfl,(xY (H.item (i:=10) rfl)),trivial⟩ rfl) ?_
 rintro bf H
 refine RN al ?_
 obtain rfl:=gI c
 refine (zW (zV (jV rfl rfl (yN eG fZ rfl (Hbc H 3 rfl)) ?_)))
 exact ⟨y,p,q,s,rfl,H.pick [10,4,5,6,7,8,9]⟩
theorem Fc9w (rfB:gB→Int→Option (Cond×gB))(rhB:Fao rfB)(a:gB)(h:Int)(j:Nat)(c:Nat)(m:Value)(o:Value)(p:Value)(k:Nat)(r:Cond×gB)(l:Fc9 rfB a h=some r)(O S:List Nat)(w:World)(H:Hd O w w S [.own Rp.str m 9 a.r.Phases,.own gX o 122 a.r.Moves,.own fB p 95 a.r.Rules,.blk c [sb a.text,i6 a.at_,i6 a.now.kind,i6 a.now.at_,i6 a.now.n,sb a.now.text,m,o,p] 109,.blk j [gV c] 105,.blk k [i6 h] 3,.fz (.at 0 0 ((Fl.arr 7 Fl.str).f zM)),.fz (.gi 4)]):
  Cl 179 [gV j,gV k] w fun e A=> ∃v x y z,e= .returned (.agg [i6 r.1.Kind,sb r.1.Name,sb r.1.Other,i6 r.1.Op,i6 r.1.N,i6 r.1.Frames,v].toArray)∧Hd O w A S [f1 fA v r.1.Kids,.own Rp.str x 9 r.2.r.Phases,.own gX y 122 r.2.r.Moves,.own fB z 95 r.2.r.Rules,.blk c [sb r.2.text,i6 r.2.at_,i6 r.2.now.kind,i6 r.2.now.at_,i6 r.2.now.n,sb r.2.now.text,x,y,z] 109,.blk j [gV c] 105,.blk k [i6 h] 3]:=by
 unfold Fc9 at l
 refine CW 6 Tryz.func179 ?_
 refine zB fun I B=>zA<| yQ rfl rfl (xA aB H) ?_
 rintro _ J ⟨C,rfl,H⟩
 refine RN B<| zB fun K D=>zA<| Ld pU H 4 0 rfl rfl<| zG (dV rfl) ?_
 obtain ⟨⟨d,b⟩,E,l⟩:=zC l
 refine zZ rfl rfl (zS en178 rfl) (Fefw rfB rhB (gB.mk a.text a.at_ (gW.mk a.now.kind a.now.at_ a.now.n a.now.text) (Rules.mk a.r.Phases a.r.Moves a.r.Rules)) [97,110,100] 9 h c m o p j k _ E _ _ _ (H.enter [0,1,2,3,4,5] [6,7])) ?_
 rintro _ F ⟨q,s,t,u,rfl,G⟩
 have H:Hd _ _ F _ [.fz (.at 0 0 ((Fl.arr 7 Fl.str).f zM)),.fz (.gi 4),.blk C [i6 0,.string (bs []),.string (bs []),i6 0,i6 0,i6 0,.slice none 0 0] 70,f1 fA q d.Kids,.own Rp.str s 9 b.r.Phases,.own gX t 122 b.r.Moves,.own fB u 95 b.r.Rules,.blk c [sb b.text,i6 b.at_,i6 b.now.kind,i6 b.now.at_,i6 b.now.n,sb b.now.text,s,t,u] 109,.blk j [gV c] 105,.blk k [i6 h] 3]:=H.back [0,1,2,3,4,5] [6,7] rfl G
 refine ⟨_,rfl,?_⟩
 refine yP rfl (yL (vs:=[i6 d.Kind,sb d.Name,sb d.Other,i6 d.Op,i6 d.N,i6 d.Frames,q]) H 2 rfl fZ rfl rfl rfl ⟨rfl,rfl,rfl,rfl,rfl,rfl,(xY (H.item (i:=3) rfl)),trivial⟩ rfl) ?_
 rintro L H
 refine RN D ?_
 obtain rfl:=gI l
 refine (zW (jV rfl rfl (yN eG fZ rfl (Hbc H 2 rfl)) ?_))
 exact ⟨q,s,t,u,rfl,H.pick [3,4,5,6,7,8,9]⟩
theorem Fe6w (rfB:gB→Int→Option (Cond×gB))(rhB:Fao rfB)(t:gB)(A:Str)(y:Int)(p3c1:Int)(h:Nat)(R:Value)(T:Value)(U:Value)(p:Nat)(q:Nat)(r:Cond×gB)(d:Fe6 rfB t A y p3c1=some r)(O S:List Nat)(w:World)(H:Hd O w w S [.own Rp.str R 9 t.r.Phases,.own gX T 122 t.r.Moves,.own fB U 95 t.r.Rules,.blk h [sb t.text,i6 t.at_,i6 t.now.kind,i6 t.now.at_,i6 t.now.n,sb t.now.text,R,T,U] 109,.blk p [gV h] 105,.blk q [i6 p3c1] 3,.fz (.at 0 0 ((Fl.arr 7 Fl.str).f zM)),.fz (.gi 4)]):
  Cl 178 [gV h,sb A,i6 y,.func (.func 179) #[] #[gV p,gV q]] w fun e w'=> ∃ai aj ak al,e= .returned (.agg [i6 r.1.Kind,sb r.1.Name,sb r.1.Other,i6 r.1.Op,i6 r.1.N,i6 r.1.Frames,ai].toArray)∧Hd O w w' S [f1 fA ai r.1.Kids,.own Rp.str aj 9 r.2.r.Phases,.own gX ak 122 r.2.r.Moves,.own fB al 95 r.2.r.Rules,.blk h [sb r.2.text,i6 r.2.at_,i6 r.2.now.kind,i6 r.2.now.at_,i6 r.2.now.n,sb r.2.now.text,aj,ak,al] 109,.blk p [gV h] 105,.blk q [i6 p3c1] 3]:=by
 unfold Fe6 at d
 refine CW 32 Tryz.func178 ?_
 refine zB fun b7 az=>zA<| yQ rfl rfl (xA aB H) ?_
 rintro _ b8 ⟨z,rfl,H⟩
 refine RN az<| zB fun b9 a0=>zA<| zH (.func (.func 179) #[] #[gV p,gV q]) ?_
 obtain ⟨⟨j,l⟩,a1,d⟩:=zC d
 refine zZ rfl rfl (bQ en179 rfl rfl) (Fc9w rfB rhB t p3c1 p h R T U q _ a1 _ _ _ (H.enter [0,1,2,3,4,5] [6,7])) ?_
 rintro _ a2 ⟨B,V,X,Y,rfl,a3⟩
 have H:Hd _ _ a2 _ [.fz (.at 0 0 ((Fl.arr 7 Fl.str).f zM)),.fz (.gi 4),.blk z [i6 0,.string (bs []),.string (bs []),i6 0,i6 0,i6 0,.slice none 0 0] 70,f1 fA B j.Kids,.own Rp.str V 9 l.r.Phases,.own gX X 122 l.r.Moves,.own fB Y 95 l.r.Rules,.blk h [sb l.text,i6 l.at_,i6 l.now.kind,i6 l.now.at_,i6 l.now.n,sb l.now.text,V,X,Y] 109,.blk p [gV h] 105,.blk q [i6 p3c1] 3]:=H.back [0,1,2,3,4,5] [6,7] rfl a3
 refine ⟨_,rfl,?_⟩
 obtain ⟨ca,a4,d⟩:=zD d
 subst a4
 refine yQ rfl rfl (aX (r:=fA) (xl:=[j]) (cs:=[i6 j.Kind,sb j.Name,sb j.Other,i6 j.Op,i6 j.N,i6 j.Frames,B]) u68 aIw (by decide) (by decide) rfl (xH (vs:=[.agg [i6 j.Kind,sb j.Name,sb j.Other,i6 j.Op,i6 j.N,i6 j.Frames,B].toArray]) (by decide) rfl rfl ⟨rfl,trivial⟩ rfl) H ⟨[i6 j.Kind,sb j.Name,sb j.Other,i6 j.Op,i6 j.N,i6 j.Frames,B],[],rfl,(qA (x:=j) (H.item (i:=3) rfl)),rfl⟩) ?_
 rintro am cb H
 refine zI am<| RN a0 ?_
 obtain ⟨s,d,a5⟩:=zC d
 refine yK [9,13,14,15,16,17,18,19,20,21,22] (fun (g:Value×Value×Value×Value)=>[(9,g.1)]) (fun g wl=>Hd O w wl S [.own fA g.1 70 s.1,.fz (.at 0 0 ((Fl.arr 7 Fl.str).f zM)),.fz (.gi 4),.blk z [i6 0,.string (bs []),.string (bs []),i6 0,i6 0,i6 0,.slice none 0 0] 70,.blk h [sb s.2.1,i6 s.2.2.1,i6 s.2.2.2.1,i6 s.2.2.2.2.1,i6 s.2.2.2.2.2.1,sb s.2.2.2.2.2.2.1,g.2.1,g.2.2.1,g.2.2.2] 109,.own Rp.str g.2.1 9 s.2.2.2.2.2.2.2.1,.own gX g.2.2.1 122 s.2.2.2.2.2.2.2.2.1,.own fB g.2.2.2 95 s.2.2.2.2.2.2.2.2.2,.blk p [gV h] 105,.blk q [i6 p3c1] 3]) ?_ ?_
 ·skip
  refine yD ?_
  unfold Ff5 at d
  obtain ⟨a6,an,a7,d⟩:=yT d
  refine xB [9,13,14,15,16,17,18,19,20,21,22] (fun (g:Nat×(List Cond)×Str×Int×Int×Int×Int×Str×(List Str)×(List aF)×(List dH)×Value×Value×Value×Value)=>[(9,g.2.2.2.2.2.2.2.2.2.2.2.1)]) (fun g wl=>Hd O w wl S [.own fA g.2.2.2.2.2.2.2.2.2.2.2.1 70 g.2.1,.fz (.at 0 0 ((Fl.arr 7 Fl.str).f zM)),.fz (.gi 4),.blk z [i6 0,.string (bs []),.string (bs []),i6 0,i6 0,i6 0,.slice none 0 0] 70,.blk h [sb g.2.2.1,i6 g.2.2.2.1,i6 g.2.2.2.2.1,i6 g.2.2.2.2.2.1,i6 g.2.2.2.2.2.2.1,sb g.2.2.2.2.2.2.2.1,g.2.2.2.2.2.2.2.2.2.2.2.2.1,g.2.2.2.2.2.2.2.2.2.2.2.2.2.1,g.2.2.2.2.2.2.2.2.2.2.2.2.2.2] 109,.own Rp.str g.2.2.2.2.2.2.2.2.2.2.2.2.1 9 g.2.2.2.2.2.2.2.2.1,.own gX g.2.2.2.2.2.2.2.2.2.2.2.2.2.1 122 g.2.2.2.2.2.2.2.2.2.1,.own fB g.2.2.2.2.2.2.2.2.2.2.2.2.2.2 95 g.2.2.2.2.2.2.2.2.2.2.1,.blk p [gV h] 105,.blk q [i6 p3c1] 3]∧fV a6 g.1 (g.2.1,g.2.2.1,g.2.2.2.1,g.2.2.2.2.1,g.2.2.2.2.2.1,g.2.2.2.2.2.2.1,g.2.2.2.2.2.2.2.1,g.2.2.2.2.2.2.2.2.1,g.2.2.2.2.2.2.2.2.2.1,g.2.2.2.2.2.2.2.2.2.2.1)=some s) (fun g=>g.1) (an,([j]:List Cond),l.text,l.at_,l.now.kind,l.now.at_,l.now.n,l.now.text,l.r.Phases,l.r.Moves,l.r.Rules,am,V,X,Y) (zJ rfl zK) ⟨H.pick [10,0,1,2,7,4,5,6,8,9],d⟩ ?_
  clear H d
  rintro ⟨an,ao,C,D,E,F,G,I,J,K,L,M,ap,aq,ar⟩ ρ cc ⟨H,d⟩
  obtain ⟨a8,rfl,d⟩:=yZ d
  have d:=yY a7 d
  refine zB fun cd a9=>?_
  refine zB fun ce ba=>zA<| zH (gV h)<| zH (sb A) ?_
  have bb:=H
  have H:=H.freezeB (i:=4) rfl
  have H:=H.freeze (i:=5) rfl
  have H:=H.freeze (i:=6) rfl
  have H:=H.freeze (i:=7) rfl
  have H:=H.fz (.pt dM (some ⟨h,0,none⟩) (some (gB.mk C D (gW.mk E F G I) (Rules.mk J K L)))) ⟨_,_,_,rfl,(H.item (i:=4) rfl).1,(H.item (i:=4) rfl).2.1,(bG (x:=gB.mk C D (gW.mk E F G I) (Rules.mk J K L)) (H.item (i:=5) rfl) (H.item (i:=6) rfl) (H.item (i:=7) rfl)),(H.item (i:=4) rfl).2.2⟩
  obtain ⟨bc,bd,d⟩:=zC d
  refine zZ rfl rfl (zS aFn rfl) (aPg (some (gB.mk C D (gW.mk E F G I) (Rules.mk J K L))) A (some ⟨h,0,none⟩) _ bd _ _ _ (H.enter [] [10])) ?_
  rintro _ cf ⟨rfl,be⟩
  have H:=bb.step (be.only:Only [] _ _)
  refine ⟨_,rfl,?_⟩
  refine RN ba<| zY (b:=bc) rfl (fun Z=>?_) (fun Z=>?_)
  ·have d:=zO Z d
   refine zX (zF (a9 _ _ ?_))
   refine yD ?_
   refine zB fun cg bf=>zA<| zH (gV h) ?_
   obtain ⟨u,bg,d⟩:=zC d
   refine zZ rfl rfl (zS aGe rfl) (aOh (gB.mk C D (gW.mk E F G I) (Rules.mk J K L)) h ap aq ar _ bg _ _ _ (H.enter [5,6,7,4] [2])) ?_
   rintro _ bh ⟨aa,ab,ac,rfl,bi⟩
   have H:Hd _ _ bh _ [.own fA M 70 ao,.fz (.at 0 0 ((Fl.arr 7 Fl.str).f zM)),.fz (.gi 4),.blk z [i6 0,.string (bs []),.string (bs []),i6 0,i6 0,i6 0,.slice none 0 0] 70,.blk p [gV h] 105,.blk q [i6 p3c1] 3,.own Rp.str aa 9 u.r.Phases,.own gX ab 122 u.r.Moves,.own fB ac 95 u.r.Rules,.blk h [sb u.text,i6 u.at_,i6 u.now.kind,i6 u.now.at_,i6 u.now.n,sb u.now.text,aa,ab,ac] 109]:=H.back [5,6,7,4] [2] rfl bi
   refine ⟨_,rfl,?_⟩
   refine RN bf<| zA<| zH M<| zH (.func (.func 179) #[] #[gV p,gV q]) ?_
   obtain ⟨⟨k,m⟩,bj,d⟩:=zC d
   refine zZ rfl rfl (bQ en179 rfl rfl) (Fc9w rfB rhB u p3c1 p h aa ab ac q _ bj _ _ _ (H.enter [6,7,8,9,4,5] [1,2])) ?_
   rintro _ bk ⟨P,ad,ae,af,rfl,bl⟩
   have H:Hd _ _ bk _ [.own fA M 70 ao,.fz (.at 0 0 ((Fl.arr 7 Fl.str).f zM)),.fz (.gi 4),.blk z [i6 0,.string (bs []),.string (bs []),i6 0,i6 0,i6 0,.slice none 0 0] 70,f1 fA P k.Kids,.own Rp.str ad 9 m.r.Phases,.own gX ae 122 m.r.Moves,.own fB af 95 m.r.Rules,.blk h [sb m.text,i6 m.at_,i6 m.now.kind,i6 m.now.at_,i6 m.now.n,sb m.now.text,ad,ae,af] 109,.blk p [gV h] 105,.blk q [i6 p3c1] 3]:=H.back [6,7,8,9,4,5] [1,2] rfl bl
   refine ⟨_,rfl,?_⟩
   obtain ⟨ch,bm,d⟩:=zD d
   subst bm
   refine yQ rfl rfl (aX (r:=fA) (xl:=[k]) (cs:=[i6 k.Kind,sb k.Name,sb k.Other,i6 k.Op,i6 k.N,i6 k.Frames,P]) u68 aIw (by decide) (by decide) rfl (xH (vs:=[.agg [i6 k.Kind,sb k.Name,sb k.Other,i6 k.Op,i6 k.N,i6 k.Frames,P].toArray]) (by decide) rfl rfl ⟨rfl,trivial⟩ rfl) H ⟨[i6 k.Kind,sb k.Name,sb k.Other,i6 k.Op,i6 k.N,i6 k.Frames,P],[],rfl,(qA (x:=k) (H.item (i:=4) rfl)),rfl⟩) ?_
   rintro ci cj H
   obtain ⟨bn,bo,d⟩:=zC d
   refine yQ rfl rfl (aJ H (i:=0) rfl u68 aIw rfl rfl (Sr.of_own (H.item (i:=11) rfl)) bo) ?_
   rintro au ck H
   refine zI au ?_
   exact (yA (yH (zF (meet ⟨(a8,bn,m.text,m.at_,m.now.kind,m.now.at_,m.now.n,m.now.text,m.r.Phases,m.r.Moves,m.r.Rules,au,ad,ae,af),(zJ rfl zK),⟨H.pick [0,1,2,3,8,5,6,7,9,10],d⟩,Nat.lt_succ_self _⟩))))
  have d:=zQ Z d
  obtain rfl:=gI d
  exact (xI (yI (yI (yV (zF (meet ⟨(M,ap,aq,ar),(zJ rfl zK),H.pick [0,1,2,3,4,5,6,7,8,9]⟩))))))
 rintro ⟨v,av,aw,ax⟩ ρ cl H
 have d:=a5
 obtain ⟨cm,cn,co,cp,cq,cr,ct,cu,cv,cw⟩:=s
 refine zB fun cx bp=>?_
 refine zB fun cy bq=>zA<| zH v ?_
 obtain ⟨br,bt,d⟩:=zD d
 obtain ⟨cz,c0,bu⟩:=Sr.len (Sr.of_own (H.item (i:=0) rfl))
 refine zG (yJ (xO u68 bu) (congrArg (Value.int .i64) bt)) ?_
 obtain ⟨bv,bw,d⟩:=zD d
 refine zG (zL (yR (a:=br) (b:=1) rfl rfl) bw)<| RN bq<| zY (b:=bv) rfl (fun ag=>?_) (fun ag=>?_)
 ·have d:=zO ag d
  refine zB fun c1 bx=>zA<| zH v ?_
  obtain ⟨o,ah,d⟩:=zC d
  obtain ⟨c2,c3,c4,bz,b0,b1⟩:=jD (H.item (i:=0) rfl) ah
  obtain ⟨Q,rfl,b2⟩:=cO b0
  have H:=H.fzs [.sl fA Q o.Kids] ⟨b2,trivial⟩
  refine zG (xC u68 fZ bz rfl (yC ah).1 (yC ah).2.1 rfl rfl)<| zG (yJ (yF (cs:=[i6 o.Kind,sb o.Name,sb o.Other,i6 o.Op,i6 o.N,i6 o.Frames,Q]) eG rfl fZ rfl b1) rfl)<| yP rfl (yL (vs:=[i6 o.Kind,sb o.Name,sb o.Other,i6 o.Op,i6 o.N,i6 o.Frames,Q]) H 3 rfl fZ rfl rfl rfl ⟨rfl,rfl,rfl,rfl,rfl,rfl,(xY (H.item (i:=10) rfl)),trivial⟩ rfl) ?_
  rintro c5 H
  refine RN bx ?_
  obtain rfl:=gI d
  refine (zW (zV (jV rfl rfl (yN eG fZ rfl (Hbc H 3 rfl)) ?_)))
  exact ⟨Q,av,aw,ax,rfl,H.pick [10,5,6,7,4,8,9]⟩
 have d:=zQ ag d
 refine zX (zF (bp _ _ ?_))
 refine zB fun c6 b3=>zA<| zH (i6 y)<| zH v ?_
 obtain ⟨b4,b5,b6⟩: ∃a c,v= .slice a _ c:=Sr.len (Sr.of_own (H.item (i:=0) rfl))
 refine zG (xJ (cs:=[i6 y,.string (bs []),.string (bs []),i6 0,i6 0,i6 0,v]) (by rw [b6]; exact aEh _ b4 _ b5))<| yP rfl (yL (vs:=[i6 y,.string (bs []),.string (bs []),i6 0,i6 0,i6 0,v]) H 3 rfl fZ rfl rfl rfl ⟨rfl,rfl,rfl,rfl,rfl,rfl,(bC (H.item (i:=0) rfl)),trivial⟩ rfl) ?_
 rintro c7 H
 refine RN b3 ?_
 have H:=H.freeze (i:=0) rfl
 obtain rfl:=gI d
 refine (zW (jV rfl rfl (yN eG fZ rfl (Hbc H 3 rfl)) ?_))
 exact ⟨v,av,aw,ax,rfl,H.pick [0,5,6,7,4,8,9]⟩
theorem Fecw (rfB:gB→Int→Option (Cond×gB))(rhB:Fao rfB)(a:gB)(h:Int)(d:Nat)(k:Value)(l:Value)(m:Value)(r:Cond×gB)(j:Fec rfB a h=some r)(O S:List Nat)(w:World)(H:Hd O w w S [.own Rp.str k 9 a.r.Phases,.own gX l 122 a.r.Moves,.own fB m 95 a.r.Rules,.blk d [sb a.text,i6 a.at_,i6 a.now.kind,i6 a.now.at_,i6 a.now.n,sb a.now.text,k,l,m] 109,.fz (.at 0 0 ((Fl.arr 7 Fl.str).f zM)),.fz (.gi 4)]):
  Cl 124 [gV d,i6 h] w fun e A=> ∃t u v x,e= .returned (.agg [i6 r.1.Kind,sb r.1.Name,sb r.1.Other,i6 r.1.Op,i6 r.1.N,i6 r.1.Frames,t].toArray)∧Hd O w A S [f1 fA t r.1.Kids,.own Rp.str u 9 r.2.r.Phases,.own gX v 122 r.2.r.Moves,.own fB x 95 r.2.r.Rules,.blk d [sb r.2.text,i6 r.2.at_,i6 r.2.now.kind,i6 r.2.now.at_,i6 r.2.now.n,sb r.2.now.text,u,v,x] 109]:=by
 unfold Fec at j
 refine CW 8 Tryz.func124 ?_
 refine zB fun I B=>zA<| yQ rfl rfl (uZ rfl rfl H) ?_
 rintro _ J ⟨y,rfl,H⟩
 refine yQ rfl rfl (uZ rfl rfl H) ?_
 rintro _ K ⟨z,rfl,H⟩
 refine yQ rfl rfl (xA aB H) ?_
 rintro _ L ⟨C,rfl,H⟩
 refine RN B<| zB fun M D=>zA<| Ld pU H 6 0 rfl rfl<| zG (dV rfl) ?_
 obtain ⟨⟨c,b⟩,E,j⟩:=zC j
 refine zZ rfl rfl (zS en178 rfl) (Fe6w rfB rhB (gB.mk a.text a.at_ (gW.mk a.now.kind a.now.at_ a.now.n a.now.text) (Rules.mk a.r.Phases a.r.Moves a.r.Rules)) [111,114] 10 h d k l m y z _ E _ _ _ (H.enter [0,1,2,3,6,7] [4,5])) ?_
 rintro _ F ⟨o,p,q,s,rfl,G⟩
 have H:Hd _ _ F _ [.fz (.at 0 0 ((Fl.arr 7 Fl.str).f zM)),.fz (.gi 4),.blk C [i6 0,.string (bs []),.string (bs []),i6 0,i6 0,i6 0,.slice none 0 0] 70,f1 fA o c.Kids,.own Rp.str p 9 b.r.Phases,.own gX q 122 b.r.Moves,.own fB s 95 b.r.Rules,.blk d [sb b.text,i6 b.at_,i6 b.now.kind,i6 b.now.at_,i6 b.now.n,sb b.now.text,p,q,s] 109,.blk y [gV d] 105,.blk z [i6 h] 3]:=H.back [0,1,2,3,6,7] [4,5] rfl G
 refine ⟨_,rfl,?_⟩
 refine yP rfl (yL (vs:=[i6 c.Kind,sb c.Name,sb c.Other,i6 c.Op,i6 c.N,i6 c.Frames,o]) H 2 rfl fZ rfl rfl rfl ⟨rfl,rfl,rfl,rfl,rfl,rfl,(xY (H.item (i:=3) rfl)),trivial⟩ rfl) ?_
 rintro P H
 refine RN D ?_
 obtain rfl:=gI j
 refine (zW (jV rfl rfl (yN eG fZ rfl (Hbc H 2 rfl)) ?_))
 exact ⟨o,p,q,s,rfl,H.pick [3,4,5,6,7]⟩
theorem Fgo:Fao (Fga):=by
 have h: ∀n,Fao (Fd0 n):=by
  intro n
  induction n with
  | zero=>intro b c d e f i r a; cases a
  | succ n ih=>intro b c d e f i r a; exact Fecw (Fd0 n) ih b c d e f i r a
 exact h FU
end Go.Proofs.YtckmiljbaejijaaGreatDoor.L
