/- Walks: what each function computes, for every argument; no condition but those that stand in the statements. -/
import Derived.Test.YtckmiljbaejijaaGreatDoorUV0
import Derived.Test.YtckmiljbaejijaaGreatDoorUV5
import Derived.Test.YtckmiljbaejijaaGreatDoorUV8
import Derived.Test.YtckmiljbaejijaaGreatDoorUV10
import Derived.Test.YtckmiljbaejijaaGreatDoorUV11
namespace Go.Proofs.YtckmiljbaejijaaGreatDoor.L
open Go.RowKit Go.OB Go.Lf
set_option maxHeartbeats 4000000
set_option maxRecDepth 100000 in
theorem Fddw (p0:Rules)(p1:List fP)(l:List (List eH))(v1:Value)(T:Value)(U:Value)(v7:Value)(k:Value)(r:Bool)(c:Fdd p0 p1 l=some r)(O S:List Nat)(w:World)(H:Hd O w w S [f1 Rp.str v1 p0.Phases,f1 fA T p0.Moves,f1 fC U p0.Rules,f1 eU v7 p1,f1 (Rp.sl gV) k l,.fz (.at 0 0 ((Fl.arr 7 Fl.str).f zM)),.fz (.at 3 0 ((Fl.arr 20 (Fl.int .u64)).f zJ)),.fz (.gi 4)]):
  Cl 8 [.agg [v1,T,U].toArray,v7,k] w fun e w'=>e= .returned (.bool r)∧Hd O w w' S []:=by
 unfold Fdd at c
 refine zS 106 Tryz.func8 rfl rfl rfl ?_
 refine zC fun g4 c3=>zA<| yP rfl rfl (xW (cs:=[v1,T,U]) rfl H) ?_
 rintro _ g5 ⟨g6,rfl,H⟩
 refine zK (.bool false)<| zF (zB (c3 _ _ ?_))
 refine zC fun g7 c4=>zA<| zH (yJ (yM (cs:=[v1,T,U]) agg26 rfl sz26 rfl (Hbc H 8 rfl)) rfl)<| zI v7 ?_
 obtain ⟨⟨bz,V⟩,c5,c⟩:=zD c
 refine yA rfl rfl (zV en23 rfl) (Fbuw p0 p1 v1 T U v7 _ c5 _ _ _ (H.enter [] [0,1,2,3] (by decide) rfl)) ?_
 rintro _ g8 ⟨ac,b0,rfl,c6⟩
 have H:=H.back1 [0,1,2,3] rfl c6
 refine ⟨_,rfl,?_⟩
 refine zI (.tuple #[ac,i6 V])<| zH (xY (v:=ac) rfl rfl)<| zH (xY (v:=i6 V) rfl rfl)<| zK ac<| zK (i6 V)<| zF (zB (c4 _ _ ?_))
 refine zC fun g9 c7=>zA<| zH (yJ (yM (cs:=[v1,T,U]) agg26 rfl sz26 rfl (Hbc H 8 rfl)) rfl)<| zI v7 ?_
 obtain ⟨⟨b1,X⟩,c8,c⟩:=zD c
 refine yA rfl rfl (zV en23 rfl) (Fbuw p0 p1 v1 T U v7 _ c8 _ _ _ (H.enter [] [0,1,2,3] (by decide) rfl)) ?_
 rintro _ ha ⟨ad,b2,rfl,c9⟩
 have H:=H.back1 [0,1,2,3] rfl c9
 refine ⟨_,rfl,?_⟩
 refine zI (.tuple #[ad,i6 X])<| zH (xY (v:=ad) rfl rfl)<| zH (xY (v:=i6 X) rfl rfl)<| zK ad<| zK (i6 X)<| zF (zB (c7 _ _ ?_))
 refine zC fun hb da=>?_
 obtain ⟨b3,c,db⟩:=zD c
 refine yL [7,9,21,27,29,30,31,32,33,34] (fun (g:Unit)=>[(7,ac),(9,ad),(34,.bool b3)]) (fun g wl=>Hd O w wl S [.tr (Rt.opt fQ 146) [ac] b0 bz,.tr (Rt.opt fQ 146) [ad] b2 b1,f1 (Rp.sl gV) k l,.fz (.at 0 0 ((Fl.arr 7 Fl.str).f zM)),.fz (.at 3 0 ((Fl.arr 20 (Fl.int .u64)).f zJ)),.fz (.gi 4)]) ?_ ?_
 ·skip
  refine zA ?_
  refine zI (i6 V) ?_
  obtain ⟨dc,dd,c⟩:=zG c
  refine zH (zQ (dH (a:=V) (b:=0) rfl rfl) dd)<| yS (b:=dc) rfl rfl rfl (fun a2=>?_) (fun a2=>?_)
  ·have c:=zT a2 c
   refine yI ?_
   refine yI ?_
   refine zH (yO (v:= .bool true) rfl rfl) ?_
   obtain rfl:=gI c
   exact (zF (zB (meet ⟨(),(zL rfl (zL rfl (zL rfl zO))),H.pick [9,10,4,5,6,7] (by decide)⟩)))
  have c:=zU a2 c
  refine zI (i6 X) ?_
  obtain ⟨de,df,c⟩:=zG c
  refine zH (zQ (dH (a:=X) (b:=0) rfl rfl) df)<| zH (yN (v:= .bool de) rfl rfl) ?_
  obtain rfl:=gI c
  exact (zF (zB (meet ⟨(),(zL rfl (zL rfl (zL rfl zO))),H.pick [9,10,4,5,6,7] (by decide)⟩)))
 rintro _ ρ hc H
 have c:=db
 refine yC (b:=b3) rfl (fun a3=>?_) (fun a3=>?_)
 ·have c:=zT a3 c
  obtain ⟨b4,c,dg⟩:=zD c
  refine yL [6,7,9,35,36,37,38,39,40] (fun (g:Unit)=>[(6,.bool b4)]) (fun g wl=>Hd O w wl S [.fz (.at 0 0 ((Fl.arr 7 Fl.str).f zM)),.fz (.at 3 0 ((Fl.arr 20 (Fl.int .u64)).f zJ)),.fz (.gi 4)]) ?_ ?_
  ·skip
   refine zA ?_
   refine zI (i6 V)<| zI (i6 X) ?_
   obtain ⟨dh,di,c⟩:=zG c
   refine zH (zQ (yT (a:=V) (b:=X) rfl rfl) di)<| yS (b:=dh) rfl rfl rfl (fun a4=>?_) (fun a4=>?_)
   ·have c:=zT a4 c
    have dj:=H
    obtain ⟨b5,dk,c⟩:=zD c
    refine yA rfl rfl (zV en20 rfl) (Fa6w _ dk _ _ _ (H.enter [] [3,5] (by decide) rfl)) ?_
    rintro _ he ⟨rfl,dl⟩
    have H:=dj.step (dl.only:Only [] _ _)
    refine ⟨_,rfl,?_⟩
    refine zH (yO (v:= .bool b5) rfl rfl)<| zK (.bool b5) ?_
    obtain rfl:=gI c
    exact (zF (zB (meet ⟨(),(zL rfl zO),H.pick [3,4,5] (by decide)⟩)))
   have c:=zU a4 c
   refine yI ?_
   refine zH (yN (v:= .bool false) rfl rfl)<| zK (.bool false) ?_
   obtain rfl:=gI c
   exact (zF (zB (meet ⟨(),(zL rfl zO),H.pick [3,4,5] (by decide)⟩)))
  rintro _ ρ hf H
  have c:=dg
  obtain rfl:=gI c
  refine (zY (zZ (fF (v1:= .bool b4) rfl rfl ?_)))
  exact ⟨rfl,H.pick [] (by decide)⟩
 have c:=zU a3 c
 refine yB (zB (da _ _ ?_))
 obtain ⟨dm,dn,c⟩:=wJ c
 refine yL [6,7,9,11,12,13,14,15,16,41,42,43,44,45,46,47,48,49,50,51,52,53,54,55,56,57,58,59,60,61,62,63,64,65,66,67,68,69,70,71,72,73,74,75,76,77,78,79,80,81,82,83,84,85,86,87,88,89,90,91,92,93,94,95,96,97,98,99,100,101,102,103,104] (fun (g:Unit)=>[]) (fun g wl=>Hd O w wl S [.fz (.at 0 0 ((Fl.arr 7 Fl.str).f zM)),.fz (.at 3 0 ((Fl.arr 20 (Fl.int .u64)).f zJ)),.fz (.gi 4)]∧dm ()=some r) ?_ ?_
 ·skip
  refine zC fun hg dp=>zA<| zK (i6 0)<| zF (zB (dp _ _ ?_))
  refine yF ?_
  unfold Fda at c
  obtain ⟨dq,b6,dr,c⟩:=yR c
  refine xG [6,7,9,11,12,13,14,15,16,41,42,43,44,45,46,47,48,49,50,51,52,53,54,55,56,57,58,59,60,61,62,63,64,65,66,67,68,69,70,71,72,73,74,75,76,77,78,79,80,81,82,83,84,85,86,87,88,89,90,91,92,93,94,95,96,97,98,99,100,101,102,103,104] (fun (g:Nat×(Option gW)×(Option gW)×Int×(List Nat)×Value×(List Nat)×Value)=>[(7,g.2.2.2.2.2.1),(9,g.2.2.2.2.2.2.2),(11,i6 g.2.2.2.1)]) (fun g wl=>Hd O w wl S [.tr (Rt.opt fQ 146) [g.2.2.2.2.2.1] g.2.2.2.2.1 g.2.1,.tr (Rt.opt fQ 146) [g.2.2.2.2.2.2.2] g.2.2.2.2.2.2.1 g.2.2.1,f1 (Rp.sl gV) k l,.fz (.at 0 0 ((Fl.arr 7 Fl.str).f zM)),.fz (.at 3 0 ((Fl.arr 20 (Fl.int .u64)).f zJ)),.fz (.gi 4)]∧eF dq g.1 (g.2.1,g.2.2.1,g.2.2.2.1)=some r) (fun g=>g.1) (b6,bz,b1,0,b0,ac,b2,ad) (zL rfl (zL rfl (zL rfl zO))) ⟨H.pick [0,1,2,3,4,5] (by decide),c⟩ ?_
  clear H c
  rintro ⟨b6,ds,N,z,dt,a5,P,K⟩ ρ hh ⟨H,c⟩
  obtain ⟨du,rfl,c⟩:=yX c
  have c:=yY dr c
  refine zC fun hi dv=>?_
  obtain ⟨b7,c,dw⟩:=zD c
  refine yL [7,9,41,42,43,44,45,46,47,48] (fun (g:Unit)=>[(7,a5),(9,K),(48,.bool b7)]) (fun g wl=>Hd O w wl S [.tr (Rt.opt fQ 146) [a5] dt ds,.tr (Rt.opt fQ 146) [K] P N,f1 (Rp.sl gV) k l,.fz (.at 0 0 ((Fl.arr 7 Fl.str).f zM)),.fz (.at 3 0 ((Fl.arr 20 (Fl.int .u64)).f zJ)),.fz (.gi 4)]) ?_ ?_
  ·skip
   refine zA ?_
   refine zI (i6 z)<| zI k ?_
   obtain ⟨dx,dy,c⟩:=zG c
   obtain ⟨hj,hk,dz⟩:=SlF.len ((H.item (i:=2) rfl))
   refine zH (yJ (xN u79 dz) (congrArg (Value.int .i64) dy)) ?_
   obtain ⟨d0,d1,c⟩:=zG c
   refine zH (zQ (xR (a:=z) (b:=dx) rfl rfl) d1)<| yS (b:=d0) rfl rfl rfl (fun a6=>?_) (fun a6=>?_)
   ·have c:=zT a6 c
    refine zI (i6 z) ?_
    obtain ⟨d2,d3,c⟩:=zG c
    refine zH (zQ (xR (a:=z) (b:=30) rfl rfl) d3)<| zH (yO (v:= .bool d2) rfl rfl) ?_
    obtain rfl:=gI c
    exact (zF (zB (meet ⟨(),(zL rfl (zL rfl (zL rfl zO))),H.pick [0,1,2,3,4,5] (by decide)⟩)))
   have c:=zU a6 c
   refine yI ?_
   refine yI ?_
   refine zH (yN (v:= .bool false) rfl rfl) ?_
   obtain rfl:=gI c
   exact (zF (zB (meet ⟨(),(zL rfl (zL rfl (zL rfl zO))),H.pick [0,1,2,3,4,5] (by decide)⟩)))
  rintro _ ρ hl H
  have c:=dw
  refine yC (b:=b7) rfl (fun a7=>?_) (fun a7=>?_)
  ·have c:=zT a7 c
   refine yB (zB (dv _ _ ?_))
   refine zC fun hn d4=>?_
   refine yF ?_
   refine zC fun ho d5=>zA<| zI a5 ?_
   obtain ⟨j,d6,c⟩:=zD c
   have H:=H.opt_some 0 rfl d6
   obtain ⟨m,hp,hq,d7,d8⟩:=H.opt_open 0 rfl
   clear H
   cases d7
   have H:=d8
   obtain ⟨B,E,b8,F,b9,C,rfl,H⟩:=rtEventWatch_open H 5 rfl
   have H:Hd _ _ _ _ [.tr (Rt.opt fQ 146) [K] P N,f1 (Rp.sl gV) k l,.fz (.at 0 0 ((Fl.arr 7 Fl.str).f zM)),.fz (.at 3 0 ((Fl.arr 20 (Fl.int .u64)).f zJ)),.fz (.gi 4),.blk m [B,i6 j.tracks,E,F,C] 146,.tr fJ [E] b8 j.moves,.tr fG [F] b9 j.rules,f1 Rp.str B j.phases,f1 Rp.bool C j.possible]:=H
   obtain ⟨I,d9,c⟩:=zD c
   refine yA rfl rfl (zV en39 rfl) (Fblw (gW.mk j.phases j.tracks j.moves j.rules j.possible) m B E b8 F b9 C _ d9 _ _ _ (H.enter [6,7,5] [8,9] (by decide) rfl)) ?_
   rintro _ ea ⟨Q,ar,a8,ca,a9,cb,au,ae,af,rfl,eb⟩
   have H:Hd _ _ ea _ [.tr (Rt.opt fQ 146) [K] P N,f1 (Rp.sl gV) k l,.fz (.at 0 0 ((Fl.arr 7 Fl.str).f zM)),.fz (.at 3 0 ((Fl.arr 20 (Fl.int .u64)).f zJ)),.fz (.gi 4),f1 Rp.str B j.phases,f1 Rp.bool C j.possible,f1 Rp.str ar I.phases,.tr fJ [a8] ca I.moves,.tr fG [a9] cb I.rules,f1 Rp.bool au I.possible,.blk Q [ar,i6 I.tracks,a8,a9,au] 146,.tr fJ [E] ae j.moves,.tr fG [F] af j.rules,.blk m [B,i6 j.tracks,E,F,C] 146]:=H.back [6,7,5] [8,9] rfl eb
   refine ⟨_,rfl,?_⟩
   refine zK (gU Q)<| zF (zB (d5 _ _ ?_))
   refine zC fun hr ec=>zA<| zI (gU Q)<| zI k<| zI k ?_
   obtain ⟨ed,ee,c⟩:=zG c
   obtain ⟨hs,ht,ef⟩:=SlF.len ((H.item (i:=1) rfl))
   refine zH (yJ (xN u79 ef) (congrArg (Value.int .i64) ee)) ?_
   obtain ⟨eg,eh,c⟩:=zG c
   refine zH (Do_sub (a:=ed) (b:=1) rfl rfl eh)<| zI (i6 z) ?_
   obtain ⟨cc,ei,c⟩:=zG c
   refine zH (Do_sub (a:=eg) (b:=z) rfl rfl ei) ?_
   obtain ⟨ba,bb,c⟩:=zD c
   obtain ⟨cd,ce,hu,hv,ej,ek,el,em,en⟩:=dQ (H.item (i:=1) rfl) bb
   obtain ⟨av,rfl,eo⟩:=ek
   have H:=H.fzs [.at cd (ce+cc.toNat * 1) _,.sl gV av ba] ⟨⟨el,em,en⟩,eo,trivial⟩
   refine zH (xJ u79 sz55 ej rfl (yE bb).1 (yE bb).2.1 rfl rfl)<| zH (xA one55 rfl (Cells.get (H.item (i:=15) rfl).2.2 (i:=0) rfl)) ?_
   obtain ⟨⟨ep,hw,A⟩,er,c⟩:=zD c
   refine yA rfl rfl (zV en25 rfl) (Facw (gW.mk I.phases I.tracks I.moves I.rules I.possible) ba Q ar a8 ca a9 cb au av _ er _ _ _ (H.enter [8,9,11] [7,10,16] (by decide) rfl)) ?_
   rintro _ cf ⟨es,ag,aj,bc,ak,bd,ah,rfl,et⟩
   have H:Hd _ _ cf _ [.tr (Rt.opt fQ 146) [K] P N,f1 (Rp.sl gV) k l,.fz (.at 0 0 ((Fl.arr 7 Fl.str).f zM)),.fz (.at 3 0 ((Fl.arr 20 (Fl.int .u64)).f zJ)),.fz (.gi 4),f1 Rp.str B j.phases,f1 Rp.bool C j.possible,f1 Rp.str ar I.phases,f1 Rp.bool au I.possible,.tr fJ [E] ae j.moves,.tr fG [F] af j.rules,.blk m [B,i6 j.tracks,E,F,C] 146,.fz (.at cd (ce+cc.toNat * 1) [av]),f1 gV av ba,.own (Rp.int .i64) es 3 ep,f1 Rp.str ag A.phases,.tr fJ [aj] bc A.moves,.tr fG [ak] bd A.rules,f1 Rp.bool ah A.possible,.blk Q [ag,i6 A.tracks,aj,ak,ah] 146]:=H.back [8,9,11] [7,10,16] rfl et
   refine ⟨_,rfl,?_⟩
   refine zF (zB (ec _ _ ?_))
   have H:Hd O w cf S [.tr (Rt.opt fQ 146) [K] P N,f1 (Rp.sl gV) k l,.fz (.at 0 0 ((Fl.arr 7 Fl.str).f zM)),.fz (.at 3 0 ((Fl.arr 20 (Fl.int .u64)).f zJ)),.fz (.gi 4),f1 Rp.str B j.phases,f1 Rp.bool C j.possible,.tr fJ [E] ae j.moves,.tr fG [F] af j.rules,.blk m [B,i6 j.tracks,E,F,C] 146,f1 Rp.str ag A.phases,.tr fJ [aj] bc A.moves,.tr fG [ak] bd A.rules,f1 Rp.bool ah A.possible,.blk Q [ag,i6 A.tracks,aj,ak,ah] 146]:=H.pick [0,1,2,3,4,5,6,9,10,11,15,16,17,18,19] (by decide)
   refine zC fun hx eu=>zA<| zI (gU Q)<| zI k<| zI (i6 z) ?_
   obtain ⟨be,bf,c⟩:=zD c
   obtain ⟨cg,ch,hy,hz,ew,ex,ey,ez,e0⟩:=dQ (H.item (i:=1) rfl) bf
   obtain ⟨aw,rfl,e1⟩:=ex
   have H:=H.fzs [.at cg (ch+z.toNat * 1) _,.sl gV aw be] ⟨⟨ey,ez,e0⟩,e1,trivial⟩
   refine zH (xJ u79 sz55 ew rfl (yE bf).1 (yE bf).2.1 rfl rfl)<| zH (xA one55 rfl (Cells.get (H.item (i:=15) rfl).2.2 (i:=0) rfl)) ?_
   obtain ⟨⟨e2,h0,al⟩,e3,c⟩:=zD c
   refine yA rfl rfl (zV en25 rfl) (Facw (gW.mk A.phases A.tracks A.moves A.rules A.possible) be Q ag aj bc ak bd ah aw _ e3 _ _ _ (H.enter [11,12,14] [10,13,16] (by decide) rfl)) ?_
   rintro _ ci ⟨e4,cj,ck,e5,cl,e6,cm,rfl,e7⟩
   have H:Hd _ _ ci _ [.tr (Rt.opt fQ 146) [K] P N,f1 (Rp.sl gV) k l,.fz (.at 0 0 ((Fl.arr 7 Fl.str).f zM)),.fz (.at 3 0 ((Fl.arr 20 (Fl.int .u64)).f zJ)),.fz (.gi 4),f1 Rp.str B j.phases,f1 Rp.bool C j.possible,.tr fJ [E] ae j.moves,.tr fG [F] af j.rules,.blk m [B,i6 j.tracks,E,F,C] 146,f1 Rp.str ag A.phases,f1 Rp.bool ah A.possible,.fz (.at cg (ch+z.toNat * 1) [aw]),f1 gV aw be,.own (Rp.int .i64) e4 3 e2,f1 Rp.str cj al.phases,.tr fJ [ck] e5 al.moves,.tr fG [cl] e6 al.rules,f1 Rp.bool cm al.possible,.blk Q [cj,i6 al.tracks,ck,cl,cm] 146]:=H.back [11,12,14] [10,13,16] rfl e7
   refine ⟨_,rfl,?_⟩
   refine zF (zB (eu _ _ ?_))
   have H:Hd O w ci S [.tr (Rt.opt fQ 146) [K] P N,f1 (Rp.sl gV) k l,.fz (.at 0 0 ((Fl.arr 7 Fl.str).f zM)),.fz (.at 3 0 ((Fl.arr 20 (Fl.int .u64)).f zJ)),.fz (.gi 4),f1 Rp.str B j.phases,f1 Rp.bool C j.possible,.tr fJ [E] ae j.moves,.tr fG [F] af j.rules,.blk m [B,i6 j.tracks,E,F,C] 146]:=H.pick [0,1,2,3,4,5,6,7,8,9] (by decide)
   refine zC fun h1 e8=>zA<| zI (gU m)<| zI k<| zI (i6 z) ?_
   obtain ⟨bg,bh,c⟩:=zD c
   obtain ⟨cn,co,h2,h3,e9,fa,fb,fc,fd⟩:=dQ (H.item (i:=1) rfl) bh
   obtain ⟨ax,rfl,fe⟩:=fa
   have H:=H.fzs [.at cn (co+z.toNat * 1) _,.sl gV ax bg] ⟨⟨fb,fc,fd⟩,fe,trivial⟩
   refine zH (xJ u79 sz55 e9 rfl (yE bh).1 (yE bh).2.1 rfl rfl)<| zH (xA one55 rfl (Cells.get (H.item (i:=10) rfl).2.2 (i:=0) rfl)) ?_
   obtain ⟨⟨L,am,d⟩,ff,c⟩:=zD c
   refine yA rfl rfl (zV en25 rfl) (Facw (gW.mk j.phases j.tracks j.moves j.rules j.possible) bg m B E ae F af C ax _ ff _ _ _ (H.enter [7,8,9] [5,6,11] (by decide) rfl)) ?_
   rintro _ cp ⟨G,n,p,Y,q,Z,o,rfl,fg⟩
   have H:Hd _ _ cp _ [.tr (Rt.opt fQ 146) [K] P N,f1 (Rp.sl gV) k l,.fz (.at 0 0 ((Fl.arr 7 Fl.str).f zM)),.fz (.at 3 0 ((Fl.arr 20 (Fl.int .u64)).f zJ)),.fz (.gi 4),f1 Rp.str B j.phases,f1 Rp.bool C j.possible,.fz (.at cn (co+z.toNat * 1) [ax]),f1 gV ax bg,.own (Rp.int .i64) G 3 L,f1 Rp.str n d.phases,.tr fJ [p] Y d.moves,.tr fG [q] Z d.rules,f1 Rp.bool o d.possible,.blk m [n,i6 d.tracks,p,q,o] 146]:=H.back [7,8,9] [5,6,11] rfl fg
   refine ⟨_,rfl,?_⟩
   refine zI (.tuple #[G,i6 am])<| zH (xY (v:=G) rfl rfl)<| zH (xY (v:=i6 am) rfl rfl)<| zK G<| zK (i6 am)<| zF (zB (e8 _ _ ?_))
   have H:Hd O w cp S [.tr (Rt.opt fQ 146) [K] P N,f1 (Rp.sl gV) k l,.fz (.at 0 0 ((Fl.arr 7 Fl.str).f zM)),.fz (.at 3 0 ((Fl.arr 20 (Fl.int .u64)).f zJ)),.fz (.gi 4),.own (Rp.int .i64) G 3 L,f1 Rp.str n d.phases,.tr fJ [p] Y d.moves,.tr fG [q] Z d.rules,f1 Rp.bool o d.possible,.blk m [n,i6 d.tracks,p,q,o] 146]:=H.pick [0,1,2,3,4,9,10,11,12,13,14] (by decide)
   refine zC fun h4 fh=>zA<| zI K<| zI k<| zI (i6 z) ?_
   obtain ⟨ay,bi,c⟩:=zD c
   obtain ⟨bj,bk,h5,h6,fi,fj,fk,fm,fn⟩:=dQ (H.item (i:=1) rfl) bi
   obtain ⟨ai,rfl,fo⟩:=fj
   have H:=H.fzs [.at bj (bk+z.toNat * 1) _,.sl gV ai ay] ⟨⟨fk,fm,fn⟩,fo,trivial⟩
   refine zH (xJ u79 sz55 fi rfl (yE bi).1 (yE bi).2.1 rfl rfl)<| zH (xA one55 rfl (Cells.get (H.item (i:=11) rfl).2.2 (i:=0) rfl)) ?_
   obtain ⟨J,fp,c⟩:=zD c
   have H:=H.opt_some 0 rfl fp
   obtain ⟨D,h7,h8,fq,fr⟩:=H.opt_open 0 rfl
   clear H
   cases fq
   have H:=fr
   obtain ⟨az,bl,cq,bm,cr,a0,rfl,H⟩:=rtEventWatch_open H 12 rfl
   have H:Hd _ _ _ _ [f1 (Rp.sl gV) k l,.fz (.at 0 0 ((Fl.arr 7 Fl.str).f zM)),.fz (.at 3 0 ((Fl.arr 20 (Fl.int .u64)).f zJ)),.fz (.gi 4),.own (Rp.int .i64) G 3 L,f1 Rp.str n d.phases,.tr fJ [p] Y d.moves,.tr fG [q] Z d.rules,f1 Rp.bool o d.possible,.blk m [n,i6 d.tracks,p,q,o] 146,.fz (.at bj (bk+z.toNat * 1) [ai]),f1 gV ai ay,.blk D [az,i6 J.tracks,bl,bm,a0] 146,.tr fJ [bl] cq J.moves,.tr fG [bm] cr J.rules,f1 Rp.str az J.phases,f1 Rp.bool a0 J.possible]:=H
   obtain ⟨⟨R,an,h⟩,fs,c⟩:=zD c
   refine yA rfl rfl (zV en25 rfl) (Facw (gW.mk J.phases J.tracks J.moves J.rules J.possible) ay D az bl cq bm cr a0 ai _ fs _ _ _ (H.enter [13,14,12] [15,16,11] (by decide) rfl)) ?_
   rintro _ ct ⟨M,s,u,ao,y,ap,t,rfl,ft⟩
   have H:Hd _ _ ct _ [f1 (Rp.sl gV) k l,.fz (.at 0 0 ((Fl.arr 7 Fl.str).f zM)),.fz (.at 3 0 ((Fl.arr 20 (Fl.int .u64)).f zJ)),.fz (.gi 4),.own (Rp.int .i64) G 3 L,f1 Rp.str n d.phases,.tr fJ [p] Y d.moves,.tr fG [q] Z d.rules,f1 Rp.bool o d.possible,.blk m [n,i6 d.tracks,p,q,o] 146,.fz (.at bj (bk+z.toNat * 1) [ai]),f1 gV ai ay,f1 Rp.str az J.phases,f1 Rp.bool a0 J.possible,.own (Rp.int .i64) M 3 R,f1 Rp.str s h.phases,.tr fJ [u] ao h.moves,.tr fG [y] ap h.rules,f1 Rp.bool t h.possible,.blk D [s,i6 h.tracks,u,y,t] 146]:=H.back [13,14,12] [15,16,11] rfl ft
   refine ⟨_,rfl,?_⟩
   refine zI (.tuple #[M,i6 an])<| zH (xY (v:=M) rfl rfl)<| zH (xY (v:=i6 an) rfl rfl)<| zK M<| zK (i6 an)<| zF (zB (fh _ _ ?_))
   have H:Hd O w ct S [f1 (Rp.sl gV) k l,.fz (.at 0 0 ((Fl.arr 7 Fl.str).f zM)),.fz (.at 3 0 ((Fl.arr 20 (Fl.int .u64)).f zJ)),.fz (.gi 4),.own (Rp.int .i64) G 3 L,f1 Rp.str n d.phases,.tr fJ [p] Y d.moves,.tr fG [q] Z d.rules,f1 Rp.bool o d.possible,.blk m [n,i6 d.tracks,p,q,o] 146,.own (Rp.int .i64) M 3 R,f1 Rp.str s h.phases,.tr fJ [u] ao h.moves,.tr fG [y] ap h.rules,f1 Rp.bool t h.possible,.blk D [s,i6 h.tracks,u,y,t] 146]:=H.pick [0,1,2,3,4,5,6,7,8,9,14,15,16,17,18,19] (by decide)
   obtain ⟨cu,c,fu⟩:=zD c
   refine yL [87,88,89,90,91,92,93,94,95,96,97,98,99,100,101,102,103,104] (fun (g:(List Nat)×(List Nat)×(List Nat)×(List Nat))=>[(104,.bool cu)]) (fun g wl=>Hd O w wl S [f1 (Rp.sl gV) k l,.fz (.at 0 0 ((Fl.arr 7 Fl.str).f zM)),.fz (.at 3 0 ((Fl.arr 20 (Fl.int .u64)).f zJ)),.fz (.gi 4),f1 Rp.str n d.phases,.tr fJ [p] g.1 d.moves,.tr fG [q] g.2.1 d.rules,f1 Rp.bool o d.possible,.blk m [n,i6 d.tracks,p,q,o] 146,f1 Rp.str s h.phases,.tr fJ [u] g.2.2.1 h.moves,.tr fG [y] g.2.2.2 h.rules,f1 Rp.bool t h.possible,.blk D [s,i6 h.tracks,u,y,t] 146]) ?_ ?_
   ·skip
    refine zA ?_
    refine zI G ?_
    have H:=H.freeze (i:=4) rfl
    obtain ⟨h9,fv,c⟩:=zG c
    subst fv
    refine yP rfl rfl (kM (r:=(Rp.sl (Rp.int .i64))) (xl:=[L]) (cs:=[G]) u28 el38 (by decide) (by decide) rfl (fillB_ones rfl rfl ⟨(wH (H.item (i:=4) rfl)),trivial⟩) H ⟨[G],[],rfl,⟨_,rfl,(H.item (i:=4) rfl)⟩,rfl⟩) ?_
    rintro bn ia H
    refine zI (i6 am) ?_
    have fw:=H
    have H:=H.freeze (i:=16) rfl
    obtain ⟨fx,fy,c⟩:=zD c
    refine yA rfl rfl (zV en38 rfl) (Fbfw ([L]:List (List Int)) am bn _ fy _ _ _ (H.enter [] [16,2] (by decide) rfl)) ?_
    rintro _ ib ⟨rfl,f0⟩
    have H:=fw.step (f0.only:Only [] _ _)
    refine ⟨_,rfl,?_⟩
    refine zI M ?_
    have H:=H.freeze (i:=10) rfl
    obtain ⟨id,f4,c⟩:=zG c
    subst f4
    refine yP rfl rfl (kM (r:=(Rp.sl (Rp.int .i64))) (xl:=[R]) (cs:=[M]) u28 el38 (by decide) (by decide) rfl (fillB_ones rfl rfl ⟨(wH (H.item (i:=10) rfl)),trivial⟩) H ⟨[M],[],rfl,⟨_,rfl,(H.item (i:=10) rfl)⟩,rfl⟩) ?_
    rintro bo ie H
    refine zI (i6 an) ?_
    have f5:=H
    have H:=H.freeze (i:=17) rfl
    obtain ⟨f6,f7,c⟩:=zD c
    refine yA rfl rfl (zV en38 rfl) (Fbfw ([R]:List (List Int)) an bo _ f7 _ _ _ (H.enter [] [17,2] (by decide) rfl)) ?_
    rintro _ ig ⟨rfl,f8⟩
    have H:=f5.step (f8.only:Only [] _ _)
    refine ⟨_,rfl,?_⟩
    obtain ⟨f9,ga,c⟩:=zG c
    refine zH (zQ (Do_neqs (s1:=fx) (s2:=f6) rfl rfl) ga)<| yS (b:=f9) rfl rfl rfl (fun bp=>?_) (fun bp=>?_)
    ·have c:=zT bp c
     refine yI ?_
     refine yI ?_
     refine yI ?_
     refine yI ?_
     refine yI ?_
     refine yI ?_
     refine yI ?_
     refine zH (yO (v:= .bool true) rfl rfl) ?_
     obtain rfl:=gI c
     exact (zF (zB (meet ⟨(Y,Z,ao,ap),(zL rfl zO),H.pick [0,1,2,3,5,6,7,8,9,11,12,13,14,15] (by decide)⟩)))
    have c:=zU bp c
    refine zI (gU m) ?_
    obtain ⟨bq,gb,c⟩:=zD c
    refine yA rfl rfl (zV en27 rfl) (Fauw (gW.mk d.phases d.tracks d.moves d.rules d.possible) m n p Y q Z o _ gb _ _ _ (H.enter [6,7,9] [5,8] (by decide) rfl)) ?_
    rintro _ gc ⟨br,bt,bu,rfl,gd⟩
    have H:Hd _ _ gc _ [f1 (Rp.sl gV) k l,.fz (.at 0 0 ((Fl.arr 7 Fl.str).f zM)),.fz (.at 3 0 ((Fl.arr 20 (Fl.int .u64)).f zJ)),.fz (.gi 4),f1 (Rp.int .i64) G L,f1 Rp.str n d.phases,f1 Rp.bool o d.possible,f1 (Rp.int .i64) M R,f1 Rp.str s h.phases,.tr fJ [u] ao h.moves,.tr fG [y] ap h.rules,f1 Rp.bool t h.possible,.blk D [s,i6 h.tracks,u,y,t] 146,.own (Rp.sl (Rp.int .i64)) bn 38 ([L]:List (List Int)),.own (Rp.sl (Rp.int .i64)) bo 38 ([R]:List (List Int)),.own Rp.str br 9 bq,.tr fJ [p] bt d.moves,.tr fG [q] bu d.rules,.blk m [n,i6 d.tracks,p,q,o] 146]:=H.back [6,7,9] [5,8] rfl gd
    refine ⟨_,rfl,?_⟩
    have ge:=H
    have H:=H.freeze (i:=15) rfl
    obtain ⟨gf,gg,c⟩:=zD c
    refine yA rfl rfl (zV en33 rfl) (Fa3w bq 0 br _ gg _ _ _ (H.enter [] [15,2] (by decide) rfl)) ?_
    rintro _ ih ⟨rfl,gh⟩
    have H:=ge.step (gh.only:Only [] _ _)
    refine ⟨_,rfl,?_⟩
    refine zI (gU D) ?_
    obtain ⟨cv,gj,c⟩:=zD c
    refine yA rfl rfl (zV en27 rfl) (Fauw (gW.mk h.phases h.tracks h.moves h.rules h.possible) D s u ao y ap t _ gj _ _ _ (H.enter [9,10,12] [8,11] (by decide) rfl)) ?_
    rintro _ gl ⟨cw,cx,cy,rfl,gm⟩
    have H:Hd _ _ gl _ [f1 (Rp.sl gV) k l,.fz (.at 0 0 ((Fl.arr 7 Fl.str).f zM)),.fz (.at 3 0 ((Fl.arr 20 (Fl.int .u64)).f zJ)),.fz (.gi 4),f1 (Rp.int .i64) G L,f1 Rp.str n d.phases,f1 Rp.bool o d.possible,f1 (Rp.int .i64) M R,f1 Rp.str s h.phases,f1 Rp.bool t h.possible,.own (Rp.sl (Rp.int .i64)) bn 38 ([L]:List (List Int)),.own (Rp.sl (Rp.int .i64)) bo 38 ([R]:List (List Int)),.own Rp.str br 9 bq,.tr fJ [p] bt d.moves,.tr fG [q] bu d.rules,.blk m [n,i6 d.tracks,p,q,o] 146,.own Rp.str cw 9 cv,.tr fJ [u] cx h.moves,.tr fG [y] cy h.rules,.blk D [s,i6 h.tracks,u,y,t] 146]:=H.back [9,10,12] [8,11] rfl gm
    refine ⟨_,rfl,?_⟩
    have gn:=H
    have H:=H.freeze (i:=16) rfl
    obtain ⟨go,gp,c⟩:=zD c
    refine yA rfl rfl (zV en33 rfl) (Fa3w cv 0 cw _ gp _ _ _ (H.enter [] [16,2] (by decide) rfl)) ?_
    rintro _ ii ⟨rfl,gq⟩
    have H:=gn.step (gq.only:Only [] _ _)
    refine ⟨_,rfl,?_⟩
    obtain ⟨gr,gs,c⟩:=zG c
    refine zH (zQ (Do_neqs (s1:=gf) (s2:=go) rfl rfl) gs)<| zH (yN (v:= .bool gr) rfl rfl) ?_
    obtain rfl:=gI c
    exact (zF (zB (meet ⟨(bt,bu,cx,cy),(zL rfl zO),H.pick [0,1,2,3,5,13,14,6,15,8,17,18,9,19] (by decide)⟩)))
   rintro ⟨gt,gu,bv,bw⟩ ρ gv H
   have c:=fu
   refine yC (b:=cu) rfl (fun bx=>?_) (fun bx=>?_)
   ·have c:=zT bx c
    refine zC fun ij gw=>zA<| zK (.bool false)<| zF (zB (gw _ _ ?_))
    have H:Hd O w gv S [f1 (Rp.sl gV) k l,.fz (.at 0 0 ((Fl.arr 7 Fl.str).f zM)),.fz (.at 3 0 ((Fl.arr 20 (Fl.int .u64)).f zJ)),.fz (.gi 4)]:=H.pick [0,1,2,3] (by decide)
    obtain rfl:=gI c
    refine (zY (yG (zZ (zZ (yG (zZ (fF (v1:= .bool false) rfl rfl ?_)))))))
    exact ⟨rfl,H.pick [] (by decide)⟩
   have c:=zU bx c
   refine (yB (yK (zB (d4 _ _ ?_))))
   refine zA ?_
   refine zI (i6 z) ?_
   obtain ⟨cz,gx,c⟩:=zG c
   refine zH (xQ (a:=z) (b:=1) rfl rfl gx)<| zK (i6 cz) ?_
   have H:Hd _ _ _ _ [f1 (Rp.sl gV) k l,.fz (.at 0 0 ((Fl.arr 7 Fl.str).f zM)),.fz (.at 3 0 ((Fl.arr 20 (Fl.int .u64)).f zJ)),.fz (.gi 4),f1 Rp.str n d.phases,.tr fJ [p] gt d.moves,.tr fG [q] gu d.rules,f1 Rp.bool o d.possible,.blk m [n,i6 d.tracks,p,q,o] 146,f1 Rp.str s h.phases,.tr fJ [u] bv h.moves,.tr fG [y] bw h.rules,f1 Rp.bool t h.possible,.blk D [s,i6 h.tracks,u,y,t] 146]:=H
   obtain ⟨gy,H⟩:=rtEventWatch_mk (x:=gW.mk d.phases d.tracks d.moves d.rules d.possible) H 5 6 rfl rfl (H.item (i:=4) rfl) (H.item (i:=7) rfl) (by decide)
   have H:Hd _ _ _ _ [f1 (Rp.sl gV) k l,.fz (.at 0 0 ((Fl.arr 7 Fl.str).f zM)),.fz (.at 3 0 ((Fl.arr 20 (Fl.int .u64)).f zJ)),.fz (.gi 4),f1 Rp.str n d.phases,f1 Rp.bool o d.possible,.blk m [n,i6 d.tracks,p,q,o] 146,f1 Rp.str s h.phases,.tr fJ [u] bv h.moves,.tr fG [y] bw h.rules,f1 Rp.bool t h.possible,.blk D [s,i6 h.tracks,u,y,t] 146,.tr fQ [n,i6 d.tracks,p,q,o] gy (gW.mk d.phases d.tracks d.moves d.rules d.possible)]:=H
   obtain ⟨a1,H⟩:=H.opt_mk 12 6 rfl rfl (by decide)
   have H:Hd _ _ _ _ [f1 (Rp.sl gV) k l,.fz (.at 0 0 ((Fl.arr 7 Fl.str).f zM)),.fz (.at 3 0 ((Fl.arr 20 (Fl.int .u64)).f zJ)),.fz (.gi 4),f1 Rp.str n d.phases,f1 Rp.bool o d.possible,f1 Rp.str s h.phases,.tr fJ [u] bv h.moves,.tr fG [y] bw h.rules,f1 Rp.bool t h.possible,.blk D [s,i6 h.tracks,u,y,t] 146,.tr (Rt.opt fQ 146) [(gU m)] a1 (some (gW.mk d.phases d.tracks d.moves d.rules d.possible))]:=H
   obtain ⟨gz,H⟩:=rtEventWatch_mk (x:=gW.mk h.phases h.tracks h.moves h.rules h.possible) H 7 8 rfl rfl (H.item (i:=6) rfl) (H.item (i:=9) rfl) (by decide)
   have H:Hd _ _ _ _ [f1 (Rp.sl gV) k l,.fz (.at 0 0 ((Fl.arr 7 Fl.str).f zM)),.fz (.at 3 0 ((Fl.arr 20 (Fl.int .u64)).f zJ)),.fz (.gi 4),f1 Rp.str n d.phases,f1 Rp.bool o d.possible,f1 Rp.str s h.phases,f1 Rp.bool t h.possible,.blk D [s,i6 h.tracks,u,y,t] 146,.tr (Rt.opt fQ 146) [(gU m)] a1 (some (gW.mk d.phases d.tracks d.moves d.rules d.possible)),.tr fQ [s,i6 h.tracks,u,y,t] gz (gW.mk h.phases h.tracks h.moves h.rules h.possible)]:=H
   obtain ⟨c0,H⟩:=H.opt_mk 10 8 rfl rfl (by decide)
   have H:Hd _ _ _ _ [f1 (Rp.sl gV) k l,.fz (.at 0 0 ((Fl.arr 7 Fl.str).f zM)),.fz (.at 3 0 ((Fl.arr 20 (Fl.int .u64)).f zJ)),.fz (.gi 4),f1 Rp.str n d.phases,f1 Rp.bool o d.possible,f1 Rp.str s h.phases,f1 Rp.bool t h.possible,.tr (Rt.opt fQ 146) [(gU m)] a1 (some (gW.mk d.phases d.tracks d.moves d.rules d.possible)),.tr (Rt.opt fQ 146) [(gU D)] c0 (some (gW.mk h.phases h.tracks h.moves h.rules h.possible))]:=H
   exact (zF (zB (meet ⟨(du,(some (gW.mk d.phases d.tracks d.moves d.rules d.possible)),(some (gW.mk h.phases h.tracks h.moves h.rules h.possible)),cz,a1,(gU m),c0,(gU D)),(zL rfl (zL rfl (zL rfl zO))),⟨H.pick [8,9,0,1,2,3] (by decide),c⟩,Nat.lt_succ_self _⟩)))
  have c:=zU a7 c
  exact (xK (yH (yH (yU (zB (meet ⟨(),zO,⟨H.pick [3,4,5] (by decide),c⟩⟩))))))
 rintro _ ρ ik ⟨H,c⟩
 have c:=dE dn c
 refine zC fun il g0=>zA ?_
 have g1:=H
 obtain ⟨c1,g2,c⟩:=zD c
 refine yA rfl rfl (zV en20 rfl) (Fa6w _ g2 _ _ _ (H.enter [] [0,2] (by decide) rfl)) ?_
 rintro _ im ⟨rfl,g3⟩
 have H:=g1.step (g3.only:Only [] _ _)
 refine ⟨_,rfl,?_⟩
 refine zK (.bool c1)<| zF (zB (g0 _ _ ?_))
 obtain rfl:=gI c
 refine (zY (fF (v1:= .bool c1) rfl rfl ?_))
 exact ⟨rfl,H.pick [] (by decide)⟩
end Go.Proofs.YtckmiljbaejijaaGreatDoor.L
