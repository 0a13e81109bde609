/- Walks: what each function computes, for every argument; no condition but those that stand in the statements. -/
import Derived.Test.YthllgjnlmjpinaaGreatDoorUV0
import Derived.Test.YthllgjnlmjpinaaGreatDoorUV1
import Derived.Test.YthllgjnlmjpinaaGreatDoorUV4
namespace Go.Proofs.YthllgjnlmjpinaaGreatDoor.L
open Go.RowKit Go.OB Go.Lf
set_option maxHeartbeats 4000000
set_option maxRecDepth 100000 in
theorem Fb4w (l:Rules)(T:List Track)(v1:Value)(y:Value)(s:Value)(R:Value)(r:gZ)(d:Fb4 l T=some r)(O S:List Nat)(w:World)(H:Hd O w w S [f1 Rp.str v1 l.Phases,f1 fP y l.Moves,f1 fZ s l.Rules,f1 fF R T]):
  Cl 119 [.agg [v1,y,s].toArray,R] w fun e n=> ∃u9 bd be b2 bf b3 bg,e= .returned (gX u9)∧Hd O w n S [f1 Rp.str bd r.phases,.tr (Rt.row gY 215 []) [be] b2 r.moves,.tr (Rt.row fJ 212 []) [bf] b3 r.rules,f1 Rp.bool bg r.possible,.blk u9 [bd,i6 r.tracks,be,bf,bg] 182]:=by
 unfold Fb4 at d
 refine CW 128 Tryz.func119 ?_
 refine zB fun ga b4=>zA<| yP rfl rfl (xJ (cs:=[v1,y,s]) rfl H) ?_
 rintro _ gb ⟨L,rfl,H⟩
 refine zI (.pointer none)<| RN b4<| zB fun gc b5=>zA<| yP rfl rfl (aDx H) ?_
 rintro _ gd ⟨o,rfl,H⟩
 refine zG (nK rfl)<| Ld jJ H 4 0 rfl rfl<| yP rfl rfl (aDx H) ?_
 rintro _ ge ⟨p,rfl,H⟩
 obtain ⟨b6,b7,b8⟩: ∃a c,v1= .slice a _ c:=SlF.len ((H.item (i:=0) rfl))
 refine zG (xM (cs:=[.map (some o),.slice none 0 0,v1,.map (some p)]) (by rw [b8]; exact aKp _ b6 _ b7 _))<| yP rfl rfl (xJ (cs:=[.map (some o),.slice none 0 0,v1,.map (some p)]) rfl H) ?_
 rintro _ gf ⟨z,rfl,H⟩
 refine zI (gX z)<| RN b5 ?_
 obtain ⟨ar,d,b9⟩:=zC d
 refine yG [6,7,19,20,21,22,23,24,25,26,27,28,29,30,31,32,33,34,35,36,37,38,39,40,41,42,43,44,45] (fun (g:Value)=>[]) (fun g wl=>Hd O w wl S [f1 Rp.str v1 l.Phases,f1 fP y l.Moves,f1 fZ s l.Rules,f1 fF R T,.blk L [v1,y,s] 27,.mp o (fA Ky.str (fun v=>Value.int .i64 v) ar.1),.mp p (fA Ky.str (fun v=>Value.int .i64 v) ([]:List (Str×Int))),.blk z [.map (some o),g,v1,.map (some p)] 209,.own (Rp.int .i64) g 3 ar.2]) ?_ ?_
 ·skip
  refine zB fun gg ca=>zA<| zH R ?_
  obtain ⟨cb,cc,d⟩:=zD d
  obtain ⟨gh,gi,cd⟩:=SlF.len ((H.item (i:=3) rfl))
  refine zG (yH (yZ u45 cd) (congrArg (Value.int .i64) cc))<| zH (i6 0)<| RN ca<| yD ?_
  have H:=aS H (Rp.int .i64) 3
  unfold Feh at d
  obtain ⟨ce,bh,cf,d⟩:=yQ d
  refine xA [6,7,21,22,23,24,25,26,27,28,29,30,31,32,33,34,35,36,37,38,39,40,41,42,43,44,45] (fun (g:Nat×Int×(List (Str×Int))×(List Int)×Value)=>[(21,i6 g.2.1)]) (fun g wl=>Hd O w wl S [f1 Rp.str v1 l.Phases,f1 fP y l.Moves,f1 fZ s l.Rules,f1 fF R T,.blk L [v1,y,s] 27,.mp o (fA Ky.str (fun v=>Value.int .i64 v) g.2.2.1),.mp p (fA Ky.str (fun v=>Value.int .i64 v) ([]:List (Str×Int))),.blk z [.map (some o),g.2.2.2.2,v1,.map (some p)] 209,.own (Rp.int .i64) g.2.2.2.2 3 g.2.2.2.1]∧fV ce g.1 (g.2.1,g.2.2.1,g.2.2.2.1)=some ar) (fun g=>g.1) (bh,0,([]:List (Str×Int)),[],.slice none 0 0) (zJ rfl zK) ⟨H.pick [0,1,2,3,4,5,6,7,8],d⟩ ?_
  clear H d
  rintro ⟨bh,ab,cg,gj,ch⟩ ρ gl ⟨H,d⟩
  obtain ⟨ci,rfl,d⟩:=yT d
  have d:=yV cf d
  refine zB fun gm cj=>zA ?_
  obtain ⟨ck,cl,d⟩:=zD d
  refine zG (zO (xH (a:=ab) (b:=cb) rfl rfl) cl)<| RN cj<| zB fun gn cm=>zW (b:=ck) rfl (fun a0=>?_) (fun a0=>?_)
  ·have d:=zN a0 d
   refine zZ (zF (cm _ _ ?_))
   refine zB fun go cn=>?_
   refine yD ?_
   refine zB fun gp cp=>zA<| zH (i6 ab) ?_
   obtain ⟨P,a1,d⟩:=zC d
   obtain ⟨cq,cr,gq,gr,ct,cu,cv,cw,cx⟩:=wJ (H.item (i:=3) rfl) a1
   obtain ⟨a2,rfl,cy⟩:=bY cu
   have H:=H.fzs [.at cq (cr+ab.toNat * 4) _,.sl fM a2 P.Series.Samples] ⟨⟨cv,cw,cx⟩,cy,trivial⟩
   refine zG (yS u45 qR ct rfl (zU a1).1 (zU a1).2.1 rfl rfl)<| zG (yH (yI (cs:=[sb P.Name,i6 P.Series.Den,a2,i6 P.Long]) aFu rfl qR rfl (H.item (i:=9) rfl).2.2) rfl)<| yP rfl rfl (xI aHu H) ?_
   rintro _ gs ⟨gt,rfl,H⟩
   refine zI (i6 ab)<| yX rfl (yU (vs:=[sb P.Name,i6 P.Series.Den,a2,i6 P.Long]) H 11 rfl qR rfl rfl rfl ⟨rfl,rfl,(dG (H.item (i:=10) rfl)),rfl,trivial⟩ rfl) ?_
   rintro gu H
   refine RN cp<| zB fun gv cz=>?_
   have c0:=H
   have H:=H.rebase
   have gw:=H
   refine wH H [0,1,2,3,4,5,6,7] (kz [0,0,0,1,0,1,0,3]) mixed ?_
   refine XM (gX z)<| XP (fun _ _=>yC rfl)<| XP (fun _ _=>aAf rfl)<| XR aEq H 7 0 rfl rfl<| XP (fun _ _=>vJ rfl)<| XR dX H 11 0 rfl rfl<| XM (i6 ab) ?_
   obtain ⟨c1,c2,d⟩:=zD d
   refine MxM.XL_exU oS rfl rfl (fun n j=>aBi (K:=Ky.str) (G:=(fun v=>Value.int .i64 v)) (m:=cg) (k:=P.Name) (v:=ab) (H.sees j) 5 rfl u71 u9 rfl rfl rfl c2) ?_
   rintro n gx j H
   refine ⟨H.only,?_⟩
   refine MxM.xO fun gy hS=>?_
   have H:=H.sees hS
   have H:=c0.rejoin H
   refine (zF (cz _ _ ?_))
   have H:Hd _ _ _ _ [_,_,_,_,_,_,_,_,_,_,_]:=H.pick [0,1,2,3,4,5,6,7,8,10,11]
   have c3:=H
   have H:=H.rebase
   have gz:=H
   refine wH H [0,1,2,3,4,5,6,7,8,9,10,11,12] (kz [0,0,0,0,1,0,0,1,2,3,0,0,3]) mixed ?_
   refine XM (gX z)<| XM (gX z)<| XP (fun _ _=>yC rfl)<| XP (fun _ _=>aCs rfl)<| XR aF H 7 1 rfl rfl<| XP (fun _ _=>vK rfl)<| XP (fun _ _=>fa90_0 rfl)<| XR fG H 10 1 rfl rfl ?_
   obtain ⟨g0,c4,d⟩:=zD d
   subst c4
   refine MxM.XL_exN oS rfl rfl rfl (fun n j=>qA (jK (r:=(Rp.int .i64)) (xl:=[P.Series.Den]) (cs:=[i6 P.Series.Den]) u36 el3 (by decide) (by decide) rfl (xP (vs:=[i6 P.Series.Den]) (by decide) rfl rfl ⟨rfl,trivial⟩ rfl) (H.sees j) ⟨[i6 P.Series.Den],[],rfl,rfl,rfl⟩) (aQn (cs:=[i6 P.Series.Den]) u36 el3 (by decide) (by decide) (xP (vs:=[i6 P.Series.Den]) (by decide) rfl rfl ⟨rfl,trivial⟩ rfl))) ?_
   rintro n v520 w521 j H
   obtain ⟨c5,c6,d⟩:=zC d
   refine MxM.XL_ex oS rfl rfl rfl (fun n j=>kC (H.sees j) (i:=8) rfl u36 el3 rfl rfl (Sr.of_own ((H.sees j).item (i:=11) rfl)) c6) ?_
   rintro n bi g3 j H
   refine ⟨H.only,?_⟩
   refine XP (fun _ _=>yC rfl)<| XP (fun _ _=>aCs rfl)<| MxM.XL_exU oS rfl rfl (fun n j=>xR (H.sees j) 7 rfl sz36 rfl (v:=bi) rfl (bQ ((H.sees j).item (i:=8) rfl)) rfl) ?_
   rintro n g4 j H
   refine ⟨H.only,?_⟩
   refine MxM.xO fun g5 hS=>?_
   have H:=H.sees hS
   have H:=c3.rejoin H
   refine yJ (zF (cn _ _ ?_))
   refine zA ?_
   obtain ⟨bj,c7,d⟩:=zD d
   refine zG (xC (a:=ab) (b:=1) rfl rfl c7)<| zH (i6 bj) ?_
   exact (zT (zF (meet ⟨(ci,bj,c1,c5,bi),(zJ rfl zK),⟨H.pick [0,1,2,3,4,5,6,7,8],d⟩,Nat.lt_succ_self _⟩)))
  have d:=zM a0 d
  obtain rfl:=gG d
  exact (xE (yK (yK (yR (zF (meet ⟨ch,zK,H.pick [0,1,2,3,4,5,6,7,8]⟩))))))
 rintro q ρ a3 H
 have d:=b9
 obtain ⟨B,C⟩:=ar
 refine zB fun g6 c8=>?_
 have c9:=H
 have H:=H.rebase
 have da:=H
 have bk:Hd (O++bks (rest [4,5,6,7,8] [f1 Rp.str v1 l.Phases,f1 fP y l.Moves,f1 fZ s l.Rules,f1 fF R T,.blk L [v1,y,s] 27,.mp o (fA Ky.str (fun v=>Value.int .i64 v) B),.mp p (fA Ky.str (fun v=>Value.int .i64 v) ([]:List (Str×Int))),.blk z [.map (some o),q,v1,.map (some p)] 209,.own (Rp.int .i64) q 3 C])) a3 a3 (bks (Go.Lf.pick ([4,5,6,7,8]++ [0,1,2,3]) [f1 Rp.str v1 l.Phases,f1 fP y l.Moves,f1 fZ s l.Rules,f1 fF R T,.blk L [v1,y,s] 27,.mp o (fA Ky.str (fun v=>Value.int .i64 v) B),.mp p (fA Ky.str (fun v=>Value.int .i64 v) ([]:List (Str×Int))),.blk z [.map (some o),q,v1,.map (some p)] 209,.own (Rp.int .i64) q 3 C])) [.blk L [v1,y,s] 27,.mp o (fA Ky.str (fun v=>Value.int .i64 v) B),.mp p (fA Ky.str (fun v=>Value.int .i64 v) ([]:List (Str×Int))),.blk z [.map (some o),q,v1,.map (some p)] 209,.own (Rp.int .i64) q 3 C,f1 Rp.str v1 l.Phases,f1 fP y l.Moves,f1 fZ s l.Rules,f1 fF R T]:=H.enter [4,5,6,7,8] [0,1,2,3]
 refine vX H bk [0,1,3,4,5,6,7] 2 8 [9,10,11] [] [.pure,.read,.new,.pure,.pure,.pure,.read,.pure,.new,.pure,.new,.pure] ⟨trivial,trivial,trivial,trivial,trivial,trivial,trivial,trivial,trivial,trivial,trivial,trivial,trivial⟩ mixed (by kernel_rfl) (by kernel_rfl) (by kernel_rfl) (by kernel_rfl) (by kernel_rfl) (by decide) ?_
 have H:=bk
 refine XP (fun _ _=>nK rfl)<| XR jJ H 0 0 rfl rfl<| XM R ?_
 obtain ⟨J,db,d⟩:=zD d
 obtain ⟨g7,g8,dc⟩:=SlF.len ((H.item (i:=8) rfl))
 refine XP (fun _ _=>yH (yZ u45 dc) (congrArg (Value.int .i64) db))<| XP (fun _ _=>nK rfl)<| XR jJ H 0 0 rfl rfl ?_
 obtain ⟨g9,dd,d⟩:=zD d
 obtain ⟨ha,hb,de⟩:=SlF.len ((H.item (i:=5) rfl))
 refine XP (fun _ _=>yH (yZ u23 de) (congrArg (Value.int .i64) dd))<| MxM.xO fun hc hS=>?_
 have H:=H.sees hS
 obtain ⟨F,bl,d⟩:=zC d
 obtain ⟨df,au,d⟩:=zC d
 refine MxM.XL_join (du:=48) (dv:=54) (fun g1 g2 wl=> ∃(t:Value) (u:Value),t=g1∧u=g2∧Hd (O++bks (rest [4,5,6,7,8] [f1 Rp.str v1 l.Phases,f1 fP y l.Moves,f1 fZ s l.Rules,f1 fF R T,.blk L [v1,y,s] 27,.mp o (fA Ky.str (fun v=>Value.int .i64 v) B),.mp p (fA Ky.str (fun v=>Value.int .i64 v) ([]:List (Str×Int))),.blk z [.map (some o),q,v1,.map (some p)] 209,.own (Rp.int .i64) q 3 C])) a3 wl (bks (Go.Lf.pick ([4,5,6,7,8]++ [0,1,2,3]) [f1 Rp.str v1 l.Phases,f1 fP y l.Moves,f1 fZ s l.Rules,f1 fF R T,.blk L [v1,y,s] 27,.mp o (fA Ky.str (fun v=>Value.int .i64 v) B),.mp p (fA Ky.str (fun v=>Value.int .i64 v) ([]:List (Str×Int))),.blk z [.map (some o),q,v1,.map (some p)] 209,.own (Rp.int .i64) q 3 C])) [.blk L [v1,y,s] 27,.mp o (fA Ky.str (fun v=>Value.int .i64 v) B),.mp p (fA Ky.str (fun v=>Value.int .i64 v) ([]:List (Str×Int))),.blk z [.map (some o),q,v1,.map (some p)] 209,.own (Rp.int .i64) q 3 C,f1 Rp.str v1 l.Phases,f1 fP y l.Moves,f1 fZ s l.Rules,f1 fF R T,.own Rp.str t 9 F,.own Rp.bool u 4 df]) ?_ ?_ ?_
 ·skip
  refine MxM.XL_newC oS rfl rfl rfl (fun n j=>zY en147 rfl) (fun n j=>Fbrw l.Phases v1 _ bl _ _ _ ((H.sees j).enter [] [5])) ?_
  rintro n _ he j ⟨t,rfl,bm⟩
  have H:=(H.sees j).back1 [5] rfl bm
  refine ⟨_,rfl,(bm.only:Only [] _ _).below,?_⟩
  refine MxM.XL_exN oS rfl rfl rfl (fun n j=>qA (tZ (r:=Rp.bool) (zv:= .bool false) qK el4 rfl (fun _ _=>rfl) rfl rfl au (H.sees j)) (aPu qK el4 rfl rfl rfl au)) ?_
  rintro n u hf j H
  refine MxM.xO fun hg hS=>?_
  have H:=H.sees hS
  exact ⟨_,_,rfl,H.only,t,u,rfl,rfl,H⟩
 ·skip
  refine MxM.XL_exN oS rfl rfl rfl (fun n j=>qA (tZ (r:=Rp.bool) (zv:= .bool false) qK el4 rfl (fun _ _=>rfl) rfl rfl au (H.sees j)) (aPu qK el4 rfl rfl rfl au)) ?_
  rintro n dg hh j H
  refine MxM.XL_newC oS rfl rfl rfl (fun n j=>zY en147 rfl) (fun n j=>Fbrw l.Phases v1 _ bl _ _ _ ((H.sees j).enter [] [5])) ?_
  rintro n _ hi j ⟨dh,rfl,bn⟩
  have H:=(H.sees j).back1 [5] rfl bn
  refine ⟨_,rfl,(bn.only:Only [] _ _).below,?_⟩
  refine MxM.xO fun hj hS=>?_
  have H:=H.sees hS
  have H:=H.pick [0,1,2,3,4,5,6,7,8,10,9]
  exact ⟨_,_,MxM.upd_comm _ (by decide) _ _,H.only,dh,dg,rfl,rfl,H⟩
 rintro M' _ _ hk ⟨t,u,rfl,rfl,H⟩
 obtain ⟨di,dj,dk⟩: ∃a c,t= .slice a _ c:=Sr.len (Sr.of_own (H.item (i:=9) rfl))
 obtain ⟨dl,dm,dn⟩: ∃a c,u= .slice a _ c:=Sr.len (Sr.of_own (H.item (i:=10) rfl))
 refine XP (fun _ _=>xM (cs:=[t,i6 J,.slice none 0 0,.slice none 0 0,u]) (by rw [dk,dn]; exact aKd di _ dj _ dl _ dm))<| MxM.XL_exN oS rfl rfl rfl (fun n j=>qA (xJ (cs:=[t,i6 J,.slice none 0 0,.slice none 0 0,u]) rfl (H.sees j)) (aBh (cs:=[t,i6 J,.slice none 0 0,.slice none 0 0,u]) rfl)) ?_
 rintro n _ hl j ⟨A,rfl,H⟩
 refine XP (fun _ _=>xB (v:=gX A) rfl)<| MxM.xO fun hn hS=>?_
 have H:=H.sees hS
 have H:=da.back [4,5,6,7,8] [0,1,2,3] rfl H
 have H:Hd _ _ _ _ [_,_,_,_,_,_,_,_,_,_,_,_,_,_,_,_]:=H
 have H:Hd _ _ _ _ [_,_,_,_,_,_,_,_,_,_,_,_]:=H.pick [4,5,6,7,8,9,10,11,12,13,14,15]
 refine ⟨H.only,?_⟩
 refine MxM.xO fun ho hS=>?_
 have H:=H.sees hS
 have H:=c9.rejoin H
 refine (zF (c8 _ _ ?_))
 have H:Hd _ _ _ _ [_,_,_,_,_,_,_,_,_,_,_]:=H.pick [0,1,2,3,4,5,6,7,9,10,11]
 obtain ⟨I,d,dp⟩:=zC d
 refine yG [57,58,59,60,61,62,63,64,65] (fun (g:Unit)=>[]) (fun g wl=>Hd O w wl S [.blk L [v1,y,s] 27,f1 Rp.str v1 l.Phases,f1 fP y l.Moves,f1 fZ s l.Rules,.mp o (fA Ky.str (fun v=>Value.int .i64 v) B),.mp p (fA Ky.str (fun v=>Value.int .i64 v) ([]:List (Str×Int))),.blk z [.map (some o),q,v1,.map (some p)] 209,.own (Rp.int .i64) q 3 C,.own Rp.str t 9 F,.own Rp.bool u 4 I,.blk A [t,i6 J,.slice none 0 0,.slice none 0 0,u] 182]) ?_ ?_
 ·skip
  refine zB fun hp dq=>zA<| zG (nK rfl)<| Ld jJ H 0 0 rfl rfl ?_
  obtain ⟨dr,ds,d⟩:=zD d
  obtain ⟨hq,hr,dt⟩:=SlF.len ((H.item (i:=5) rfl))
  refine zG (yH (yZ u23 dt) (congrArg (Value.int .i64) ds)) ?_
  obtain ⟨dw,dx,d⟩:=zD d
  refine zG (zO (cZ (a:=dr) (b:=0) rfl rfl) dx)<| RN dq<| zW (b:=dw) rfl (fun a4=>?_) (fun a4=>?_)
  ·have d:=zN a4 d
   refine zA ?_
   refine zH (gX A)<| zG (yC rfl)<| zG (aAb rfl)<| Ld sW H 10 4 rfl rfl ?_
   obtain ⟨dy,a5,d⟩:=zC d
   obtain ⟨hs,ht,dz,bo,d0,d1⟩:=bH (H.item (i:=9) rfl) a5
   obtain rfl:dz= [.bool dy]:=d0
   refine zG (yS qK sz4 bo rfl (zU a5).1 (zU a5).2.1 rfl rfl) ?_
   obtain ⟨hu,d2,d⟩:=zC d
   refine yX rfl (bG (vs:=[.bool true]) (off:=0) H 9 rfl bo d1 rfl sz4 rfl rfl rfl (dH ⟨rfl,trivial⟩) d2 (by decide) rfl rfl) ?_
   rintro hv H
   obtain rfl:=gG d
   exact (zT (zF (meet ⟨(),zK,H.pick [0,5,6,7,1,2,3,4,8,9,10]⟩)))
  have d:=zM a4 d
  obtain rfl:=gG d
  exact (zZ (zF (meet ⟨(),zK,H.pick [0,5,6,7,1,2,3,4,8,9,10]⟩)))
 rintro _ ρ hw H
 have d:=dp
 obtain ⟨U,d,d3⟩:=zC d
 refine yG [10,66,67,68,69,70,71,72,73,74,75,76,77,78,79,80,81,82,83,84,85,86,87,88,89,90,91,92,93,94,95,96,97] (fun (g:Value×(List Nat))=>[]) (fun g wl=>Hd O w wl S [.blk L [v1,y,s] 27,f1 Rp.str v1 l.Phases,f1 fP y l.Moves,f1 fZ s l.Rules,.mp o (fA Ky.str (fun v=>Value.int .i64 v) B),.mp p (fA Ky.str (fun v=>Value.int .i64 v) ([]:List (Str×Int))),.blk z [.map (some o),q,v1,.map (some p)] 209,.own (Rp.int .i64) q 3 C,.own Rp.str t 9 F,.own Rp.bool u 4 I,.blk A [t,i6 J,g.1,.slice none 0 0,u] 182,.tr (Rt.row gY 215 []) [g.1] g.2 U]) ?_ ?_
 ·skip
  refine zB fun hx d4=>zA<| zG (aJn rfl)<| Ld aRq H 0 1 rfl rfl ?_
  obtain ⟨d5,d6,d⟩:=zD d
  obtain ⟨hy,hz,d7⟩:=SlF.len ((H.item (i:=2) rfl))
  refine zG (yH (yZ u24 d7) (congrArg (Value.int .i64) d6))<| zH (i6 0)<| RN d4<| yD ?_
  have H:=jX H gY 215
  unfold Fdu at d
  obtain ⟨d8,bp,d9,d⟩:=yQ d
  refine xA [10,69,70,71,72,73,74,75,76,77,78,79,80,81,82,83,84,85,86,87,88,89,90,91,92,93,94,95,96,97] (fun (g:Nat×Int×(List fH)×Value×(List Nat))=>[(69,i6 g.2.1)]) (fun g wl=>Hd O w wl S [.blk L [v1,y,s] 27,f1 Rp.str v1 l.Phases,f1 fP y l.Moves,f1 fZ s l.Rules,.mp o (fA Ky.str (fun v=>Value.int .i64 v) B),.mp p (fA Ky.str (fun v=>Value.int .i64 v) ([]:List (Str×Int))),.blk z [.map (some o),q,v1,.map (some p)] 209,.own (Rp.int .i64) q 3 C,.own Rp.str t 9 F,.own Rp.bool u 4 I,.blk A [t,i6 J,g.2.2.2.1,.slice none 0 0,u] 182,.tr (Rt.row gY 215 []) [g.2.2.2.1] g.2.2.2.2 g.2.2.1]∧fV d8 g.1 (g.2.1,g.2.2.1)=some U) (fun g=>g.1) (bp,0,[],.slice none 0 0,[]) (zJ rfl zK) ⟨H.pick [0,1,2,3,4,5,6,7,8,9,10,11],d⟩ ?_
  clear H d
  rintro ⟨bp,Y,am,V,ai⟩ ρ h0 ⟨H,d⟩
  obtain ⟨ea,rfl,d⟩:=yT d
  have d:=yV d9 d
  refine zB fun h1 eb=>zA ?_
  obtain ⟨ec,ed,d⟩:=zD d
  refine zG (zO (xH (a:=Y) (b:=d5) rfl rfl) ed)<| RN eb<| zB fun h2 ee=>zW (b:=ec) rfl (fun a6=>?_) (fun a6=>?_)
  ·have d:=zN a6 d
   refine zZ (zF (ee _ _ ?_))
   refine zB fun h3 ef=>?_
   refine yD ?_
   refine zB fun h4 eg=>zA ?_
   obtain ⟨f,a7,d⟩:=zC d
   obtain ⟨ac,ad,h5,h6,eh,ei,ej,ek,el⟩:=wJ (H.item (i:=2) rfl) a7
   obtain ⟨D,rfl,em⟩:=sS ei
   have H:=H.fzs [.at ac (ad+Y.toNat * 9) _,.sl fO D f.When.Kids] ⟨⟨ej,ek,el⟩,em,trivial⟩
   refine zG (yS u24 uZ eh rfl (zU a7).1 (zU a7).2.1 rfl rfl)<| zG (yH (yI (cs:=[sb f.From,sb f.To,i6 f.When.Kind,sb f.When.Name,sb f.When.Other,i6 f.When.Op,i6 f.When.N,i6 f.When.Frames,D]) aIq rfl uZ rfl (H.item (i:=12) rfl).2.2) rfl)<| yP rfl rfl (xI aJj H) ?_
   rintro _ h7 ⟨av,rfl,H⟩
   refine yX rfl (yU (vs:=[sb f.From,sb f.To,i6 f.When.Kind,sb f.When.Name,sb f.When.Other,i6 f.When.Op,i6 f.When.N,i6 f.When.Frames,D]) H 14 rfl uZ rfl rfl rfl ⟨rfl,rfl,rfl,rfl,rfl,rfl,rfl,rfl,(dG (H.item (i:=13) rfl)),trivial⟩ rfl) ?_
   rintro a8 H
   refine RN eg ?_
   have en:=H
   have H:=H.rebase
   have eo:=H
   have an:Hd (O++bks (rest [4,5,6,7,8,9,11] [.blk L [v1,y,s] 27,f1 Rp.str v1 l.Phases,f1 fP y l.Moves,f1 fZ s l.Rules,.mp o (fA Ky.str (fun v=>Value.int .i64 v) B),.mp p (fA Ky.str (fun v=>Value.int .i64 v) ([]:List (Str×Int))),.blk z [.map (some o),q,v1,.map (some p)] 209,.own (Rp.int .i64) q 3 C,.own Rp.str t 9 F,.own Rp.bool u 4 I,.blk A [t,i6 J,V,.slice none 0 0,u] 182,.tr (Rt.row gY 215 []) [V] ai am,.fz (.at ac (ad+Y.toNat * 9) [sb f.From,sb f.To,i6 f.When.Kind,sb f.When.Name,sb f.When.Other,i6 f.When.Op,i6 f.When.N,i6 f.When.Frames,D]),f1 fO D f.When.Kids,.blk av [sb f.From,sb f.To,i6 f.When.Kind,sb f.When.Name,sb f.When.Other,i6 f.When.Op,i6 f.When.N,i6 f.When.Frames,D] 117])) a8 a8 (bks (Go.Lf.pick ([4,5,6,7,8,9,11]++ [1,2,3,12,13]) [.blk L [v1,y,s] 27,f1 Rp.str v1 l.Phases,f1 fP y l.Moves,f1 fZ s l.Rules,.mp o (fA Ky.str (fun v=>Value.int .i64 v) B),.mp p (fA Ky.str (fun v=>Value.int .i64 v) ([]:List (Str×Int))),.blk z [.map (some o),q,v1,.map (some p)] 209,.own (Rp.int .i64) q 3 C,.own Rp.str t 9 F,.own Rp.bool u 4 I,.blk A [t,i6 J,V,.slice none 0 0,u] 182,.tr (Rt.row gY 215 []) [V] ai am,.fz (.at ac (ad+Y.toNat * 9) [sb f.From,sb f.To,i6 f.When.Kind,sb f.When.Name,sb f.When.Other,i6 f.When.Op,i6 f.When.N,i6 f.When.Frames,D]),f1 fO D f.When.Kids,.blk av [sb f.From,sb f.To,i6 f.When.Kind,sb f.When.Name,sb f.When.Other,i6 f.When.Op,i6 f.When.N,i6 f.When.Frames,D] 117])) [.mp o (fA Ky.str (fun v=>Value.int .i64 v) B),.mp p (fA Ky.str (fun v=>Value.int .i64 v) ([]:List (Str×Int))),.blk z [.map (some o),q,v1,.map (some p)] 209,.own (Rp.int .i64) q 3 C,.own Rp.str t 9 F,.own Rp.bool u 4 I,.tr (Rt.row gY 215 []) [V] ai am,f1 Rp.str v1 l.Phases,f1 fP y l.Moves,f1 fZ s l.Rules,.fz (.at ac (ad+Y.toNat * 9) [sb f.From,sb f.To,i6 f.When.Kind,sb f.When.Name,sb f.When.Other,i6 f.When.Op,i6 f.When.N,i6 f.When.Frames,D]),f1 fO D f.When.Kids]:=H.enter [4,5,6,7,8,9,11] [1,2,3,12,13]
   have a9:=H.firmB an (i:=14) rfl (List.mem_append_right _ (List.mem_cons_of_mem _ (List.mem_cons_of_mem _ List.mem_cons_self)))
   have bq:=H.firmB an (i:=0) rfl (List.mem_append_right _ List.mem_cons_self)
   have ep:=H.firmB an (i:=10) rfl (List.mem_append_right _ (List.mem_cons_of_mem _ List.mem_cons_self))
   refine vX H an [1,2,3,4,5,6,7,8,9,10,11,12,13,14,15,16,17,18,19,20] 0 21 [22,23] [24] [.pure,.pure,.pure,.pure,.pure,.pure,.pure,.pure,.pure,.read,.pure,.pure,.pure,.pure,.read,.pure,.pure,.pure,.eff,.pure,.eff,.eff,.pure,.pure,.eff] ⟨trivial,trivial,trivial,trivial,trivial,trivial,trivial,trivial,trivial,trivial,trivial,trivial,trivial,trivial,trivial,trivial,trivial,trivial,trivial,trivial,trivial,trivial,trivial,trivial,trivial,trivial⟩ mixed (by kernel_rfl) (by kernel_rfl) (by kernel_rfl) (by kernel_rfl) (by kernel_rfl) (by decide) ?_
   have H:=an
   refine XM (gX A)<| XP (fun _ _=>yC rfl)<| XP (fun _ _=>aDb rfl)<| XP (fun n j=>xG aPd rfl (Cells.get (Blk.cells (ep n j)) (i:=2) rfl))<| XP (fun _ _=>nK rfl)<| XP (fun n j=>xG jJ rfl (Cells.get (Blk.cells (bq n j)) (i:=0) rfl))<| XP (fun _ _=>aRc rfl)<| XP (fun n j=>xG dX rfl (Cells.get (Blk.cells (a9 n j)) (i:=0) rfl)) ?_
   have er:=H
   obtain ⟨aw,es,d⟩:=zC d
   refine MxM.XL_call oS rfl rfl rfl (v:=i6 aw) (fun n j=>zY en85 rfl) (fun n j=>dV (Facw l.Phases f.From v1 _ es _ _ _ ((H.sees j).enter [] [7]))) ?_
   have H:=er
   refine XP (fun _ _=>nK rfl)<| XP (fun n j=>xG jJ rfl (Cells.get (Blk.cells (bq n j)) (i:=0) rfl))<| XP (fun _ _=>aQg rfl)<| XP (fun n j=>xG dX rfl (Cells.get (Blk.cells (a9 n j)) (i:=1) rfl)) ?_
   have et:=H
   obtain ⟨ax,eu,d⟩:=zC d
   refine MxM.XL_call oS rfl rfl rfl (v:=i6 ax) (fun n j=>zY en85 rfl) (fun n j=>dV (Facw l.Phases f.To v1 _ eu _ _ _ ((H.sees j).enter [] [7]))) ?_
   have H:=et
   refine XM (gX z)<| XP (fun _ _=>aDd rfl)<| XP (fun n j=>yH (yI (cs:=[i6 f.When.Kind,sb f.When.Name,sb f.When.Other,i6 f.When.Op,i6 f.When.N,i6 f.When.Frames,D]) dQ rfl dI rfl (Cells.drop (Blk.cells (a9 n j)) 2 7)) rfl) ?_
   obtain ⟨ew,ex,d⟩:=zC d
   refine MxM.XL_effC oS rfl rfl rfl (fun n j=>zY en148 rfl) (fun n j=>Ffv (fU.mk B C l.Phases ([]:List (Str×Int))) f.When z o q v1 p D _ ex _ _ _ ((H.sees j).enter [0,3,1,2] [7,11])) ?_
   rintro n _ h8 j ⟨br,h9,rfl,ey⟩
   have H:Hd _ _ _ _ [_,_,_,_,_,_,_,_,_,_,_,_,_]:=(H.sees j).back [0,3,1,2] [7,11] rfl ey
   refine ⟨_,rfl,H.only,?_⟩
   obtain ⟨ez,e0,e1⟩:=aCe (H.item (i:=8) rfl)
   refine XP (fun _ _=>xM (cs:=[i6 aw,i6 ax,br]) (by rw [e1]; exact aNc _ _ ez e0)) ?_
   obtain ⟨ia,H⟩:=jF (x:=fH.mk aw ax ew) H 8 rfl
   have H:Hd _ _ _ _ [_,_,_,_,_,_,_,_,_,_,_,_,_]:=H
   refine MxM.XL_ex oS rfl rfl rfl (fun n j=>aCv (H.sees j) 12 rfl aOq el215 (by decide) (by decide) (xP (vs:=[.agg [i6 aw,i6 ax,br].toArray]) (by decide) rfl rfl ⟨rfl,trivial⟩ rfl)) ?_
   rintro n ib ic j ⟨id,H⟩
   refine ⟨H.only,?_⟩
   have H:Hd _ _ _ _ [_,_,_,_,_,_,_,_,_,_,_,_,_]:=H
   refine MxM.xO fun ie hS=>?_
   have H:=H.sees hS
   obtain ⟨bt,bu,d⟩:=zC d
   refine MxM.XL_join (du:=73) (dv:=94) (fun g1 g2 wl=> ∃(ae:Value) (ao:List Nat),gX A=g1∧ae=g2∧Hd (O++bks (rest [4,5,6,7,8,9,11] [.blk L [v1,y,s] 27,f1 Rp.str v1 l.Phases,f1 fP y l.Moves,f1 fZ s l.Rules,.mp o (fA Ky.str (fun v=>Value.int .i64 v) B),.mp p (fA Ky.str (fun v=>Value.int .i64 v) ([]:List (Str×Int))),.blk z [.map (some o),q,v1,.map (some p)] 209,.own (Rp.int .i64) q 3 C,.own Rp.str t 9 F,.own Rp.bool u 4 I,.blk A [t,i6 J,V,.slice none 0 0,u] 182,.tr (Rt.row gY 215 []) [V] ai am,.fz (.at ac (ad+Y.toNat * 9) [sb f.From,sb f.To,i6 f.When.Kind,sb f.When.Name,sb f.When.Other,i6 f.When.Op,i6 f.When.N,i6 f.When.Frames,D]),f1 fO D f.When.Kids,.blk av [sb f.From,sb f.To,i6 f.When.Kind,sb f.When.Name,sb f.When.Other,i6 f.When.Op,i6 f.When.N,i6 f.When.Frames,D] 117])) a8 wl (bks (Go.Lf.pick ([4,5,6,7,8,9,11]++ [1,2,3,12,13]) [.blk L [v1,y,s] 27,f1 Rp.str v1 l.Phases,f1 fP y l.Moves,f1 fZ s l.Rules,.mp o (fA Ky.str (fun v=>Value.int .i64 v) B),.mp p (fA Ky.str (fun v=>Value.int .i64 v) ([]:List (Str×Int))),.blk z [.map (some o),q,v1,.map (some p)] 209,.own (Rp.int .i64) q 3 C,.own Rp.str t 9 F,.own Rp.bool u 4 I,.blk A [t,i6 J,V,.slice none 0 0,u] 182,.tr (Rt.row gY 215 []) [V] ai am,.fz (.at ac (ad+Y.toNat * 9) [sb f.From,sb f.To,i6 f.When.Kind,sb f.When.Name,sb f.When.Other,i6 f.When.Op,i6 f.When.N,i6 f.When.Frames,D]),f1 fO D f.When.Kids,.blk av [sb f.From,sb f.To,i6 f.When.Kind,sb f.When.Name,sb f.When.Other,i6 f.When.Op,i6 f.When.N,i6 f.When.Frames,D] 117])) [.own Rp.str t 9 F,.own Rp.bool u 4 I,f1 Rp.str v1 l.Phases,f1 fP y l.Moves,f1 fZ s l.Rules,.fz (.at ac (ad+Y.toNat * 9) [sb f.From,sb f.To,i6 f.When.Kind,sb f.When.Name,sb f.When.Other,i6 f.When.Op,i6 f.When.N,i6 f.When.Frames,D]),f1 fO D f.When.Kids,.mp o (fA Ky.str (fun v=>Value.int .i64 v) B),.own (Rp.int .i64) q 3 C,.mp p (fA Ky.str (fun v=>Value.int .i64 v) ([]:List (Str×Int))),.blk z [.map (some o),q,v1,.map (some p)] 209,.tr (Rt.row gY 215 []) [ae] ao bt]) ?_ ?_ ?_
   ·skip
    refine XM (gX A)<| MxM.XL_ex oS rfl rfl rfl (fun n j=>uK (H.sees j) 2 12 rfl rfl (by decide) aOq el215 rfl rfl bu) ?_
    rintro n ae ig j ⟨ao,H⟩
    refine ⟨H.only,?_⟩
    have H:Hd _ _ _ _ [_,_,_,_,_,_,_,_,_,_,_,_]:=H
    refine MxM.xO fun ih hS=>?_
    have H:=H.sees hS
    exact ⟨_,_,rfl,H.only,ae,ao,rfl,rfl,H⟩
   ·skip
    refine MxM.XL_ex oS rfl rfl rfl (fun n j=>uK (H.sees j) 2 12 rfl rfl (by decide) aOq el215 rfl rfl bu) ?_
    rintro n e2 ii j ⟨e3,H⟩
    refine ⟨H.only,?_⟩
    have H:Hd _ _ _ _ [_,_,_,_,_,_,_,_,_,_,_,_]:=H
    refine XM (gX A)<| MxM.xO fun ij hS=>?_
    have H:=H.sees hS
    exact ⟨_,_,MxM.upd_comm _ (by decide) _ _,H.only,e2,e3,rfl,rfl,H⟩
   rintro M' _ _ ik ⟨ae,ao,rfl,rfl,H⟩
   refine XP (fun _ _=>yC rfl)<| XP (fun _ _=>aDb rfl)<| MxM.xO fun il hS=>?_
   have H:=H.sees hS
   have H:=eo.back [4,5,6,7,8,9,11] [1,2,3,12,13] rfl H
   have H:Hd _ _ _ _ [_,_,_,_,_,_,_,_,_,_,_,_,_,_,_,_,_,_,_,_]:=H
   have H:Hd _ _ _ _ [_,_,_,_,_,_,_,_,_,_,_,_,_,_,_]:=H.pick [7,0,4,8,9,10,11,12,13,14,15,16,17,18,19]
   refine ⟨H.only,?_⟩
   refine MxM.XL_exU oS rfl rfl (fun n j=>xR (H.sees j) 2 rfl sz179 rfl (v:=ae) rfl (pR ((H.sees j).item (i:=14) rfl)) rfl) ?_
   rintro n im j H
   refine ⟨H.only,?_⟩
   refine MxM.xO fun io hS=>?_
   have H:=H.sees hS
   have H:=en.rejoin H
   refine yJ (zF (ef _ _ ?_))
   have H:Hd _ _ _ _ [_,_,_,_,_,_,_,_,_,_,_,_]:=H.pick [1,2,3,4,5,6,7,10,11,12,13,14]
   refine zA ?_
   obtain ⟨bv,e4,d⟩:=zD d
   refine zG (xC (a:=Y) (b:=1) rfl rfl e4)<| zH (i6 bv) ?_
   exact (zT (zF (meet ⟨(ea,bv,bt,ae,ao),(zJ rfl zK),⟨H.pick [0,4,5,6,7,9,10,8,2,3,1,11],d⟩,Nat.lt_succ_self _⟩)))
  have d:=zM a6 d
  obtain rfl:=gG d
  exact (xE (yK (yK (yR (zF (meet ⟨(V,ai),zK,H.pick [0,1,2,3,4,5,6,7,8,9,10,11]⟩))))))
 rintro ⟨M,Z⟩ ρ ip H
 have d:=d3
 obtain ⟨bw,d,e5⟩:=zC d
 refine yG [11,12,98,99,100,101,102,103,104,105,106,107,108,109,110,111,112,113,114,115,116,117,118,119,120,121,122,123,124,125,126] (fun (g:Value×(List Nat))=>[]) (fun g wl=>Hd O w wl S [.own Rp.str t 9 F,.own Rp.bool u 4 I,.blk A [t,i6 J,M,g.1,u] 182,.tr (Rt.row gY 215 []) [M] Z U,.tr (Rt.row fJ 212 []) [g.1] g.2 bw]) ?_ ?_
 ·skip
  refine zB fun iq e6=>zA<| zG (qQ rfl)<| Ld wO H 0 2 rfl rfl ?_
  obtain ⟨e7,e8,d⟩:=zD d
  obtain ⟨ir,it,e9⟩:=SlF.len ((H.item (i:=3) rfl))
  refine zG (yH (yZ u25 e9) (congrArg (Value.int .i64) e8))<| zH (i6 0)<| RN e6<| yD ?_
  have H:=jX H fJ 212
  unfold Fem at d
  obtain ⟨fa,bx,fb,d⟩:=yQ d
  refine xA [11,12,101,102,103,104,105,106,107,108,109,110,111,112,113,114,115,116,117,118,119,120,121,122,123,124,125,126] (fun (g:Nat×Int×(List (Str×Int))×(List Nd)×Value×(List Nat))=>[(101,i6 g.2.1)]) (fun g wl=>Hd O w wl S [f1 Rp.str v1 l.Phases,f1 fZ s l.Rules,.mp o (fA Ky.str (fun v=>Value.int .i64 v) B),.mp p (fA Ky.str (fun v=>Value.int .i64 v) g.2.2.1),.blk z [.map (some o),q,v1,.map (some p)] 209,.own (Rp.int .i64) q 3 C,.own Rp.str t 9 F,.own Rp.bool u 4 I,.blk A [t,i6 J,M,g.2.2.2.2.1,u] 182,.tr (Rt.row gY 215 []) [M] Z U,.tr (Rt.row fJ 212 []) [g.2.2.2.2.1] g.2.2.2.2.2 g.2.2.2.1]∧fV fa g.1 (g.2.1,g.2.2.1,g.2.2.2.1)=some bw) (fun g=>g.1) (bx,0,([]:List (Str×Int)),[],.slice none 0 0,[]) (zJ rfl zK) ⟨H.pick [1,3,4,5,6,7,8,9,10,11,12],d⟩ ?_
  clear H d
  rintro ⟨bx,Q,aa,ap,X,aj⟩ ρ iu ⟨H,d⟩
  obtain ⟨fc,rfl,d⟩:=yT d
  have d:=yV fb d
  refine zB fun iv fd=>zA ?_
  obtain ⟨fe,ff,d⟩:=zD d
  refine zG (zO (xH (a:=Q) (b:=e7) rfl rfl) ff)<| RN fd<| zB fun iw fg=>zW (b:=fe) rfl (fun ba=>?_) (fun ba=>?_)
  ·have d:=zN ba d
   refine zZ (zF (fg _ _ ?_))
   refine zB fun iy fh=>?_
   refine yD ?_
   refine zB fun iz fi=>zA<| zH (i6 Q) ?_
   obtain ⟨h,bb,d⟩:=zC d
   obtain ⟨af,ag,i0,i1,fj,fk,fm,fn,fo⟩:=wJ (H.item (i:=1) rfl) bb
   obtain ⟨E,rfl,fp⟩:=qV fk
   have H:=H.fzs [.at af (ag+Q.toNat * 8) _,.sl fO E h.When.Kids] ⟨⟨fm,fn,fo⟩,fp,trivial⟩
   refine zG (yS u25 rX fj rfl (zU bb).1 (zU bb).2.1 rfl rfl)<| zG (yH (yI (cs:=[sb h.Name,i6 h.When.Kind,sb h.When.Name,sb h.When.Other,i6 h.When.Op,i6 h.When.N,i6 h.When.Frames,E]) aJg rfl rX rfl (H.item (i:=11) rfl).2.2) rfl)<| yP rfl rfl (xI aIb H) ?_
   rintro _ i2 ⟨ay,rfl,H⟩
   refine zI (i6 Q)<| yX rfl (yU (vs:=[sb h.Name,i6 h.When.Kind,sb h.When.Name,sb h.When.Other,i6 h.When.Op,i6 h.When.N,i6 h.When.Frames,E]) H 13 rfl rX rfl rfl rfl ⟨rfl,rfl,rfl,rfl,rfl,rfl,rfl,(dG (H.item (i:=12) rfl)),trivial⟩ rfl) ?_
   rintro bc H
   refine RN fi<| zB fun i3 fq=>?_
   have fr:=H
   have H:=H.rebase
   have fs:=H
   have az:Hd (O++bks (rest [2,3,4,5,6,7,9,10] [f1 Rp.str v1 l.Phases,f1 fZ s l.Rules,.mp o (fA Ky.str (fun v=>Value.int .i64 v) B),.mp p (fA Ky.str (fun v=>Value.int .i64 v) aa),.blk z [.map (some o),q,v1,.map (some p)] 209,.own (Rp.int .i64) q 3 C,.own Rp.str t 9 F,.own Rp.bool u 4 I,.blk A [t,i6 J,M,X,u] 182,.tr (Rt.row gY 215 []) [M] Z U,.tr (Rt.row fJ 212 []) [X] aj ap,.fz (.at af (ag+Q.toNat * 8) [sb h.Name,i6 h.When.Kind,sb h.When.Name,sb h.When.Other,i6 h.When.Op,i6 h.When.N,i6 h.When.Frames,E]),f1 fO E h.When.Kids,.blk ay [sb h.Name,i6 h.When.Kind,sb h.When.Name,sb h.When.Other,i6 h.When.Op,i6 h.When.N,i6 h.When.Frames,E] 112])) bc bc (bks (Go.Lf.pick ([2,3,4,5,6,7,9,10]++ [0,1,11,12]) [f1 Rp.str v1 l.Phases,f1 fZ s l.Rules,.mp o (fA Ky.str (fun v=>Value.int .i64 v) B),.mp p (fA Ky.str (fun v=>Value.int .i64 v) aa),.blk z [.map (some o),q,v1,.map (some p)] 209,.own (Rp.int .i64) q 3 C,.own Rp.str t 9 F,.own Rp.bool u 4 I,.blk A [t,i6 J,M,X,u] 182,.tr (Rt.row gY 215 []) [M] Z U,.tr (Rt.row fJ 212 []) [X] aj ap,.fz (.at af (ag+Q.toNat * 8) [sb h.Name,i6 h.When.Kind,sb h.When.Name,sb h.When.Other,i6 h.When.Op,i6 h.When.N,i6 h.When.Frames,E]),f1 fO E h.When.Kids,.blk ay [sb h.Name,i6 h.When.Kind,sb h.When.Name,sb h.When.Other,i6 h.When.Op,i6 h.When.N,i6 h.When.Frames,E] 112])) [.mp o (fA Ky.str (fun v=>Value.int .i64 v) B),.mp p (fA Ky.str (fun v=>Value.int .i64 v) aa),.blk z [.map (some o),q,v1,.map (some p)] 209,.own (Rp.int .i64) q 3 C,.own Rp.str t 9 F,.own Rp.bool u 4 I,.tr (Rt.row gY 215 []) [M] Z U,.tr (Rt.row fJ 212 []) [X] aj ap,f1 Rp.str v1 l.Phases,f1 fZ s l.Rules,.fz (.at af (ag+Q.toNat * 8) [sb h.Name,i6 h.When.Kind,sb h.When.Name,sb h.When.Other,i6 h.When.Op,i6 h.When.N,i6 h.When.Frames,E]),f1 fO E h.When.Kids]:=H.enter [2,3,4,5,6,7,9,10] [0,1,11,12]
   have ft:=H.firmB az (i:=13) rfl (List.mem_append_right _ (List.mem_cons_of_mem _ List.mem_cons_self))
   have fu:=H.firmB az (i:=8) rfl (List.mem_append_right _ List.mem_cons_self)
   refine vX H az [1,2,3,4,5,6,7,8,9] 0 10 [11,12] [13] [.pure,.pure,.pure,.pure,.pure,.pure,.pure,.pure,.eff,.eff,.eff,.pure,.pure,.eff] ⟨trivial,trivial,trivial,trivial,trivial,trivial,trivial,trivial,trivial,trivial,trivial,trivial,trivial,trivial,trivial⟩ mixed (by kernel_rfl) (by kernel_rfl) (by kernel_rfl) (by kernel_rfl) (by kernel_rfl) (by decide) ?_
   have H:=az
   refine XM (gX A)<| XP (fun _ _=>yC rfl)<| XP (fun _ _=>aIc rfl)<| XP (fun n j=>xG aOz rfl (Cells.get (Blk.cells (fu n j)) (i:=3) rfl))<| XM (gX z)<| XP (fun _ _=>aDh rfl)<| XP (fun n j=>yH (yI (cs:=[i6 h.When.Kind,sb h.When.Name,sb h.When.Other,i6 h.When.Op,i6 h.When.N,i6 h.When.Frames,E]) dQ rfl dI rfl (Cells.drop (Blk.cells (ft n j)) 1 7)) rfl) ?_
   obtain ⟨i4,fv,d⟩:=zC d
   refine MxM.XL_effC oS rfl rfl rfl (fun n j=>zY en148 rfl) (fun n j=>Ffv (fU.mk B C l.Phases aa) h.When z o q v1 p E _ fv _ _ _ ((H.sees j).enter [0,3,1,2] [8,11])) ?_
   rintro n _ i5 j ⟨i7,i8,rfl,fw⟩
   have H:Hd _ _ _ _ [_,_,_,_,_,_,_,_,_,_,_,_,_]:=(H.sees j).back [0,3,1,2] [8,11] rfl fw
   refine ⟨_,rfl,H.only,?_⟩
   refine MxM.XL_ex oS rfl rfl rfl (fun n j=>aCv (H.sees j) 8 rfl uN aKi (by decide) (by decide) (aFt rfl rfl ⟨(pR (H.item (i:=8) rfl)),trivial⟩)) ?_
   rintro n i9 ja j ⟨jb,H⟩
   refine ⟨H.only,?_⟩
   have H:Hd _ _ _ _ [_,_,_,_,_,_,_,_,_,_,_,_,_]:=H
   refine MxM.xO fun jc hS=>?_
   have H:=H.sees hS
   obtain ⟨bz,b0,d⟩:=zC d
   refine MxM.XL_join (du:=106) (dv:=116) (fun g1 g2 wl=> ∃(ah:Value) (aq:List Nat),gX A=g1∧ah=g2∧Hd (O++bks (rest [2,3,4,5,6,7,9,10] [f1 Rp.str v1 l.Phases,f1 fZ s l.Rules,.mp o (fA Ky.str (fun v=>Value.int .i64 v) B),.mp p (fA Ky.str (fun v=>Value.int .i64 v) aa),.blk z [.map (some o),q,v1,.map (some p)] 209,.own (Rp.int .i64) q 3 C,.own Rp.str t 9 F,.own Rp.bool u 4 I,.blk A [t,i6 J,M,X,u] 182,.tr (Rt.row gY 215 []) [M] Z U,.tr (Rt.row fJ 212 []) [X] aj ap,.fz (.at af (ag+Q.toNat * 8) [sb h.Name,i6 h.When.Kind,sb h.When.Name,sb h.When.Other,i6 h.When.Op,i6 h.When.N,i6 h.When.Frames,E]),f1 fO E h.When.Kids,.blk ay [sb h.Name,i6 h.When.Kind,sb h.When.Name,sb h.When.Other,i6 h.When.Op,i6 h.When.N,i6 h.When.Frames,E] 112])) bc wl (bks (Go.Lf.pick ([2,3,4,5,6,7,9,10]++ [0,1,11,12]) [f1 Rp.str v1 l.Phases,f1 fZ s l.Rules,.mp o (fA Ky.str (fun v=>Value.int .i64 v) B),.mp p (fA Ky.str (fun v=>Value.int .i64 v) aa),.blk z [.map (some o),q,v1,.map (some p)] 209,.own (Rp.int .i64) q 3 C,.own Rp.str t 9 F,.own Rp.bool u 4 I,.blk A [t,i6 J,M,X,u] 182,.tr (Rt.row gY 215 []) [M] Z U,.tr (Rt.row fJ 212 []) [X] aj ap,.fz (.at af (ag+Q.toNat * 8) [sb h.Name,i6 h.When.Kind,sb h.When.Name,sb h.When.Other,i6 h.When.Op,i6 h.When.N,i6 h.When.Frames,E]),f1 fO E h.When.Kids,.blk ay [sb h.Name,i6 h.When.Kind,sb h.When.Name,sb h.When.Other,i6 h.When.Op,i6 h.When.N,i6 h.When.Frames,E] 112])) [.own Rp.str t 9 F,.own Rp.bool u 4 I,.tr (Rt.row gY 215 []) [M] Z U,f1 Rp.str v1 l.Phases,f1 fZ s l.Rules,.fz (.at af (ag+Q.toNat * 8) [sb h.Name,i6 h.When.Kind,sb h.When.Name,sb h.When.Other,i6 h.When.Op,i6 h.When.N,i6 h.When.Frames,E]),f1 fO E h.When.Kids,.mp o (fA Ky.str (fun v=>Value.int .i64 v) B),.own (Rp.int .i64) q 3 C,.mp p (fA Ky.str (fun v=>Value.int .i64 v) aa),.blk z [.map (some o),q,v1,.map (some p)] 209,.tr (Rt.row fJ 212 []) [ah] aq bz]) ?_ ?_ ?_
   ·skip
    refine XM (gX A)<| MxM.XL_ex oS rfl rfl rfl (fun n j=>uK (H.sees j) 3 12 rfl rfl (by decide) uN aKi rfl rfl b0) ?_
    rintro n ah jd j ⟨aq,H⟩
    refine ⟨H.only,?_⟩
    have H:Hd _ _ _ _ [_,_,_,_,_,_,_,_,_,_,_,_]:=H
    refine MxM.xO fun je hS=>?_
    have H:=H.sees hS
    exact ⟨_,_,rfl,H.only,ah,aq,rfl,rfl,H⟩
   ·skip
    refine MxM.XL_ex oS rfl rfl rfl (fun n j=>uK (H.sees j) 3 12 rfl rfl (by decide) uN aKi rfl rfl b0) ?_
    rintro n fx jf j ⟨fy,H⟩
    refine ⟨H.only,?_⟩
    have H:Hd _ _ _ _ [_,_,_,_,_,_,_,_,_,_,_,_]:=H
    refine XM (gX A)<| MxM.xO fun jg hS=>?_
    have H:=H.sees hS
    exact ⟨_,_,MxM.upd_comm _ (by decide) _ _,H.only,fx,fy,rfl,rfl,H⟩
   rintro M' _ _ jh ⟨ah,aq,rfl,rfl,H⟩
   refine XP (fun _ _=>yC rfl)<| XP (fun _ _=>aIc rfl)<| MxM.xO fun ji hS=>?_
   have H:=H.sees hS
   have H:=fs.back [2,3,4,5,6,7,9,10] [0,1,11,12] rfl H
   have H:Hd _ _ _ _ [_,_,_,_,_,_,_,_,_,_,_,_,_,_,_,_,_,_]:=H
   have H:Hd _ _ _ _ [_,_,_,_,_,_,_,_,_,_,_,_,_,_]:=H.pick [5,2,6,7,8,9,10,11,12,13,14,15,16,17]
   refine ⟨H.only,?_⟩
   refine MxM.XL_exU oS rfl rfl (fun n j=>xR (H.sees j) 1 rfl sz180 rfl (v:=ah) rfl (pR ((H.sees j).item (i:=13) rfl)) rfl) ?_
   rintro n jj j H
   refine ⟨H.only,?_⟩
   refine MxM.xO fun jk hS=>?_
   have H:=H.sees hS
   have H:=fr.rejoin H
   refine (zF (fq _ _ ?_))
   have H:Hd _ _ _ _ [_,_,_,_,_,_,_,_,_,_,_,_,_]:=H.pick [0,1,2,3,4,5,6,8,9,10,11,12,13]
   have f0:=H
   have H:=H.rebase
   have jl:=H
   refine wH H [0,1,2,3,4,5,6,7] (kz [0,0,0,1,0,1,0,3]) mixed ?_
   refine XM (gX z)<| XP (fun _ _=>yC rfl)<| XP (fun _ _=>aRo rfl)<| XR aEq H 11 3 rfl rfl<| XP (fun _ _=>aDa rfl)<| XR dX H 0 0 rfl rfl<| XM (i6 Q) ?_
   obtain ⟨f4,f5,d⟩:=zD d
   refine MxM.XL_exU oS rfl rfl (fun n j=>aBi (K:=Ky.str) (G:=(fun v=>Value.int .i64 v)) (m:=aa) (k:=h.Name) (v:=Q) (H.sees j) 10 rfl u71 u9 rfl rfl rfl f5) ?_
   rintro n jm j H
   refine ⟨H.only,?_⟩
   refine MxM.xO fun jn hS=>?_
   have H:=H.sees hS
   have H:=f0.rejoin H
   refine yJ (zF (fh _ _ ?_))
   refine zA ?_
   obtain ⟨b1,f6,d⟩:=zD d
   refine zG (xC (a:=Q) (b:=1) rfl rfl f6)<| zH (i6 b1) ?_
   exact (zT (zF (meet ⟨(fc,b1,f4,bz,ah,aq),(zJ rfl zK),⟨H.pick [5,6,8,10,11,9,2,3,1,4,12],d⟩,Nat.lt_succ_self _⟩)))
  have d:=zM ba d
  obtain rfl:=gG d
  exact (xE (yK (yK (yR (zF (meet ⟨(X,aj),zK,H.pick [6,7,8,9,10]⟩))))))
 rintro ⟨f7,f8⟩ ρ jo H
 have d:=e5
 refine zB fun jp f9=>zA<| zH (gX A)<| zI (gX A)<| RN f9 ?_
 have H:=H.freeze (i:=0) rfl
 have H:=H.freeze (i:=1) rfl
 obtain rfl:=gG d
 refine (zX (gV (v1:=gX A) rfl rfl ?_))
 exact ⟨A,t,M,Z,f7,f8,u,rfl,H.pick [0,3,4,1,2]⟩
theorem Fd1w (a:Rules)(h:List Track)(v1:Value)(b:Value)(c:Value)(d:Value)(r:gZ)(f:Fd1 a h=some r)(O S:List Nat)(w:World)(H:Hd O w w S [f1 Rp.str v1 a.Phases,f1 fP b a.Moves,f1 fZ c a.Rules,f1 fF d h]):
  Cl 96 [.agg [v1,b,c].toArray,d] w fun e n=> ∃u9 j k o l p m,e= .returned (gX u9)∧Hd O w n S [f1 Rp.str j r.phases,.tr (Rt.row gY 215 []) [k] o r.moves,.tr (Rt.row fJ 212 []) [l] p r.rules,f1 Rp.bool m r.possible,.blk u9 [j,i6 r.tracks,k,l,m] 182]:=by
 unfold Fd1 at f
 refine CW 8 Tryz.func96 ?_
 refine zB fun C q=>zA<| yP rfl rfl (xJ (cs:=[v1,b,c]) rfl H) ?_
 rintro _ D ⟨E,rfl,H⟩
 refine zI (.pointer none)<| RN q<| zB fun F s=>zA<| zG (yH (yI (cs:=[v1,b,c]) qM rfl aBj rfl (Hbc H 4 rfl)) rfl)<| zH d ?_
 obtain ⟨G,t,f⟩:=zC f
 refine yB rfl rfl (zY en119 rfl) (Fb4w a h v1 b c d _ t _ _ _ (H.enter [] [0,1,2,3])) ?_
 rintro _ I ⟨i,u,v,x,y,z,A,rfl,B⟩
 have H:=H.back1 [0,1,2,3] rfl B
 refine ⟨_,rfl,?_⟩
 refine zI (gX i)<| RN s ?_
 obtain rfl:=gG f
 refine (zX (gV (v1:=gX i) rfl rfl ?_))
 exact ⟨i,u,v,x,y,z,A,rfl,H.pick [5,6,7,8,9]⟩
theorem Faow (c:fB)(d:Int)(r:Int)(f:Fao c d=some r)(O S:List Nat)(w:World)(H:Hd O w w S []):
  Cl 187 [.agg [i6 c.At,i6 c.N,i6 c.Mark].toArray,i6 d] w fun e i=>e= .returned (i6 r)∧Hd O w i S []:=by
 unfold Fao at f
 refine CW 9 Tryz.func187 ?_
 refine zB fun m j=>zA<| yP rfl rfl (xJ (cs:=[i6 c.At,i6 c.N,i6 c.Mark]) rfl H) ?_
 rintro _ n ⟨o,rfl,H⟩
 refine zI (i6 0)<| RN j<| zB fun p k=>zA<| zG (aFc rfl)<| Ld fG H 0 0 rfl rfl<| zH (i6 d) ?_
 obtain ⟨h,l,f⟩:=zD f
 refine zG (kX (a:=c.At) (b:=d) rfl rfl l)<| zI (i6 h)<| RN k ?_
 obtain rfl:=gG f
 refine (zX (gV (v1:=i6 h) rfl rfl ?_))
 exact ⟨rfl,H.pick []⟩
theorem Fdtw (n:List fB)(h:Int)(v1:Value)(r:Int×Bool)(c:Fdt n h=some r)(O S:List Nat)(w:World)(H:Hd O w w S [f1 fM v1 n]):
  Cl 186 [v1,i6 h,.func (.func 187) #[] #[]] w fun e E=>e= .returned (.tuple #[i6 r.1,.bool r.2])∧Hd O w E S []:=by
 unfold Fdt at c
 refine CW 49 Tryz.func186 ?_
 refine zB fun K3 F=>zA<| zI (i6 0)<| zI (.bool false)<| RN F<| zB fun K4 G=>zA<| zH v1 ?_
 obtain ⟨k,I,c⟩:=zD c
 obtain ⟨a7,c8,J⟩:=SlF.len ((H.item (i:=0) rfl))
 refine zG (yH (yZ u88 J) (congrArg (Value.int .i64) I))<| zI (i6 k)<| RN G<| zB fun bc K=>zA<| zH (i6 k)<| zI (i6 0)<| zI (i6 k)<| RN K ?_
 obtain ⟨d,c,L⟩:=zC c
 refine yG [9,10,11,15,16,17,18,19,20,21,22,23,24,25,26,27,28,29,30,31,32,33,34] (fun (g:Unit)=>[(9,i6 d)]) (fun g wl=>Hd O w wl S [f1 fM v1 n]) ?_ ?_
 ·skip
  refine yD ?_
  unfold Fdn at c
  obtain ⟨M,z,P,c⟩:=yQ c
  refine xA [9,10,11,15,16,17,18,19,20,21,22,23,24,25,26,27,28,29,30,31,32,33,34] (fun (g:Nat×Int×Int)=>[(9,i6 g.2.1),(10,i6 g.2.2)]) (fun g wl=>Hd O w wl S [f1 fM v1 n]∧fV M g.1 (g.2.1,g.2.2)=some d) (fun g=>g.1) (z,0,k) (zJ rfl (zJ rfl zK)) ⟨H.pick [0],c⟩ ?_
  clear H c
  rintro ⟨z,l,m⟩ ρ bd ⟨H,c⟩
  obtain ⟨A,rfl,c⟩:=yT c
  have c:=yV P c
  refine zB fun be Q=>?_
  refine zB fun bf R=>zA<| zH (i6 l)<| zH (i6 m) ?_
  obtain ⟨T,U,c⟩:=zD c
  refine zG (zO (xH (a:=l) (b:=m) rfl rfl) U)<| RN R<| zW (b:=T) rfl (fun s=>?_) (fun s=>?_)
  ·have c:=zN s c
   refine zZ (zF (Q _ _ ?_))
   refine yD ?_
   refine zB fun bg V=>zA<| zH (i6 l)<| zH (i6 m) ?_
   obtain ⟨bh,X,c⟩:=zD c
   refine zG (xC (a:=l) (b:=m) rfl rfl X) ?_
   obtain ⟨Y,Z,c⟩:=zD c
   refine zG (mX u3 u134 rfl Z) ?_
   obtain ⟨bi,aa,c⟩:=zC c
   refine zG (qW (j:=Y) (q:=1) rfl rfl aa) ?_
   obtain ⟨f,ab,c⟩:=zD c
   refine zG (mX u134 u3 rfl ab)<| zI (i6 f)<| RN V<| zB fun bj ac=>zA<| zH (.func (.func 187) #[] #[])<| zH v1<| zH (i6 f) ?_
   obtain ⟨o,t,c⟩:=zC c
   obtain ⟨ad,ae,bk,bl,af,ag,ah,ai,aj⟩:=wJ (H.item (i:=0) rfl) t
   obtain rfl:=dY ag
   have H:=H.fz (.at ad (ae+f.toNat * 3) _) ⟨ah,ai,aj⟩
   refine zG (yS u88 mZ af rfl (zU t).1 (zU t).2.1 rfl rfl)<| zG (yH (yI (cs:=[i6 o.At,i6 o.N,i6 o.Mark]) aAl rfl mZ rfl (H.item (i:=1) rfl).2.2) rfl)<| zH (i6 h) ?_
   have ak:=H
   obtain ⟨al,am,c⟩:=zC c
   refine yB rfl rfl (bP en187 rfl rfl) (Faow o h _ am _ _ _ (H.enter [] [])) ?_
   rintro _ bm ⟨rfl,an⟩
   have H:=ak.step (an.only:Only [] _ _)
   refine ⟨_,rfl,?_⟩
   obtain ⟨ao,ap,c⟩:=zD c
   refine zG (zO (xH (a:=al) (b:=0) rfl rfl) ap)<| RN ac<| zW (b:=ao) rfl (fun u=>?_) (fun u=>?_)
   ·have c:=zN u c
    refine zA ?_
    refine zH (i6 f) ?_
    obtain ⟨B,aq,c⟩:=zD c
    refine zG (xC (a:=f) (b:=1) rfl rfl aq)<| zI (i6 B) ?_
    exact (zT (yJ (zF (meet ⟨(A,B,m),(zJ rfl (zJ rfl zK)),⟨H.pick [0],c⟩,Nat.lt_succ_self _⟩))))
   have c:=zM u c
   refine zA ?_
   refine zH (i6 f)<| zI (i6 f) ?_
   exact (zT (yJ (zF (meet ⟨(A,l,f),(zJ rfl (zJ rfl zK)),⟨H.pick [0],c⟩,Nat.lt_succ_self _⟩))))
  have c:=zM s c
  obtain rfl:=gG c
  exact (xE (yK (yK (yR (zF (meet ⟨(),(zJ rfl zK),H.pick [0]⟩))))))
 rintro _ ρ bn H
 have c:=L
 obtain ⟨C,c,ar⟩:=zC c
 refine yG [6,7,35,36,37,38,39,40,41,42,43,44,45,46,47,48] (fun (g:Unit)=>[(6,i6 d),(7,.bool C)]) (fun g wl=>Hd O w wl S []) ?_ ?_
 ·skip
  refine zA ?_
  refine zH (i6 d)<| zH (i6 d)<| zH (i6 k) ?_
  obtain ⟨au,av,c⟩:=zD c
  refine zG (zO (xH (a:=d) (b:=k) rfl rfl) av)<| yO (b:=au) rfl rfl rfl (fun x=>?_) (fun x=>?_)
  ·have c:=zN x c
   refine zH (.func (.func 187) #[] #[])<| zH v1<| zH (i6 d) ?_
   obtain ⟨p,y,c⟩:=zC c
   obtain ⟨aw,ax,bo,bp,ay,az,a0,a1,a2⟩:=wJ (H.item (i:=0) rfl) y
   obtain rfl:=dY az
   have H:=H.fz (.at aw (ax+d.toNat * 3) _) ⟨a0,a1,a2⟩
   refine zG (yS u88 mZ ay rfl (zU y).1 (zU y).2.1 rfl rfl)<| zG (yH (yI (cs:=[i6 p.At,i6 p.N,i6 p.Mark]) aAl rfl mZ rfl (H.item (i:=1) rfl).2.2) rfl)<| zH (i6 h) ?_
   have a3:=H
   obtain ⟨a4,a5,c⟩:=zC c
   refine yB rfl rfl (bP en187 rfl rfl) (Faow p h _ a5 _ _ _ (H.enter [] [])) ?_
   rintro _ bq ⟨rfl,a6⟩
   have H:=a3.step (a6.only:Only [] _ _)
   refine ⟨_,rfl,?_⟩
   obtain ⟨D,e283,c⟩:=zD c
   refine zG (zO (yY (a:=a4) (b:=0) rfl rfl) e283)<| zG (yL (v:= .bool D) rfl rfl)<| zI (i6 d)<| zI (.bool D) ?_
   obtain rfl:=gG c
   exact (zT (zF (meet ⟨(),(zJ rfl (zJ rfl zK)),H.pick []⟩)))
  have c:=zM x c
  refine yE ?_
  refine yE ?_
  refine yE ?_
  refine yE ?_
  refine yE ?_
  refine yE ?_
  refine yE ?_
  refine yE ?_
  refine zG (yF (v:= .bool false) rfl rfl)<| zI (i6 d)<| zI (.bool false) ?_
  obtain rfl:=gG c
  exact (zT (zF (meet ⟨(),(zJ rfl (zJ rfl zK)),H.pick []⟩)))
 rintro _ ρ br H
 have c:=ar
 obtain rfl:=gG c
 refine (zX (mW (v1:=i6 d) (v2:= .bool C) rfl rfl rfl ?_))
 exact ⟨rfl,H.pick []⟩
theorem Fb5w (f:Series)(i:Int)(v1:Value)(r:Int)(c:Fb5 f i=some r)(O S:List Nat)(w:World)(H:Hd O w w S [f1 fM v1 f.Samples]):
  Cl 175 [.agg [i6 f.Den,v1].toArray,i6 i] w fun e l=>e= .returned (i6 r)∧Hd O w l S []:=by
 unfold Fb5 at c
 refine CW 18 Tryz.func175 ?_
 refine zB fun z m=>zA<| yP rfl rfl (xJ (cs:=[i6 f.Den,v1]) rfl H) ?_
 rintro _ A ⟨B,rfl,H⟩
 refine zI (i6 0)<| RN m<| zB fun C n=>zA<| zG (nZ rfl)<| Ld uX H 1 1 rfl rfl<| zH (i6 i) ?_
 have o:=H
 obtain ⟨⟨d,h⟩,p,c⟩:=zC c
 refine yB rfl rfl (zY en186 rfl) (Fdtw f.Samples i v1 _ p _ _ _ (H.enter [] [0])) ?_
 rintro _ D ⟨rfl,q⟩
 have H:=o.step (q.only:Only [] _ _)
 refine ⟨_,rfl,?_⟩
 refine zH (.tuple #[i6 d,.bool h])<| zG (xU (v:=i6 d) rfl rfl)<| zG (xU (v:= .bool h) rfl rfl)<| zI (i6 d)<| zI (.bool h)<| RN n<| zB fun E s=>zB fun F t=>zA<| zH (.bool h)<| RN t<| zW (b:=h) rfl (fun j=>?_) (fun j=>?_)
 ·have c:=zN j c
  refine zB fun G u=>zA<| zH (i6 d)<| zI (i6 d)<| RN u ?_
  obtain rfl:=gG c
  refine (zX (zQ (gV (v1:=i6 d) rfl rfl ?_)))
  exact ⟨rfl,H.pick []⟩
 have c:=zM j c
 refine zZ (zF (s _ _ ?_))
 refine zB fun I x=>zA<| zH (i6 d) ?_
 obtain ⟨k,y,c⟩:=zD c
 refine zG (kX (a:=d) (b:=1) rfl rfl y)<| zI (i6 k)<| RN x ?_
 obtain rfl:=gG c
 refine (zX (gV (v1:=i6 k) rfl rfl ?_))
 exact ⟨rfl,H.pick []⟩
theorem Fd0w (c:fB)(r:Bool)(d:Fd0 c=some r)(O S:List Nat)(w:World)(H:Hd O w w S []):
  Cl 176 [.agg [i6 c.At,i6 c.N,i6 c.Mark].toArray] w fun e h=>e= .returned (.bool r)∧Hd O w h S []:=by
 unfold Fd0 at d
 refine CW 6 Tryz.func176 ?_
 refine zB fun l i=>zA<| yP rfl rfl (xJ (cs:=[i6 c.At,i6 c.N,i6 c.Mark]) rfl H) ?_
 rintro _ m ⟨n,rfl,H⟩
 refine zI (.bool false)<| RN i<| zB fun o j=>zA<| zG (aJq rfl)<| Ld fG H 0 2 rfl rfl ?_
 obtain ⟨f,k,d⟩:=zD d
 refine zG (zO (aN (a:=c.Mark) (b:=3) rfl rfl) k)<| zI (.bool f)<| RN j ?_
 obtain rfl:=gG d
 refine (zX (gV (v1:= .bool f) rfl rfl ?_))
 exact ⟨rfl,H.pick []⟩
theorem Fd2w (d:Series)(h:Int)(k:Int)(v1:Value)(r:fB×Bool)(c:Fd2 d h k=some r)(O S:List Nat)(w:World)(H:Hd O w w S [f1 fM v1 d.Samples]):
  Cl 168 [.agg [i6 d.Den,v1].toArray,i6 h,i6 k] w fun e A=>e= .returned (.tuple #[.agg [i6 r.1.At,i6 r.1.N,i6 r.1.Mark].toArray,.bool r.2])∧Hd O w A S []:=by
 unfold Fd2 at c
 refine CW 41 Tryz.func168 ?_
 refine zB fun K3 B=>zA<| yP rfl rfl (xJ (cs:=[i6 d.Den,v1]) rfl H) ?_
 rintro _ w6 ⟨u,rfl,H⟩
 refine yP rfl rfl (xI aFw H) ?_
 rintro _ w9 ⟨x,rfl,H⟩
 refine zI (.bool false)<| RN B<| zB fun a3 C=>zA<| zG (yH (yI (cs:=[i6 d.Den,v1]) aKa rfl sz90 rfl (Hbc H 1 rfl)) rfl)<| zH (i6 h) ?_
 have D:=H
 obtain ⟨f,E,c⟩:=zC c
 refine yB rfl rfl (zY en175 rfl) (Fb5w d h v1 _ E _ _ _ (H.enter [] [0])) ?_
 rintro _ a4 ⟨rfl,F⟩
 have H:=D.step (F.only:Only [] _ _)
 refine ⟨_,rfl,?_⟩
 refine zI (i6 f)<| RN C<| zB fun a5 G=>?_
 obtain ⟨y,c,I⟩:=zC c
 refine yG [12,13,14,15,16,17,18,19,20,21,22,23,24,25,26,27,28,29,30,31,32,33,34] (fun (g:Unit)=>[(34,.bool y)]) (fun g wl=>Hd O w wl S [f1 fM v1 d.Samples,.blk u [i6 d.Den,v1] 90,.blk x [i6 0,i6 0,i6 0] 94]) ?_ ?_
 ·skip
  refine zA ?_
  refine zH (i6 f) ?_
  obtain ⟨J,K,c⟩:=zD c
  refine zG (zO (xH (a:=f) (b:=0) rfl rfl) K) ?_
  obtain ⟨z,c,L⟩:=zC c
  refine dO 9 [14,15,16,17,18,19,20,21,22] [(22,.bool z)] (fun wl=>Hd O w wl S [f1 fM v1 d.Samples,.blk u [i6 d.Den,v1] 90,.blk x [i6 0,i6 0,i6 0] 94]) ?_ ?_
  ·skip
   refine yO (b:=J) rfl rfl rfl (fun m=>?_) (fun m=>?_)
   ·have c:=zN m c
    refine yE ?_
    refine yE ?_
    refine yE ?_
    refine yE ?_
    refine yE ?_
    refine yE ?_
    refine yE ?_
    refine zG (yL (v:= .bool true) rfl rfl) ?_
    obtain rfl:=gG c
    exact zT (zF (meet ⟨(zJ rfl zK),H.pick [0,1,2]⟩))
   have c:=zM m c
   refine zG (nZ rfl)<| Ld uX H 1 1 rfl rfl<| zH (i6 f) ?_
   obtain ⟨l,n,c⟩:=zC c
   obtain ⟨M,P,a6,a7,Q,R,T,U,V⟩:=wJ (H.item (i:=0) rfl) n
   obtain rfl:=dY R
   have H:=H.fz (.at M (P+f.toNat * 3) _) ⟨T,U,V⟩
   refine zG (yS u88 mZ Q rfl (zU n).1 (zU n).2.1 rfl rfl)<| zG (yH (yI (cs:=[i6 l.At,i6 l.N,i6 l.Mark]) aAl rfl mZ rfl (H.item (i:=3) rfl).2.2) rfl) ?_
   have X:=H
   obtain ⟨Y,Z,c⟩:=zC c
   refine yB rfl rfl (zY en176 rfl) (Fd0w l _ Z _ _ _ (H.enter [] [])) ?_
   rintro _ a8 ⟨rfl,aa⟩
   have H:=X.step (aa.only:Only [] _ _)
   refine ⟨_,rfl,?_⟩
   obtain ⟨ab,ac,c⟩:=zD c
   refine zG (zO (xX (p:=Y) rfl) ac)<| zG (yF (v:= .bool ab) rfl rfl) ?_
   obtain rfl:=gG c
   exact zT (zF (meet ⟨(zJ rfl zK),H.pick [0,1,2]⟩))
  rintro ρ a9 H
  have c:=L
  refine yO (b:=z) rfl rfl rfl (fun o=>?_) (fun o=>?_)
  ·have c:=zN o c
   refine yE ?_
   refine yE ?_
   refine yE ?_
   refine yE ?_
   refine yE ?_
   refine yE ?_
   refine yE ?_
   refine yE ?_
   refine yE ?_
   refine yE ?_
   refine zG (yL (v:= .bool true) rfl rfl) ?_
   obtain rfl:=gG c
   exact (zT (zF (meet ⟨(),(zJ rfl zK),H.pick [0,1,2]⟩)))
  have c:=zM o c
  refine zH (i6 h)<| zG (nZ rfl)<| Ld uX H 1 1 rfl rfl<| zH (i6 f) ?_
  obtain ⟨ad,q,c⟩:=zC c
  obtain ⟨ae,af,ba,bb,ag,ah,ai,aj,ak⟩:=wJ (H.item (i:=0) rfl) q
  obtain rfl:=dY ah
  have H:=H.fz (.at ae (af+f.toNat * 3) _) ⟨ai,aj,ak⟩
  refine zG (yS u88 mZ ag rfl (zU q).1 (zU q).2.1 rfl rfl)<| zG (aFc rfl)<| zG (xG fG rfl (Cells.get (H.item (i:=3) rfl).2.2 (i:=0) rfl)) ?_
  obtain ⟨al,am,c⟩:=zD c
  refine zG (kX (a:=h) (b:=ad.At) rfl rfl am)<| zH (i6 k) ?_
  obtain ⟨an,ao,c⟩:=zD c
  refine zG (zO (cZ (a:=al) (b:=k) rfl rfl) ao)<| zG (yF (v:= .bool an) rfl rfl) ?_
  obtain rfl:=gG c
  exact (zT (zF (meet ⟨(),(zJ rfl zK),H.pick [0,1,2]⟩)))
 rintro _ ρ bc H
 have c:=I
 refine zW (b:=y) rfl (fun s=>?_) (fun s=>?_)
 ·have c:=zN s c
  refine zB fun bd ap=>zA<| zG (xM (cs:=[i6 0,i6 0,i6 0]) bz94)<| yX rfl (yU (vs:=[i6 0,i6 0,i6 0]) H 2 rfl mZ rfl rfl rfl ⟨rfl,rfl,rfl,trivial⟩ rfl) ?_
  rintro be H
  refine zI (.bool false)<| RN ap ?_
  obtain rfl:=gG c
  refine (zX (zQ (kF (v1:= .bool false) rfl rfl (xK aAl mZ rfl (Hbc H 2 rfl)) rfl ?_)))
  exact ⟨rfl,H.pick []⟩
 have c:=zM s c
 refine zZ (zF (G _ _ ?_))
 refine zB fun bf aq=>zA<| zG (nZ rfl)<| Ld uX H 1 1 rfl rfl<| zH (i6 f) ?_
 obtain ⟨j,t,c⟩:=zC c
 obtain ⟨ar,au,bg,bh,av,aw,ax,ay,az⟩:=wJ (H.item (i:=0) rfl) t
 obtain rfl:=dY aw
 have H:=H.fz (.at ar (au+f.toNat * 3) _) ⟨ax,ay,az⟩
 refine zG (yS u88 mZ av rfl (zU t).1 (zU t).2.1 rfl rfl)<| zG (yH (yI (cs:=[i6 j.At,i6 j.N,i6 j.Mark]) aAl rfl mZ rfl (H.item (i:=3) rfl).2.2) rfl)<| yX rfl (yU (vs:=[i6 j.At,i6 j.N,i6 j.Mark]) H 2 rfl mZ rfl rfl rfl ⟨rfl,rfl,rfl,trivial⟩ rfl) ?_
 rintro bi H
 refine zI (.bool true)<| RN aq ?_
 obtain rfl:=gG c
 refine (zX (kF (v1:= .bool true) rfl rfl (xK aAl mZ rfl (Hbc H 2 rfl)) rfl ?_))
 exact ⟨rfl,H.pick []⟩
theorem Fdew (a:Series)(c:Int)(d:Int)(v1:Value)(r:fB×Bool)(f:Fde a c d=some r)(O S:List Nat)(w:World)(H:Hd O w w S [f1 fM v1 a.Samples]):
  Cl 150 [.agg [i6 a.Den,v1].toArray,i6 c,i6 d] w fun e i=>e= .returned (.tuple #[.agg [i6 r.1.At,i6 r.1.N,i6 r.1.Mark].toArray,.bool r.2])∧Hd O w i S []:=by
 unfold Fde at f
 refine CW 14 Tryz.func150 ?_
 refine zB fun o j=>zA<| yP rfl rfl (xJ (cs:=[i6 a.Den,v1]) rfl H) ?_
 rintro _ p ⟨q,rfl,H⟩
 refine yP rfl rfl (xI aFw H) ?_
 rintro _ s ⟨t,rfl,H⟩
 refine zI (.bool false)<| RN j<| zB fun u k=>zA<| zG (yH (yI (cs:=[i6 a.Den,v1]) aKa rfl sz90 rfl (Hbc H 1 rfl)) rfl)<| zH (i6 c)<| zH (i6 d) ?_
 have l:=H
 obtain ⟨⟨b,h⟩,m,f⟩:=zC f
 refine yB rfl rfl (zY en168 rfl) (Fd2w a c d v1 _ m _ _ _ (H.enter [] [0])) ?_
 rintro _ x ⟨rfl,n⟩
 have H:=l.step (n.only:Only [] _ _)
 refine ⟨_,rfl,?_⟩
 refine zG (xU (v:= .agg [i6 b.At,i6 b.N,i6 b.Mark].toArray) rfl rfl)<| zG (xU (v:= .bool h) rfl rfl)<| yX rfl (yU (vs:=[i6 b.At,i6 b.N,i6 b.Mark]) H 2 rfl mZ rfl rfl rfl ⟨rfl,rfl,rfl,trivial⟩ rfl) ?_
 rintro y H
 refine zI (.bool h)<| RN k ?_
 obtain rfl:=gG f
 refine (zX (kF (v1:= .bool h) rfl rfl (xK aAl mZ rfl (Hbc H 2 rfl)) rfl ?_))
 exact ⟨rfl,H.pick []⟩
theorem Fbqw (m:List Track)(k:Int)(v1:Value)(r:(List eQ))(c:Fbq m k=some r)(O S:List Nat)(w:World)(H:Hd O w w S [f1 fF v1 m]):
  Cl 121 [v1,i6 k] w fun e z=> ∃u3,e= .returned (u3)∧Hd O w z S [.own fD u3 224 r]:=by
 unfold Fbq at c
 refine CW 37 Tryz.func121 ?_
 refine zB fun K4 A=>zA<| zI (.slice none 0 0)<| RN A<| zB fun K5 B=>zA<| zI (.slice none 0 0)<| RN B ?_
 obtain ⟨q,c,C⟩:=zC c
 refine yG [5,7,8,9,10,11,12,13,14,15,16,17,18,19,20,21,22,23,24,25,26,27,28,29,30,31,32,33,34,35] (fun (g:Value)=>[(5,g)]) (fun g wl=>Hd O w wl S [.own fD g 224 q]) ?_ ?_
 ·skip
  refine zB fun aw D=>zA<| zH v1 ?_
  obtain ⟨E,F,c⟩:=zD c
  obtain ⟨ax,ay,G⟩:=SlF.len ((H.item (i:=0) rfl))
  refine zG (yH (yZ u45 G) (congrArg (Value.int .i64) F))<| zH (i6 0)<| RN D<| yD ?_
  have H:=aS H fD 224
  unfold Fe3 at c
  obtain ⟨I,s,J,c⟩:=yQ c
  refine xA [5,7,8,9,12,13,14,15,16,17,18,19,20,21,22,23,24,25,26,27,28,29,30,31,32,33,34,35] (fun (g:Nat×(List eQ)×Int×Value)=>[(5,g.2.2.2),(12,i6 g.2.2.1)]) (fun g wl=>Hd O w wl S [.own fD g.2.2.2 224 g.2.1,f1 fF v1 m]∧fV I g.1 (g.2.1,g.2.2.1)=some q) (fun g=>g.1) (s,[],0,.slice none 0 0) (zJ rfl (zJ rfl zK)) ⟨H.pick [1,0],c⟩ ?_
  clear H c
  rintro ⟨s,az,n,t⟩ ρ a0 ⟨H,c⟩
  obtain ⟨K,rfl,c⟩:=yT c
  have c:=yV J c
  refine zB fun a1 L=>zA ?_
  obtain ⟨M,P,c⟩:=zD c
  refine zG (zO (xH (a:=n) (b:=E) rfl rfl) P)<| RN L<| zB fun a2 Q=>zW (b:=M) rfl (fun o=>?_) (fun o=>?_)
  ·have c:=zN o c
   refine zZ (zF (Q _ _ ?_))
   refine zB fun a3 R=>?_
   refine yD ?_
   refine zB fun a4 T=>zA ?_
   obtain ⟨f,p,c⟩:=zC c
   obtain ⟨U,V,a5,a6,X,Y,Z,aa,ab⟩:=wJ (H.item (i:=1) rfl) p
   obtain ⟨j,rfl,ac⟩:=bY Y
   have H:=H.fzs [.at U (V+n.toNat * 4) _,.sl fM j f.Series.Samples] ⟨⟨Z,aa,ab⟩,ac,trivial⟩
   refine zG (yS u45 qR X rfl (zU p).1 (zU p).2.1 rfl rfl)<| zG (yH (yI (cs:=[sb f.Name,i6 f.Series.Den,j,i6 f.Long]) aFu rfl qR rfl (H.item (i:=2) rfl).2.2) rfl)<| yP rfl rfl (xI aHu H) ?_
   rintro _ a7 ⟨a8,rfl,H⟩
   refine yX rfl (yU (vs:=[sb f.Name,i6 f.Series.Den,j,i6 f.Long]) H 4 rfl qR rfl rfl rfl ⟨rfl,rfl,(dG (H.item (i:=3) rfl)),rfl,trivial⟩ rfl) ?_
   rintro a9 H
   refine RN T<| zB fun ba ad=>zA<| zG (vK rfl)<| zG (yH (yI (cs:=[i6 f.Series.Den,j]) aKa rfl sz90 rfl (Cells.drop (Hbc H 4 rfl) 1 2)) rfl)<| zH (i6 k) ?_
   obtain ⟨ae,af,c⟩:=zD c
   refine zG (rH (a:=64) (b:=k) rfl rfl af) ?_
   obtain ⟨ag,ah,c⟩:=zD c
   refine zG (xC (a:=ae) (b:=64) rfl rfl ah) ?_
   obtain ⟨ai,aj,c⟩:=zD c
   refine zG (kX (a:=ag) (b:=1) rfl rfl aj)<| zG (fa92_2 rfl)<| Ld fG H 4 3 rfl rfl ?_
   have ak:=H
   obtain ⟨⟨d,h⟩,al,c⟩:=zC c
   refine yB rfl rfl (zY en150 rfl) (Fdew f.Series ai f.Long j _ al _ _ _ (H.enter [] [3])) ?_
   rintro _ bb ⟨rfl,am⟩
   have H:=ak.step (am.only:Only [] _ _)
   refine ⟨_,rfl,?_⟩
   refine zH (.tuple #[.agg [i6 d.At,i6 d.N,i6 d.Mark].toArray,.bool h])<| zG (xU (v:= .agg [i6 d.At,i6 d.N,i6 d.Mark].toArray) rfl rfl)<| zG (xU (v:= .bool h) rfl rfl)<| yP rfl rfl (xI aFw H) ?_
   rintro _ bc ⟨bd,rfl,H⟩
   refine yX rfl (yU (vs:=[i6 d.At,i6 d.N,i6 d.Mark]) H 5 rfl mZ rfl rfl rfl ⟨rfl,rfl,rfl,trivial⟩ rfl) ?_
   rintro be H
   refine zI (.bool h)<| RN ad<| zA<| zH t<| zG (aEj rfl)<| Ld fG H 5 1 rfl rfl<| zH (.bool h)<| zG (xM (cs:=[i6 d.N,.bool h]) (bt224_0_1 _ _)) ?_
   obtain ⟨bf,an,c⟩:=zD c
   subst an
   refine yP rfl rfl (jK (r:=fD) (xl:=[eQ.mk d.N h]) (cs:=[i6 d.N,.bool h]) aBm aMs (by decide) (by decide) rfl (xP (vs:=[.agg [i6 d.N,.bool h].toArray]) (by decide) rfl rfl ⟨rfl,trivial⟩ rfl) H ⟨[i6 d.N,.bool h],[],rfl,(aHo (x:=eQ.mk d.N h)),rfl⟩) ?_
   rintro bg bh H
   obtain ⟨ao,ap,c⟩:=zC c
   refine yP rfl rfl (kC H (i:=0) rfl aBm aMs rfl rfl (Sr.of_own (H.item (i:=6) rfl)) ap) ?_
   rintro u bi H
   refine zI u<| (zT (yJ (zF (R _ _ ?_))))
   refine zA ?_
   obtain ⟨y,aq,c⟩:=zD c
   refine zG (xC (a:=n) (b:=1) rfl rfl aq)<| zH (i6 y) ?_
   exact (zT (zF (meet ⟨(K,ao,y,u),(zJ rfl (zJ rfl zK)),⟨H.pick [0,1],c⟩,Nat.lt_succ_self _⟩)))
  have c:=zM o c
  obtain rfl:=gG c
  exact (xE (yK (yK (yR (zF (meet ⟨t,(zJ rfl zK),H.pick [0]⟩))))))
 rintro l ρ bj H
 have c:=C
 refine zB fun bk ar=>zA<| zH l<| zI l<| RN ar ?_
 obtain rfl:=gG c
 refine (zX (gV (v1:=l) rfl rfl ?_))
 exact ⟨l,rfl,H.pick [0]⟩
theorem Fdpw (c:List Track)(a:Int)(v1:Value)(r:(List eQ))(b:Fdp c a=some r)(O S:List Nat)(w:World)(H:Hd O w w S [f1 fF v1 c]):
  Cl 98 [v1,i6 a] w fun e f=> ∃u3,e= .returned (u3)∧Hd O w f S [.own fD u3 224 r]:=by
 unfold Fdp at b
 refine CW 8 Tryz.func98 ?_
 refine zB fun l h=>zA<| zI (.slice none 0 0)<| RN h<| zB fun m i=>zA<| zH v1<| zH (i6 a) ?_
 obtain ⟨n,j,b⟩:=zC b
 refine yB rfl rfl (zY en121 rfl) (Fbqw c a v1 _ j _ _ _ (H.enter [] [0])) ?_
 rintro _ o ⟨d,rfl,k⟩
 have H:=H.back1 [0] rfl k
 refine ⟨_,rfl,?_⟩
 refine zI d<| RN i ?_
 obtain rfl:=gG b
 refine (zX (gV (v1:=d) rfl rfl ?_))
 exact ⟨d,rfl,H.pick [1]⟩
theorem Fal {F:Nat→Prop}{w:World}{v:Value}{bs:List Nat}{x:Nd}(h:(Th.tr fJ [v] bs x).holds F w): ∃f r,mJ Tryz.prog "orangebox/event.step" v f r:=by
 obtain ⟨u,e,h⟩:=h
 obtain rfl:v=u:=by simpa using e
 cases h
 ·exact ⟨_,_,dP (f:=209) (p:=false) (by kernel_rfl) (by kernel_rfl) en209⟩
 ·exact ⟨_,_,dP (f:=211) (p:=false) (by kernel_rfl) (by kernel_rfl) en211⟩
 ·exact ⟨_,_,dP (f:=216) (p:=false) (by kernel_rfl) (by kernel_rfl) en216⟩
 ·exact ⟨_,_,dP (f:=219) (p:=true) (by kernel_rfl) (by kernel_rfl) en219⟩
 ·exact ⟨_,_,dP (f:=221) (p:=false) (by kernel_rfl) (by kernel_rfl) en221⟩
 ·exact ⟨_,_,dP (f:=223) (p:=false) (by kernel_rfl) (by kernel_rfl) en223⟩
 ·exact ⟨_,_,dP (f:=225) (p:=true) (by kernel_rfl) (by kernel_rfl) en225⟩
 ·exact ⟨_,_,dP (f:=228) (p:=true) (by kernel_rfl) (by kernel_rfl) en228⟩
 ·exact ⟨_,_,dP (f:=230) (p:=true) (by kernel_rfl) (by kernel_rfl) en230⟩
 ·exact ⟨_,_,dP (f:=232) (p:=true) (by kernel_rfl) (by kernel_rfl) en232⟩
 exact ⟨_,_,dP (f:=234) (p:=true) (by kernel_rfl) (by kernel_rfl) en234⟩
abbrev Fas (f:Nd→gJ→Option (Int×Nd)):Prop:= ∀(p0:Nd) (p1:gJ) (v1:Value) (bs1:List Nat) (b1:Nat) (v52:Value) (v53:Value) (v54:Value) (fid:FuncId) (rv:Value) (hm:mJ Tryz.prog "orangebox/event.step" v1 fid rv) (r:Int×Nd) (_:f p0 p1=some r) (O S:List Nat) (w:World) (_:Hd O w w S [.tr fJ [v1] bs1 p0,.own (Rp.int .i64) v54 3 p1.rules,.blk b1 [v52,v53,v54] 218,f1 fD v52 p1.told,f1 Rp.bool v53 p1.possible]),
  Calls Tryz.prog fid ([rv,gX b1]:List Value).toArray w fun e w'=> ∃bs',e= .returned (i6 r.1)∧Hd O w w' S [.tr fJ [v1] bs' r.2,.own (Rp.int .i64) v54 3 p1.rules,.blk b1 [v52,v53,v54] 218]
theorem Fexw (a:mD)(b:gJ)(d:Nat)(f:Value)(h:Value)(c:Value)(r:Int)(i:Fex a b=some r)(O S:List Nat)(w:World)(H:Hd O w w S [.own (Rp.int .i64) c 3 b.rules,.blk d [f,h,c] 218,f1 fD f b.told,f1 Rp.bool h b.possible]):
  Cl 209 [.agg [i6 a.truth].toArray,gX d] w fun e j=>e= .returned (i6 r)∧Hd O w j S [.own (Rp.int .i64) c 3 b.rules,.blk d [f,h,c] 218]:=by
 unfold Fex at i
 refine CW 7 Tryz.func209 ?_
 refine zB fun m k=>zA<| yP rfl rfl (xJ (cs:=[i6 a.truth]) rfl H) ?_
 rintro _ n ⟨o,rfl,H⟩
 refine zI (i6 0)<| RN k<| zB fun p l=>zA<| zG (fa239_0 rfl)<| Ld fG H 4 0 rfl rfl<| zI (i6 a.truth)<| RN l ?_
 obtain rfl:=gG i
 refine (zX (gV (v1:=i6 a.truth) rfl rfl ?_))
 exact ⟨rfl,H.pick [0,1]⟩
theorem Fakw (d:Int)(r:Int)(c:Fak d=some r)(O S:List Nat)(w:World)(H:Hd O w w S []):
  Cl 214 [i6 d] w fun e k=>e= .returned (i6 r)∧Hd O w k S []:=by
 unfold Fak at c
 refine CW 9 Tryz.func214 ?_
 refine zB fun v l=>zA<| zI (i6 0)<| RN l<| zB fun x m=>yD<| zB fun y n=>zA<| zH (i6 d) ?_
 obtain ⟨i,o,c⟩:=zD c
 refine zG (zO (xH (a:=d) (b:=0) rfl rfl) o)<| zI (.bool i)<| RN n<| zW (b:=i) rfl (fun f=>?_) (fun f=>?_)
 ·have c:=zN f c
  refine zB fun z p=>zA<| zI (i6 (-1))<| RN p ?_
  obtain rfl:=gG c
  refine (zX (yA (zQ (gV (v1:=i6 (-1)) rfl rfl ?_))))
  exact ⟨rfl,H.pick []⟩
 have c:=zM f c
 refine zB fun A q=>zA<| zH (i6 d) ?_
 obtain ⟨j,s,c⟩:=zD c
 refine zG (zO (cZ (a:=d) (b:=0) rfl rfl) s)<| zI (.bool j)<| RN q<| zW (b:=j) rfl (fun h=>?_) (fun h=>?_)
 ·have c:=zN h c
  refine zB fun B t=>zA<| zI (i6 1)<| RN t ?_
  obtain rfl:=gG c
  refine (zX (yA (zQ (gV (v1:=i6 1) rfl rfl ?_))))
  exact ⟨rfl,H.pick []⟩
 have c:=zM h c
 refine (zZ (yJ (zF (m _ _ ?_))))
 refine zB fun C u=>zA<| zI (i6 0)<| RN u ?_
 obtain rfl:=gG c
 refine (zX (gV (v1:=i6 0) rfl rfl ?_))
 exact ⟨rfl,H.pick []⟩
set_option maxRecDepth 100000 in
theorem Fbdw (f:Int)(d:Int)(r:Bool)(c:Fbd f d=some r)(O S:List Nat)(w:World)(H:Hd O w w S []):
  Cl 213 [i6 f,i6 d] w fun e z=>e= .returned (.bool r)∧Hd O w z S []:=by
 unfold Fbd at c
 refine CW 28 Tryz.func213 ?_
 refine zB fun K1 A=>zA<| zI (.bool false)<| RN A<| zB fun ae B=>zB fun af C=>zA<| zH (i6 f)<| RN C<| yD<| zB fun ag D=>zA ?_
 obtain ⟨m,E,c⟩:=zD c
 refine zG (zO (yY (a:=f) (b:=1) rfl rfl) E)<| zI (.bool m)<| RN D<| zW (b:=m) rfl (fun h=>?_) (fun h=>?_)
 ·have c:=zN h c
  refine zB fun ah F=>zA<| zH (i6 d) ?_
  obtain ⟨n,G,c⟩:=zD c
  refine zG (zO (xH (a:=d) (b:=0) rfl rfl) G)<| zI (.bool n)<| RN F ?_
  obtain rfl:=gG c
  refine (zX (yA (zQ (gV (v1:= .bool n) rfl rfl ?_))))
  exact ⟨rfl,H.pick []⟩
 have c:=zM h c
 refine zB fun ai I=>zA ?_
 obtain ⟨o,J,c⟩:=zD c
 refine zG (zO (yY (a:=f) (b:=2) rfl rfl) J)<| zI (.bool o)<| RN I<| zW (b:=o) rfl (fun i=>?_) (fun i=>?_)
 ·have c:=zN i c
  refine zB fun aj K=>zA<| zH (i6 d) ?_
  obtain ⟨p,L,c⟩:=zD c
  refine zG (zO (pO (a:=d) (b:=0) rfl rfl) L)<| zI (.bool p)<| RN K ?_
  obtain rfl:=gG c
  refine (zX (yA (zQ (gV (v1:= .bool p) rfl rfl ?_))))
  exact ⟨rfl,H.pick []⟩
 have c:=zM i c
 refine zB fun ak M=>zA ?_
 obtain ⟨q,N,c⟩:=zD c
 refine zG (zO (yY (a:=f) (b:=3) rfl rfl) N)<| zI (.bool q)<| RN M<| zW (b:=q) rfl (fun j=>?_) (fun j=>?_)
 ·have c:=zN j c
  refine zB fun al P=>zA<| zH (i6 d) ?_
  obtain ⟨s,Q,c⟩:=zD c
  refine zG (zO (yY (a:=d) (b:=0) rfl rfl) Q)<| zI (.bool s)<| RN P ?_
  obtain rfl:=gG c
  refine (zX (yA (zQ (gV (v1:= .bool s) rfl rfl ?_))))
  exact ⟨rfl,H.pick []⟩
 have c:=zM j c
 refine zB fun am R=>zA ?_
 obtain ⟨t,T,c⟩:=zD c
 refine zG (zO (yY (a:=f) (b:=4) rfl rfl) T)<| zI (.bool t)<| RN R<| zW (b:=t) rfl (fun k=>?_) (fun k=>?_)
 ·have c:=zN k c
  refine zB fun an U=>zA<| zH (i6 d) ?_
  obtain ⟨u,V,c⟩:=zD c
  refine zG (zO (eX (a:=d) (b:=0) rfl rfl) V)<| zI (.bool u)<| RN U ?_
  obtain rfl:=gG c
  refine (zX (yA (zQ (gV (v1:= .bool u) rfl rfl ?_))))
  exact ⟨rfl,H.pick []⟩
 have c:=zM k c
 refine zB fun ao X=>zA ?_
 obtain ⟨v,Y,c⟩:=zD c
 refine zG (zO (yY (a:=f) (b:=5) rfl rfl) Y)<| zI (.bool v)<| RN X<| zW (b:=v) rfl (fun l=>?_) (fun l=>?_)
 ·have c:=zN l c
  refine zB fun ap Z=>zA<| zH (i6 d) ?_
  obtain ⟨x,aa,c⟩:=zD c
  refine zG (zO (aN (a:=d) (b:=0) rfl rfl) aa)<| zI (.bool x)<| RN Z ?_
  obtain rfl:=gG c
  refine (zX (yA (zQ (gV (v1:= .bool x) rfl rfl ?_))))
  exact ⟨rfl,H.pick []⟩
 have c:=zM l c
 refine (zZ (yJ (zF (B _ _ ?_))))
 refine zB fun aq ab=>zA<| zH (i6 d) ?_
 obtain ⟨y,ac,c⟩:=zD c
 refine zG (zO (cZ (a:=d) (b:=0) rfl rfl) ac)<| zI (.bool y)<| RN ab ?_
 obtain rfl:=gG c
 refine (zX (gV (v1:= .bool y) rfl rfl ?_))
 exact ⟨rfl,H.pick []⟩
theorem Fctw (c:Bool)(r:Int)(a:Fct c=some r)(O S:List Nat)(w:World)(H:Hd O w w S []):
  Cl 212 [.bool c] w fun e f=>e= .returned (i6 r)∧Hd O w f S []:=by
 unfold Fct at a
 refine CW 4 Tryz.func212 ?_
 refine zB fun m h=>zA<| zI (i6 0)<| RN h<| zB fun n i=>zB fun o j=>zA<| zH (.bool c)<| RN j<| zW (b:=c) rfl (fun d=>?_) (fun d=>?_)
 ·have a:=zN d a
  refine zB fun p k=>zA<| zI (i6 2)<| RN k ?_
  obtain rfl:=gG a
  refine (zX (zQ (gV (v1:=i6 2) rfl rfl ?_)))
  exact ⟨rfl,H.pick []⟩
 have a:=zM d a
 refine zZ (zF (i _ _ ?_))
 refine zB fun q l=>zA<| zI (i6 1)<| RN l ?_
 obtain rfl:=gG a
 refine (zX (gV (v1:=i6 1) rfl rfl ?_))
 exact ⟨rfl,H.pick []⟩
end Go.Proofs.YthllgjnlmjpinaaGreatDoor.L
