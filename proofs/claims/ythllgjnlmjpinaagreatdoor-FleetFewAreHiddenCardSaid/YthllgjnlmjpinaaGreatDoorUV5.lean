/- Walks: what each function computes, for every argument; no condition but those that stand in the statements. -/
import Derived.Test.YthllgjnlmjpinaaGreatDoorUV0
import Derived.Test.YthllgjnlmjpinaaGreatDoorUV1
import Derived.Test.YthllgjnlmjpinaaGreatDoorUV4
namespace Go.Proofs.YthllgjnlmjpinaaGreatDoor.L
open Go.RowKit Go.OB Go.Lf
set_option maxHeartbeats 4000000
set_option maxRecDepth 100000 in
theorem Fcvw (l:Rules)(T:List Track)(v1:Value)(y:Value)(s:Value)(R:Value)(r:gY)(d:Fcv l T=some r)(O S:List Nat)(w:World)(H:Hd O w w S [f1 Rp.str v1 l.Phases,f1 fO y l.Moves,f1 fU s l.Rules,f1 fD R T]):
  Cl 119 [.agg [v1,y,s].toArray,R] w fun e n=> ∃u9 bd be b2 bf b3 bg,e= .returned (gX u9)∧Hd O w n S [f1 Rp.str bd r.phases,.tr (Rt.row gW 215 []) [be] b2 r.moves,.tr (Rt.row fH 212 []) [bf] b3 r.rules,f1 Rp.bool bg r.possible,.blk u9 [bd,i6 r.tracks,be,bf,bg] 182]:=by
 unfold Fcv at d
 refine CW 128 Tryz.func119 ?_
 refine zB fun ga b4=>zA<| yP rfl rfl (xJ (cs:=[v1,y,s]) rfl H) ?_
 rintro _ gb ⟨L,rfl,H⟩
 refine zI (.pointer none)<| RN b4<| zB fun gc b5=>zA<| yP rfl rfl (aEm H) ?_
 rintro _ gd ⟨o,rfl,H⟩
 refine zG (nJ rfl)<| Ld jC H 4 0 rfl rfl<| yP rfl rfl (aEm H) ?_
 rintro _ ge ⟨p,rfl,H⟩
 obtain ⟨b6,b7,b8⟩: ∃a c,v1= .slice a _ c:=SlF.len ((H.item (i:=0) rfl))
 refine zG (xM (cs:=[.map (some o),.slice none 0 0,v1,.map (some p)]) (by rw [b8]; exact aJe _ b6 _ b7 _))<| yP rfl rfl (xJ (cs:=[.map (some o),.slice none 0 0,v1,.map (some p)]) rfl H) ?_
 rintro _ gf ⟨z,rfl,H⟩
 refine zI (gX z)<| RN b5 ?_
 obtain ⟨ar,d,b9⟩:=zD d
 refine yF [6,7,19,20,21,22,23,24,25,26,27,28,29,30,31,32,33,34,35,36,37,38,39,40,41,42,43,44,45] (fun (g:Value)=>[]) (fun g wl=>Hd O w wl S [f1 Rp.str v1 l.Phases,f1 fO y l.Moves,f1 fU s l.Rules,f1 fD R T,.blk L [v1,y,s] 27,.mp o (gZ Ky.str (fun v=>Value.int .i64 v) ar.1),.mp p (gZ Ky.str (fun v=>Value.int .i64 v) ([]:List (Str×Int))),.blk z [.map (some o),g,v1,.map (some p)] 209,.own (Rp.int .i64) g 3 ar.2]) ?_ ?_
 ·skip
  refine zB fun gg ca=>zA<| zJ R ?_
  obtain ⟨cb,cc,d⟩:=zC d
  obtain ⟨gh,gi,cd⟩:=SlF.len ((H.item (i:=3) rfl))
  refine zG (yJ (yZ u45 cd) (congrArg (Value.int .i64) cc))<| zJ (i6 0)<| RN ca<| yA ?_
  have H:=aQ H (Rp.int .i64) 3
  unfold Fcy at d
  obtain ⟨ce,bh,cf,d⟩:=yQ d
  refine xA [6,7,21,22,23,24,25,26,27,28,29,30,31,32,33,34,35,36,37,38,39,40,41,42,43,44,45] (fun (g:Nat×Int×(List (Str×Int))×(List Int)×Value)=>[(21,i6 g.2.1)]) (fun g wl=>Hd O w wl S [f1 Rp.str v1 l.Phases,f1 fO y l.Moves,f1 fU s l.Rules,f1 fD R T,.blk L [v1,y,s] 27,.mp o (gZ Ky.str (fun v=>Value.int .i64 v) g.2.2.1),.mp p (gZ Ky.str (fun v=>Value.int .i64 v) ([]:List (Str×Int))),.blk z [.map (some o),g.2.2.2.2,v1,.map (some p)] 209,.own (Rp.int .i64) g.2.2.2.2 3 g.2.2.2.1]∧fQ ce g.1 (g.2.1,g.2.2.1,g.2.2.2.1)=some ar) (fun g=>g.1) (bh,0,([]:List (Str×Int)),[],.slice none 0 0) (zH rfl zK) ⟨H.pick [0,1,2,3,4,5,6,7,8],d⟩ ?_
  clear H d
  rintro ⟨bh,ab,cg,gj,ch⟩ ρ gl ⟨H,d⟩
  obtain ⟨ci,rfl,d⟩:=yU d
  have d:=yV cf d
  refine zB fun gm cj=>zA ?_
  obtain ⟨ck,cl,d⟩:=zC d
  refine zG (zO (xG (a:=ab) (b:=cb) rfl rfl) cl)<| RN cj<| zB fun gn cm=>zU (b:=ck) rfl (fun a0=>?_) (fun a0=>?_)
  ·have d:=zN a0 d
   refine zV (zF (cm _ _ ?_))
   refine zB fun go cn=>?_
   refine yA ?_
   refine zB fun gp cp=>zA<| zJ (i6 ab) ?_
   obtain ⟨P,a1,d⟩:=zD d
   obtain ⟨cq,cr,gq,gr,ct,cu,cv,cw,cx⟩:=wG (H.item (i:=3) rfl) a1
   obtain ⟨a2,rfl,cy⟩:=bT cu
   have H:=H.fzs [.at cq (cr+ab.toNat * 4) _,.sl fK a2 P.Series.Samples] ⟨⟨cv,cw,cx⟩,cy,trivial⟩
   refine zG (yS u45 qG ct rfl (zS a1).1 (zS a1).2.1 rfl rfl)<| zG (yJ (yI (cs:=[sb P.Name,i6 P.Series.Den,a2,i6 P.Long]) aEj rfl qG rfl (H.item (i:=9) rfl).2.2) rfl)<| yP rfl rfl (xH aHc H) ?_
   rintro _ gs ⟨gt,rfl,H⟩
   refine zI (i6 ab)<| yY rfl (yT (vs:=[sb P.Name,i6 P.Series.Den,a2,i6 P.Long]) H 11 rfl qG rfl rfl rfl ⟨rfl,rfl,(dH (H.item (i:=10) rfl)),rfl,trivial⟩ rfl) ?_
   rintro gu H
   refine RN cp<| zB fun gv cz=>?_
   have c0:=H
   have H:=H.rebase
   have gw:=H
   refine wF H [0,1,2,3,4,5,6,7] (kz [0,0,0,1,0,1,0,3]) mixed ?_
   refine XM (gX z)<| XP (fun _ _=>yD rfl)<| XP (fun _ _=>aAd rfl)<| XR aDk H 7 0 rfl rfl<| XP (fun _ _=>uD rfl)<| XR dV H 11 0 rfl rfl<| XM (i6 ab) ?_
   obtain ⟨c1,c2,d⟩:=zC d
   refine MxM.XL_exU oS rfl rfl (fun n j=>aBb (K:=Ky.str) (G:=(fun v=>Value.int .i64 v)) (m:=cg) (k:=P.Name) (v:=ab) (H.sees j) 5 rfl u71 u9 rfl rfl rfl c2) ?_
   rintro n gx j H
   refine ⟨H.only,?_⟩
   refine MxM.xN fun gy hS=>?_
   have H:=H.sees hS
   have H:=c0.rejoin H
   refine (zF (cz _ _ ?_))
   have H:Hd _ _ _ _ [_,_,_,_,_,_,_,_,_,_,_]:=H.pick [0,1,2,3,4,5,6,7,8,10,11]
   have c3:=H
   have H:=H.rebase
   have gz:=H
   refine wF H [0,1,2,3,4,5,6,7,8,9,10,11,12] (kz [0,0,0,0,1,0,0,1,2,3,0,0,3]) mixed ?_
   refine XM (gX z)<| XM (gX z)<| XP (fun _ _=>yD rfl)<| XP (fun _ _=>aCf rfl)<| XR bY H 7 1 rfl rfl<| XP (fun _ _=>uN rfl)<| XP (fun _ _=>fa90_0 rfl)<| XR fF H 10 1 rfl rfl ?_
   obtain ⟨g0,c4,d⟩:=zC d
   subst c4
   refine MxM.XL_exN oS rfl rfl rfl (fun n j=>qY (mM (r:=(Rp.int .i64)) (xl:=[P.Series.Den]) (cs:=[i6 P.Series.Den]) u36 el3 (by decide) (by decide) rfl (xQ (vs:=[i6 P.Series.Den]) (by decide) rfl rfl ⟨rfl,trivial⟩ rfl) (H.sees j) ⟨[i6 P.Series.Den],[],rfl,rfl,rfl⟩) (Ys_bs (cs:=[i6 P.Series.Den]) u36 el3 (by decide) (by decide) (xQ (vs:=[i6 P.Series.Den]) (by decide) rfl rfl ⟨rfl,trivial⟩ rfl))) ?_
   rintro n v520 w521 j H
   obtain ⟨c5,c6,d⟩:=zD d
   refine MxM.XL_ex oS rfl rfl rfl (fun n j=>jF (H.sees j) (i:=8) rfl u36 el3 rfl rfl (Sr.of_own ((H.sees j).item (i:=11) rfl)) c6) ?_
   rintro n bi g3 j H
   refine ⟨H.only,?_⟩
   refine XP (fun _ _=>yD rfl)<| XP (fun _ _=>aCf rfl)<| MxM.XL_exU oS rfl rfl (fun n j=>xY (H.sees j) 7 rfl sz36 rfl (v:=bi) rfl (kD ((H.sees j).item (i:=8) rfl)) rfl) ?_
   rintro n g4 j H
   refine ⟨H.only,?_⟩
   refine MxM.xN fun g5 hS=>?_
   have H:=H.sees hS
   have H:=c3.rejoin H
   refine yH (zF (cn _ _ ?_))
   refine zA ?_
   obtain ⟨bj,c7,d⟩:=zC d
   refine zG (xC (a:=ab) (b:=1) rfl rfl c7)<| zJ (i6 bj) ?_
   exact (zT (zF (meet ⟨(ci,bj,c1,c5,bi),(zH rfl zK),⟨H.pick [0,1,2,3,4,5,6,7,8],d⟩,Nat.lt_succ_self _⟩)))
  have d:=zM a0 d
  obtain rfl:=gG d
  exact (xE (yK (yK (yR (zF (meet ⟨ch,zK,H.pick [0,1,2,3,4,5,6,7,8]⟩))))))
 rintro q ρ a3 H
 have d:=b9
 obtain ⟨B,C⟩:=ar
 refine zB fun g6 c8=>?_
 have c9:=H
 have H:=H.rebase
 have da:=H
 have bk:Hd (O++bks (rest [4,5,6,7,8] [f1 Rp.str v1 l.Phases,f1 fO y l.Moves,f1 fU s l.Rules,f1 fD R T,.blk L [v1,y,s] 27,.mp o (gZ Ky.str (fun v=>Value.int .i64 v) B),.mp p (gZ Ky.str (fun v=>Value.int .i64 v) ([]:List (Str×Int))),.blk z [.map (some o),q,v1,.map (some p)] 209,.own (Rp.int .i64) q 3 C])) a3 a3 (bks (Go.Lf.pick ([4,5,6,7,8]++ [0,1,2,3]) [f1 Rp.str v1 l.Phases,f1 fO y l.Moves,f1 fU s l.Rules,f1 fD R T,.blk L [v1,y,s] 27,.mp o (gZ Ky.str (fun v=>Value.int .i64 v) B),.mp p (gZ Ky.str (fun v=>Value.int .i64 v) ([]:List (Str×Int))),.blk z [.map (some o),q,v1,.map (some p)] 209,.own (Rp.int .i64) q 3 C])) [.blk L [v1,y,s] 27,.mp o (gZ Ky.str (fun v=>Value.int .i64 v) B),.mp p (gZ Ky.str (fun v=>Value.int .i64 v) ([]:List (Str×Int))),.blk z [.map (some o),q,v1,.map (some p)] 209,.own (Rp.int .i64) q 3 C,f1 Rp.str v1 l.Phases,f1 fO y l.Moves,f1 fU s l.Rules,f1 fD R T]:=H.enter [4,5,6,7,8] [0,1,2,3]
 refine vW H bk [0,1,3,4,5,6,7] 2 8 [9,10,11] [] [.pure,.read,.new,.pure,.pure,.pure,.read,.pure,.new,.pure,.new,.pure] ⟨trivial,trivial,trivial,trivial,trivial,trivial,trivial,trivial,trivial,trivial,trivial,trivial,trivial⟩ mixed (by kernel_rfl) (by kernel_rfl) (by kernel_rfl) (by kernel_rfl) (by kernel_rfl) (by decide) ?_
 have H:=bk
 refine XP (fun _ _=>nJ rfl)<| XR jC H 0 0 rfl rfl<| XM R ?_
 obtain ⟨J,db,d⟩:=zC d
 obtain ⟨g7,g8,dc⟩:=SlF.len ((H.item (i:=8) rfl))
 refine XP (fun _ _=>yJ (yZ u45 dc) (congrArg (Value.int .i64) db))<| XP (fun _ _=>nJ rfl)<| XR jC H 0 0 rfl rfl ?_
 obtain ⟨g9,dd,d⟩:=zC d
 obtain ⟨ha,hb,de⟩:=SlF.len ((H.item (i:=5) rfl))
 refine XP (fun _ _=>yJ (yZ u23 de) (congrArg (Value.int .i64) dd))<| MxM.xN fun hc hS=>?_
 have H:=H.sees hS
 obtain ⟨F,bl,d⟩:=zD d
 obtain ⟨df,au,d⟩:=zD d
 refine MxM.XL_join (du:=48) (dv:=54) (fun g1 g2 wl=> ∃(t:Value) (u:Value),t=g1∧u=g2∧Hd (O++bks (rest [4,5,6,7,8] [f1 Rp.str v1 l.Phases,f1 fO y l.Moves,f1 fU s l.Rules,f1 fD R T,.blk L [v1,y,s] 27,.mp o (gZ Ky.str (fun v=>Value.int .i64 v) B),.mp p (gZ Ky.str (fun v=>Value.int .i64 v) ([]:List (Str×Int))),.blk z [.map (some o),q,v1,.map (some p)] 209,.own (Rp.int .i64) q 3 C])) a3 wl (bks (Go.Lf.pick ([4,5,6,7,8]++ [0,1,2,3]) [f1 Rp.str v1 l.Phases,f1 fO y l.Moves,f1 fU s l.Rules,f1 fD R T,.blk L [v1,y,s] 27,.mp o (gZ Ky.str (fun v=>Value.int .i64 v) B),.mp p (gZ Ky.str (fun v=>Value.int .i64 v) ([]:List (Str×Int))),.blk z [.map (some o),q,v1,.map (some p)] 209,.own (Rp.int .i64) q 3 C])) [.blk L [v1,y,s] 27,.mp o (gZ Ky.str (fun v=>Value.int .i64 v) B),.mp p (gZ Ky.str (fun v=>Value.int .i64 v) ([]:List (Str×Int))),.blk z [.map (some o),q,v1,.map (some p)] 209,.own (Rp.int .i64) q 3 C,f1 Rp.str v1 l.Phases,f1 fO y l.Moves,f1 fU s l.Rules,f1 fD R T,.own Rp.str t 9 F,.own Rp.bool u 4 df]) ?_ ?_ ?_
 ·skip
  refine MxM.XL_newC oS rfl rfl rfl (fun n j=>zZ en147 rfl) (fun n j=>Fbnw l.Phases v1 _ bl _ _ _ ((H.sees j).enter [] [5])) ?_
  rintro n _ he j ⟨t,rfl,bm⟩
  have H:=(H.sees j).back1 [5] rfl bm
  refine ⟨_,rfl,(bm.only:Only [] _ _).below,?_⟩
  refine MxM.XL_exN oS rfl rfl rfl (fun n j=>qY (sN (r:=Rp.bool) (zv:= .bool false) pR el4 rfl (fun _ _=>rfl) rfl rfl au (H.sees j)) (aPm pR el4 rfl rfl rfl au)) ?_
  rintro n u hf j H
  refine MxM.xN fun hg hS=>?_
  have H:=H.sees hS
  exact ⟨_,_,rfl,H.only,t,u,rfl,rfl,H⟩
 ·skip
  refine MxM.XL_exN oS rfl rfl rfl (fun n j=>qY (sN (r:=Rp.bool) (zv:= .bool false) pR el4 rfl (fun _ _=>rfl) rfl rfl au (H.sees j)) (aPm pR el4 rfl rfl rfl au)) ?_
  rintro n dg hh j H
  refine MxM.XL_newC oS rfl rfl rfl (fun n j=>zZ en147 rfl) (fun n j=>Fbnw l.Phases v1 _ bl _ _ _ ((H.sees j).enter [] [5])) ?_
  rintro n _ hi j ⟨dh,rfl,bn⟩
  have H:=(H.sees j).back1 [5] rfl bn
  refine ⟨_,rfl,(bn.only:Only [] _ _).below,?_⟩
  refine MxM.xN fun hj hS=>?_
  have H:=H.sees hS
  have H:=H.pick [0,1,2,3,4,5,6,7,8,10,9]
  exact ⟨_,_,MxM.upd_comm _ (by decide) _ _,H.only,dh,dg,rfl,rfl,H⟩
 rintro M' _ _ hk ⟨t,u,rfl,rfl,H⟩
 obtain ⟨di,dj,dk⟩: ∃a c,t= .slice a _ c:=Sr.len (Sr.of_own (H.item (i:=9) rfl))
 obtain ⟨dl,dm,dn⟩: ∃a c,u= .slice a _ c:=Sr.len (Sr.of_own (H.item (i:=10) rfl))
 refine XP (fun _ _=>xM (cs:=[t,i6 J,.slice none 0 0,.slice none 0 0,u]) (by rw [dk,dn]; exact aJq di _ dj _ dl _ dm))<| MxM.XL_exN oS rfl rfl rfl (fun n j=>qY (xJ (cs:=[t,i6 J,.slice none 0 0,.slice none 0 0,u]) rfl (H.sees j)) (aAv (cs:=[t,i6 J,.slice none 0 0,.slice none 0 0,u]) rfl)) ?_
 rintro n _ hl j ⟨A,rfl,H⟩
 refine XP (fun _ _=>xI (v:=gX A) rfl)<| MxM.xN fun hn hS=>?_
 have H:=H.sees hS
 have H:=da.back [4,5,6,7,8] [0,1,2,3] rfl H
 have H:Hd _ _ _ _ [_,_,_,_,_,_,_,_,_,_,_,_,_,_,_,_]:=H
 have H:Hd _ _ _ _ [_,_,_,_,_,_,_,_,_,_,_,_]:=H.pick [4,5,6,7,8,9,10,11,12,13,14,15]
 refine ⟨H.only,?_⟩
 refine MxM.xN fun ho hS=>?_
 have H:=H.sees hS
 have H:=c9.rejoin H
 refine (zF (c8 _ _ ?_))
 have H:Hd _ _ _ _ [_,_,_,_,_,_,_,_,_,_,_]:=H.pick [0,1,2,3,4,5,6,7,9,10,11]
 obtain ⟨I,d,dp⟩:=zD d
 refine yF [57,58,59,60,61,62,63,64,65] (fun (g:Unit)=>[]) (fun g wl=>Hd O w wl S [.blk L [v1,y,s] 27,f1 Rp.str v1 l.Phases,f1 fO y l.Moves,f1 fU s l.Rules,.mp o (gZ Ky.str (fun v=>Value.int .i64 v) B),.mp p (gZ Ky.str (fun v=>Value.int .i64 v) ([]:List (Str×Int))),.blk z [.map (some o),q,v1,.map (some p)] 209,.own (Rp.int .i64) q 3 C,.own Rp.str t 9 F,.own Rp.bool u 4 I,.blk A [t,i6 J,.slice none 0 0,.slice none 0 0,u] 182]) ?_ ?_
 ·skip
  refine zB fun hp dq=>zA<| zG (nJ rfl)<| Ld jC H 0 0 rfl rfl ?_
  obtain ⟨dr,ds,d⟩:=zC d
  obtain ⟨hq,hr,dt⟩:=SlF.len ((H.item (i:=5) rfl))
  refine zG (yJ (yZ u23 dt) (congrArg (Value.int .i64) ds)) ?_
  obtain ⟨dw,dx,d⟩:=zC d
  refine zG (zO (cO (a:=dr) (b:=0) rfl rfl) dx)<| RN dq<| zU (b:=dw) rfl (fun a4=>?_) (fun a4=>?_)
  ·have d:=zN a4 d
   refine zA ?_
   refine zJ (gX A)<| zG (yD rfl)<| zG (vF rfl)<| Ld sD H 10 4 rfl rfl ?_
   obtain ⟨dy,a5,d⟩:=zD d
   obtain ⟨hs,ht,dz,bo,d0,d1⟩:=bH (H.item (i:=9) rfl) a5
   obtain rfl:dz= [.bool dy]:=d0
   refine zG (yS pR sz4 bo rfl (zS a5).1 (zS a5).2.1 rfl rfl) ?_
   obtain ⟨hu,d2,d⟩:=zD d
   refine yY rfl (bF (vs:=[.bool true]) (off:=0) H 9 rfl bo d1 rfl sz4 rfl rfl rfl (dJ ⟨rfl,trivial⟩) d2 (by decide) rfl rfl) ?_
   rintro hv H
   obtain rfl:=gG d
   exact (zT (zF (meet ⟨(),zK,H.pick [0,5,6,7,1,2,3,4,8,9,10]⟩)))
  have d:=zM a4 d
  obtain rfl:=gG d
  exact (zV (zF (meet ⟨(),zK,H.pick [0,5,6,7,1,2,3,4,8,9,10]⟩)))
 rintro _ ρ hw H
 have d:=dp
 obtain ⟨U,d,d3⟩:=zD d
 refine yF [10,66,67,68,69,70,71,72,73,74,75,76,77,78,79,80,81,82,83,84,85,86,87,88,89,90,91,92,93,94,95,96,97] (fun (g:Value×(List Nat))=>[]) (fun g wl=>Hd O w wl S [.blk L [v1,y,s] 27,f1 Rp.str v1 l.Phases,f1 fO y l.Moves,f1 fU s l.Rules,.mp o (gZ Ky.str (fun v=>Value.int .i64 v) B),.mp p (gZ Ky.str (fun v=>Value.int .i64 v) ([]:List (Str×Int))),.blk z [.map (some o),q,v1,.map (some p)] 209,.own (Rp.int .i64) q 3 C,.own Rp.str t 9 F,.own Rp.bool u 4 I,.blk A [t,i6 J,g.1,.slice none 0 0,u] 182,.tr (Rt.row gW 215 []) [g.1] g.2 U]) ?_ ?_
 ·skip
  refine zB fun hx d4=>zA<| zG (aHp rfl)<| Ld aOd H 0 1 rfl rfl ?_
  obtain ⟨d5,d6,d⟩:=zC d
  obtain ⟨hy,hz,d7⟩:=SlF.len ((H.item (i:=2) rfl))
  refine zG (yJ (yZ u24 d7) (congrArg (Value.int .i64) d6))<| zJ (i6 0)<| RN d4<| yA ?_
  have H:=jV H gW 215
  unfold Fds at d
  obtain ⟨d8,bp,d9,d⟩:=yQ d
  refine xA [10,69,70,71,72,73,74,75,76,77,78,79,80,81,82,83,84,85,86,87,88,89,90,91,92,93,94,95,96,97] (fun (g:Nat×Int×(List fG)×Value×(List Nat))=>[(69,i6 g.2.1)]) (fun g wl=>Hd O w wl S [.blk L [v1,y,s] 27,f1 Rp.str v1 l.Phases,f1 fO y l.Moves,f1 fU s l.Rules,.mp o (gZ Ky.str (fun v=>Value.int .i64 v) B),.mp p (gZ Ky.str (fun v=>Value.int .i64 v) ([]:List (Str×Int))),.blk z [.map (some o),q,v1,.map (some p)] 209,.own (Rp.int .i64) q 3 C,.own Rp.str t 9 F,.own Rp.bool u 4 I,.blk A [t,i6 J,g.2.2.2.1,.slice none 0 0,u] 182,.tr (Rt.row gW 215 []) [g.2.2.2.1] g.2.2.2.2 g.2.2.1]∧fQ d8 g.1 (g.2.1,g.2.2.1)=some U) (fun g=>g.1) (bp,0,[],.slice none 0 0,[]) (zH rfl zK) ⟨H.pick [0,1,2,3,4,5,6,7,8,9,10,11],d⟩ ?_
  clear H d
  rintro ⟨bp,Y,am,V,ai⟩ ρ h0 ⟨H,d⟩
  obtain ⟨ea,rfl,d⟩:=yU d
  have d:=yV d9 d
  refine zB fun h1 eb=>zA ?_
  obtain ⟨ec,ed,d⟩:=zC d
  refine zG (zO (xG (a:=Y) (b:=d5) rfl rfl) ed)<| RN eb<| zB fun h2 ee=>zU (b:=ec) rfl (fun a6=>?_) (fun a6=>?_)
  ·have d:=zN a6 d
   refine zV (zF (ee _ _ ?_))
   refine zB fun h3 ef=>?_
   refine yA ?_
   refine zB fun h4 eg=>zA ?_
   obtain ⟨f,a7,d⟩:=zD d
   obtain ⟨ac,ad,h5,h6,eh,ei,ej,ek,el⟩:=wG (H.item (i:=2) rfl) a7
   obtain ⟨D,rfl,em⟩:=sH ei
   have H:=H.fzs [.at ac (ad+Y.toNat * 9) _,.sl fM D f.When.Kids] ⟨⟨ej,ek,el⟩,em,trivial⟩
   refine zG (yS u24 tY eh rfl (zS a7).1 (zS a7).2.1 rfl rfl)<| zG (yJ (yI (cs:=[sb f.From,sb f.To,i6 f.When.Kind,sb f.When.Name,sb f.When.Other,i6 f.When.Op,i6 f.When.N,i6 f.When.Frames,D]) aIe rfl tY rfl (H.item (i:=12) rfl).2.2) rfl)<| yP rfl rfl (xH aHo H) ?_
   rintro _ h7 ⟨av,rfl,H⟩
   refine yY rfl (yT (vs:=[sb f.From,sb f.To,i6 f.When.Kind,sb f.When.Name,sb f.When.Other,i6 f.When.Op,i6 f.When.N,i6 f.When.Frames,D]) H 14 rfl tY rfl rfl rfl ⟨rfl,rfl,rfl,rfl,rfl,rfl,rfl,rfl,(dH (H.item (i:=13) rfl)),trivial⟩ rfl) ?_
   rintro a8 H
   refine RN eg ?_
   have en:=H
   have H:=H.rebase
   have eo:=H
   have an:Hd (O++bks (rest [4,5,6,7,8,9,11] [.blk L [v1,y,s] 27,f1 Rp.str v1 l.Phases,f1 fO y l.Moves,f1 fU s l.Rules,.mp o (gZ Ky.str (fun v=>Value.int .i64 v) B),.mp p (gZ Ky.str (fun v=>Value.int .i64 v) ([]:List (Str×Int))),.blk z [.map (some o),q,v1,.map (some p)] 209,.own (Rp.int .i64) q 3 C,.own Rp.str t 9 F,.own Rp.bool u 4 I,.blk A [t,i6 J,V,.slice none 0 0,u] 182,.tr (Rt.row gW 215 []) [V] ai am,.fz (.at ac (ad+Y.toNat * 9) [sb f.From,sb f.To,i6 f.When.Kind,sb f.When.Name,sb f.When.Other,i6 f.When.Op,i6 f.When.N,i6 f.When.Frames,D]),f1 fM D f.When.Kids,.blk av [sb f.From,sb f.To,i6 f.When.Kind,sb f.When.Name,sb f.When.Other,i6 f.When.Op,i6 f.When.N,i6 f.When.Frames,D] 117])) a8 a8 (bks (Go.Lf.pick ([4,5,6,7,8,9,11]++ [1,2,3,12,13]) [.blk L [v1,y,s] 27,f1 Rp.str v1 l.Phases,f1 fO y l.Moves,f1 fU s l.Rules,.mp o (gZ Ky.str (fun v=>Value.int .i64 v) B),.mp p (gZ Ky.str (fun v=>Value.int .i64 v) ([]:List (Str×Int))),.blk z [.map (some o),q,v1,.map (some p)] 209,.own (Rp.int .i64) q 3 C,.own Rp.str t 9 F,.own Rp.bool u 4 I,.blk A [t,i6 J,V,.slice none 0 0,u] 182,.tr (Rt.row gW 215 []) [V] ai am,.fz (.at ac (ad+Y.toNat * 9) [sb f.From,sb f.To,i6 f.When.Kind,sb f.When.Name,sb f.When.Other,i6 f.When.Op,i6 f.When.N,i6 f.When.Frames,D]),f1 fM D f.When.Kids,.blk av [sb f.From,sb f.To,i6 f.When.Kind,sb f.When.Name,sb f.When.Other,i6 f.When.Op,i6 f.When.N,i6 f.When.Frames,D] 117])) [.mp o (gZ Ky.str (fun v=>Value.int .i64 v) B),.mp p (gZ Ky.str (fun v=>Value.int .i64 v) ([]:List (Str×Int))),.blk z [.map (some o),q,v1,.map (some p)] 209,.own (Rp.int .i64) q 3 C,.own Rp.str t 9 F,.own Rp.bool u 4 I,.tr (Rt.row gW 215 []) [V] ai am,f1 Rp.str v1 l.Phases,f1 fO y l.Moves,f1 fU s l.Rules,.fz (.at ac (ad+Y.toNat * 9) [sb f.From,sb f.To,i6 f.When.Kind,sb f.When.Name,sb f.When.Other,i6 f.When.Op,i6 f.When.N,i6 f.When.Frames,D]),f1 fM D f.When.Kids]:=H.enter [4,5,6,7,8,9,11] [1,2,3,12,13]
   have a9:=H.firmB an (i:=14) rfl (List.mem_append_right _ (List.mem_cons_of_mem _ (List.mem_cons_of_mem _ List.mem_cons_self)))
   have bq:=H.firmB an (i:=0) rfl (List.mem_append_right _ List.mem_cons_self)
   have ep:=H.firmB an (i:=10) rfl (List.mem_append_right _ (List.mem_cons_of_mem _ List.mem_cons_self))
   refine vW H an [1,2,3,4,5,6,7,8,9,10,11,12,13,14,15,16,17,18,19,20] 0 21 [22,23] [24] [.pure,.pure,.pure,.pure,.pure,.pure,.pure,.pure,.pure,.read,.pure,.pure,.pure,.pure,.read,.pure,.pure,.pure,.eff,.pure,.eff,.eff,.pure,.pure,.eff] ⟨trivial,trivial,trivial,trivial,trivial,trivial,trivial,trivial,trivial,trivial,trivial,trivial,trivial,trivial,trivial,trivial,trivial,trivial,trivial,trivial,trivial,trivial,trivial,trivial,trivial,trivial⟩ mixed (by kernel_rfl) (by kernel_rfl) (by kernel_rfl) (by kernel_rfl) (by kernel_rfl) (by decide) ?_
   have H:=an
   refine XM (gX A)<| XP (fun _ _=>yD rfl)<| XP (fun _ _=>aCp rfl)<| XP (fun n j=>xB aNu rfl (Cells.get (Blk.cells (ep n j)) (i:=2) rfl))<| XP (fun _ _=>nJ rfl)<| XP (fun n j=>xB jC rfl (Cells.get (Blk.cells (bq n j)) (i:=0) rfl))<| XP (fun _ _=>aPy rfl)<| XP (fun n j=>xB dV rfl (Cells.get (Blk.cells (a9 n j)) (i:=0) rfl)) ?_
   have er:=H
   obtain ⟨aw,es,d⟩:=zD d
   refine MxM.XL_call oS rfl rfl rfl (v:=i6 aw) (fun n j=>zZ en85 rfl) (fun n j=>aC (Facw l.Phases f.From v1 _ es _ _ _ ((H.sees j).enter [] [7]))) ?_
   have H:=er
   refine XP (fun _ _=>nJ rfl)<| XP (fun n j=>xB jC rfl (Cells.get (Blk.cells (bq n j)) (i:=0) rfl))<| XP (fun _ _=>aOm rfl)<| XP (fun n j=>xB dV rfl (Cells.get (Blk.cells (a9 n j)) (i:=1) rfl)) ?_
   have et:=H
   obtain ⟨ax,eu,d⟩:=zD d
   refine MxM.XL_call oS rfl rfl rfl (v:=i6 ax) (fun n j=>zZ en85 rfl) (fun n j=>aC (Facw l.Phases f.To v1 _ eu _ _ _ ((H.sees j).enter [] [7]))) ?_
   have H:=et
   refine XM (gX z)<| XP (fun _ _=>aCh rfl)<| XP (fun n j=>yJ (yI (cs:=[i6 f.When.Kind,sb f.When.Name,sb f.When.Other,i6 f.When.Op,i6 f.When.N,i6 f.When.Frames,D]) dO rfl dG rfl (Cells.drop (Blk.cells (a9 n j)) 2 7)) rfl) ?_
   obtain ⟨ew,ex,d⟩:=zD d
   refine MxM.XL_effC oS rfl rfl rfl (fun n j=>zZ en148 rfl) (fun n j=>Ffc (fP.mk B C l.Phases ([]:List (Str×Int))) f.When z o q v1 p D _ ex _ _ _ ((H.sees j).enter [0,3,1,2] [7,11])) ?_
   rintro n _ h8 j ⟨br,h9,rfl,ey⟩
   have H:Hd _ _ _ _ [_,_,_,_,_,_,_,_,_,_,_,_,_]:=(H.sees j).back [0,3,1,2] [7,11] rfl ey
   refine ⟨_,rfl,H.only,?_⟩
   obtain ⟨ez,e0,e1⟩:=aBm (H.item (i:=8) rfl)
   refine XP (fun _ _=>xM (cs:=[i6 aw,i6 ax,br]) (by rw [e1]; exact aKg _ _ ez e0)) ?_
   obtain ⟨ia,H⟩:=kW (x:=fG.mk aw ax ew) H 8 rfl
   have H:Hd _ _ _ _ [_,_,_,_,_,_,_,_,_,_,_,_,_]:=H
   refine MxM.XL_ex oS rfl rfl rfl (fun n j=>aCa (H.sees j) 12 rfl aNl el215 (by decide) (by decide) (xQ (vs:=[.agg [i6 aw,i6 ax,br].toArray]) (by decide) rfl rfl ⟨rfl,trivial⟩ rfl)) ?_
   rintro n ib ic j ⟨id,H⟩
   refine ⟨H.only,?_⟩
   have H:Hd _ _ _ _ [_,_,_,_,_,_,_,_,_,_,_,_,_]:=H
   refine MxM.xN fun ie hS=>?_
   have H:=H.sees hS
   obtain ⟨bt,bu,d⟩:=zD d
   refine MxM.XL_join (du:=73) (dv:=94) (fun g1 g2 wl=> ∃(ae:Value) (ao:List Nat),gX A=g1∧ae=g2∧Hd (O++bks (rest [4,5,6,7,8,9,11] [.blk L [v1,y,s] 27,f1 Rp.str v1 l.Phases,f1 fO y l.Moves,f1 fU s l.Rules,.mp o (gZ Ky.str (fun v=>Value.int .i64 v) B),.mp p (gZ Ky.str (fun v=>Value.int .i64 v) ([]:List (Str×Int))),.blk z [.map (some o),q,v1,.map (some p)] 209,.own (Rp.int .i64) q 3 C,.own Rp.str t 9 F,.own Rp.bool u 4 I,.blk A [t,i6 J,V,.slice none 0 0,u] 182,.tr (Rt.row gW 215 []) [V] ai am,.fz (.at ac (ad+Y.toNat * 9) [sb f.From,sb f.To,i6 f.When.Kind,sb f.When.Name,sb f.When.Other,i6 f.When.Op,i6 f.When.N,i6 f.When.Frames,D]),f1 fM D f.When.Kids,.blk av [sb f.From,sb f.To,i6 f.When.Kind,sb f.When.Name,sb f.When.Other,i6 f.When.Op,i6 f.When.N,i6 f.When.Frames,D] 117])) a8 wl (bks (Go.Lf.pick ([4,5,6,7,8,9,11]++ [1,2,3,12,13]) [.blk L [v1,y,s] 27,f1 Rp.str v1 l.Phases,f1 fO y l.Moves,f1 fU s l.Rules,.mp o (gZ Ky.str (fun v=>Value.int .i64 v) B),.mp p (gZ Ky.str (fun v=>Value.int .i64 v) ([]:List (Str×Int))),.blk z [.map (some o),q,v1,.map (some p)] 209,.own (Rp.int .i64) q 3 C,.own Rp.str t 9 F,.own Rp.bool u 4 I,.blk A [t,i6 J,V,.slice none 0 0,u] 182,.tr (Rt.row gW 215 []) [V] ai am,.fz (.at ac (ad+Y.toNat * 9) [sb f.From,sb f.To,i6 f.When.Kind,sb f.When.Name,sb f.When.Other,i6 f.When.Op,i6 f.When.N,i6 f.When.Frames,D]),f1 fM D f.When.Kids,.blk av [sb f.From,sb f.To,i6 f.When.Kind,sb f.When.Name,sb f.When.Other,i6 f.When.Op,i6 f.When.N,i6 f.When.Frames,D] 117])) [.own Rp.str t 9 F,.own Rp.bool u 4 I,f1 Rp.str v1 l.Phases,f1 fO y l.Moves,f1 fU s l.Rules,.fz (.at ac (ad+Y.toNat * 9) [sb f.From,sb f.To,i6 f.When.Kind,sb f.When.Name,sb f.When.Other,i6 f.When.Op,i6 f.When.N,i6 f.When.Frames,D]),f1 fM D f.When.Kids,.mp o (gZ Ky.str (fun v=>Value.int .i64 v) B),.own (Rp.int .i64) q 3 C,.mp p (gZ Ky.str (fun v=>Value.int .i64 v) ([]:List (Str×Int))),.blk z [.map (some o),q,v1,.map (some p)] 209,.tr (Rt.row gW 215 []) [ae] ao bt]) ?_ ?_ ?_
   ·skip
    refine XM (gX A)<| MxM.XL_ex oS rfl rfl rfl (fun n j=>sQ (H.sees j) 2 12 rfl rfl (by decide) aNl el215 rfl rfl bu) ?_
    rintro n ae ig j ⟨ao,H⟩
    refine ⟨H.only,?_⟩
    have H:Hd _ _ _ _ [_,_,_,_,_,_,_,_,_,_,_,_]:=H
    refine MxM.xN fun ih hS=>?_
    have H:=H.sees hS
    exact ⟨_,_,rfl,H.only,ae,ao,rfl,rfl,H⟩
   ·skip
    refine MxM.XL_ex oS rfl rfl rfl (fun n j=>sQ (H.sees j) 2 12 rfl rfl (by decide) aNl el215 rfl rfl bu) ?_
    rintro n e2 ii j ⟨e3,H⟩
    refine ⟨H.only,?_⟩
    have H:Hd _ _ _ _ [_,_,_,_,_,_,_,_,_,_,_,_]:=H
    refine XM (gX A)<| MxM.xN fun ij hS=>?_
    have H:=H.sees hS
    exact ⟨_,_,MxM.upd_comm _ (by decide) _ _,H.only,e2,e3,rfl,rfl,H⟩
   rintro M' _ _ ik ⟨ae,ao,rfl,rfl,H⟩
   refine XP (fun _ _=>yD rfl)<| XP (fun _ _=>aCp rfl)<| MxM.xN fun il hS=>?_
   have H:=H.sees hS
   have H:=eo.back [4,5,6,7,8,9,11] [1,2,3,12,13] rfl H
   have H:Hd _ _ _ _ [_,_,_,_,_,_,_,_,_,_,_,_,_,_,_,_,_,_,_,_]:=H
   have H:Hd _ _ _ _ [_,_,_,_,_,_,_,_,_,_,_,_,_,_,_]:=H.pick [7,0,4,8,9,10,11,12,13,14,15,16,17,18,19]
   refine ⟨H.only,?_⟩
   refine MxM.XL_exU oS rfl rfl (fun n j=>xY (H.sees j) 2 rfl sz179 rfl (v:=ae) rfl (pF ((H.sees j).item (i:=14) rfl)) rfl) ?_
   rintro n im j H
   refine ⟨H.only,?_⟩
   refine MxM.xN fun io hS=>?_
   have H:=H.sees hS
   have H:=en.rejoin H
   refine yH (zF (ef _ _ ?_))
   have H:Hd _ _ _ _ [_,_,_,_,_,_,_,_,_,_,_,_]:=H.pick [1,2,3,4,5,6,7,10,11,12,13,14]
   refine zA ?_
   obtain ⟨bv,e4,d⟩:=zC d
   refine zG (xC (a:=Y) (b:=1) rfl rfl e4)<| zJ (i6 bv) ?_
   exact (zT (zF (meet ⟨(ea,bv,bt,ae,ao),(zH rfl zK),⟨H.pick [0,4,5,6,7,9,10,8,2,3,1,11],d⟩,Nat.lt_succ_self _⟩)))
  have d:=zM a6 d
  obtain rfl:=gG d
  exact (xE (yK (yK (yR (zF (meet ⟨(V,ai),zK,H.pick [0,1,2,3,4,5,6,7,8,9,10,11]⟩))))))
 rintro ⟨M,Z⟩ ρ ip H
 have d:=d3
 obtain ⟨bw,d,e5⟩:=zD d
 refine yF [11,12,98,99,100,101,102,103,104,105,106,107,108,109,110,111,112,113,114,115,116,117,118,119,120,121,122,123,124,125,126] (fun (g:Value×(List Nat))=>[]) (fun g wl=>Hd O w wl S [.own Rp.str t 9 F,.own Rp.bool u 4 I,.blk A [t,i6 J,M,g.1,u] 182,.tr (Rt.row gW 215 []) [M] Z U,.tr (Rt.row fH 212 []) [g.1] g.2 bw]) ?_ ?_
 ·skip
  refine zB fun iq e6=>zA<| zG (qJ rfl)<| Ld vG H 0 2 rfl rfl ?_
  obtain ⟨e7,e8,d⟩:=zC d
  obtain ⟨ir,it,e9⟩:=SlF.len ((H.item (i:=3) rfl))
  refine zG (yJ (yZ u25 e9) (congrArg (Value.int .i64) e8))<| zJ (i6 0)<| RN e6<| yA ?_
  have H:=jV H fH 212
  unfold Fd0 at d
  obtain ⟨fa,bx,fb,d⟩:=yQ d
  refine xA [11,12,101,102,103,104,105,106,107,108,109,110,111,112,113,114,115,116,117,118,119,120,121,122,123,124,125,126] (fun (g:Nat×Int×(List (Str×Int))×(List Nd)×Value×(List Nat))=>[(101,i6 g.2.1)]) (fun g wl=>Hd O w wl S [f1 Rp.str v1 l.Phases,f1 fU s l.Rules,.mp o (gZ Ky.str (fun v=>Value.int .i64 v) B),.mp p (gZ Ky.str (fun v=>Value.int .i64 v) g.2.2.1),.blk z [.map (some o),q,v1,.map (some p)] 209,.own (Rp.int .i64) q 3 C,.own Rp.str t 9 F,.own Rp.bool u 4 I,.blk A [t,i6 J,M,g.2.2.2.2.1,u] 182,.tr (Rt.row gW 215 []) [M] Z U,.tr (Rt.row fH 212 []) [g.2.2.2.2.1] g.2.2.2.2.2 g.2.2.2.1]∧fQ fa g.1 (g.2.1,g.2.2.1,g.2.2.2.1)=some bw) (fun g=>g.1) (bx,0,([]:List (Str×Int)),[],.slice none 0 0,[]) (zH rfl zK) ⟨H.pick [1,3,4,5,6,7,8,9,10,11,12],d⟩ ?_
  clear H d
  rintro ⟨bx,Q,aa,ap,X,aj⟩ ρ iu ⟨H,d⟩
  obtain ⟨fc,rfl,d⟩:=yU d
  have d:=yV fb d
  refine zB fun iv fd=>zA ?_
  obtain ⟨fe,ff,d⟩:=zC d
  refine zG (zO (xG (a:=Q) (b:=e7) rfl rfl) ff)<| RN fd<| zB fun iw fg=>zU (b:=fe) rfl (fun ba=>?_) (fun ba=>?_)
  ·have d:=zN ba d
   refine zV (zF (fg _ _ ?_))
   refine zB fun iy fh=>?_
   refine yA ?_
   refine zB fun iz fi=>zA<| zJ (i6 Q) ?_
   obtain ⟨h,bb,d⟩:=zD d
   obtain ⟨af,ag,i0,i1,fj,fk,fm,fn,fo⟩:=wG (H.item (i:=1) rfl) bb
   obtain ⟨E,rfl,fp⟩:=qM fk
   have H:=H.fzs [.at af (ag+Q.toNat * 8) _,.sl fM E h.When.Kids] ⟨⟨fm,fn,fo⟩,fp,trivial⟩
   refine zG (yS u25 qX fj rfl (zS bb).1 (zS bb).2.1 rfl rfl)<| zG (yJ (yI (cs:=[sb h.Name,i6 h.When.Kind,sb h.When.Name,sb h.When.Other,i6 h.When.Op,i6 h.When.N,i6 h.When.Frames,E]) aHq rfl qX rfl (H.item (i:=11) rfl).2.2) rfl)<| yP rfl rfl (xH aIa H) ?_
   rintro _ i2 ⟨ay,rfl,H⟩
   refine zI (i6 Q)<| yY rfl (yT (vs:=[sb h.Name,i6 h.When.Kind,sb h.When.Name,sb h.When.Other,i6 h.When.Op,i6 h.When.N,i6 h.When.Frames,E]) H 13 rfl qX rfl rfl rfl ⟨rfl,rfl,rfl,rfl,rfl,rfl,rfl,(dH (H.item (i:=12) rfl)),trivial⟩ rfl) ?_
   rintro bc H
   refine RN fi<| zB fun i3 fq=>?_
   have fr:=H
   have H:=H.rebase
   have fs:=H
   have az:Hd (O++bks (rest [2,3,4,5,6,7,9,10] [f1 Rp.str v1 l.Phases,f1 fU s l.Rules,.mp o (gZ Ky.str (fun v=>Value.int .i64 v) B),.mp p (gZ Ky.str (fun v=>Value.int .i64 v) aa),.blk z [.map (some o),q,v1,.map (some p)] 209,.own (Rp.int .i64) q 3 C,.own Rp.str t 9 F,.own Rp.bool u 4 I,.blk A [t,i6 J,M,X,u] 182,.tr (Rt.row gW 215 []) [M] Z U,.tr (Rt.row fH 212 []) [X] aj ap,.fz (.at af (ag+Q.toNat * 8) [sb h.Name,i6 h.When.Kind,sb h.When.Name,sb h.When.Other,i6 h.When.Op,i6 h.When.N,i6 h.When.Frames,E]),f1 fM E h.When.Kids,.blk ay [sb h.Name,i6 h.When.Kind,sb h.When.Name,sb h.When.Other,i6 h.When.Op,i6 h.When.N,i6 h.When.Frames,E] 112])) bc bc (bks (Go.Lf.pick ([2,3,4,5,6,7,9,10]++ [0,1,11,12]) [f1 Rp.str v1 l.Phases,f1 fU s l.Rules,.mp o (gZ Ky.str (fun v=>Value.int .i64 v) B),.mp p (gZ Ky.str (fun v=>Value.int .i64 v) aa),.blk z [.map (some o),q,v1,.map (some p)] 209,.own (Rp.int .i64) q 3 C,.own Rp.str t 9 F,.own Rp.bool u 4 I,.blk A [t,i6 J,M,X,u] 182,.tr (Rt.row gW 215 []) [M] Z U,.tr (Rt.row fH 212 []) [X] aj ap,.fz (.at af (ag+Q.toNat * 8) [sb h.Name,i6 h.When.Kind,sb h.When.Name,sb h.When.Other,i6 h.When.Op,i6 h.When.N,i6 h.When.Frames,E]),f1 fM E h.When.Kids,.blk ay [sb h.Name,i6 h.When.Kind,sb h.When.Name,sb h.When.Other,i6 h.When.Op,i6 h.When.N,i6 h.When.Frames,E] 112])) [.mp o (gZ Ky.str (fun v=>Value.int .i64 v) B),.mp p (gZ Ky.str (fun v=>Value.int .i64 v) aa),.blk z [.map (some o),q,v1,.map (some p)] 209,.own (Rp.int .i64) q 3 C,.own Rp.str t 9 F,.own Rp.bool u 4 I,.tr (Rt.row gW 215 []) [M] Z U,.tr (Rt.row fH 212 []) [X] aj ap,f1 Rp.str v1 l.Phases,f1 fU s l.Rules,.fz (.at af (ag+Q.toNat * 8) [sb h.Name,i6 h.When.Kind,sb h.When.Name,sb h.When.Other,i6 h.When.Op,i6 h.When.N,i6 h.When.Frames,E]),f1 fM E h.When.Kids]:=H.enter [2,3,4,5,6,7,9,10] [0,1,11,12]
   have ft:=H.firmB az (i:=13) rfl (List.mem_append_right _ (List.mem_cons_of_mem _ List.mem_cons_self))
   have fu:=H.firmB az (i:=8) rfl (List.mem_append_right _ List.mem_cons_self)
   refine vW H az [1,2,3,4,5,6,7,8,9] 0 10 [11,12] [13] [.pure,.pure,.pure,.pure,.pure,.pure,.pure,.pure,.eff,.eff,.eff,.pure,.pure,.eff] ⟨trivial,trivial,trivial,trivial,trivial,trivial,trivial,trivial,trivial,trivial,trivial,trivial,trivial,trivial,trivial⟩ mixed (by kernel_rfl) (by kernel_rfl) (by kernel_rfl) (by kernel_rfl) (by kernel_rfl) (by decide) ?_
   have H:=az
   refine XM (gX A)<| XP (fun _ _=>yD rfl)<| XP (fun _ _=>aIf rfl)<| XP (fun n j=>xB aMv rfl (Cells.get (Blk.cells (fu n j)) (i:=3) rfl))<| XM (gX z)<| XP (fun _ _=>aCs rfl)<| XP (fun n j=>yJ (yI (cs:=[i6 h.When.Kind,sb h.When.Name,sb h.When.Other,i6 h.When.Op,i6 h.When.N,i6 h.When.Frames,E]) dO rfl dG rfl (Cells.drop (Blk.cells (ft n j)) 1 7)) rfl) ?_
   obtain ⟨i4,fv,d⟩:=zD d
   refine MxM.XL_effC oS rfl rfl rfl (fun n j=>zZ en148 rfl) (fun n j=>Ffc (fP.mk B C l.Phases aa) h.When z o q v1 p E _ fv _ _ _ ((H.sees j).enter [0,3,1,2] [8,11])) ?_
   rintro n _ i5 j ⟨i7,i8,rfl,fw⟩
   have H:Hd _ _ _ _ [_,_,_,_,_,_,_,_,_,_,_,_,_]:=(H.sees j).back [0,3,1,2] [8,11] rfl fw
   refine ⟨_,rfl,H.only,?_⟩
   refine MxM.XL_ex oS rfl rfl rfl (fun n j=>aCa (H.sees j) 8 rfl tK aLb (by decide) (by decide) (aEn rfl rfl ⟨(pF (H.item (i:=8) rfl)),trivial⟩)) ?_
   rintro n i9 ja j ⟨jb,H⟩
   refine ⟨H.only,?_⟩
   have H:Hd _ _ _ _ [_,_,_,_,_,_,_,_,_,_,_,_,_]:=H
   refine MxM.xN fun jc hS=>?_
   have H:=H.sees hS
   obtain ⟨bz,b0,d⟩:=zD d
   refine MxM.XL_join (du:=106) (dv:=116) (fun g1 g2 wl=> ∃(ah:Value) (aq:List Nat),gX A=g1∧ah=g2∧Hd (O++bks (rest [2,3,4,5,6,7,9,10] [f1 Rp.str v1 l.Phases,f1 fU s l.Rules,.mp o (gZ Ky.str (fun v=>Value.int .i64 v) B),.mp p (gZ Ky.str (fun v=>Value.int .i64 v) aa),.blk z [.map (some o),q,v1,.map (some p)] 209,.own (Rp.int .i64) q 3 C,.own Rp.str t 9 F,.own Rp.bool u 4 I,.blk A [t,i6 J,M,X,u] 182,.tr (Rt.row gW 215 []) [M] Z U,.tr (Rt.row fH 212 []) [X] aj ap,.fz (.at af (ag+Q.toNat * 8) [sb h.Name,i6 h.When.Kind,sb h.When.Name,sb h.When.Other,i6 h.When.Op,i6 h.When.N,i6 h.When.Frames,E]),f1 fM E h.When.Kids,.blk ay [sb h.Name,i6 h.When.Kind,sb h.When.Name,sb h.When.Other,i6 h.When.Op,i6 h.When.N,i6 h.When.Frames,E] 112])) bc wl (bks (Go.Lf.pick ([2,3,4,5,6,7,9,10]++ [0,1,11,12]) [f1 Rp.str v1 l.Phases,f1 fU s l.Rules,.mp o (gZ Ky.str (fun v=>Value.int .i64 v) B),.mp p (gZ Ky.str (fun v=>Value.int .i64 v) aa),.blk z [.map (some o),q,v1,.map (some p)] 209,.own (Rp.int .i64) q 3 C,.own Rp.str t 9 F,.own Rp.bool u 4 I,.blk A [t,i6 J,M,X,u] 182,.tr (Rt.row gW 215 []) [M] Z U,.tr (Rt.row fH 212 []) [X] aj ap,.fz (.at af (ag+Q.toNat * 8) [sb h.Name,i6 h.When.Kind,sb h.When.Name,sb h.When.Other,i6 h.When.Op,i6 h.When.N,i6 h.When.Frames,E]),f1 fM E h.When.Kids,.blk ay [sb h.Name,i6 h.When.Kind,sb h.When.Name,sb h.When.Other,i6 h.When.Op,i6 h.When.N,i6 h.When.Frames,E] 112])) [.own Rp.str t 9 F,.own Rp.bool u 4 I,.tr (Rt.row gW 215 []) [M] Z U,f1 Rp.str v1 l.Phases,f1 fU s l.Rules,.fz (.at af (ag+Q.toNat * 8) [sb h.Name,i6 h.When.Kind,sb h.When.Name,sb h.When.Other,i6 h.When.Op,i6 h.When.N,i6 h.When.Frames,E]),f1 fM E h.When.Kids,.mp o (gZ Ky.str (fun v=>Value.int .i64 v) B),.own (Rp.int .i64) q 3 C,.mp p (gZ Ky.str (fun v=>Value.int .i64 v) aa),.blk z [.map (some o),q,v1,.map (some p)] 209,.tr (Rt.row fH 212 []) [ah] aq bz]) ?_ ?_ ?_
   ·skip
    refine XM (gX A)<| MxM.XL_ex oS rfl rfl rfl (fun n j=>sQ (H.sees j) 3 12 rfl rfl (by decide) tK aLb rfl rfl b0) ?_
    rintro n ah jd j ⟨aq,H⟩
    refine ⟨H.only,?_⟩
    have H:Hd _ _ _ _ [_,_,_,_,_,_,_,_,_,_,_,_]:=H
    refine MxM.xN fun je hS=>?_
    have H:=H.sees hS
    exact ⟨_,_,rfl,H.only,ah,aq,rfl,rfl,H⟩
   ·skip
    refine MxM.XL_ex oS rfl rfl rfl (fun n j=>sQ (H.sees j) 3 12 rfl rfl (by decide) tK aLb rfl rfl b0) ?_
    rintro n fx jf j ⟨fy,H⟩
    refine ⟨H.only,?_⟩
    have H:Hd _ _ _ _ [_,_,_,_,_,_,_,_,_,_,_,_]:=H
    refine XM (gX A)<| MxM.xN fun jg hS=>?_
    have H:=H.sees hS
    exact ⟨_,_,MxM.upd_comm _ (by decide) _ _,H.only,fx,fy,rfl,rfl,H⟩
   rintro M' _ _ jh ⟨ah,aq,rfl,rfl,H⟩
   refine XP (fun _ _=>yD rfl)<| XP (fun _ _=>aIf rfl)<| MxM.xN fun ji hS=>?_
   have H:=H.sees hS
   have H:=fs.back [2,3,4,5,6,7,9,10] [0,1,11,12] rfl H
   have H:Hd _ _ _ _ [_,_,_,_,_,_,_,_,_,_,_,_,_,_,_,_,_,_]:=H
   have H:Hd _ _ _ _ [_,_,_,_,_,_,_,_,_,_,_,_,_,_]:=H.pick [5,2,6,7,8,9,10,11,12,13,14,15,16,17]
   refine ⟨H.only,?_⟩
   refine MxM.XL_exU oS rfl rfl (fun n j=>xY (H.sees j) 1 rfl sz180 rfl (v:=ah) rfl (pF ((H.sees j).item (i:=13) rfl)) rfl) ?_
   rintro n jj j H
   refine ⟨H.only,?_⟩
   refine MxM.xN fun jk hS=>?_
   have H:=H.sees hS
   have H:=fr.rejoin H
   refine (zF (fq _ _ ?_))
   have H:Hd _ _ _ _ [_,_,_,_,_,_,_,_,_,_,_,_,_]:=H.pick [0,1,2,3,4,5,6,8,9,10,11,12,13]
   have f0:=H
   have H:=H.rebase
   have jl:=H
   refine wF H [0,1,2,3,4,5,6,7] (kz [0,0,0,1,0,1,0,3]) mixed ?_
   refine XM (gX z)<| XP (fun _ _=>yD rfl)<| XP (fun _ _=>aPc rfl)<| XR aDk H 11 3 rfl rfl<| XP (fun _ _=>aCq rfl)<| XR dV H 0 0 rfl rfl<| XM (i6 Q) ?_
   obtain ⟨f4,f5,d⟩:=zC d
   refine MxM.XL_exU oS rfl rfl (fun n j=>aBb (K:=Ky.str) (G:=(fun v=>Value.int .i64 v)) (m:=aa) (k:=h.Name) (v:=Q) (H.sees j) 10 rfl u71 u9 rfl rfl rfl f5) ?_
   rintro n jm j H
   refine ⟨H.only,?_⟩
   refine MxM.xN fun jn hS=>?_
   have H:=H.sees hS
   have H:=f0.rejoin H
   refine yH (zF (fh _ _ ?_))
   refine zA ?_
   obtain ⟨b1,f6,d⟩:=zC d
   refine zG (xC (a:=Q) (b:=1) rfl rfl f6)<| zJ (i6 b1) ?_
   exact (zT (zF (meet ⟨(fc,b1,f4,bz,ah,aq),(zH rfl zK),⟨H.pick [5,6,8,10,11,9,2,3,1,4,12],d⟩,Nat.lt_succ_self _⟩)))
  have d:=zM ba d
  obtain rfl:=gG d
  exact (xE (yK (yK (yR (zF (meet ⟨(X,aj),zK,H.pick [6,7,8,9,10]⟩))))))
 rintro ⟨f7,f8⟩ ρ jo H
 have d:=e5
 refine zB fun jp f9=>zA<| zJ (gX A)<| zI (gX A)<| RN f9 ?_
 have H:=H.freeze (i:=0) rfl
 have H:=H.freeze (i:=1) rfl
 obtain rfl:=gG d
 refine (zW (gU (v1:=gX A) rfl rfl ?_))
 exact ⟨A,t,M,Z,f7,f8,u,rfl,H.pick [0,3,4,1,2]⟩
theorem Fdaw (a:Rules)(h:List Track)(v1:Value)(b:Value)(c:Value)(d:Value)(r:gY)(f:Fda a h=some r)(O S:List Nat)(w:World)(H:Hd O w w S [f1 Rp.str v1 a.Phases,f1 fO b a.Moves,f1 fU c a.Rules,f1 fD d h]):
  Cl 96 [.agg [v1,b,c].toArray,d] w fun e n=> ∃u9 j k o l p m,e= .returned (gX u9)∧Hd O w n S [f1 Rp.str j r.phases,.tr (Rt.row gW 215 []) [k] o r.moves,.tr (Rt.row fH 212 []) [l] p r.rules,f1 Rp.bool m r.possible,.blk u9 [j,i6 r.tracks,k,l,m] 182]:=by
 unfold Fda at f
 refine CW 8 Tryz.func96 ?_
 refine zB fun C q=>zA<| yP rfl rfl (xJ (cs:=[v1,b,c]) rfl H) ?_
 rintro _ D ⟨E,rfl,H⟩
 refine zI (.pointer none)<| RN q<| zB fun F s=>zA<| zG (yJ (yI (cs:=[v1,b,c]) qW rfl aBt rfl (Hbc H 4 rfl)) rfl)<| zJ d ?_
 obtain ⟨G,t,f⟩:=zD f
 refine yC rfl rfl (zZ en119 rfl) (Fcvw a h v1 b c d _ t _ _ _ (H.enter [] [0,1,2,3])) ?_
 rintro _ I ⟨i,u,v,x,y,z,A,rfl,B⟩
 have H:=H.back1 [0,1,2,3] rfl B
 refine ⟨_,rfl,?_⟩
 refine zI (gX i)<| RN s ?_
 obtain rfl:=gG f
 refine (zW (gU (v1:=gX i) rfl rfl ?_))
 exact ⟨i,u,v,x,y,z,A,rfl,H.pick [5,6,7,8,9]⟩
theorem Famw (c:fA)(d:Int)(r:Int)(f:Fam c d=some r)(O S:List Nat)(w:World)(H:Hd O w w S []):
  Cl 187 [.agg [i6 c.At,i6 c.N,i6 c.Mark].toArray,i6 d] w fun e i=>e= .returned (i6 r)∧Hd O w i S []:=by
 unfold Fam at f
 refine CW 9 Tryz.func187 ?_
 refine zB fun m j=>zA<| yP rfl rfl (xJ (cs:=[i6 c.At,i6 c.N,i6 c.Mark]) rfl H) ?_
 rintro _ n ⟨o,rfl,H⟩
 refine zI (i6 0)<| RN j<| zB fun p k=>zA<| zG (aEw rfl)<| Ld fF H 0 0 rfl rfl<| zJ (i6 d) ?_
 obtain ⟨h,l,f⟩:=zC f
 refine zG (kM (a:=c.At) (b:=d) rfl rfl l)<| zI (i6 h)<| RN k ?_
 obtain rfl:=gG f
 refine (zW (gU (v1:=i6 h) rfl rfl ?_))
 exact ⟨rfl,H.pick []⟩
theorem Fdpw (n:List fA)(h:Int)(v1:Value)(r:Int×Bool)(c:Fdp n h=some r)(O S:List Nat)(w:World)(H:Hd O w w S [f1 fK v1 n]):
  Cl 186 [v1,i6 h,.func (.func 187) #[] #[]] w fun e E=>e= .returned (.tuple #[i6 r.1,.bool r.2])∧Hd O w E S []:=by
 unfold Fdp at c
 refine CW 49 Tryz.func186 ?_
 refine zB fun K3 F=>zA<| zI (i6 0)<| zI (.bool false)<| RN F<| zB fun K4 G=>zA<| zJ v1 ?_
 obtain ⟨k,I,c⟩:=zC c
 obtain ⟨a7,c8,J⟩:=SlF.len ((H.item (i:=0) rfl))
 refine zG (yJ (yZ u88 J) (congrArg (Value.int .i64) I))<| zI (i6 k)<| RN G<| zB fun bc K=>zA<| zJ (i6 k)<| zI (i6 0)<| zI (i6 k)<| RN K ?_
 obtain ⟨d,c,L⟩:=zD c
 refine yF [9,10,11,15,16,17,18,19,20,21,22,23,24,25,26,27,28,29,30,31,32,33,34] (fun (g:Unit)=>[(9,i6 d)]) (fun g wl=>Hd O w wl S [f1 fK v1 n]) ?_ ?_
 ·skip
  refine yA ?_
  unfold Fdk at c
  obtain ⟨M,z,P,c⟩:=yQ c
  refine xA [9,10,11,15,16,17,18,19,20,21,22,23,24,25,26,27,28,29,30,31,32,33,34] (fun (g:Nat×Int×Int)=>[(9,i6 g.2.1),(10,i6 g.2.2)]) (fun g wl=>Hd O w wl S [f1 fK v1 n]∧fQ M g.1 (g.2.1,g.2.2)=some d) (fun g=>g.1) (z,0,k) (zH rfl (zH rfl zK)) ⟨H.pick [0],c⟩ ?_
  clear H c
  rintro ⟨z,l,m⟩ ρ bd ⟨H,c⟩
  obtain ⟨A,rfl,c⟩:=yU c
  have c:=yV P c
  refine zB fun be Q=>?_
  refine zB fun bf R=>zA<| zJ (i6 l)<| zJ (i6 m) ?_
  obtain ⟨T,U,c⟩:=zC c
  refine zG (zO (xG (a:=l) (b:=m) rfl rfl) U)<| RN R<| zU (b:=T) rfl (fun s=>?_) (fun s=>?_)
  ·have c:=zN s c
   refine zV (zF (Q _ _ ?_))
   refine yA ?_
   refine zB fun bg V=>zA<| zJ (i6 l)<| zJ (i6 m) ?_
   obtain ⟨bh,X,c⟩:=zC c
   refine zG (xC (a:=l) (b:=m) rfl rfl X) ?_
   obtain ⟨Y,Z,c⟩:=zC c
   refine zG (qK u3 u134 rfl Z) ?_
   obtain ⟨bi,aa,c⟩:=zD c
   refine zG (qI (j:=Y) (q:=1) rfl rfl aa) ?_
   obtain ⟨f,ab,c⟩:=zC c
   refine zG (qK u134 u3 rfl ab)<| zI (i6 f)<| RN V<| zB fun bj ac=>zA<| zJ (.func (.func 187) #[] #[])<| zJ v1<| zJ (i6 f) ?_
   obtain ⟨o,t,c⟩:=zD c
   obtain ⟨ad,ae,bk,bl,af,ag,ah,ai,aj⟩:=wG (H.item (i:=0) rfl) t
   obtain rfl:=dW ag
   have H:=H.fz (.at ad (ae+f.toNat * 3) _) ⟨ah,ai,aj⟩
   refine zG (yS u88 mQ af rfl (zS t).1 (zS t).2.1 rfl rfl)<| zG (yJ (yI (cs:=[i6 o.At,i6 o.N,i6 o.Mark]) wL rfl mQ rfl (H.item (i:=1) rfl).2.2) rfl)<| zJ (i6 h) ?_
   have ak:=H
   obtain ⟨al,am,c⟩:=zD c
   refine yC rfl rfl (bK en187 rfl rfl) (Famw o h _ am _ _ _ (H.enter [] [])) ?_
   rintro _ bm ⟨rfl,an⟩
   have H:=ak.step (an.only:Only [] _ _)
   refine ⟨_,rfl,?_⟩
   obtain ⟨ao,ap,c⟩:=zC c
   refine zG (zO (xG (a:=al) (b:=0) rfl rfl) ap)<| RN ac<| zU (b:=ao) rfl (fun u=>?_) (fun u=>?_)
   ·have c:=zN u c
    refine zA ?_
    refine zJ (i6 f) ?_
    obtain ⟨B,aq,c⟩:=zC c
    refine zG (xC (a:=f) (b:=1) rfl rfl aq)<| zI (i6 B) ?_
    exact (zT (yH (zF (meet ⟨(A,B,m),(zH rfl (zH rfl zK)),⟨H.pick [0],c⟩,Nat.lt_succ_self _⟩))))
   have c:=zM u c
   refine zA ?_
   refine zJ (i6 f)<| zI (i6 f) ?_
   exact (zT (yH (zF (meet ⟨(A,l,f),(zH rfl (zH rfl zK)),⟨H.pick [0],c⟩,Nat.lt_succ_self _⟩))))
  have c:=zM s c
  obtain rfl:=gG c
  exact (xE (yK (yK (yR (zF (meet ⟨(),(zH rfl zK),H.pick [0]⟩))))))
 rintro _ ρ bn H
 have c:=L
 obtain ⟨C,c,ar⟩:=zD c
 refine yF [6,7,35,36,37,38,39,40,41,42,43,44,45,46,47,48] (fun (g:Unit)=>[(6,i6 d),(7,.bool C)]) (fun g wl=>Hd O w wl S []) ?_ ?_
 ·skip
  refine zA ?_
  refine zJ (i6 d)<| zJ (i6 d)<| zJ (i6 k) ?_
  obtain ⟨au,av,c⟩:=zC c
  refine zG (zO (xG (a:=d) (b:=k) rfl rfl) av)<| yM (b:=au) rfl rfl rfl (fun x=>?_) (fun x=>?_)
  ·have c:=zN x c
   refine zJ (.func (.func 187) #[] #[])<| zJ v1<| zJ (i6 d) ?_
   obtain ⟨p,y,c⟩:=zD c
   obtain ⟨aw,ax,bo,bp,ay,az,a0,a1,a2⟩:=wG (H.item (i:=0) rfl) y
   obtain rfl:=dW az
   have H:=H.fz (.at aw (ax+d.toNat * 3) _) ⟨a0,a1,a2⟩
   refine zG (yS u88 mQ ay rfl (zS y).1 (zS y).2.1 rfl rfl)<| zG (yJ (yI (cs:=[i6 p.At,i6 p.N,i6 p.Mark]) wL rfl mQ rfl (H.item (i:=1) rfl).2.2) rfl)<| zJ (i6 h) ?_
   have a3:=H
   obtain ⟨a4,a5,c⟩:=zD c
   refine yC rfl rfl (bK en187 rfl rfl) (Famw p h _ a5 _ _ _ (H.enter [] [])) ?_
   rintro _ bq ⟨rfl,a6⟩
   have H:=a3.step (a6.only:Only [] _ _)
   refine ⟨_,rfl,?_⟩
   obtain ⟨D,e283,c⟩:=zC c
   refine zG (zO (yX (a:=a4) (b:=0) rfl rfl) e283)<| zG (yL (v:= .bool D) rfl rfl)<| zI (i6 d)<| zI (.bool D) ?_
   obtain rfl:=gG c
   exact (zT (zF (meet ⟨(),(zH rfl (zH rfl zK)),H.pick []⟩)))
  have c:=zM x c
  refine yE ?_
  refine yE ?_
  refine yE ?_
  refine yE ?_
  refine yE ?_
  refine yE ?_
  refine yE ?_
  refine yE ?_
  refine zG (yG (v:= .bool false) rfl rfl)<| zI (i6 d)<| zI (.bool false) ?_
  obtain rfl:=gG c
  exact (zT (zF (meet ⟨(),(zH rfl (zH rfl zK)),H.pick []⟩)))
 rintro _ ρ br H
 have c:=ar
 obtain rfl:=gG c
 refine (zW (mO (v1:=i6 d) (v2:= .bool C) rfl rfl rfl ?_))
 exact ⟨rfl,H.pick []⟩
theorem Fcsw (f:Series)(i:Int)(v1:Value)(r:Int)(c:Fcs f i=some r)(O S:List Nat)(w:World)(H:Hd O w w S [f1 fK v1 f.Samples]):
  Cl 175 [.agg [i6 f.Den,v1].toArray,i6 i] w fun e l=>e= .returned (i6 r)∧Hd O w l S []:=by
 unfold Fcs at c
 refine CW 18 Tryz.func175 ?_
 refine zB fun z m=>zA<| yP rfl rfl (xJ (cs:=[i6 f.Den,v1]) rfl H) ?_
 rintro _ A ⟨B,rfl,H⟩
 refine zI (i6 0)<| RN m<| zB fun C n=>zA<| zG (nK rfl)<| Ld tZ H 1 1 rfl rfl<| zJ (i6 i) ?_
 have o:=H
 obtain ⟨⟨d,h⟩,p,c⟩:=zD c
 refine yC rfl rfl (zZ en186 rfl) (Fdpw f.Samples i v1 _ p _ _ _ (H.enter [] [0])) ?_
 rintro _ D ⟨rfl,q⟩
 have H:=o.step (q.only:Only [] _ _)
 refine ⟨_,rfl,?_⟩
 refine zJ (.tuple #[i6 d,.bool h])<| zG (xZ (v:=i6 d) rfl rfl)<| zG (xZ (v:= .bool h) rfl rfl)<| zI (i6 d)<| zI (.bool h)<| RN n<| zB fun E s=>zB fun F t=>zA<| zJ (.bool h)<| RN t<| zU (b:=h) rfl (fun j=>?_) (fun j=>?_)
 ·have c:=zN j c
  refine zB fun G u=>zA<| zJ (i6 d)<| zI (i6 d)<| RN u ?_
  obtain rfl:=gG c
  refine (zW (zQ (gU (v1:=i6 d) rfl rfl ?_)))
  exact ⟨rfl,H.pick []⟩
 have c:=zM j c
 refine zV (zF (s _ _ ?_))
 refine zB fun I x=>zA<| zJ (i6 d) ?_
 obtain ⟨k,y,c⟩:=zC c
 refine zG (kM (a:=d) (b:=1) rfl rfl y)<| zI (i6 k)<| RN x ?_
 obtain rfl:=gG c
 refine (zW (gU (v1:=i6 k) rfl rfl ?_))
 exact ⟨rfl,H.pick []⟩
theorem Fdlw (c:fA)(r:Bool)(d:Fdl c=some r)(O S:List Nat)(w:World)(H:Hd O w w S []):
  Cl 176 [.agg [i6 c.At,i6 c.N,i6 c.Mark].toArray] w fun e h=>e= .returned (.bool r)∧Hd O w h S []:=by
 unfold Fdl at d
 refine CW 6 Tryz.func176 ?_
 refine zB fun l i=>zA<| yP rfl rfl (xJ (cs:=[i6 c.At,i6 c.N,i6 c.Mark]) rfl H) ?_
 rintro _ m ⟨n,rfl,H⟩
 refine zI (.bool false)<| RN i<| zB fun o j=>zA<| zG (aIv rfl)<| Ld fF H 0 2 rfl rfl ?_
 obtain ⟨f,k,d⟩:=zC d
 refine zG (zO (aG (a:=c.Mark) (b:=3) rfl rfl) k)<| zI (.bool f)<| RN j ?_
 obtain rfl:=gG d
 refine (zW (gU (v1:= .bool f) rfl rfl ?_))
 exact ⟨rfl,H.pick []⟩
theorem Fduw (d:Series)(h:Int)(k:Int)(v1:Value)(r:fA×Bool)(c:Fdu d h k=some r)(O S:List Nat)(w:World)(H:Hd O w w S [f1 fK v1 d.Samples]):
  Cl 168 [.agg [i6 d.Den,v1].toArray,i6 h,i6 k] w fun e A=>e= .returned (.tuple #[.agg [i6 r.1.At,i6 r.1.N,i6 r.1.Mark].toArray,.bool r.2])∧Hd O w A S []:=by
 unfold Fdu at c
 refine CW 41 Tryz.func168 ?_
 refine zB fun K3 B=>zA<| yP rfl rfl (xJ (cs:=[i6 d.Den,v1]) rfl H) ?_
 rintro _ w6 ⟨u,rfl,H⟩
 refine yP rfl rfl (xH aEr H) ?_
 rintro _ w9 ⟨x,rfl,H⟩
 refine zI (.bool false)<| RN B<| zB fun a3 C=>zA<| zG (yJ (yI (cs:=[i6 d.Den,v1]) aJh rfl sz90 rfl (Hbc H 1 rfl)) rfl)<| zJ (i6 h) ?_
 have D:=H
 obtain ⟨f,E,c⟩:=zD c
 refine yC rfl rfl (zZ en175 rfl) (Fcsw d h v1 _ E _ _ _ (H.enter [] [0])) ?_
 rintro _ a4 ⟨rfl,F⟩
 have H:=D.step (F.only:Only [] _ _)
 refine ⟨_,rfl,?_⟩
 refine zI (i6 f)<| RN C<| zB fun a5 G=>?_
 obtain ⟨y,c,I⟩:=zD c
 refine yF [12,13,14,15,16,17,18,19,20,21,22,23,24,25,26,27,28,29,30,31,32,33,34] (fun (g:Unit)=>[(34,.bool y)]) (fun g wl=>Hd O w wl S [f1 fK v1 d.Samples,.blk u [i6 d.Den,v1] 90,.blk x [i6 0,i6 0,i6 0] 94]) ?_ ?_
 ·skip
  refine zA ?_
  refine zJ (i6 f) ?_
  obtain ⟨J,K,c⟩:=zC c
  refine zG (zO (xG (a:=f) (b:=0) rfl rfl) K) ?_
  obtain ⟨z,c,L⟩:=zD c
  refine dP 9 [14,15,16,17,18,19,20,21,22] [(22,.bool z)] (fun wl=>Hd O w wl S [f1 fK v1 d.Samples,.blk u [i6 d.Den,v1] 90,.blk x [i6 0,i6 0,i6 0] 94]) ?_ ?_
  ·skip
   refine yM (b:=J) rfl rfl rfl (fun m=>?_) (fun m=>?_)
   ·have c:=zN m c
    refine yE ?_
    refine yE ?_
    refine yE ?_
    refine yE ?_
    refine yE ?_
    refine yE ?_
    refine yE ?_
    refine zG (yL (v:= .bool true) rfl rfl) ?_
    obtain rfl:=gG c
    exact zT (zF (meet ⟨(zH rfl zK),H.pick [0,1,2]⟩))
   have c:=zM m c
   refine zG (nK rfl)<| Ld tZ H 1 1 rfl rfl<| zJ (i6 f) ?_
   obtain ⟨l,n,c⟩:=zD c
   obtain ⟨M,P,a6,a7,Q,R,T,U,V⟩:=wG (H.item (i:=0) rfl) n
   obtain rfl:=dW R
   have H:=H.fz (.at M (P+f.toNat * 3) _) ⟨T,U,V⟩
   refine zG (yS u88 mQ Q rfl (zS n).1 (zS n).2.1 rfl rfl)<| zG (yJ (yI (cs:=[i6 l.At,i6 l.N,i6 l.Mark]) wL rfl mQ rfl (H.item (i:=3) rfl).2.2) rfl) ?_
   have X:=H
   obtain ⟨Y,Z,c⟩:=zD c
   refine yC rfl rfl (zZ en176 rfl) (Fdlw l _ Z _ _ _ (H.enter [] [])) ?_
   rintro _ a8 ⟨rfl,aa⟩
   have H:=X.step (aa.only:Only [] _ _)
   refine ⟨_,rfl,?_⟩
   obtain ⟨ab,ac,c⟩:=zC c
   refine zG (zO (xR (p:=Y) rfl) ac)<| zG (yG (v:= .bool ab) rfl rfl) ?_
   obtain rfl:=gG c
   exact zT (zF (meet ⟨(zH rfl zK),H.pick [0,1,2]⟩))
  rintro ρ a9 H
  have c:=L
  refine yM (b:=z) rfl rfl rfl (fun o=>?_) (fun o=>?_)
  ·have c:=zN o c
   refine yE ?_
   refine yE ?_
   refine yE ?_
   refine yE ?_
   refine yE ?_
   refine yE ?_
   refine yE ?_
   refine yE ?_
   refine yE ?_
   refine yE ?_
   refine zG (yL (v:= .bool true) rfl rfl) ?_
   obtain rfl:=gG c
   exact (zT (zF (meet ⟨(),(zH rfl zK),H.pick [0,1,2]⟩)))
  have c:=zM o c
  refine zJ (i6 h)<| zG (nK rfl)<| Ld tZ H 1 1 rfl rfl<| zJ (i6 f) ?_
  obtain ⟨ad,q,c⟩:=zD c
  obtain ⟨ae,af,ba,bb,ag,ah,ai,aj,ak⟩:=wG (H.item (i:=0) rfl) q
  obtain rfl:=dW ah
  have H:=H.fz (.at ae (af+f.toNat * 3) _) ⟨ai,aj,ak⟩
  refine zG (yS u88 mQ ag rfl (zS q).1 (zS q).2.1 rfl rfl)<| zG (aEw rfl)<| zG (xB fF rfl (Cells.get (H.item (i:=3) rfl).2.2 (i:=0) rfl)) ?_
  obtain ⟨al,am,c⟩:=zC c
  refine zG (kM (a:=h) (b:=ad.At) rfl rfl am)<| zJ (i6 k) ?_
  obtain ⟨an,ao,c⟩:=zC c
  refine zG (zO (cO (a:=al) (b:=k) rfl rfl) ao)<| zG (yG (v:= .bool an) rfl rfl) ?_
  obtain rfl:=gG c
  exact (zT (zF (meet ⟨(),(zH rfl zK),H.pick [0,1,2]⟩)))
 rintro _ ρ bc H
 have c:=I
 refine zU (b:=y) rfl (fun s=>?_) (fun s=>?_)
 ·have c:=zN s c
  refine zB fun bd ap=>zA<| zG (xM (cs:=[i6 0,i6 0,i6 0]) bz94)<| yY rfl (yT (vs:=[i6 0,i6 0,i6 0]) H 2 rfl mQ rfl rfl rfl ⟨rfl,rfl,rfl,trivial⟩ rfl) ?_
  rintro be H
  refine zI (.bool false)<| RN ap ?_
  obtain rfl:=gG c
  refine (zW (zQ (aT (v1:= .bool false) rfl rfl (xK wL mQ rfl (Hbc H 2 rfl)) rfl ?_)))
  exact ⟨rfl,H.pick []⟩
 have c:=zM s c
 refine zV (zF (G _ _ ?_))
 refine zB fun bf aq=>zA<| zG (nK rfl)<| Ld tZ H 1 1 rfl rfl<| zJ (i6 f) ?_
 obtain ⟨j,t,c⟩:=zD c
 obtain ⟨ar,au,bg,bh,av,aw,ax,ay,az⟩:=wG (H.item (i:=0) rfl) t
 obtain rfl:=dW aw
 have H:=H.fz (.at ar (au+f.toNat * 3) _) ⟨ax,ay,az⟩
 refine zG (yS u88 mQ av rfl (zS t).1 (zS t).2.1 rfl rfl)<| zG (yJ (yI (cs:=[i6 j.At,i6 j.N,i6 j.Mark]) wL rfl mQ rfl (H.item (i:=3) rfl).2.2) rfl)<| yY rfl (yT (vs:=[i6 j.At,i6 j.N,i6 j.Mark]) H 2 rfl mQ rfl rfl rfl ⟨rfl,rfl,rfl,trivial⟩ rfl) ?_
 rintro bi H
 refine zI (.bool true)<| RN aq ?_
 obtain rfl:=gG c
 refine (zW (aT (v1:= .bool true) rfl rfl (xK wL mQ rfl (Hbc H 2 rfl)) rfl ?_))
 exact ⟨rfl,H.pick []⟩
theorem Fbpw (a:Series)(c:Int)(d:Int)(v1:Value)(r:fA×Bool)(f:Fbp a c d=some r)(O S:List Nat)(w:World)(H:Hd O w w S [f1 fK v1 a.Samples]):
  Cl 150 [.agg [i6 a.Den,v1].toArray,i6 c,i6 d] w fun e i=>e= .returned (.tuple #[.agg [i6 r.1.At,i6 r.1.N,i6 r.1.Mark].toArray,.bool r.2])∧Hd O w i S []:=by
 unfold Fbp at f
 refine CW 14 Tryz.func150 ?_
 refine zB fun o j=>zA<| yP rfl rfl (xJ (cs:=[i6 a.Den,v1]) rfl H) ?_
 rintro _ p ⟨q,rfl,H⟩
 refine yP rfl rfl (xH aEr H) ?_
 rintro _ s ⟨t,rfl,H⟩
 refine zI (.bool false)<| RN j<| zB fun u k=>zA<| zG (yJ (yI (cs:=[i6 a.Den,v1]) aJh rfl sz90 rfl (Hbc H 1 rfl)) rfl)<| zJ (i6 c)<| zJ (i6 d) ?_
 have l:=H
 obtain ⟨⟨b,h⟩,m,f⟩:=zD f
 refine yC rfl rfl (zZ en168 rfl) (Fduw a c d v1 _ m _ _ _ (H.enter [] [0])) ?_
 rintro _ x ⟨rfl,n⟩
 have H:=l.step (n.only:Only [] _ _)
 refine ⟨_,rfl,?_⟩
 refine zG (xZ (v:= .agg [i6 b.At,i6 b.N,i6 b.Mark].toArray) rfl rfl)<| zG (xZ (v:= .bool h) rfl rfl)<| yY rfl (yT (vs:=[i6 b.At,i6 b.N,i6 b.Mark]) H 2 rfl mQ rfl rfl rfl ⟨rfl,rfl,rfl,trivial⟩ rfl) ?_
 rintro y H
 refine zI (.bool h)<| RN k ?_
 obtain rfl:=gG f
 refine (zW (aT (v1:= .bool h) rfl rfl (xK wL mQ rfl (Hbc H 2 rfl)) rfl ?_))
 exact ⟨rfl,H.pick []⟩
theorem Fcqw (m:List Track)(k:Int)(v1:Value)(r:(List eG))(c:Fcq m k=some r)(O S:List Nat)(w:World)(H:Hd O w w S [f1 fD v1 m]):
  Cl 121 [v1,i6 k] w fun e z=> ∃u3,e= .returned (u3)∧Hd O w z S [.own fB u3 224 r]:=by
 unfold Fcq at c
 refine CW 37 Tryz.func121 ?_
 refine zB fun K4 A=>zA<| zI (.slice none 0 0)<| RN A<| zB fun K5 B=>zA<| zI (.slice none 0 0)<| RN B ?_
 obtain ⟨q,c,C⟩:=zD c
 refine yF [5,7,8,9,10,11,12,13,14,15,16,17,18,19,20,21,22,23,24,25,26,27,28,29,30,31,32,33,34,35] (fun (g:Value)=>[(5,g)]) (fun g wl=>Hd O w wl S [.own fB g 224 q]) ?_ ?_
 ·skip
  refine zB fun aw D=>zA<| zJ v1 ?_
  obtain ⟨E,F,c⟩:=zC c
  obtain ⟨ax,ay,G⟩:=SlF.len ((H.item (i:=0) rfl))
  refine zG (yJ (yZ u45 G) (congrArg (Value.int .i64) F))<| zJ (i6 0)<| RN D<| yA ?_
  have H:=aQ H fB 224
  unfold Fe7 at c
  obtain ⟨I,s,J,c⟩:=yQ c
  refine xA [5,7,8,9,12,13,14,15,16,17,18,19,20,21,22,23,24,25,26,27,28,29,30,31,32,33,34,35] (fun (g:Nat×(List eG)×Int×Value)=>[(5,g.2.2.2),(12,i6 g.2.2.1)]) (fun g wl=>Hd O w wl S [.own fB g.2.2.2 224 g.2.1,f1 fD v1 m]∧fQ I g.1 (g.2.1,g.2.2.1)=some q) (fun g=>g.1) (s,[],0,.slice none 0 0) (zH rfl (zH rfl zK)) ⟨H.pick [1,0],c⟩ ?_
  clear H c
  rintro ⟨s,az,n,t⟩ ρ a0 ⟨H,c⟩
  obtain ⟨K,rfl,c⟩:=yU c
  have c:=yV J c
  refine zB fun a1 L=>zA ?_
  obtain ⟨M,P,c⟩:=zC c
  refine zG (zO (xG (a:=n) (b:=E) rfl rfl) P)<| RN L<| zB fun a2 Q=>zU (b:=M) rfl (fun o=>?_) (fun o=>?_)
  ·have c:=zN o c
   refine zV (zF (Q _ _ ?_))
   refine zB fun a3 R=>?_
   refine yA ?_
   refine zB fun a4 T=>zA ?_
   obtain ⟨f,p,c⟩:=zD c
   obtain ⟨U,V,a5,a6,X,Y,Z,aa,ab⟩:=wG (H.item (i:=1) rfl) p
   obtain ⟨j,rfl,ac⟩:=bT Y
   have H:=H.fzs [.at U (V+n.toNat * 4) _,.sl fK j f.Series.Samples] ⟨⟨Z,aa,ab⟩,ac,trivial⟩
   refine zG (yS u45 qG X rfl (zS p).1 (zS p).2.1 rfl rfl)<| zG (yJ (yI (cs:=[sb f.Name,i6 f.Series.Den,j,i6 f.Long]) aEj rfl qG rfl (H.item (i:=2) rfl).2.2) rfl)<| yP rfl rfl (xH aHc H) ?_
   rintro _ a7 ⟨a8,rfl,H⟩
   refine yY rfl (yT (vs:=[sb f.Name,i6 f.Series.Den,j,i6 f.Long]) H 4 rfl qG rfl rfl rfl ⟨rfl,rfl,(dH (H.item (i:=3) rfl)),rfl,trivial⟩ rfl) ?_
   rintro a9 H
   refine RN T<| zB fun ba ad=>zA<| zG (uN rfl)<| zG (yJ (yI (cs:=[i6 f.Series.Den,j]) aJh rfl sz90 rfl (Cells.drop (Hbc H 4 rfl) 1 2)) rfl)<| zJ (i6 k) ?_
   obtain ⟨ae,af,c⟩:=zC c
   refine zG (qF (a:=64) (b:=k) rfl rfl af) ?_
   obtain ⟨ag,ah,c⟩:=zC c
   refine zG (xC (a:=ae) (b:=64) rfl rfl ah) ?_
   obtain ⟨ai,aj,c⟩:=zC c
   refine zG (kM (a:=ag) (b:=1) rfl rfl aj)<| zG (fa92_2 rfl)<| Ld fF H 4 3 rfl rfl ?_
   have ak:=H
   obtain ⟨⟨d,h⟩,al,c⟩:=zD c
   refine yC rfl rfl (zZ en150 rfl) (Fbpw f.Series ai f.Long j _ al _ _ _ (H.enter [] [3])) ?_
   rintro _ bb ⟨rfl,am⟩
   have H:=ak.step (am.only:Only [] _ _)
   refine ⟨_,rfl,?_⟩
   refine zJ (.tuple #[.agg [i6 d.At,i6 d.N,i6 d.Mark].toArray,.bool h])<| zG (xZ (v:= .agg [i6 d.At,i6 d.N,i6 d.Mark].toArray) rfl rfl)<| zG (xZ (v:= .bool h) rfl rfl)<| yP rfl rfl (xH aEr H) ?_
   rintro _ bc ⟨bd,rfl,H⟩
   refine yY rfl (yT (vs:=[i6 d.At,i6 d.N,i6 d.Mark]) H 5 rfl mQ rfl rfl rfl ⟨rfl,rfl,rfl,trivial⟩ rfl) ?_
   rintro be H
   refine zI (.bool h)<| RN ad<| zA<| zJ t<| zG (aFb rfl)<| Ld fF H 5 1 rfl rfl<| zJ (.bool h)<| zG (xM (cs:=[i6 d.N,.bool h]) (bt224_0_1 _ _)) ?_
   obtain ⟨bf,an,c⟩:=zC c
   subst an
   refine yP rfl rfl (mM (r:=fB) (xl:=[eG.mk d.N h]) (cs:=[i6 d.N,.bool h]) aBc aJo (by decide) (by decide) rfl (xQ (vs:=[.agg [i6 d.N,.bool h].toArray]) (by decide) rfl rfl ⟨rfl,trivial⟩ rfl) H ⟨[i6 d.N,.bool h],[],rfl,(aGg (x:=eG.mk d.N h)),rfl⟩) ?_
   rintro bg bh H
   obtain ⟨ao,ap,c⟩:=zD c
   refine yP rfl rfl (jF H (i:=0) rfl aBc aJo rfl rfl (Sr.of_own (H.item (i:=6) rfl)) ap) ?_
   rintro u bi H
   refine zI u<| (zT (yH (zF (R _ _ ?_))))
   refine zA ?_
   obtain ⟨y,aq,c⟩:=zC c
   refine zG (xC (a:=n) (b:=1) rfl rfl aq)<| zJ (i6 y) ?_
   exact (zT (zF (meet ⟨(K,ao,y,u),(zH rfl (zH rfl zK)),⟨H.pick [0,1],c⟩,Nat.lt_succ_self _⟩)))
  have c:=zM o c
  obtain rfl:=gG c
  exact (xE (yK (yK (yR (zF (meet ⟨t,(zH rfl zK),H.pick [0]⟩))))))
 rintro l ρ bj H
 have c:=C
 refine zB fun bk ar=>zA<| zJ l<| zI l<| RN ar ?_
 obtain rfl:=gG c
 refine (zW (gU (v1:=l) rfl rfl ?_))
 exact ⟨l,rfl,H.pick [0]⟩
theorem Fc7w (c:List Track)(a:Int)(v1:Value)(r:(List eG))(b:Fc7 c a=some r)(O S:List Nat)(w:World)(H:Hd O w w S [f1 fD v1 c]):
  Cl 98 [v1,i6 a] w fun e f=> ∃u3,e= .returned (u3)∧Hd O w f S [.own fB u3 224 r]:=by
 unfold Fc7 at b
 refine CW 8 Tryz.func98 ?_
 refine zB fun l h=>zA<| zI (.slice none 0 0)<| RN h<| zB fun m i=>zA<| zJ v1<| zJ (i6 a) ?_
 obtain ⟨n,j,b⟩:=zD b
 refine yC rfl rfl (zZ en121 rfl) (Fcqw c a v1 _ j _ _ _ (H.enter [] [0])) ?_
 rintro _ o ⟨d,rfl,k⟩
 have H:=H.back1 [0] rfl k
 refine ⟨_,rfl,?_⟩
 refine zI d<| RN i ?_
 obtain rfl:=gG b
 refine (zW (gU (v1:=d) rfl rfl ?_))
 exact ⟨d,rfl,H.pick [1]⟩
theorem Faj {F:Nat→Prop}{w:World}{v:Value}{bs:List Nat}{x:Nd}(h:(Th.tr fH [v] bs x).holds F w): ∃f r,mD Tryz.prog "orangebox/event.step" v f r:=by
 obtain ⟨u,e,h⟩:=h
 obtain rfl:v=u:=by simpa using e
 cases h
 ·exact ⟨_,_,dL (f:=209) (p:=false) (by kernel_rfl) (by kernel_rfl) en209⟩
 ·exact ⟨_,_,dL (f:=211) (p:=false) (by kernel_rfl) (by kernel_rfl) en211⟩
 ·exact ⟨_,_,dL (f:=216) (p:=false) (by kernel_rfl) (by kernel_rfl) en216⟩
 ·exact ⟨_,_,dL (f:=219) (p:=true) (by kernel_rfl) (by kernel_rfl) en219⟩
 ·exact ⟨_,_,dL (f:=221) (p:=false) (by kernel_rfl) (by kernel_rfl) en221⟩
 ·exact ⟨_,_,dL (f:=223) (p:=false) (by kernel_rfl) (by kernel_rfl) en223⟩
 ·exact ⟨_,_,dL (f:=225) (p:=true) (by kernel_rfl) (by kernel_rfl) en225⟩
 ·exact ⟨_,_,dL (f:=228) (p:=true) (by kernel_rfl) (by kernel_rfl) en228⟩
 ·exact ⟨_,_,dL (f:=230) (p:=true) (by kernel_rfl) (by kernel_rfl) en230⟩
 ·exact ⟨_,_,dL (f:=232) (p:=true) (by kernel_rfl) (by kernel_rfl) en232⟩
 exact ⟨_,_,dL (f:=234) (p:=true) (by kernel_rfl) (by kernel_rfl) en234⟩
abbrev Fao (f:Nd→gI→Option (Int×Nd)):Prop:= ∀(p0:Nd) (p1:gI) (v1:Value) (bs1:List Nat) (b1:Nat) (v52:Value) (v53:Value) (v54:Value) (fid:FuncId) (rv:Value) (hm:mD Tryz.prog "orangebox/event.step" v1 fid rv) (r:Int×Nd) (_:f p0 p1=some r) (O S:List Nat) (w:World) (_:Hd O w w S [.tr fH [v1] bs1 p0,.own (Rp.int .i64) v54 3 p1.rules,.blk b1 [v52,v53,v54] 218,f1 fB v52 p1.told,f1 Rp.bool v53 p1.possible]),
  Calls Tryz.prog fid ([rv,gX b1]:List Value).toArray w fun e w'=> ∃bs',e= .returned (i6 r.1)∧Hd O w w' S [.tr fH [v1] bs' r.2,.own (Rp.int .i64) v54 3 p1.rules,.blk b1 [v52,v53,v54] 218]
theorem Feqw (a:jX)(b:gI)(d:Nat)(f:Value)(h:Value)(c:Value)(r:Int)(i:Feq a b=some r)(O S:List Nat)(w:World)(H:Hd O w w S [.own (Rp.int .i64) c 3 b.rules,.blk d [f,h,c] 218,f1 fB f b.told,f1 Rp.bool h b.possible]):
  Cl 209 [.agg [i6 a.truth].toArray,gX d] w fun e j=>e= .returned (i6 r)∧Hd O w j S [.own (Rp.int .i64) c 3 b.rules,.blk d [f,h,c] 218]:=by
 unfold Feq at i
 refine CW 7 Tryz.func209 ?_
 refine zB fun m k=>zA<| yP rfl rfl (xJ (cs:=[i6 a.truth]) rfl H) ?_
 rintro _ n ⟨o,rfl,H⟩
 refine zI (i6 0)<| RN k<| zB fun p l=>zA<| zG (fa239_0 rfl)<| Ld fF H 4 0 rfl rfl<| zI (i6 a.truth)<| RN l ?_
 obtain rfl:=gG i
 refine (zW (gU (v1:=i6 a.truth) rfl rfl ?_))
 exact ⟨rfl,H.pick [0,1]⟩
theorem Fakw (d:Int)(r:Int)(c:Fak d=some r)(O S:List Nat)(w:World)(H:Hd O w w S []):
  Cl 214 [i6 d] w fun e k=>e= .returned (i6 r)∧Hd O w k S []:=by
 unfold Fak at c
 refine CW 9 Tryz.func214 ?_
 refine zB fun v l=>zA<| zI (i6 0)<| RN l<| zB fun x m=>yA<| zB fun y n=>zA<| zJ (i6 d) ?_
 obtain ⟨i,o,c⟩:=zC c
 refine zG (zO (xG (a:=d) (b:=0) rfl rfl) o)<| zI (.bool i)<| RN n<| zU (b:=i) rfl (fun f=>?_) (fun f=>?_)
 ·have c:=zN f c
  refine zB fun z p=>zA<| zI (i6 (-1))<| RN p ?_
  obtain rfl:=gG c
  refine (zW (zY (zQ (gU (v1:=i6 (-1)) rfl rfl ?_))))
  exact ⟨rfl,H.pick []⟩
 have c:=zM f c
 refine zB fun A q=>zA<| zJ (i6 d) ?_
 obtain ⟨j,s,c⟩:=zC c
 refine zG (zO (cO (a:=d) (b:=0) rfl rfl) s)<| zI (.bool j)<| RN q<| zU (b:=j) rfl (fun h=>?_) (fun h=>?_)
 ·have c:=zN h c
  refine zB fun B t=>zA<| zI (i6 1)<| RN t ?_
  obtain rfl:=gG c
  refine (zW (zY (zQ (gU (v1:=i6 1) rfl rfl ?_))))
  exact ⟨rfl,H.pick []⟩
 have c:=zM h c
 refine (zV (yH (zF (m _ _ ?_))))
 refine zB fun C u=>zA<| zI (i6 0)<| RN u ?_
 obtain rfl:=gG c
 refine (zW (gU (v1:=i6 0) rfl rfl ?_))
 exact ⟨rfl,H.pick []⟩
set_option maxRecDepth 100000 in
theorem Fbdw (f:Int)(d:Int)(r:Bool)(c:Fbd f d=some r)(O S:List Nat)(w:World)(H:Hd O w w S []):
  Cl 213 [i6 f,i6 d] w fun e z=>e= .returned (.bool r)∧Hd O w z S []:=by
 unfold Fbd at c
 refine CW 28 Tryz.func213 ?_
 refine zB fun K1 A=>zA<| zI (.bool false)<| RN A<| zB fun ae B=>zB fun af C=>zA<| zJ (i6 f)<| RN C<| yA<| zB fun ag D=>zA ?_
 obtain ⟨m,E,c⟩:=zC c
 refine zG (zO (yX (a:=f) (b:=1) rfl rfl) E)<| zI (.bool m)<| RN D<| zU (b:=m) rfl (fun h=>?_) (fun h=>?_)
 ·have c:=zN h c
  refine zB fun ah F=>zA<| zJ (i6 d) ?_
  obtain ⟨n,G,c⟩:=zC c
  refine zG (zO (xG (a:=d) (b:=0) rfl rfl) G)<| zI (.bool n)<| RN F ?_
  obtain rfl:=gG c
  refine (zW (zY (zQ (gU (v1:= .bool n) rfl rfl ?_))))
  exact ⟨rfl,H.pick []⟩
 have c:=zM h c
 refine zB fun ai I=>zA ?_
 obtain ⟨o,J,c⟩:=zC c
 refine zG (zO (yX (a:=f) (b:=2) rfl rfl) J)<| zI (.bool o)<| RN I<| zU (b:=o) rfl (fun i=>?_) (fun i=>?_)
 ·have c:=zN i c
  refine zB fun aj K=>zA<| zJ (i6 d) ?_
  obtain ⟨p,L,c⟩:=zC c
  refine zG (zO (pG (a:=d) (b:=0) rfl rfl) L)<| zI (.bool p)<| RN K ?_
  obtain rfl:=gG c
  refine (zW (zY (zQ (gU (v1:= .bool p) rfl rfl ?_))))
  exact ⟨rfl,H.pick []⟩
 have c:=zM i c
 refine zB fun ak M=>zA ?_
 obtain ⟨q,N,c⟩:=zC c
 refine zG (zO (yX (a:=f) (b:=3) rfl rfl) N)<| zI (.bool q)<| RN M<| zU (b:=q) rfl (fun j=>?_) (fun j=>?_)
 ·have c:=zN j c
  refine zB fun al P=>zA<| zJ (i6 d) ?_
  obtain ⟨s,Q,c⟩:=zC c
  refine zG (zO (yX (a:=d) (b:=0) rfl rfl) Q)<| zI (.bool s)<| RN P ?_
  obtain rfl:=gG c
  refine (zW (zY (zQ (gU (v1:= .bool s) rfl rfl ?_))))
  exact ⟨rfl,H.pick []⟩
 have c:=zM j c
 refine zB fun am R=>zA ?_
 obtain ⟨t,T,c⟩:=zC c
 refine zG (zO (yX (a:=f) (b:=4) rfl rfl) T)<| zI (.bool t)<| RN R<| zU (b:=t) rfl (fun k=>?_) (fun k=>?_)
 ·have c:=zN k c
  refine zB fun an U=>zA<| zJ (i6 d) ?_
  obtain ⟨u,V,c⟩:=zC c
  refine zG (zO (eX (a:=d) (b:=0) rfl rfl) V)<| zI (.bool u)<| RN U ?_
  obtain rfl:=gG c
  refine (zW (zY (zQ (gU (v1:= .bool u) rfl rfl ?_))))
  exact ⟨rfl,H.pick []⟩
 have c:=zM k c
 refine zB fun ao X=>zA ?_
 obtain ⟨v,Y,c⟩:=zC c
 refine zG (zO (yX (a:=f) (b:=5) rfl rfl) Y)<| zI (.bool v)<| RN X<| zU (b:=v) rfl (fun l=>?_) (fun l=>?_)
 ·have c:=zN l c
  refine zB fun ap Z=>zA<| zJ (i6 d) ?_
  obtain ⟨x,aa,c⟩:=zC c
  refine zG (zO (aG (a:=d) (b:=0) rfl rfl) aa)<| zI (.bool x)<| RN Z ?_
  obtain rfl:=gG c
  refine (zW (zY (zQ (gU (v1:= .bool x) rfl rfl ?_))))
  exact ⟨rfl,H.pick []⟩
 have c:=zM l c
 refine (zV (yH (zF (B _ _ ?_))))
 refine zB fun aq ab=>zA<| zJ (i6 d) ?_
 obtain ⟨y,ac,c⟩:=zC c
 refine zG (zO (cO (a:=d) (b:=0) rfl rfl) ac)<| zI (.bool y)<| RN ab ?_
 obtain rfl:=gG c
 refine (zW (gU (v1:= .bool y) rfl rfl ?_))
 exact ⟨rfl,H.pick []⟩
theorem Fckw (c:Bool)(r:Int)(a:Fck c=some r)(O S:List Nat)(w:World)(H:Hd O w w S []):
  Cl 212 [.bool c] w fun e f=>e= .returned (i6 r)∧Hd O w f S []:=by
 unfold Fck at a
 refine CW 4 Tryz.func212 ?_
 refine zB fun m h=>zA<| zI (i6 0)<| RN h<| zB fun n i=>zB fun o j=>zA<| zJ (.bool c)<| RN j<| zU (b:=c) rfl (fun d=>?_) (fun d=>?_)
 ·have a:=zN d a
  refine zB fun p k=>zA<| zI (i6 2)<| RN k ?_
  obtain rfl:=gG a
  refine (zW (zQ (gU (v1:=i6 2) rfl rfl ?_)))
  exact ⟨rfl,H.pick []⟩
 have a:=zM d a
 refine zV (zF (i _ _ ?_))
 refine zB fun q l=>zA<| zI (i6 1)<| RN l ?_
 obtain rfl:=gG a
 refine (zW (gU (v1:=i6 1) rfl rfl ?_))
 exact ⟨rfl,H.pick []⟩
end Go.Proofs.YthllgjnlmjpinaaGreatDoor.L
