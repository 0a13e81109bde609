/- Walks: what each function computes, for every argument; no condition but those that stand in the statements. -/
import Derived.Test.YtckmiljbaejijaaGreatDoorUV0
import Derived.Test.YtckmiljbaejijaaGreatDoorUV3
import Derived.Test.YtckmiljbaejijaaGreatDoorUV4
namespace Go.Proofs.YtckmiljbaejijaaGreatDoor.L
open Go.RowKit Go.OB Go.Lf
set_option maxHeartbeats 4000000
set_option maxRecDepth 100000 in
theorem Fcrw (h:Rules)(p1:List fP)(v1:Value)(y:Value)(q:Value)(U:Value)(r:gW)(j:Fcr h p1=some r)(O S:List Nat)(w:World)(H:Hd O w w S [f1 Rp.str v1 h.Phases,f1 fA y h.Moves,f1 fC q h.Rules,f1 eU U p1]):
  Cl 74 [.agg [v1,y,q].toArray,U] w fun e u=> ∃u9 bj bk cb bl cc bm,e= .returned (gU u9)∧Hd O w u S [f1 Rp.str bj r.phases,.tr fJ [bk] cb r.moves,.tr fG [bl] cc r.rules,f1 Rp.bool bm r.possible,.blk u9 [bj,i6 r.tracks,bk,bl,bm] 146]:=by
 unfold Fcr at j
 refine zS 128 Tryz.func74 rfl rfl rfl ?_
 refine zC fun gv cd=>zA<| yP rfl rfl (xW (cs:=[v1,y,q]) rfl H) ?_
 rintro _ gw ⟨M,rfl,H⟩
 refine zK (.pointer none)<| zF (zB (cd _ _ ?_))
 refine zC fun gx ce=>zA<| yP rfl rfl (Lx_mkmap H) ?_
 rintro _ gy ⟨l,rfl,H⟩
 refine zH (fa26_0 rfl)<| Ld one22 H 4 0 rfl rfl<| yP rfl rfl (Lx_mkmap H) ?_
 rintro _ gz ⟨n,rfl,H⟩
 obtain ⟨cf,cg,ch⟩: ∃a c,v1= .slice a _ c:=SlF.len ((H.item (i:=0) rfl))
 refine zH (xM (cs:=[.map (some l),.slice none 0 0,v1,.map (some n)]) (by rw [ch]; exact bt215_0_2_3 _ cf _ cg _))<| yP rfl rfl (xW (cs:=[.map (some l),.slice none 0 0,v1,.map (some n)]) rfl H) ?_
 rintro _ g0 ⟨z,rfl,H⟩
 refine zK (gU z)<| zF (zB (ce _ _ ?_))
 obtain ⟨a0,j,ci⟩:=zD j
 refine yL [6,7,19,20,21,22,23,24,25,26,27,28,29,30,31,32,33,34,35,36,37,38,39,40,41,42,43,44,45] (fun (g:Value)=>[]) (fun g wl=>Hd O w wl S [f1 Rp.str v1 h.Phases,f1 fA y h.Moves,f1 fC q h.Rules,f1 eU U p1,.blk M [v1,y,q] 26,.mp l (fB Ky.str (fun v=>Value.int .i64 v) a0.1),.mp n (fB Ky.str (fun v=>Value.int .i64 v) ([]:List (Str×Int))),.blk z [.map (some l),g,v1,.map (some n)] 215,.own (Rp.int .i64) g 3 a0.2]) ?_ ?_
 ·skip
  refine zC fun K238 cj=>zA<| zI U ?_
  obtain ⟨ck,cl,j⟩:=zG j
  obtain ⟨a241,g3,cm⟩:=SlF.len ((H.item (i:=3) rfl))
  refine zH (yJ (xN u27 cm) (congrArg (Value.int .i64) cl))<| zI (i6 0)<| zF (zB (cj _ _ ?_))
  refine yF ?_
  have H:=dY H (Rp.int .i64) 3
  unfold Fdg at j
  obtain ⟨cn,bn,co,j⟩:=yR j
  refine xG [6,7,21,22,23,24,25,26,27,28,29,30,31,32,33,34,35,36,37,38,39,40,41,42,43,44,45] (fun (g:Nat×Int×(List (Str×Int))×(List Int)×Value)=>[(21,i6 g.2.1)]) (fun g wl=>Hd O w wl S [f1 Rp.str v1 h.Phases,f1 fA y h.Moves,f1 fC q h.Rules,f1 eU U p1,.blk M [v1,y,q] 26,.mp l (fB Ky.str (fun v=>Value.int .i64 v) g.2.2.1),.mp n (fB Ky.str (fun v=>Value.int .i64 v) ([]:List (Str×Int))),.blk z [.map (some l),g.2.2.2.2,v1,.map (some n)] 215,.own (Rp.int .i64) g.2.2.2.2 3 g.2.2.2.1]∧eF cn g.1 (g.2.1,g.2.2.1,g.2.2.2.1)=some a0) (fun g=>g.1) (bn,0,([]:List (Str×Int)),[],.slice none 0 0) (zL rfl zO) ⟨H.pick [0,1,2,3,4,5,6,7,8] (by decide),j⟩ ?_
  clear H j
  rintro ⟨bn,ao,cp,cq,a9⟩ ρ g4 ⟨H,j⟩
  obtain ⟨cr,rfl,j⟩:=yX j
  have j:=yY co j
  refine zC fun g5 ct=>zA ?_
  obtain ⟨cu,cv,j⟩:=zG j
  refine zH (zQ (xR (a:=ao) (b:=ck) rfl rfl) cv)<| zF (zB (ct _ _ ?_))
  refine zC fun g6 cw=>?_
  refine yC (b:=cu) rfl (fun ba=>?_) (fun ba=>?_)
  ·have j:=zT ba j
   refine yB (zB (cw _ _ ?_))
   refine zC fun g7 cx=>?_
   refine yF ?_
   refine zC fun g8 cy=>zA<| zI (i6 ao) ?_
   obtain ⟨Q,bb,j⟩:=zD j
   obtain ⟨cz,c0,g9,ha,c1,c2,c3,c4,c5⟩:=dQ (H.item (i:=3) rfl) bb
   obtain ⟨aw,rfl,c6⟩:=rTrack_open c2
   have H:=H.fzs [.at cz (c0+ao.toNat * 4) _,.sl dC aw Q.Series.Samples] ⟨⟨c3,c4,c5⟩,c6,trivial⟩
   refine zH (xJ u27 sz37 c1 rfl (yE bb).1 (yE bb).2.1 rfl rfl)<| zH (yJ (yM (cs:=[sb Q.Name,i6 Q.Series.Den,aw,i6 Q.Long]) agg37 rfl sz37 rfl (H.item (i:=9) rfl).2.2) rfl)<| yP rfl rfl (xH zero37 H) ?_
   rintro _ hb ⟨c7,rfl,H⟩
   refine zK (i6 ao)<| yV rfl (yQ (vs:=[sb Q.Name,i6 Q.Series.Den,aw,i6 Q.Long]) H 11 rfl sz37 rfl rfl rfl ⟨rfl,rfl,(wH (H.item (i:=10) rfl)),rfl,trivial⟩ rfl) ?_
   rintro hc H
   refine zF (zB (cy _ _ ?_))
   refine zC fun he c8=>?_
   have c9:=H
   have H:=H.rebase
   have hf:=H
   refine wB H [0,1,2,3,4,5,6,7] (kz [0,0,0,1,0,1,0,3]) mixed ?_
   refine XM (gU z)<| XP (fun _ _=>zN rfl)<| XP (fun _ _=>fa215_0 rfl)<| XR one163 H 7 0 rfl rfl<| XP (fun _ _=>fa37_0 rfl)<| XR bC H 11 0 rfl rfl<| XM (i6 ao) ?_
   obtain ⟨bo,da,j⟩:=zG j
   refine MxM.XL_exU oS rfl rfl (fun u o=>Lx_mapset (K:=Ky.str) (G:=(fun v=>Value.int .i64 v)) (m:=cp) (k:=Q.Name) (v:=ao) (H.sees o) 5 rfl u163 u9 rfl rfl rfl da) ?_
   rintro u hg o H
   refine ⟨H.only,?_⟩
   refine MxM.xI fun db hS=>?_
   have H:=H.sees hS
   have H:=c9.rejoin H
   refine (zB (c8 _ _ ?_))
   have H:Hd O w db S [f1 Rp.str v1 h.Phases,f1 fA y h.Moves,f1 fC q h.Rules,f1 eU U p1,.blk M [v1,y,q] 26,.mp l (fB Ky.str (fun v=>Value.int .i64 v) bo),.mp n (fB Ky.str (fun v=>Value.int .i64 v) ([]:List (Str×Int))),.blk z [.map (some l),a9,v1,.map (some n)] 215,.own (Rp.int .i64) a9 3 cq,f1 dC aw Q.Series.Samples,.blk c7 [sb Q.Name,i6 Q.Series.Den,aw,i6 Q.Long] 37]:=H.pick [0,1,2,3,4,5,6,7,8,10,11] (by decide)
   have dc:=H
   have H:=H.rebase
   have hh:=H
   refine wB H [0,1,2,3,4,5,6,7,8,9,10,11,12] (kz [0,0,0,0,1,0,0,1,2,3,0,0,3]) mixed ?_
   refine XM (gU z)<| XM (gU z)<| XP (fun _ _=>zN rfl)<| XP (fun _ _=>fa215_1 rfl)<| XR one38 H 7 1 rfl rfl<| XP (fun _ _=>fa37_1 rfl)<| XP (fun _ _=>fa35_0 rfl)<| XR fU H 10 1 rfl rfl ?_
   obtain ⟨hi,dd,j⟩:=zG j
   subst dd
   refine MxM.XL_exN oS rfl rfl rfl (fun u o=>Ls_of (kM (r:=(Rp.int .i64)) (xl:=[Q.Series.Den]) (cs:=[i6 Q.Series.Den]) u38 el3 (by decide) (by decide) rfl (xP (vs:=[i6 Q.Series.Den]) (by decide) rfl rfl ⟨rfl,trivial⟩ rfl) (H.sees o) ⟨[i6 Q.Series.Den],[],rfl,rfl,rfl⟩) (Ys_bs (cs:=[i6 Q.Series.Den]) u38 el3 (by decide) (by decide) (xP (vs:=[i6 Q.Series.Den]) (by decide) rfl rfl ⟨rfl,trivial⟩ rfl))) ?_
   rintro u hj hk o H
   obtain ⟨de,df,j⟩:=zD j
   refine MxM.XL_ex oS rfl rfl rfl (fun u o=>aO (H.sees o) (i:=8) rfl u38 el3 rfl rfl (Sr.of_own ((H.sees o).item (i:=11) rfl)) df) ?_
   rintro u bp hl o H
   refine ⟨H.only,?_⟩
   refine XP (fun _ _=>zN rfl)<| XP (fun _ _=>fa215_1 rfl)<| MxM.XL_exU oS rfl rfl (fun u o=>xE (H.sees o) 7 rfl sz38 rfl (v:=bp) rfl (bY ((H.sees o).item (i:=8) rfl)) rfl) ?_
   rintro u hn o H
   refine ⟨H.only,?_⟩
   refine MxM.xI fun ho hS=>?_
   have H:=H.sees hS
   have H:=dc.rejoin H
   refine yK (zB (cx _ _ ?_))
   refine zA ?_
   obtain ⟨bq,dg,j⟩:=zG j
   refine zH (xQ (a:=ao) (b:=1) rfl rfl dg)<| zI (i6 bq) ?_
   exact (zF (zB (meet ⟨(cr,bq,bo,de,bp),(zL rfl zO),⟨H.pick [0,1,2,3,4,5,6,7,8] (by decide),j⟩,Nat.lt_succ_self _⟩)))
  have j:=zU ba j
  obtain rfl:=gI j
  exact (xK (yH (yH (yU (zB (meet ⟨a9,zO,H.pick [0,1,2,3,4,5,6,7,8] (by decide)⟩))))))
 rintro p ρ a1 H
 have j:=ci
 obtain ⟨A,B⟩:=a0
 refine zC fun hp dh=>?_
 have di:=H
 have H:=H.rebase
 have dj:=H
 have br:Hd (O++bks (rest [4,5,6,7,8] [f1 Rp.str v1 h.Phases,f1 fA y h.Moves,f1 fC q h.Rules,f1 eU U p1,.blk M [v1,y,q] 26,.mp l (fB Ky.str (fun v=>Value.int .i64 v) A),.mp n (fB Ky.str (fun v=>Value.int .i64 v) ([]:List (Str×Int))),.blk z [.map (some l),p,v1,.map (some n)] 215,.own (Rp.int .i64) p 3 B])) a1 a1 (bks (Go.Lf.pick ([4,5,6,7,8]++ [0,1,2,3]) [f1 Rp.str v1 h.Phases,f1 fA y h.Moves,f1 fC q h.Rules,f1 eU U p1,.blk M [v1,y,q] 26,.mp l (fB Ky.str (fun v=>Value.int .i64 v) A),.mp n (fB Ky.str (fun v=>Value.int .i64 v) ([]:List (Str×Int))),.blk z [.map (some l),p,v1,.map (some n)] 215,.own (Rp.int .i64) p 3 B])) [.blk M [v1,y,q] 26,.mp l (fB Ky.str (fun v=>Value.int .i64 v) A),.mp n (fB Ky.str (fun v=>Value.int .i64 v) ([]:List (Str×Int))),.blk z [.map (some l),p,v1,.map (some n)] 215,.own (Rp.int .i64) p 3 B,f1 Rp.str v1 h.Phases,f1 fA y h.Moves,f1 fC q h.Rules,f1 eU U p1]:=H.enter [4,5,6,7,8] [0,1,2,3] (by decide) rfl
 refine WP_forkM H br [0,1,3,4,5,6,7] 2 8 [9,10,11] [] [.pure,.read,.new,.pure,.pure,.pure,.read,.pure,.new,.pure,.new,.pure] ⟨trivial,trivial,trivial,trivial,trivial,trivial,trivial,trivial,trivial,trivial,trivial,trivial,trivial⟩ mixed (by kernel_rfl) (by kernel_rfl) (by kernel_rfl) (by kernel_rfl) (by kernel_rfl) (by decide) ?_
 have H:=br
 refine XP (fun _ _=>fa26_0 rfl)<| XR one22 H 0 0 rfl rfl<| XM U ?_
 obtain ⟨J,dk,j⟩:=zG j
 obtain ⟨hq,hr,dl⟩:=SlF.len ((H.item (i:=8) rfl))
 refine XP (fun _ _=>yJ (xN u27 dl) (congrArg (Value.int .i64) dk))<| XP (fun _ _=>fa26_0 rfl)<| XR one22 H 0 0 rfl rfl ?_
 obtain ⟨hs,dm,j⟩:=zG j
 obtain ⟨ht,hu,dn⟩:=SlF.len ((H.item (i:=5) rfl))
 refine XP (fun _ _=>yJ (xN u22 dn) (congrArg (Value.int .i64) dm))<| MxM.xI fun hv hS=>?_
 have H:=H.sees hS
 obtain ⟨E,bt,j⟩:=zD j
 obtain ⟨a2,a3,j⟩:=zD j
 refine MxM.XL_join (du:=48) (dv:=54) (fun g1 g2 wl=> ∃(s:Value) (t:Value),s=g1∧t=g2∧Hd (O++bks (rest [4,5,6,7,8] [f1 Rp.str v1 h.Phases,f1 fA y h.Moves,f1 fC q h.Rules,f1 eU U p1,.blk M [v1,y,q] 26,.mp l (fB Ky.str (fun v=>Value.int .i64 v) A),.mp n (fB Ky.str (fun v=>Value.int .i64 v) ([]:List (Str×Int))),.blk z [.map (some l),p,v1,.map (some n)] 215,.own (Rp.int .i64) p 3 B])) a1 wl (bks (Go.Lf.pick ([4,5,6,7,8]++ [0,1,2,3]) [f1 Rp.str v1 h.Phases,f1 fA y h.Moves,f1 fC q h.Rules,f1 eU U p1,.blk M [v1,y,q] 26,.mp l (fB Ky.str (fun v=>Value.int .i64 v) A),.mp n (fB Ky.str (fun v=>Value.int .i64 v) ([]:List (Str×Int))),.blk z [.map (some l),p,v1,.map (some n)] 215,.own (Rp.int .i64) p 3 B])) [.blk M [v1,y,q] 26,.mp l (fB Ky.str (fun v=>Value.int .i64 v) A),.mp n (fB Ky.str (fun v=>Value.int .i64 v) ([]:List (Str×Int))),.blk z [.map (some l),p,v1,.map (some n)] 215,.own (Rp.int .i64) p 3 B,f1 Rp.str v1 h.Phases,f1 fA y h.Moves,f1 fC q h.Rules,f1 eU U p1,.own Rp.str s 9 E,.own Rp.bool t 4 a2]) ?_ ?_ ?_
 ·skip
  refine MxM.XL_newC oS rfl rfl rfl (fun u o=>zV en100 rfl) (fun u o=>Fbxw h.Phases v1 _ bt _ _ _ ((H.sees o).enter [] [5] (by decide) rfl)) ?_
  rintro u _ hw o ⟨s,rfl,bu⟩
  have H:=(H.sees o).back1 [5] rfl bu
  refine ⟨_,rfl,(bu.only:Only [] _ _).below,?_⟩
  refine MxM.XL_exN oS rfl rfl rfl (fun u o=>Ls_of (Lx_make (r:=Rp.bool) (zv:= .bool false) u144 el4 rfl (fun _ _=>rfl) rfl rfl a3 (H.sees o)) (Ys_make u144 el4 rfl rfl rfl a3)) ?_
  rintro u t hx o H
  refine MxM.xI fun hy hS=>?_
  have H:=H.sees hS
  exact ⟨_,_,rfl,H.only,s,t,rfl,rfl,H⟩
 ·skip
  refine MxM.XL_exN oS rfl rfl rfl (fun u o=>Ls_of (Lx_make (r:=Rp.bool) (zv:= .bool false) u144 el4 rfl (fun _ _=>rfl) rfl rfl a3 (H.sees o)) (Ys_make u144 el4 rfl rfl rfl a3)) ?_
  rintro u dp hz o H
  refine MxM.XL_newC oS rfl rfl rfl (fun u o=>zV en100 rfl) (fun u o=>Fbxw h.Phases v1 _ bt _ _ _ ((H.sees o).enter [] [5] (by decide) rfl)) ?_
  rintro u _ h0 o ⟨dq,rfl,bv⟩
  have H:=(H.sees o).back1 [5] rfl bv
  refine ⟨_,rfl,(bv.only:Only [] _ _).below,?_⟩
  refine MxM.xI fun h1 hS=>?_
  have H:=H.sees hS
  have H:=H.pick [0,1,2,3,4,5,6,7,8,10,9] (by decide)
  exact ⟨_,_,MxM.upd_comm _ (by decide) _ _,H.only,dq,dp,rfl,rfl,H⟩
 rintro M' _ _ h2 ⟨s,t,rfl,rfl,H⟩
 obtain ⟨dr,ds,dt⟩: ∃a c,s= .slice a _ c:=Sr.len (Sr.of_own (H.item (i:=9) rfl))
 obtain ⟨dw,dx,dy⟩: ∃a c,t= .slice a _ c:=Sr.len (Sr.of_own (H.item (i:=10) rfl))
 refine XP (fun _ _=>xM (cs:=[s,i6 J,.slice none 0 0,.slice none 0 0,t]) (by rw [dt,dy]; exact bt146_0_1_4 dr _ ds _ dw _ dx))<| MxM.XL_exN oS rfl rfl rfl (fun u o=>Ls_of (xW (cs:=[s,i6 J,.slice none 0 0,.slice none 0 0,t]) rfl (H.sees o)) (Ys_box (cs:=[s,i6 J,.slice none 0 0,.slice none 0 0,t]) rfl)) ?_
 rintro u _ h3 o ⟨F,rfl,H⟩
 refine XP (fun _ _=>xO (v:=gU F) rfl)<| MxM.xI fun dz hS=>?_
 have H:=H.sees hS
 have H:=dj.back [4,5,6,7,8] [0,1,2,3] rfl H
 have H:Hd _ _ _ _ [f1 Rp.str v1 h.Phases,f1 fA y h.Moves,f1 fC q h.Rules,f1 eU U p1,.blk M [v1,y,q] 26,.mp l (fB Ky.str (fun v=>Value.int .i64 v) A),.mp n (fB Ky.str (fun v=>Value.int .i64 v) ([]:List (Str×Int))),.blk z [.map (some l),p,v1,.map (some n)] 215,.own (Rp.int .i64) p 3 B,f1 Rp.str v1 h.Phases,f1 fA y h.Moves,f1 fC q h.Rules,f1 eU U p1,.own Rp.str s 9 E,.own Rp.bool t 4 a2,.blk F [s,i6 J,.slice none 0 0,.slice none 0 0,t] 146]:=H
 have H:Hd O a1 dz (bks [f1 Rp.str v1 h.Phases,f1 fA y h.Moves,f1 fC q h.Rules,f1 eU U p1,.blk M [v1,y,q] 26,.mp l (fB Ky.str (fun v=>Value.int .i64 v) A),.mp n (fB Ky.str (fun v=>Value.int .i64 v) ([]:List (Str×Int))),.blk z [.map (some l),p,v1,.map (some n)] 215,.own (Rp.int .i64) p 3 B]) [.blk M [v1,y,q] 26,.mp l (fB Ky.str (fun v=>Value.int .i64 v) A),.mp n (fB Ky.str (fun v=>Value.int .i64 v) ([]:List (Str×Int))),.blk z [.map (some l),p,v1,.map (some n)] 215,.own (Rp.int .i64) p 3 B,f1 Rp.str v1 h.Phases,f1 fA y h.Moves,f1 fC q h.Rules,f1 eU U p1,.own Rp.str s 9 E,.own Rp.bool t 4 a2,.blk F [s,i6 J,.slice none 0 0,.slice none 0 0,t] 146]:=H.pick [4,5,6,7,8,9,10,11,12,13,14,15] (by decide)
 refine ⟨H.only,?_⟩
 refine MxM.xI fun d0 hS=>?_
 have H:=H.sees hS
 have H:=di.rejoin H
 refine (zB (dh _ _ ?_))
 have H:Hd O w d0 S [.blk M [v1,y,q] 26,.mp l (fB Ky.str (fun v=>Value.int .i64 v) A),.mp n (fB Ky.str (fun v=>Value.int .i64 v) ([]:List (Str×Int))),.blk z [.map (some l),p,v1,.map (some n)] 215,.own (Rp.int .i64) p 3 B,f1 Rp.str v1 h.Phases,f1 fA y h.Moves,f1 fC q h.Rules,.own Rp.str s 9 E,.own Rp.bool t 4 a2,.blk F [s,i6 J,.slice none 0 0,.slice none 0 0,t] 146]:=H.pick [0,1,2,3,4,5,6,7,9,10,11] (by decide)
 obtain ⟨I,j,d1⟩:=zD j
 refine yL [57,58,59,60,61,62,63,64,65] (fun (g:Unit)=>[]) (fun g wl=>Hd O w wl S [.blk M [v1,y,q] 26,f1 Rp.str v1 h.Phases,f1 fA y h.Moves,f1 fC q h.Rules,.mp l (fB Ky.str (fun v=>Value.int .i64 v) A),.mp n (fB Ky.str (fun v=>Value.int .i64 v) ([]:List (Str×Int))),.blk z [.map (some l),p,v1,.map (some n)] 215,.own (Rp.int .i64) p 3 B,.own Rp.str s 9 E,.own Rp.bool t 4 I,.blk F [s,i6 J,.slice none 0 0,.slice none 0 0,t] 146]) ?_ ?_
 ·skip
  refine zC fun h4 d2=>zA<| zH (fa26_0 rfl)<| Ld one22 H 0 0 rfl rfl ?_
  obtain ⟨d3,d4,j⟩:=zG j
  obtain ⟨h5,h6,d5⟩:=SlF.len ((H.item (i:=5) rfl))
  refine zH (yJ (xN u22 d5) (congrArg (Value.int .i64) d4)) ?_
  obtain ⟨d6,d7,j⟩:=zG j
  refine zH (zQ (kH (a:=d3) (b:=0) rfl rfl) d7)<| zF (zB (d2 _ _ ?_))
  refine yC (b:=d6) rfl (fun bc=>?_) (fun bc=>?_)
  ·have j:=zT bc j
   refine zA ?_
   refine zI (gU F)<| zH (zN rfl)<| zH (fa146_4 rfl)<| Ld one144 H 10 4 rfl rfl ?_
   obtain ⟨d8,bd,j⟩:=zD j
   obtain ⟨h7,h8,d9,bw,ea,eb⟩:=kT (H.item (i:=9) rfl) bd
   obtain rfl:d9= [.bool d8]:=ea
   refine zH (xJ u144 sz4 bw rfl (yE bd).1 (yE bd).2.1 rfl rfl) ?_
   obtain ⟨h9,ec,j⟩:=zD j
   refine yV rfl (Lx_own_store (vs:=[.bool true]) (off:=0) H 9 rfl bw eb rfl sz4 rfl rfl rfl (kV ⟨rfl,trivial⟩) ec (by decide) rfl rfl) ?_
   rintro ia H
   obtain rfl:=gI j
   exact (zF (zB (meet ⟨(),zO,H.pick [0,5,6,7,1,2,3,4,8,9,10] (by decide)⟩)))
  have j:=zU bc j
  obtain rfl:=gI j
  exact (yB (zB (meet ⟨(),zO,H.pick [0,5,6,7,1,2,3,4,8,9,10] (by decide)⟩)))
 rintro _ ρ ib H
 have j:=d1
 obtain ⟨R,j,ed⟩:=zD j
 refine yL [10,66,67,68,69,70,71,72,73,74,75,76,77,78,79,80,81,82,83,84,85,86,87,88,89,90,91,92,93,94,95,96,97] (fun (g:Value×(List Nat))=>[]) (fun g wl=>Hd O w wl S [.blk M [v1,y,q] 26,f1 Rp.str v1 h.Phases,f1 fA y h.Moves,f1 fC q h.Rules,.mp l (fB Ky.str (fun v=>Value.int .i64 v) A),.mp n (fB Ky.str (fun v=>Value.int .i64 v) ([]:List (Str×Int))),.blk z [.map (some l),p,v1,.map (some n)] 215,.own (Rp.int .i64) p 3 B,.own Rp.str s 9 E,.own Rp.bool t 4 I,.blk F [s,i6 J,g.1,.slice none 0 0,t] 146,.tr fJ [g.1] g.2 R]) ?_ ?_
 ·skip
  refine zC fun id ee=>zA<| zH (fa26_1 rfl)<| Ld one23 H 0 1 rfl rfl ?_
  obtain ⟨ef,eg,j⟩:=zG j
  obtain ⟨ie,ig,eh⟩:=SlF.len ((H.item (i:=2) rfl))
  refine zH (yJ (xN u23 eh) (congrArg (Value.int .i64) eg))<| zI (i6 0)<| zF (zB (ee _ _ ?_))
  refine yF ?_
  have H:=row_nil H fK 172
  unfold Fd6 at j
  obtain ⟨ei,bx,ej,j⟩:=yR j
  refine xG [10,69,70,71,72,73,74,75,76,77,78,79,80,81,82,83,84,85,86,87,88,89,90,91,92,93,94,95,96,97] (fun (g:Nat×Int×(List fM)×Value×(List Nat))=>[(69,i6 g.2.1)]) (fun g wl=>Hd O w wl S [.blk M [v1,y,q] 26,f1 Rp.str v1 h.Phases,f1 fA y h.Moves,f1 fC q h.Rules,.mp l (fB Ky.str (fun v=>Value.int .i64 v) A),.mp n (fB Ky.str (fun v=>Value.int .i64 v) ([]:List (Str×Int))),.blk z [.map (some l),p,v1,.map (some n)] 215,.own (Rp.int .i64) p 3 B,.own Rp.str s 9 E,.own Rp.bool t 4 I,.blk F [s,i6 J,g.2.2.2.1,.slice none 0 0,t] 146,.tr fJ [g.2.2.2.1] g.2.2.2.2 g.2.2.1]∧eF ei g.1 (g.2.1,g.2.2.1)=some R) (fun g=>g.1) (bx,0,[],.slice none 0 0,[]) (zL rfl zO) ⟨H.pick [0,1,2,3,4,5,6,7,8,9,10,11] (by decide),j⟩ ?_
  clear H j
  rintro ⟨bx,T,ai,V,ah⟩ ρ ih ⟨H,j⟩
  obtain ⟨ek,rfl,j⟩:=yX j
  have j:=yY ej j
  refine zC fun ii el=>zA ?_
  obtain ⟨em,en,j⟩:=zG j
  refine zH (zQ (xR (a:=T) (b:=ef) rfl rfl) en)<| zF (zB (el _ _ ?_))
  refine zC fun ij eo=>?_
  refine yC (b:=em) rfl (fun be=>?_) (fun be=>?_)
  ·have j:=zT be j
   refine yB (zB (eo _ _ ?_))
   refine zC fun ik ep=>?_
   refine yF ?_
   refine zC fun il er=>zA ?_
   obtain ⟨d,bf,j⟩:=zD j
   obtain ⟨Y,Z,im,io,es,et,eu,ew,ex⟩:=dQ (H.item (i:=2) rfl) bf
   obtain ⟨C,rfl,ey⟩:=rMoveT_open et
   have H:=H.fzs [.at Y (Z+T.toNat * 9) _,.sl fD C d.When.Kids] ⟨⟨eu,ew,ex⟩,ey,trivial⟩
   refine zH (xJ u23 sz122 es rfl (yE bf).1 (yE bf).2.1 rfl rfl)<| zH (yJ (yM (cs:=[sb d.From,sb d.To,i6 d.When.Kind,sb d.When.Name,sb d.When.Other,i6 d.When.Op,i6 d.When.N,i6 d.When.Frames,C]) agg122 rfl sz122 rfl (H.item (i:=12) rfl).2.2) rfl)<| yP rfl rfl (xH zero122 H) ?_
   rintro _ ip ⟨ap,rfl,H⟩
   refine yV rfl (yQ (vs:=[sb d.From,sb d.To,i6 d.When.Kind,sb d.When.Name,sb d.When.Other,i6 d.When.Op,i6 d.When.N,i6 d.When.Frames,C]) H 14 rfl sz122 rfl rfl rfl ⟨rfl,rfl,rfl,rfl,rfl,rfl,rfl,rfl,(wH (H.item (i:=13) rfl)),trivial⟩ rfl) ?_
   rintro a4 H
   refine zF (zB (er _ _ ?_))
   have ez:=H
   have H:=H.rebase
   have e0:=H
   have az:Hd (O++bks (rest [4,5,6,7,8,9,11] [.blk M [v1,y,q] 26,f1 Rp.str v1 h.Phases,f1 fA y h.Moves,f1 fC q h.Rules,.mp l (fB Ky.str (fun v=>Value.int .i64 v) A),.mp n (fB Ky.str (fun v=>Value.int .i64 v) ([]:List (Str×Int))),.blk z [.map (some l),p,v1,.map (some n)] 215,.own (Rp.int .i64) p 3 B,.own Rp.str s 9 E,.own Rp.bool t 4 I,.blk F [s,i6 J,V,.slice none 0 0,t] 146,.tr fJ [V] ah ai,.fz (.at Y (Z+T.toNat * 9) [sb d.From,sb d.To,i6 d.When.Kind,sb d.When.Name,sb d.When.Other,i6 d.When.Op,i6 d.When.N,i6 d.When.Frames,C]),f1 fD C d.When.Kids,.blk ap [sb d.From,sb d.To,i6 d.When.Kind,sb d.When.Name,sb d.When.Other,i6 d.When.Op,i6 d.When.N,i6 d.When.Frames,C] 122])) a4 a4 (bks (Go.Lf.pick ([4,5,6,7,8,9,11]++ [1,2,3,12,13]) [.blk M [v1,y,q] 26,f1 Rp.str v1 h.Phases,f1 fA y h.Moves,f1 fC q h.Rules,.mp l (fB Ky.str (fun v=>Value.int .i64 v) A),.mp n (fB Ky.str (fun v=>Value.int .i64 v) ([]:List (Str×Int))),.blk z [.map (some l),p,v1,.map (some n)] 215,.own (Rp.int .i64) p 3 B,.own Rp.str s 9 E,.own Rp.bool t 4 I,.blk F [s,i6 J,V,.slice none 0 0,t] 146,.tr fJ [V] ah ai,.fz (.at Y (Z+T.toNat * 9) [sb d.From,sb d.To,i6 d.When.Kind,sb d.When.Name,sb d.When.Other,i6 d.When.Op,i6 d.When.N,i6 d.When.Frames,C]),f1 fD C d.When.Kids,.blk ap [sb d.From,sb d.To,i6 d.When.Kind,sb d.When.Name,sb d.When.Other,i6 d.When.Op,i6 d.When.N,i6 d.When.Frames,C] 122])) [.mp l (fB Ky.str (fun v=>Value.int .i64 v) A),.mp n (fB Ky.str (fun v=>Value.int .i64 v) ([]:List (Str×Int))),.blk z [.map (some l),p,v1,.map (some n)] 215,.own (Rp.int .i64) p 3 B,.own Rp.str s 9 E,.own Rp.bool t 4 I,.tr fJ [V] ah ai,f1 Rp.str v1 h.Phases,f1 fA y h.Moves,f1 fC q h.Rules,.fz (.at Y (Z+T.toNat * 9) [sb d.From,sb d.To,i6 d.When.Kind,sb d.When.Name,sb d.When.Other,i6 d.When.Op,i6 d.When.N,i6 d.When.Frames,C]),f1 fD C d.When.Kids]:=H.enter [4,5,6,7,8,9,11] [1,2,3,12,13] (by decide) rfl
   have bg:=H.firmB az (i:=14) rfl (List.mem_append_right _ (List.mem_cons_of_mem _ (List.mem_cons_of_mem _ List.mem_cons_self)))
   have bz:=H.firmB az (i:=0) rfl (List.mem_append_right _ List.mem_cons_self)
   have e1:=H.firmB az (i:=10) rfl (List.mem_append_right _ (List.mem_cons_of_mem _ List.mem_cons_self))
   refine WP_forkM H az [1,2,3,4,5,6,7,8,9,10,11,12,13,14,15,16,17,18,19,20] 0 21 [22,23] [24] [.pure,.pure,.pure,.pure,.pure,.pure,.pure,.pure,.pure,.read,.pure,.pure,.pure,.pure,.read,.pure,.pure,.pure,.eff,.pure,.eff,.eff,.pure,.pure,.eff] ⟨trivial,trivial,trivial,trivial,trivial,trivial,trivial,trivial,trivial,trivial,trivial,trivial,trivial,trivial,trivial,trivial,trivial,trivial,trivial,trivial,trivial,trivial,trivial,trivial,trivial,trivial⟩ mixed (by kernel_rfl) (by kernel_rfl) (by kernel_rfl) (by kernel_rfl) (by kernel_rfl) (by decide) ?_
   have H:=az
   refine XM (gU F)<| XP (fun _ _=>zN rfl)<| XP (fun _ _=>fa146_2 rfl)<| XP (fun u o=>xA one142 rfl (Cells.get (Blk.cells (e1 u o)) (i:=2) rfl))<| XP (fun _ _=>fa26_0 rfl)<| XP (fun u o=>xA one22 rfl (Cells.get (Blk.cells (bz u o)) (i:=0) rfl))<| XP (fun _ _=>fa122_0 rfl)<| XP (fun u o=>xA bC rfl (Cells.get (Blk.cells (bg u o)) (i:=0) rfl)) ?_
   have e2:=H
   obtain ⟨aq,e3,j⟩:=zD j
   refine MxM.XL_call oS rfl rfl rfl (v:=i6 aq) (fun u o=>zV en136 rfl) (fun u o=>bU (Fagw h.Phases d.From v1 _ e3 _ _ _ ((H.sees o).enter [] [7] (by decide) rfl))) ?_
   have H:=e2
   refine XP (fun _ _=>fa26_0 rfl)<| XP (fun u o=>xA one22 rfl (Cells.get (Blk.cells (bz u o)) (i:=0) rfl))<| XP (fun _ _=>fa122_1 rfl)<| XP (fun u o=>xA bC rfl (Cells.get (Blk.cells (bg u o)) (i:=1) rfl)) ?_
   have e4:=H
   obtain ⟨ar,e5,j⟩:=zD j
   refine MxM.XL_call oS rfl rfl rfl (v:=i6 ar) (fun u o=>zV en136 rfl) (fun u o=>bU (Fagw h.Phases d.To v1 _ e5 _ _ _ ((H.sees o).enter [] [7] (by decide) rfl))) ?_
   have H:=e4
   refine XM (gU z)<| XP (fun _ _=>fa122_2 rfl)<| XP (fun u o=>yJ (yM (cs:=[i6 d.When.Kind,sb d.When.Name,sb d.When.Other,i6 d.When.Op,i6 d.When.N,i6 d.When.Frames,C]) dI rfl dB rfl (Cells.drop (Blk.cells (bg u o)) 2 7)) rfl) ?_
   obtain ⟨a5,e6,j⟩:=zD j
   refine MxM.XL_effC oS rfl rfl rfl (fun u o=>zV en137 rfl) (fun u o=>Fga (fZ.mk A B h.Phases ([]:List (Str×Int))) d.When z l p v1 n C _ e6 _ _ _ ((H.sees o).enter [0,3,1,2] [7,11] (by decide) rfl)) ?_
   rintro u _ e7 o ⟨a6,e8,rfl,e9⟩
   have H:Hd _ _ e7 _ [.own Rp.str s 9 E,.own Rp.bool t 4 I,.tr fJ [V] ah ai,f1 Rp.str v1 h.Phases,f1 fA y h.Moves,f1 fC q h.Rules,.fz (.at Y (Z+T.toNat * 9) [sb d.From,sb d.To,i6 d.When.Kind,sb d.When.Name,sb d.When.Other,i6 d.When.Op,i6 d.When.N,i6 d.When.Frames,C]),f1 fD C d.When.Kids,.tr gY [a6] e8 a5,.mp l (fB Ky.str (fun v=>Value.int .i64 v) A),.own (Rp.int .i64) p 3 B,.mp n (fB Ky.str (fun v=>Value.int .i64 v) ([]:List (Str×Int))),.blk z [.map (some l),p,v1,.map (some n)] 215]:=(H.sees o).back [0,3,1,2] [7,11] rfl e9
   refine ⟨_,rfl,H.only,?_⟩
   obtain ⟨fa,fb,fc⟩:=nd_if (H.item (i:=8) rfl)
   refine XP (fun _ _=>xM (cs:=[i6 aq,i6 ar,a6]) (by rw [fc]; exact bt172_0_1_2 _ _ fa fb)) ?_
   obtain ⟨fd,H⟩:=aH (x:=fM.mk aq ar a5) H 8 rfl
   have H:Hd _ _ _ _ [.own Rp.str s 9 E,.own Rp.bool t 4 I,.tr fJ [V] ah ai,f1 Rp.str v1 h.Phases,f1 fA y h.Moves,f1 fC q h.Rules,.fz (.at Y (Z+T.toNat * 9) [sb d.From,sb d.To,i6 d.When.Kind,sb d.When.Name,sb d.When.Other,i6 d.When.Op,i6 d.When.N,i6 d.When.Frames,C]),f1 fD C d.When.Kids,.mp l (fB Ky.str (fun v=>Value.int .i64 v) A),.own (Rp.int .i64) p 3 B,.mp n (fB Ky.str (fun v=>Value.int .i64 v) ([]:List (Str×Int))),.blk z [.map (some l),p,v1,.map (some n)] 215,.tr fK [i6 aq,i6 ar,a6] fd (fM.mk aq ar a5)]:=H
   refine MxM.XL_ex oS rfl rfl rfl (fun u o=>Lx_bsT1 (H.sees o) 12 rfl u142 el172 (by decide) (by decide) (xP (vs:=[.agg [i6 aq,i6 ar,a6].toArray]) (by decide) rfl rfl ⟨rfl,trivial⟩ rfl)) ?_
   rintro u fe iq o ⟨ff,H⟩
   refine ⟨H.only,?_⟩
   have H:Hd _ _ _ _ [.own Rp.str s 9 E,.own Rp.bool t 4 I,.tr fJ [V] ah ai,f1 Rp.str v1 h.Phases,f1 fA y h.Moves,f1 fC q h.Rules,.fz (.at Y (Z+T.toNat * 9) [sb d.From,sb d.To,i6 d.When.Kind,sb d.When.Name,sb d.When.Other,i6 d.When.Op,i6 d.When.N,i6 d.When.Frames,C]),f1 fD C d.When.Kids,.mp l (fB Ky.str (fun v=>Value.int .i64 v) A),.own (Rp.int .i64) p 3 B,.mp n (fB Ky.str (fun v=>Value.int .i64 v) ([]:List (Str×Int))),.blk z [.map (some l),p,v1,.map (some n)] 215,.tr fJ [fe] ff [fM.mk aq ar a5]]:=H
   refine MxM.xI fun ir hS=>?_
   have H:=H.sees hS
   obtain ⟨au,b0,j⟩:=zD j
   refine MxM.XL_join (du:=73) (dv:=94) (fun g1 g2 wl=> ∃(af:Value) (aj:List Nat),gU F=g1∧af=g2∧Hd (O++bks (rest [4,5,6,7,8,9,11] [.blk M [v1,y,q] 26,f1 Rp.str v1 h.Phases,f1 fA y h.Moves,f1 fC q h.Rules,.mp l (fB Ky.str (fun v=>Value.int .i64 v) A),.mp n (fB Ky.str (fun v=>Value.int .i64 v) ([]:List (Str×Int))),.blk z [.map (some l),p,v1,.map (some n)] 215,.own (Rp.int .i64) p 3 B,.own Rp.str s 9 E,.own Rp.bool t 4 I,.blk F [s,i6 J,V,.slice none 0 0,t] 146,.tr fJ [V] ah ai,.fz (.at Y (Z+T.toNat * 9) [sb d.From,sb d.To,i6 d.When.Kind,sb d.When.Name,sb d.When.Other,i6 d.When.Op,i6 d.When.N,i6 d.When.Frames,C]),f1 fD C d.When.Kids,.blk ap [sb d.From,sb d.To,i6 d.When.Kind,sb d.When.Name,sb d.When.Other,i6 d.When.Op,i6 d.When.N,i6 d.When.Frames,C] 122])) a4 wl (bks (Go.Lf.pick ([4,5,6,7,8,9,11]++ [1,2,3,12,13]) [.blk M [v1,y,q] 26,f1 Rp.str v1 h.Phases,f1 fA y h.Moves,f1 fC q h.Rules,.mp l (fB Ky.str (fun v=>Value.int .i64 v) A),.mp n (fB Ky.str (fun v=>Value.int .i64 v) ([]:List (Str×Int))),.blk z [.map (some l),p,v1,.map (some n)] 215,.own (Rp.int .i64) p 3 B,.own Rp.str s 9 E,.own Rp.bool t 4 I,.blk F [s,i6 J,V,.slice none 0 0,t] 146,.tr fJ [V] ah ai,.fz (.at Y (Z+T.toNat * 9) [sb d.From,sb d.To,i6 d.When.Kind,sb d.When.Name,sb d.When.Other,i6 d.When.Op,i6 d.When.N,i6 d.When.Frames,C]),f1 fD C d.When.Kids,.blk ap [sb d.From,sb d.To,i6 d.When.Kind,sb d.When.Name,sb d.When.Other,i6 d.When.Op,i6 d.When.N,i6 d.When.Frames,C] 122])) [.own Rp.str s 9 E,.own Rp.bool t 4 I,f1 Rp.str v1 h.Phases,f1 fA y h.Moves,f1 fC q h.Rules,.fz (.at Y (Z+T.toNat * 9) [sb d.From,sb d.To,i6 d.When.Kind,sb d.When.Name,sb d.When.Other,i6 d.When.Op,i6 d.When.N,i6 d.When.Frames,C]),f1 fD C d.When.Kids,.mp l (fB Ky.str (fun v=>Value.int .i64 v) A),.own (Rp.int .i64) p 3 B,.mp n (fB Ky.str (fun v=>Value.int .i64 v) ([]:List (Str×Int))),.blk z [.map (some l),p,v1,.map (some n)] 215,.tr fJ [af] aj au]) ?_ ?_ ?_
   ·skip
    refine XM (gU F)<| MxM.XL_ex oS rfl rfl rfl (fun u o=>Lx_appT (H.sees o) 2 12 rfl rfl (by decide) u142 el172 rfl rfl b0) ?_
    rintro u af it o ⟨aj,H⟩
    refine ⟨H.only,?_⟩
    have H:Hd _ _ _ _ [.own Rp.str s 9 E,.own Rp.bool t 4 I,f1 Rp.str v1 h.Phases,f1 fA y h.Moves,f1 fC q h.Rules,.fz (.at Y (Z+T.toNat * 9) [sb d.From,sb d.To,i6 d.When.Kind,sb d.When.Name,sb d.When.Other,i6 d.When.Op,i6 d.When.N,i6 d.When.Frames,C]),f1 fD C d.When.Kids,.mp l (fB Ky.str (fun v=>Value.int .i64 v) A),.own (Rp.int .i64) p 3 B,.mp n (fB Ky.str (fun v=>Value.int .i64 v) ([]:List (Str×Int))),.blk z [.map (some l),p,v1,.map (some n)] 215,.tr fJ [af] aj au]:=H
    refine MxM.xI fun iu hS=>?_
    have H:=H.sees hS
    exact ⟨_,_,rfl,H.only,af,aj,rfl,rfl,H⟩
   ·skip
    refine MxM.XL_ex oS rfl rfl rfl (fun u o=>Lx_appT (H.sees o) 2 12 rfl rfl (by decide) u142 el172 rfl rfl b0) ?_
    rintro u b1 iv o ⟨b2,H⟩
    refine ⟨H.only,?_⟩
    have H:Hd _ _ _ _ [.own Rp.str s 9 E,.own Rp.bool t 4 I,f1 Rp.str v1 h.Phases,f1 fA y h.Moves,f1 fC q h.Rules,.fz (.at Y (Z+T.toNat * 9) [sb d.From,sb d.To,i6 d.When.Kind,sb d.When.Name,sb d.When.Other,i6 d.When.Op,i6 d.When.N,i6 d.When.Frames,C]),f1 fD C d.When.Kids,.mp l (fB Ky.str (fun v=>Value.int .i64 v) A),.own (Rp.int .i64) p 3 B,.mp n (fB Ky.str (fun v=>Value.int .i64 v) ([]:List (Str×Int))),.blk z [.map (some l),p,v1,.map (some n)] 215,.tr fJ [b1] b2 au]:=H
    refine XM (gU F)<| MxM.xI fun iw hS=>?_
    have H:=H.sees hS
    exact ⟨_,_,MxM.upd_comm _ (by decide) _ _,H.only,b1,b2,rfl,rfl,H⟩
   rintro M' _ _ iy ⟨af,aj,rfl,rfl,H⟩
   refine XP (fun _ _=>zN rfl)<| XP (fun _ _=>fa146_2 rfl)<| MxM.xI fun fg hS=>?_
   have H:=H.sees hS
   have H:=e0.back [4,5,6,7,8,9,11] [1,2,3,12,13] rfl H
   have H:Hd _ _ _ _ [.blk M [v1,y,q] 26,f1 Rp.str v1 h.Phases,f1 fA y h.Moves,f1 fC q h.Rules,.blk F [s,i6 J,V,.slice none 0 0,t] 146,.fz (.at Y (Z+T.toNat * 9) [sb d.From,sb d.To,i6 d.When.Kind,sb d.When.Name,sb d.When.Other,i6 d.When.Op,i6 d.When.N,i6 d.When.Frames,C]),f1 fD C d.When.Kids,.blk ap [sb d.From,sb d.To,i6 d.When.Kind,sb d.When.Name,sb d.When.Other,i6 d.When.Op,i6 d.When.N,i6 d.When.Frames,C] 122,.own Rp.str s 9 E,.own Rp.bool t 4 I,f1 Rp.str v1 h.Phases,f1 fA y h.Moves,f1 fC q h.Rules,.fz (.at Y (Z+T.toNat * 9) [sb d.From,sb d.To,i6 d.When.Kind,sb d.When.Name,sb d.When.Other,i6 d.When.Op,i6 d.When.N,i6 d.When.Frames,C]),f1 fD C d.When.Kids,.mp l (fB Ky.str (fun v=>Value.int .i64 v) A),.own (Rp.int .i64) p 3 B,.mp n (fB Ky.str (fun v=>Value.int .i64 v) ([]:List (Str×Int))),.blk z [.map (some l),p,v1,.map (some n)] 215,.tr fJ [af] aj au]:=H
   have H:Hd O a4 fg (bks [.blk M [v1,y,q] 26,f1 Rp.str v1 h.Phases,f1 fA y h.Moves,f1 fC q h.Rules,.mp l (fB Ky.str (fun v=>Value.int .i64 v) A),.mp n (fB Ky.str (fun v=>Value.int .i64 v) ([]:List (Str×Int))),.blk z [.map (some l),p,v1,.map (some n)] 215,.own (Rp.int .i64) p 3 B,.own Rp.str s 9 E,.own Rp.bool t 4 I,.blk F [s,i6 J,V,.slice none 0 0,t] 146,.tr fJ [V] ah ai,.fz (.at Y (Z+T.toNat * 9) [sb d.From,sb d.To,i6 d.When.Kind,sb d.When.Name,sb d.When.Other,i6 d.When.Op,i6 d.When.N,i6 d.When.Frames,C]),f1 fD C d.When.Kids,.blk ap [sb d.From,sb d.To,i6 d.When.Kind,sb d.When.Name,sb d.When.Other,i6 d.When.Op,i6 d.When.N,i6 d.When.Frames,C] 122]) [.blk ap [sb d.From,sb d.To,i6 d.When.Kind,sb d.When.Name,sb d.When.Other,i6 d.When.Op,i6 d.When.N,i6 d.When.Frames,C] 122,.blk M [v1,y,q] 26,.blk F [s,i6 J,V,.slice none 0 0,t] 146,.own Rp.str s 9 E,.own Rp.bool t 4 I,f1 Rp.str v1 h.Phases,f1 fA y h.Moves,f1 fC q h.Rules,.fz (.at Y (Z+T.toNat * 9) [sb d.From,sb d.To,i6 d.When.Kind,sb d.When.Name,sb d.When.Other,i6 d.When.Op,i6 d.When.N,i6 d.When.Frames,C]),f1 fD C d.When.Kids,.mp l (fB Ky.str (fun v=>Value.int .i64 v) A),.own (Rp.int .i64) p 3 B,.mp n (fB Ky.str (fun v=>Value.int .i64 v) ([]:List (Str×Int))),.blk z [.map (some l),p,v1,.map (some n)] 215,.tr fJ [af] aj au]:=H.pick [7,0,4,8,9,10,11,12,13,14,15,16,17,18,19] (by decide)
   refine ⟨H.only,?_⟩
   refine MxM.XL_exU oS rfl rfl (fun u o=>xE (H.sees o) 2 rfl sz142 rfl (v:=af) rfl (bF ((H.sees o).item (i:=14) rfl)) rfl) ?_
   rintro u iz o H
   refine ⟨H.only,?_⟩
   refine MxM.xI fun fh hS=>?_
   have H:=H.sees hS
   have H:=ez.rejoin H
   refine yK (zB (ep _ _ ?_))
   have H:Hd O w fh S [.blk M [v1,y,q] 26,.blk F [s,i6 J,af,.slice none 0 0,t] 146,.own Rp.str s 9 E,.own Rp.bool t 4 I,f1 Rp.str v1 h.Phases,f1 fA y h.Moves,f1 fC q h.Rules,.mp l (fB Ky.str (fun v=>Value.int .i64 v) A),.own (Rp.int .i64) p 3 B,.mp n (fB Ky.str (fun v=>Value.int .i64 v) ([]:List (Str×Int))),.blk z [.map (some l),p,v1,.map (some n)] 215,.tr fJ [af] aj au]:=H.pick [1,2,3,4,5,6,7,10,11,12,13,14] (by decide)
   refine zA ?_
   obtain ⟨b3,fi,j⟩:=zG j
   refine zH (xQ (a:=T) (b:=1) rfl rfl fi)<| zI (i6 b3) ?_
   exact (zF (zB (meet ⟨(ek,b3,au,af,aj),(zL rfl zO),⟨H.pick [0,4,5,6,7,9,10,8,2,3,1,11] (by decide),j⟩,Nat.lt_succ_self _⟩)))
  have j:=zU be j
  obtain rfl:=gI j
  exact (xK (yH (yH (yU (zB (meet ⟨(V,ah),zO,H.pick [0,1,2,3,4,5,6,7,8,9,10,11] (by decide)⟩))))))
 rintro ⟨L,X⟩ ρ i1 H
 have j:=ed
 obtain ⟨b4,j,fj⟩:=zD j
 refine yL [11,12,98,99,100,101,102,103,104,105,106,107,108,109,110,111,112,113,114,115,116,117,118,119,120,121,122,123,124,125,126] (fun (g:Value×(List Nat))=>[]) (fun g wl=>Hd O w wl S [.own Rp.str s 9 E,.own Rp.bool t 4 I,.blk F [s,i6 J,L,g.1,t] 146,.tr fJ [L] X R,.tr fG [g.1] g.2 b4]) ?_ ?_
 ·skip
  refine zC fun i2 fk=>zA<| zH (fa26_2 rfl)<| Ld one24 H 0 2 rfl rfl ?_
  obtain ⟨fm,fn,j⟩:=zG j
  obtain ⟨i3,i4,fo⟩:=SlF.len ((H.item (i:=3) rfl))
  refine zH (yJ (xN u24 fo) (congrArg (Value.int .i64) fn))<| zI (i6 0)<| zF (zB (fk _ _ ?_))
  refine yF ?_
  have H:=row_nil H gY 170
  unfold Fdj at j
  obtain ⟨fp,b5,fq,j⟩:=yR j
  refine xG [11,12,101,102,103,104,105,106,107,108,109,110,111,112,113,114,115,116,117,118,119,120,121,122,123,124,125,126] (fun (g:Nat×Int×(List (Str×Int))×(List Nd)×Value×(List Nat))=>[(101,i6 g.2.1)]) (fun g wl=>Hd O w wl S [f1 Rp.str v1 h.Phases,f1 fC q h.Rules,.mp l (fB Ky.str (fun v=>Value.int .i64 v) A),.mp n (fB Ky.str (fun v=>Value.int .i64 v) g.2.2.1),.blk z [.map (some l),p,v1,.map (some n)] 215,.own (Rp.int .i64) p 3 B,.own Rp.str s 9 E,.own Rp.bool t 4 I,.blk F [s,i6 J,L,g.2.2.2.2.1,t] 146,.tr fJ [L] X R,.tr fG [g.2.2.2.2.1] g.2.2.2.2.2 g.2.2.2.1]∧eF fp g.1 (g.2.1,g.2.2.1,g.2.2.2.1)=some b4) (fun g=>g.1) (b5,0,([]:List (Str×Int)),[],.slice none 0 0,[]) (zL rfl zO) ⟨H.pick [1,3,4,5,6,7,8,9,10,11,12] (by decide),j⟩ ?_
  clear H j
  rintro ⟨b5,P,aa,am,ab,ak⟩ ρ i5 ⟨H,j⟩
  obtain ⟨fr,rfl,j⟩:=yX j
  have j:=yY fq j
  refine zC fun i7 fs=>zA ?_
  obtain ⟨ft,fu,j⟩:=zG j
  refine zH (zQ (xR (a:=P) (b:=fm) rfl rfl) fu)<| zF (zB (fs _ _ ?_))
  refine zC fun i8 fv=>?_
  refine yC (b:=ft) rfl (fun bh=>?_) (fun bh=>?_)
  ·have j:=zT bh j
   refine yB (zB (fv _ _ ?_))
   refine zC fun i9 fw=>?_
   refine yF ?_
   refine zC fun ja fx=>zA<| zI (i6 P) ?_
   obtain ⟨f,bi,j⟩:=zD j
   obtain ⟨ad,ae,jb,jc,fy,f0,f4,f5,f6⟩:=dQ (H.item (i:=1) rfl) bi
   obtain ⟨D,rfl,f7⟩:=rRule_open f0
   have H:=H.fzs [.at ad (ae+P.toNat * 8) _,.sl fD D f.When.Kids] ⟨⟨f4,f5,f6⟩,f7,trivial⟩
   refine zH (xJ u24 sz95 fy rfl (yE bi).1 (yE bi).2.1 rfl rfl)<| zH (yJ (yM (cs:=[sb f.Name,i6 f.When.Kind,sb f.When.Name,sb f.When.Other,i6 f.When.Op,i6 f.When.N,i6 f.When.Frames,D]) agg95 rfl sz95 rfl (H.item (i:=11) rfl).2.2) rfl)<| yP rfl rfl (xH zero95 H) ?_
   rintro _ jd ⟨an,rfl,H⟩
   refine zK (i6 P)<| yV rfl (yQ (vs:=[sb f.Name,i6 f.When.Kind,sb f.When.Name,sb f.When.Other,i6 f.When.Op,i6 f.When.N,i6 f.When.Frames,D]) H 13 rfl sz95 rfl rfl rfl ⟨rfl,rfl,rfl,rfl,rfl,rfl,rfl,(wH (H.item (i:=12) rfl)),trivial⟩ rfl) ?_
   rintro a7 H
   refine zF (zB (fx _ _ ?_))
   refine zC fun je f8=>?_
   have f9:=H
   have H:=H.rebase
   have ga:=H
   have a8:Hd (O++bks (rest [2,3,4,5,6,7,9,10] [f1 Rp.str v1 h.Phases,f1 fC q h.Rules,.mp l (fB Ky.str (fun v=>Value.int .i64 v) A),.mp n (fB Ky.str (fun v=>Value.int .i64 v) aa),.blk z [.map (some l),p,v1,.map (some n)] 215,.own (Rp.int .i64) p 3 B,.own Rp.str s 9 E,.own Rp.bool t 4 I,.blk F [s,i6 J,L,ab,t] 146,.tr fJ [L] X R,.tr fG [ab] ak am,.fz (.at ad (ae+P.toNat * 8) [sb f.Name,i6 f.When.Kind,sb f.When.Name,sb f.When.Other,i6 f.When.Op,i6 f.When.N,i6 f.When.Frames,D]),f1 fD D f.When.Kids,.blk an [sb f.Name,i6 f.When.Kind,sb f.When.Name,sb f.When.Other,i6 f.When.Op,i6 f.When.N,i6 f.When.Frames,D] 95])) a7 a7 (bks (Go.Lf.pick ([2,3,4,5,6,7,9,10]++ [0,1,11,12]) [f1 Rp.str v1 h.Phases,f1 fC q h.Rules,.mp l (fB Ky.str (fun v=>Value.int .i64 v) A),.mp n (fB Ky.str (fun v=>Value.int .i64 v) aa),.blk z [.map (some l),p,v1,.map (some n)] 215,.own (Rp.int .i64) p 3 B,.own Rp.str s 9 E,.own Rp.bool t 4 I,.blk F [s,i6 J,L,ab,t] 146,.tr fJ [L] X R,.tr fG [ab] ak am,.fz (.at ad (ae+P.toNat * 8) [sb f.Name,i6 f.When.Kind,sb f.When.Name,sb f.When.Other,i6 f.When.Op,i6 f.When.N,i6 f.When.Frames,D]),f1 fD D f.When.Kids,.blk an [sb f.Name,i6 f.When.Kind,sb f.When.Name,sb f.When.Other,i6 f.When.Op,i6 f.When.N,i6 f.When.Frames,D] 95])) [.mp l (fB Ky.str (fun v=>Value.int .i64 v) A),.mp n (fB Ky.str (fun v=>Value.int .i64 v) aa),.blk z [.map (some l),p,v1,.map (some n)] 215,.own (Rp.int .i64) p 3 B,.own Rp.str s 9 E,.own Rp.bool t 4 I,.tr fJ [L] X R,.tr fG [ab] ak am,f1 Rp.str v1 h.Phases,f1 fC q h.Rules,.fz (.at ad (ae+P.toNat * 8) [sb f.Name,i6 f.When.Kind,sb f.When.Name,sb f.When.Other,i6 f.When.Op,i6 f.When.N,i6 f.When.Frames,D]),f1 fD D f.When.Kids]:=H.enter [2,3,4,5,6,7,9,10] [0,1,11,12] (by decide) rfl
   have gb:=H.firmB a8 (i:=13) rfl (List.mem_append_right _ (List.mem_cons_of_mem _ List.mem_cons_self))
   have gc:=H.firmB a8 (i:=8) rfl (List.mem_append_right _ List.mem_cons_self)
   refine WP_forkM H a8 [1,2,3,4,5,6,7,8,9] 0 10 [11,12] [13] [.pure,.pure,.pure,.pure,.pure,.pure,.pure,.pure,.eff,.eff,.eff,.pure,.pure,.eff] ⟨trivial,trivial,trivial,trivial,trivial,trivial,trivial,trivial,trivial,trivial,trivial,trivial,trivial,trivial,trivial⟩ mixed (by kernel_rfl) (by kernel_rfl) (by kernel_rfl) (by kernel_rfl) (by kernel_rfl) (by decide) ?_
   have H:=a8
   refine XM (gU F)<| XP (fun _ _=>zN rfl)<| XP (fun _ _=>fa146_3 rfl)<| XP (fun u o=>xA one143 rfl (Cells.get (Blk.cells (gc u o)) (i:=3) rfl))<| XM (gU z)<| XP (fun _ _=>fa95_1 rfl)<| XP (fun u o=>yJ (yM (cs:=[i6 f.When.Kind,sb f.When.Name,sb f.When.Other,i6 f.When.Op,i6 f.When.N,i6 f.When.Frames,D]) dI rfl dB rfl (Cells.drop (Blk.cells (gb u o)) 1 7)) rfl) ?_
   obtain ⟨b6,gd,j⟩:=zD j
   refine MxM.XL_effC oS rfl rfl rfl (fun u o=>zV en137 rfl) (fun u o=>Fga (fZ.mk A B h.Phases aa) f.When z l p v1 n D _ gd _ _ _ ((H.sees o).enter [0,3,1,2] [8,11] (by decide) rfl)) ?_
   rintro u _ ge o ⟨gf,gg,rfl,gh⟩
   have H:Hd _ _ ge _ [.own Rp.str s 9 E,.own Rp.bool t 4 I,.tr fJ [L] X R,.tr fG [ab] ak am,f1 Rp.str v1 h.Phases,f1 fC q h.Rules,.fz (.at ad (ae+P.toNat * 8) [sb f.Name,i6 f.When.Kind,sb f.When.Name,sb f.When.Other,i6 f.When.Op,i6 f.When.N,i6 f.When.Frames,D]),f1 fD D f.When.Kids,.tr gY [gf] gg b6,.mp l (fB Ky.str (fun v=>Value.int .i64 v) A),.own (Rp.int .i64) p 3 B,.mp n (fB Ky.str (fun v=>Value.int .i64 v) aa),.blk z [.map (some l),p,v1,.map (some n)] 215]:=(H.sees o).back [0,3,1,2] [8,11] rfl gh
   refine ⟨_,rfl,H.only,?_⟩
   refine MxM.XL_ex oS rfl rfl rfl (fun u o=>Lx_bsT1 (H.sees o) 8 rfl u143 el170 (by decide) (by decide) (fillB_ones rfl rfl ⟨(bF (H.item (i:=8) rfl)),trivial⟩)) ?_
   rintro u gj jf o ⟨gl,H⟩
   refine ⟨H.only,?_⟩
   have H:Hd _ _ _ _ [.own Rp.str s 9 E,.own Rp.bool t 4 I,.tr fJ [L] X R,.tr fG [ab] ak am,f1 Rp.str v1 h.Phases,f1 fC q h.Rules,.fz (.at ad (ae+P.toNat * 8) [sb f.Name,i6 f.When.Kind,sb f.When.Name,sb f.When.Other,i6 f.When.Op,i6 f.When.N,i6 f.When.Frames,D]),f1 fD D f.When.Kids,.mp l (fB Ky.str (fun v=>Value.int .i64 v) A),.own (Rp.int .i64) p 3 B,.mp n (fB Ky.str (fun v=>Value.int .i64 v) aa),.blk z [.map (some l),p,v1,.map (some n)] 215,.tr fG [gj] gl [b6]]:=H
   refine MxM.xI fun jg hS=>?_
   have H:=H.sees hS
   obtain ⟨av,b7,j⟩:=zD j
   refine MxM.XL_join (du:=106) (dv:=116) (fun g1 g2 wl=> ∃(ag:Value) (al:List Nat),gU F=g1∧ag=g2∧Hd (O++bks (rest [2,3,4,5,6,7,9,10] [f1 Rp.str v1 h.Phases,f1 fC q h.Rules,.mp l (fB Ky.str (fun v=>Value.int .i64 v) A),.mp n (fB Ky.str (fun v=>Value.int .i64 v) aa),.blk z [.map (some l),p,v1,.map (some n)] 215,.own (Rp.int .i64) p 3 B,.own Rp.str s 9 E,.own Rp.bool t 4 I,.blk F [s,i6 J,L,ab,t] 146,.tr fJ [L] X R,.tr fG [ab] ak am,.fz (.at ad (ae+P.toNat * 8) [sb f.Name,i6 f.When.Kind,sb f.When.Name,sb f.When.Other,i6 f.When.Op,i6 f.When.N,i6 f.When.Frames,D]),f1 fD D f.When.Kids,.blk an [sb f.Name,i6 f.When.Kind,sb f.When.Name,sb f.When.Other,i6 f.When.Op,i6 f.When.N,i6 f.When.Frames,D] 95])) a7 wl (bks (Go.Lf.pick ([2,3,4,5,6,7,9,10]++ [0,1,11,12]) [f1 Rp.str v1 h.Phases,f1 fC q h.Rules,.mp l (fB Ky.str (fun v=>Value.int .i64 v) A),.mp n (fB Ky.str (fun v=>Value.int .i64 v) aa),.blk z [.map (some l),p,v1,.map (some n)] 215,.own (Rp.int .i64) p 3 B,.own Rp.str s 9 E,.own Rp.bool t 4 I,.blk F [s,i6 J,L,ab,t] 146,.tr fJ [L] X R,.tr fG [ab] ak am,.fz (.at ad (ae+P.toNat * 8) [sb f.Name,i6 f.When.Kind,sb f.When.Name,sb f.When.Other,i6 f.When.Op,i6 f.When.N,i6 f.When.Frames,D]),f1 fD D f.When.Kids,.blk an [sb f.Name,i6 f.When.Kind,sb f.When.Name,sb f.When.Other,i6 f.When.Op,i6 f.When.N,i6 f.When.Frames,D] 95])) [.own Rp.str s 9 E,.own Rp.bool t 4 I,.tr fJ [L] X R,f1 Rp.str v1 h.Phases,f1 fC q h.Rules,.fz (.at ad (ae+P.toNat * 8) [sb f.Name,i6 f.When.Kind,sb f.When.Name,sb f.When.Other,i6 f.When.Op,i6 f.When.N,i6 f.When.Frames,D]),f1 fD D f.When.Kids,.mp l (fB Ky.str (fun v=>Value.int .i64 v) A),.own (Rp.int .i64) p 3 B,.mp n (fB Ky.str (fun v=>Value.int .i64 v) aa),.blk z [.map (some l),p,v1,.map (some n)] 215,.tr fG [ag] al av]) ?_ ?_ ?_
   ·skip
    refine XM (gU F)<| MxM.XL_ex oS rfl rfl rfl (fun u o=>Lx_appT (H.sees o) 3 12 rfl rfl (by decide) u143 el170 rfl rfl b7) ?_
    rintro u ag jh o ⟨al,H⟩
    refine ⟨H.only,?_⟩
    have H:Hd _ _ _ _ [.own Rp.str s 9 E,.own Rp.bool t 4 I,.tr fJ [L] X R,f1 Rp.str v1 h.Phases,f1 fC q h.Rules,.fz (.at ad (ae+P.toNat * 8) [sb f.Name,i6 f.When.Kind,sb f.When.Name,sb f.When.Other,i6 f.When.Op,i6 f.When.N,i6 f.When.Frames,D]),f1 fD D f.When.Kids,.mp l (fB Ky.str (fun v=>Value.int .i64 v) A),.own (Rp.int .i64) p 3 B,.mp n (fB Ky.str (fun v=>Value.int .i64 v) aa),.blk z [.map (some l),p,v1,.map (some n)] 215,.tr fG [ag] al av]:=H
    refine MxM.xI fun ji hS=>?_
    have H:=H.sees hS
    exact ⟨_,_,rfl,H.only,ag,al,rfl,rfl,H⟩
   ·skip
    refine MxM.XL_ex oS rfl rfl rfl (fun u o=>Lx_appT (H.sees o) 3 12 rfl rfl (by decide) u143 el170 rfl rfl b7) ?_
    rintro u b8 jj o ⟨b9,H⟩
    refine ⟨H.only,?_⟩
    have H:Hd _ _ _ _ [.own Rp.str s 9 E,.own Rp.bool t 4 I,.tr fJ [L] X R,f1 Rp.str v1 h.Phases,f1 fC q h.Rules,.fz (.at ad (ae+P.toNat * 8) [sb f.Name,i6 f.When.Kind,sb f.When.Name,sb f.When.Other,i6 f.When.Op,i6 f.When.N,i6 f.When.Frames,D]),f1 fD D f.When.Kids,.mp l (fB Ky.str (fun v=>Value.int .i64 v) A),.own (Rp.int .i64) p 3 B,.mp n (fB Ky.str (fun v=>Value.int .i64 v) aa),.blk z [.map (some l),p,v1,.map (some n)] 215,.tr fG [b8] b9 av]:=H
    refine XM (gU F)<| MxM.xI fun jk hS=>?_
    have H:=H.sees hS
    exact ⟨_,_,MxM.upd_comm _ (by decide) _ _,H.only,b8,b9,rfl,rfl,H⟩
   rintro M' _ _ jl ⟨ag,al,rfl,rfl,H⟩
   refine XP (fun _ _=>zN rfl)<| XP (fun _ _=>fa146_3 rfl)<| MxM.xI fun gm hS=>?_
   have H:=H.sees hS
   have H:=ga.back [2,3,4,5,6,7,9,10] [0,1,11,12] rfl H
   have H:Hd _ _ _ _ [f1 Rp.str v1 h.Phases,f1 fC q h.Rules,.blk F [s,i6 J,L,ab,t] 146,.fz (.at ad (ae+P.toNat * 8) [sb f.Name,i6 f.When.Kind,sb f.When.Name,sb f.When.Other,i6 f.When.Op,i6 f.When.N,i6 f.When.Frames,D]),f1 fD D f.When.Kids,.blk an [sb f.Name,i6 f.When.Kind,sb f.When.Name,sb f.When.Other,i6 f.When.Op,i6 f.When.N,i6 f.When.Frames,D] 95,.own Rp.str s 9 E,.own Rp.bool t 4 I,.tr fJ [L] X R,f1 Rp.str v1 h.Phases,f1 fC q h.Rules,.fz (.at ad (ae+P.toNat * 8) [sb f.Name,i6 f.When.Kind,sb f.When.Name,sb f.When.Other,i6 f.When.Op,i6 f.When.N,i6 f.When.Frames,D]),f1 fD D f.When.Kids,.mp l (fB Ky.str (fun v=>Value.int .i64 v) A),.own (Rp.int .i64) p 3 B,.mp n (fB Ky.str (fun v=>Value.int .i64 v) aa),.blk z [.map (some l),p,v1,.map (some n)] 215,.tr fG [ag] al av]:=H
   have H:Hd O a7 gm (bks [f1 Rp.str v1 h.Phases,f1 fC q h.Rules,.mp l (fB Ky.str (fun v=>Value.int .i64 v) A),.mp n (fB Ky.str (fun v=>Value.int .i64 v) aa),.blk z [.map (some l),p,v1,.map (some n)] 215,.own (Rp.int .i64) p 3 B,.own Rp.str s 9 E,.own Rp.bool t 4 I,.blk F [s,i6 J,L,ab,t] 146,.tr fJ [L] X R,.tr fG [ab] ak am,.fz (.at ad (ae+P.toNat * 8) [sb f.Name,i6 f.When.Kind,sb f.When.Name,sb f.When.Other,i6 f.When.Op,i6 f.When.N,i6 f.When.Frames,D]),f1 fD D f.When.Kids,.blk an [sb f.Name,i6 f.When.Kind,sb f.When.Name,sb f.When.Other,i6 f.When.Op,i6 f.When.N,i6 f.When.Frames,D] 95]) [.blk an [sb f.Name,i6 f.When.Kind,sb f.When.Name,sb f.When.Other,i6 f.When.Op,i6 f.When.N,i6 f.When.Frames,D] 95,.blk F [s,i6 J,L,ab,t] 146,.own Rp.str s 9 E,.own Rp.bool t 4 I,.tr fJ [L] X R,f1 Rp.str v1 h.Phases,f1 fC q h.Rules,.fz (.at ad (ae+P.toNat * 8) [sb f.Name,i6 f.When.Kind,sb f.When.Name,sb f.When.Other,i6 f.When.Op,i6 f.When.N,i6 f.When.Frames,D]),f1 fD D f.When.Kids,.mp l (fB Ky.str (fun v=>Value.int .i64 v) A),.own (Rp.int .i64) p 3 B,.mp n (fB Ky.str (fun v=>Value.int .i64 v) aa),.blk z [.map (some l),p,v1,.map (some n)] 215,.tr fG [ag] al av]:=H.pick [5,2,6,7,8,9,10,11,12,13,14,15,16,17] (by decide)
   refine ⟨H.only,?_⟩
   refine MxM.XL_exU oS rfl rfl (fun u o=>xE (H.sees o) 1 rfl sz143 rfl (v:=ag) rfl (bF ((H.sees o).item (i:=13) rfl)) rfl) ?_
   rintro u jm o H
   refine ⟨H.only,?_⟩
   refine MxM.xI fun gn hS=>?_
   have H:=H.sees hS
   have H:=f9.rejoin H
   refine (zB (f8 _ _ ?_))
   have H:Hd O w gn S [.blk an [sb f.Name,i6 f.When.Kind,sb f.When.Name,sb f.When.Other,i6 f.When.Op,i6 f.When.N,i6 f.When.Frames,D] 95,.blk F [s,i6 J,L,ag,t] 146,.own Rp.str s 9 E,.own Rp.bool t 4 I,.tr fJ [L] X R,f1 Rp.str v1 h.Phases,f1 fC q h.Rules,f1 fD D f.When.Kids,.mp l (fB Ky.str (fun v=>Value.int .i64 v) A),.own (Rp.int .i64) p 3 B,.mp n (fB Ky.str (fun v=>Value.int .i64 v) aa),.blk z [.map (some l),p,v1,.map (some n)] 215,.tr fG [ag] al av]:=H.pick [0,1,2,3,4,5,6,8,9,10,11,12,13] (by decide)
   have go:=H
   have H:=H.rebase
   have jn:=H
   refine wB H [0,1,2,3,4,5,6,7] (kz [0,0,0,1,0,1,0,3]) mixed ?_
   refine XM (gU z)<| XP (fun _ _=>zN rfl)<| XP (fun _ _=>fa215_3 rfl)<| XR one163 H 11 3 rfl rfl<| XP (fun _ _=>fa95_0 rfl)<| XR bC H 0 0 rfl rfl<| XM (i6 P) ?_
   obtain ⟨gp,gq,j⟩:=zG j
   refine MxM.XL_exU oS rfl rfl (fun u o=>Lx_mapset (K:=Ky.str) (G:=(fun v=>Value.int .i64 v)) (m:=aa) (k:=f.Name) (v:=P) (H.sees o) 10 rfl u163 u9 rfl rfl rfl gq) ?_
   rintro u jo o H
   refine ⟨H.only,?_⟩
   refine MxM.xI fun jp hS=>?_
   have H:=H.sees hS
   have H:=go.rejoin H
   refine yK (zB (fw _ _ ?_))
   refine zA ?_
   obtain ⟨ca,gr,j⟩:=zG j
   refine zH (xQ (a:=P) (b:=1) rfl rfl gr)<| zI (i6 ca) ?_
   exact (zF (zB (meet ⟨(fr,ca,gp,av,ag,al),(zL rfl zO),⟨H.pick [5,6,8,10,11,9,2,3,1,4,12] (by decide),j⟩,Nat.lt_succ_self _⟩)))
  have j:=zU bh j
  obtain rfl:=gI j
  exact (xK (yH (yH (yU (zB (meet ⟨(ab,ak),zO,H.pick [6,7,8,9,10] (by decide)⟩))))))
 rintro ⟨gs,gt⟩ ρ jq H
 have j:=fj
 refine zC fun jr gu=>zA<| zI (gU F)<| zK (gU F)<| zF (zB (gu _ _ ?_))
 have H:=H.freeze (i:=0) rfl
 have H:=H.freeze (i:=1) rfl
 obtain rfl:=gI j
 refine (zY (fF (v1:=gU F) rfl rfl ?_))
 exact ⟨F,s,L,X,gs,gt,t,rfl,H.pick [0,3,4,1,2] (by decide)⟩
theorem Fbuw (d:Rules)(k:List fP)(v1:Value)(v2:Value)(f:Value)(j:Value)(r:(Option gW)×Int)(h:Fbu d k=some r)(O S:List Nat)(w:World)(H:Hd O w w S [f1 Rp.str v1 d.Phases,f1 fA v2 d.Moves,f1 fC f d.Rules,f1 eU j k]):
  Cl 23 [.agg [v1,v2,f].toArray,j] w fun e v=> ∃u9 y,e= .returned (.tuple #[u9,i6 r.2])∧Hd O w v S [.tr (Rt.opt fQ 146) [u9] y r.1]:=by
 unfold Fbu at h
 refine zS 16 Tryz.func23 rfl rfl rfl ?_
 refine zC fun R z=>zA<| yP rfl rfl (xW (cs:=[v1,v2,f]) rfl H) ?_
 rintro _ T ⟨s,rfl,H⟩
 refine zK (.pointer none)<| zK (i6 0)<| zF (zB (z _ _ ?_))
 refine zC fun U A=>?_
 refine zC fun V B=>zA<| zH (yJ (yM (cs:=[v1,v2,f]) agg26 rfl sz26 rfl (Hbc H 4 rfl)) rfl)<| zI j ?_
 have C:=H
 obtain ⟨l,D,h⟩:=zD h
 refine yA rfl rfl (zV en73 rfl) (Fcdw d k v1 v2 f j _ D _ _ _ (H.enter [] [0,1,2,3] (by decide) rfl)) ?_
 rintro _ X ⟨rfl,E⟩
 have H:=C.step (E.only:Only [] _ _)
 refine ⟨_,rfl,?_⟩
 refine zK (i6 l)<| zF (zB (B _ _ ?_))
 refine zC fun Y F=>zA<| zI (i6 l) ?_
 obtain ⟨G,I,h⟩:=zG h
 refine zH (zQ (dH (a:=l) (b:=0) rfl rfl) I)<| zF (zB (F _ _ ?_))
 refine yC (b:=G) rfl (fun t=>?_) (fun t=>?_)
 ·have h:=zT t h
  refine zC fun Z J=>zA<| zI (i6 l)<| zK (.pointer none)<| zK (i6 l)<| zF (zB (J _ _ ?_))
  have H:=H.opt_none fQ 146
  obtain rfl:=gI h
  refine (zY (zZ (post2 (v1:= .pointer none) (v2:=i6 l) rfl rfl rfl ?_)))
  exact ⟨.pointer none,[],rfl,H.pick [5] (by decide)⟩
 have h:=zU t h
 refine yB (zB (A _ _ ?_))
 refine zC fun aa K=>zA<| zH (yJ (yM (cs:=[v1,v2,f]) agg26 rfl sz26 rfl (Hbc H 4 rfl)) rfl)<| zI j ?_
 obtain ⟨c,L,h⟩:=zD h
 refine yA rfl rfl (zV en74 rfl) (Fcrw d k v1 v2 f j _ L _ _ _ (H.enter [] [0,1,2,3] (by decide) rfl)) ?_
 rintro _ ab ⟨m,n,p,M,q,N,o,rfl,P⟩
 have H:=H.back1 [0,1,2,3] rfl P
 refine ⟨_,rfl,?_⟩
 refine zK (gU m)<| zK (i6 0)<| zF (zB (K _ _ ?_))
 have H:Hd _ _ _ _ [f1 Rp.str v1 d.Phases,f1 fA v2 d.Moves,f1 fC f d.Rules,f1 eU j k,.blk s [v1,v2,f] 26,f1 Rp.str n c.phases,.tr fJ [p] M c.moves,.tr fG [q] N c.rules,f1 Rp.bool o c.possible,.blk m [n,i6 c.tracks,p,q,o] 146]:=H
 obtain ⟨Q,H⟩:=rtEventWatch_mk (x:=gW.mk c.phases c.tracks c.moves c.rules c.possible) H 6 7 rfl rfl (H.item (i:=5) rfl) (H.item (i:=8) rfl) (by decide)
 have H:Hd _ _ _ _ [f1 Rp.str v1 d.Phases,f1 fA v2 d.Moves,f1 fC f d.Rules,f1 eU j k,.blk s [v1,v2,f] 26,f1 Rp.str n c.phases,f1 Rp.bool o c.possible,.blk m [n,i6 c.tracks,p,q,o] 146,.tr fQ [n,i6 c.tracks,p,q,o] Q (gW.mk c.phases c.tracks c.moves c.rules c.possible)]:=H
 obtain ⟨u,H⟩:=H.opt_mk 8 7 rfl rfl (by decide)
 have H:Hd _ _ _ _ [f1 Rp.str v1 d.Phases,f1 fA v2 d.Moves,f1 fC f d.Rules,f1 eU j k,.blk s [v1,v2,f] 26,f1 Rp.str n c.phases,f1 Rp.bool o c.possible,.tr (Rt.opt fQ 146) [(gU m)] u (some (gW.mk c.phases c.tracks c.moves c.rules c.possible))]:=H
 obtain rfl:=gI h
 refine (zY (post2 (v1:=(gU m)) (v2:=i6 0) rfl rfl rfl ?_))
 exact ⟨(gU m),u,rfl,H.pick [7] (by decide)⟩
theorem Fao {F:Nat→Prop}{w:World}{v:Value}{bs:List Nat}{x:Nd}(h:(Th.tr gY [v] bs x).holds F w): ∃f r,aZ Tryz.prog "orangebox/event.step" v f r:=by
 obtain ⟨u,e,h⟩:=h
 obtain rfl:v=u:=by simpa using e
 cases h
 ·exact ⟨_,_,xU (f:=325) (p:=false) (by kernel_rfl) (by kernel_rfl) en325⟩
 ·exact ⟨_,_,xU (f:=327) (p:=false) (by kernel_rfl) (by kernel_rfl) en327⟩
 ·exact ⟨_,_,xU (f:=332) (p:=false) (by kernel_rfl) (by kernel_rfl) en332⟩
 ·exact ⟨_,_,xU (f:=310) (p:=true) (by kernel_rfl) (by kernel_rfl) en310⟩
 ·exact ⟨_,_,xU (f:=335) (p:=false) (by kernel_rfl) (by kernel_rfl) en335⟩
 ·exact ⟨_,_,xU (f:=337) (p:=false) (by kernel_rfl) (by kernel_rfl) en337⟩
 ·exact ⟨_,_,xU (f:=316) (p:=true) (by kernel_rfl) (by kernel_rfl) en316⟩
 ·exact ⟨_,_,xU (f:=319) (p:=true) (by kernel_rfl) (by kernel_rfl) en319⟩
 ·exact ⟨_,_,xU (f:=313) (p:=true) (by kernel_rfl) (by kernel_rfl) en313⟩
 ·exact ⟨_,_,xU (f:=321) (p:=true) (by kernel_rfl) (by kernel_rfl) en321⟩
 exact ⟨_,_,xU (f:=323) (p:=true) (by kernel_rfl) (by kernel_rfl) en323⟩
abbrev Fas (f:Nd→gJ→Option (Int×Nd)):Prop:= ∀(p0:Nd) (p1:gJ) (v1:Value) (bs1:List Nat) (b1:Nat) (v52:Value) (v53:Value) (v54:Value) (fid:FuncId) (rv:Value) (hm:aZ Tryz.prog "orangebox/event.step" v1 fid rv) (r:Int×Nd) (_:f p0 p1=some r) (O S:List Nat) (w:World) (_:Hd O w w S [.tr gY [v1] bs1 p0,.own (Rp.int .i64) v54 3 p1.rules,.blk b1 [v52,v53,v54] 222,f1 gV v52 p1.told,f1 Rp.bool v53 p1.possible]),
  Calls Tryz.prog fid ([rv,gU b1]:List Value).toArray w fun e w'=> ∃bs',e= .returned (i6 r.1)∧Hd O w w' S [.tr gY [v1] bs' r.2,.own (Rp.int .i64) v54 3 p1.rules,.blk b1 [v52,v53,v54] 222]
theorem Ffow (a:bK)(b:gJ)(d:Nat)(f:Value)(h:Value)(c:Value)(r:Int)(i:Ffo a b=some r)(O S:List Nat)(w:World)(H:Hd O w w S [.own (Rp.int .i64) c 3 b.rules,.blk d [f,h,c] 222,f1 gV f b.told,f1 Rp.bool h b.possible]):
  Cl 325 [.agg [i6 a.truth].toArray,gU d] w fun e j=>e= .returned (i6 r)∧Hd O w j S [.own (Rp.int .i64) c 3 b.rules,.blk d [f,h,c] 222]:=by
 unfold Ffo at i
 refine zS 7 Tryz.func325 rfl rfl rfl ?_
 refine zC fun m k=>zA<| yP rfl rfl (xW (cs:=[i6 a.truth]) rfl H) ?_
 rintro _ n ⟨o,rfl,H⟩
 refine zK (i6 0)<| zF (zB (k _ _ ?_))
 refine zC fun p l=>zA<| zH (fa277_0 rfl)<| Ld fU H 4 0 rfl rfl<| zK (i6 a.truth)<| zF (zB (l _ _ ?_))
 obtain rfl:=gI i
 refine (zY (fF (v1:=i6 a.truth) rfl rfl ?_))
 exact ⟨rfl,H.pick [0,1] (by decide)⟩
theorem Falw (d:Int)(r:Int)(c:Fal d=some r)(O S:List Nat)(w:World)(H:Hd O w w S []):
  Cl 330 [i6 d] w fun e k=>e= .returned (i6 r)∧Hd O w k S []:=by
 unfold Fal at c
 refine zS 9 Tryz.func330 rfl rfl rfl ?_
 refine zC fun v l=>zA<| zK (i6 0)<| zF (zB (l _ _ ?_))
 refine zC fun x m=>?_
 refine yF ?_
 refine zC fun y n=>zA<| zI (i6 d) ?_
 obtain ⟨i,o,c⟩:=zG c
 refine zH (zQ (xR (a:=d) (b:=0) rfl rfl) o)<| zK (.bool i)<| zF (zB (n _ _ ?_))
 refine yC (b:=i) rfl (fun f=>?_) (fun f=>?_)
 ·have c:=zT f c
  refine zC fun z p=>zA<| zK (i6 (-1))<| zF (zB (p _ _ ?_))
  obtain rfl:=gI c
  refine (zY (yG (zZ (fF (v1:=i6 (-1)) rfl rfl ?_))))
  exact ⟨rfl,H.pick [] (by decide)⟩
 have c:=zU f c
 refine zC fun A q=>zA<| zI (i6 d) ?_
 obtain ⟨j,s,c⟩:=zG c
 refine zH (zQ (kH (a:=d) (b:=0) rfl rfl) s)<| zK (.bool j)<| zF (zB (q _ _ ?_))
 refine yC (b:=j) rfl (fun h=>?_) (fun h=>?_)
 ·have c:=zT h c
  refine zC fun B t=>zA<| zK (i6 1)<| zF (zB (t _ _ ?_))
  obtain rfl:=gI c
  refine (zY (yG (zZ (fF (v1:=i6 1) rfl rfl ?_))))
  exact ⟨rfl,H.pick [] (by decide)⟩
 have c:=zU h c
 refine (yB (yK (zB (m _ _ ?_))))
 refine zC fun C u=>zA<| zK (i6 0)<| zF (zB (u _ _ ?_))
 obtain rfl:=gI c
 refine (zY (fF (v1:=i6 0) rfl rfl ?_))
 exact ⟨rfl,H.pick [] (by decide)⟩
set_option maxRecDepth 100000 in
theorem Fbjw (f:Int)(d:Int)(r:Bool)(c:Fbj f d=some r)(O S:List Nat)(w:World)(H:Hd O w w S []):
  Cl 329 [i6 f,i6 d] w fun e z=>e= .returned (.bool r)∧Hd O w z S []:=by
 unfold Fbj at c
 refine zS 28 Tryz.func329 rfl rfl rfl ?_
 refine zC fun K1 A=>zA<| zK (.bool false)<| zF (zB (A _ _ ?_))
 refine zC fun ae B=>?_
 refine zC fun af C=>zA<| zI (i6 f)<| zF (zB (C _ _ ?_))
 refine yF ?_
 refine zC fun ag D=>zA ?_
 obtain ⟨m,E,c⟩:=zG c
 refine zH (zQ (yT (a:=f) (b:=1) rfl rfl) E)<| zK (.bool m)<| zF (zB (D _ _ ?_))
 refine yC (b:=m) rfl (fun h=>?_) (fun h=>?_)
 ·have c:=zT h c
  refine zC fun ah F=>zA<| zI (i6 d) ?_
  obtain ⟨n,G,c⟩:=zG c
  refine zH (zQ (xR (a:=d) (b:=0) rfl rfl) G)<| zK (.bool n)<| zF (zB (F _ _ ?_))
  obtain rfl:=gI c
  refine (zY (yG (zZ (fF (v1:= .bool n) rfl rfl ?_))))
  exact ⟨rfl,H.pick [] (by decide)⟩
 have c:=zU h c
 refine zC fun ai I=>zA ?_
 obtain ⟨o,J,c⟩:=zG c
 refine zH (zQ (yT (a:=f) (b:=2) rfl rfl) J)<| zK (.bool o)<| zF (zB (I _ _ ?_))
 refine yC (b:=o) rfl (fun i=>?_) (fun i=>?_)
 ·have c:=zT i c
  refine zC fun aj K=>zA<| zI (i6 d) ?_
  obtain ⟨p,L,c⟩:=zG c
  refine zH (zQ (Do_leq (a:=d) (b:=0) rfl rfl) L)<| zK (.bool p)<| zF (zB (K _ _ ?_))
  obtain rfl:=gI c
  refine (zY (yG (zZ (fF (v1:= .bool p) rfl rfl ?_))))
  exact ⟨rfl,H.pick [] (by decide)⟩
 have c:=zU i c
 refine zC fun ak M=>zA ?_
 obtain ⟨q,N,c⟩:=zG c
 refine zH (zQ (yT (a:=f) (b:=3) rfl rfl) N)<| zK (.bool q)<| zF (zB (M _ _ ?_))
 refine yC (b:=q) rfl (fun j=>?_) (fun j=>?_)
 ·have c:=zT j c
  refine zC fun al P=>zA<| zI (i6 d) ?_
  obtain ⟨s,Q,c⟩:=zG c
  refine zH (zQ (yT (a:=d) (b:=0) rfl rfl) Q)<| zK (.bool s)<| zF (zB (P _ _ ?_))
  obtain rfl:=gI c
  refine (zY (yG (zZ (fF (v1:= .bool s) rfl rfl ?_))))
  exact ⟨rfl,H.pick [] (by decide)⟩
 have c:=zU j c
 refine zC fun am R=>zA ?_
 obtain ⟨t,T,c⟩:=zG c
 refine zH (zQ (yT (a:=f) (b:=4) rfl rfl) T)<| zK (.bool t)<| zF (zB (R _ _ ?_))
 refine yC (b:=t) rfl (fun k=>?_) (fun k=>?_)
 ·have c:=zT k c
  refine zC fun an U=>zA<| zI (i6 d) ?_
  obtain ⟨u,V,c⟩:=zG c
  refine zH (zQ (dH (a:=d) (b:=0) rfl rfl) V)<| zK (.bool u)<| zF (zB (U _ _ ?_))
  obtain rfl:=gI c
  refine (zY (yG (zZ (fF (v1:= .bool u) rfl rfl ?_))))
  exact ⟨rfl,H.pick [] (by decide)⟩
 have c:=zU k c
 refine zC fun ao X=>zA ?_
 obtain ⟨v,Y,c⟩:=zG c
 refine zH (zQ (yT (a:=f) (b:=5) rfl rfl) Y)<| zK (.bool v)<| zF (zB (X _ _ ?_))
 refine yC (b:=v) rfl (fun l=>?_) (fun l=>?_)
 ·have c:=zT l c
  refine zC fun ap Z=>zA<| zI (i6 d) ?_
  obtain ⟨x,aa,c⟩:=zG c
  refine zH (zQ (Do_geq (a:=d) (b:=0) rfl rfl) aa)<| zK (.bool x)<| zF (zB (Z _ _ ?_))
  obtain rfl:=gI c
  refine (zY (yG (zZ (fF (v1:= .bool x) rfl rfl ?_))))
  exact ⟨rfl,H.pick [] (by decide)⟩
 have c:=zU l c
 refine (yB (yK (zB (B _ _ ?_))))
 refine zC fun aq ab=>zA<| zI (i6 d) ?_
 obtain ⟨y,ac,c⟩:=zG c
 refine zH (zQ (kH (a:=d) (b:=0) rfl rfl) ac)<| zK (.bool y)<| zF (zB (ab _ _ ?_))
 obtain rfl:=gI c
 refine (zY (fF (v1:= .bool y) rfl rfl ?_))
 exact ⟨rfl,H.pick [] (by decide)⟩
theorem Fckw (c:Bool)(r:Int)(a:Fck c=some r)(O S:List Nat)(w:World)(H:Hd O w w S []):
  Cl 328 [.bool c] w fun e f=>e= .returned (i6 r)∧Hd O w f S []:=by
 unfold Fck at a
 refine zS 4 Tryz.func328 rfl rfl rfl ?_
 refine zC fun m h=>zA<| zK (i6 0)<| zF (zB (h _ _ ?_))
 refine zC fun n i=>?_
 refine zC fun o j=>zA<| zI (.bool c)<| zF (zB (j _ _ ?_))
 refine yC (b:=c) rfl (fun d=>?_) (fun d=>?_)
 ·have a:=zT d a
  refine zC fun p k=>zA<| zK (i6 2)<| zF (zB (k _ _ ?_))
  obtain rfl:=gI a
  refine (zY (zZ (fF (v1:=i6 2) rfl rfl ?_)))
  exact ⟨rfl,H.pick [] (by decide)⟩
 have a:=zU d a
 refine yB (zB (i _ _ ?_))
 refine zC fun q l=>zA<| zK (i6 1)<| zF (zB (l _ _ ?_))
 obtain rfl:=gI a
 refine (zY (fF (v1:=i6 1) rfl rfl ?_))
 exact ⟨rfl,H.pick [] (by decide)⟩
theorem Fa5w (h:dZ)(k:gJ)(l:Nat)(o:Value)(q:Value)(m:Value)(r:Int)(c:Fa5 h k=some r)(O S:List Nat)(w:World)(H:Hd O w w S [.own (Rp.int .i64) m 3 k.rules,.blk l [o,q,m] 222,f1 gV o k.told,f1 Rp.bool q k.possible]):
  Cl 327 [.agg [i6 h.track,i6 h.op,i6 h.n].toArray,gU l] w fun e d=>e= .returned (i6 r)∧Hd O w d S [.own (Rp.int .i64) m 3 k.rules,.blk l [o,q,m] 222]:=by
 unfold Fa5 at c
 refine zS 27 Tryz.func327 rfl rfl rfl ?_
 refine zC fun K9 z=>zA<| yP rfl rfl (xW (cs:=[i6 h.track,i6 h.op,i6 h.n]) rfl H) ?_
 rintro _ ae ⟨af,rfl,H⟩
 refine zK (i6 0)<| zF (zB (z _ _ ?_))
 refine zC fun ag A=>?_
 have B:=H
 have H:=H.rebase
 have ah:=H
 refine wB H [0,1,2,3,4,5,6,7,8,9] (kz [0,0,0,1,0,1,0,1,2,3]) mixed ?_
 refine XM (gU l)<| XP (fun _ _=>zN rfl)<| XP (fun _ _=>fa222_0 rfl)<| XR one55 H 1 0 rfl rfl<| XP (fun _ _=>fa279_0 rfl)<| XR fU H 4 0 rfl rfl ?_
 obtain ⟨j,s,c⟩:=zD c
 obtain ⟨C,D,ai,aj,E,F,G,I,J⟩:=dQ (H.item (i:=2) rfl) s
 obtain rfl:=kY F
 have H:=H.fz (.at C (D+h.track.toNat * 2) _) ⟨G,I,J⟩
 refine XP (fun _ _=>xJ u55 sz148 E rfl (yE s).1 (yE s).2.1 rfl rfl)<| MxM.XL_read oS rfl rfl rfl (fun d f=>yJ (yM (cs:=[i6 j.N,.bool j.Known]) agg148 rfl sz148 rfl ((H.sees f).item (i:=5) rfl).2.2) rfl)<| MxM.XL_exN oS rfl rfl rfl (fun d f=>Ls_of (xH zero148 (H.sees f)) (Ys_alloc zero148)) ?_
 rintro d _ ak f ⟨al,rfl,H⟩
 refine MxM.XL_exU oS rfl rfl (fun d f=>yQ (vs:=[i6 j.N,.bool j.Known]) (H.sees f) 6 rfl sz148 rfl rfl rfl ⟨rfl,rfl,trivial⟩ rfl) ?_
 rintro d am f H
 refine ⟨H.only,?_⟩
 refine MxM.xI fun an hS=>?_
 have H:=H.sees hS
 have H:=B.rejoin H
 refine (zB (A _ _ ?_))
 refine zC fun ao K=>?_
 refine zC fun ap L=>zA<| zH (fa148_1 rfl)<| Ld one4 H 6 1 rfl rfl ?_
 obtain ⟨M,P,c⟩:=zG c
 refine zH (zQ (wL (p:=j.Known) rfl) P)<| zF (zB (L _ _ ?_))
 refine yC (b:=M) rfl (fun t=>?_) (fun t=>?_)
 ·have c:=zT t c
  refine zC fun aq Q=>zA<| zK (i6 0)<| zF (zB (Q _ _ ?_))
  obtain rfl:=gI c
  refine (zY (zZ (fF (v1:=i6 0) rfl rfl ?_)))
  exact ⟨rfl,H.pick [0,1] (by decide)⟩
 have c:=zU t c
 refine yB (zB (K _ _ ?_))
 refine zC fun ar R=>?_
 have T:=H
 have H:=H.rebase
 have au:=H
 refine wB H [0,1,2,3,4,5,6,7,8,9,10] (kz [0,1,0,1,0,1,0,4,4,4,0]) mixed ?_
 refine XP (fun _ _=>fa279_1 rfl)<| XR fU H 4 1 rfl rfl<| XP (fun _ _=>fa148_0 rfl)<| XR fU H 6 0 rfl rfl<| XP (fun _ _=>fa279_2 rfl)<| XR fU H 4 2 rfl rfl ?_
 obtain ⟨U,V,c⟩:=zG c
 refine XP (fun _ _=>Do_sub (a:=j.N) (b:=h.n) rfl rfl V) ?_
 have X:=H
 obtain ⟨x,Y,c⟩:=zD c
 refine MxM.XL_fcall oS rfl rfl rfl (v:=i6 x) (fun d f=>zV en330 rfl) (fun d f=>bU (Falw U _ Y _ _ _ (Hd.fresh0 d))) ?_
 have H:=X
 have Z:=H
 obtain ⟨y,aa,c⟩:=zD c
 refine MxM.XL_fcall oS rfl rfl rfl (v:= .bool y) (fun d f=>zV en329 rfl) (fun d f=>bU (Fbjw h.op x _ aa _ _ _ (Hd.fresh0 d))) ?_
 have H:=Z
 have ab:=H
 obtain ⟨u,ac,c⟩:=zD c
 refine MxM.XL_fcall oS rfl rfl rfl (v:=i6 u) (fun d f=>zV en328 rfl) (fun d f=>bU (Fckw y _ ac _ _ _ (Hd.fresh0 d))) ?_
 have H:=ab
 refine XP (fun _ _=>xO (v:=i6 u) rfl)<| MxM.xI fun av hS=>?_
 have H:=H.sees hS
 have H:=T.rejoin H
 refine (zB (R _ _ ?_))
 obtain rfl:=gI c
 refine (zY (fF (v1:=i6 u) rfl rfl ?_))
 exact ⟨rfl,H.pick [0,1] (by decide)⟩
theorem Fbhw (d:Int)(f:Int)(r:Int×Int)(c:Fbh d f=some r)(O S:List Nat)(w:World)(H:Hd O w w S []):
  Cl 270 [.int .u64 d,.int .u64 f] w fun e v=>e= .returned (.tuple #[.int .u64 r.1,.int .u64 r.2])∧Hd O w v S []:=by
 unfold Fbh at c
 refine zS 51 Tryz.func270 rfl rfl rfl ?_
 refine zC fun K1 x=>zA<| zK (.int .u64 0)<| zK (.int .u64 0)<| zF (zB (x _ _ ?_))
 refine zC fun K2 y=>zA<| zI (.int .u64 d) ?_
 obtain ⟨h,z,c⟩:=zG c
 refine zH (Do_and (a:=d) (b:=4294967295) rfl rfl z)<| zK (.int .u64 h)<| zF (zB (y _ _ ?_))
 refine zC fun K5 A=>zA<| zI (.int .u64 d) ?_
 obtain ⟨i,B,c⟩:=zD c
 refine zH (Do_shr' (j:=d) (q:=32) rfl rfl B)<| zK (.int .u64 i)<| zF (zB (A _ _ ?_))
 refine zC fun K8 C=>zA<| zI (.int .u64 f) ?_
 obtain ⟨k,D,c⟩:=zG c
 refine zH (Do_and (a:=f) (b:=4294967295) rfl rfl D)<| zK (.int .u64 k)<| zF (zB (C _ _ ?_))
 refine zC fun ao E=>zA<| zI (.int .u64 f) ?_
 obtain ⟨l,F,c⟩:=zD c
 refine zH (Do_shr' (j:=f) (q:=32) rfl rfl F)<| zK (.int .u64 l)<| zF (zB (E _ _ ?_))
 refine zC fun ap G=>zA<| zI (.int .u64 h)<| zI (.int .u64 k) ?_
 obtain ⟨n,I,c⟩:=zG c
 refine zH (Do_mul (a:=h) (b:=k) rfl rfl I)<| zK (.int .u64 n)<| zF (zB (G _ _ ?_))
 refine zC fun aq J=>zA<| zI (.int .u64 i)<| zI (.int .u64 k) ?_
 obtain ⟨K,L,c⟩:=zG c
 refine zH (Do_mul (a:=i) (b:=k) rfl rfl L)<| zI (.int .u64 n) ?_
 obtain ⟨M,N,c⟩:=zD c
 refine zH (Do_shr' (j:=n) (q:=32) rfl rfl N) ?_
 obtain ⟨m,P,c⟩:=zG c
 refine zH (xQ (a:=K) (b:=M) rfl rfl P)<| zK (.int .u64 m)<| zF (zB (J _ _ ?_))
 refine zC fun ar Q=>zA<| zI (.int .u64 m) ?_
 obtain ⟨o,R,c⟩:=zG c
 refine zH (Do_and (a:=m) (b:=4294967295) rfl rfl R)<| zK (.int .u64 o)<| zF (zB (Q _ _ ?_))
 refine zC fun au T=>zA<| zI (.int .u64 m) ?_
 obtain ⟨p,U,c⟩:=zD c
 refine zH (Do_shr' (j:=m) (q:=32) rfl rfl U)<| zK (.int .u64 p)<| zF (zB (T _ _ ?_))
 refine zC fun av V=>zA<| zI (.int .u64 o)<| zI (.int .u64 h)<| zI (.int .u64 l) ?_
 obtain ⟨X,Y,c⟩:=zG c
 refine zH (Do_mul (a:=h) (b:=l) rfl rfl Y) ?_
 obtain ⟨s,Z,c⟩:=zG c
 refine zH (xQ (a:=o) (b:=X) rfl rfl Z)<| zK (.int .u64 s)<| zF (zB (V _ _ ?_))
 refine zC fun aw aa=>zA<| zI (.int .u64 i)<| zI (.int .u64 l) ?_
 obtain ⟨ab,ac,c⟩:=zG c
 refine zH (Do_mul (a:=i) (b:=l) rfl rfl ac)<| zI (.int .u64 p) ?_
 obtain ⟨ad,ae,c⟩:=zG c
 refine zH (xQ (a:=ab) (b:=p) rfl rfl ae)<| zI (.int .u64 s) ?_
 obtain ⟨af,ag,c⟩:=zD c
 refine zH (Do_shr' (j:=s) (q:=32) rfl rfl ag) ?_
 obtain ⟨t,ah,c⟩:=zG c
 refine zH (xQ (a:=ad) (b:=af) rfl rfl ah)<| zK (.int .u64 t)<| zF (zB (aa _ _ ?_))
 refine zC fun ax ai=>zA<| zI (.int .u64 d)<| zI (.int .u64 f) ?_
 obtain ⟨u,aj,c⟩:=zG c
 refine zH (Do_mul (a:=d) (b:=f) rfl rfl aj)<| zK (.int .u64 u)<| zF (zB (ai _ _ ?_))
 obtain rfl:=gI c
 refine (zY (post2 (v1:= .int .u64 t) (v2:= .int .u64 u) rfl rfl rfl ?_))
 exact ⟨rfl,H.pick [] (by decide)⟩
end Go.Proofs.YtckmiljbaejijaaGreatDoor.L
