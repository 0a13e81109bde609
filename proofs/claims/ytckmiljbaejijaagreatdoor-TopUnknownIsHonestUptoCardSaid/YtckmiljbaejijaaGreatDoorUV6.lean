/- Walks: what each function computes, for every argument; no condition but those that stand in the statements. -/
import Derived.Test.YtckmiljbaejijaaGreatDoorUV0
import Derived.Test.YtckmiljbaejijaaGreatDoorUV1
import Derived.Test.YtckmiljbaejijaaGreatDoorUV4
import Derived.Test.YtckmiljbaejijaaGreatDoorUV5
namespace Go.Proofs.YtckmiljbaejijaaGreatDoor.L
open Go.RowKit Go.OB Go.Lf
set_option maxHeartbeats 4000000
set_option maxRecDepth 100000 in
theorem Faqw (h:Rules)(p1:List gZ)(v1:Value)(y:Value)(q:Value)(U:Value)(r:gY)(j:Faq h p1=some r)(O S:List Nat)(w:World)(H:Hd O w w S [f1 Rp.str v1 h.Phases,f1 fD y h.Moves,f1 fF q h.Rules,f1 fG U p1]):
  Calls Tryz.prog 74 ([.agg [v1,y,q].toArray,U]:List Value).toArray w fun e u=> ∃u9 bj bk cb bl cc bm,e= .returned (gW u9)∧Hd O w u S [f1 Rp.str bj r.phases,.tr fM [bk] cb r.moves,.tr fK [bl] cc r.rules,f1 Rp.bool bm r.possible,.blk u9 [bj,i6 r.tracks,bk,bl,bm] 146]:=by
 unfold Faq at j
 refine zZ 128 Tryz.func74 rfl rfl rfl ?_
 refine zC fun gu cd=>zB<| yY rfl rfl (xR (cs:=[v1,y,q]) rfl H) ?_
 rintro _ gv ⟨M,rfl,H⟩
 refine zK (.pointer none)<| zG (zA (cd _ _ ?_))
 refine zC fun gw ce=>zB<| yY rfl rfl (Lx_mkmap H) ?_
 rintro _ gx ⟨l,rfl,H⟩
 refine zH (fa26_0 rfl)<| Ld aN H 4 0 rfl rfl<| yY rfl rfl (Lx_mkmap H) ?_
 rintro _ gy ⟨n,rfl,H⟩
 obtain ⟨cf,cg,ch⟩: ∃a c,v1= .slice a _ c:=SlF.len ((H.item (i:=0) rfl))
 refine zH (xO (cs:=[.map (some l),.slice none 0 0,v1,.map (some n)]) (by rw [ch]; exact bt215_0_2_3 _ cf _ cg _))<| yY rfl rfl (xR (cs:=[.map (some l),.slice none 0 0,v1,.map (some n)]) rfl H) ?_
 rintro _ gz ⟨z,rfl,H⟩
 refine zK (gW z)<| zG (zA (ce _ _ ?_))
 obtain ⟨a0,j,ci⟩:=zF j
 refine yH [6,7,19,20,21,22,23,24,25,26,27,28,29,30,31,32,33,34,35,36,37,38,39,40,41,42,43,44,45] (fun (g:Value)=>[]) (fun g wl=>Hd O w wl S [f1 Rp.str v1 h.Phases,f1 fD y h.Moves,f1 fF q h.Rules,f1 fG U p1,.blk M [v1,y,q] 26,.mp l (gU Ky.str (fun v=>Value.int .i64 v) a0.1),.mp n (gU Ky.str (fun v=>Value.int .i64 v) ([]:List (Str×Int))),.blk z [.map (some l),g,v1,.map (some n)] 215,.own (Rp.int .i64) g 3 a0.2]) ?_ ?_
 ·skip
  refine zC fun g0 cj=>zB<| zJ U ?_
  obtain ⟨ck,cl,j⟩:=zD j
  obtain ⟨a241,c242,cm⟩:=SlF.len ((H.item (i:=3) rfl))
  refine zH (yO (xI u27 cm) (congrArg (Value.int .i64) cl))<| zJ (i6 0)<| zG (zA (cj _ _ ?_))
  refine yC ?_
  have H:=aU H (Rp.int .i64) 3
  unfold Fcq at j
  obtain ⟨cn,bn,co,j⟩:=yR j
  refine xA [6,7,21,22,23,24,25,26,27,28,29,30,31,32,33,34,35,36,37,38,39,40,41,42,43,44,45] (fun (g:Nat×Int×(List (Str×Int))×(List Int)×Value)=>[(21,i6 g.2.1)]) (fun g wl=>Hd O w wl S [f1 Rp.str v1 h.Phases,f1 fD y h.Moves,f1 fF q h.Rules,f1 fG U p1,.blk M [v1,y,q] 26,.mp l (gU Ky.str (fun v=>Value.int .i64 v) g.2.2.1),.mp n (gU Ky.str (fun v=>Value.int .i64 v) ([]:List (Str×Int))),.blk z [.map (some l),g.2.2.2.2,v1,.map (some n)] 215,.own (Rp.int .i64) g.2.2.2.2 3 g.2.2.2.1]∧fV cn g.1 (g.2.1,g.2.2.1,g.2.2.2.1)=some a0) (fun g=>g.1) (bn,0,([]:List (Str×Int)),[],.slice none 0 0) (zI rfl zL) ⟨H.pick [0,1,2,3,4,5,6,7,8] (by decide),j⟩ ?_
  clear H j
  rintro ⟨bn,ao,cp,cq,a9⟩ ρ g3 ⟨H,j⟩
  obtain ⟨cr,rfl,j⟩:=yV j
  have j:=yU co j
  refine zC fun g4 ct=>zB ?_
  obtain ⟨cu,cv,j⟩:=zD j
  refine zH (zM (xK (a:=ao) (b:=ck) rfl rfl) cv)<| zG (zA (ct _ _ ?_))
  refine zC fun g5 cw=>?_
  refine zW (b:=cu) rfl (fun ba=>?_) (fun ba=>?_)
  ·have j:=zN ba j
   refine zX (zA (cw _ _ ?_))
   refine zC fun g6 cx=>?_
   refine yC ?_
   refine zC fun g7 cy=>zB<| zJ (i6 ao) ?_
   obtain ⟨Q,bb,j⟩:=zF j
   obtain ⟨cz,c0,g8,g9,c1,c2,c3,c4,c5⟩:=wH (H.item (i:=3) rfl) bb
   obtain ⟨aw,rfl,c6⟩:=kK c2
   have H:=H.fzs [.at cz (c0+ao.toNat * 4) _,.sl fP aw Q.Series.Samples] ⟨⟨c3,c4,c5⟩,c6,trivial⟩
   refine zH (yT u27 sz37 c1 rfl (zS bb).1 (zS bb).2.1 rfl rfl)<| zH (yO (yN (cs:=[sb Q.Name,i6 Q.Series.Den,aw,i6 Q.Long]) agg37 rfl sz37 rfl (H.item (i:=9) rfl).2.2) rfl)<| yY rfl rfl (xN zero37 H) ?_
   rintro _ ha ⟨c7,rfl,H⟩
   refine zK (i6 ao)<| xB rfl (xC (vs:=[sb Q.Name,i6 Q.Series.Den,aw,i6 Q.Long]) H 11 rfl sz37 rfl rfl rfl ⟨rfl,rfl,(dU (H.item (i:=10) rfl)),rfl,trivial⟩ rfl) ?_
   rintro hb H
   refine zG (zA (cy _ _ ?_))
   refine zC fun hc c8=>?_
   have c9:=H
   have H:=H.rebase
   have he:=H
   refine xX H [0,1,2,3,4,5,6,7] (kz [0,0,0,1,0,1,0,3]) mixed ?_
   refine XM (gW z)<| XP (fun _ _=>yA rfl)<| XP (fun _ _=>fa215_0 rfl)<| XR one163 H 7 0 rfl rfl<| XP (fun _ _=>fa37_0 rfl)<| XR bW H 11 0 rfl rfl<| XM (i6 ao) ?_
   obtain ⟨bo,da,j⟩:=zD j
   refine MxM.XL_exU oS rfl rfl (fun u o=>Lx_mapset (K:=Ky.str) (G:=(fun v=>Value.int .i64 v)) (m:=cp) (k:=Q.Name) (v:=ao) (H.sees o) 5 rfl u163 u9 rfl rfl rfl da) ?_
   rintro u hf o H
   refine ⟨H.only,?_⟩
   refine MxM.xE fun db hS=>?_
   have H:=H.sees hS
   have H:=c9.rejoin H
   refine (zA (c8 _ _ ?_))
   have H:Hd O w db S [f1 Rp.str v1 h.Phases,f1 fD y h.Moves,f1 fF q h.Rules,f1 fG U p1,.blk M [v1,y,q] 26,.mp l (gU Ky.str (fun v=>Value.int .i64 v) bo),.mp n (gU Ky.str (fun v=>Value.int .i64 v) ([]:List (Str×Int))),.blk z [.map (some l),a9,v1,.map (some n)] 215,.own (Rp.int .i64) a9 3 cq,f1 fP aw Q.Series.Samples,.blk c7 [sb Q.Name,i6 Q.Series.Den,aw,i6 Q.Long] 37]:=H.pick [0,1,2,3,4,5,6,7,8,10,11] (by decide)
   have dc:=H
   have H:=H.rebase
   have hg:=H
   refine xX H [0,1,2,3,4,5,6,7,8,9,10,11,12] (kz [0,0,0,0,1,0,0,1,2,3,0,0,3]) mixed ?_
   refine XM (gW z)<| XM (gW z)<| XP (fun _ _=>yA rfl)<| XP (fun _ _=>fa215_1 rfl)<| XR kL H 7 1 rfl rfl<| XP (fun _ _=>fa37_1 rfl)<| XP (fun _ _=>fa35_0 rfl)<| XR fU H 10 1 rfl rfl ?_
   obtain ⟨hh,dd,j⟩:=zD j
   subst dd
   refine MxM.XL_exN oS rfl rfl rfl (fun u o=>Ls_of (Lx_bs (r:=(Rp.int .i64)) (xl:=[Q.Series.Den]) (cs:=[i6 Q.Series.Den]) u38 el3 (by decide) (by decide) rfl (wG (vs:=[i6 Q.Series.Den]) (by decide) rfl rfl ⟨rfl,trivial⟩ rfl) (H.sees o) ⟨[i6 Q.Series.Den],[],rfl,rfl,rfl⟩) (Ys_bs (cs:=[i6 Q.Series.Den]) u38 el3 (by decide) (by decide) (wG (vs:=[i6 Q.Series.Den]) (by decide) rfl rfl ⟨rfl,trivial⟩ rfl))) ?_
   rintro u hi hj o H
   obtain ⟨de,df,j⟩:=zF j
   refine MxM.XL_ex oS rfl rfl rfl (fun u o=>Lx_app (H.sees o) (i:=8) rfl u38 el3 rfl rfl (Sr.of_own ((H.sees o).item (i:=11) rfl)) df) ?_
   rintro u bp hk o H
   refine ⟨H.only,?_⟩
   refine XP (fun _ _=>yA rfl)<| XP (fun _ _=>fa215_1 rfl)<| MxM.XL_exU oS rfl rfl (fun u o=>wI (H.sees o) 7 rfl sz38 rfl (v:=bp) rfl (own_one ((H.sees o).item (i:=8) rfl)) rfl) ?_
   rintro u hl o H
   refine ⟨H.only,?_⟩
   refine MxM.xE fun hn hS=>?_
   have H:=H.sees hS
   have H:=dc.rejoin H
   refine yK (zA (cx _ _ ?_))
   refine zB ?_
   obtain ⟨bq,dg,j⟩:=zD j
   refine zH (xJ (a:=ao) (b:=1) rfl rfl dg)<| zJ (i6 bq) ?_
   exact (zG (zA (meet ⟨(cr,bq,bo,de,bp),(zI rfl zL),⟨H.pick [0,1,2,3,4,5,6,7,8] (by decide),j⟩,Nat.lt_succ_self _⟩)))
  have j:=zO ba j
  obtain rfl:=gI j
  exact (xH (yL (yL (yS (zA (meet ⟨a9,zL,H.pick [0,1,2,3,4,5,6,7,8] (by decide)⟩))))))
 rintro p ρ a1 H
 have j:=ci
 obtain ⟨A,B⟩:=a0
 refine zC fun ho dh=>?_
 have di:=H
 have H:=H.rebase
 have dj:=H
 have br:Hd (O++bks (rest [4,5,6,7,8] [f1 Rp.str v1 h.Phases,f1 fD y h.Moves,f1 fF q h.Rules,f1 fG U p1,.blk M [v1,y,q] 26,.mp l (gU Ky.str (fun v=>Value.int .i64 v) A),.mp n (gU Ky.str (fun v=>Value.int .i64 v) ([]:List (Str×Int))),.blk z [.map (some l),p,v1,.map (some n)] 215,.own (Rp.int .i64) p 3 B])) a1 a1 (bks (Go.Lf.pick ([4,5,6,7,8]++ [0,1,2,3]) [f1 Rp.str v1 h.Phases,f1 fD y h.Moves,f1 fF q h.Rules,f1 fG U p1,.blk M [v1,y,q] 26,.mp l (gU Ky.str (fun v=>Value.int .i64 v) A),.mp n (gU Ky.str (fun v=>Value.int .i64 v) ([]:List (Str×Int))),.blk z [.map (some l),p,v1,.map (some n)] 215,.own (Rp.int .i64) p 3 B])) [.blk M [v1,y,q] 26,.mp l (gU Ky.str (fun v=>Value.int .i64 v) A),.mp n (gU Ky.str (fun v=>Value.int .i64 v) ([]:List (Str×Int))),.blk z [.map (some l),p,v1,.map (some n)] 215,.own (Rp.int .i64) p 3 B,f1 Rp.str v1 h.Phases,f1 fD y h.Moves,f1 fF q h.Rules,f1 fG U p1]:=H.enter [4,5,6,7,8] [0,1,2,3] (by decide) rfl
 refine WP_forkM H br [0,1,3,4,5,6,7] 2 8 [9,10,11] [] [.pure,.read,.new,.pure,.pure,.pure,.read,.pure,.new,.pure,.new,.pure] ⟨trivial,trivial,trivial,trivial,trivial,trivial,trivial,trivial,trivial,trivial,trivial,trivial,trivial⟩ mixed (by kernel_rfl) (by kernel_rfl) (by kernel_rfl) (by kernel_rfl) (by kernel_rfl) (by decide) ?_
 have H:=br
 refine XP (fun _ _=>fa26_0 rfl)<| XR aN H 0 0 rfl rfl<| XM U ?_
 obtain ⟨J,dk,j⟩:=zD j
 obtain ⟨hp,hq,dl⟩:=SlF.len ((H.item (i:=8) rfl))
 refine XP (fun _ _=>yO (xI u27 dl) (congrArg (Value.int .i64) dk))<| XP (fun _ _=>fa26_0 rfl)<| XR aN H 0 0 rfl rfl ?_
 obtain ⟨hr,dm,j⟩:=zD j
 obtain ⟨hs,ht,dn⟩:=SlF.len ((H.item (i:=5) rfl))
 refine XP (fun _ _=>yO (xI u22 dn) (congrArg (Value.int .i64) dm))<| MxM.xE fun hu hS=>?_
 have H:=H.sees hS
 obtain ⟨E,bt,j⟩:=zF j
 obtain ⟨a2,a3,j⟩:=zF j
 refine MxM.XL_join (du:=48) (dv:=54) (fun g1 g2 wl=> ∃(s:Value) (t:Value),s=g1∧t=g2∧Hd (O++bks (rest [4,5,6,7,8] [f1 Rp.str v1 h.Phases,f1 fD y h.Moves,f1 fF q h.Rules,f1 fG U p1,.blk M [v1,y,q] 26,.mp l (gU Ky.str (fun v=>Value.int .i64 v) A),.mp n (gU Ky.str (fun v=>Value.int .i64 v) ([]:List (Str×Int))),.blk z [.map (some l),p,v1,.map (some n)] 215,.own (Rp.int .i64) p 3 B])) a1 wl (bks (Go.Lf.pick ([4,5,6,7,8]++ [0,1,2,3]) [f1 Rp.str v1 h.Phases,f1 fD y h.Moves,f1 fF q h.Rules,f1 fG U p1,.blk M [v1,y,q] 26,.mp l (gU Ky.str (fun v=>Value.int .i64 v) A),.mp n (gU Ky.str (fun v=>Value.int .i64 v) ([]:List (Str×Int))),.blk z [.map (some l),p,v1,.map (some n)] 215,.own (Rp.int .i64) p 3 B])) [.blk M [v1,y,q] 26,.mp l (gU Ky.str (fun v=>Value.int .i64 v) A),.mp n (gU Ky.str (fun v=>Value.int .i64 v) ([]:List (Str×Int))),.blk z [.map (some l),p,v1,.map (some n)] 215,.own (Rp.int .i64) p 3 B,f1 Rp.str v1 h.Phases,f1 fD y h.Moves,f1 fF q h.Rules,f1 fG U p1,.own Rp.str s 9 E,.own Rp.bool t 4 a2]) ?_ ?_ ?_
 ·skip
  refine MxM.XL_newC oS rfl rfl rfl (fun u o=>yB en100 rfl) (fun u o=>Fckw h.Phases v1 _ bt _ _ _ ((H.sees o).enter [] [5] (by decide) rfl)) ?_
  rintro u _ hv o ⟨s,rfl,bu⟩
  have H:=(H.sees o).back1 [5] rfl bu
  refine ⟨_,rfl,(bu.only:Only [] _ _).below,?_⟩
  refine MxM.XL_exN oS rfl rfl rfl (fun u o=>Ls_of (Lx_make (r:=Rp.bool) (zv:= .bool false) u144 el4 rfl (fun _ _=>rfl) rfl rfl a3 (H.sees o)) (Ys_make u144 el4 rfl rfl rfl a3)) ?_
  rintro u t hw o H
  refine MxM.xE fun hx hS=>?_
  have H:=H.sees hS
  exact ⟨_,_,rfl,H.only,s,t,rfl,rfl,H⟩
 ·skip
  refine MxM.XL_exN oS rfl rfl rfl (fun u o=>Ls_of (Lx_make (r:=Rp.bool) (zv:= .bool false) u144 el4 rfl (fun _ _=>rfl) rfl rfl a3 (H.sees o)) (Ys_make u144 el4 rfl rfl rfl a3)) ?_
  rintro u dp hy o H
  refine MxM.XL_newC oS rfl rfl rfl (fun u o=>yB en100 rfl) (fun u o=>Fckw h.Phases v1 _ bt _ _ _ ((H.sees o).enter [] [5] (by decide) rfl)) ?_
  rintro u _ hz o ⟨dq,rfl,bv⟩
  have H:=(H.sees o).back1 [5] rfl bv
  refine ⟨_,rfl,(bv.only:Only [] _ _).below,?_⟩
  refine MxM.xE fun h0 hS=>?_
  have H:=H.sees hS
  have H:=H.pick [0,1,2,3,4,5,6,7,8,10,9] (by decide)
  exact ⟨_,_,MxM.upd_comm _ (by decide) _ _,H.only,dq,dp,rfl,rfl,H⟩
 rintro M' _ _ h1 ⟨s,t,rfl,rfl,H⟩
 obtain ⟨dr,ds,dt⟩: ∃a c,s= .slice a _ c:=Sr.len (Sr.of_own (H.item (i:=9) rfl))
 obtain ⟨dw,dx,dy⟩: ∃a c,t= .slice a _ c:=Sr.len (Sr.of_own (H.item (i:=10) rfl))
 refine XP (fun _ _=>xO (cs:=[s,i6 J,.slice none 0 0,.slice none 0 0,t]) (by rw [dt,dy]; exact bt146_0_1_4 dr _ ds _ dw _ dx))<| MxM.XL_exN oS rfl rfl rfl (fun u o=>Ls_of (xR (cs:=[s,i6 J,.slice none 0 0,.slice none 0 0,t]) rfl (H.sees o)) (Ys_box (cs:=[s,i6 J,.slice none 0 0,.slice none 0 0,t]) rfl)) ?_
 rintro u _ h2 o ⟨F,rfl,H⟩
 refine XP (fun _ _=>xM (v:=gW F) rfl)<| MxM.xE fun dz hS=>?_
 have H:=H.sees hS
 have H:=dj.back [4,5,6,7,8] [0,1,2,3] rfl H
 have H:Hd _ _ _ _ [f1 Rp.str v1 h.Phases,f1 fD y h.Moves,f1 fF q h.Rules,f1 fG U p1,.blk M [v1,y,q] 26,.mp l (gU Ky.str (fun v=>Value.int .i64 v) A),.mp n (gU Ky.str (fun v=>Value.int .i64 v) ([]:List (Str×Int))),.blk z [.map (some l),p,v1,.map (some n)] 215,.own (Rp.int .i64) p 3 B,f1 Rp.str v1 h.Phases,f1 fD y h.Moves,f1 fF q h.Rules,f1 fG U p1,.own Rp.str s 9 E,.own Rp.bool t 4 a2,.blk F [s,i6 J,.slice none 0 0,.slice none 0 0,t] 146]:=H
 have H:Hd O a1 dz (bks [f1 Rp.str v1 h.Phases,f1 fD y h.Moves,f1 fF q h.Rules,f1 fG U p1,.blk M [v1,y,q] 26,.mp l (gU Ky.str (fun v=>Value.int .i64 v) A),.mp n (gU Ky.str (fun v=>Value.int .i64 v) ([]:List (Str×Int))),.blk z [.map (some l),p,v1,.map (some n)] 215,.own (Rp.int .i64) p 3 B]) [.blk M [v1,y,q] 26,.mp l (gU Ky.str (fun v=>Value.int .i64 v) A),.mp n (gU Ky.str (fun v=>Value.int .i64 v) ([]:List (Str×Int))),.blk z [.map (some l),p,v1,.map (some n)] 215,.own (Rp.int .i64) p 3 B,f1 Rp.str v1 h.Phases,f1 fD y h.Moves,f1 fF q h.Rules,f1 fG U p1,.own Rp.str s 9 E,.own Rp.bool t 4 a2,.blk F [s,i6 J,.slice none 0 0,.slice none 0 0,t] 146]:=H.pick [4,5,6,7,8,9,10,11,12,13,14,15] (by decide)
 refine ⟨H.only,?_⟩
 refine MxM.xE fun d0 hS=>?_
 have H:=H.sees hS
 have H:=di.rejoin H
 refine (zA (dh _ _ ?_))
 have H:Hd O w d0 S [.blk M [v1,y,q] 26,.mp l (gU Ky.str (fun v=>Value.int .i64 v) A),.mp n (gU Ky.str (fun v=>Value.int .i64 v) ([]:List (Str×Int))),.blk z [.map (some l),p,v1,.map (some n)] 215,.own (Rp.int .i64) p 3 B,f1 Rp.str v1 h.Phases,f1 fD y h.Moves,f1 fF q h.Rules,.own Rp.str s 9 E,.own Rp.bool t 4 a2,.blk F [s,i6 J,.slice none 0 0,.slice none 0 0,t] 146]:=H.pick [0,1,2,3,4,5,6,7,9,10,11] (by decide)
 obtain ⟨I,j,d1⟩:=zF j
 refine yH [57,58,59,60,61,62,63,64,65] (fun (g:Unit)=>[]) (fun g wl=>Hd O w wl S [.blk M [v1,y,q] 26,f1 Rp.str v1 h.Phases,f1 fD y h.Moves,f1 fF q h.Rules,.mp l (gU Ky.str (fun v=>Value.int .i64 v) A),.mp n (gU Ky.str (fun v=>Value.int .i64 v) ([]:List (Str×Int))),.blk z [.map (some l),p,v1,.map (some n)] 215,.own (Rp.int .i64) p 3 B,.own Rp.str s 9 E,.own Rp.bool t 4 I,.blk F [s,i6 J,.slice none 0 0,.slice none 0 0,t] 146]) ?_ ?_
 ·skip
  refine zC fun h3 d2=>zB<| zH (fa26_0 rfl)<| Ld aN H 0 0 rfl rfl ?_
  obtain ⟨d3,d4,j⟩:=zD j
  obtain ⟨h4,h5,d5⟩:=SlF.len ((H.item (i:=5) rfl))
  refine zH (yO (xI u22 d5) (congrArg (Value.int .i64) d4)) ?_
  obtain ⟨d6,d7,j⟩:=zD j
  refine zH (zM (bM (a:=d3) (b:=0) rfl rfl) d7)<| zG (zA (d2 _ _ ?_))
  refine zW (b:=d6) rfl (fun bc=>?_) (fun bc=>?_)
  ·have j:=zN bc j
   refine zB ?_
   refine zJ (gW F)<| zH (yA rfl)<| zH (fa146_4 rfl)<| Ld one144 H 10 4 rfl rfl ?_
   obtain ⟨d8,bd,j⟩:=zF j
   obtain ⟨h6,h7,d9,bw,ea,eb⟩:=bH (H.item (i:=9) rfl) bd
   obtain rfl:d9= [.bool d8]:=ea
   refine zH (yT u144 sz4 bw rfl (zS bd).1 (zS bd).2.1 rfl rfl) ?_
   obtain ⟨h8,ec,j⟩:=zF j
   refine xB rfl (aI (vs:=[.bool true]) (off:=0) H 9 rfl bw eb rfl sz4 rfl rfl rfl (bJ ⟨rfl,trivial⟩) ec (by decide) rfl rfl) ?_
   rintro h9 H
   obtain rfl:=gI j
   exact (zG (zA (meet ⟨(),zL,H.pick [0,5,6,7,1,2,3,4,8,9,10] (by decide)⟩)))
  have j:=zO bc j
  obtain rfl:=gI j
  exact (zX (zA (meet ⟨(),zL,H.pick [0,5,6,7,1,2,3,4,8,9,10] (by decide)⟩)))
 rintro _ ρ ia H
 have j:=d1
 obtain ⟨R,j,ed⟩:=zF j
 refine yH [10,66,67,68,69,70,71,72,73,74,75,76,77,78,79,80,81,82,83,84,85,86,87,88,89,90,91,92,93,94,95,96,97] (fun (g:Value×(List Nat))=>[]) (fun g wl=>Hd O w wl S [.blk M [v1,y,q] 26,f1 Rp.str v1 h.Phases,f1 fD y h.Moves,f1 fF q h.Rules,.mp l (gU Ky.str (fun v=>Value.int .i64 v) A),.mp n (gU Ky.str (fun v=>Value.int .i64 v) ([]:List (Str×Int))),.blk z [.map (some l),p,v1,.map (some n)] 215,.own (Rp.int .i64) p 3 B,.own Rp.str s 9 E,.own Rp.bool t 4 I,.blk F [s,i6 J,g.1,.slice none 0 0,t] 146,.tr fM [g.1] g.2 R]) ?_ ?_
 ·skip
  refine zC fun ib ee=>zB<| zH (fa26_1 rfl)<| Ld one23 H 0 1 rfl rfl ?_
  obtain ⟨ef,eg,j⟩:=zD j
  obtain ⟨ic,id,eh⟩:=SlF.len ((H.item (i:=2) rfl))
  refine zH (yO (xI u23 eh) (congrArg (Value.int .i64) eg))<| zJ (i6 0)<| zG (zA (ee _ _ ?_))
  refine yC ?_
  have H:=row_nil H eF 172
  unfold Fcu at j
  obtain ⟨ei,bx,ej,j⟩:=yR j
  refine xA [10,69,70,71,72,73,74,75,76,77,78,79,80,81,82,83,84,85,86,87,88,89,90,91,92,93,94,95,96,97] (fun (g:Nat×Int×(List fB)×Value×(List Nat))=>[(69,i6 g.2.1)]) (fun g wl=>Hd O w wl S [.blk M [v1,y,q] 26,f1 Rp.str v1 h.Phases,f1 fD y h.Moves,f1 fF q h.Rules,.mp l (gU Ky.str (fun v=>Value.int .i64 v) A),.mp n (gU Ky.str (fun v=>Value.int .i64 v) ([]:List (Str×Int))),.blk z [.map (some l),p,v1,.map (some n)] 215,.own (Rp.int .i64) p 3 B,.own Rp.str s 9 E,.own Rp.bool t 4 I,.blk F [s,i6 J,g.2.2.2.1,.slice none 0 0,t] 146,.tr fM [g.2.2.2.1] g.2.2.2.2 g.2.2.1]∧fV ei g.1 (g.2.1,g.2.2.1)=some R) (fun g=>g.1) (bx,0,[],.slice none 0 0,[]) (zI rfl zL) ⟨H.pick [0,1,2,3,4,5,6,7,8,9,10,11] (by decide),j⟩ ?_
  clear H j
  rintro ⟨bx,T,ai,V,ah⟩ ρ ie ⟨H,j⟩
  obtain ⟨ek,rfl,j⟩:=yV j
  have j:=yU ej j
  refine zC fun ig el=>zB ?_
  obtain ⟨em,en,j⟩:=zD j
  refine zH (zM (xK (a:=T) (b:=ef) rfl rfl) en)<| zG (zA (el _ _ ?_))
  refine zC fun ih eo=>?_
  refine zW (b:=em) rfl (fun be=>?_) (fun be=>?_)
  ·have j:=zN be j
   refine zX (zA (eo _ _ ?_))
   refine zC fun ii ep=>?_
   refine yC ?_
   refine zC fun ij er=>zB ?_
   obtain ⟨d,bf,j⟩:=zF j
   obtain ⟨Y,Z,ik,il,es,et,eu,ew,ex⟩:=wH (H.item (i:=2) rfl) bf
   obtain ⟨C,rfl,ey⟩:=rMoveT_open et
   have H:=H.fzs [.at Y (Z+T.toNat * 9) _,.sl fA C d.When.Kids] ⟨⟨eu,ew,ex⟩,ey,trivial⟩
   refine zH (yT u23 sz122 es rfl (zS bf).1 (zS bf).2.1 rfl rfl)<| zH (yO (yN (cs:=[sb d.From,sb d.To,i6 d.When.Kind,sb d.When.Name,sb d.When.Other,i6 d.When.Op,i6 d.When.N,i6 d.When.Frames,C]) agg122 rfl sz122 rfl (H.item (i:=12) rfl).2.2) rfl)<| yY rfl rfl (xN zero122 H) ?_
   rintro _ im ⟨ap,rfl,H⟩
   refine xB rfl (xC (vs:=[sb d.From,sb d.To,i6 d.When.Kind,sb d.When.Name,sb d.When.Other,i6 d.When.Op,i6 d.When.N,i6 d.When.Frames,C]) H 14 rfl sz122 rfl rfl rfl ⟨rfl,rfl,rfl,rfl,rfl,rfl,rfl,rfl,(dU (H.item (i:=13) rfl)),trivial⟩ rfl) ?_
   rintro a4 H
   refine zG (zA (er _ _ ?_))
   have ez:=H
   have H:=H.rebase
   have e0:=H
   have az:Hd (O++bks (rest [4,5,6,7,8,9,11] [.blk M [v1,y,q] 26,f1 Rp.str v1 h.Phases,f1 fD y h.Moves,f1 fF q h.Rules,.mp l (gU Ky.str (fun v=>Value.int .i64 v) A),.mp n (gU Ky.str (fun v=>Value.int .i64 v) ([]:List (Str×Int))),.blk z [.map (some l),p,v1,.map (some n)] 215,.own (Rp.int .i64) p 3 B,.own Rp.str s 9 E,.own Rp.bool t 4 I,.blk F [s,i6 J,V,.slice none 0 0,t] 146,.tr fM [V] ah ai,.fz (.at Y (Z+T.toNat * 9) [sb d.From,sb d.To,i6 d.When.Kind,sb d.When.Name,sb d.When.Other,i6 d.When.Op,i6 d.When.N,i6 d.When.Frames,C]),f1 fA C d.When.Kids,.blk ap [sb d.From,sb d.To,i6 d.When.Kind,sb d.When.Name,sb d.When.Other,i6 d.When.Op,i6 d.When.N,i6 d.When.Frames,C] 122])) a4 a4 (bks (Go.Lf.pick ([4,5,6,7,8,9,11]++ [1,2,3,12,13]) [.blk M [v1,y,q] 26,f1 Rp.str v1 h.Phases,f1 fD y h.Moves,f1 fF q h.Rules,.mp l (gU Ky.str (fun v=>Value.int .i64 v) A),.mp n (gU Ky.str (fun v=>Value.int .i64 v) ([]:List (Str×Int))),.blk z [.map (some l),p,v1,.map (some n)] 215,.own (Rp.int .i64) p 3 B,.own Rp.str s 9 E,.own Rp.bool t 4 I,.blk F [s,i6 J,V,.slice none 0 0,t] 146,.tr fM [V] ah ai,.fz (.at Y (Z+T.toNat * 9) [sb d.From,sb d.To,i6 d.When.Kind,sb d.When.Name,sb d.When.Other,i6 d.When.Op,i6 d.When.N,i6 d.When.Frames,C]),f1 fA C d.When.Kids,.blk ap [sb d.From,sb d.To,i6 d.When.Kind,sb d.When.Name,sb d.When.Other,i6 d.When.Op,i6 d.When.N,i6 d.When.Frames,C] 122])) [.mp l (gU Ky.str (fun v=>Value.int .i64 v) A),.mp n (gU Ky.str (fun v=>Value.int .i64 v) ([]:List (Str×Int))),.blk z [.map (some l),p,v1,.map (some n)] 215,.own (Rp.int .i64) p 3 B,.own Rp.str s 9 E,.own Rp.bool t 4 I,.tr fM [V] ah ai,f1 Rp.str v1 h.Phases,f1 fD y h.Moves,f1 fF q h.Rules,.fz (.at Y (Z+T.toNat * 9) [sb d.From,sb d.To,i6 d.When.Kind,sb d.When.Name,sb d.When.Other,i6 d.When.Op,i6 d.When.N,i6 d.When.Frames,C]),f1 fA C d.When.Kids]:=H.enter [4,5,6,7,8,9,11] [1,2,3,12,13] (by decide) rfl
   have bg:=H.firmB az (i:=14) rfl (List.mem_append_right _ (List.mem_cons_of_mem _ (List.mem_cons_of_mem _ List.mem_cons_self)))
   have bz:=H.firmB az (i:=0) rfl (List.mem_append_right _ List.mem_cons_self)
   have e1:=H.firmB az (i:=10) rfl (List.mem_append_right _ (List.mem_cons_of_mem _ List.mem_cons_self))
   refine WP_forkM H az [1,2,3,4,5,6,7,8,9,10,11,12,13,14,15,16,17,18,19,20] 0 21 [22,23] [24] [.pure,.pure,.pure,.pure,.pure,.pure,.pure,.pure,.pure,.read,.pure,.pure,.pure,.pure,.read,.pure,.pure,.pure,.eff,.pure,.eff,.eff,.pure,.pure,.eff] ⟨trivial,trivial,trivial,trivial,trivial,trivial,trivial,trivial,trivial,trivial,trivial,trivial,trivial,trivial,trivial,trivial,trivial,trivial,trivial,trivial,trivial,trivial,trivial,trivial,trivial,trivial⟩ mixed (by kernel_rfl) (by kernel_rfl) (by kernel_rfl) (by kernel_rfl) (by kernel_rfl) (by decide) ?_
   have H:=az
   refine XM (gW F)<| XP (fun _ _=>yA rfl)<| XP (fun _ _=>fa146_2 rfl)<| XP (fun u o=>yX one142 rfl (Cells.get (Blk.cells (e1 u o)) (i:=2) rfl))<| XP (fun _ _=>fa26_0 rfl)<| XP (fun u o=>yX aN rfl (Cells.get (Blk.cells (bz u o)) (i:=0) rfl))<| XP (fun _ _=>fa122_0 rfl)<| XP (fun u o=>yX bW rfl (Cells.get (Blk.cells (bg u o)) (i:=0) rfl)) ?_
   have e2:=H
   obtain ⟨aq,e3,j⟩:=zF j
   refine MxM.XL_call oS rfl rfl rfl (v:=i6 aq) (fun u o=>yB en136 rfl) (fun u o=>dG (Faew h.Phases d.From v1 _ e3 _ _ _ ((H.sees o).enter [] [7] (by decide) rfl))) ?_
   have H:=e2
   refine XP (fun _ _=>fa26_0 rfl)<| XP (fun u o=>yX aN rfl (Cells.get (Blk.cells (bz u o)) (i:=0) rfl))<| XP (fun _ _=>fa122_1 rfl)<| XP (fun u o=>yX bW rfl (Cells.get (Blk.cells (bg u o)) (i:=1) rfl)) ?_
   have e4:=H
   obtain ⟨ar,e5,j⟩:=zF j
   refine MxM.XL_call oS rfl rfl rfl (v:=i6 ar) (fun u o=>yB en136 rfl) (fun u o=>dG (Faew h.Phases d.To v1 _ e5 _ _ _ ((H.sees o).enter [] [7] (by decide) rfl))) ?_
   have H:=e4
   refine XM (gW z)<| XP (fun _ _=>fa122_2 rfl)<| XP (fun u o=>yO (yN (cs:=[i6 d.When.Kind,sb d.When.Name,sb d.When.Other,i6 d.When.Op,i6 d.When.N,i6 d.When.Frames,C]) bD rfl bK rfl (Cells.drop (Blk.cells (bg u o)) 2 7)) rfl) ?_
   obtain ⟨a5,e6,j⟩:=zF j
   refine MxM.XL_effC oS rfl rfl rfl (fun u o=>yB en137 rfl) (fun u o=>Fev (fQ.mk A B h.Phases ([]:List (Str×Int))) d.When z l p v1 n C _ e6 _ _ _ ((H.sees o).enter [0,3,1,2] [7,11] (by decide) rfl)) ?_
   rintro u _ e7 o ⟨a6,e8,rfl,e9⟩
   have H:Hd _ _ e7 _ [.own Rp.str s 9 E,.own Rp.bool t 4 I,.tr fM [V] ah ai,f1 Rp.str v1 h.Phases,f1 fD y h.Moves,f1 fF q h.Rules,.fz (.at Y (Z+T.toNat * 9) [sb d.From,sb d.To,i6 d.When.Kind,sb d.When.Name,sb d.When.Other,i6 d.When.Op,i6 d.When.N,i6 d.When.Frames,C]),f1 fA C d.When.Kids,.tr fC [a6] e8 a5,.mp l (gU Ky.str (fun v=>Value.int .i64 v) A),.own (Rp.int .i64) p 3 B,.mp n (gU Ky.str (fun v=>Value.int .i64 v) ([]:List (Str×Int))),.blk z [.map (some l),p,v1,.map (some n)] 215]:=(H.sees o).back [0,3,1,2] [7,11] rfl e9
   refine ⟨_,rfl,H.only,?_⟩
   obtain ⟨fa,fb,fc⟩:=nd_if (H.item (i:=8) rfl)
   refine XP (fun _ _=>xO (cs:=[i6 aq,i6 ar,a6]) (by rw [fc]; exact bt172_0_1_2 _ _ fa fb)) ?_
   obtain ⟨fd,H⟩:=rtEventMove_mk (x:=fB.mk aq ar a5) H 8 rfl
   have H:Hd _ _ _ _ [.own Rp.str s 9 E,.own Rp.bool t 4 I,.tr fM [V] ah ai,f1 Rp.str v1 h.Phases,f1 fD y h.Moves,f1 fF q h.Rules,.fz (.at Y (Z+T.toNat * 9) [sb d.From,sb d.To,i6 d.When.Kind,sb d.When.Name,sb d.When.Other,i6 d.When.Op,i6 d.When.N,i6 d.When.Frames,C]),f1 fA C d.When.Kids,.mp l (gU Ky.str (fun v=>Value.int .i64 v) A),.own (Rp.int .i64) p 3 B,.mp n (gU Ky.str (fun v=>Value.int .i64 v) ([]:List (Str×Int))),.blk z [.map (some l),p,v1,.map (some n)] 215,.tr eF [i6 aq,i6 ar,a6] fd (fB.mk aq ar a5)]:=H
   refine MxM.XL_ex oS rfl rfl rfl (fun u o=>Lx_bsT1 (H.sees o) 12 rfl u142 el172 (by decide) (by decide) (wG (vs:=[.agg [i6 aq,i6 ar,a6].toArray]) (by decide) rfl rfl ⟨rfl,trivial⟩ rfl)) ?_
   rintro u fe io o ⟨ff,H⟩
   refine ⟨H.only,?_⟩
   have H:Hd _ _ _ _ [.own Rp.str s 9 E,.own Rp.bool t 4 I,.tr fM [V] ah ai,f1 Rp.str v1 h.Phases,f1 fD y h.Moves,f1 fF q h.Rules,.fz (.at Y (Z+T.toNat * 9) [sb d.From,sb d.To,i6 d.When.Kind,sb d.When.Name,sb d.When.Other,i6 d.When.Op,i6 d.When.N,i6 d.When.Frames,C]),f1 fA C d.When.Kids,.mp l (gU Ky.str (fun v=>Value.int .i64 v) A),.own (Rp.int .i64) p 3 B,.mp n (gU Ky.str (fun v=>Value.int .i64 v) ([]:List (Str×Int))),.blk z [.map (some l),p,v1,.map (some n)] 215,.tr fM [fe] ff [fB.mk aq ar a5]]:=H
   refine MxM.xE fun ip hS=>?_
   have H:=H.sees hS
   obtain ⟨au,b0,j⟩:=zF j
   refine MxM.XL_join (du:=73) (dv:=94) (fun g1 g2 wl=> ∃(af:Value) (aj:List Nat),gW F=g1∧af=g2∧Hd (O++bks (rest [4,5,6,7,8,9,11] [.blk M [v1,y,q] 26,f1 Rp.str v1 h.Phases,f1 fD y h.Moves,f1 fF q h.Rules,.mp l (gU Ky.str (fun v=>Value.int .i64 v) A),.mp n (gU Ky.str (fun v=>Value.int .i64 v) ([]:List (Str×Int))),.blk z [.map (some l),p,v1,.map (some n)] 215,.own (Rp.int .i64) p 3 B,.own Rp.str s 9 E,.own Rp.bool t 4 I,.blk F [s,i6 J,V,.slice none 0 0,t] 146,.tr fM [V] ah ai,.fz (.at Y (Z+T.toNat * 9) [sb d.From,sb d.To,i6 d.When.Kind,sb d.When.Name,sb d.When.Other,i6 d.When.Op,i6 d.When.N,i6 d.When.Frames,C]),f1 fA C d.When.Kids,.blk ap [sb d.From,sb d.To,i6 d.When.Kind,sb d.When.Name,sb d.When.Other,i6 d.When.Op,i6 d.When.N,i6 d.When.Frames,C] 122])) a4 wl (bks (Go.Lf.pick ([4,5,6,7,8,9,11]++ [1,2,3,12,13]) [.blk M [v1,y,q] 26,f1 Rp.str v1 h.Phases,f1 fD y h.Moves,f1 fF q h.Rules,.mp l (gU Ky.str (fun v=>Value.int .i64 v) A),.mp n (gU Ky.str (fun v=>Value.int .i64 v) ([]:List (Str×Int))),.blk z [.map (some l),p,v1,.map (some n)] 215,.own (Rp.int .i64) p 3 B,.own Rp.str s 9 E,.own Rp.bool t 4 I,.blk F [s,i6 J,V,.slice none 0 0,t] 146,.tr fM [V] ah ai,.fz (.at Y (Z+T.toNat * 9) [sb d.From,sb d.To,i6 d.When.Kind,sb d.When.Name,sb d.When.Other,i6 d.When.Op,i6 d.When.N,i6 d.When.Frames,C]),f1 fA C d.When.Kids,.blk ap [sb d.From,sb d.To,i6 d.When.Kind,sb d.When.Name,sb d.When.Other,i6 d.When.Op,i6 d.When.N,i6 d.When.Frames,C] 122])) [.own Rp.str s 9 E,.own Rp.bool t 4 I,f1 Rp.str v1 h.Phases,f1 fD y h.Moves,f1 fF q h.Rules,.fz (.at Y (Z+T.toNat * 9) [sb d.From,sb d.To,i6 d.When.Kind,sb d.When.Name,sb d.When.Other,i6 d.When.Op,i6 d.When.N,i6 d.When.Frames,C]),f1 fA C d.When.Kids,.mp l (gU Ky.str (fun v=>Value.int .i64 v) A),.own (Rp.int .i64) p 3 B,.mp n (gU Ky.str (fun v=>Value.int .i64 v) ([]:List (Str×Int))),.blk z [.map (some l),p,v1,.map (some n)] 215,.tr fM [af] aj au]) ?_ ?_ ?_
   ·skip
    refine XM (gW F)<| MxM.XL_ex oS rfl rfl rfl (fun u o=>Lx_appT (H.sees o) 2 12 rfl rfl (by decide) u142 el172 rfl rfl b0) ?_
    rintro u af iq o ⟨aj,H⟩
    refine ⟨H.only,?_⟩
    have H:Hd _ _ _ _ [.own Rp.str s 9 E,.own Rp.bool t 4 I,f1 Rp.str v1 h.Phases,f1 fD y h.Moves,f1 fF q h.Rules,.fz (.at Y (Z+T.toNat * 9) [sb d.From,sb d.To,i6 d.When.Kind,sb d.When.Name,sb d.When.Other,i6 d.When.Op,i6 d.When.N,i6 d.When.Frames,C]),f1 fA C d.When.Kids,.mp l (gU Ky.str (fun v=>Value.int .i64 v) A),.own (Rp.int .i64) p 3 B,.mp n (gU Ky.str (fun v=>Value.int .i64 v) ([]:List (Str×Int))),.blk z [.map (some l),p,v1,.map (some n)] 215,.tr fM [af] aj au]:=H
    refine MxM.xE fun ir hS=>?_
    have H:=H.sees hS
    exact ⟨_,_,rfl,H.only,af,aj,rfl,rfl,H⟩
   ·skip
    refine MxM.XL_ex oS rfl rfl rfl (fun u o=>Lx_appT (H.sees o) 2 12 rfl rfl (by decide) u142 el172 rfl rfl b0) ?_
    rintro u b1 it o ⟨b2,H⟩
    refine ⟨H.only,?_⟩
    have H:Hd _ _ _ _ [.own Rp.str s 9 E,.own Rp.bool t 4 I,f1 Rp.str v1 h.Phases,f1 fD y h.Moves,f1 fF q h.Rules,.fz (.at Y (Z+T.toNat * 9) [sb d.From,sb d.To,i6 d.When.Kind,sb d.When.Name,sb d.When.Other,i6 d.When.Op,i6 d.When.N,i6 d.When.Frames,C]),f1 fA C d.When.Kids,.mp l (gU Ky.str (fun v=>Value.int .i64 v) A),.own (Rp.int .i64) p 3 B,.mp n (gU Ky.str (fun v=>Value.int .i64 v) ([]:List (Str×Int))),.blk z [.map (some l),p,v1,.map (some n)] 215,.tr fM [b1] b2 au]:=H
    refine XM (gW F)<| MxM.xE fun iu hS=>?_
    have H:=H.sees hS
    exact ⟨_,_,MxM.upd_comm _ (by decide) _ _,H.only,b1,b2,rfl,rfl,H⟩
   rintro M' _ _ iv ⟨af,aj,rfl,rfl,H⟩
   refine XP (fun _ _=>yA rfl)<| XP (fun _ _=>fa146_2 rfl)<| MxM.xE fun fg hS=>?_
   have H:=H.sees hS
   have H:=e0.back [4,5,6,7,8,9,11] [1,2,3,12,13] rfl H
   have H:Hd _ _ _ _ [.blk M [v1,y,q] 26,f1 Rp.str v1 h.Phases,f1 fD y h.Moves,f1 fF q h.Rules,.blk F [s,i6 J,V,.slice none 0 0,t] 146,.fz (.at Y (Z+T.toNat * 9) [sb d.From,sb d.To,i6 d.When.Kind,sb d.When.Name,sb d.When.Other,i6 d.When.Op,i6 d.When.N,i6 d.When.Frames,C]),f1 fA C d.When.Kids,.blk ap [sb d.From,sb d.To,i6 d.When.Kind,sb d.When.Name,sb d.When.Other,i6 d.When.Op,i6 d.When.N,i6 d.When.Frames,C] 122,.own Rp.str s 9 E,.own Rp.bool t 4 I,f1 Rp.str v1 h.Phases,f1 fD y h.Moves,f1 fF q h.Rules,.fz (.at Y (Z+T.toNat * 9) [sb d.From,sb d.To,i6 d.When.Kind,sb d.When.Name,sb d.When.Other,i6 d.When.Op,i6 d.When.N,i6 d.When.Frames,C]),f1 fA C d.When.Kids,.mp l (gU Ky.str (fun v=>Value.int .i64 v) A),.own (Rp.int .i64) p 3 B,.mp n (gU Ky.str (fun v=>Value.int .i64 v) ([]:List (Str×Int))),.blk z [.map (some l),p,v1,.map (some n)] 215,.tr fM [af] aj au]:=H
   have H:Hd O a4 fg (bks [.blk M [v1,y,q] 26,f1 Rp.str v1 h.Phases,f1 fD y h.Moves,f1 fF q h.Rules,.mp l (gU Ky.str (fun v=>Value.int .i64 v) A),.mp n (gU Ky.str (fun v=>Value.int .i64 v) ([]:List (Str×Int))),.blk z [.map (some l),p,v1,.map (some n)] 215,.own (Rp.int .i64) p 3 B,.own Rp.str s 9 E,.own Rp.bool t 4 I,.blk F [s,i6 J,V,.slice none 0 0,t] 146,.tr fM [V] ah ai,.fz (.at Y (Z+T.toNat * 9) [sb d.From,sb d.To,i6 d.When.Kind,sb d.When.Name,sb d.When.Other,i6 d.When.Op,i6 d.When.N,i6 d.When.Frames,C]),f1 fA C d.When.Kids,.blk ap [sb d.From,sb d.To,i6 d.When.Kind,sb d.When.Name,sb d.When.Other,i6 d.When.Op,i6 d.When.N,i6 d.When.Frames,C] 122]) [.blk ap [sb d.From,sb d.To,i6 d.When.Kind,sb d.When.Name,sb d.When.Other,i6 d.When.Op,i6 d.When.N,i6 d.When.Frames,C] 122,.blk M [v1,y,q] 26,.blk F [s,i6 J,V,.slice none 0 0,t] 146,.own Rp.str s 9 E,.own Rp.bool t 4 I,f1 Rp.str v1 h.Phases,f1 fD y h.Moves,f1 fF q h.Rules,.fz (.at Y (Z+T.toNat * 9) [sb d.From,sb d.To,i6 d.When.Kind,sb d.When.Name,sb d.When.Other,i6 d.When.Op,i6 d.When.N,i6 d.When.Frames,C]),f1 fA C d.When.Kids,.mp l (gU Ky.str (fun v=>Value.int .i64 v) A),.own (Rp.int .i64) p 3 B,.mp n (gU Ky.str (fun v=>Value.int .i64 v) ([]:List (Str×Int))),.blk z [.map (some l),p,v1,.map (some n)] 215,.tr fM [af] aj au]:=H.pick [7,0,4,8,9,10,11,12,13,14,15,16,17,18,19] (by decide)
   refine ⟨H.only,?_⟩
   refine MxM.XL_exU oS rfl rfl (fun u o=>wI (H.sees o) 2 rfl sz142 rfl (v:=af) rfl (tr_one ((H.sees o).item (i:=14) rfl)) rfl) ?_
   rintro u iw o H
   refine ⟨H.only,?_⟩
   refine MxM.xE fun fh hS=>?_
   have H:=H.sees hS
   have H:=ez.rejoin H
   refine yK (zA (ep _ _ ?_))
   have H:Hd O w fh S [.blk M [v1,y,q] 26,.blk F [s,i6 J,af,.slice none 0 0,t] 146,.own Rp.str s 9 E,.own Rp.bool t 4 I,f1 Rp.str v1 h.Phases,f1 fD y h.Moves,f1 fF q h.Rules,.mp l (gU Ky.str (fun v=>Value.int .i64 v) A),.own (Rp.int .i64) p 3 B,.mp n (gU Ky.str (fun v=>Value.int .i64 v) ([]:List (Str×Int))),.blk z [.map (some l),p,v1,.map (some n)] 215,.tr fM [af] aj au]:=H.pick [1,2,3,4,5,6,7,10,11,12,13,14] (by decide)
   refine zB ?_
   obtain ⟨b3,fi,j⟩:=zD j
   refine zH (xJ (a:=T) (b:=1) rfl rfl fi)<| zJ (i6 b3) ?_
   exact (zG (zA (meet ⟨(ek,b3,au,af,aj),(zI rfl zL),⟨H.pick [0,4,5,6,7,9,10,8,2,3,1,11] (by decide),j⟩,Nat.lt_succ_self _⟩)))
  have j:=zO be j
  obtain rfl:=gI j
  exact (xH (yL (yL (yS (zA (meet ⟨(V,ah),zL,H.pick [0,1,2,3,4,5,6,7,8,9,10,11] (by decide)⟩))))))
 rintro ⟨L,X⟩ ρ iy H
 have j:=ed
 obtain ⟨b4,j,fj⟩:=zF j
 refine yH [11,12,98,99,100,101,102,103,104,105,106,107,108,109,110,111,112,113,114,115,116,117,118,119,120,121,122,123,124,125,126] (fun (g:Value×(List Nat))=>[]) (fun g wl=>Hd O w wl S [.own Rp.str s 9 E,.own Rp.bool t 4 I,.blk F [s,i6 J,L,g.1,t] 146,.tr fM [L] X R,.tr fK [g.1] g.2 b4]) ?_ ?_
 ·skip
  refine zC fun iz fk=>zB<| zH (fa26_2 rfl)<| Ld one24 H 0 2 rfl rfl ?_
  obtain ⟨fm,fn,j⟩:=zD j
  obtain ⟨i1,i2,fo⟩:=SlF.len ((H.item (i:=3) rfl))
  refine zH (yO (xI u24 fo) (congrArg (Value.int .i64) fn))<| zJ (i6 0)<| zG (zA (fk _ _ ?_))
  refine yC ?_
  have H:=row_nil H fC 170
  unfold Fc5 at j
  obtain ⟨fp,b5,fq,j⟩:=yR j
  refine xA [11,12,101,102,103,104,105,106,107,108,109,110,111,112,113,114,115,116,117,118,119,120,121,122,123,124,125,126] (fun (g:Nat×Int×(List (Str×Int))×(List Nd)×Value×(List Nat))=>[(101,i6 g.2.1)]) (fun g wl=>Hd O w wl S [f1 Rp.str v1 h.Phases,f1 fF q h.Rules,.mp l (gU Ky.str (fun v=>Value.int .i64 v) A),.mp n (gU Ky.str (fun v=>Value.int .i64 v) g.2.2.1),.blk z [.map (some l),p,v1,.map (some n)] 215,.own (Rp.int .i64) p 3 B,.own Rp.str s 9 E,.own Rp.bool t 4 I,.blk F [s,i6 J,L,g.2.2.2.2.1,t] 146,.tr fM [L] X R,.tr fK [g.2.2.2.2.1] g.2.2.2.2.2 g.2.2.2.1]∧fV fp g.1 (g.2.1,g.2.2.1,g.2.2.2.1)=some b4) (fun g=>g.1) (b5,0,([]:List (Str×Int)),[],.slice none 0 0,[]) (zI rfl zL) ⟨H.pick [1,3,4,5,6,7,8,9,10,11,12] (by decide),j⟩ ?_
  clear H j
  rintro ⟨b5,P,aa,am,ab,ak⟩ ρ i3 ⟨H,j⟩
  obtain ⟨fr,rfl,j⟩:=yV j
  have j:=yU fq j
  refine zC fun i4 fs=>zB ?_
  obtain ⟨ft,fu,j⟩:=zD j
  refine zH (zM (xK (a:=P) (b:=fm) rfl rfl) fu)<| zG (zA (fs _ _ ?_))
  refine zC fun i5 fv=>?_
  refine zW (b:=ft) rfl (fun bh=>?_) (fun bh=>?_)
  ·have j:=zN bh j
   refine zX (zA (fv _ _ ?_))
   refine zC fun i7 fw=>?_
   refine yC ?_
   refine zC fun i8 fx=>zB<| zJ (i6 P) ?_
   obtain ⟨f,bi,j⟩:=zF j
   obtain ⟨ad,ae,i9,ja,fy,f0,f4,f5,f6⟩:=wH (H.item (i:=1) rfl) bi
   obtain ⟨D,rfl,f7⟩:=rRule_open f0
   have H:=H.fzs [.at ad (ae+P.toNat * 8) _,.sl fA D f.When.Kids] ⟨⟨f4,f5,f6⟩,f7,trivial⟩
   refine zH (yT u24 sz95 fy rfl (zS bi).1 (zS bi).2.1 rfl rfl)<| zH (yO (yN (cs:=[sb f.Name,i6 f.When.Kind,sb f.When.Name,sb f.When.Other,i6 f.When.Op,i6 f.When.N,i6 f.When.Frames,D]) agg95 rfl sz95 rfl (H.item (i:=11) rfl).2.2) rfl)<| yY rfl rfl (xN zero95 H) ?_
   rintro _ jb ⟨an,rfl,H⟩
   refine zK (i6 P)<| xB rfl (xC (vs:=[sb f.Name,i6 f.When.Kind,sb f.When.Name,sb f.When.Other,i6 f.When.Op,i6 f.When.N,i6 f.When.Frames,D]) H 13 rfl sz95 rfl rfl rfl ⟨rfl,rfl,rfl,rfl,rfl,rfl,rfl,(dU (H.item (i:=12) rfl)),trivial⟩ rfl) ?_
   rintro a7 H
   refine zG (zA (fx _ _ ?_))
   refine zC fun jc f8=>?_
   have f9:=H
   have H:=H.rebase
   have ga:=H
   have a8:Hd (O++bks (rest [2,3,4,5,6,7,9,10] [f1 Rp.str v1 h.Phases,f1 fF q h.Rules,.mp l (gU Ky.str (fun v=>Value.int .i64 v) A),.mp n (gU Ky.str (fun v=>Value.int .i64 v) aa),.blk z [.map (some l),p,v1,.map (some n)] 215,.own (Rp.int .i64) p 3 B,.own Rp.str s 9 E,.own Rp.bool t 4 I,.blk F [s,i6 J,L,ab,t] 146,.tr fM [L] X R,.tr fK [ab] ak am,.fz (.at ad (ae+P.toNat * 8) [sb f.Name,i6 f.When.Kind,sb f.When.Name,sb f.When.Other,i6 f.When.Op,i6 f.When.N,i6 f.When.Frames,D]),f1 fA D f.When.Kids,.blk an [sb f.Name,i6 f.When.Kind,sb f.When.Name,sb f.When.Other,i6 f.When.Op,i6 f.When.N,i6 f.When.Frames,D] 95])) a7 a7 (bks (Go.Lf.pick ([2,3,4,5,6,7,9,10]++ [0,1,11,12]) [f1 Rp.str v1 h.Phases,f1 fF q h.Rules,.mp l (gU Ky.str (fun v=>Value.int .i64 v) A),.mp n (gU Ky.str (fun v=>Value.int .i64 v) aa),.blk z [.map (some l),p,v1,.map (some n)] 215,.own (Rp.int .i64) p 3 B,.own Rp.str s 9 E,.own Rp.bool t 4 I,.blk F [s,i6 J,L,ab,t] 146,.tr fM [L] X R,.tr fK [ab] ak am,.fz (.at ad (ae+P.toNat * 8) [sb f.Name,i6 f.When.Kind,sb f.When.Name,sb f.When.Other,i6 f.When.Op,i6 f.When.N,i6 f.When.Frames,D]),f1 fA D f.When.Kids,.blk an [sb f.Name,i6 f.When.Kind,sb f.When.Name,sb f.When.Other,i6 f.When.Op,i6 f.When.N,i6 f.When.Frames,D] 95])) [.mp l (gU Ky.str (fun v=>Value.int .i64 v) A),.mp n (gU Ky.str (fun v=>Value.int .i64 v) aa),.blk z [.map (some l),p,v1,.map (some n)] 215,.own (Rp.int .i64) p 3 B,.own Rp.str s 9 E,.own Rp.bool t 4 I,.tr fM [L] X R,.tr fK [ab] ak am,f1 Rp.str v1 h.Phases,f1 fF q h.Rules,.fz (.at ad (ae+P.toNat * 8) [sb f.Name,i6 f.When.Kind,sb f.When.Name,sb f.When.Other,i6 f.When.Op,i6 f.When.N,i6 f.When.Frames,D]),f1 fA D f.When.Kids]:=H.enter [2,3,4,5,6,7,9,10] [0,1,11,12] (by decide) rfl
   have gb:=H.firmB a8 (i:=13) rfl (List.mem_append_right _ (List.mem_cons_of_mem _ List.mem_cons_self))
   have gc:=H.firmB a8 (i:=8) rfl (List.mem_append_right _ List.mem_cons_self)
   refine WP_forkM H a8 [1,2,3,4,5,6,7,8,9] 0 10 [11,12] [13] [.pure,.pure,.pure,.pure,.pure,.pure,.pure,.pure,.eff,.eff,.eff,.pure,.pure,.eff] ⟨trivial,trivial,trivial,trivial,trivial,trivial,trivial,trivial,trivial,trivial,trivial,trivial,trivial,trivial,trivial⟩ mixed (by kernel_rfl) (by kernel_rfl) (by kernel_rfl) (by kernel_rfl) (by kernel_rfl) (by decide) ?_
   have H:=a8
   refine XM (gW F)<| XP (fun _ _=>yA rfl)<| XP (fun _ _=>fa146_3 rfl)<| XP (fun u o=>yX one143 rfl (Cells.get (Blk.cells (gc u o)) (i:=3) rfl))<| XM (gW z)<| XP (fun _ _=>fa95_1 rfl)<| XP (fun u o=>yO (yN (cs:=[i6 f.When.Kind,sb f.When.Name,sb f.When.Other,i6 f.When.Op,i6 f.When.N,i6 f.When.Frames,D]) bD rfl bK rfl (Cells.drop (Blk.cells (gb u o)) 1 7)) rfl) ?_
   obtain ⟨b6,gd,j⟩:=zF j
   refine MxM.XL_effC oS rfl rfl rfl (fun u o=>yB en137 rfl) (fun u o=>Fev (fQ.mk A B h.Phases aa) f.When z l p v1 n D _ gd _ _ _ ((H.sees o).enter [0,3,1,2] [8,11] (by decide) rfl)) ?_
   rintro u _ ge o ⟨gf,gg,rfl,gh⟩
   have H:Hd _ _ ge _ [.own Rp.str s 9 E,.own Rp.bool t 4 I,.tr fM [L] X R,.tr fK [ab] ak am,f1 Rp.str v1 h.Phases,f1 fF q h.Rules,.fz (.at ad (ae+P.toNat * 8) [sb f.Name,i6 f.When.Kind,sb f.When.Name,sb f.When.Other,i6 f.When.Op,i6 f.When.N,i6 f.When.Frames,D]),f1 fA D f.When.Kids,.tr fC [gf] gg b6,.mp l (gU Ky.str (fun v=>Value.int .i64 v) A),.own (Rp.int .i64) p 3 B,.mp n (gU Ky.str (fun v=>Value.int .i64 v) aa),.blk z [.map (some l),p,v1,.map (some n)] 215]:=(H.sees o).back [0,3,1,2] [8,11] rfl gh
   refine ⟨_,rfl,H.only,?_⟩
   refine MxM.XL_ex oS rfl rfl rfl (fun u o=>Lx_bsT1 (H.sees o) 8 rfl u143 el170 (by decide) (by decide) (fillB_ones rfl rfl ⟨(tr_one (H.item (i:=8) rfl)),trivial⟩)) ?_
   rintro u gi jd o ⟨gj,H⟩
   refine ⟨H.only,?_⟩
   have H:Hd _ _ _ _ [.own Rp.str s 9 E,.own Rp.bool t 4 I,.tr fM [L] X R,.tr fK [ab] ak am,f1 Rp.str v1 h.Phases,f1 fF q h.Rules,.fz (.at ad (ae+P.toNat * 8) [sb f.Name,i6 f.When.Kind,sb f.When.Name,sb f.When.Other,i6 f.When.Op,i6 f.When.N,i6 f.When.Frames,D]),f1 fA D f.When.Kids,.mp l (gU Ky.str (fun v=>Value.int .i64 v) A),.own (Rp.int .i64) p 3 B,.mp n (gU Ky.str (fun v=>Value.int .i64 v) aa),.blk z [.map (some l),p,v1,.map (some n)] 215,.tr fK [gi] gj [b6]]:=H
   refine MxM.xE fun je hS=>?_
   have H:=H.sees hS
   obtain ⟨av,b7,j⟩:=zF j
   refine MxM.XL_join (du:=106) (dv:=116) (fun g1 g2 wl=> ∃(ag:Value) (al:List Nat),gW F=g1∧ag=g2∧Hd (O++bks (rest [2,3,4,5,6,7,9,10] [f1 Rp.str v1 h.Phases,f1 fF q h.Rules,.mp l (gU Ky.str (fun v=>Value.int .i64 v) A),.mp n (gU Ky.str (fun v=>Value.int .i64 v) aa),.blk z [.map (some l),p,v1,.map (some n)] 215,.own (Rp.int .i64) p 3 B,.own Rp.str s 9 E,.own Rp.bool t 4 I,.blk F [s,i6 J,L,ab,t] 146,.tr fM [L] X R,.tr fK [ab] ak am,.fz (.at ad (ae+P.toNat * 8) [sb f.Name,i6 f.When.Kind,sb f.When.Name,sb f.When.Other,i6 f.When.Op,i6 f.When.N,i6 f.When.Frames,D]),f1 fA D f.When.Kids,.blk an [sb f.Name,i6 f.When.Kind,sb f.When.Name,sb f.When.Other,i6 f.When.Op,i6 f.When.N,i6 f.When.Frames,D] 95])) a7 wl (bks (Go.Lf.pick ([2,3,4,5,6,7,9,10]++ [0,1,11,12]) [f1 Rp.str v1 h.Phases,f1 fF q h.Rules,.mp l (gU Ky.str (fun v=>Value.int .i64 v) A),.mp n (gU Ky.str (fun v=>Value.int .i64 v) aa),.blk z [.map (some l),p,v1,.map (some n)] 215,.own (Rp.int .i64) p 3 B,.own Rp.str s 9 E,.own Rp.bool t 4 I,.blk F [s,i6 J,L,ab,t] 146,.tr fM [L] X R,.tr fK [ab] ak am,.fz (.at ad (ae+P.toNat * 8) [sb f.Name,i6 f.When.Kind,sb f.When.Name,sb f.When.Other,i6 f.When.Op,i6 f.When.N,i6 f.When.Frames,D]),f1 fA D f.When.Kids,.blk an [sb f.Name,i6 f.When.Kind,sb f.When.Name,sb f.When.Other,i6 f.When.Op,i6 f.When.N,i6 f.When.Frames,D] 95])) [.own Rp.str s 9 E,.own Rp.bool t 4 I,.tr fM [L] X R,f1 Rp.str v1 h.Phases,f1 fF q h.Rules,.fz (.at ad (ae+P.toNat * 8) [sb f.Name,i6 f.When.Kind,sb f.When.Name,sb f.When.Other,i6 f.When.Op,i6 f.When.N,i6 f.When.Frames,D]),f1 fA D f.When.Kids,.mp l (gU Ky.str (fun v=>Value.int .i64 v) A),.own (Rp.int .i64) p 3 B,.mp n (gU Ky.str (fun v=>Value.int .i64 v) aa),.blk z [.map (some l),p,v1,.map (some n)] 215,.tr fK [ag] al av]) ?_ ?_ ?_
   ·skip
    refine XM (gW F)<| MxM.XL_ex oS rfl rfl rfl (fun u o=>Lx_appT (H.sees o) 3 12 rfl rfl (by decide) u143 el170 rfl rfl b7) ?_
    rintro u ag jf o ⟨al,H⟩
    refine ⟨H.only,?_⟩
    have H:Hd _ _ _ _ [.own Rp.str s 9 E,.own Rp.bool t 4 I,.tr fM [L] X R,f1 Rp.str v1 h.Phases,f1 fF q h.Rules,.fz (.at ad (ae+P.toNat * 8) [sb f.Name,i6 f.When.Kind,sb f.When.Name,sb f.When.Other,i6 f.When.Op,i6 f.When.N,i6 f.When.Frames,D]),f1 fA D f.When.Kids,.mp l (gU Ky.str (fun v=>Value.int .i64 v) A),.own (Rp.int .i64) p 3 B,.mp n (gU Ky.str (fun v=>Value.int .i64 v) aa),.blk z [.map (some l),p,v1,.map (some n)] 215,.tr fK [ag] al av]:=H
    refine MxM.xE fun jg hS=>?_
    have H:=H.sees hS
    exact ⟨_,_,rfl,H.only,ag,al,rfl,rfl,H⟩
   ·skip
    refine MxM.XL_ex oS rfl rfl rfl (fun u o=>Lx_appT (H.sees o) 3 12 rfl rfl (by decide) u143 el170 rfl rfl b7) ?_
    rintro u b8 jh o ⟨b9,H⟩
    refine ⟨H.only,?_⟩
    have H:Hd _ _ _ _ [.own Rp.str s 9 E,.own Rp.bool t 4 I,.tr fM [L] X R,f1 Rp.str v1 h.Phases,f1 fF q h.Rules,.fz (.at ad (ae+P.toNat * 8) [sb f.Name,i6 f.When.Kind,sb f.When.Name,sb f.When.Other,i6 f.When.Op,i6 f.When.N,i6 f.When.Frames,D]),f1 fA D f.When.Kids,.mp l (gU Ky.str (fun v=>Value.int .i64 v) A),.own (Rp.int .i64) p 3 B,.mp n (gU Ky.str (fun v=>Value.int .i64 v) aa),.blk z [.map (some l),p,v1,.map (some n)] 215,.tr fK [b8] b9 av]:=H
    refine XM (gW F)<| MxM.xE fun ji hS=>?_
    have H:=H.sees hS
    exact ⟨_,_,MxM.upd_comm _ (by decide) _ _,H.only,b8,b9,rfl,rfl,H⟩
   rintro M' _ _ jj ⟨ag,al,rfl,rfl,H⟩
   refine XP (fun _ _=>yA rfl)<| XP (fun _ _=>fa146_3 rfl)<| MxM.xE fun gl hS=>?_
   have H:=H.sees hS
   have H:=ga.back [2,3,4,5,6,7,9,10] [0,1,11,12] rfl H
   have H:Hd _ _ _ _ [f1 Rp.str v1 h.Phases,f1 fF q h.Rules,.blk F [s,i6 J,L,ab,t] 146,.fz (.at ad (ae+P.toNat * 8) [sb f.Name,i6 f.When.Kind,sb f.When.Name,sb f.When.Other,i6 f.When.Op,i6 f.When.N,i6 f.When.Frames,D]),f1 fA D f.When.Kids,.blk an [sb f.Name,i6 f.When.Kind,sb f.When.Name,sb f.When.Other,i6 f.When.Op,i6 f.When.N,i6 f.When.Frames,D] 95,.own Rp.str s 9 E,.own Rp.bool t 4 I,.tr fM [L] X R,f1 Rp.str v1 h.Phases,f1 fF q h.Rules,.fz (.at ad (ae+P.toNat * 8) [sb f.Name,i6 f.When.Kind,sb f.When.Name,sb f.When.Other,i6 f.When.Op,i6 f.When.N,i6 f.When.Frames,D]),f1 fA D f.When.Kids,.mp l (gU Ky.str (fun v=>Value.int .i64 v) A),.own (Rp.int .i64) p 3 B,.mp n (gU Ky.str (fun v=>Value.int .i64 v) aa),.blk z [.map (some l),p,v1,.map (some n)] 215,.tr fK [ag] al av]:=H
   have H:Hd O a7 gl (bks [f1 Rp.str v1 h.Phases,f1 fF q h.Rules,.mp l (gU Ky.str (fun v=>Value.int .i64 v) A),.mp n (gU Ky.str (fun v=>Value.int .i64 v) aa),.blk z [.map (some l),p,v1,.map (some n)] 215,.own (Rp.int .i64) p 3 B,.own Rp.str s 9 E,.own Rp.bool t 4 I,.blk F [s,i6 J,L,ab,t] 146,.tr fM [L] X R,.tr fK [ab] ak am,.fz (.at ad (ae+P.toNat * 8) [sb f.Name,i6 f.When.Kind,sb f.When.Name,sb f.When.Other,i6 f.When.Op,i6 f.When.N,i6 f.When.Frames,D]),f1 fA D f.When.Kids,.blk an [sb f.Name,i6 f.When.Kind,sb f.When.Name,sb f.When.Other,i6 f.When.Op,i6 f.When.N,i6 f.When.Frames,D] 95]) [.blk an [sb f.Name,i6 f.When.Kind,sb f.When.Name,sb f.When.Other,i6 f.When.Op,i6 f.When.N,i6 f.When.Frames,D] 95,.blk F [s,i6 J,L,ab,t] 146,.own Rp.str s 9 E,.own Rp.bool t 4 I,.tr fM [L] X R,f1 Rp.str v1 h.Phases,f1 fF q h.Rules,.fz (.at ad (ae+P.toNat * 8) [sb f.Name,i6 f.When.Kind,sb f.When.Name,sb f.When.Other,i6 f.When.Op,i6 f.When.N,i6 f.When.Frames,D]),f1 fA D f.When.Kids,.mp l (gU Ky.str (fun v=>Value.int .i64 v) A),.own (Rp.int .i64) p 3 B,.mp n (gU Ky.str (fun v=>Value.int .i64 v) aa),.blk z [.map (some l),p,v1,.map (some n)] 215,.tr fK [ag] al av]:=H.pick [5,2,6,7,8,9,10,11,12,13,14,15,16,17] (by decide)
   refine ⟨H.only,?_⟩
   refine MxM.XL_exU oS rfl rfl (fun u o=>wI (H.sees o) 1 rfl sz143 rfl (v:=ag) rfl (tr_one ((H.sees o).item (i:=13) rfl)) rfl) ?_
   rintro u jk o H
   refine ⟨H.only,?_⟩
   refine MxM.xE fun gm hS=>?_
   have H:=H.sees hS
   have H:=f9.rejoin H
   refine (zA (f8 _ _ ?_))
   have H:Hd O w gm S [.blk an [sb f.Name,i6 f.When.Kind,sb f.When.Name,sb f.When.Other,i6 f.When.Op,i6 f.When.N,i6 f.When.Frames,D] 95,.blk F [s,i6 J,L,ag,t] 146,.own Rp.str s 9 E,.own Rp.bool t 4 I,.tr fM [L] X R,f1 Rp.str v1 h.Phases,f1 fF q h.Rules,f1 fA D f.When.Kids,.mp l (gU Ky.str (fun v=>Value.int .i64 v) A),.own (Rp.int .i64) p 3 B,.mp n (gU Ky.str (fun v=>Value.int .i64 v) aa),.blk z [.map (some l),p,v1,.map (some n)] 215,.tr fK [ag] al av]:=H.pick [0,1,2,3,4,5,6,8,9,10,11,12,13] (by decide)
   have gn:=H
   have H:=H.rebase
   have jl:=H
   refine xX H [0,1,2,3,4,5,6,7] (kz [0,0,0,1,0,1,0,3]) mixed ?_
   refine XM (gW z)<| XP (fun _ _=>yA rfl)<| XP (fun _ _=>fa215_3 rfl)<| XR one163 H 11 3 rfl rfl<| XP (fun _ _=>fa95_0 rfl)<| XR bW H 0 0 rfl rfl<| XM (i6 P) ?_
   obtain ⟨go,gp,j⟩:=zD j
   refine MxM.XL_exU oS rfl rfl (fun u o=>Lx_mapset (K:=Ky.str) (G:=(fun v=>Value.int .i64 v)) (m:=aa) (k:=f.Name) (v:=P) (H.sees o) 10 rfl u163 u9 rfl rfl rfl gp) ?_
   rintro u jm o H
   refine ⟨H.only,?_⟩
   refine MxM.xE fun jn hS=>?_
   have H:=H.sees hS
   have H:=gn.rejoin H
   refine yK (zA (fw _ _ ?_))
   refine zB ?_
   obtain ⟨ca,gq,j⟩:=zD j
   refine zH (xJ (a:=P) (b:=1) rfl rfl gq)<| zJ (i6 ca) ?_
   exact (zG (zA (meet ⟨(fr,ca,go,av,ag,al),(zI rfl zL),⟨H.pick [5,6,8,10,11,9,2,3,1,4,12] (by decide),j⟩,Nat.lt_succ_self _⟩)))
  have j:=zO bh j
  obtain rfl:=gI j
  exact (xH (yL (yL (yS (zA (meet ⟨(ab,ak),zL,H.pick [6,7,8,9,10] (by decide)⟩))))))
 rintro ⟨gr,gs⟩ ρ jo H
 have j:=fj
 refine zC fun jp gt=>zB<| zJ (gW F)<| zK (gW F)<| zG (zA (gt _ _ ?_))
 have H:=H.freeze (i:=0) rfl
 have H:=H.freeze (i:=1) rfl
 obtain rfl:=gI j
 refine (zY (gX (v1:=gW F) rfl rfl ?_))
 exact ⟨F,s,L,X,gr,gs,t,rfl,H.pick [0,3,4,1,2] (by decide)⟩
theorem Fazw (c:fJ)(d:Int)(r:Int)(f:Faz c d=some r)(O S:List Nat)(w:World)(H:Hd O w w S []):
  Calls Tryz.prog 262 ([.agg [i6 c.At,i6 c.N,i6 c.Mark].toArray,i6 d]:List Value).toArray w fun e i=>e= .returned (i6 r)∧Hd O w i S []:=by
 unfold Faz at f
 refine zZ 9 Tryz.func262 rfl rfl rfl ?_
 refine zC fun m j=>zB<| yY rfl rfl (xR (cs:=[i6 c.At,i6 c.N,i6 c.Mark]) rfl H) ?_
 rintro _ n ⟨o,rfl,H⟩
 refine zK (i6 0)<| zG (zA (j _ _ ?_))
 refine zC fun p k=>zB<| zH (fa40_0 rfl)<| Ld fU H 0 0 rfl rfl<| zJ (i6 d) ?_
 obtain ⟨h,l,f⟩:=zD f
 refine zH (aZ (a:=c.At) (b:=d) rfl rfl l)<| zK (i6 h)<| zG (zA (k _ _ ?_))
 obtain rfl:=gI f
 refine (zY (gX (v1:=i6 h) rfl rfl ?_))
 exact ⟨rfl,H.pick [] (by decide)⟩
theorem Fc1w (n:List fJ)(h:Int)(v1:Value)(r:Int×Bool)(c:Fc1 n h=some r)(O S:List Nat)(w:World)(H:Hd O w w S [f1 fP v1 n]):
  Calls Tryz.prog 261 ([v1,i6 h,.func (.func 262) #[] #[]]:List Value).toArray w fun e E=>e= .returned (.tuple #[i6 r.1,.bool r.2])∧Hd O w E S []:=by
 unfold Fc1 at c
 refine zZ 49 Tryz.func261 rfl rfl rfl ?_
 refine zC fun K3 F=>zB<| zK (i6 0)<| zK (.bool false)<| zG (zA (F _ _ ?_))
 refine zC fun K4 G=>zB<| zJ v1 ?_
 obtain ⟨k,I,c⟩:=zD c
 obtain ⟨a7,c8,J⟩:=SlF.len ((H.item (i:=0) rfl))
 refine zH (yO (xI u33 J) (congrArg (Value.int .i64) I))<| zK (i6 k)<| zG (zA (G _ _ ?_))
 refine zC fun bc K=>zB<| zJ (i6 k)<| zK (i6 0)<| zK (i6 k)<| zG (zA (K _ _ ?_))
 obtain ⟨d,c,L⟩:=zF c
 refine yH [9,10,11,15,16,17,18,19,20,21,22,23,24,25,26,27,28,29,30,31,32,33,34] (fun (g:Unit)=>[(9,i6 d)]) (fun g wl=>Hd O w wl S [f1 fP v1 n]) ?_ ?_
 ·skip
  refine yC ?_
  unfold Fc2 at c
  obtain ⟨M,z,P,c⟩:=yR c
  refine xA [9,10,11,15,16,17,18,19,20,21,22,23,24,25,26,27,28,29,30,31,32,33,34] (fun (g:Nat×Int×Int)=>[(9,i6 g.2.1),(10,i6 g.2.2)]) (fun g wl=>Hd O w wl S [f1 fP v1 n]∧fV M g.1 (g.2.1,g.2.2)=some d) (fun g=>g.1) (z,0,k) (zI rfl (zI rfl zL)) ⟨H.pick [0] (by decide),c⟩ ?_
  clear H c
  rintro ⟨z,l,m⟩ ρ bd ⟨H,c⟩
  obtain ⟨A,rfl,c⟩:=yV c
  have c:=yU P c
  refine zC fun be Q=>?_
  refine zC fun bf R=>zB<| zJ (i6 l)<| zJ (i6 m) ?_
  obtain ⟨T,U,c⟩:=zD c
  refine zH (zM (xK (a:=l) (b:=m) rfl rfl) U)<| zG (zA (R _ _ ?_))
  refine zW (b:=T) rfl (fun s=>?_) (fun s=>?_)
  ·have c:=zN s c
   refine zX (zA (Q _ _ ?_))
   refine yC ?_
   refine zC fun bg V=>zB<| zJ (i6 l)<| zJ (i6 m) ?_
   obtain ⟨bh,X,c⟩:=zD c
   refine zH (xJ (a:=l) (b:=m) rfl rfl X) ?_
   obtain ⟨Y,Z,c⟩:=zD c
   refine zH (Do_conv u3 u199 rfl Z) ?_
   obtain ⟨bi,aa,c⟩:=zF c
   refine zH (Do_shr' (j:=Y) (q:=1) rfl rfl aa) ?_
   obtain ⟨f,ab,c⟩:=zD c
   refine zH (Do_conv u199 u3 rfl ab)<| zK (i6 f)<| zG (zA (V _ _ ?_))
   refine zC fun bj ac=>zB<| zJ (.func (.func 262) #[] #[])<| zJ v1<| zJ (i6 f) ?_
   obtain ⟨o,t,c⟩:=zF c
   obtain ⟨ad,ae,bk,bl,af,ag,ah,ai,aj⟩:=wH (H.item (i:=0) rfl) t
   obtain rfl:=dQ ag
   have H:=H.fz (.at ad (ae+f.toNat * 3) _) ⟨ah,ai,aj⟩
   refine zH (yT u33 sz40 af rfl (zS t).1 (zS t).2.1 rfl rfl)<| zH (yO (yN (cs:=[i6 o.At,i6 o.N,i6 o.Mark]) agg40 rfl sz40 rfl (H.item (i:=1) rfl).2.2) rfl)<| zJ (i6 h) ?_
   have ak:=H
   obtain ⟨al,am,c⟩:=zF c
   refine yG rfl rfl (aH en262 rfl rfl) (Fazw o h _ am _ _ _ (H.enter [] [] (by decide) rfl)) ?_
   rintro _ bm ⟨rfl,an⟩
   have H:=ak.step (an.only:Only [] _ _)
   refine ⟨_,rfl,?_⟩
   obtain ⟨ao,ap,c⟩:=zD c
   refine zH (zM (xK (a:=al) (b:=0) rfl rfl) ap)<| zG (zA (ac _ _ ?_))
   refine zW (b:=ao) rfl (fun u=>?_) (fun u=>?_)
   ·have c:=zN u c
    refine zB ?_
    refine zJ (i6 f) ?_
    obtain ⟨B,aq,c⟩:=zD c
    refine zH (xJ (a:=f) (b:=1) rfl rfl aq)<| zK (i6 B) ?_
    exact (zG (yK (zA (meet ⟨(A,B,m),(zI rfl (zI rfl zL)),⟨H.pick [0] (by decide),c⟩,Nat.lt_succ_self _⟩))))
   have c:=zO u c
   refine zB ?_
   refine zJ (i6 f)<| zK (i6 f) ?_
   exact (zG (yK (zA (meet ⟨(A,l,f),(zI rfl (zI rfl zL)),⟨H.pick [0] (by decide),c⟩,Nat.lt_succ_self _⟩))))
  have c:=zO s c
  obtain rfl:=gI c
  exact (xH (yL (yL (yS (zA (meet ⟨(),(zI rfl zL),H.pick [0] (by decide)⟩))))))
 rintro _ ρ bn H
 have c:=L
 obtain ⟨C,c,ar⟩:=zF c
 refine yH [6,7,35,36,37,38,39,40,41,42,43,44,45,46,47,48] (fun (g:Unit)=>[(6,i6 d),(7,.bool C)]) (fun g wl=>Hd O w wl S []) ?_ ?_
 ·skip
  refine zB ?_
  refine zJ (i6 d)<| zJ (i6 d)<| zJ (i6 k) ?_
  obtain ⟨au,av,c⟩:=zD c
  refine zH (zM (xK (a:=d) (b:=k) rfl rfl) av)<| yM (b:=au) rfl rfl rfl (fun x=>?_) (fun x=>?_)
  ·have c:=zN x c
   refine zJ (.func (.func 262) #[] #[])<| zJ v1<| zJ (i6 d) ?_
   obtain ⟨p,y,c⟩:=zF c
   obtain ⟨aw,ax,bo,bp,ay,az,a0,a1,a2⟩:=wH (H.item (i:=0) rfl) y
   obtain rfl:=dQ az
   have H:=H.fz (.at aw (ax+d.toNat * 3) _) ⟨a0,a1,a2⟩
   refine zH (yT u33 sz40 ay rfl (zS y).1 (zS y).2.1 rfl rfl)<| zH (yO (yN (cs:=[i6 p.At,i6 p.N,i6 p.Mark]) agg40 rfl sz40 rfl (H.item (i:=1) rfl).2.2) rfl)<| zJ (i6 h) ?_
   have a3:=H
   obtain ⟨a4,a5,c⟩:=zF c
   refine yG rfl rfl (aH en262 rfl rfl) (Fazw p h _ a5 _ _ _ (H.enter [] [] (by decide) rfl)) ?_
   rintro _ bq ⟨rfl,a6⟩
   have H:=a3.step (a6.only:Only [] _ _)
   refine ⟨_,rfl,?_⟩
   obtain ⟨D,e283,c⟩:=zD c
   refine zH (zM (yZ (a:=a4) (b:=0) rfl rfl) e283)<| zH (yI (v:= .bool D) rfl rfl)<| zK (i6 d)<| zK (.bool D) ?_
   obtain rfl:=gI c
   exact (zG (zA (meet ⟨(),(zI rfl (zI rfl zL)),H.pick [] (by decide)⟩)))
  have c:=zO x c
  refine yE ?_
  refine yE ?_
  refine yE ?_
  refine yE ?_
  refine yE ?_
  refine yE ?_
  refine yE ?_
  refine yE ?_
  refine zH (yF (v:= .bool false) rfl rfl)<| zK (i6 d)<| zK (.bool false) ?_
  obtain rfl:=gI c
  exact (zG (zA (meet ⟨(),(zI rfl (zI rfl zL)),H.pick [] (by decide)⟩)))
 rintro _ ρ br H
 have c:=ar
 obtain rfl:=gI c
 refine (zY (post2 (v1:=i6 d) (v2:= .bool C) rfl rfl rfl ?_))
 exact ⟨rfl,H.pick [] (by decide)⟩
theorem Fbtw (f:Series)(i:Int)(v1:Value)(r:Int)(c:Fbt f i=some r)(O S:List Nat)(w:World)(H:Hd O w w S [f1 fP v1 f.Samples]):
  Calls Tryz.prog 227 ([.agg [i6 f.Den,v1].toArray,i6 i]:List Value).toArray w fun e l=>e= .returned (i6 r)∧Hd O w l S []:=by
 unfold Fbt at c
 refine zZ 18 Tryz.func227 rfl rfl rfl ?_
 refine zC fun z m=>zB<| yY rfl rfl (xR (cs:=[i6 f.Den,v1]) rfl H) ?_
 rintro _ A ⟨B,rfl,H⟩
 refine zK (i6 0)<| zG (zA (m _ _ ?_))
 refine zC fun C n=>zB<| zH (fa35_1 rfl)<| Ld one33 H 1 1 rfl rfl<| zJ (i6 i) ?_
 have o:=H
 obtain ⟨⟨d,h⟩,p,c⟩:=zF c
 refine yG rfl rfl (yB en261 rfl) (Fc1w f.Samples i v1 _ p _ _ _ (H.enter [] [0] (by decide) rfl)) ?_
 rintro _ D ⟨rfl,q⟩
 have H:=o.step (q.only:Only [] _ _)
 refine ⟨_,rfl,?_⟩
 refine zJ (.tuple #[i6 d,.bool h])<| zH (xW (v:=i6 d) rfl rfl)<| zH (xW (v:= .bool h) rfl rfl)<| zK (i6 d)<| zK (.bool h)<| zG (zA (n _ _ ?_))
 refine zC fun E s=>?_
 refine zC fun F t=>zB<| zJ (.bool h)<| zG (zA (t _ _ ?_))
 refine zW (b:=h) rfl (fun j=>?_) (fun j=>?_)
 ·have c:=zN j c
  refine zC fun G u=>zB<| zJ (i6 d)<| zK (i6 d)<| zG (zA (u _ _ ?_))
  obtain rfl:=gI c
  refine (zY (zT (gX (v1:=i6 d) rfl rfl ?_)))
  exact ⟨rfl,H.pick [] (by decide)⟩
 have c:=zO j c
 refine zX (zA (s _ _ ?_))
 refine zC fun I x=>zB<| zJ (i6 d) ?_
 obtain ⟨k,y,c⟩:=zD c
 refine zH (aZ (a:=d) (b:=1) rfl rfl y)<| zK (i6 k)<| zG (zA (x _ _ ?_))
 obtain rfl:=gI c
 refine (zY (gX (v1:=i6 k) rfl rfl ?_))
 exact ⟨rfl,H.pick [] (by decide)⟩
theorem Fcvw (c:fJ)(r:Bool)(d:Fcv c=some r)(O S:List Nat)(w:World)(H:Hd O w w S []):
  Calls Tryz.prog 228 ([.agg [i6 c.At,i6 c.N,i6 c.Mark].toArray]:List Value).toArray w fun e h=>e= .returned (.bool r)∧Hd O w h S []:=by
 unfold Fcv at d
 refine zZ 6 Tryz.func228 rfl rfl rfl ?_
 refine zC fun l i=>zB<| yY rfl rfl (xR (cs:=[i6 c.At,i6 c.N,i6 c.Mark]) rfl H) ?_
 rintro _ m ⟨n,rfl,H⟩
 refine zK (.bool false)<| zG (zA (i _ _ ?_))
 refine zC fun o j=>zB<| zH (fa40_2 rfl)<| Ld fU H 0 2 rfl rfl ?_
 obtain ⟨f,k,d⟩:=zD d
 refine zH (zM (aJ (a:=c.Mark) (b:=3) rfl rfl) k)<| zK (.bool f)<| zG (zA (j _ _ ?_))
 obtain rfl:=gI d
 refine (zY (gX (v1:= .bool f) rfl rfl ?_))
 exact ⟨rfl,H.pick [] (by decide)⟩
theorem Fdaw (d:Series)(h:Int)(k:Int)(v1:Value)(r:fJ×Bool)(c:Fda d h k=some r)(O S:List Nat)(w:World)(H:Hd O w w S [f1 fP v1 d.Samples]):
  Calls Tryz.prog 192 ([.agg [i6 d.Den,v1].toArray,i6 h,i6 k]:List Value).toArray w fun e A=>e= .returned (.tuple #[.agg [i6 r.1.At,i6 r.1.N,i6 r.1.Mark].toArray,.bool r.2])∧Hd O w A S []:=by
 unfold Fda at c
 refine zZ 41 Tryz.func192 rfl rfl rfl ?_
 refine zC fun K3 B=>zB<| yY rfl rfl (xR (cs:=[i6 d.Den,v1]) rfl H) ?_
 rintro _ w6 ⟨u,rfl,H⟩
 refine yY rfl rfl (xN zero40 H) ?_
 rintro _ w9 ⟨x,rfl,H⟩
 refine zK (.bool false)<| zG (zA (B _ _ ?_))
 refine zC fun a3 C=>zB<| zH (yO (yN (cs:=[i6 d.Den,v1]) agg35 rfl sz35 rfl (Hbc H 1 rfl)) rfl)<| zJ (i6 h) ?_
 have D:=H
 obtain ⟨f,E,c⟩:=zF c
 refine yG rfl rfl (yB en227 rfl) (Fbtw d h v1 _ E _ _ _ (H.enter [] [0] (by decide) rfl)) ?_
 rintro _ a4 ⟨rfl,F⟩
 have H:=D.step (F.only:Only [] _ _)
 refine ⟨_,rfl,?_⟩
 refine zK (i6 f)<| zG (zA (C _ _ ?_))
 refine zC fun a5 G=>?_
 obtain ⟨y,c,I⟩:=zF c
 refine yH [12,13,14,15,16,17,18,19,20,21,22,23,24,25,26,27,28,29,30,31,32,33,34] (fun (g:Unit)=>[(34,.bool y)]) (fun g wl=>Hd O w wl S [f1 fP v1 d.Samples,.blk u [i6 d.Den,v1] 35,.blk x [i6 0,i6 0,i6 0] 40]) ?_ ?_
 ·skip
  refine zB ?_
  refine zJ (i6 f) ?_
  obtain ⟨J,K,c⟩:=zD c
  refine zH (zM (xK (a:=f) (b:=0) rfl rfl) K) ?_
  obtain ⟨z,c,L⟩:=zF c
  refine dF 9 [14,15,16,17,18,19,20,21,22] [(22,.bool z)] (fun wl=>Hd O w wl S [f1 fP v1 d.Samples,.blk u [i6 d.Den,v1] 35,.blk x [i6 0,i6 0,i6 0] 40]) ?_ ?_
  ·skip
   refine yM (b:=J) rfl rfl rfl (fun m=>?_) (fun m=>?_)
   ·have c:=zN m c
    refine yE ?_
    refine yE ?_
    refine yE ?_
    refine yE ?_
    refine yE ?_
    refine yE ?_
    refine yE ?_
    refine zH (yI (v:= .bool true) rfl rfl) ?_
    obtain rfl:=gI c
    exact zG (zA (meet ⟨(zI rfl zL),H.pick [0,1,2] (by decide)⟩))
   have c:=zO m c
   refine zH (fa35_1 rfl)<| Ld one33 H 1 1 rfl rfl<| zJ (i6 f) ?_
   obtain ⟨l,n,c⟩:=zF c
   obtain ⟨M,P,a6,a7,Q,R,T,U,V⟩:=wH (H.item (i:=0) rfl) n
   obtain rfl:=dQ R
   have H:=H.fz (.at M (P+f.toNat * 3) _) ⟨T,U,V⟩
   refine zH (yT u33 sz40 Q rfl (zS n).1 (zS n).2.1 rfl rfl)<| zH (yO (yN (cs:=[i6 l.At,i6 l.N,i6 l.Mark]) agg40 rfl sz40 rfl (H.item (i:=3) rfl).2.2) rfl) ?_
   have X:=H
   obtain ⟨Y,Z,c⟩:=zF c
   refine yG rfl rfl (yB en228 rfl) (Fcvw l _ Z _ _ _ (H.enter [] [] (by decide) rfl)) ?_
   rintro _ a8 ⟨rfl,aa⟩
   have H:=X.step (aa.only:Only [] _ _)
   refine ⟨_,rfl,?_⟩
   obtain ⟨ab,ac,c⟩:=zD c
   refine zH (zM (wJ (p:=Y) rfl) ac)<| zH (yF (v:= .bool ab) rfl rfl) ?_
   obtain rfl:=gI c
   exact zG (zA (meet ⟨(zI rfl zL),H.pick [0,1,2] (by decide)⟩))
  rintro ρ a9 H
  have c:=L
  refine yM (b:=z) rfl rfl rfl (fun o=>?_) (fun o=>?_)
  ·have c:=zN o c
   refine yE ?_
   refine yE ?_
   refine yE ?_
   refine yE ?_
   refine yE ?_
   refine yE ?_
   refine yE ?_
   refine yE ?_
   refine yE ?_
   refine yE ?_
   refine zH (yI (v:= .bool true) rfl rfl) ?_
   obtain rfl:=gI c
   exact (zG (zA (meet ⟨(),(zI rfl zL),H.pick [0,1,2] (by decide)⟩)))
  have c:=zO o c
  refine zJ (i6 h)<| zH (fa35_1 rfl)<| Ld one33 H 1 1 rfl rfl<| zJ (i6 f) ?_
  obtain ⟨ad,q,c⟩:=zF c
  obtain ⟨ae,af,ba,bb,ag,ah,ai,aj,ak⟩:=wH (H.item (i:=0) rfl) q
  obtain rfl:=dQ ah
  have H:=H.fz (.at ae (af+f.toNat * 3) _) ⟨ai,aj,ak⟩
  refine zH (yT u33 sz40 ag rfl (zS q).1 (zS q).2.1 rfl rfl)<| zH (fa40_0 rfl)<| zH (yX fU rfl (Cells.get (H.item (i:=3) rfl).2.2 (i:=0) rfl)) ?_
  obtain ⟨al,am,c⟩:=zD c
  refine zH (aZ (a:=h) (b:=ad.At) rfl rfl am)<| zJ (i6 k) ?_
  obtain ⟨an,ao,c⟩:=zD c
  refine zH (zM (bM (a:=al) (b:=k) rfl rfl) ao)<| zH (yF (v:= .bool an) rfl rfl) ?_
  obtain rfl:=gI c
  exact (zG (zA (meet ⟨(),(zI rfl zL),H.pick [0,1,2] (by decide)⟩)))
 rintro _ ρ bc H
 have c:=I
 refine zW (b:=y) rfl (fun s=>?_) (fun s=>?_)
 ·have c:=zN s c
  refine zC fun bd ap=>zB<| zH (xO (cs:=[i6 0,i6 0,i6 0]) bz40)<| xB rfl (xC (vs:=[i6 0,i6 0,i6 0]) H 2 rfl sz40 rfl rfl rfl ⟨rfl,rfl,rfl,trivial⟩ rfl) ?_
  rintro be H
  refine zK (.bool false)<| zG (zA (ap _ _ ?_))
  obtain rfl:=gI c
  refine (zY (zT (bY (v1:= .bool false) rfl rfl (xG agg40 sz40 rfl (Hbc H 2 rfl)) rfl ?_)))
  exact ⟨rfl,H.pick [] (by decide)⟩
 have c:=zO s c
 refine zX (zA (G _ _ ?_))
 refine zC fun bf aq=>zB<| zH (fa35_1 rfl)<| Ld one33 H 1 1 rfl rfl<| zJ (i6 f) ?_
 obtain ⟨j,t,c⟩:=zF c
 obtain ⟨ar,au,bg,bh,av,aw,ax,ay,az⟩:=wH (H.item (i:=0) rfl) t
 obtain rfl:=dQ aw
 have H:=H.fz (.at ar (au+f.toNat * 3) _) ⟨ax,ay,az⟩
 refine zH (yT u33 sz40 av rfl (zS t).1 (zS t).2.1 rfl rfl)<| zH (yO (yN (cs:=[i6 j.At,i6 j.N,i6 j.Mark]) agg40 rfl sz40 rfl (H.item (i:=3) rfl).2.2) rfl)<| xB rfl (xC (vs:=[i6 j.At,i6 j.N,i6 j.Mark]) H 2 rfl sz40 rfl rfl rfl ⟨rfl,rfl,rfl,trivial⟩ rfl) ?_
 rintro bi H
 refine zK (.bool true)<| zG (zA (aq _ _ ?_))
 obtain rfl:=gI c
 refine (zY (bY (v1:= .bool true) rfl rfl (xG agg40 sz40 rfl (Hbc H 2 rfl)) rfl ?_))
 exact ⟨rfl,H.pick [] (by decide)⟩
theorem Fbrw (a:Series)(c:Int)(d:Int)(v1:Value)(r:fJ×Bool)(f:Fbr a c d=some r)(O S:List Nat)(w:World)(H:Hd O w w S [f1 fP v1 a.Samples]):
  Calls Tryz.prog 140 ([.agg [i6 a.Den,v1].toArray,i6 c,i6 d]:List Value).toArray w fun e i=>e= .returned (.tuple #[.agg [i6 r.1.At,i6 r.1.N,i6 r.1.Mark].toArray,.bool r.2])∧Hd O w i S []:=by
 unfold Fbr at f
 refine zZ 14 Tryz.func140 rfl rfl rfl ?_
 refine zC fun o j=>zB<| yY rfl rfl (xR (cs:=[i6 a.Den,v1]) rfl H) ?_
 rintro _ p ⟨q,rfl,H⟩
 refine yY rfl rfl (xN zero40 H) ?_
 rintro _ s ⟨t,rfl,H⟩
 refine zK (.bool false)<| zG (zA (j _ _ ?_))
 refine zC fun u k=>zB<| zH (yO (yN (cs:=[i6 a.Den,v1]) agg35 rfl sz35 rfl (Hbc H 1 rfl)) rfl)<| zJ (i6 c)<| zJ (i6 d) ?_
 have l:=H
 obtain ⟨⟨b,h⟩,m,f⟩:=zF f
 refine yG rfl rfl (yB en192 rfl) (Fdaw a c d v1 _ m _ _ _ (H.enter [] [0] (by decide) rfl)) ?_
 rintro _ x ⟨rfl,n⟩
 have H:=l.step (n.only:Only [] _ _)
 refine ⟨_,rfl,?_⟩
 refine zH (xW (v:= .agg [i6 b.At,i6 b.N,i6 b.Mark].toArray) rfl rfl)<| zH (xW (v:= .bool h) rfl rfl)<| xB rfl (xC (vs:=[i6 b.At,i6 b.N,i6 b.Mark]) H 2 rfl sz40 rfl rfl rfl ⟨rfl,rfl,rfl,trivial⟩ rfl) ?_
 rintro y H
 refine zK (.bool h)<| zG (zA (k _ _ ?_))
 obtain rfl:=gI f
 refine (zY (bY (v1:= .bool h) rfl rfl (xG agg40 sz40 rfl (Hbc H 2 rfl)) rfl ?_))
 exact ⟨rfl,H.pick [] (by decide)⟩
end Go.Proofs.YtckmiljbaejijaaGreatDoor.L
