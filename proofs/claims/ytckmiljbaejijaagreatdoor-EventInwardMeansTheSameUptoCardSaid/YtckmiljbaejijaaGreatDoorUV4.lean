/- Walks: what each function computes, for every argument; no condition but those that stand in the statements. -/
import Derived.Test.YtckmiljbaejijaaGreatDoorUV0
import Derived.Test.YtckmiljbaejijaaGreatDoorUV3
namespace Go.Proofs.YtckmiljbaejijaaGreatDoor.L
open Go.RowKit Go.OB Go.Lf
set_option maxHeartbeats 4000000
set_option maxRecDepth 100000 in
theorem Fbbw (h:Rules)(p1:List fH)(v1:Value)(y:Value)(q:Value)(U:Value)(r:fF)(j:Fbb h p1=some r)(O S:List Nat)(w:World)(H:Hd O w w S [f1 Rp.str v1 h.Phases,f1 gX y h.Moves,f1 fB q h.Rules,f1 eF U p1]):
  Cl 74 [.agg [v1,y,q].toArray,U] w fun e u=> ∃u9 bj bk cb bl cc bm,e= .returned (gV u9)∧Hd O w u S [f1 Rp.str bj r.phases,.tr fP [bk] cb r.moves,.tr fO [bl] cc r.rules,f1 Rp.bool bm r.possible,.blk u9 [bj,i6 r.tracks,bk,bl,bm] 146]:=by
 unfold Fbb at j
 refine CW 128 Tryz.func74 ?_
 refine zB fun gv cd=>zA<| yQ rfl rfl (xR (cs:=[v1,y,q]) rfl H) ?_
 rintro _ gw ⟨M,rfl,H⟩
 refine zI (.pointer none)<| RN cd<| zB fun gx ce=>zA<| yQ rfl rfl (aGg H) ?_
 rintro _ gy ⟨l,rfl,H⟩
 refine zG (jY rfl)<| Ld jS H 4 0 rfl rfl<| yQ rfl rfl (aGg H) ?_
 rintro _ gz ⟨n,rfl,H⟩
 obtain ⟨cf,cg,ch⟩: ∃a c,v1= .slice a _ c:=SlF.len ((H.item (i:=0) rfl))
 refine zG (xJ (cs:=[.map (some l),.slice none 0 0,v1,.map (some n)]) (by rw [ch]; exact aLu _ cf _ cg _))<| yQ rfl rfl (xR (cs:=[.map (some l),.slice none 0 0,v1,.map (some n)]) rfl H) ?_
 rintro _ g0 ⟨z,rfl,H⟩
 refine zI (gV z)<| RN ce ?_
 obtain ⟨a0,j,ci⟩:=zC j
 refine yK [6,7,19,20,21,22,23,24,25,26,27,28,29,30,31,32,33,34,35,36,37,38,39,40,41,42,43,44,45] (fun (g:Value)=>[]) (fun g wl=>Hd O w wl S [f1 Rp.str v1 h.Phases,f1 gX y h.Moves,f1 fB q h.Rules,f1 eF U p1,.blk M [v1,y,q] 26,.mp l (gZ Ky.str (fun v=>Value.int .i64 v) a0.1),.mp n (gZ Ky.str (fun v=>Value.int .i64 v) ([]:List (Str×Int))),.blk z [.map (some l),g,v1,.map (some n)] 215,.own (Rp.int .i64) g 3 a0.2]) ?_ ?_
 ·skip
  refine zB fun K238 cj=>zA<| zH U ?_
  obtain ⟨ck,cl,j⟩:=zD j
  obtain ⟨a241,g3,cm⟩:=SlF.len ((H.item (i:=3) rfl))
  refine zG (yJ (xO u27 cm) (congrArg (Value.int .i64) cl))<| zH (i6 0)<| RN cj<| yD ?_
  have H:=bY H (Rp.int .i64) 3
  unfold Fdh at j
  obtain ⟨cn,bn,co,j⟩:=yT j
  refine xB [6,7,21,22,23,24,25,26,27,28,29,30,31,32,33,34,35,36,37,38,39,40,41,42,43,44,45] (fun (g:Nat×Int×(List (Str×Int))×(List Int)×Value)=>[(21,i6 g.2.1)]) (fun g wl=>Hd O w wl S [f1 Rp.str v1 h.Phases,f1 gX y h.Moves,f1 fB q h.Rules,f1 eF U p1,.blk M [v1,y,q] 26,.mp l (gZ Ky.str (fun v=>Value.int .i64 v) g.2.2.1),.mp n (gZ Ky.str (fun v=>Value.int .i64 v) ([]:List (Str×Int))),.blk z [.map (some l),g.2.2.2.2,v1,.map (some n)] 215,.own (Rp.int .i64) g.2.2.2.2 3 g.2.2.2.1]∧fV cn g.1 (g.2.1,g.2.2.1,g.2.2.2.1)=some a0) (fun g=>g.1) (bn,0,([]:List (Str×Int)),[],.slice none 0 0) (zJ rfl zK) ⟨H.pick [0,1,2,3,4,5,6,7,8],j⟩ ?_
  clear H j
  rintro ⟨bn,ao,cp,cq,a9⟩ ρ g4 ⟨H,j⟩
  obtain ⟨cr,rfl,j⟩:=yZ j
  have j:=yY co j
  refine zB fun g5 ct=>zA ?_
  obtain ⟨cu,cv,j⟩:=zD j
  refine zG (zL (xP (a:=ao) (b:=ck) rfl rfl) cv)<| RN ct<| zB fun g6 cw=>zY (b:=cu) rfl (fun ba=>?_) (fun ba=>?_)
  ·have j:=zO ba j
   refine zX (zF (cw _ _ ?_))
   refine zB fun g7 cx=>?_
   refine yD ?_
   refine zB fun g8 cy=>zA<| zH (i6 ao) ?_
   obtain ⟨Q,bb,j⟩:=zC j
   obtain ⟨cz,c0,g9,ha,c1,c2,c3,c4,c5⟩:=dI (H.item (i:=3) rfl) bb
   obtain ⟨aw,rfl,c6⟩:=mZ c2
   have H:=H.fzs [.at cz (c0+ao.toNat * 4) _,.sl eU aw Q.Series.Samples] ⟨⟨c3,c4,c5⟩,c6,trivial⟩
   refine zG (xC u27 aAd c1 rfl (yC bb).1 (yC bb).2.1 rfl rfl)<| zG (yJ (yF (cs:=[sb Q.Name,i6 Q.Series.Den,aw,i6 Q.Long]) aLx rfl aAd rfl (H.item (i:=9) rfl).2.2) rfl)<| yQ rfl rfl (xA aNx H) ?_
   rintro _ hb ⟨c7,rfl,H⟩
   refine zI (i6 ao)<| yP rfl (yL (vs:=[sb Q.Name,i6 Q.Series.Den,aw,i6 Q.Long]) H 11 rfl aAd rfl rfl rfl ⟨rfl,rfl,(xY (H.item (i:=10) rfl)),rfl,trivial⟩ rfl) ?_
   rintro hc H
   refine RN cy<| zB fun he c8=>?_
   have c9:=H
   have H:=H.rebase
   have hf:=H
   refine xU H [0,1,2,3,4,5,6,7] (kz [0,0,0,1,0,1,0,3]) mixed ?_
   refine XM (gV z)<| XP (fun _ _=>zN rfl)<| XP (fun _ _=>aAq rfl)<| XR wW H 7 0 rfl rfl<| XP (fun _ _=>aFo rfl)<| XR bF H 11 0 rfl rfl<| XM (i6 ao) ?_
   obtain ⟨bo,da,j⟩:=zD j
   refine MxM.XL_exU oS rfl rfl (fun u o=>aIi (K:=Ky.str) (G:=(fun v=>Value.int .i64 v)) (m:=cp) (k:=Q.Name) (v:=ao) (H.sees o) 5 rfl aPe u9 rfl rfl rfl da) ?_
   rintro u hg o H
   refine ⟨H.only,?_⟩
   refine MxM.xK fun db hS=>?_
   have H:=H.sees hS
   have H:=c9.rejoin H
   refine (zF (c8 _ _ ?_))
   have H:Hd O w db S [f1 Rp.str v1 h.Phases,f1 gX y h.Moves,f1 fB q h.Rules,f1 eF U p1,.blk M [v1,y,q] 26,.mp l (gZ Ky.str (fun v=>Value.int .i64 v) bo),.mp n (gZ Ky.str (fun v=>Value.int .i64 v) ([]:List (Str×Int))),.blk z [.map (some l),a9,v1,.map (some n)] 215,.own (Rp.int .i64) a9 3 cq,f1 eU aw Q.Series.Samples,.blk c7 [sb Q.Name,i6 Q.Series.Den,aw,i6 Q.Long] 37]:=H.pick [0,1,2,3,4,5,6,7,8,10,11]
   have dc:=H
   have H:=H.rebase
   have hh:=H
   refine xU H [0,1,2,3,4,5,6,7,8,9,10,11,12] (kz [0,0,0,0,1,0,0,1,2,3,0,0,3]) mixed ?_
   refine XM (gV z)<| XM (gV z)<| XP (fun _ _=>zN rfl)<| XP (fun _ _=>aDk rfl)<| XR rO H 7 1 rfl rfl<| XP (fun _ _=>aPu rfl)<| XP (fun _ _=>fa35_0 rfl)<| XR fM H 10 1 rfl rfl ?_
   obtain ⟨hi,dd,j⟩:=zD j
   subst dd
   refine MxM.XL_exN oS rfl rfl rfl (fun u o=>pY (aX (r:=(Rp.int .i64)) (xl:=[Q.Series.Den]) (cs:=[i6 Q.Series.Den]) u38 el3 (by decide) (by decide) rfl (xH (vs:=[i6 Q.Series.Den]) (by decide) rfl rfl ⟨rfl,trivial⟩ rfl) (H.sees o) ⟨[i6 Q.Series.Den],[],rfl,rfl,rfl⟩) (aHx (cs:=[i6 Q.Series.Den]) u38 el3 (by decide) (by decide) (xH (vs:=[i6 Q.Series.Den]) (by decide) rfl rfl ⟨rfl,trivial⟩ rfl))) ?_
   rintro u hj hk o H
   obtain ⟨de,df,j⟩:=zC j
   refine MxM.XL_ex oS rfl rfl rfl (fun u o=>aJ (H.sees o) (i:=8) rfl u38 el3 rfl rfl (Sr.of_own ((H.sees o).item (i:=11) rfl)) df) ?_
   rintro u bp hl o H
   refine ⟨H.only,?_⟩
   refine XP (fun _ _=>zN rfl)<| XP (fun _ _=>aDk rfl)<| MxM.XL_exU oS rfl rfl (fun u o=>xE (H.sees o) 7 rfl aKw rfl (v:=bp) rfl (bC ((H.sees o).item (i:=8) rfl)) rfl) ?_
   rintro u hn o H
   refine ⟨H.only,?_⟩
   refine MxM.xK fun ho hS=>?_
   have H:=H.sees hS
   have H:=dc.rejoin H
   refine yH (zF (cx _ _ ?_))
   refine zA ?_
   obtain ⟨bq,dg,j⟩:=zD j
   refine zG (xM (a:=ao) (b:=1) rfl rfl dg)<| zH (i6 bq) ?_
   exact (yA (zF (meet ⟨(cr,bq,bo,de,bp),(zJ rfl zK),⟨H.pick [0,1,2,3,4,5,6,7,8],j⟩,Nat.lt_succ_self _⟩)))
  have j:=zQ ba j
  obtain rfl:=gI j
  exact (xI (yI (yI (yV (zF (meet ⟨a9,zK,H.pick [0,1,2,3,4,5,6,7,8]⟩))))))
 rintro p ρ a1 H
 have j:=ci
 obtain ⟨A,B⟩:=a0
 refine zB fun hp dh=>?_
 have di:=H
 have H:=H.rebase
 have dj:=H
 have br:Hd (O++bks (rest [4,5,6,7,8] [f1 Rp.str v1 h.Phases,f1 gX y h.Moves,f1 fB q h.Rules,f1 eF U p1,.blk M [v1,y,q] 26,.mp l (gZ Ky.str (fun v=>Value.int .i64 v) A),.mp n (gZ Ky.str (fun v=>Value.int .i64 v) ([]:List (Str×Int))),.blk z [.map (some l),p,v1,.map (some n)] 215,.own (Rp.int .i64) p 3 B])) a1 a1 (bks (Go.Lf.pick ([4,5,6,7,8]++ [0,1,2,3]) [f1 Rp.str v1 h.Phases,f1 gX y h.Moves,f1 fB q h.Rules,f1 eF U p1,.blk M [v1,y,q] 26,.mp l (gZ Ky.str (fun v=>Value.int .i64 v) A),.mp n (gZ Ky.str (fun v=>Value.int .i64 v) ([]:List (Str×Int))),.blk z [.map (some l),p,v1,.map (some n)] 215,.own (Rp.int .i64) p 3 B])) [.blk M [v1,y,q] 26,.mp l (gZ Ky.str (fun v=>Value.int .i64 v) A),.mp n (gZ Ky.str (fun v=>Value.int .i64 v) ([]:List (Str×Int))),.blk z [.map (some l),p,v1,.map (some n)] 215,.own (Rp.int .i64) p 3 B,f1 Rp.str v1 h.Phases,f1 gX y h.Moves,f1 fB q h.Rules,f1 eF U p1]:=H.enter [4,5,6,7,8] [0,1,2,3]
 refine uH H br [0,1,3,4,5,6,7] 2 8 [9,10,11] [] [.pure,.read,.new,.pure,.pure,.pure,.read,.pure,.new,.pure,.new,.pure] ⟨trivial,trivial,trivial,trivial,trivial,trivial,trivial,trivial,trivial,trivial,trivial,trivial,trivial⟩ mixed (by kernel_rfl) (by kernel_rfl) (by kernel_rfl) (by kernel_rfl) (by kernel_rfl) (by decide) ?_
 have H:=br
 refine XP (fun _ _=>jY rfl)<| XR jS H 0 0 rfl rfl<| XM U ?_
 obtain ⟨J,dk,j⟩:=zD j
 obtain ⟨hq,hr,dl⟩:=SlF.len ((H.item (i:=8) rfl))
 refine XP (fun _ _=>yJ (xO u27 dl) (congrArg (Value.int .i64) dk))<| XP (fun _ _=>jY rfl)<| XR jS H 0 0 rfl rfl ?_
 obtain ⟨hs,dm,j⟩:=zD j
 obtain ⟨ht,hu,dn⟩:=SlF.len ((H.item (i:=5) rfl))
 refine XP (fun _ _=>yJ (xO u22 dn) (congrArg (Value.int .i64) dm))<| MxM.xK fun hv hS=>?_
 have H:=H.sees hS
 obtain ⟨E,bt,j⟩:=zC j
 obtain ⟨a2,a3,j⟩:=zC j
 refine MxM.XL_join (du:=48) (dv:=54) (fun g1 g2 wl=> ∃(s:Value) (t:Value),s=g1∧t=g2∧Hd (O++bks (rest [4,5,6,7,8] [f1 Rp.str v1 h.Phases,f1 gX y h.Moves,f1 fB q h.Rules,f1 eF U p1,.blk M [v1,y,q] 26,.mp l (gZ Ky.str (fun v=>Value.int .i64 v) A),.mp n (gZ Ky.str (fun v=>Value.int .i64 v) ([]:List (Str×Int))),.blk z [.map (some l),p,v1,.map (some n)] 215,.own (Rp.int .i64) p 3 B])) a1 wl (bks (Go.Lf.pick ([4,5,6,7,8]++ [0,1,2,3]) [f1 Rp.str v1 h.Phases,f1 gX y h.Moves,f1 fB q h.Rules,f1 eF U p1,.blk M [v1,y,q] 26,.mp l (gZ Ky.str (fun v=>Value.int .i64 v) A),.mp n (gZ Ky.str (fun v=>Value.int .i64 v) ([]:List (Str×Int))),.blk z [.map (some l),p,v1,.map (some n)] 215,.own (Rp.int .i64) p 3 B])) [.blk M [v1,y,q] 26,.mp l (gZ Ky.str (fun v=>Value.int .i64 v) A),.mp n (gZ Ky.str (fun v=>Value.int .i64 v) ([]:List (Str×Int))),.blk z [.map (some l),p,v1,.map (some n)] 215,.own (Rp.int .i64) p 3 B,f1 Rp.str v1 h.Phases,f1 gX y h.Moves,f1 fB q h.Rules,f1 eF U p1,.own Rp.str s 9 E,.own Rp.bool t 4 a2]) ?_ ?_ ?_
 ·skip
  refine MxM.XL_newC oS rfl rfl rfl (fun u o=>zS en100 rfl) (fun u o=>Fcmw h.Phases v1 _ bt _ _ _ ((H.sees o).enter [] [5])) ?_
  rintro u _ hw o ⟨s,rfl,bu⟩
  have H:=(H.sees o).back1 [5] rfl bu
  refine ⟨_,rfl,(bu.only:Only [] _ _).below,?_⟩
  refine MxM.XL_exN oS rfl rfl rfl (fun u o=>pY (aKh (r:=Rp.bool) (zv:= .bool false) uC el4 rfl (fun _ _=>rfl) rfl rfl a3 (H.sees o)) (aSg uC el4 rfl rfl rfl a3)) ?_
  rintro u t hx o H
  refine MxM.xK fun hy hS=>?_
  have H:=H.sees hS
  exact ⟨_,_,rfl,H.only,s,t,rfl,rfl,H⟩
 ·skip
  refine MxM.XL_exN oS rfl rfl rfl (fun u o=>pY (aKh (r:=Rp.bool) (zv:= .bool false) uC el4 rfl (fun _ _=>rfl) rfl rfl a3 (H.sees o)) (aSg uC el4 rfl rfl rfl a3)) ?_
  rintro u dp hz o H
  refine MxM.XL_newC oS rfl rfl rfl (fun u o=>zS en100 rfl) (fun u o=>Fcmw h.Phases v1 _ bt _ _ _ ((H.sees o).enter [] [5])) ?_
  rintro u _ h0 o ⟨dq,rfl,bv⟩
  have H:=(H.sees o).back1 [5] rfl bv
  refine ⟨_,rfl,(bv.only:Only [] _ _).below,?_⟩
  refine MxM.xK fun h1 hS=>?_
  have H:=H.sees hS
  have H:=H.pick [0,1,2,3,4,5,6,7,8,10,9]
  exact ⟨_,_,MxM.upd_comm _ (by decide) _ _,H.only,dq,dp,rfl,rfl,H⟩
 rintro M' _ _ h2 ⟨s,t,rfl,rfl,H⟩
 obtain ⟨dr,ds,dt⟩: ∃a c,s= .slice a _ c:=Sr.len (Sr.of_own (H.item (i:=9) rfl))
 obtain ⟨dw,dx,dy⟩: ∃a c,t= .slice a _ c:=Sr.len (Sr.of_own (H.item (i:=10) rfl))
 refine XP (fun _ _=>xJ (cs:=[s,i6 J,.slice none 0 0,.slice none 0 0,t]) (by rw [dt,dy]; exact aMh dr _ ds _ dw _ dx))<| MxM.XL_exN oS rfl rfl rfl (fun u o=>pY (xR (cs:=[s,i6 J,.slice none 0 0,.slice none 0 0,t]) rfl (H.sees o)) (aCa (cs:=[s,i6 J,.slice none 0 0,.slice none 0 0,t]) rfl)) ?_
 rintro u _ h3 o ⟨F,rfl,H⟩
 refine XP (fun _ _=>xN (v:=gV F) rfl)<| MxM.xK fun dz hS=>?_
 have H:=H.sees hS
 have H:=dj.back [4,5,6,7,8] [0,1,2,3] rfl H
 have H:Hd _ _ _ _ [f1 Rp.str v1 h.Phases,f1 gX y h.Moves,f1 fB q h.Rules,f1 eF U p1,.blk M [v1,y,q] 26,.mp l (gZ Ky.str (fun v=>Value.int .i64 v) A),.mp n (gZ Ky.str (fun v=>Value.int .i64 v) ([]:List (Str×Int))),.blk z [.map (some l),p,v1,.map (some n)] 215,.own (Rp.int .i64) p 3 B,f1 Rp.str v1 h.Phases,f1 gX y h.Moves,f1 fB q h.Rules,f1 eF U p1,.own Rp.str s 9 E,.own Rp.bool t 4 a2,.blk F [s,i6 J,.slice none 0 0,.slice none 0 0,t] 146]:=H
 have H:Hd O a1 dz (bks [f1 Rp.str v1 h.Phases,f1 gX y h.Moves,f1 fB q h.Rules,f1 eF U p1,.blk M [v1,y,q] 26,.mp l (gZ Ky.str (fun v=>Value.int .i64 v) A),.mp n (gZ Ky.str (fun v=>Value.int .i64 v) ([]:List (Str×Int))),.blk z [.map (some l),p,v1,.map (some n)] 215,.own (Rp.int .i64) p 3 B]) [.blk M [v1,y,q] 26,.mp l (gZ Ky.str (fun v=>Value.int .i64 v) A),.mp n (gZ Ky.str (fun v=>Value.int .i64 v) ([]:List (Str×Int))),.blk z [.map (some l),p,v1,.map (some n)] 215,.own (Rp.int .i64) p 3 B,f1 Rp.str v1 h.Phases,f1 gX y h.Moves,f1 fB q h.Rules,f1 eF U p1,.own Rp.str s 9 E,.own Rp.bool t 4 a2,.blk F [s,i6 J,.slice none 0 0,.slice none 0 0,t] 146]:=H.pick [4,5,6,7,8,9,10,11,12,13,14,15]
 refine ⟨H.only,?_⟩
 refine MxM.xK fun d0 hS=>?_
 have H:=H.sees hS
 have H:=di.rejoin H
 refine (zF (dh _ _ ?_))
 have H:Hd O w d0 S [.blk M [v1,y,q] 26,.mp l (gZ Ky.str (fun v=>Value.int .i64 v) A),.mp n (gZ Ky.str (fun v=>Value.int .i64 v) ([]:List (Str×Int))),.blk z [.map (some l),p,v1,.map (some n)] 215,.own (Rp.int .i64) p 3 B,f1 Rp.str v1 h.Phases,f1 gX y h.Moves,f1 fB q h.Rules,.own Rp.str s 9 E,.own Rp.bool t 4 a2,.blk F [s,i6 J,.slice none 0 0,.slice none 0 0,t] 146]:=H.pick [0,1,2,3,4,5,6,7,9,10,11]
 obtain ⟨I,j,d1⟩:=zC j
 refine yK [57,58,59,60,61,62,63,64,65] (fun (g:Unit)=>[]) (fun g wl=>Hd O w wl S [.blk M [v1,y,q] 26,f1 Rp.str v1 h.Phases,f1 gX y h.Moves,f1 fB q h.Rules,.mp l (gZ Ky.str (fun v=>Value.int .i64 v) A),.mp n (gZ Ky.str (fun v=>Value.int .i64 v) ([]:List (Str×Int))),.blk z [.map (some l),p,v1,.map (some n)] 215,.own (Rp.int .i64) p 3 B,.own Rp.str s 9 E,.own Rp.bool t 4 I,.blk F [s,i6 J,.slice none 0 0,.slice none 0 0,t] 146]) ?_ ?_
 ·skip
  refine zB fun h4 d2=>zA<| zG (jY rfl)<| Ld jS H 0 0 rfl rfl ?_
  obtain ⟨d3,d4,j⟩:=zD j
  obtain ⟨h5,h6,d5⟩:=SlF.len ((H.item (i:=5) rfl))
  refine zG (yJ (xO u22 d5) (congrArg (Value.int .i64) d4)) ?_
  obtain ⟨d6,d7,j⟩:=zD j
  refine zG (zL (aI (a:=d3) (b:=0) rfl rfl) d7)<| RN d2<| zY (b:=d6) rfl (fun bc=>?_) (fun bc=>?_)
  ·have j:=zO bc j
   refine zA ?_
   refine zH (gV F)<| zG (zN rfl)<| zG (aBk rfl)<| Ld aBt H 10 4 rfl rfl ?_
   obtain ⟨d8,bd,j⟩:=zC j
   obtain ⟨h7,h8,d9,bw,ea,eb⟩:=jD (H.item (i:=9) rfl) bd
   obtain rfl:d9= [.bool d8]:=ea
   refine zG (xC uC sz4 bw rfl (yC bd).1 (yC bd).2.1 rfl rfl) ?_
   obtain ⟨h9,ec,j⟩:=zC j
   refine yP rfl (nO (vs:=[.bool true]) (off:=0) H 9 rfl bw eb rfl sz4 rfl rfl rfl (kS ⟨rfl,trivial⟩) ec (by decide) rfl rfl) ?_
   rintro ia H
   obtain rfl:=gI j
   exact (yA (zF (meet ⟨(),zK,H.pick [0,5,6,7,1,2,3,4,8,9,10]⟩)))
  have j:=zQ bc j
  obtain rfl:=gI j
  exact (zX (zF (meet ⟨(),zK,H.pick [0,5,6,7,1,2,3,4,8,9,10]⟩)))
 rintro _ ρ ib H
 have j:=d1
 obtain ⟨R,j,ed⟩:=zC j
 refine yK [10,66,67,68,69,70,71,72,73,74,75,76,77,78,79,80,81,82,83,84,85,86,87,88,89,90,91,92,93,94,95,96,97] (fun (g:Value×(List Nat))=>[]) (fun g wl=>Hd O w wl S [.blk M [v1,y,q] 26,f1 Rp.str v1 h.Phases,f1 gX y h.Moves,f1 fB q h.Rules,.mp l (gZ Ky.str (fun v=>Value.int .i64 v) A),.mp n (gZ Ky.str (fun v=>Value.int .i64 v) ([]:List (Str×Int))),.blk z [.map (some l),p,v1,.map (some n)] 215,.own (Rp.int .i64) p 3 B,.own Rp.str s 9 E,.own Rp.bool t 4 I,.blk F [s,i6 J,g.1,.slice none 0 0,t] 146,.tr fP [g.1] g.2 R]) ?_ ?_
 ·skip
  refine zB fun id ee=>zA<| zG (aBu rfl)<| Ld aHz H 0 1 rfl rfl ?_
  obtain ⟨ef,eg,j⟩:=zD j
  obtain ⟨ie,ig,eh⟩:=SlF.len ((H.item (i:=2) rfl))
  refine zG (yJ (xO u23 eh) (congrArg (Value.int .i64) eg))<| zH (i6 0)<| RN ee<| yD ?_
  have H:=sG H dA 172
  unfold Fdn at j
  obtain ⟨ei,bx,ej,j⟩:=yT j
  refine xB [10,69,70,71,72,73,74,75,76,77,78,79,80,81,82,83,84,85,86,87,88,89,90,91,92,93,94,95,96,97] (fun (g:Nat×Int×(List fK)×Value×(List Nat))=>[(69,i6 g.2.1)]) (fun g wl=>Hd O w wl S [.blk M [v1,y,q] 26,f1 Rp.str v1 h.Phases,f1 gX y h.Moves,f1 fB q h.Rules,.mp l (gZ Ky.str (fun v=>Value.int .i64 v) A),.mp n (gZ Ky.str (fun v=>Value.int .i64 v) ([]:List (Str×Int))),.blk z [.map (some l),p,v1,.map (some n)] 215,.own (Rp.int .i64) p 3 B,.own Rp.str s 9 E,.own Rp.bool t 4 I,.blk F [s,i6 J,g.2.2.2.1,.slice none 0 0,t] 146,.tr fP [g.2.2.2.1] g.2.2.2.2 g.2.2.1]∧fV ei g.1 (g.2.1,g.2.2.1)=some R) (fun g=>g.1) (bx,0,[],.slice none 0 0,[]) (zJ rfl zK) ⟨H.pick [0,1,2,3,4,5,6,7,8,9,10,11],j⟩ ?_
  clear H j
  rintro ⟨bx,T,ai,V,ah⟩ ρ ih ⟨H,j⟩
  obtain ⟨ek,rfl,j⟩:=yZ j
  have j:=yY ej j
  refine zB fun ii el=>zA ?_
  obtain ⟨em,en,j⟩:=zD j
  refine zG (zL (xP (a:=T) (b:=ef) rfl rfl) en)<| RN el<| zB fun ij eo=>zY (b:=em) rfl (fun be=>?_) (fun be=>?_)
  ·have j:=zO be j
   refine zX (zF (eo _ _ ?_))
   refine zB fun ik ep=>?_
   refine yD ?_
   refine zB fun il er=>zA ?_
   obtain ⟨d,bf,j⟩:=zC j
   obtain ⟨Y,Z,im,io,es,et,eu,ew,ex⟩:=dI (H.item (i:=2) rfl) bf
   obtain ⟨C,rfl,ey⟩:=uU et
   have H:=H.fzs [.at Y (Z+T.toNat * 9) _,.sl fA C d.When.Kids] ⟨⟨eu,ew,ex⟩,ey,trivial⟩
   refine zG (xC u23 vO es rfl (yC bf).1 (yC bf).2.1 rfl rfl)<| zG (yJ (yF (cs:=[sb d.From,sb d.To,i6 d.When.Kind,sb d.When.Name,sb d.When.Other,i6 d.When.Op,i6 d.When.N,i6 d.When.Frames,C]) aJs rfl vO rfl (H.item (i:=12) rfl).2.2) rfl)<| yQ rfl rfl (xA aJi H) ?_
   rintro _ ip ⟨ap,rfl,H⟩
   refine yP rfl (yL (vs:=[sb d.From,sb d.To,i6 d.When.Kind,sb d.When.Name,sb d.When.Other,i6 d.When.Op,i6 d.When.N,i6 d.When.Frames,C]) H 14 rfl vO rfl rfl rfl ⟨rfl,rfl,rfl,rfl,rfl,rfl,rfl,rfl,(xY (H.item (i:=13) rfl)),trivial⟩ rfl) ?_
   rintro a4 H
   refine RN er ?_
   have ez:=H
   have H:=H.rebase
   have e0:=H
   have az:Hd (O++bks (rest [4,5,6,7,8,9,11] [.blk M [v1,y,q] 26,f1 Rp.str v1 h.Phases,f1 gX y h.Moves,f1 fB q h.Rules,.mp l (gZ Ky.str (fun v=>Value.int .i64 v) A),.mp n (gZ Ky.str (fun v=>Value.int .i64 v) ([]:List (Str×Int))),.blk z [.map (some l),p,v1,.map (some n)] 215,.own (Rp.int .i64) p 3 B,.own Rp.str s 9 E,.own Rp.bool t 4 I,.blk F [s,i6 J,V,.slice none 0 0,t] 146,.tr fP [V] ah ai,.fz (.at Y (Z+T.toNat * 9) [sb d.From,sb d.To,i6 d.When.Kind,sb d.When.Name,sb d.When.Other,i6 d.When.Op,i6 d.When.N,i6 d.When.Frames,C]),f1 fA C d.When.Kids,.blk ap [sb d.From,sb d.To,i6 d.When.Kind,sb d.When.Name,sb d.When.Other,i6 d.When.Op,i6 d.When.N,i6 d.When.Frames,C] 122])) a4 a4 (bks (Go.Lf.pick ([4,5,6,7,8,9,11]++ [1,2,3,12,13]) [.blk M [v1,y,q] 26,f1 Rp.str v1 h.Phases,f1 gX y h.Moves,f1 fB q h.Rules,.mp l (gZ Ky.str (fun v=>Value.int .i64 v) A),.mp n (gZ Ky.str (fun v=>Value.int .i64 v) ([]:List (Str×Int))),.blk z [.map (some l),p,v1,.map (some n)] 215,.own (Rp.int .i64) p 3 B,.own Rp.str s 9 E,.own Rp.bool t 4 I,.blk F [s,i6 J,V,.slice none 0 0,t] 146,.tr fP [V] ah ai,.fz (.at Y (Z+T.toNat * 9) [sb d.From,sb d.To,i6 d.When.Kind,sb d.When.Name,sb d.When.Other,i6 d.When.Op,i6 d.When.N,i6 d.When.Frames,C]),f1 fA C d.When.Kids,.blk ap [sb d.From,sb d.To,i6 d.When.Kind,sb d.When.Name,sb d.When.Other,i6 d.When.Op,i6 d.When.N,i6 d.When.Frames,C] 122])) [.mp l (gZ Ky.str (fun v=>Value.int .i64 v) A),.mp n (gZ Ky.str (fun v=>Value.int .i64 v) ([]:List (Str×Int))),.blk z [.map (some l),p,v1,.map (some n)] 215,.own (Rp.int .i64) p 3 B,.own Rp.str s 9 E,.own Rp.bool t 4 I,.tr fP [V] ah ai,f1 Rp.str v1 h.Phases,f1 gX y h.Moves,f1 fB q h.Rules,.fz (.at Y (Z+T.toNat * 9) [sb d.From,sb d.To,i6 d.When.Kind,sb d.When.Name,sb d.When.Other,i6 d.When.Op,i6 d.When.N,i6 d.When.Frames,C]),f1 fA C d.When.Kids]:=H.enter [4,5,6,7,8,9,11] [1,2,3,12,13]
   have bg:=H.firmB az (i:=14) rfl (List.mem_append_right _ (List.mem_cons_of_mem _ (List.mem_cons_of_mem _ List.mem_cons_self)))
   have bz:=H.firmB az (i:=0) rfl (List.mem_append_right _ List.mem_cons_self)
   have e1:=H.firmB az (i:=10) rfl (List.mem_append_right _ (List.mem_cons_of_mem _ List.mem_cons_self))
   refine uH H az [1,2,3,4,5,6,7,8,9,10,11,12,13,14,15,16,17,18,19,20] 0 21 [22,23] [24] [.pure,.pure,.pure,.pure,.pure,.pure,.pure,.pure,.pure,.read,.pure,.pure,.pure,.pure,.read,.pure,.pure,.pure,.eff,.pure,.eff,.eff,.pure,.pure,.eff] ⟨trivial,trivial,trivial,trivial,trivial,trivial,trivial,trivial,trivial,trivial,trivial,trivial,trivial,trivial,trivial,trivial,trivial,trivial,trivial,trivial,trivial,trivial,trivial,trivial,trivial,trivial⟩ mixed (by kernel_rfl) (by kernel_rfl) (by kernel_rfl) (by kernel_rfl) (by kernel_rfl) (by decide) ?_
   have H:=az
   refine XM (gV F)<| XP (fun _ _=>zN rfl)<| XP (fun _ _=>aDj rfl)<| XP (fun u o=>xG aOy rfl (Cells.get (Blk.cells (e1 u o)) (i:=2) rfl))<| XP (fun _ _=>jY rfl)<| XP (fun u o=>xG jS rfl (Cells.get (Blk.cells (bz u o)) (i:=0) rfl))<| XP (fun _ _=>aSm rfl)<| XP (fun u o=>xG bF rfl (Cells.get (Blk.cells (bg u o)) (i:=0) rfl)) ?_
   have e2:=H
   obtain ⟨aq,e3,j⟩:=zC j
   refine MxM.XL_call oS rfl rfl rfl (v:=i6 aq) (fun u o=>zS aMx rfl) (fun u o=>bU (Faew h.Phases d.From v1 _ e3 _ _ _ ((H.sees o).enter [] [7]))) ?_
   have H:=e2
   refine XP (fun _ _=>jY rfl)<| XP (fun u o=>xG jS rfl (Cells.get (Blk.cells (bz u o)) (i:=0) rfl))<| XP (fun _ _=>aRa rfl)<| XP (fun u o=>xG bF rfl (Cells.get (Blk.cells (bg u o)) (i:=1) rfl)) ?_
   have e4:=H
   obtain ⟨ar,e5,j⟩:=zC j
   refine MxM.XL_call oS rfl rfl rfl (v:=i6 ar) (fun u o=>zS aMx rfl) (fun u o=>bU (Faew h.Phases d.To v1 _ e5 _ _ _ ((H.sees o).enter [] [7]))) ?_
   have H:=e4
   refine XM (gV z)<| XP (fun _ _=>aDb rfl)<| XP (fun u o=>yJ (yF (cs:=[i6 d.When.Kind,sb d.When.Name,sb d.When.Other,i6 d.When.Op,i6 d.When.N,i6 d.When.Frames,C]) eG rfl fZ rfl (Cells.drop (Blk.cells (bg u o)) 2 7)) rfl) ?_
   obtain ⟨a5,e6,j⟩:=zC j
   refine MxM.XL_effC oS rfl rfl rfl (fun u o=>zS en137 rfl) (fun u o=>Fge (fU.mk A B h.Phases ([]:List (Str×Int))) d.When z l p v1 n C _ e6 _ _ _ ((H.sees o).enter [0,3,1,2] [7,11])) ?_
   rintro u _ e7 o ⟨a6,e8,rfl,e9⟩
   have H:Hd _ _ e7 _ [.own Rp.str s 9 E,.own Rp.bool t 4 I,.tr fP [V] ah ai,f1 Rp.str v1 h.Phases,f1 gX y h.Moves,f1 fB q h.Rules,.fz (.at Y (Z+T.toNat * 9) [sb d.From,sb d.To,i6 d.When.Kind,sb d.When.Name,sb d.When.Other,i6 d.When.Op,i6 d.When.N,i6 d.When.Frames,C]),f1 fA C d.When.Kids,.tr fG [a6] e8 a5,.mp l (gZ Ky.str (fun v=>Value.int .i64 v) A),.own (Rp.int .i64) p 3 B,.mp n (gZ Ky.str (fun v=>Value.int .i64 v) ([]:List (Str×Int))),.blk z [.map (some l),p,v1,.map (some n)] 215]:=(H.sees o).back [0,3,1,2] [7,11] rfl e9
   refine ⟨_,rfl,H.only,?_⟩
   obtain ⟨fa,fb,fc⟩:=aCf (H.item (i:=8) rfl)
   refine XP (fun _ _=>xJ (cs:=[i6 aq,i6 ar,a6]) (by rw [fc]; exact aMg _ _ fa fb)) ?_
   obtain ⟨fd,H⟩:=jM (x:=fK.mk aq ar a5) H 8 rfl
   have H:Hd _ _ _ _ [.own Rp.str s 9 E,.own Rp.bool t 4 I,.tr fP [V] ah ai,f1 Rp.str v1 h.Phases,f1 gX y h.Moves,f1 fB q h.Rules,.fz (.at Y (Z+T.toNat * 9) [sb d.From,sb d.To,i6 d.When.Kind,sb d.When.Name,sb d.When.Other,i6 d.When.Op,i6 d.When.N,i6 d.When.Frames,C]),f1 fA C d.When.Kids,.mp l (gZ Ky.str (fun v=>Value.int .i64 v) A),.own (Rp.int .i64) p 3 B,.mp n (gZ Ky.str (fun v=>Value.int .i64 v) ([]:List (Str×Int))),.blk z [.map (some l),p,v1,.map (some n)] 215,.tr dA [i6 aq,i6 ar,a6] fd (fK.mk aq ar a5)]:=H
   refine MxM.XL_ex oS rfl rfl rfl (fun u o=>aIm (H.sees o) 12 rfl aQi el172 (by decide) (by decide) (xH (vs:=[.agg [i6 aq,i6 ar,a6].toArray]) (by decide) rfl rfl ⟨rfl,trivial⟩ rfl)) ?_
   rintro u fe iq o ⟨ff,H⟩
   refine ⟨H.only,?_⟩
   have H:Hd _ _ _ _ [.own Rp.str s 9 E,.own Rp.bool t 4 I,.tr fP [V] ah ai,f1 Rp.str v1 h.Phases,f1 gX y h.Moves,f1 fB q h.Rules,.fz (.at Y (Z+T.toNat * 9) [sb d.From,sb d.To,i6 d.When.Kind,sb d.When.Name,sb d.When.Other,i6 d.When.Op,i6 d.When.N,i6 d.When.Frames,C]),f1 fA C d.When.Kids,.mp l (gZ Ky.str (fun v=>Value.int .i64 v) A),.own (Rp.int .i64) p 3 B,.mp n (gZ Ky.str (fun v=>Value.int .i64 v) ([]:List (Str×Int))),.blk z [.map (some l),p,v1,.map (some n)] 215,.tr fP [fe] ff [fK.mk aq ar a5]]:=H
   refine MxM.xK fun ir hS=>?_
   have H:=H.sees hS
   obtain ⟨au,b0,j⟩:=zC j
   refine MxM.XL_join (du:=73) (dv:=94) (fun g1 g2 wl=> ∃(af:Value) (aj:List Nat),gV F=g1∧af=g2∧Hd (O++bks (rest [4,5,6,7,8,9,11] [.blk M [v1,y,q] 26,f1 Rp.str v1 h.Phases,f1 gX y h.Moves,f1 fB q h.Rules,.mp l (gZ Ky.str (fun v=>Value.int .i64 v) A),.mp n (gZ Ky.str (fun v=>Value.int .i64 v) ([]:List (Str×Int))),.blk z [.map (some l),p,v1,.map (some n)] 215,.own (Rp.int .i64) p 3 B,.own Rp.str s 9 E,.own Rp.bool t 4 I,.blk F [s,i6 J,V,.slice none 0 0,t] 146,.tr fP [V] ah ai,.fz (.at Y (Z+T.toNat * 9) [sb d.From,sb d.To,i6 d.When.Kind,sb d.When.Name,sb d.When.Other,i6 d.When.Op,i6 d.When.N,i6 d.When.Frames,C]),f1 fA C d.When.Kids,.blk ap [sb d.From,sb d.To,i6 d.When.Kind,sb d.When.Name,sb d.When.Other,i6 d.When.Op,i6 d.When.N,i6 d.When.Frames,C] 122])) a4 wl (bks (Go.Lf.pick ([4,5,6,7,8,9,11]++ [1,2,3,12,13]) [.blk M [v1,y,q] 26,f1 Rp.str v1 h.Phases,f1 gX y h.Moves,f1 fB q h.Rules,.mp l (gZ Ky.str (fun v=>Value.int .i64 v) A),.mp n (gZ Ky.str (fun v=>Value.int .i64 v) ([]:List (Str×Int))),.blk z [.map (some l),p,v1,.map (some n)] 215,.own (Rp.int .i64) p 3 B,.own Rp.str s 9 E,.own Rp.bool t 4 I,.blk F [s,i6 J,V,.slice none 0 0,t] 146,.tr fP [V] ah ai,.fz (.at Y (Z+T.toNat * 9) [sb d.From,sb d.To,i6 d.When.Kind,sb d.When.Name,sb d.When.Other,i6 d.When.Op,i6 d.When.N,i6 d.When.Frames,C]),f1 fA C d.When.Kids,.blk ap [sb d.From,sb d.To,i6 d.When.Kind,sb d.When.Name,sb d.When.Other,i6 d.When.Op,i6 d.When.N,i6 d.When.Frames,C] 122])) [.own Rp.str s 9 E,.own Rp.bool t 4 I,f1 Rp.str v1 h.Phases,f1 gX y h.Moves,f1 fB q h.Rules,.fz (.at Y (Z+T.toNat * 9) [sb d.From,sb d.To,i6 d.When.Kind,sb d.When.Name,sb d.When.Other,i6 d.When.Op,i6 d.When.N,i6 d.When.Frames,C]),f1 fA C d.When.Kids,.mp l (gZ Ky.str (fun v=>Value.int .i64 v) A),.own (Rp.int .i64) p 3 B,.mp n (gZ Ky.str (fun v=>Value.int .i64 v) ([]:List (Str×Int))),.blk z [.map (some l),p,v1,.map (some n)] 215,.tr fP [af] aj au]) ?_ ?_ ?_
   ·skip
    refine XM (gV F)<| MxM.XL_ex oS rfl rfl rfl (fun u o=>aBi (H.sees o) 2 12 rfl rfl (by decide) aQi el172 rfl rfl b0) ?_
    rintro u af it o ⟨aj,H⟩
    refine ⟨H.only,?_⟩
    have H:Hd _ _ _ _ [.own Rp.str s 9 E,.own Rp.bool t 4 I,f1 Rp.str v1 h.Phases,f1 gX y h.Moves,f1 fB q h.Rules,.fz (.at Y (Z+T.toNat * 9) [sb d.From,sb d.To,i6 d.When.Kind,sb d.When.Name,sb d.When.Other,i6 d.When.Op,i6 d.When.N,i6 d.When.Frames,C]),f1 fA C d.When.Kids,.mp l (gZ Ky.str (fun v=>Value.int .i64 v) A),.own (Rp.int .i64) p 3 B,.mp n (gZ Ky.str (fun v=>Value.int .i64 v) ([]:List (Str×Int))),.blk z [.map (some l),p,v1,.map (some n)] 215,.tr fP [af] aj au]:=H
    refine MxM.xK fun iu hS=>?_
    have H:=H.sees hS
    exact ⟨_,_,rfl,H.only,af,aj,rfl,rfl,H⟩
   ·skip
    refine MxM.XL_ex oS rfl rfl rfl (fun u o=>aBi (H.sees o) 2 12 rfl rfl (by decide) aQi el172 rfl rfl b0) ?_
    rintro u b1 iv o ⟨b2,H⟩
    refine ⟨H.only,?_⟩
    have H:Hd _ _ _ _ [.own Rp.str s 9 E,.own Rp.bool t 4 I,f1 Rp.str v1 h.Phases,f1 gX y h.Moves,f1 fB q h.Rules,.fz (.at Y (Z+T.toNat * 9) [sb d.From,sb d.To,i6 d.When.Kind,sb d.When.Name,sb d.When.Other,i6 d.When.Op,i6 d.When.N,i6 d.When.Frames,C]),f1 fA C d.When.Kids,.mp l (gZ Ky.str (fun v=>Value.int .i64 v) A),.own (Rp.int .i64) p 3 B,.mp n (gZ Ky.str (fun v=>Value.int .i64 v) ([]:List (Str×Int))),.blk z [.map (some l),p,v1,.map (some n)] 215,.tr fP [b1] b2 au]:=H
    refine XM (gV F)<| MxM.xK fun iw hS=>?_
    have H:=H.sees hS
    exact ⟨_,_,MxM.upd_comm _ (by decide) _ _,H.only,b1,b2,rfl,rfl,H⟩
   rintro M' _ _ iy ⟨af,aj,rfl,rfl,H⟩
   refine XP (fun _ _=>zN rfl)<| XP (fun _ _=>aDj rfl)<| MxM.xK fun fg hS=>?_
   have H:=H.sees hS
   have H:=e0.back [4,5,6,7,8,9,11] [1,2,3,12,13] rfl H
   have H:Hd _ _ _ _ [.blk M [v1,y,q] 26,f1 Rp.str v1 h.Phases,f1 gX y h.Moves,f1 fB q h.Rules,.blk F [s,i6 J,V,.slice none 0 0,t] 146,.fz (.at Y (Z+T.toNat * 9) [sb d.From,sb d.To,i6 d.When.Kind,sb d.When.Name,sb d.When.Other,i6 d.When.Op,i6 d.When.N,i6 d.When.Frames,C]),f1 fA C d.When.Kids,.blk ap [sb d.From,sb d.To,i6 d.When.Kind,sb d.When.Name,sb d.When.Other,i6 d.When.Op,i6 d.When.N,i6 d.When.Frames,C] 122,.own Rp.str s 9 E,.own Rp.bool t 4 I,f1 Rp.str v1 h.Phases,f1 gX y h.Moves,f1 fB q h.Rules,.fz (.at Y (Z+T.toNat * 9) [sb d.From,sb d.To,i6 d.When.Kind,sb d.When.Name,sb d.When.Other,i6 d.When.Op,i6 d.When.N,i6 d.When.Frames,C]),f1 fA C d.When.Kids,.mp l (gZ Ky.str (fun v=>Value.int .i64 v) A),.own (Rp.int .i64) p 3 B,.mp n (gZ Ky.str (fun v=>Value.int .i64 v) ([]:List (Str×Int))),.blk z [.map (some l),p,v1,.map (some n)] 215,.tr fP [af] aj au]:=H
   have H:Hd O a4 fg (bks [.blk M [v1,y,q] 26,f1 Rp.str v1 h.Phases,f1 gX y h.Moves,f1 fB q h.Rules,.mp l (gZ Ky.str (fun v=>Value.int .i64 v) A),.mp n (gZ Ky.str (fun v=>Value.int .i64 v) ([]:List (Str×Int))),.blk z [.map (some l),p,v1,.map (some n)] 215,.own (Rp.int .i64) p 3 B,.own Rp.str s 9 E,.own Rp.bool t 4 I,.blk F [s,i6 J,V,.slice none 0 0,t] 146,.tr fP [V] ah ai,.fz (.at Y (Z+T.toNat * 9) [sb d.From,sb d.To,i6 d.When.Kind,sb d.When.Name,sb d.When.Other,i6 d.When.Op,i6 d.When.N,i6 d.When.Frames,C]),f1 fA C d.When.Kids,.blk ap [sb d.From,sb d.To,i6 d.When.Kind,sb d.When.Name,sb d.When.Other,i6 d.When.Op,i6 d.When.N,i6 d.When.Frames,C] 122]) [.blk ap [sb d.From,sb d.To,i6 d.When.Kind,sb d.When.Name,sb d.When.Other,i6 d.When.Op,i6 d.When.N,i6 d.When.Frames,C] 122,.blk M [v1,y,q] 26,.blk F [s,i6 J,V,.slice none 0 0,t] 146,.own Rp.str s 9 E,.own Rp.bool t 4 I,f1 Rp.str v1 h.Phases,f1 gX y h.Moves,f1 fB q h.Rules,.fz (.at Y (Z+T.toNat * 9) [sb d.From,sb d.To,i6 d.When.Kind,sb d.When.Name,sb d.When.Other,i6 d.When.Op,i6 d.When.N,i6 d.When.Frames,C]),f1 fA C d.When.Kids,.mp l (gZ Ky.str (fun v=>Value.int .i64 v) A),.own (Rp.int .i64) p 3 B,.mp n (gZ Ky.str (fun v=>Value.int .i64 v) ([]:List (Str×Int))),.blk z [.map (some l),p,v1,.map (some n)] 215,.tr fP [af] aj au]:=H.pick [7,0,4,8,9,10,11,12,13,14,15,16,17,18,19]
   refine ⟨H.only,?_⟩
   refine MxM.XL_exU oS rfl rfl (fun u o=>xE (H.sees o) 2 rfl sz142 rfl (v:=af) rfl (nI ((H.sees o).item (i:=14) rfl)) rfl) ?_
   rintro u iz o H
   refine ⟨H.only,?_⟩
   refine MxM.xK fun fh hS=>?_
   have H:=H.sees hS
   have H:=ez.rejoin H
   refine yH (zF (ep _ _ ?_))
   have H:Hd O w fh S [.blk M [v1,y,q] 26,.blk F [s,i6 J,af,.slice none 0 0,t] 146,.own Rp.str s 9 E,.own Rp.bool t 4 I,f1 Rp.str v1 h.Phases,f1 gX y h.Moves,f1 fB q h.Rules,.mp l (gZ Ky.str (fun v=>Value.int .i64 v) A),.own (Rp.int .i64) p 3 B,.mp n (gZ Ky.str (fun v=>Value.int .i64 v) ([]:List (Str×Int))),.blk z [.map (some l),p,v1,.map (some n)] 215,.tr fP [af] aj au]:=H.pick [1,2,3,4,5,6,7,10,11,12,13,14]
   refine zA ?_
   obtain ⟨b3,fi,j⟩:=zD j
   refine zG (xM (a:=T) (b:=1) rfl rfl fi)<| zH (i6 b3) ?_
   exact (yA (zF (meet ⟨(ek,b3,au,af,aj),(zJ rfl zK),⟨H.pick [0,4,5,6,7,9,10,8,2,3,1,11],j⟩,Nat.lt_succ_self _⟩)))
  have j:=zQ be j
  obtain rfl:=gI j
  exact (xI (yI (yI (yV (zF (meet ⟨(V,ah),zK,H.pick [0,1,2,3,4,5,6,7,8,9,10,11]⟩))))))
 rintro ⟨L,X⟩ ρ i1 H
 have j:=ed
 obtain ⟨b4,j,fj⟩:=zC j
 refine yK [11,12,98,99,100,101,102,103,104,105,106,107,108,109,110,111,112,113,114,115,116,117,118,119,120,121,122,123,124,125,126] (fun (g:Value×(List Nat))=>[]) (fun g wl=>Hd O w wl S [.own Rp.str s 9 E,.own Rp.bool t 4 I,.blk F [s,i6 J,L,g.1,t] 146,.tr fP [L] X R,.tr fO [g.1] g.2 b4]) ?_ ?_
 ·skip
  refine zB fun i2 fk=>zA<| zG (kY rfl)<| Ld rJ H 0 2 rfl rfl ?_
  obtain ⟨fm,fn,j⟩:=zD j
  obtain ⟨i3,i4,fo⟩:=SlF.len ((H.item (i:=3) rfl))
  refine zG (yJ (xO u24 fo) (congrArg (Value.int .i64) fn))<| zH (i6 0)<| RN fk<| yD ?_
  have H:=sG H fG 170
  unfold Fdw at j
  obtain ⟨fp,b5,fq,j⟩:=yT j
  refine xB [11,12,101,102,103,104,105,106,107,108,109,110,111,112,113,114,115,116,117,118,119,120,121,122,123,124,125,126] (fun (g:Nat×Int×(List (Str×Int))×(List Nd)×Value×(List Nat))=>[(101,i6 g.2.1)]) (fun g wl=>Hd O w wl S [f1 Rp.str v1 h.Phases,f1 fB q h.Rules,.mp l (gZ Ky.str (fun v=>Value.int .i64 v) A),.mp n (gZ Ky.str (fun v=>Value.int .i64 v) g.2.2.1),.blk z [.map (some l),p,v1,.map (some n)] 215,.own (Rp.int .i64) p 3 B,.own Rp.str s 9 E,.own Rp.bool t 4 I,.blk F [s,i6 J,L,g.2.2.2.2.1,t] 146,.tr fP [L] X R,.tr fO [g.2.2.2.2.1] g.2.2.2.2.2 g.2.2.2.1]∧fV fp g.1 (g.2.1,g.2.2.1,g.2.2.2.1)=some b4) (fun g=>g.1) (b5,0,([]:List (Str×Int)),[],.slice none 0 0,[]) (zJ rfl zK) ⟨H.pick [1,3,4,5,6,7,8,9,10,11,12],j⟩ ?_
  clear H j
  rintro ⟨b5,P,aa,am,ab,ak⟩ ρ i5 ⟨H,j⟩
  obtain ⟨fr,rfl,j⟩:=yZ j
  have j:=yY fq j
  refine zB fun i7 fs=>zA ?_
  obtain ⟨ft,fu,j⟩:=zD j
  refine zG (zL (xP (a:=P) (b:=fm) rfl rfl) fu)<| RN fs<| zB fun i9 fv=>zY (b:=ft) rfl (fun bh=>?_) (fun bh=>?_)
  ·have j:=zO bh j
   refine zX (zF (fv _ _ ?_))
   refine zB fun ja fw=>?_
   refine yD ?_
   refine zB fun jb fx=>zA<| zH (i6 P) ?_
   obtain ⟨f,bi,j⟩:=zC j
   obtain ⟨ad,ae,jc,jd,fy,f0,f4,f5,f6⟩:=dI (H.item (i:=1) rfl) bi
   obtain ⟨D,rfl,f7⟩:=jE f0
   have H:=H.fzs [.at ad (ae+P.toNat * 8) _,.sl fA D f.When.Kids] ⟨⟨f4,f5,f6⟩,f7,trivial⟩
   refine zG (xC u24 rZ fy rfl (yC bi).1 (yC bi).2.1 rfl rfl)<| zG (yJ (yF (cs:=[sb f.Name,i6 f.When.Kind,sb f.When.Name,sb f.When.Other,i6 f.When.Op,i6 f.When.N,i6 f.When.Frames,D]) aHe rfl rZ rfl (H.item (i:=11) rfl).2.2) rfl)<| yQ rfl rfl (xA aFb H) ?_
   rintro _ je ⟨an,rfl,H⟩
   refine zI (i6 P)<| yP rfl (yL (vs:=[sb f.Name,i6 f.When.Kind,sb f.When.Name,sb f.When.Other,i6 f.When.Op,i6 f.When.N,i6 f.When.Frames,D]) H 13 rfl rZ rfl rfl rfl ⟨rfl,rfl,rfl,rfl,rfl,rfl,rfl,(xY (H.item (i:=12) rfl)),trivial⟩ rfl) ?_
   rintro a7 H
   refine RN fx<| zB fun jf f8=>?_
   have f9:=H
   have H:=H.rebase
   have ga:=H
   have a8:Hd (O++bks (rest [2,3,4,5,6,7,9,10] [f1 Rp.str v1 h.Phases,f1 fB q h.Rules,.mp l (gZ Ky.str (fun v=>Value.int .i64 v) A),.mp n (gZ Ky.str (fun v=>Value.int .i64 v) aa),.blk z [.map (some l),p,v1,.map (some n)] 215,.own (Rp.int .i64) p 3 B,.own Rp.str s 9 E,.own Rp.bool t 4 I,.blk F [s,i6 J,L,ab,t] 146,.tr fP [L] X R,.tr fO [ab] ak am,.fz (.at ad (ae+P.toNat * 8) [sb f.Name,i6 f.When.Kind,sb f.When.Name,sb f.When.Other,i6 f.When.Op,i6 f.When.N,i6 f.When.Frames,D]),f1 fA D f.When.Kids,.blk an [sb f.Name,i6 f.When.Kind,sb f.When.Name,sb f.When.Other,i6 f.When.Op,i6 f.When.N,i6 f.When.Frames,D] 95])) a7 a7 (bks (Go.Lf.pick ([2,3,4,5,6,7,9,10]++ [0,1,11,12]) [f1 Rp.str v1 h.Phases,f1 fB q h.Rules,.mp l (gZ Ky.str (fun v=>Value.int .i64 v) A),.mp n (gZ Ky.str (fun v=>Value.int .i64 v) aa),.blk z [.map (some l),p,v1,.map (some n)] 215,.own (Rp.int .i64) p 3 B,.own Rp.str s 9 E,.own Rp.bool t 4 I,.blk F [s,i6 J,L,ab,t] 146,.tr fP [L] X R,.tr fO [ab] ak am,.fz (.at ad (ae+P.toNat * 8) [sb f.Name,i6 f.When.Kind,sb f.When.Name,sb f.When.Other,i6 f.When.Op,i6 f.When.N,i6 f.When.Frames,D]),f1 fA D f.When.Kids,.blk an [sb f.Name,i6 f.When.Kind,sb f.When.Name,sb f.When.Other,i6 f.When.Op,i6 f.When.N,i6 f.When.Frames,D] 95])) [.mp l (gZ Ky.str (fun v=>Value.int .i64 v) A),.mp n (gZ Ky.str (fun v=>Value.int .i64 v) aa),.blk z [.map (some l),p,v1,.map (some n)] 215,.own (Rp.int .i64) p 3 B,.own Rp.str s 9 E,.own Rp.bool t 4 I,.tr fP [L] X R,.tr fO [ab] ak am,f1 Rp.str v1 h.Phases,f1 fB q h.Rules,.fz (.at ad (ae+P.toNat * 8) [sb f.Name,i6 f.When.Kind,sb f.When.Name,sb f.When.Other,i6 f.When.Op,i6 f.When.N,i6 f.When.Frames,D]),f1 fA D f.When.Kids]:=H.enter [2,3,4,5,6,7,9,10] [0,1,11,12]
   have gb:=H.firmB a8 (i:=13) rfl (List.mem_append_right _ (List.mem_cons_of_mem _ List.mem_cons_self))
   have gc:=H.firmB a8 (i:=8) rfl (List.mem_append_right _ List.mem_cons_self)
   refine uH H a8 [1,2,3,4,5,6,7,8,9] 0 10 [11,12] [13] [.pure,.pure,.pure,.pure,.pure,.pure,.pure,.pure,.eff,.eff,.eff,.pure,.pure,.eff] ⟨trivial,trivial,trivial,trivial,trivial,trivial,trivial,trivial,trivial,trivial,trivial,trivial,trivial,trivial,trivial⟩ mixed (by kernel_rfl) (by kernel_rfl) (by kernel_rfl) (by kernel_rfl) (by kernel_rfl) (by decide) ?_
   have H:=a8
   refine XM (gV F)<| XP (fun _ _=>zN rfl)<| XP (fun _ _=>aJf rfl)<| XP (fun u o=>xG aPx rfl (Cells.get (Blk.cells (gc u o)) (i:=3) rfl))<| XM (gV z)<| XP (fun _ _=>vY rfl)<| XP (fun u o=>yJ (yF (cs:=[i6 f.When.Kind,sb f.When.Name,sb f.When.Other,i6 f.When.Op,i6 f.When.N,i6 f.When.Frames,D]) eG rfl fZ rfl (Cells.drop (Blk.cells (gb u o)) 1 7)) rfl) ?_
   obtain ⟨b6,gd,j⟩:=zC j
   refine MxM.XL_effC oS rfl rfl rfl (fun u o=>zS en137 rfl) (fun u o=>Fge (fU.mk A B h.Phases aa) f.When z l p v1 n D _ gd _ _ _ ((H.sees o).enter [0,3,1,2] [8,11])) ?_
   rintro u _ ge o ⟨gf,gg,rfl,gh⟩
   have H:Hd _ _ ge _ [.own Rp.str s 9 E,.own Rp.bool t 4 I,.tr fP [L] X R,.tr fO [ab] ak am,f1 Rp.str v1 h.Phases,f1 fB q h.Rules,.fz (.at ad (ae+P.toNat * 8) [sb f.Name,i6 f.When.Kind,sb f.When.Name,sb f.When.Other,i6 f.When.Op,i6 f.When.N,i6 f.When.Frames,D]),f1 fA D f.When.Kids,.tr fG [gf] gg b6,.mp l (gZ Ky.str (fun v=>Value.int .i64 v) A),.own (Rp.int .i64) p 3 B,.mp n (gZ Ky.str (fun v=>Value.int .i64 v) aa),.blk z [.map (some l),p,v1,.map (some n)] 215]:=(H.sees o).back [0,3,1,2] [8,11] rfl gh
   refine ⟨_,rfl,H.only,?_⟩
   refine MxM.XL_ex oS rfl rfl rfl (fun u o=>aIm (H.sees o) 8 rfl vJ aMu (by decide) (by decide) (aGd rfl rfl ⟨(nI (H.item (i:=8) rfl)),trivial⟩)) ?_
   rintro u gj jg o ⟨gl,H⟩
   refine ⟨H.only,?_⟩
   have H:Hd _ _ _ _ [.own Rp.str s 9 E,.own Rp.bool t 4 I,.tr fP [L] X R,.tr fO [ab] ak am,f1 Rp.str v1 h.Phases,f1 fB q h.Rules,.fz (.at ad (ae+P.toNat * 8) [sb f.Name,i6 f.When.Kind,sb f.When.Name,sb f.When.Other,i6 f.When.Op,i6 f.When.N,i6 f.When.Frames,D]),f1 fA D f.When.Kids,.mp l (gZ Ky.str (fun v=>Value.int .i64 v) A),.own (Rp.int .i64) p 3 B,.mp n (gZ Ky.str (fun v=>Value.int .i64 v) aa),.blk z [.map (some l),p,v1,.map (some n)] 215,.tr fO [gj] gl [b6]]:=H
   refine MxM.xK fun jh hS=>?_
   have H:=H.sees hS
   obtain ⟨av,b7,j⟩:=zC j
   refine MxM.XL_join (du:=106) (dv:=116) (fun g1 g2 wl=> ∃(ag:Value) (al:List Nat),gV F=g1∧ag=g2∧Hd (O++bks (rest [2,3,4,5,6,7,9,10] [f1 Rp.str v1 h.Phases,f1 fB q h.Rules,.mp l (gZ Ky.str (fun v=>Value.int .i64 v) A),.mp n (gZ Ky.str (fun v=>Value.int .i64 v) aa),.blk z [.map (some l),p,v1,.map (some n)] 215,.own (Rp.int .i64) p 3 B,.own Rp.str s 9 E,.own Rp.bool t 4 I,.blk F [s,i6 J,L,ab,t] 146,.tr fP [L] X R,.tr fO [ab] ak am,.fz (.at ad (ae+P.toNat * 8) [sb f.Name,i6 f.When.Kind,sb f.When.Name,sb f.When.Other,i6 f.When.Op,i6 f.When.N,i6 f.When.Frames,D]),f1 fA D f.When.Kids,.blk an [sb f.Name,i6 f.When.Kind,sb f.When.Name,sb f.When.Other,i6 f.When.Op,i6 f.When.N,i6 f.When.Frames,D] 95])) a7 wl (bks (Go.Lf.pick ([2,3,4,5,6,7,9,10]++ [0,1,11,12]) [f1 Rp.str v1 h.Phases,f1 fB q h.Rules,.mp l (gZ Ky.str (fun v=>Value.int .i64 v) A),.mp n (gZ Ky.str (fun v=>Value.int .i64 v) aa),.blk z [.map (some l),p,v1,.map (some n)] 215,.own (Rp.int .i64) p 3 B,.own Rp.str s 9 E,.own Rp.bool t 4 I,.blk F [s,i6 J,L,ab,t] 146,.tr fP [L] X R,.tr fO [ab] ak am,.fz (.at ad (ae+P.toNat * 8) [sb f.Name,i6 f.When.Kind,sb f.When.Name,sb f.When.Other,i6 f.When.Op,i6 f.When.N,i6 f.When.Frames,D]),f1 fA D f.When.Kids,.blk an [sb f.Name,i6 f.When.Kind,sb f.When.Name,sb f.When.Other,i6 f.When.Op,i6 f.When.N,i6 f.When.Frames,D] 95])) [.own Rp.str s 9 E,.own Rp.bool t 4 I,.tr fP [L] X R,f1 Rp.str v1 h.Phases,f1 fB q h.Rules,.fz (.at ad (ae+P.toNat * 8) [sb f.Name,i6 f.When.Kind,sb f.When.Name,sb f.When.Other,i6 f.When.Op,i6 f.When.N,i6 f.When.Frames,D]),f1 fA D f.When.Kids,.mp l (gZ Ky.str (fun v=>Value.int .i64 v) A),.own (Rp.int .i64) p 3 B,.mp n (gZ Ky.str (fun v=>Value.int .i64 v) aa),.blk z [.map (some l),p,v1,.map (some n)] 215,.tr fO [ag] al av]) ?_ ?_ ?_
   ·skip
    refine XM (gV F)<| MxM.XL_ex oS rfl rfl rfl (fun u o=>aBi (H.sees o) 3 12 rfl rfl (by decide) vJ aMu rfl rfl b7) ?_
    rintro u ag ji o ⟨al,H⟩
    refine ⟨H.only,?_⟩
    have H:Hd _ _ _ _ [.own Rp.str s 9 E,.own Rp.bool t 4 I,.tr fP [L] X R,f1 Rp.str v1 h.Phases,f1 fB q h.Rules,.fz (.at ad (ae+P.toNat * 8) [sb f.Name,i6 f.When.Kind,sb f.When.Name,sb f.When.Other,i6 f.When.Op,i6 f.When.N,i6 f.When.Frames,D]),f1 fA D f.When.Kids,.mp l (gZ Ky.str (fun v=>Value.int .i64 v) A),.own (Rp.int .i64) p 3 B,.mp n (gZ Ky.str (fun v=>Value.int .i64 v) aa),.blk z [.map (some l),p,v1,.map (some n)] 215,.tr fO [ag] al av]:=H
    refine MxM.xK fun jj hS=>?_
    have H:=H.sees hS
    exact ⟨_,_,rfl,H.only,ag,al,rfl,rfl,H⟩
   ·skip
    refine MxM.XL_ex oS rfl rfl rfl (fun u o=>aBi (H.sees o) 3 12 rfl rfl (by decide) vJ aMu rfl rfl b7) ?_
    rintro u b8 jk o ⟨b9,H⟩
    refine ⟨H.only,?_⟩
    have H:Hd _ _ _ _ [.own Rp.str s 9 E,.own Rp.bool t 4 I,.tr fP [L] X R,f1 Rp.str v1 h.Phases,f1 fB q h.Rules,.fz (.at ad (ae+P.toNat * 8) [sb f.Name,i6 f.When.Kind,sb f.When.Name,sb f.When.Other,i6 f.When.Op,i6 f.When.N,i6 f.When.Frames,D]),f1 fA D f.When.Kids,.mp l (gZ Ky.str (fun v=>Value.int .i64 v) A),.own (Rp.int .i64) p 3 B,.mp n (gZ Ky.str (fun v=>Value.int .i64 v) aa),.blk z [.map (some l),p,v1,.map (some n)] 215,.tr fO [b8] b9 av]:=H
    refine XM (gV F)<| MxM.xK fun jl hS=>?_
    have H:=H.sees hS
    exact ⟨_,_,MxM.upd_comm _ (by decide) _ _,H.only,b8,b9,rfl,rfl,H⟩
   rintro M' _ _ jm ⟨ag,al,rfl,rfl,H⟩
   refine XP (fun _ _=>zN rfl)<| XP (fun _ _=>aJf rfl)<| MxM.xK fun gm hS=>?_
   have H:=H.sees hS
   have H:=ga.back [2,3,4,5,6,7,9,10] [0,1,11,12] rfl H
   have H:Hd _ _ _ _ [f1 Rp.str v1 h.Phases,f1 fB q h.Rules,.blk F [s,i6 J,L,ab,t] 146,.fz (.at ad (ae+P.toNat * 8) [sb f.Name,i6 f.When.Kind,sb f.When.Name,sb f.When.Other,i6 f.When.Op,i6 f.When.N,i6 f.When.Frames,D]),f1 fA D f.When.Kids,.blk an [sb f.Name,i6 f.When.Kind,sb f.When.Name,sb f.When.Other,i6 f.When.Op,i6 f.When.N,i6 f.When.Frames,D] 95,.own Rp.str s 9 E,.own Rp.bool t 4 I,.tr fP [L] X R,f1 Rp.str v1 h.Phases,f1 fB q h.Rules,.fz (.at ad (ae+P.toNat * 8) [sb f.Name,i6 f.When.Kind,sb f.When.Name,sb f.When.Other,i6 f.When.Op,i6 f.When.N,i6 f.When.Frames,D]),f1 fA D f.When.Kids,.mp l (gZ Ky.str (fun v=>Value.int .i64 v) A),.own (Rp.int .i64) p 3 B,.mp n (gZ Ky.str (fun v=>Value.int .i64 v) aa),.blk z [.map (some l),p,v1,.map (some n)] 215,.tr fO [ag] al av]:=H
   have H:Hd O a7 gm (bks [f1 Rp.str v1 h.Phases,f1 fB q h.Rules,.mp l (gZ Ky.str (fun v=>Value.int .i64 v) A),.mp n (gZ Ky.str (fun v=>Value.int .i64 v) aa),.blk z [.map (some l),p,v1,.map (some n)] 215,.own (Rp.int .i64) p 3 B,.own Rp.str s 9 E,.own Rp.bool t 4 I,.blk F [s,i6 J,L,ab,t] 146,.tr fP [L] X R,.tr fO [ab] ak am,.fz (.at ad (ae+P.toNat * 8) [sb f.Name,i6 f.When.Kind,sb f.When.Name,sb f.When.Other,i6 f.When.Op,i6 f.When.N,i6 f.When.Frames,D]),f1 fA D f.When.Kids,.blk an [sb f.Name,i6 f.When.Kind,sb f.When.Name,sb f.When.Other,i6 f.When.Op,i6 f.When.N,i6 f.When.Frames,D] 95]) [.blk an [sb f.Name,i6 f.When.Kind,sb f.When.Name,sb f.When.Other,i6 f.When.Op,i6 f.When.N,i6 f.When.Frames,D] 95,.blk F [s,i6 J,L,ab,t] 146,.own Rp.str s 9 E,.own Rp.bool t 4 I,.tr fP [L] X R,f1 Rp.str v1 h.Phases,f1 fB q h.Rules,.fz (.at ad (ae+P.toNat * 8) [sb f.Name,i6 f.When.Kind,sb f.When.Name,sb f.When.Other,i6 f.When.Op,i6 f.When.N,i6 f.When.Frames,D]),f1 fA D f.When.Kids,.mp l (gZ Ky.str (fun v=>Value.int .i64 v) A),.own (Rp.int .i64) p 3 B,.mp n (gZ Ky.str (fun v=>Value.int .i64 v) aa),.blk z [.map (some l),p,v1,.map (some n)] 215,.tr fO [ag] al av]:=H.pick [5,2,6,7,8,9,10,11,12,13,14,15,16,17]
   refine ⟨H.only,?_⟩
   refine MxM.XL_exU oS rfl rfl (fun u o=>xE (H.sees o) 1 rfl sz143 rfl (v:=ag) rfl (nI ((H.sees o).item (i:=13) rfl)) rfl) ?_
   rintro u jn o H
   refine ⟨H.only,?_⟩
   refine MxM.xK fun gn hS=>?_
   have H:=H.sees hS
   have H:=f9.rejoin H
   refine (zF (f8 _ _ ?_))
   have H:Hd O w gn S [.blk an [sb f.Name,i6 f.When.Kind,sb f.When.Name,sb f.When.Other,i6 f.When.Op,i6 f.When.N,i6 f.When.Frames,D] 95,.blk F [s,i6 J,L,ag,t] 146,.own Rp.str s 9 E,.own Rp.bool t 4 I,.tr fP [L] X R,f1 Rp.str v1 h.Phases,f1 fB q h.Rules,f1 fA D f.When.Kids,.mp l (gZ Ky.str (fun v=>Value.int .i64 v) A),.own (Rp.int .i64) p 3 B,.mp n (gZ Ky.str (fun v=>Value.int .i64 v) aa),.blk z [.map (some l),p,v1,.map (some n)] 215,.tr fO [ag] al av]:=H.pick [0,1,2,3,4,5,6,8,9,10,11,12,13]
   have go:=H
   have H:=H.rebase
   have jo:=H
   refine xU H [0,1,2,3,4,5,6,7] (kz [0,0,0,1,0,1,0,3]) mixed ?_
   refine XM (gV z)<| XP (fun _ _=>zN rfl)<| XP (fun _ _=>aRh rfl)<| XR wW H 11 3 rfl rfl<| XP (fun _ _=>aBn rfl)<| XR bF H 0 0 rfl rfl<| XM (i6 P) ?_
   obtain ⟨gp,gq,j⟩:=zD j
   refine MxM.XL_exU oS rfl rfl (fun u o=>aIi (K:=Ky.str) (G:=(fun v=>Value.int .i64 v)) (m:=aa) (k:=f.Name) (v:=P) (H.sees o) 10 rfl aPe u9 rfl rfl rfl gq) ?_
   rintro u jp o H
   refine ⟨H.only,?_⟩
   refine MxM.xK fun jq hS=>?_
   have H:=H.sees hS
   have H:=go.rejoin H
   refine yH (zF (fw _ _ ?_))
   refine zA ?_
   obtain ⟨ca,gr,j⟩:=zD j
   refine zG (xM (a:=P) (b:=1) rfl rfl gr)<| zH (i6 ca) ?_
   exact (yA (zF (meet ⟨(fr,ca,gp,av,ag,al),(zJ rfl zK),⟨H.pick [5,6,8,10,11,9,2,3,1,4,12],j⟩,Nat.lt_succ_self _⟩)))
  have j:=zQ bh j
  obtain rfl:=gI j
  exact (xI (yI (yI (yV (zF (meet ⟨(ab,ak),zK,H.pick [6,7,8,9,10]⟩))))))
 rintro ⟨gs,gt⟩ ρ jr H
 have j:=fj
 refine zB fun js gu=>zA<| zH (gV F)<| zI (gV F)<| RN gu ?_
 have H:=H.freeze (i:=0) rfl
 have H:=H.freeze (i:=1) rfl
 obtain rfl:=gI j
 refine (zW (fC (v1:=gV F) rfl rfl ?_))
 exact ⟨F,s,L,X,gs,gt,t,rfl,H.pick [0,3,4,1,2]⟩
theorem Fauw (c:eX)(d:Int)(r:Int)(f:Fau c d=some r)(O S:List Nat)(w:World)(H:Hd O w w S []):
  Cl 262 [.agg [i6 c.At,i6 c.N,i6 c.Mark].toArray,i6 d] w fun e i=>e= .returned (i6 r)∧Hd O w i S []:=by
 unfold Fau at f
 refine CW 9 Tryz.func262 ?_
 refine zB fun m j=>zA<| yQ rfl rfl (xR (cs:=[i6 c.At,i6 c.N,i6 c.Mark]) rfl H) ?_
 rintro _ n ⟨o,rfl,H⟩
 refine zI (i6 0)<| RN j<| zB fun p k=>zA<| zG (aFy rfl)<| Ld fM H 0 0 rfl rfl<| zH (i6 d) ?_
 obtain ⟨h,l,f⟩:=zD f
 refine zG (jO (a:=c.At) (b:=d) rfl rfl l)<| zI (i6 h)<| RN k ?_
 obtain rfl:=gI f
 refine (zW (fC (v1:=i6 h) rfl rfl ?_))
 exact ⟨rfl,H.pick []⟩
theorem Fduw (n:List eX)(h:Int)(v1:Value)(r:Int×Bool)(c:Fdu n h=some r)(O S:List Nat)(w:World)(H:Hd O w w S [f1 eU v1 n]):
  Cl 261 [v1,i6 h,.func (.func 262) #[] #[]] w fun e E=>e= .returned (.tuple #[i6 r.1,.bool r.2])∧Hd O w E S []:=by
 unfold Fdu at c
 refine CW 49 Tryz.func261 ?_
 refine zB fun K3 F=>zA<| zI (i6 0)<| zI (.bool false)<| RN F<| zB fun K4 G=>zA<| zH v1 ?_
 obtain ⟨k,I,c⟩:=zD c
 obtain ⟨a7,c8,J⟩:=SlF.len ((H.item (i:=0) rfl))
 refine zG (yJ (xO u33 J) (congrArg (Value.int .i64) I))<| zI (i6 k)<| RN G<| zB fun bc K=>zA<| zH (i6 k)<| zI (i6 0)<| zI (i6 k)<| RN K ?_
 obtain ⟨d,c,L⟩:=zC c
 refine yK [9,10,11,15,16,17,18,19,20,21,22,23,24,25,26,27,28,29,30,31,32,33,34] (fun (g:Unit)=>[(9,i6 d)]) (fun g wl=>Hd O w wl S [f1 eU v1 n]) ?_ ?_
 ·skip
  refine yD ?_
  unfold Fdi at c
  obtain ⟨M,z,P,c⟩:=yT c
  refine xB [9,10,11,15,16,17,18,19,20,21,22,23,24,25,26,27,28,29,30,31,32,33,34] (fun (g:Nat×Int×Int)=>[(9,i6 g.2.1),(10,i6 g.2.2)]) (fun g wl=>Hd O w wl S [f1 eU v1 n]∧fV M g.1 (g.2.1,g.2.2)=some d) (fun g=>g.1) (z,0,k) (zJ rfl (zJ rfl zK)) ⟨H.pick [0],c⟩ ?_
  clear H c
  rintro ⟨z,l,m⟩ ρ bd ⟨H,c⟩
  obtain ⟨A,rfl,c⟩:=yZ c
  have c:=yY P c
  refine zB fun be Q=>?_
  refine zB fun bf R=>zA<| zH (i6 l)<| zH (i6 m) ?_
  obtain ⟨T,U,c⟩:=zD c
  refine zG (zL (xP (a:=l) (b:=m) rfl rfl) U)<| RN R<| zY (b:=T) rfl (fun s=>?_) (fun s=>?_)
  ·have c:=zO s c
   refine zX (zF (Q _ _ ?_))
   refine yD ?_
   refine zB fun bg V=>zA<| zH (i6 l)<| zH (i6 m) ?_
   obtain ⟨bh,X,c⟩:=zD c
   refine zG (xM (a:=l) (b:=m) rfl rfl X) ?_
   obtain ⟨Y,Z,c⟩:=zD c
   refine zG (qO u3 u199 rfl Z) ?_
   obtain ⟨bi,aa,c⟩:=zC c
   refine zG (rU (j:=Y) (q:=1) rfl rfl aa) ?_
   obtain ⟨f,ab,c⟩:=zD c
   refine zG (qO u199 u3 rfl ab)<| zI (i6 f)<| RN V<| zB fun bj ac=>zA<| zH (.func (.func 262) #[] #[])<| zH v1<| zH (i6 f) ?_
   obtain ⟨o,t,c⟩:=zC c
   obtain ⟨ad,ae,bk,bl,af,ag,ah,ai,aj⟩:=dI (H.item (i:=0) rfl) t
   obtain rfl:=aK ag
   have H:=H.fz (.at ad (ae+f.toNat * 3) _) ⟨ah,ai,aj⟩
   refine zG (xC u33 rC af rfl (yC t).1 (yC t).2.1 rfl rfl)<| zG (yJ (yF (cs:=[i6 o.At,i6 o.N,i6 o.Mark]) aCn rfl rC rfl (H.item (i:=1) rfl).2.2) rfl)<| zH (i6 h) ?_
   have ak:=H
   obtain ⟨al,am,c⟩:=zC c
   refine zZ rfl rfl (bQ en262 rfl rfl) (Fauw o h _ am _ _ _ (H.enter [] [])) ?_
   rintro _ bm ⟨rfl,an⟩
   have H:=ak.step (an.only:Only [] _ _)
   refine ⟨_,rfl,?_⟩
   obtain ⟨ao,ap,c⟩:=zD c
   refine zG (zL (xP (a:=al) (b:=0) rfl rfl) ap)<| RN ac<| zY (b:=ao) rfl (fun u=>?_) (fun u=>?_)
   ·have c:=zO u c
    refine zA ?_
    refine zH (i6 f) ?_
    obtain ⟨B,aq,c⟩:=zD c
    refine zG (xM (a:=f) (b:=1) rfl rfl aq)<| zI (i6 B) ?_
    exact (yA (yH (zF (meet ⟨(A,B,m),(zJ rfl (zJ rfl zK)),⟨H.pick [0],c⟩,Nat.lt_succ_self _⟩))))
   have c:=zQ u c
   refine zA ?_
   refine zH (i6 f)<| zI (i6 f) ?_
   exact (yA (yH (zF (meet ⟨(A,l,f),(zJ rfl (zJ rfl zK)),⟨H.pick [0],c⟩,Nat.lt_succ_self _⟩))))
  have c:=zQ s c
  obtain rfl:=gI c
  exact (xI (yI (yI (yV (zF (meet ⟨(),(zJ rfl zK),H.pick [0]⟩))))))
 rintro _ ρ bn H
 have c:=L
 obtain ⟨C,c,ar⟩:=zC c
 refine yK [6,7,35,36,37,38,39,40,41,42,43,44,45,46,47,48] (fun (g:Unit)=>[(6,i6 d),(7,.bool C)]) (fun g wl=>Hd O w wl S []) ?_ ?_
 ·skip
  refine zA ?_
  refine zH (i6 d)<| zH (i6 d)<| zH (i6 k) ?_
  obtain ⟨au,av,c⟩:=zD c
  refine zG (zL (xP (a:=d) (b:=k) rfl rfl) av)<| yS (b:=au) rfl rfl rfl (fun x=>?_) (fun x=>?_)
  ·have c:=zO x c
   refine zH (.func (.func 262) #[] #[])<| zH v1<| zH (i6 d) ?_
   obtain ⟨p,y,c⟩:=zC c
   obtain ⟨aw,ax,bo,bp,ay,az,a0,a1,a2⟩:=dI (H.item (i:=0) rfl) y
   obtain rfl:=aK az
   have H:=H.fz (.at aw (ax+d.toNat * 3) _) ⟨a0,a1,a2⟩
   refine zG (xC u33 rC ay rfl (yC y).1 (yC y).2.1 rfl rfl)<| zG (yJ (yF (cs:=[i6 p.At,i6 p.N,i6 p.Mark]) aCn rfl rC rfl (H.item (i:=1) rfl).2.2) rfl)<| zH (i6 h) ?_
   have a3:=H
   obtain ⟨a4,a5,c⟩:=zC c
   refine zZ rfl rfl (bQ en262 rfl rfl) (Fauw p h _ a5 _ _ _ (H.enter [] [])) ?_
   rintro _ bq ⟨rfl,a6⟩
   have H:=a3.step (a6.only:Only [] _ _)
   refine ⟨_,rfl,?_⟩
   obtain ⟨D,e283,c⟩:=zD c
   refine zG (zL (yR (a:=a4) (b:=0) rfl rfl) e283)<| zG (yO (v:= .bool D) rfl rfl)<| zI (i6 d)<| zI (.bool D) ?_
   obtain rfl:=gI c
   exact (yA (zF (meet ⟨(),(zJ rfl (zJ rfl zK)),H.pick []⟩)))
  have c:=zQ x c
  refine yG ?_
  refine yG ?_
  refine yG ?_
  refine yG ?_
  refine yG ?_
  refine yG ?_
  refine yG ?_
  refine yG ?_
  refine zG (yM (v:= .bool false) rfl rfl)<| zI (i6 d)<| zI (.bool false) ?_
  obtain rfl:=gI c
  exact (yA (zF (meet ⟨(),(zJ rfl (zJ rfl zK)),H.pick []⟩)))
 rintro _ ρ br H
 have c:=ar
 obtain rfl:=gI c
 refine (zW (tH (v1:=i6 d) (v2:= .bool C) rfl rfl rfl ?_))
 exact ⟨rfl,H.pick []⟩
theorem Fcvw (f:Series)(i:Int)(v1:Value)(r:Int)(c:Fcv f i=some r)(O S:List Nat)(w:World)(H:Hd O w w S [f1 eU v1 f.Samples]):
  Cl 227 [.agg [i6 f.Den,v1].toArray,i6 i] w fun e l=>e= .returned (i6 r)∧Hd O w l S []:=by
 unfold Fcv at c
 refine CW 18 Tryz.func227 ?_
 refine zB fun z m=>zA<| yQ rfl rfl (xR (cs:=[i6 f.Den,v1]) rfl H) ?_
 rintro _ A ⟨B,rfl,H⟩
 refine zI (i6 0)<| RN m<| zB fun C n=>zA<| zG (wS rfl)<| Ld aEv H 1 1 rfl rfl<| zH (i6 i) ?_
 have o:=H
 obtain ⟨⟨d,h⟩,p,c⟩:=zC c
 refine zZ rfl rfl (zS en261 rfl) (Fduw f.Samples i v1 _ p _ _ _ (H.enter [] [0])) ?_
 rintro _ D ⟨rfl,q⟩
 have H:=o.step (q.only:Only [] _ _)
 refine ⟨_,rfl,?_⟩
 refine zH (.tuple #[i6 d,.bool h])<| zG (xQ (v:=i6 d) rfl rfl)<| zG (xQ (v:= .bool h) rfl rfl)<| zI (i6 d)<| zI (.bool h)<| RN n<| zB fun E s=>zB fun F t=>zA<| zH (.bool h)<| RN t<| zY (b:=h) rfl (fun j=>?_) (fun j=>?_)
 ·have c:=zO j c
  refine zB fun G u=>zA<| zH (i6 d)<| zI (i6 d)<| RN u ?_
  obtain rfl:=gI c
  refine (zW (zV (fC (v1:=i6 d) rfl rfl ?_)))
  exact ⟨rfl,H.pick []⟩
 have c:=zQ j c
 refine zX (zF (s _ _ ?_))
 refine zB fun I x=>zA<| zH (i6 d) ?_
 obtain ⟨k,y,c⟩:=zD c
 refine zG (jO (a:=d) (b:=1) rfl rfl y)<| zI (i6 k)<| RN x ?_
 obtain rfl:=gI c
 refine (zW (fC (v1:=i6 k) rfl rfl ?_))
 exact ⟨rfl,H.pick []⟩
theorem Fdjw (c:eX)(r:Bool)(d:Fdj c=some r)(O S:List Nat)(w:World)(H:Hd O w w S []):
  Cl 228 [.agg [i6 c.At,i6 c.N,i6 c.Mark].toArray] w fun e h=>e= .returned (.bool r)∧Hd O w h S []:=by
 unfold Fdj at d
 refine CW 6 Tryz.func228 ?_
 refine zB fun l i=>zA<| yQ rfl rfl (xR (cs:=[i6 c.At,i6 c.N,i6 c.Mark]) rfl H) ?_
 rintro _ m ⟨n,rfl,H⟩
 refine zI (.bool false)<| RN i<| zB fun o j=>zA<| zG (aPq rfl)<| Ld fM H 0 2 rfl rfl ?_
 obtain ⟨f,k,d⟩:=zD d
 refine zG (zL (kZ (a:=c.Mark) (b:=3) rfl rfl) k)<| zI (.bool f)<| RN j ?_
 obtain rfl:=gI d
 refine (zW (fC (v1:= .bool f) rfl rfl ?_))
 exact ⟨rfl,H.pick []⟩
theorem Fdmw (d:Series)(h:Int)(k:Int)(v1:Value)(r:eX×Bool)(c:Fdm d h k=some r)(O S:List Nat)(w:World)(H:Hd O w w S [f1 eU v1 d.Samples]):
  Cl 192 [.agg [i6 d.Den,v1].toArray,i6 h,i6 k] w fun e A=>e= .returned (.tuple #[.agg [i6 r.1.At,i6 r.1.N,i6 r.1.Mark].toArray,.bool r.2])∧Hd O w A S []:=by
 unfold Fdm at c
 refine CW 41 Tryz.func192 ?_
 refine zB fun K3 B=>zA<| yQ rfl rfl (xR (cs:=[i6 d.Den,v1]) rfl H) ?_
 rintro _ w6 ⟨u,rfl,H⟩
 refine yQ rfl rfl (xA aJg H) ?_
 rintro _ w9 ⟨x,rfl,H⟩
 refine zI (.bool false)<| RN B<| zB fun a3 C=>zA<| zG (yJ (yF (cs:=[i6 d.Den,v1]) aKx rfl sz35 rfl (Hbc H 1 rfl)) rfl)<| zH (i6 h) ?_
 have D:=H
 obtain ⟨f,E,c⟩:=zC c
 refine zZ rfl rfl (zS en227 rfl) (Fcvw d h v1 _ E _ _ _ (H.enter [] [0])) ?_
 rintro _ a4 ⟨rfl,F⟩
 have H:=D.step (F.only:Only [] _ _)
 refine ⟨_,rfl,?_⟩
 refine zI (i6 f)<| RN C<| zB fun a5 G=>?_
 obtain ⟨y,c,I⟩:=zC c
 refine yK [12,13,14,15,16,17,18,19,20,21,22,23,24,25,26,27,28,29,30,31,32,33,34] (fun (g:Unit)=>[(34,.bool y)]) (fun g wl=>Hd O w wl S [f1 eU v1 d.Samples,.blk u [i6 d.Den,v1] 35,.blk x [i6 0,i6 0,i6 0] 40]) ?_ ?_
 ·skip
  refine zA ?_
  refine zH (i6 f) ?_
  obtain ⟨J,K,c⟩:=zD c
  refine zG (zL (xP (a:=f) (b:=0) rfl rfl) K) ?_
  obtain ⟨z,c,L⟩:=zC c
  refine bJ 9 [14,15,16,17,18,19,20,21,22] [(22,.bool z)] (fun wl=>Hd O w wl S [f1 eU v1 d.Samples,.blk u [i6 d.Den,v1] 35,.blk x [i6 0,i6 0,i6 0] 40]) ?_ ?_
  ·skip
   refine yS (b:=J) rfl rfl rfl (fun m=>?_) (fun m=>?_)
   ·have c:=zO m c
    refine yG ?_
    refine yG ?_
    refine yG ?_
    refine yG ?_
    refine yG ?_
    refine yG ?_
    refine yG ?_
    refine zG (yO (v:= .bool true) rfl rfl) ?_
    obtain rfl:=gI c
    exact yA (zF (meet ⟨(zJ rfl zK),H.pick [0,1,2]⟩))
   have c:=zQ m c
   refine zG (wS rfl)<| Ld aEv H 1 1 rfl rfl<| zH (i6 f) ?_
   obtain ⟨l,n,c⟩:=zC c
   obtain ⟨M,P,a6,a7,Q,R,T,U,V⟩:=dI (H.item (i:=0) rfl) n
   obtain rfl:=aK R
   have H:=H.fz (.at M (P+f.toNat * 3) _) ⟨T,U,V⟩
   refine zG (xC u33 rC Q rfl (yC n).1 (yC n).2.1 rfl rfl)<| zG (yJ (yF (cs:=[i6 l.At,i6 l.N,i6 l.Mark]) aCn rfl rC rfl (H.item (i:=3) rfl).2.2) rfl) ?_
   have X:=H
   obtain ⟨Y,Z,c⟩:=zC c
   refine zZ rfl rfl (zS en228 rfl) (Fdjw l _ Z _ _ _ (H.enter [] [])) ?_
   rintro _ a8 ⟨rfl,aa⟩
   have H:=X.step (aa.only:Only [] _ _)
   refine ⟨_,rfl,?_⟩
   obtain ⟨ab,ac,c⟩:=zD c
   refine zG (zL (wH (p:=Y) rfl) ac)<| zG (yM (v:= .bool ab) rfl rfl) ?_
   obtain rfl:=gI c
   exact yA (zF (meet ⟨(zJ rfl zK),H.pick [0,1,2]⟩))
  rintro ρ a9 H
  have c:=L
  refine yS (b:=z) rfl rfl rfl (fun o=>?_) (fun o=>?_)
  ·have c:=zO o c
   refine yG ?_
   refine yG ?_
   refine yG ?_
   refine yG ?_
   refine yG ?_
   refine yG ?_
   refine yG ?_
   refine yG ?_
   refine yG ?_
   refine yG ?_
   refine zG (yO (v:= .bool true) rfl rfl) ?_
   obtain rfl:=gI c
   exact (yA (zF (meet ⟨(),(zJ rfl zK),H.pick [0,1,2]⟩)))
  have c:=zQ o c
  refine zH (i6 h)<| zG (wS rfl)<| Ld aEv H 1 1 rfl rfl<| zH (i6 f) ?_
  obtain ⟨ad,q,c⟩:=zC c
  obtain ⟨ae,af,ba,bb,ag,ah,ai,aj,ak⟩:=dI (H.item (i:=0) rfl) q
  obtain rfl:=aK ah
  have H:=H.fz (.at ae (af+f.toNat * 3) _) ⟨ai,aj,ak⟩
  refine zG (xC u33 rC ag rfl (yC q).1 (yC q).2.1 rfl rfl)<| zG (aFy rfl)<| zG (xG fM rfl (Cells.get (H.item (i:=3) rfl).2.2 (i:=0) rfl)) ?_
  obtain ⟨al,am,c⟩:=zD c
  refine zG (jO (a:=h) (b:=ad.At) rfl rfl am)<| zH (i6 k) ?_
  obtain ⟨an,ao,c⟩:=zD c
  refine zG (zL (aI (a:=al) (b:=k) rfl rfl) ao)<| zG (yM (v:= .bool an) rfl rfl) ?_
  obtain rfl:=gI c
  exact (yA (zF (meet ⟨(),(zJ rfl zK),H.pick [0,1,2]⟩)))
 rintro _ ρ bc H
 have c:=I
 refine zY (b:=y) rfl (fun s=>?_) (fun s=>?_)
 ·have c:=zO s c
  refine zB fun bd ap=>zA<| zG (xJ (cs:=[i6 0,i6 0,i6 0]) bz40)<| yP rfl (yL (vs:=[i6 0,i6 0,i6 0]) H 2 rfl rC rfl rfl rfl ⟨rfl,rfl,rfl,trivial⟩ rfl) ?_
  rintro be H
  refine zI (.bool false)<| RN ap ?_
  obtain rfl:=gI c
  refine (zW (zV (kE (v1:= .bool false) rfl rfl (yN aCn rC rfl (Hbc H 2 rfl)) rfl ?_)))
  exact ⟨rfl,H.pick []⟩
 have c:=zQ s c
 refine zX (zF (G _ _ ?_))
 refine zB fun bf aq=>zA<| zG (wS rfl)<| Ld aEv H 1 1 rfl rfl<| zH (i6 f) ?_
 obtain ⟨j,t,c⟩:=zC c
 obtain ⟨ar,au,bg,bh,av,aw,ax,ay,az⟩:=dI (H.item (i:=0) rfl) t
 obtain rfl:=aK aw
 have H:=H.fz (.at ar (au+f.toNat * 3) _) ⟨ax,ay,az⟩
 refine zG (xC u33 rC av rfl (yC t).1 (yC t).2.1 rfl rfl)<| zG (yJ (yF (cs:=[i6 j.At,i6 j.N,i6 j.Mark]) aCn rfl rC rfl (H.item (i:=3) rfl).2.2) rfl)<| yP rfl (yL (vs:=[i6 j.At,i6 j.N,i6 j.Mark]) H 2 rfl rC rfl rfl rfl ⟨rfl,rfl,rfl,trivial⟩ rfl) ?_
 rintro bi H
 refine zI (.bool true)<| RN aq ?_
 obtain rfl:=gI c
 refine (zW (kE (v1:= .bool true) rfl rfl (yN aCn rC rfl (Hbc H 2 rfl)) rfl ?_))
 exact ⟨rfl,H.pick []⟩
theorem Fclw (a:Series)(c:Int)(d:Int)(v1:Value)(r:eX×Bool)(f:Fcl a c d=some r)(O S:List Nat)(w:World)(H:Hd O w w S [f1 eU v1 a.Samples]):
  Cl 140 [.agg [i6 a.Den,v1].toArray,i6 c,i6 d] w fun e i=>e= .returned (.tuple #[.agg [i6 r.1.At,i6 r.1.N,i6 r.1.Mark].toArray,.bool r.2])∧Hd O w i S []:=by
 unfold Fcl at f
 refine CW 14 Tryz.func140 ?_
 refine zB fun o j=>zA<| yQ rfl rfl (xR (cs:=[i6 a.Den,v1]) rfl H) ?_
 rintro _ p ⟨q,rfl,H⟩
 refine yQ rfl rfl (xA aJg H) ?_
 rintro _ s ⟨t,rfl,H⟩
 refine zI (.bool false)<| RN j<| zB fun u k=>zA<| zG (yJ (yF (cs:=[i6 a.Den,v1]) aKx rfl sz35 rfl (Hbc H 1 rfl)) rfl)<| zH (i6 c)<| zH (i6 d) ?_
 have l:=H
 obtain ⟨⟨b,h⟩,m,f⟩:=zC f
 refine zZ rfl rfl (zS en192 rfl) (Fdmw a c d v1 _ m _ _ _ (H.enter [] [0])) ?_
 rintro _ x ⟨rfl,n⟩
 have H:=l.step (n.only:Only [] _ _)
 refine ⟨_,rfl,?_⟩
 refine zG (xQ (v:= .agg [i6 b.At,i6 b.N,i6 b.Mark].toArray) rfl rfl)<| zG (xQ (v:= .bool h) rfl rfl)<| yP rfl (yL (vs:=[i6 b.At,i6 b.N,i6 b.Mark]) H 2 rfl rC rfl rfl rfl ⟨rfl,rfl,rfl,trivial⟩ rfl) ?_
 rintro y H
 refine zI (.bool h)<| RN k ?_
 obtain rfl:=gI f
 refine (zW (kE (v1:= .bool h) rfl rfl (yN aCn rC rfl (Hbc H 2 rfl)) rfl ?_))
 exact ⟨rfl,H.pick []⟩
theorem Fblw (m:List fH)(k:Int)(v1:Value)(r:(List eH))(c:Fbl m k=some r)(O S:List Nat)(w:World)(H:Hd O w w S [f1 eF v1 m]):
  Cl 77 [v1,i6 k] w fun e z=> ∃u3,e= .returned (u3)∧Hd O w z S [.own gY u3 148 r]:=by
 unfold Fbl at c
 refine CW 37 Tryz.func77 ?_
 refine zB fun K4 A=>zA<| zI (.slice none 0 0)<| RN A<| zB fun K5 B=>zA<| zI (.slice none 0 0)<| RN B ?_
 obtain ⟨q,c,C⟩:=zC c
 refine yK [5,7,8,9,10,11,12,13,14,15,16,17,18,19,20,21,22,23,24,25,26,27,28,29,30,31,32,33,34,35] (fun (g:Value)=>[(5,g)]) (fun g wl=>Hd O w wl S [.own gY g 148 q]) ?_ ?_
 ·skip
  refine zB fun aw D=>zA<| zH v1 ?_
  obtain ⟨E,F,c⟩:=zD c
  obtain ⟨ax,ay,G⟩:=SlF.len ((H.item (i:=0) rfl))
  refine zG (yJ (xO u27 G) (congrArg (Value.int .i64) F))<| zH (i6 0)<| RN D<| yD ?_
  have H:=bY H gY 148
  unfold Fed at c
  obtain ⟨I,s,J,c⟩:=yT c
  refine xB [5,7,8,9,12,13,14,15,16,17,18,19,20,21,22,23,24,25,26,27,28,29,30,31,32,33,34,35] (fun (g:Nat×(List eH)×Int×Value)=>[(5,g.2.2.2),(12,i6 g.2.2.1)]) (fun g wl=>Hd O w wl S [.own gY g.2.2.2 148 g.2.1,f1 eF v1 m]∧fV I g.1 (g.2.1,g.2.2.1)=some q) (fun g=>g.1) (s,[],0,.slice none 0 0) (zJ rfl (zJ rfl zK)) ⟨H.pick [1,0],c⟩ ?_
  clear H c
  rintro ⟨s,az,n,t⟩ ρ a0 ⟨H,c⟩
  obtain ⟨K,rfl,c⟩:=yZ c
  have c:=yY J c
  refine zB fun a1 L=>zA ?_
  obtain ⟨M,P,c⟩:=zD c
  refine zG (zL (xP (a:=n) (b:=E) rfl rfl) P)<| RN L<| zB fun a2 Q=>zY (b:=M) rfl (fun o=>?_) (fun o=>?_)
  ·have c:=zO o c
   refine zX (zF (Q _ _ ?_))
   refine zB fun a3 R=>?_
   refine yD ?_
   refine zB fun a4 T=>zA ?_
   obtain ⟨f,p,c⟩:=zC c
   obtain ⟨U,V,a5,a6,X,Y,Z,aa,ab⟩:=dI (H.item (i:=1) rfl) p
   obtain ⟨j,rfl,ac⟩:=mZ Y
   have H:=H.fzs [.at U (V+n.toNat * 4) _,.sl eU j f.Series.Samples] ⟨⟨Z,aa,ab⟩,ac,trivial⟩
   refine zG (xC u27 aAd X rfl (yC p).1 (yC p).2.1 rfl rfl)<| zG (yJ (yF (cs:=[sb f.Name,i6 f.Series.Den,j,i6 f.Long]) aLx rfl aAd rfl (H.item (i:=2) rfl).2.2) rfl)<| yQ rfl rfl (xA aNx H) ?_
   rintro _ a7 ⟨a8,rfl,H⟩
   refine yP rfl (yL (vs:=[sb f.Name,i6 f.Series.Den,j,i6 f.Long]) H 4 rfl aAd rfl rfl rfl ⟨rfl,rfl,(xY (H.item (i:=3) rfl)),rfl,trivial⟩ rfl) ?_
   rintro a9 H
   refine RN T<| zB fun ba ad=>zA<| zG (aPu rfl)<| zG (yJ (yF (cs:=[i6 f.Series.Den,j]) aKx rfl sz35 rfl (Cells.drop (Hbc H 4 rfl) 1 2)) rfl)<| zH (i6 k) ?_
   obtain ⟨ae,af,c⟩:=zD c
   refine zG (rP (a:=64) (b:=k) rfl rfl af) ?_
   obtain ⟨ag,ah,c⟩:=zD c
   refine zG (xM (a:=ae) (b:=64) rfl rfl ah) ?_
   obtain ⟨ai,aj,c⟩:=zD c
   refine zG (jO (a:=ag) (b:=1) rfl rfl aj)<| zG (fa37_2 rfl)<| Ld fM H 4 3 rfl rfl ?_
   have ak:=H
   obtain ⟨⟨d,h⟩,al,c⟩:=zC c
   refine zZ rfl rfl (zS en140 rfl) (Fclw f.Series ai f.Long j _ al _ _ _ (H.enter [] [3])) ?_
   rintro _ bb ⟨rfl,am⟩
   have H:=ak.step (am.only:Only [] _ _)
   refine ⟨_,rfl,?_⟩
   refine zH (.tuple #[.agg [i6 d.At,i6 d.N,i6 d.Mark].toArray,.bool h])<| zG (xQ (v:= .agg [i6 d.At,i6 d.N,i6 d.Mark].toArray) rfl rfl)<| zG (xQ (v:= .bool h) rfl rfl)<| yQ rfl rfl (xA aJg H) ?_
   rintro _ bc ⟨bd,rfl,H⟩
   refine yP rfl (yL (vs:=[i6 d.At,i6 d.N,i6 d.Mark]) H 5 rfl rC rfl rfl rfl ⟨rfl,rfl,rfl,trivial⟩ rfl) ?_
   rintro be H
   refine zI (.bool h)<| RN ad<| zA<| zH t<| zG (aPi rfl)<| Ld fM H 5 1 rfl rfl<| zH (.bool h)<| zG (xJ (cs:=[i6 d.N,.bool h]) (bt148_0_1 _ _)) ?_
   obtain ⟨bf,an,c⟩:=zD c
   subst an
   refine yQ rfl rfl (aX (r:=gY) (xl:=[eH.mk d.N h]) (cs:=[i6 d.N,.bool h]) u55 aMa (by decide) (by decide) rfl (xH (vs:=[.agg [i6 d.N,.bool h].toArray]) (by decide) rfl rfl ⟨rfl,trivial⟩ rfl) H ⟨[i6 d.N,.bool h],[],rfl,(aIj (x:=eH.mk d.N h)),rfl⟩) ?_
   rintro bg bh H
   obtain ⟨ao,ap,c⟩:=zC c
   refine yQ rfl rfl (aJ H (i:=0) rfl u55 aMa rfl rfl (Sr.of_own (H.item (i:=6) rfl)) ap) ?_
   rintro u bi H
   refine zI u<| (yA (yH (zF (R _ _ ?_))))
   refine zA ?_
   obtain ⟨y,aq,c⟩:=zD c
   refine zG (xM (a:=n) (b:=1) rfl rfl aq)<| zH (i6 y) ?_
   exact (yA (zF (meet ⟨(K,ao,y,u),(zJ rfl (zJ rfl zK)),⟨H.pick [0,1],c⟩,Nat.lt_succ_self _⟩)))
  have c:=zQ o c
  obtain rfl:=gI c
  exact (xI (yI (yI (yV (zF (meet ⟨t,(zJ rfl zK),H.pick [0]⟩))))))
 rintro l ρ bj H
 have c:=C
 refine zB fun bk ar=>zA<| zH l<| zI l<| RN ar ?_
 obtain rfl:=gI c
 refine (zW (fC (v1:=l) rfl rfl ?_))
 exact ⟨l,rfl,H.pick [0]⟩
theorem Fam {F:Nat→Prop}{w:World}{v:Value}{bs:List Nat}{x:Nd}(h:(Th.tr fG [v] bs x).holds F w): ∃f r,mY Tryz.prog "orangebox/event.step" v f r:=by
 obtain ⟨u,e,h⟩:=h
 obtain rfl:v=u:=by simpa using e
 cases h
 ·exact ⟨_,_,dZ (f:=325) (p:=false) (by kernel_rfl) (by kernel_rfl) en325⟩
 ·exact ⟨_,_,dZ (f:=327) (p:=false) (by kernel_rfl) (by kernel_rfl) en327⟩
 ·exact ⟨_,_,dZ (f:=332) (p:=false) (by kernel_rfl) (by kernel_rfl) en332⟩
 ·exact ⟨_,_,dZ (f:=310) (p:=true) (by kernel_rfl) (by kernel_rfl) en310⟩
 ·exact ⟨_,_,dZ (f:=335) (p:=false) (by kernel_rfl) (by kernel_rfl) en335⟩
 ·exact ⟨_,_,dZ (f:=337) (p:=false) (by kernel_rfl) (by kernel_rfl) en337⟩
 ·exact ⟨_,_,dZ (f:=316) (p:=true) (by kernel_rfl) (by kernel_rfl) en316⟩
 ·exact ⟨_,_,dZ (f:=319) (p:=true) (by kernel_rfl) (by kernel_rfl) en319⟩
 ·exact ⟨_,_,dZ (f:=313) (p:=true) (by kernel_rfl) (by kernel_rfl) en313⟩
 ·exact ⟨_,_,dZ (f:=321) (p:=true) (by kernel_rfl) (by kernel_rfl) en321⟩
 exact ⟨_,_,dZ (f:=323) (p:=true) (by kernel_rfl) (by kernel_rfl) en323⟩
end Go.Proofs.YtckmiljbaejijaaGreatDoor.L
