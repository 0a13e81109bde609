/- Walks: what each function computes, for every argument; no condition but those that stand in the statements. -/
import Derived.Test.YtckmiljbaejijaaGreatDoorUV0
import Derived.Test.YtckmiljbaejijaaGreatDoorUV1
import Derived.Test.YtckmiljbaejijaaGreatDoorUV4
import Derived.Test.YtckmiljbaejijaaGreatDoorUV5
namespace Go.Proofs.YtckmiljbaejijaaGreatDoor.L
open Go.RowKit Go.OB Go.Lf
set_option maxHeartbeats 4000000
set_option maxRecDepth 100000 in
theorem Faow (h:Rules)(p1:List Track)(v1:Value)(t:Value)(p:Value)(R:Value)(r:EventWatch)(j:Fao h p1=some r)(O S:List Nat)(w:World)(H:Hd O w w S [.fz (.sl Rp.str v1 h.Phases),.fz (.sl rMoveT t h.Moves),.fz (.sl rRule p h.Rules),.fz (.sl rTrack R p1)]):
  Calls Tryz.prog 74 ([.agg [v1,t,p].toArray,R]:List Value).toArray w fun e w'=> ∃u9 bh bi b9 bj ca bk,e= .returned (ptr0 u9)∧Hd O w w' S [.fz (.sl Rp.str bh r.phases),.tr rowEM [bi] b9 r.moves,.tr rowNd [bj] ca r.rules,.fz (.sl Rp.bool bk r.possible),.blk u9 [bh,.int .i64 r.tracks,bi,bj,bk] 146]:=by
 unfold Fao at j
 refine zW 128 Tryz.func74 rfl rfl rfl ?_
 refine zC fun gr cb=>zB ?_
 refine yY rfl rfl (xX (cs:=[v1,t,p]) rfl H) ?_
 rintro _ gs ⟨J,rfl,H⟩
 refine zK (.pointer none)<| (zG (zA (cb _ _ ?_)))
 refine zC fun gt cc=>zB ?_
 refine yY rfl rfl (Lx_mkmap H) ?_
 rintro _ gu ⟨l,rfl,H⟩
 refine zH (fa26_0 rfl)<| zH (zN one22 rfl (Cells.get (Blk.cells (H.item (i:=4) rfl)) (i:=0) rfl))<| yY rfl rfl (Lx_mkmap H) ?_
 rintro _ gv ⟨n,rfl,H⟩
 obtain ⟨cd,ce,cf⟩: ∃a c,v1= .slice a _ c:=SlF.len ((H.item (i:=0) rfl))
 refine zH (xW (cs:=[.map (some l),.slice none 0 0,v1,.map (some n)]) (by rw [cf]; exact bt215_0_2_3 _ cd _ ce _))<| yY rfl rfl (xX (cs:=[.map (some l),.slice none 0 0,v1,.map (some n)]) rfl H) ?_
 rintro _ gw ⟨u,rfl,H⟩
 refine zK (ptr0 u)<| (zG (zA (cc _ _ ?_)))
 obtain ⟨ay,j,cg⟩:=zF j
 refine yK [6,7,19,20,21,22,23,24,25,26,27,28,29,30,31,32,33,34,35,36,37,38,39,40,41,42,43,44,45] (fun (g:Value)=>[]) (fun g wl=>Hd O w wl S [.fz (.sl Rp.str v1 h.Phases),.fz (.sl rMoveT t h.Moves),.fz (.sl rRule p h.Rules),.fz (.sl rTrack R p1),.blk J [v1,t,p] 26,.mp l (mcells Ky.str (fun v=>Value.int .i64 v) ay.1),.mp n (mcells Ky.str (fun v=>Value.int .i64 v) ([]:List (Str×Int))),.blk u [.map (some l),g,v1,.map (some n)] 215,.own (Rp.int .i64) g 3 ay.2]) ?_ ?_
 ·skip
  refine zC fun gx ch=>zB ?_
  refine zJ R ?_
  obtain ⟨ci,cj,j⟩:=zD j
  obtain ⟨gy,gz,ck⟩:=SlF.len ((H.item (i:=3) rfl))
  refine zH (yS (xP u27 ck) (congrArg (Value.int .i64) cj))<| zJ (.int .i64 0)<| (zG (zA (ch _ _ ?_)))
  refine yH ?_
  have H:=own_nil H (Rp.int .i64) 3
  unfold Fdn at j
  obtain ⟨cl,bl,cm,j⟩:=yX j
  refine xI [6,7,21,22,23,24,25,26,27,28,29,30,31,32,33,34,35,36,37,38,39,40,41,42,43,44,45] (fun (g:Nat×Int×(List (Str×Int))×(List Int)×Value)=>[(21,.int .i64 g.2.1)]) (fun g wl=>Hd O w wl S [.fz (.sl Rp.str v1 h.Phases),.fz (.sl rMoveT t h.Moves),.fz (.sl rRule p h.Rules),.fz (.sl rTrack R p1),.blk J [v1,t,p] 26,.mp l (mcells Ky.str (fun v=>Value.int .i64 v) g.2.2.1),.mp n (mcells Ky.str (fun v=>Value.int .i64 v) ([]:List (Str×Int))),.blk u [.map (some l),g.2.2.2.2,v1,.map (some n)] 215,.own (Rp.int .i64) g.2.2.2.2 3 g.2.2.2.1]∧loopN cl g.1 (g.2.1,g.2.2.1,g.2.2.2.1)=some ay) (fun g=>g.1) (bl,0,([]:List (Str×Int)),[],.slice none 0 0) (zL rfl zM) ⟨H.pick [0,1,2,3,4,5,6,7,8] (by decide),j⟩ ?_
  clear H j
  rintro ⟨bl,am,cn,co,a7⟩ ρ g0 ⟨H,j⟩
  obtain ⟨cp,rfl,j⟩:=xC j
  have j:=xB cm j
  refine zC fun K441 cq=>zB ?_
  obtain ⟨cr,ct,j⟩:=zD j
  refine zH (zQ (xR (a:=am) (b:=ci) rfl rfl) ct)<| (zG (zA (cq _ _ ?_)))
  refine zC fun K445 cu=>?_
  refine zZ (b:=cr) rfl (fun a8=>?_) (fun a8=>?_)
  ·have j:=zS a8 j
   refine (yA (zA (cu _ _ ?_)))
   refine zC fun g3 cv=>?_
   refine yH ?_
   refine zC fun g4 cw=>zB ?_
   refine zJ (.int .i64 am) ?_
   obtain ⟨M,a9,j⟩:=zF j
   obtain ⟨cx,cy,g5,g6,cz,c0,c1,c2,c3⟩:=rd_at (H.item (i:=3) rfl) a9
   obtain ⟨au,rfl,c4⟩:=rTrack_open c0
   have H:=H.fzs [.at cx (cy+am.toNat * 4) _,.sl rSample au M.Series.Samples] ⟨⟨c1,c2,c3⟩,c4,trivial⟩
   refine zH (xE u27 sz37 cz rfl (yE a9).1 (yE a9).2.1 rfl rfl)<| zH (yS (yR (cs:=[.string (bs M.Name),.int .i64 M.Series.Den,au,.int .i64 M.Long]) agg37 rfl sz37 rfl (H.item (i:=9) rfl).2.2) rfl)<| yY rfl rfl (xQ zero37 H) ?_
   rintro _ g7 ⟨c5,rfl,H⟩
   refine zK (.int .i64 am)<| xG rfl (xH (vs:=[.string (bs M.Name),.int .i64 M.Series.Den,au,.int .i64 M.Long]) H 11 rfl sz37 rfl rfl rfl ⟨rfl,rfl,(slf_one (H.item (i:=10) rfl)),rfl,trivial⟩ rfl) ?_
   rintro g8 H
   refine (zG (zA (cw _ _ ?_)))
   refine zC fun g9 c6=>?_
   have c7:=H
   have H:=H.rebase
   have ha:=H
   refine wF H [0,1,2,3,4,5,6,7] [.pure,.pure,.pure,.read,.pure,.read,.pure,.eff] mixed (by kernel_rfl) (by kernel_rfl) (by kernel_rfl) rfl ?_
   refine Mx.zI rfl rfl rfl (fun w' hw'=>yM (v:=ptr0 u) rfl) ?_
   refine Mx.zI rfl rfl rfl (fun w' hw'=>yB rfl) ?_
   refine Mx.zI rfl rfl rfl (fun w' hw'=>fa215_0 rfl) ?_
   refine Mx.yO oS rfl rfl rfl (fun w' hw'=>zN one163 rfl (Cells.get (Blk.cells ((H.sees hw').item (i:=7) rfl)) (i:=0) rfl)) ?_
   refine Mx.zI rfl rfl rfl (fun w' hw'=>fa37_0 rfl) ?_
   refine Mx.yO oS rfl rfl rfl (fun w' hw'=>zN one9 rfl (Cells.get (Blk.cells ((H.sees hw').item (i:=11) rfl)) (i:=0) rfl)) ?_
   refine Mx.zI rfl rfl rfl (fun w' hw'=>yM (v:= .int .i64 am) rfl) ?_
   obtain ⟨bm,c8,j⟩:=zD j
   refine Mx.XL_exU oS rfl rfl (fun w' hw'=>Lx_mapset (K:=Ky.str) (G:=(fun v=>Value.int .i64 v)) (m:=cn) (k:=M.Name) (v:=am) (H.sees hw') 5 rfl u163 u9 rfl rfl rfl c8) ?_
   rintro w' hb hw' H
   refine ⟨H.only,?_⟩
   refine Mx.xK fun c9 hS=>?_
   have H:=H.sees hS
   have H:=c7.rejoin H
   refine (zA (c6 _ _ ?_))
   have H:Hd O w c9 S [.fz (.sl Rp.str v1 h.Phases),.fz (.sl rMoveT t h.Moves),.fz (.sl rRule p h.Rules),.fz (.sl rTrack R p1),.blk J [v1,t,p] 26,.mp l (mcells Ky.str (fun v=>Value.int .i64 v) bm),.mp n (mcells Ky.str (fun v=>Value.int .i64 v) ([]:List (Str×Int))),.blk u [.map (some l),a7,v1,.map (some n)] 215,.own (Rp.int .i64) a7 3 co,.fz (.sl rSample au M.Series.Samples),.blk c5 [.string (bs M.Name),.int .i64 M.Series.Den,au,.int .i64 M.Long] 37]:=H.pick [0,1,2,3,4,5,6,7,8,10,11] (by decide)
   have da:=H
   have H:=H.rebase
   have hc:=H
   refine wF H [0,1,2,3,4,5,6,7,8,9,10,11,12] [.pure,.pure,.pure,.pure,.read,.pure,.pure,.read,.new,.eff,.pure,.pure,.eff] mixed (by kernel_rfl) (by kernel_rfl) (by kernel_rfl) rfl ?_
   refine Mx.zI rfl rfl rfl (fun w' hw'=>yM (v:=ptr0 u) rfl) ?_
   refine Mx.zI rfl rfl rfl (fun w' hw'=>yM (v:=ptr0 u) rfl) ?_
   refine Mx.zI rfl rfl rfl (fun w' hw'=>yB rfl) ?_
   refine Mx.zI rfl rfl rfl (fun w' hw'=>fa215_1 rfl) ?_
   refine Mx.yO oS rfl rfl rfl (fun w' hw'=>zN one38 rfl (Cells.get (Blk.cells ((H.sees hw').item (i:=7) rfl)) (i:=1) rfl)) ?_
   refine Mx.zI rfl rfl rfl (fun w' hw'=>fa37_1 rfl) ?_
   refine Mx.zI rfl rfl rfl (fun w' hw'=>fa35_0 rfl) ?_
   refine Mx.yO oS rfl rfl rfl (fun w' hw'=>zN one3 rfl (Cells.get (Blk.cells ((H.sees hw').item (i:=10) rfl)) (i:=1) rfl)) ?_
   obtain ⟨he,db,j⟩:=zD j
   subst db
   refine Mx.XL_exN oS rfl rfl rfl (fun w' hw'=>Ls_of (Lx_bs (r:=(Rp.int .i64)) (xl:=[M.Series.Den]) (cs:=[.int .i64 M.Series.Den]) u38 el3 (by decide) (by decide) rfl (wC (vs:=[.int .i64 M.Series.Den]) (by decide) rfl rfl ⟨rfl,trivial⟩ rfl) (H.sees hw') ⟨[.int .i64 M.Series.Den],[],rfl,rfl,rfl⟩) (Ys_bs (cs:=[.int .i64 M.Series.Den]) u38 el3 (by decide) (by decide) (wC (vs:=[.int .i64 M.Series.Den]) (by decide) rfl rfl ⟨rfl,trivial⟩ rfl))) ?_
   rintro w' hf hg hw' H
   obtain ⟨dc,dd,j⟩:=zF j
   refine Mx.XL_ex oS rfl rfl rfl (fun w' hw'=>Lx_app (H.sees hw') (i:=8) rfl u38 el3 rfl rfl (Sr.of_own ((H.sees hw').item (i:=11) rfl)) dd) ?_
   rintro w' bn hh hw' H
   refine ⟨H.only,?_⟩
   refine Mx.zI rfl rfl rfl (fun w' hw'=>yB rfl) ?_
   refine Mx.zI rfl rfl rfl (fun w' hw'=>fa215_1 rfl) ?_
   refine Mx.XL_exU oS rfl rfl (fun w' hw'=>wE (H.sees hw') 7 rfl sz38 rfl (v:=bn) rfl (own_one ((H.sees hw').item (i:=8) rfl)) rfl) ?_
   rintro w' hi hw' H
   refine ⟨H.only,?_⟩
   refine Mx.xK fun hj hS=>?_
   have H:=H.sees hS
   have H:=da.rejoin H
   refine (yP (zA (cv _ _ ?_)))
   refine zB ?_
   obtain ⟨bo,de,j⟩:=zD j
   refine zH (xM (a:=am) (b:=1) rfl rfl de)<| zJ (.int .i64 bo) ?_
   exact (zG (zA (meet ⟨(cp,bo,bm,dc,bn),(zL rfl zM),⟨H.pick [0,1,2,3,4,5,6,7,8] (by decide),j⟩,Nat.lt_succ_self _⟩)))
  have j:=zT a8 j
  obtain rfl:=someI j
  exact (xO (yQ (yQ (yZ (zA (meet ⟨a7,zM,H.pick [0,1,2,3,4,5,6,7,8] (by decide)⟩))))))
 rintro o ρ az H
 have j:=cg
 obtain ⟨y,z⟩:=ay
 refine zC fun hk df=>?_
 have dg:=H
 have H:=H.rebase
 have dh:=H
 have bp:Hd (O++bks (rest [4,5,6,7,8] [.fz (.sl Rp.str v1 h.Phases),.fz (.sl rMoveT t h.Moves),.fz (.sl rRule p h.Rules),.fz (.sl rTrack R p1),.blk J [v1,t,p] 26,.mp l (mcells Ky.str (fun v=>Value.int .i64 v) y),.mp n (mcells Ky.str (fun v=>Value.int .i64 v) ([]:List (Str×Int))),.blk u [.map (some l),o,v1,.map (some n)] 215,.own (Rp.int .i64) o 3 z])) az az (bks (Go.Lf.pick ([4,5,6,7,8]++ [0,1,2,3]) [.fz (.sl Rp.str v1 h.Phases),.fz (.sl rMoveT t h.Moves),.fz (.sl rRule p h.Rules),.fz (.sl rTrack R p1),.blk J [v1,t,p] 26,.mp l (mcells Ky.str (fun v=>Value.int .i64 v) y),.mp n (mcells Ky.str (fun v=>Value.int .i64 v) ([]:List (Str×Int))),.blk u [.map (some l),o,v1,.map (some n)] 215,.own (Rp.int .i64) o 3 z])) [.blk J [v1,t,p] 26,.mp l (mcells Ky.str (fun v=>Value.int .i64 v) y),.mp n (mcells Ky.str (fun v=>Value.int .i64 v) ([]:List (Str×Int))),.blk u [.map (some l),o,v1,.map (some n)] 215,.own (Rp.int .i64) o 3 z,.fz (.sl Rp.str v1 h.Phases),.fz (.sl rMoveT t h.Moves),.fz (.sl rRule p h.Rules),.fz (.sl rTrack R p1)]:=H.enter [4,5,6,7,8] [0,1,2,3] (by decide) rfl
 refine WP_forkM H bp [0,1,3,4,5,6,7] 2 8 [9,10,11] [] [.pure,.read,.new,.pure,.pure,.pure,.read,.pure,.new,.pure,.new,.pure] ⟨trivial,trivial,trivial,trivial,trivial,trivial,trivial,trivial,trivial,trivial,trivial,trivial,trivial⟩ mixed (by kernel_rfl) (by kernel_rfl) (by kernel_rfl) (by kernel_rfl) (by kernel_rfl) (by decide) ?_
 have H:=bp
 refine MxM.zI rfl rfl rfl (fun w' hw'=>fa26_0 rfl) ?_
 refine MxM.yO oS rfl rfl rfl (fun w' hw'=>zN one22 rfl (Cells.get (Blk.cells ((H.sees hw').item (i:=0) rfl)) (i:=0) rfl)) ?_
 refine MxM.zI rfl rfl rfl (fun w' hw'=>yM (v:=R) rfl) ?_
 obtain ⟨F,di,j⟩:=zD j
 obtain ⟨hl,hn,dj⟩:=SlF.len ((H.item (i:=8) rfl))
 refine MxM.zI rfl rfl rfl (fun w' hw'=>yS (xP u27 dj) (congrArg (Value.int .i64) di)) ?_
 refine MxM.zI rfl rfl rfl (fun w' hw'=>fa26_0 rfl) ?_
 refine MxM.yO oS rfl rfl rfl (fun w' hw'=>zN one22 rfl (Cells.get (Blk.cells ((H.sees hw').item (i:=0) rfl)) (i:=0) rfl)) ?_
 obtain ⟨ho,dk,j⟩:=zD j
 obtain ⟨hp,hq,dl⟩:=SlF.len ((H.item (i:=5) rfl))
 refine MxM.zI rfl rfl rfl (fun w' hw'=>yS (xP u22 dl) (congrArg (Value.int .i64) dk)) ?_
 refine MxM.xK fun hr hS=>?_
 have H:=H.sees hS
 obtain ⟨C,bq,j⟩:=zF j
 obtain ⟨a0,a1,j⟩:=zF j
 refine MxM.XL_join (du:=48) (dv:=54) (fun g1 g2 wl=> ∃(q:Value) (s:Value),q=g1∧s=g2∧Hd (O++bks (rest [4,5,6,7,8] [.fz (.sl Rp.str v1 h.Phases),.fz (.sl rMoveT t h.Moves),.fz (.sl rRule p h.Rules),.fz (.sl rTrack R p1),.blk J [v1,t,p] 26,.mp l (mcells Ky.str (fun v=>Value.int .i64 v) y),.mp n (mcells Ky.str (fun v=>Value.int .i64 v) ([]:List (Str×Int))),.blk u [.map (some l),o,v1,.map (some n)] 215,.own (Rp.int .i64) o 3 z])) az wl (bks (Go.Lf.pick ([4,5,6,7,8]++ [0,1,2,3]) [.fz (.sl Rp.str v1 h.Phases),.fz (.sl rMoveT t h.Moves),.fz (.sl rRule p h.Rules),.fz (.sl rTrack R p1),.blk J [v1,t,p] 26,.mp l (mcells Ky.str (fun v=>Value.int .i64 v) y),.mp n (mcells Ky.str (fun v=>Value.int .i64 v) ([]:List (Str×Int))),.blk u [.map (some l),o,v1,.map (some n)] 215,.own (Rp.int .i64) o 3 z])) [.blk J [v1,t,p] 26,.mp l (mcells Ky.str (fun v=>Value.int .i64 v) y),.mp n (mcells Ky.str (fun v=>Value.int .i64 v) ([]:List (Str×Int))),.blk u [.map (some l),o,v1,.map (some n)] 215,.own (Rp.int .i64) o 3 z,.fz (.sl Rp.str v1 h.Phases),.fz (.sl rMoveT t h.Moves),.fz (.sl rRule p h.Rules),.fz (.sl rTrack R p1),.own Rp.str q 9 C,.own Rp.bool s 4 a0]) ?_ ?_ ?_
 ·skip
  refine MxM.XL_newC oS rfl rfl rfl (fun w' hw'=>yC en100 rfl) (fun w' hw'=>Fcsw h.Phases v1 _ bq _ _ _ ((H.sees hw').enter [] [5] (by decide) rfl)) ?_
  rintro w' _ hs hw' ⟨q,rfl,br⟩
  have H:=(H.sees hw').back1 [5] rfl br
  refine ⟨_,rfl,(br.only:Only [] _ _).below,?_⟩
  refine MxM.XL_exN oS rfl rfl rfl (fun w' hw'=>Ls_of (Lx_make (r:=Rp.bool) (zv:= .bool false) u144 el4 rfl (fun _ _=>rfl) rfl rfl a1 (H.sees hw')) (Ys_make u144 el4 rfl rfl rfl a1)) ?_
  rintro w' s ht hw' H
  refine MxM.xK fun hu hS=>?_
  have H:=H.sees hS
  exact ⟨_,_,rfl,H.only,q,s,rfl,rfl,H⟩
 ·skip
  refine MxM.XL_exN oS rfl rfl rfl (fun w' hw'=>Ls_of (Lx_make (r:=Rp.bool) (zv:= .bool false) u144 el4 rfl (fun _ _=>rfl) rfl rfl a1 (H.sees hw')) (Ys_make u144 el4 rfl rfl rfl a1)) ?_
  rintro w' dm hv hw' H
  refine MxM.XL_newC oS rfl rfl rfl (fun w' hw'=>yC en100 rfl) (fun w' hw'=>Fcsw h.Phases v1 _ bq _ _ _ ((H.sees hw').enter [] [5] (by decide) rfl)) ?_
  rintro w' _ hw hw' ⟨dn,rfl,bt⟩
  have H:=(H.sees hw').back1 [5] rfl bt
  refine ⟨_,rfl,(bt.only:Only [] _ _).below,?_⟩
  refine MxM.xK fun hx hS=>?_
  have H:=H.sees hS
  have H:=H.pick [0,1,2,3,4,5,6,7,8,10,9] (by decide)
  exact ⟨_,_,MxM.upd_comm _ (by decide) _ _,H.only,dn,dm,rfl,rfl,H⟩
 rintro M' _ _ hy ⟨q,s,rfl,rfl,H⟩
 obtain ⟨dp,dq,dr⟩: ∃a c,q= .slice a _ c:=Sr.len (Sr.of_own (H.item (i:=9) rfl))
 obtain ⟨ds,dt,dw⟩: ∃a c,s= .slice a _ c:=Sr.len (Sr.of_own (H.item (i:=10) rfl))
 refine MxM.zI rfl rfl rfl (fun w' hw'=>xW (cs:=[q,.int .i64 F,.slice none 0 0,.slice none 0 0,s]) (by rw [dr,dw]; exact bt146_0_1_4 dp _ dq _ ds _ dt)) ?_
 refine MxM.XL_exN oS rfl rfl rfl (fun w' hw'=>Ls_of (xX (cs:=[q,.int .i64 F,.slice none 0 0,.slice none 0 0,s]) rfl (H.sees hw')) (Ys_box (cs:=[q,.int .i64 F,.slice none 0 0,.slice none 0 0,s]) rfl)) ?_
 rintro w' _ hz hw' ⟨D,rfl,H⟩
 refine MxM.zI rfl rfl rfl (fun w' hw'=>xN (v:=ptr0 D) rfl) ?_
 refine MxM.xK fun dx hS=>?_
 have H:=H.sees hS
 have H:=dh.back [4,5,6,7,8] [0,1,2,3] rfl H
 have H:Hd _ _ _ _ [.fz (.sl Rp.str v1 h.Phases),.fz (.sl rMoveT t h.Moves),.fz (.sl rRule p h.Rules),.fz (.sl rTrack R p1),.blk J [v1,t,p] 26,.mp l (mcells Ky.str (fun v=>Value.int .i64 v) y),.mp n (mcells Ky.str (fun v=>Value.int .i64 v) ([]:List (Str×Int))),.blk u [.map (some l),o,v1,.map (some n)] 215,.own (Rp.int .i64) o 3 z,.fz (.sl Rp.str v1 h.Phases),.fz (.sl rMoveT t h.Moves),.fz (.sl rRule p h.Rules),.fz (.sl rTrack R p1),.own Rp.str q 9 C,.own Rp.bool s 4 a0,.blk D [q,.int .i64 F,.slice none 0 0,.slice none 0 0,s] 146]:=H
 have H:Hd O az dx (bks [.fz (.sl Rp.str v1 h.Phases),.fz (.sl rMoveT t h.Moves),.fz (.sl rRule p h.Rules),.fz (.sl rTrack R p1),.blk J [v1,t,p] 26,.mp l (mcells Ky.str (fun v=>Value.int .i64 v) y),.mp n (mcells Ky.str (fun v=>Value.int .i64 v) ([]:List (Str×Int))),.blk u [.map (some l),o,v1,.map (some n)] 215,.own (Rp.int .i64) o 3 z]) [.blk J [v1,t,p] 26,.mp l (mcells Ky.str (fun v=>Value.int .i64 v) y),.mp n (mcells Ky.str (fun v=>Value.int .i64 v) ([]:List (Str×Int))),.blk u [.map (some l),o,v1,.map (some n)] 215,.own (Rp.int .i64) o 3 z,.fz (.sl Rp.str v1 h.Phases),.fz (.sl rMoveT t h.Moves),.fz (.sl rRule p h.Rules),.fz (.sl rTrack R p1),.own Rp.str q 9 C,.own Rp.bool s 4 a0,.blk D [q,.int .i64 F,.slice none 0 0,.slice none 0 0,s] 146]:=H.pick [4,5,6,7,8,9,10,11,12,13,14,15] (by decide)
 refine ⟨H.only,?_⟩
 refine MxM.xK fun dy hS=>?_
 have H:=H.sees hS
 have H:=dg.rejoin H
 refine (zA (df _ _ ?_))
 have H:Hd O w dy S [.blk J [v1,t,p] 26,.mp l (mcells Ky.str (fun v=>Value.int .i64 v) y),.mp n (mcells Ky.str (fun v=>Value.int .i64 v) ([]:List (Str×Int))),.blk u [.map (some l),o,v1,.map (some n)] 215,.own (Rp.int .i64) o 3 z,.fz (.sl Rp.str v1 h.Phases),.fz (.sl rMoveT t h.Moves),.fz (.sl rRule p h.Rules),.own Rp.str q 9 C,.own Rp.bool s 4 a0,.blk D [q,.int .i64 F,.slice none 0 0,.slice none 0 0,s] 146]:=H.pick [0,1,2,3,4,5,6,7,9,10,11] (by decide)
 obtain ⟨E,j,dz⟩:=zF j
 refine yK [57,58,59,60,61,62,63,64,65] (fun (g:Unit)=>[]) (fun g wl=>Hd O w wl S [.blk J [v1,t,p] 26,.fz (.sl Rp.str v1 h.Phases),.fz (.sl rMoveT t h.Moves),.fz (.sl rRule p h.Rules),.mp l (mcells Ky.str (fun v=>Value.int .i64 v) y),.mp n (mcells Ky.str (fun v=>Value.int .i64 v) ([]:List (Str×Int))),.blk u [.map (some l),o,v1,.map (some n)] 215,.own (Rp.int .i64) o 3 z,.own Rp.str q 9 C,.own Rp.bool s 4 E,.blk D [q,.int .i64 F,.slice none 0 0,.slice none 0 0,s] 146]) ?_ ?_
 ·skip
  refine zC fun h0 d0=>zB ?_
  refine zH (fa26_0 rfl)<| zH (zN one22 rfl (Cells.get (Blk.cells (H.item (i:=0) rfl)) (i:=0) rfl)) ?_
  obtain ⟨d1,d2,j⟩:=zD j
  obtain ⟨h1,h2,d3⟩:=SlF.len ((H.item (i:=5) rfl))
  refine zH (yS (xP u22 d3) (congrArg (Value.int .i64) d2)) ?_
  obtain ⟨d4,d5,j⟩:=zD j
  refine zH (zQ (Do_gtr (a:=d1) (b:=0) rfl rfl) d5)<| (zG (zA (d0 _ _ ?_)))
  refine zZ (b:=d4) rfl (fun ba=>?_) (fun ba=>?_)
  ·have j:=zS ba j
   refine zB ?_
   refine zJ (ptr0 D)<| zH (yB rfl)<| zH (fa146_4 rfl)<| zH (zN one144 rfl (Cells.get (Blk.cells (H.item (i:=10) rfl)) (i:=4) rfl)) ?_
   obtain ⟨d6,bb,j⟩:=zF j
   obtain ⟨h3,h4,d7,bu,d8,d9⟩:=own_at (H.item (i:=9) rfl) bb
   obtain rfl:d7= [.bool d6]:=d8
   refine zH (xE u144 sz4 bu rfl (yE bb).1 (yE bb).2.1 rfl rfl) ?_
   obtain ⟨h5,ea,j⟩:=zF j
   refine xG rfl (Lx_own_store (vs:=[.bool true]) (off:=0) H 9 rfl bu d9 rfl sz4 rfl rfl rfl (allone_mem ⟨rfl,trivial⟩) ea (by decide) rfl rfl) ?_
   rintro h6 H
   obtain rfl:=someI j
   exact (zG (zA (meet ⟨(),zM,H.pick [0,5,6,7,1,2,3,4,8,9,10] (by decide)⟩)))
  have j:=zT ba j
  obtain rfl:=someI j
  exact (yA (zA (meet ⟨(),zM,H.pick [0,5,6,7,1,2,3,4,8,9,10] (by decide)⟩)))
 rintro _ ρ h7 H
 have j:=dz
 obtain ⟨P,j,eb⟩:=zF j
 refine yK [10,66,67,68,69,70,71,72,73,74,75,76,77,78,79,80,81,82,83,84,85,86,87,88,89,90,91,92,93,94,95,96,97] (fun (g:Value×(List Nat))=>[]) (fun g wl=>Hd O w wl S [.blk J [v1,t,p] 26,.fz (.sl Rp.str v1 h.Phases),.fz (.sl rMoveT t h.Moves),.fz (.sl rRule p h.Rules),.mp l (mcells Ky.str (fun v=>Value.int .i64 v) y),.mp n (mcells Ky.str (fun v=>Value.int .i64 v) ([]:List (Str×Int))),.blk u [.map (some l),o,v1,.map (some n)] 215,.own (Rp.int .i64) o 3 z,.own Rp.str q 9 C,.own Rp.bool s 4 E,.blk D [q,.int .i64 F,g.1,.slice none 0 0,s] 146,.tr rowEM [g.1] g.2 P]) ?_ ?_
 ·skip
  refine zC fun h8 ec=>zB ?_
  refine zH (fa26_1 rfl)<| zH (zN one23 rfl (Cells.get (Blk.cells (H.item (i:=0) rfl)) (i:=1) rfl)) ?_
  obtain ⟨ed,ee,j⟩:=zD j
  obtain ⟨h9,ia,ef⟩:=SlF.len ((H.item (i:=2) rfl))
  refine zH (yS (xP u23 ef) (congrArg (Value.int .i64) ee))<| zJ (.int .i64 0)<| (zG (zA (ec _ _ ?_)))
  refine yH ?_
  have H:=row_nil H rtEventMove 172
  unfold Fdm at j
  obtain ⟨eg,bv,eh,j⟩:=yX j
  refine xI [10,69,70,71,72,73,74,75,76,77,78,79,80,81,82,83,84,85,86,87,88,89,90,91,92,93,94,95,96,97] (fun (g:Nat×Int×(List EventMove)×Value×(List Nat))=>[(69,.int .i64 g.2.1)]) (fun g wl=>Hd O w wl S [.blk J [v1,t,p] 26,.fz (.sl Rp.str v1 h.Phases),.fz (.sl rMoveT t h.Moves),.fz (.sl rRule p h.Rules),.mp l (mcells Ky.str (fun v=>Value.int .i64 v) y),.mp n (mcells Ky.str (fun v=>Value.int .i64 v) ([]:List (Str×Int))),.blk u [.map (some l),o,v1,.map (some n)] 215,.own (Rp.int .i64) o 3 z,.own Rp.str q 9 C,.own Rp.bool s 4 E,.blk D [q,.int .i64 F,g.2.2.2.1,.slice none 0 0,s] 146,.tr rowEM [g.2.2.2.1] g.2.2.2.2 g.2.2.1]∧loopN eg g.1 (g.2.1,g.2.2.1)=some P) (fun g=>g.1) (bv,0,[],.slice none 0 0,[]) (zL rfl zM) ⟨H.pick [0,1,2,3,4,5,6,7,8,9,10,11] (by decide),j⟩ ?_
  clear H j
  rintro ⟨bv,Q,ag,T,af⟩ ρ ib ⟨H,j⟩
  obtain ⟨ei,rfl,j⟩:=xC j
  have j:=xB eh j
  refine zC fun ic ej=>zB ?_
  obtain ⟨ek,el,j⟩:=zD j
  refine zH (zQ (xR (a:=Q) (b:=ed) rfl rfl) el)<| (zG (zA (ej _ _ ?_)))
  refine zC fun id em=>?_
  refine zZ (b:=ek) rfl (fun bc=>?_) (fun bc=>?_)
  ·have j:=zS bc j
   refine (yA (zA (em _ _ ?_)))
   refine zC fun ie en=>?_
   refine yH ?_
   refine zC fun ig eo=>zB ?_
   obtain ⟨d,bd,j⟩:=zF j
   obtain ⟨V,X,ih,ii,ep,er,es,et,eu⟩:=rd_at (H.item (i:=2) rfl) bd
   obtain ⟨A,rfl,ew⟩:=rMoveT_open er
   have H:=H.fzs [.at V (X+Q.toNat * 9) _,.sl rCond A d.When.Kids] ⟨⟨es,et,eu⟩,ew,trivial⟩
   refine zH (xE u23 sz122 ep rfl (yE bd).1 (yE bd).2.1 rfl rfl)<| zH (yS (yR (cs:=[.string (bs d.From),.string (bs d.To),.int .i64 d.When.Kind,.string (bs d.When.Name),.string (bs d.When.Other),.int .i64 d.When.Op,.int .i64 d.When.N,.int .i64 d.When.Frames,A]) agg122 rfl sz122 rfl (H.item (i:=12) rfl).2.2) rfl) ?_
   refine yY rfl rfl (xQ zero122 H) ?_
   rintro _ ij ⟨an,rfl,H⟩
   refine xG rfl (xH (vs:=[.string (bs d.From),.string (bs d.To),.int .i64 d.When.Kind,.string (bs d.When.Name),.string (bs d.When.Other),.int .i64 d.When.Op,.int .i64 d.When.N,.int .i64 d.When.Frames,A]) H 14 rfl sz122 rfl rfl rfl ⟨rfl,rfl,rfl,rfl,rfl,rfl,rfl,rfl,(slf_one (H.item (i:=13) rfl)),trivial⟩ rfl) ?_
   rintro a2 H
   refine (zG (zA (eo _ _ ?_)))
   have ex:=H
   have H:=H.rebase
   have ey:=H
   have ax:Hd (O++bks (rest [4,5,6,7,8,9,11] [.blk J [v1,t,p] 26,.fz (.sl Rp.str v1 h.Phases),.fz (.sl rMoveT t h.Moves),.fz (.sl rRule p h.Rules),.mp l (mcells Ky.str (fun v=>Value.int .i64 v) y),.mp n (mcells Ky.str (fun v=>Value.int .i64 v) ([]:List (Str×Int))),.blk u [.map (some l),o,v1,.map (some n)] 215,.own (Rp.int .i64) o 3 z,.own Rp.str q 9 C,.own Rp.bool s 4 E,.blk D [q,.int .i64 F,T,.slice none 0 0,s] 146,.tr rowEM [T] af ag,.fz (.at V (X+Q.toNat * 9) [.string (bs d.From),.string (bs d.To),.int .i64 d.When.Kind,.string (bs d.When.Name),.string (bs d.When.Other),.int .i64 d.When.Op,.int .i64 d.When.N,.int .i64 d.When.Frames,A]),.fz (.sl rCond A d.When.Kids),.blk an [.string (bs d.From),.string (bs d.To),.int .i64 d.When.Kind,.string (bs d.When.Name),.string (bs d.When.Other),.int .i64 d.When.Op,.int .i64 d.When.N,.int .i64 d.When.Frames,A] 122])) a2 a2 (bks (Go.Lf.pick ([4,5,6,7,8,9,11]++ [1,2,3,12,13]) [.blk J [v1,t,p] 26,.fz (.sl Rp.str v1 h.Phases),.fz (.sl rMoveT t h.Moves),.fz (.sl rRule p h.Rules),.mp l (mcells Ky.str (fun v=>Value.int .i64 v) y),.mp n (mcells Ky.str (fun v=>Value.int .i64 v) ([]:List (Str×Int))),.blk u [.map (some l),o,v1,.map (some n)] 215,.own (Rp.int .i64) o 3 z,.own Rp.str q 9 C,.own Rp.bool s 4 E,.blk D [q,.int .i64 F,T,.slice none 0 0,s] 146,.tr rowEM [T] af ag,.fz (.at V (X+Q.toNat * 9) [.string (bs d.From),.string (bs d.To),.int .i64 d.When.Kind,.string (bs d.When.Name),.string (bs d.When.Other),.int .i64 d.When.Op,.int .i64 d.When.N,.int .i64 d.When.Frames,A]),.fz (.sl rCond A d.When.Kids),.blk an [.string (bs d.From),.string (bs d.To),.int .i64 d.When.Kind,.string (bs d.When.Name),.string (bs d.When.Other),.int .i64 d.When.Op,.int .i64 d.When.N,.int .i64 d.When.Frames,A] 122])) [.mp l (mcells Ky.str (fun v=>Value.int .i64 v) y),.mp n (mcells Ky.str (fun v=>Value.int .i64 v) ([]:List (Str×Int))),.blk u [.map (some l),o,v1,.map (some n)] 215,.own (Rp.int .i64) o 3 z,.own Rp.str q 9 C,.own Rp.bool s 4 E,.tr rowEM [T] af ag,.fz (.sl Rp.str v1 h.Phases),.fz (.sl rMoveT t h.Moves),.fz (.sl rRule p h.Rules),.fz (.at V (X+Q.toNat * 9) [.string (bs d.From),.string (bs d.To),.int .i64 d.When.Kind,.string (bs d.When.Name),.string (bs d.When.Other),.int .i64 d.When.Op,.int .i64 d.When.N,.int .i64 d.When.Frames,A]),.fz (.sl rCond A d.When.Kids)]:=H.enter [4,5,6,7,8,9,11] [1,2,3,12,13] (by decide) rfl
   have be:=H.firmB ax (i:=14) rfl (List.mem_append_right _ (List.mem_cons_of_mem _ (List.mem_cons_of_mem _ List.mem_cons_self)))
   have bw:=H.firmB ax (i:=0) rfl (List.mem_append_right _ List.mem_cons_self)
   have ez:=H.firmB ax (i:=10) rfl (List.mem_append_right _ (List.mem_cons_of_mem _ List.mem_cons_self))
   refine WP_forkM H ax [1,2,3,4,5,6,7,8,9,10,11,12,13,14,15,16,17,18,19,20] 0 21 [22,23] [24] [.pure,.pure,.pure,.pure,.pure,.pure,.pure,.pure,.pure,.read,.pure,.pure,.pure,.pure,.read,.pure,.pure,.pure,.eff,.pure,.eff,.eff,.pure,.pure,.eff] ⟨trivial,trivial,trivial,trivial,trivial,trivial,trivial,trivial,trivial,trivial,trivial,trivial,trivial,trivial,trivial,trivial,trivial,trivial,trivial,trivial,trivial,trivial,trivial,trivial,trivial,trivial⟩ mixed (by kernel_rfl) (by kernel_rfl) (by kernel_rfl) (by kernel_rfl) (by kernel_rfl) (by decide) ?_
   have H:=ax
   refine MxM.zI rfl rfl rfl (fun w' hw'=>yM (v:=ptr0 D) rfl) ?_
   refine MxM.zI rfl rfl rfl (fun w' hw'=>yB rfl) ?_
   refine MxM.zI rfl rfl rfl (fun w' hw'=>fa146_2 rfl) ?_
   refine MxM.zI rfl rfl rfl (fun w' hw'=>zN one142 rfl (Cells.get (Blk.cells (ez w' hw')) (i:=2) rfl)) ?_
   refine MxM.zI rfl rfl rfl (fun w' hw'=>fa26_0 rfl) ?_
   refine MxM.zI rfl rfl rfl (fun w' hw'=>zN one22 rfl (Cells.get (Blk.cells (bw w' hw')) (i:=0) rfl)) ?_
   refine MxM.zI rfl rfl rfl (fun w' hw'=>fa122_0 rfl) ?_
   refine MxM.zI rfl rfl rfl (fun w' hw'=>zN one9 rfl (Cells.get (Blk.cells (be w' hw')) (i:=0) rfl)) ?_
   have e0:=H
   obtain ⟨ao,e1,j⟩:=zF j
   refine MxM.XL_call oS rfl rfl rfl (v:= .int .i64 ao) (fun w' hw'=>yC en136 rfl) (fun w' hw'=>call_read (Fahw h.Phases d.From v1 _ e1 _ _ _ ((H.sees hw').enter [] [7] (by decide) rfl))) ?_
   have H:=e0
   refine MxM.zI rfl rfl rfl (fun w' hw'=>fa26_0 rfl) ?_
   refine MxM.zI rfl rfl rfl (fun w' hw'=>zN one22 rfl (Cells.get (Blk.cells (bw w' hw')) (i:=0) rfl)) ?_
   refine MxM.zI rfl rfl rfl (fun w' hw'=>fa122_1 rfl) ?_
   refine MxM.zI rfl rfl rfl (fun w' hw'=>zN one9 rfl (Cells.get (Blk.cells (be w' hw')) (i:=1) rfl)) ?_
   have e2:=H
   obtain ⟨ap,e3,j⟩:=zF j
   refine MxM.XL_call oS rfl rfl rfl (v:= .int .i64 ap) (fun w' hw'=>yC en136 rfl) (fun w' hw'=>call_read (Fahw h.Phases d.To v1 _ e3 _ _ _ ((H.sees hw').enter [] [7] (by decide) rfl))) ?_
   have H:=e2
   refine MxM.zI rfl rfl rfl (fun w' hw'=>yM (v:=ptr0 u) rfl) ?_
   refine MxM.zI rfl rfl rfl (fun w' hw'=>fa122_2 rfl) ?_
   refine MxM.zI rfl rfl rfl (fun w' hw'=>yS (yR (cs:=[.int .i64 d.When.Kind,.string (bs d.When.Name),.string (bs d.When.Other),.int .i64 d.When.Op,.int .i64 d.When.N,.int .i64 d.When.Frames,A]) agg70 rfl sz70 rfl (Cells.drop (Blk.cells (be w' hw')) 2 7)) rfl) ?_
   obtain ⟨a3,e4,j⟩:=zF j
   refine MxM.XL_effC oS rfl rfl rfl (fun w' hw'=>yC en137 rfl) (fun w' hw'=>Fe4 (EventMaker.mk y z h.Phases ([]:List (Str×Int))) d.When u l o v1 n A _ e4 _ _ _ ((H.sees hw').enter [0,3,1,2] [7,11] (by decide) rfl)) ?_
   rintro w' _ e5 hw' ⟨a4,e6,rfl,e7⟩
   have H:Hd _ _ e5 _ [.own Rp.str q 9 C,.own Rp.bool s 4 E,.tr rowEM [T] af ag,.fz (.sl Rp.str v1 h.Phases),.fz (.sl rMoveT t h.Moves),.fz (.sl rRule p h.Rules),.fz (.at V (X+Q.toNat * 9) [.string (bs d.From),.string (bs d.To),.int .i64 d.When.Kind,.string (bs d.When.Name),.string (bs d.When.Other),.int .i64 d.When.Op,.int .i64 d.When.N,.int .i64 d.When.Frames,A]),.fz (.sl rCond A d.When.Kids),.tr rtNd [a4] e6 a3,.mp l (mcells Ky.str (fun v=>Value.int .i64 v) y),.own (Rp.int .i64) o 3 z,.mp n (mcells Ky.str (fun v=>Value.int .i64 v) ([]:List (Str×Int))),.blk u [.map (some l),o,v1,.map (some n)] 215]:=(H.sees hw').back [0,3,1,2] [7,11] rfl e7
   refine ⟨_,rfl,H.only,?_⟩
   obtain ⟨e8,e9,fa⟩:=nd_if (H.item (i:=8) rfl)
   refine MxM.zI rfl rfl rfl (fun w' hw'=>xW (cs:=[.int .i64 ao,.int .i64 ap,a4]) (by rw [fa]; exact bt172_0_1_2 _ _ e8 e9)) ?_
   obtain ⟨fb,H⟩:=rtEventMove_mk (x:=EventMove.mk ao ap a3) H 8 rfl
   have H:Hd _ _ _ _ [.own Rp.str q 9 C,.own Rp.bool s 4 E,.tr rowEM [T] af ag,.fz (.sl Rp.str v1 h.Phases),.fz (.sl rMoveT t h.Moves),.fz (.sl rRule p h.Rules),.fz (.at V (X+Q.toNat * 9) [.string (bs d.From),.string (bs d.To),.int .i64 d.When.Kind,.string (bs d.When.Name),.string (bs d.When.Other),.int .i64 d.When.Op,.int .i64 d.When.N,.int .i64 d.When.Frames,A]),.fz (.sl rCond A d.When.Kids),.mp l (mcells Ky.str (fun v=>Value.int .i64 v) y),.own (Rp.int .i64) o 3 z,.mp n (mcells Ky.str (fun v=>Value.int .i64 v) ([]:List (Str×Int))),.blk u [.map (some l),o,v1,.map (some n)] 215,.tr rtEventMove [.int .i64 ao,.int .i64 ap,a4] fb (EventMove.mk ao ap a3)]:=H
   refine MxM.XL_ex oS rfl rfl rfl (fun w' hw'=>Lx_bsT1 (H.sees hw') 12 rfl u142 el172 (by decide) (by decide) (wC (vs:=[.agg [.int .i64 ao,.int .i64 ap,a4].toArray]) (by decide) rfl rfl ⟨rfl,trivial⟩ rfl)) ?_
   rintro w' fc ik hw' ⟨fd,H⟩
   refine ⟨H.only,?_⟩
   have H:Hd _ _ _ _ [.own Rp.str q 9 C,.own Rp.bool s 4 E,.tr rowEM [T] af ag,.fz (.sl Rp.str v1 h.Phases),.fz (.sl rMoveT t h.Moves),.fz (.sl rRule p h.Rules),.fz (.at V (X+Q.toNat * 9) [.string (bs d.From),.string (bs d.To),.int .i64 d.When.Kind,.string (bs d.When.Name),.string (bs d.When.Other),.int .i64 d.When.Op,.int .i64 d.When.N,.int .i64 d.When.Frames,A]),.fz (.sl rCond A d.When.Kids),.mp l (mcells Ky.str (fun v=>Value.int .i64 v) y),.own (Rp.int .i64) o 3 z,.mp n (mcells Ky.str (fun v=>Value.int .i64 v) ([]:List (Str×Int))),.blk u [.map (some l),o,v1,.map (some n)] 215,.tr rowEM [fc] fd [EventMove.mk ao ap a3]]:=H
   refine MxM.xK fun il hS=>?_
   have H:=H.sees hS
   obtain ⟨aq,bx,j⟩:=zF j
   refine MxM.XL_join (du:=73) (dv:=94) (fun g1 g2 wl=> ∃(ad:Value) (ah:List Nat),ptr0 D=g1∧ad=g2∧Hd (O++bks (rest [4,5,6,7,8,9,11] [.blk J [v1,t,p] 26,.fz (.sl Rp.str v1 h.Phases),.fz (.sl rMoveT t h.Moves),.fz (.sl rRule p h.Rules),.mp l (mcells Ky.str (fun v=>Value.int .i64 v) y),.mp n (mcells Ky.str (fun v=>Value.int .i64 v) ([]:List (Str×Int))),.blk u [.map (some l),o,v1,.map (some n)] 215,.own (Rp.int .i64) o 3 z,.own Rp.str q 9 C,.own Rp.bool s 4 E,.blk D [q,.int .i64 F,T,.slice none 0 0,s] 146,.tr rowEM [T] af ag,.fz (.at V (X+Q.toNat * 9) [.string (bs d.From),.string (bs d.To),.int .i64 d.When.Kind,.string (bs d.When.Name),.string (bs d.When.Other),.int .i64 d.When.Op,.int .i64 d.When.N,.int .i64 d.When.Frames,A]),.fz (.sl rCond A d.When.Kids),.blk an [.string (bs d.From),.string (bs d.To),.int .i64 d.When.Kind,.string (bs d.When.Name),.string (bs d.When.Other),.int .i64 d.When.Op,.int .i64 d.When.N,.int .i64 d.When.Frames,A] 122])) a2 wl (bks (Go.Lf.pick ([4,5,6,7,8,9,11]++ [1,2,3,12,13]) [.blk J [v1,t,p] 26,.fz (.sl Rp.str v1 h.Phases),.fz (.sl rMoveT t h.Moves),.fz (.sl rRule p h.Rules),.mp l (mcells Ky.str (fun v=>Value.int .i64 v) y),.mp n (mcells Ky.str (fun v=>Value.int .i64 v) ([]:List (Str×Int))),.blk u [.map (some l),o,v1,.map (some n)] 215,.own (Rp.int .i64) o 3 z,.own Rp.str q 9 C,.own Rp.bool s 4 E,.blk D [q,.int .i64 F,T,.slice none 0 0,s] 146,.tr rowEM [T] af ag,.fz (.at V (X+Q.toNat * 9) [.string (bs d.From),.string (bs d.To),.int .i64 d.When.Kind,.string (bs d.When.Name),.string (bs d.When.Other),.int .i64 d.When.Op,.int .i64 d.When.N,.int .i64 d.When.Frames,A]),.fz (.sl rCond A d.When.Kids),.blk an [.string (bs d.From),.string (bs d.To),.int .i64 d.When.Kind,.string (bs d.When.Name),.string (bs d.When.Other),.int .i64 d.When.Op,.int .i64 d.When.N,.int .i64 d.When.Frames,A] 122])) [.own Rp.str q 9 C,.own Rp.bool s 4 E,.fz (.sl Rp.str v1 h.Phases),.fz (.sl rMoveT t h.Moves),.fz (.sl rRule p h.Rules),.fz (.at V (X+Q.toNat * 9) [.string (bs d.From),.string (bs d.To),.int .i64 d.When.Kind,.string (bs d.When.Name),.string (bs d.When.Other),.int .i64 d.When.Op,.int .i64 d.When.N,.int .i64 d.When.Frames,A]),.fz (.sl rCond A d.When.Kids),.mp l (mcells Ky.str (fun v=>Value.int .i64 v) y),.own (Rp.int .i64) o 3 z,.mp n (mcells Ky.str (fun v=>Value.int .i64 v) ([]:List (Str×Int))),.blk u [.map (some l),o,v1,.map (some n)] 215,.tr rowEM [ad] ah aq]) ?_ ?_ ?_
   ·skip
    refine MxM.zI rfl rfl rfl (fun w' hw'=>yM (v:=ptr0 D) rfl) ?_
    refine MxM.XL_ex oS rfl rfl rfl (fun w' hw'=>Lx_appT (H.sees hw') 2 12 rfl rfl (by decide) u142 el172 rfl rfl bx) ?_
    rintro w' ad im hw' ⟨ah,H⟩
    refine ⟨H.only,?_⟩
    have H:Hd _ _ _ _ [.own Rp.str q 9 C,.own Rp.bool s 4 E,.fz (.sl Rp.str v1 h.Phases),.fz (.sl rMoveT t h.Moves),.fz (.sl rRule p h.Rules),.fz (.at V (X+Q.toNat * 9) [.string (bs d.From),.string (bs d.To),.int .i64 d.When.Kind,.string (bs d.When.Name),.string (bs d.When.Other),.int .i64 d.When.Op,.int .i64 d.When.N,.int .i64 d.When.Frames,A]),.fz (.sl rCond A d.When.Kids),.mp l (mcells Ky.str (fun v=>Value.int .i64 v) y),.own (Rp.int .i64) o 3 z,.mp n (mcells Ky.str (fun v=>Value.int .i64 v) ([]:List (Str×Int))),.blk u [.map (some l),o,v1,.map (some n)] 215,.tr rowEM [ad] ah aq]:=H
    refine MxM.xK fun io hS=>?_
    have H:=H.sees hS
    exact ⟨_,_,rfl,H.only,ad,ah,rfl,rfl,H⟩
   ·skip
    refine MxM.XL_ex oS rfl rfl rfl (fun w' hw'=>Lx_appT (H.sees hw') 2 12 rfl rfl (by decide) u142 el172 rfl rfl bx) ?_
    rintro w' bz ip hw' ⟨b0,H⟩
    refine ⟨H.only,?_⟩
    have H:Hd _ _ _ _ [.own Rp.str q 9 C,.own Rp.bool s 4 E,.fz (.sl Rp.str v1 h.Phases),.fz (.sl rMoveT t h.Moves),.fz (.sl rRule p h.Rules),.fz (.at V (X+Q.toNat * 9) [.string (bs d.From),.string (bs d.To),.int .i64 d.When.Kind,.string (bs d.When.Name),.string (bs d.When.Other),.int .i64 d.When.Op,.int .i64 d.When.N,.int .i64 d.When.Frames,A]),.fz (.sl rCond A d.When.Kids),.mp l (mcells Ky.str (fun v=>Value.int .i64 v) y),.own (Rp.int .i64) o 3 z,.mp n (mcells Ky.str (fun v=>Value.int .i64 v) ([]:List (Str×Int))),.blk u [.map (some l),o,v1,.map (some n)] 215,.tr rowEM [bz] b0 aq]:=H
    refine MxM.zI rfl rfl rfl (fun w' hw'=>yM (v:=ptr0 D) rfl) ?_
    refine MxM.xK fun iq hS=>?_
    have H:=H.sees hS
    exact ⟨_,_,MxM.upd_comm _ (by decide) _ _,H.only,bz,b0,rfl,rfl,H⟩
   rintro M' _ _ ir ⟨ad,ah,rfl,rfl,H⟩
   refine MxM.zI rfl rfl rfl (fun w' hw'=>yB rfl) ?_
   refine MxM.zI rfl rfl rfl (fun w' hw'=>fa146_2 rfl) ?_
   refine MxM.xK fun fe hS=>?_
   have H:=H.sees hS
   have H:=ey.back [4,5,6,7,8,9,11] [1,2,3,12,13] rfl H
   have H:Hd _ _ _ _ [.blk J [v1,t,p] 26,.fz (.sl Rp.str v1 h.Phases),.fz (.sl rMoveT t h.Moves),.fz (.sl rRule p h.Rules),.blk D [q,.int .i64 F,T,.slice none 0 0,s] 146,.fz (.at V (X+Q.toNat * 9) [.string (bs d.From),.string (bs d.To),.int .i64 d.When.Kind,.string (bs d.When.Name),.string (bs d.When.Other),.int .i64 d.When.Op,.int .i64 d.When.N,.int .i64 d.When.Frames,A]),.fz (.sl rCond A d.When.Kids),.blk an [.string (bs d.From),.string (bs d.To),.int .i64 d.When.Kind,.string (bs d.When.Name),.string (bs d.When.Other),.int .i64 d.When.Op,.int .i64 d.When.N,.int .i64 d.When.Frames,A] 122,.own Rp.str q 9 C,.own Rp.bool s 4 E,.fz (.sl Rp.str v1 h.Phases),.fz (.sl rMoveT t h.Moves),.fz (.sl rRule p h.Rules),.fz (.at V (X+Q.toNat * 9) [.string (bs d.From),.string (bs d.To),.int .i64 d.When.Kind,.string (bs d.When.Name),.string (bs d.When.Other),.int .i64 d.When.Op,.int .i64 d.When.N,.int .i64 d.When.Frames,A]),.fz (.sl rCond A d.When.Kids),.mp l (mcells Ky.str (fun v=>Value.int .i64 v) y),.own (Rp.int .i64) o 3 z,.mp n (mcells Ky.str (fun v=>Value.int .i64 v) ([]:List (Str×Int))),.blk u [.map (some l),o,v1,.map (some n)] 215,.tr rowEM [ad] ah aq]:=H
   have H:Hd O a2 fe (bks [.blk J [v1,t,p] 26,.fz (.sl Rp.str v1 h.Phases),.fz (.sl rMoveT t h.Moves),.fz (.sl rRule p h.Rules),.mp l (mcells Ky.str (fun v=>Value.int .i64 v) y),.mp n (mcells Ky.str (fun v=>Value.int .i64 v) ([]:List (Str×Int))),.blk u [.map (some l),o,v1,.map (some n)] 215,.own (Rp.int .i64) o 3 z,.own Rp.str q 9 C,.own Rp.bool s 4 E,.blk D [q,.int .i64 F,T,.slice none 0 0,s] 146,.tr rowEM [T] af ag,.fz (.at V (X+Q.toNat * 9) [.string (bs d.From),.string (bs d.To),.int .i64 d.When.Kind,.string (bs d.When.Name),.string (bs d.When.Other),.int .i64 d.When.Op,.int .i64 d.When.N,.int .i64 d.When.Frames,A]),.fz (.sl rCond A d.When.Kids),.blk an [.string (bs d.From),.string (bs d.To),.int .i64 d.When.Kind,.string (bs d.When.Name),.string (bs d.When.Other),.int .i64 d.When.Op,.int .i64 d.When.N,.int .i64 d.When.Frames,A] 122]) [.blk an [.string (bs d.From),.string (bs d.To),.int .i64 d.When.Kind,.string (bs d.When.Name),.string (bs d.When.Other),.int .i64 d.When.Op,.int .i64 d.When.N,.int .i64 d.When.Frames,A] 122,.blk J [v1,t,p] 26,.blk D [q,.int .i64 F,T,.slice none 0 0,s] 146,.own Rp.str q 9 C,.own Rp.bool s 4 E,.fz (.sl Rp.str v1 h.Phases),.fz (.sl rMoveT t h.Moves),.fz (.sl rRule p h.Rules),.fz (.at V (X+Q.toNat * 9) [.string (bs d.From),.string (bs d.To),.int .i64 d.When.Kind,.string (bs d.When.Name),.string (bs d.When.Other),.int .i64 d.When.Op,.int .i64 d.When.N,.int .i64 d.When.Frames,A]),.fz (.sl rCond A d.When.Kids),.mp l (mcells Ky.str (fun v=>Value.int .i64 v) y),.own (Rp.int .i64) o 3 z,.mp n (mcells Ky.str (fun v=>Value.int .i64 v) ([]:List (Str×Int))),.blk u [.map (some l),o,v1,.map (some n)] 215,.tr rowEM [ad] ah aq]:=H.pick [7,0,4,8,9,10,11,12,13,14,15,16,17,18,19] (by decide)
   refine ⟨H.only,?_⟩
   refine MxM.XL_exU oS rfl rfl (fun w' hw'=>wE (H.sees hw') 2 rfl sz142 rfl (v:=ad) rfl (tr_one ((H.sees hw').item (i:=14) rfl)) rfl) ?_
   rintro w' it hw' H
   refine ⟨H.only,?_⟩
   refine MxM.xK fun ff hS=>?_
   have H:=H.sees hS
   have H:=ex.rejoin H
   refine (yP (zA (en _ _ ?_)))
   have H:Hd O w ff S [.blk J [v1,t,p] 26,.blk D [q,.int .i64 F,ad,.slice none 0 0,s] 146,.own Rp.str q 9 C,.own Rp.bool s 4 E,.fz (.sl Rp.str v1 h.Phases),.fz (.sl rMoveT t h.Moves),.fz (.sl rRule p h.Rules),.mp l (mcells Ky.str (fun v=>Value.int .i64 v) y),.own (Rp.int .i64) o 3 z,.mp n (mcells Ky.str (fun v=>Value.int .i64 v) ([]:List (Str×Int))),.blk u [.map (some l),o,v1,.map (some n)] 215,.tr rowEM [ad] ah aq]:=H.pick [1,2,3,4,5,6,7,10,11,12,13,14] (by decide)
   refine zB ?_
   obtain ⟨b1,fg,j⟩:=zD j
   refine zH (xM (a:=Q) (b:=1) rfl rfl fg)<| zJ (.int .i64 b1) ?_
   exact (zG (zA (meet ⟨(ei,b1,aq,ad,ah),(zL rfl zM),⟨H.pick [0,4,5,6,7,9,10,8,2,3,1,11] (by decide),j⟩,Nat.lt_succ_self _⟩)))
  have j:=zT bc j
  obtain rfl:=someI j
  exact (xO (yQ (yQ (yZ (zA (meet ⟨(T,af),zM,H.pick [0,1,2,3,4,5,6,7,8,9,10,11] (by decide)⟩))))))
 rintro ⟨I,U⟩ ρ iu H
 have j:=eb
 obtain ⟨b2,j,fh⟩:=zF j
 refine yK [11,12,98,99,100,101,102,103,104,105,106,107,108,109,110,111,112,113,114,115,116,117,118,119,120,121,122,123,124,125,126] (fun (g:Value×(List Nat))=>[]) (fun g wl=>Hd O w wl S [.own Rp.str q 9 C,.own Rp.bool s 4 E,.blk D [q,.int .i64 F,I,g.1,s] 146,.tr rowEM [I] U P,.tr rowNd [g.1] g.2 b2]) ?_ ?_
 ·skip
  refine zC fun iv fi=>zB ?_
  refine zH (fa26_2 rfl)<| zH (zN one24 rfl (Cells.get (Blk.cells (H.item (i:=0) rfl)) (i:=2) rfl)) ?_
  obtain ⟨fj,fk,j⟩:=zD j
  obtain ⟨iw,iy,fm⟩:=SlF.len ((H.item (i:=3) rfl))
  refine zH (yS (xP u24 fm) (congrArg (Value.int .i64) fk))<| zJ (.int .i64 0)<| (zG (zA (fi _ _ ?_)))
  refine yH ?_
  have H:=row_nil H rtNd 170
  unfold Fdh at j
  obtain ⟨fn,b3,fo,j⟩:=yX j
  refine xI [11,12,101,102,103,104,105,106,107,108,109,110,111,112,113,114,115,116,117,118,119,120,121,122,123,124,125,126] (fun (g:Nat×Int×(List (Str×Int))×(List Nd)×Value×(List Nat))=>[(101,.int .i64 g.2.1)]) (fun g wl=>Hd O w wl S [.fz (.sl Rp.str v1 h.Phases),.fz (.sl rRule p h.Rules),.mp l (mcells Ky.str (fun v=>Value.int .i64 v) y),.mp n (mcells Ky.str (fun v=>Value.int .i64 v) g.2.2.1),.blk u [.map (some l),o,v1,.map (some n)] 215,.own (Rp.int .i64) o 3 z,.own Rp.str q 9 C,.own Rp.bool s 4 E,.blk D [q,.int .i64 F,I,g.2.2.2.2.1,s] 146,.tr rowEM [I] U P,.tr rowNd [g.2.2.2.2.1] g.2.2.2.2.2 g.2.2.2.1]∧loopN fn g.1 (g.2.1,g.2.2.1,g.2.2.2.1)=some b2) (fun g=>g.1) (b3,0,([]:List (Str×Int)),[],.slice none 0 0,[]) (zL rfl zM) ⟨H.pick [1,3,4,5,6,7,8,9,10,11,12] (by decide),j⟩ ?_
  clear H j
  rintro ⟨b3,L,Y,ak,Z,ai⟩ ρ iz ⟨H,j⟩
  obtain ⟨fp,rfl,j⟩:=xC j
  have j:=xB fo j
  refine zC fun i0 fq=>zB ?_
  obtain ⟨fr,fs,j⟩:=zD j
  refine zH (zQ (xR (a:=L) (b:=fj) rfl rfl) fs)<| (zG (zA (fq _ _ ?_)))
  refine zC fun i1 ft=>?_
  refine zZ (b:=fr) rfl (fun bf=>?_) (fun bf=>?_)
  ·have j:=zS bf j
   refine (yA (zA (ft _ _ ?_)))
   refine zC fun i2 fu=>?_
   refine yH ?_
   refine zC fun i3 fv=>zB ?_
   refine zJ (.int .i64 L) ?_
   obtain ⟨f,bg,j⟩:=zF j
   obtain ⟨ab,ac,i4,i5,fw,fx,fy,f0,f1⟩:=rd_at (H.item (i:=1) rfl) bg
   obtain ⟨B,rfl,f4⟩:=rRule_open fx
   have H:=H.fzs [.at ab (ac+L.toNat * 8) _,.sl rCond B f.When.Kids] ⟨⟨fy,f0,f1⟩,f4,trivial⟩
   refine zH (xE u24 sz95 fw rfl (yE bg).1 (yE bg).2.1 rfl rfl)<| zH (yS (yR (cs:=[.string (bs f.Name),.int .i64 f.When.Kind,.string (bs f.When.Name),.string (bs f.When.Other),.int .i64 f.When.Op,.int .i64 f.When.N,.int .i64 f.When.Frames,B]) agg95 rfl sz95 rfl (H.item (i:=11) rfl).2.2) rfl)<| yY rfl rfl (xQ zero95 H) ?_
   rintro _ i6 ⟨al,rfl,H⟩
   refine zK (.int .i64 L)<| xG rfl (xH (vs:=[.string (bs f.Name),.int .i64 f.When.Kind,.string (bs f.When.Name),.string (bs f.When.Other),.int .i64 f.When.Op,.int .i64 f.When.N,.int .i64 f.When.Frames,B]) H 13 rfl sz95 rfl rfl rfl ⟨rfl,rfl,rfl,rfl,rfl,rfl,rfl,(slf_one (H.item (i:=12) rfl)),trivial⟩ rfl) ?_
   rintro a5 H
   refine (zG (zA (fv _ _ ?_)))
   refine zC fun i7 f5=>?_
   have f6:=H
   have H:=H.rebase
   have f7:=H
   have a6:Hd (O++bks (rest [2,3,4,5,6,7,9,10] [.fz (.sl Rp.str v1 h.Phases),.fz (.sl rRule p h.Rules),.mp l (mcells Ky.str (fun v=>Value.int .i64 v) y),.mp n (mcells Ky.str (fun v=>Value.int .i64 v) Y),.blk u [.map (some l),o,v1,.map (some n)] 215,.own (Rp.int .i64) o 3 z,.own Rp.str q 9 C,.own Rp.bool s 4 E,.blk D [q,.int .i64 F,I,Z,s] 146,.tr rowEM [I] U P,.tr rowNd [Z] ai ak,.fz (.at ab (ac+L.toNat * 8) [.string (bs f.Name),.int .i64 f.When.Kind,.string (bs f.When.Name),.string (bs f.When.Other),.int .i64 f.When.Op,.int .i64 f.When.N,.int .i64 f.When.Frames,B]),.fz (.sl rCond B f.When.Kids),.blk al [.string (bs f.Name),.int .i64 f.When.Kind,.string (bs f.When.Name),.string (bs f.When.Other),.int .i64 f.When.Op,.int .i64 f.When.N,.int .i64 f.When.Frames,B] 95])) a5 a5 (bks (Go.Lf.pick ([2,3,4,5,6,7,9,10]++ [0,1,11,12]) [.fz (.sl Rp.str v1 h.Phases),.fz (.sl rRule p h.Rules),.mp l (mcells Ky.str (fun v=>Value.int .i64 v) y),.mp n (mcells Ky.str (fun v=>Value.int .i64 v) Y),.blk u [.map (some l),o,v1,.map (some n)] 215,.own (Rp.int .i64) o 3 z,.own Rp.str q 9 C,.own Rp.bool s 4 E,.blk D [q,.int .i64 F,I,Z,s] 146,.tr rowEM [I] U P,.tr rowNd [Z] ai ak,.fz (.at ab (ac+L.toNat * 8) [.string (bs f.Name),.int .i64 f.When.Kind,.string (bs f.When.Name),.string (bs f.When.Other),.int .i64 f.When.Op,.int .i64 f.When.N,.int .i64 f.When.Frames,B]),.fz (.sl rCond B f.When.Kids),.blk al [.string (bs f.Name),.int .i64 f.When.Kind,.string (bs f.When.Name),.string (bs f.When.Other),.int .i64 f.When.Op,.int .i64 f.When.N,.int .i64 f.When.Frames,B] 95])) [.mp l (mcells Ky.str (fun v=>Value.int .i64 v) y),.mp n (mcells Ky.str (fun v=>Value.int .i64 v) Y),.blk u [.map (some l),o,v1,.map (some n)] 215,.own (Rp.int .i64) o 3 z,.own Rp.str q 9 C,.own Rp.bool s 4 E,.tr rowEM [I] U P,.tr rowNd [Z] ai ak,.fz (.sl Rp.str v1 h.Phases),.fz (.sl rRule p h.Rules),.fz (.at ab (ac+L.toNat * 8) [.string (bs f.Name),.int .i64 f.When.Kind,.string (bs f.When.Name),.string (bs f.When.Other),.int .i64 f.When.Op,.int .i64 f.When.N,.int .i64 f.When.Frames,B]),.fz (.sl rCond B f.When.Kids)]:=H.enter [2,3,4,5,6,7,9,10] [0,1,11,12] (by decide) rfl
   have f8:=H.firmB a6 (i:=13) rfl (List.mem_append_right _ (List.mem_cons_of_mem _ List.mem_cons_self))
   have f9:=H.firmB a6 (i:=8) rfl (List.mem_append_right _ List.mem_cons_self)
   refine WP_forkM H a6 [1,2,3,4,5,6,7,8,9] 0 10 [11,12] [13] [.pure,.pure,.pure,.pure,.pure,.pure,.pure,.pure,.eff,.eff,.eff,.pure,.pure,.eff] ⟨trivial,trivial,trivial,trivial,trivial,trivial,trivial,trivial,trivial,trivial,trivial,trivial,trivial,trivial,trivial⟩ mixed (by kernel_rfl) (by kernel_rfl) (by kernel_rfl) (by kernel_rfl) (by kernel_rfl) (by decide) ?_
   have H:=a6
   refine MxM.zI rfl rfl rfl (fun w' hw'=>yM (v:=ptr0 D) rfl) ?_
   refine MxM.zI rfl rfl rfl (fun w' hw'=>yB rfl) ?_
   refine MxM.zI rfl rfl rfl (fun w' hw'=>fa146_3 rfl) ?_
   refine MxM.zI rfl rfl rfl (fun w' hw'=>zN one143 rfl (Cells.get (Blk.cells (f9 w' hw')) (i:=3) rfl)) ?_
   refine MxM.zI rfl rfl rfl (fun w' hw'=>yM (v:=ptr0 u) rfl) ?_
   refine MxM.zI rfl rfl rfl (fun w' hw'=>fa95_1 rfl) ?_
   refine MxM.zI rfl rfl rfl (fun w' hw'=>yS (yR (cs:=[.int .i64 f.When.Kind,.string (bs f.When.Name),.string (bs f.When.Other),.int .i64 f.When.Op,.int .i64 f.When.N,.int .i64 f.When.Frames,B]) agg70 rfl sz70 rfl (Cells.drop (Blk.cells (f8 w' hw')) 1 7)) rfl) ?_
   obtain ⟨b4,ga,j⟩:=zF j
   refine MxM.XL_effC oS rfl rfl rfl (fun w' hw'=>yC en137 rfl) (fun w' hw'=>Fe4 (EventMaker.mk y z h.Phases Y) f.When u l o v1 n B _ ga _ _ _ ((H.sees hw').enter [0,3,1,2] [8,11] (by decide) rfl)) ?_
   rintro w' _ gb hw' ⟨gc,gd,rfl,ge⟩
   have H:Hd _ _ gb _ [.own Rp.str q 9 C,.own Rp.bool s 4 E,.tr rowEM [I] U P,.tr rowNd [Z] ai ak,.fz (.sl Rp.str v1 h.Phases),.fz (.sl rRule p h.Rules),.fz (.at ab (ac+L.toNat * 8) [.string (bs f.Name),.int .i64 f.When.Kind,.string (bs f.When.Name),.string (bs f.When.Other),.int .i64 f.When.Op,.int .i64 f.When.N,.int .i64 f.When.Frames,B]),.fz (.sl rCond B f.When.Kids),.tr rtNd [gc] gd b4,.mp l (mcells Ky.str (fun v=>Value.int .i64 v) y),.own (Rp.int .i64) o 3 z,.mp n (mcells Ky.str (fun v=>Value.int .i64 v) Y),.blk u [.map (some l),o,v1,.map (some n)] 215]:=(H.sees hw').back [0,3,1,2] [8,11] rfl ge
   refine ⟨_,rfl,H.only,?_⟩
   refine MxM.XL_ex oS rfl rfl rfl (fun w' hw'=>Lx_bsT1 (H.sees hw') 8 rfl u143 el170 (by decide) (by decide) (fillB_ones rfl rfl ⟨(tr_one (H.item (i:=8) rfl)),trivial⟩)) ?_
   rintro w' gf i8 hw' ⟨gg,H⟩
   refine ⟨H.only,?_⟩
   have H:Hd _ _ _ _ [.own Rp.str q 9 C,.own Rp.bool s 4 E,.tr rowEM [I] U P,.tr rowNd [Z] ai ak,.fz (.sl Rp.str v1 h.Phases),.fz (.sl rRule p h.Rules),.fz (.at ab (ac+L.toNat * 8) [.string (bs f.Name),.int .i64 f.When.Kind,.string (bs f.When.Name),.string (bs f.When.Other),.int .i64 f.When.Op,.int .i64 f.When.N,.int .i64 f.When.Frames,B]),.fz (.sl rCond B f.When.Kids),.mp l (mcells Ky.str (fun v=>Value.int .i64 v) y),.own (Rp.int .i64) o 3 z,.mp n (mcells Ky.str (fun v=>Value.int .i64 v) Y),.blk u [.map (some l),o,v1,.map (some n)] 215,.tr rowNd [gf] gg [b4]]:=H
   refine MxM.xK fun i9 hS=>?_
   have H:=H.sees hS
   obtain ⟨ar,b5,j⟩:=zF j
   refine MxM.XL_join (du:=106) (dv:=116) (fun g1 g2 wl=> ∃(ae:Value) (aj:List Nat),ptr0 D=g1∧ae=g2∧Hd (O++bks (rest [2,3,4,5,6,7,9,10] [.fz (.sl Rp.str v1 h.Phases),.fz (.sl rRule p h.Rules),.mp l (mcells Ky.str (fun v=>Value.int .i64 v) y),.mp n (mcells Ky.str (fun v=>Value.int .i64 v) Y),.blk u [.map (some l),o,v1,.map (some n)] 215,.own (Rp.int .i64) o 3 z,.own Rp.str q 9 C,.own Rp.bool s 4 E,.blk D [q,.int .i64 F,I,Z,s] 146,.tr rowEM [I] U P,.tr rowNd [Z] ai ak,.fz (.at ab (ac+L.toNat * 8) [.string (bs f.Name),.int .i64 f.When.Kind,.string (bs f.When.Name),.string (bs f.When.Other),.int .i64 f.When.Op,.int .i64 f.When.N,.int .i64 f.When.Frames,B]),.fz (.sl rCond B f.When.Kids),.blk al [.string (bs f.Name),.int .i64 f.When.Kind,.string (bs f.When.Name),.string (bs f.When.Other),.int .i64 f.When.Op,.int .i64 f.When.N,.int .i64 f.When.Frames,B] 95])) a5 wl (bks (Go.Lf.pick ([2,3,4,5,6,7,9,10]++ [0,1,11,12]) [.fz (.sl Rp.str v1 h.Phases),.fz (.sl rRule p h.Rules),.mp l (mcells Ky.str (fun v=>Value.int .i64 v) y),.mp n (mcells Ky.str (fun v=>Value.int .i64 v) Y),.blk u [.map (some l),o,v1,.map (some n)] 215,.own (Rp.int .i64) o 3 z,.own Rp.str q 9 C,.own Rp.bool s 4 E,.blk D [q,.int .i64 F,I,Z,s] 146,.tr rowEM [I] U P,.tr rowNd [Z] ai ak,.fz (.at ab (ac+L.toNat * 8) [.string (bs f.Name),.int .i64 f.When.Kind,.string (bs f.When.Name),.string (bs f.When.Other),.int .i64 f.When.Op,.int .i64 f.When.N,.int .i64 f.When.Frames,B]),.fz (.sl rCond B f.When.Kids),.blk al [.string (bs f.Name),.int .i64 f.When.Kind,.string (bs f.When.Name),.string (bs f.When.Other),.int .i64 f.When.Op,.int .i64 f.When.N,.int .i64 f.When.Frames,B] 95])) [.own Rp.str q 9 C,.own Rp.bool s 4 E,.tr rowEM [I] U P,.fz (.sl Rp.str v1 h.Phases),.fz (.sl rRule p h.Rules),.fz (.at ab (ac+L.toNat * 8) [.string (bs f.Name),.int .i64 f.When.Kind,.string (bs f.When.Name),.string (bs f.When.Other),.int .i64 f.When.Op,.int .i64 f.When.N,.int .i64 f.When.Frames,B]),.fz (.sl rCond B f.When.Kids),.mp l (mcells Ky.str (fun v=>Value.int .i64 v) y),.own (Rp.int .i64) o 3 z,.mp n (mcells Ky.str (fun v=>Value.int .i64 v) Y),.blk u [.map (some l),o,v1,.map (some n)] 215,.tr rowNd [ae] aj ar]) ?_ ?_ ?_
   ·skip
    refine MxM.zI rfl rfl rfl (fun w' hw'=>yM (v:=ptr0 D) rfl) ?_
    refine MxM.XL_ex oS rfl rfl rfl (fun w' hw'=>Lx_appT (H.sees hw') 3 12 rfl rfl (by decide) u143 el170 rfl rfl b5) ?_
    rintro w' ae ja hw' ⟨aj,H⟩
    refine ⟨H.only,?_⟩
    have H:Hd _ _ _ _ [.own Rp.str q 9 C,.own Rp.bool s 4 E,.tr rowEM [I] U P,.fz (.sl Rp.str v1 h.Phases),.fz (.sl rRule p h.Rules),.fz (.at ab (ac+L.toNat * 8) [.string (bs f.Name),.int .i64 f.When.Kind,.string (bs f.When.Name),.string (bs f.When.Other),.int .i64 f.When.Op,.int .i64 f.When.N,.int .i64 f.When.Frames,B]),.fz (.sl rCond B f.When.Kids),.mp l (mcells Ky.str (fun v=>Value.int .i64 v) y),.own (Rp.int .i64) o 3 z,.mp n (mcells Ky.str (fun v=>Value.int .i64 v) Y),.blk u [.map (some l),o,v1,.map (some n)] 215,.tr rowNd [ae] aj ar]:=H
    refine MxM.xK fun jb hS=>?_
    have H:=H.sees hS
    exact ⟨_,_,rfl,H.only,ae,aj,rfl,rfl,H⟩
   ·skip
    refine MxM.XL_ex oS rfl rfl rfl (fun w' hw'=>Lx_appT (H.sees hw') 3 12 rfl rfl (by decide) u143 el170 rfl rfl b5) ?_
    rintro w' b6 jc hw' ⟨b7,H⟩
    refine ⟨H.only,?_⟩
    have H:Hd _ _ _ _ [.own Rp.str q 9 C,.own Rp.bool s 4 E,.tr rowEM [I] U P,.fz (.sl Rp.str v1 h.Phases),.fz (.sl rRule p h.Rules),.fz (.at ab (ac+L.toNat * 8) [.string (bs f.Name),.int .i64 f.When.Kind,.string (bs f.When.Name),.string (bs f.When.Other),.int .i64 f.When.Op,.int .i64 f.When.N,.int .i64 f.When.Frames,B]),.fz (.sl rCond B f.When.Kids),.mp l (mcells Ky.str (fun v=>Value.int .i64 v) y),.own (Rp.int .i64) o 3 z,.mp n (mcells Ky.str (fun v=>Value.int .i64 v) Y),.blk u [.map (some l),o,v1,.map (some n)] 215,.tr rowNd [b6] b7 ar]:=H
    refine MxM.zI rfl rfl rfl (fun w' hw'=>yM (v:=ptr0 D) rfl) ?_
    refine MxM.xK fun jd hS=>?_
    have H:=H.sees hS
    exact ⟨_,_,MxM.upd_comm _ (by decide) _ _,H.only,b6,b7,rfl,rfl,H⟩
   rintro M' _ _ je ⟨ae,aj,rfl,rfl,H⟩
   refine MxM.zI rfl rfl rfl (fun w' hw'=>yB rfl) ?_
   refine MxM.zI rfl rfl rfl (fun w' hw'=>fa146_3 rfl) ?_
   refine MxM.xK fun gh hS=>?_
   have H:=H.sees hS
   have H:=f7.back [2,3,4,5,6,7,9,10] [0,1,11,12] rfl H
   have H:Hd _ _ _ _ [.fz (.sl Rp.str v1 h.Phases),.fz (.sl rRule p h.Rules),.blk D [q,.int .i64 F,I,Z,s] 146,.fz (.at ab (ac+L.toNat * 8) [.string (bs f.Name),.int .i64 f.When.Kind,.string (bs f.When.Name),.string (bs f.When.Other),.int .i64 f.When.Op,.int .i64 f.When.N,.int .i64 f.When.Frames,B]),.fz (.sl rCond B f.When.Kids),.blk al [.string (bs f.Name),.int .i64 f.When.Kind,.string (bs f.When.Name),.string (bs f.When.Other),.int .i64 f.When.Op,.int .i64 f.When.N,.int .i64 f.When.Frames,B] 95,.own Rp.str q 9 C,.own Rp.bool s 4 E,.tr rowEM [I] U P,.fz (.sl Rp.str v1 h.Phases),.fz (.sl rRule p h.Rules),.fz (.at ab (ac+L.toNat * 8) [.string (bs f.Name),.int .i64 f.When.Kind,.string (bs f.When.Name),.string (bs f.When.Other),.int .i64 f.When.Op,.int .i64 f.When.N,.int .i64 f.When.Frames,B]),.fz (.sl rCond B f.When.Kids),.mp l (mcells Ky.str (fun v=>Value.int .i64 v) y),.own (Rp.int .i64) o 3 z,.mp n (mcells Ky.str (fun v=>Value.int .i64 v) Y),.blk u [.map (some l),o,v1,.map (some n)] 215,.tr rowNd [ae] aj ar]:=H
   have H:Hd O a5 gh (bks [.fz (.sl Rp.str v1 h.Phases),.fz (.sl rRule p h.Rules),.mp l (mcells Ky.str (fun v=>Value.int .i64 v) y),.mp n (mcells Ky.str (fun v=>Value.int .i64 v) Y),.blk u [.map (some l),o,v1,.map (some n)] 215,.own (Rp.int .i64) o 3 z,.own Rp.str q 9 C,.own Rp.bool s 4 E,.blk D [q,.int .i64 F,I,Z,s] 146,.tr rowEM [I] U P,.tr rowNd [Z] ai ak,.fz (.at ab (ac+L.toNat * 8) [.string (bs f.Name),.int .i64 f.When.Kind,.string (bs f.When.Name),.string (bs f.When.Other),.int .i64 f.When.Op,.int .i64 f.When.N,.int .i64 f.When.Frames,B]),.fz (.sl rCond B f.When.Kids),.blk al [.string (bs f.Name),.int .i64 f.When.Kind,.string (bs f.When.Name),.string (bs f.When.Other),.int .i64 f.When.Op,.int .i64 f.When.N,.int .i64 f.When.Frames,B] 95]) [.blk al [.string (bs f.Name),.int .i64 f.When.Kind,.string (bs f.When.Name),.string (bs f.When.Other),.int .i64 f.When.Op,.int .i64 f.When.N,.int .i64 f.When.Frames,B] 95,.blk D [q,.int .i64 F,I,Z,s] 146,.own Rp.str q 9 C,.own Rp.bool s 4 E,.tr rowEM [I] U P,.fz (.sl Rp.str v1 h.Phases),.fz (.sl rRule p h.Rules),.fz (.at ab (ac+L.toNat * 8) [.string (bs f.Name),.int .i64 f.When.Kind,.string (bs f.When.Name),.string (bs f.When.Other),.int .i64 f.When.Op,.int .i64 f.When.N,.int .i64 f.When.Frames,B]),.fz (.sl rCond B f.When.Kids),.mp l (mcells Ky.str (fun v=>Value.int .i64 v) y),.own (Rp.int .i64) o 3 z,.mp n (mcells Ky.str (fun v=>Value.int .i64 v) Y),.blk u [.map (some l),o,v1,.map (some n)] 215,.tr rowNd [ae] aj ar]:=H.pick [5,2,6,7,8,9,10,11,12,13,14,15,16,17] (by decide)
   refine ⟨H.only,?_⟩
   refine MxM.XL_exU oS rfl rfl (fun w' hw'=>wE (H.sees hw') 1 rfl sz143 rfl (v:=ae) rfl (tr_one ((H.sees hw').item (i:=13) rfl)) rfl) ?_
   rintro w' jf hw' H
   refine ⟨H.only,?_⟩
   refine MxM.xK fun gi hS=>?_
   have H:=H.sees hS
   have H:=f6.rejoin H
   refine (zA (f5 _ _ ?_))
   have H:Hd O w gi S [.blk al [.string (bs f.Name),.int .i64 f.When.Kind,.string (bs f.When.Name),.string (bs f.When.Other),.int .i64 f.When.Op,.int .i64 f.When.N,.int .i64 f.When.Frames,B] 95,.blk D [q,.int .i64 F,I,ae,s] 146,.own Rp.str q 9 C,.own Rp.bool s 4 E,.tr rowEM [I] U P,.fz (.sl Rp.str v1 h.Phases),.fz (.sl rRule p h.Rules),.fz (.sl rCond B f.When.Kids),.mp l (mcells Ky.str (fun v=>Value.int .i64 v) y),.own (Rp.int .i64) o 3 z,.mp n (mcells Ky.str (fun v=>Value.int .i64 v) Y),.blk u [.map (some l),o,v1,.map (some n)] 215,.tr rowNd [ae] aj ar]:=H.pick [0,1,2,3,4,5,6,8,9,10,11,12,13] (by decide)
   have gj:=H
   have H:=H.rebase
   have jg:=H
   refine wF H [0,1,2,3,4,5,6,7] [.pure,.pure,.pure,.read,.pure,.read,.pure,.eff] mixed (by kernel_rfl) (by kernel_rfl) (by kernel_rfl) rfl ?_
   refine Mx.zI rfl rfl rfl (fun w' hw'=>yM (v:=ptr0 u) rfl) ?_
   refine Mx.zI rfl rfl rfl (fun w' hw'=>yB rfl) ?_
   refine Mx.zI rfl rfl rfl (fun w' hw'=>fa215_3 rfl) ?_
   refine Mx.yO oS rfl rfl rfl (fun w' hw'=>zN one163 rfl (Cells.get (Blk.cells ((H.sees hw').item (i:=11) rfl)) (i:=3) rfl)) ?_
   refine Mx.zI rfl rfl rfl (fun w' hw'=>fa95_0 rfl) ?_
   refine Mx.yO oS rfl rfl rfl (fun w' hw'=>zN one9 rfl (Cells.get (Blk.cells ((H.sees hw').item (i:=0) rfl)) (i:=0) rfl)) ?_
   refine Mx.zI rfl rfl rfl (fun w' hw'=>yM (v:= .int .i64 L) rfl) ?_
   obtain ⟨gl,gm,j⟩:=zD j
   refine Mx.XL_exU oS rfl rfl (fun w' hw'=>Lx_mapset (K:=Ky.str) (G:=(fun v=>Value.int .i64 v)) (m:=Y) (k:=f.Name) (v:=L) (H.sees hw') 10 rfl u163 u9 rfl rfl rfl gm) ?_
   rintro w' jh hw' H
   refine ⟨H.only,?_⟩
   refine Mx.xK fun ji hS=>?_
   have H:=H.sees hS
   have H:=gj.rejoin H
   refine (yP (zA (fu _ _ ?_)))
   refine zB ?_
   obtain ⟨b8,gn,j⟩:=zD j
   refine zH (xM (a:=L) (b:=1) rfl rfl gn)<| zJ (.int .i64 b8) ?_
   exact (zG (zA (meet ⟨(fp,b8,gl,ar,ae,aj),(zL rfl zM),⟨H.pick [5,6,8,10,11,9,2,3,1,4,12] (by decide),j⟩,Nat.lt_succ_self _⟩)))
  have j:=zT bf j
  obtain rfl:=someI j
  exact (xO (yQ (yQ (yZ (zA (meet ⟨(Z,ai),zM,H.pick [6,7,8,9,10] (by decide)⟩))))))
 rintro ⟨go,gp⟩ ρ jj H
 have j:=fh
 refine zC fun jk gq=>zB ?_
 refine zJ (ptr0 D)<| zK (ptr0 D)<| (zG (zA (gq _ _ ?_)))
 have H:=H.freeze (i:=0) rfl
 have H:=H.freeze (i:=1) rfl
 obtain rfl:=someI j
 refine (zY (post1 (v1:=ptr0 D) rfl rfl ?_))
 exact ⟨D,q,I,U,go,gp,s,rfl,H.pick [0,3,4,1,2] (by decide)⟩
theorem Fasw (c:Sample)(d:Int)(r:Int)(f:Fas c d=some r)(O S:List Nat)(w:World)(H:Hd O w w S []):
  Calls Tryz.prog 262 ([.agg [.int .i64 c.At,.int .i64 c.N,.int .i64 c.Mark].toArray,.int .i64 d]:List Value).toArray w fun e w'=>e= .returned (.int .i64 r)∧Hd O w w' S []:=by
 unfold Fas at f
 refine zW 9 Tryz.func262 rfl rfl rfl ?_
 refine zC fun m j=>zB ?_
 refine yY rfl rfl (xX (cs:=[.int .i64 c.At,.int .i64 c.N,.int .i64 c.Mark]) rfl H) ?_
 rintro _ n ⟨o,rfl,H⟩
 refine zK (.int .i64 0)<| (zG (zA (j _ _ ?_)))
 refine zC fun p k=>zB ?_
 refine zH (fa40_0 rfl)<| zH (zN one3 rfl (Cells.get (Blk.cells (H.item (i:=0) rfl)) (i:=0) rfl))<| zJ (.int .i64 d) ?_
 obtain ⟨h,l,f⟩:=zD f
 refine zH (Do_sub (a:=c.At) (b:=d) rfl rfl l)<| zK (.int .i64 h)<| (zG (zA (k _ _ ?_)))
 obtain rfl:=someI f
 refine (zY (post1 (v1:= .int .i64 h) rfl rfl ?_))
 exact ⟨rfl,H.pick [] (by decide)⟩
theorem Fc1w (n:List Sample)(h:Int)(v1:Value)(r:Int×Bool)(c:Fc1 n h=some r)(O S:List Nat)(w:World)(H:Hd O w w S [.fz (.sl rSample v1 n)]):
  Calls Tryz.prog 261 ([v1,.int .i64 h,.func (.func 262) #[] #[]]:List Value).toArray w fun e w'=>e= .returned (.tuple #[.int .i64 r.1,.bool r.2])∧Hd O w w' S []:=by
 unfold Fc1 at c
 refine zW 49 Tryz.func261 rfl rfl rfl ?_
 refine zC fun K3 E=>zB ?_
 refine zK (.int .i64 0)<| zK (.bool false)<| (zG (zA (E _ _ ?_)))
 refine zC fun K4 F=>zB ?_
 refine zJ v1 ?_
 obtain ⟨k,G,c⟩:=zD c
 obtain ⟨a7,c8,I⟩:=SlF.len ((H.item (i:=0) rfl))
 refine zH (yS (xP u33 I) (congrArg (Value.int .i64) G))<| zK (.int .i64 k)<| (zG (zA (F _ _ ?_)))
 refine zC fun bb J=>zB ?_
 refine zJ (.int .i64 k)<| zK (.int .i64 0)<| zK (.int .i64 k)<| (zG (zA (J _ _ ?_)))
 obtain ⟨d,c,K⟩:=zF c
 refine yK [9,10,11,15,16,17,18,19,20,21,22,23,24,25,26,27,28,29,30,31,32,33,34] (fun (g:Unit)=>[(9,.int .i64 d)]) (fun g wl=>Hd O w wl S [.fz (.sl rSample v1 n)]) ?_ ?_
 ·skip
  refine yH ?_
  unfold Fdj at c
  obtain ⟨L,z,M,c⟩:=yX c
  refine xI [9,10,11,15,16,17,18,19,20,21,22,23,24,25,26,27,28,29,30,31,32,33,34] (fun (g:Nat×Int×Int)=>[(9,.int .i64 g.2.1),(10,.int .i64 g.2.2)]) (fun g wl=>Hd O w wl S [.fz (.sl rSample v1 n)]∧loopN L g.1 (g.2.1,g.2.2)=some d) (fun g=>g.1) (z,0,k) (zL rfl (zL rfl zM)) ⟨H.pick [0] (by decide),c⟩ ?_
  clear H c
  rintro ⟨z,l,m⟩ ρ bc ⟨H,c⟩
  obtain ⟨A,rfl,c⟩:=xC c
  have c:=xB M c
  refine zC fun bd P=>?_
  refine zC fun be Q=>zB ?_
  refine zJ (.int .i64 l)<| zJ (.int .i64 m) ?_
  obtain ⟨R,T,c⟩:=zD c
  refine zH (zQ (xR (a:=l) (b:=m) rfl rfl) T)<| (zG (zA (Q _ _ ?_)))
  refine zZ (b:=R) rfl (fun s=>?_) (fun s=>?_)
  ·have c:=zS s c
   refine (yA (zA (P _ _ ?_)))
   refine yH ?_
   refine zC fun bf U=>zB ?_
   refine zJ (.int .i64 l)<| zJ (.int .i64 m) ?_
   obtain ⟨bg,V,c⟩:=zD c
   refine zH (xM (a:=l) (b:=m) rfl rfl V) ?_
   obtain ⟨X,Y,c⟩:=zD c
   refine zH (Do_conv u3 u199 rfl Y) ?_
   obtain ⟨bh,Z,c⟩:=zF c
   refine zH (Do_shr' (j:=X) (q:=1) rfl rfl Z) ?_
   obtain ⟨f,aa,c⟩:=zD c
   refine zH (Do_conv u199 u3 rfl aa)<| zK (.int .i64 f)<| (zG (zA (U _ _ ?_)))
   refine zC fun bi ab=>zB ?_
   refine zJ (.func (.func 262) #[] #[])<| zJ v1<| zJ (.int .i64 f) ?_
   obtain ⟨o,t,c⟩:=zF c
   obtain ⟨ac,ad,bj,bk,ae,af,ag,ah,ai⟩:=rd_at (H.item (i:=0) rfl) t
   obtain rfl:=rSample_open af
   have H:=H.fz (.at ac (ad+f.toNat * 3) _) ⟨ag,ah,ai⟩
   refine zH (xE u33 sz40 ae rfl (yE t).1 (yE t).2.1 rfl rfl)<| zH (yS (yR (cs:=[.int .i64 o.At,.int .i64 o.N,.int .i64 o.Mark]) agg40 rfl sz40 rfl (H.item (i:=1) rfl).2.2) rfl)<| zJ (.int .i64 h) ?_
   have aj:=H
   obtain ⟨ak,al,c⟩:=zF c
   refine yG rfl rfl (DoC_clo en262 rfl rfl) (Fasw o h _ al _ _ _ (H.enter [] [] (by decide) rfl)) ?_
   rintro _ bl ⟨rfl,am⟩
   have H:=aj.step (am.only:Only [] _ _)
   refine ⟨_,rfl,?_⟩
   obtain ⟨an,ao,c⟩:=zD c
   refine zH (zQ (xR (a:=ak) (b:=0) rfl rfl) ao)<| (zG (zA (ab _ _ ?_)))
   refine zZ (b:=an) rfl (fun u=>?_) (fun u=>?_)
   ·have c:=zS u c
    refine zB ?_
    refine zJ (.int .i64 f) ?_
    obtain ⟨B,ap,c⟩:=zD c
    refine zH (xM (a:=f) (b:=1) rfl rfl ap)<| zK (.int .i64 B) ?_
    exact (zG (yP (zA (meet ⟨(A,B,m),(zL rfl (zL rfl zM)),⟨H.pick [0] (by decide),c⟩,Nat.lt_succ_self _⟩))))
   have c:=zT u c
   refine zB ?_
   refine zJ (.int .i64 f)<| zK (.int .i64 f) ?_
   exact (zG (yP (zA (meet ⟨(A,l,f),(zL rfl (zL rfl zM)),⟨H.pick [0] (by decide),c⟩,Nat.lt_succ_self _⟩))))
  have c:=zT s c
  obtain rfl:=someI c
  exact (xO (yQ (yQ (yZ (zA (meet ⟨(),(zL rfl zM),H.pick [0] (by decide)⟩))))))
 rintro _ ρ bm H
 have c:=K
 obtain ⟨C,c,aq⟩:=zF c
 refine yK [6,7,35,36,37,38,39,40,41,42,43,44,45,46,47,48] (fun (g:Unit)=>[(6,.int .i64 d),(7,.bool C)]) (fun g wl=>Hd O w wl S []) ?_ ?_
 ·skip
  refine zB ?_
  refine zJ (.int .i64 d)<| zJ (.int .i64 d)<| zJ (.int .i64 k) ?_
  obtain ⟨ar,au,c⟩:=zD c
  refine zH (zQ (xR (a:=d) (b:=k) rfl rfl) au)<| yN (b:=ar) rfl rfl rfl (fun x=>?_) (fun x=>?_)
  ·have c:=zS x c
   refine zJ (.func (.func 262) #[] #[])<| zJ v1<| zJ (.int .i64 d) ?_
   obtain ⟨p,y,c⟩:=zF c
   obtain ⟨av,aw,bn,bo,ax,ay,az,a0,a1⟩:=rd_at (H.item (i:=0) rfl) y
   obtain rfl:=rSample_open ay
   have H:=H.fz (.at av (aw+d.toNat * 3) _) ⟨az,a0,a1⟩
   refine zH (xE u33 sz40 ax rfl (yE y).1 (yE y).2.1 rfl rfl)<| zH (yS (yR (cs:=[.int .i64 p.At,.int .i64 p.N,.int .i64 p.Mark]) agg40 rfl sz40 rfl (H.item (i:=1) rfl).2.2) rfl)<| zJ (.int .i64 h) ?_
   have a2:=H
   obtain ⟨a3,a4,c⟩:=zF c
   refine yG rfl rfl (DoC_clo en262 rfl rfl) (Fasw p h _ a4 _ _ _ (H.enter [] [] (by decide) rfl)) ?_
   rintro _ bp ⟨rfl,a5⟩
   have H:=a2.step (a5.only:Only [] _ _)
   refine ⟨_,rfl,?_⟩
   obtain ⟨D,a6,c⟩:=zD c
   refine zH (zQ (xA (a:=a3) (b:=0) rfl rfl) a6)<| zH (yL (v:= .bool D) rfl rfl)<| zK (.int .i64 d)<| zK (.bool D) ?_
   obtain rfl:=someI c
   exact (zG (zA (meet ⟨(),(zL rfl (zL rfl zM)),H.pick [] (by decide)⟩)))
  have c:=zT x c
  refine yI ?_
  refine yI ?_
  refine yI ?_
  refine yI ?_
  refine yI ?_
  refine yI ?_
  refine yI ?_
  refine yI ?_
  refine zH (yJ (v:= .bool false) rfl rfl)<| zK (.int .i64 d)<| zK (.bool false) ?_
  obtain rfl:=someI c
  exact (zG (zA (meet ⟨(),(zL rfl (zL rfl zM)),H.pick [] (by decide)⟩)))
 rintro _ ρ bq H
 have c:=aq
 obtain rfl:=someI c
 refine (zY (post2 (v1:= .int .i64 d) (v2:= .bool C) rfl rfl rfl ?_))
 exact ⟨rfl,H.pick [] (by decide)⟩
theorem Fb9w (f:Series)(j:Int)(v1:Value)(r:Int)(c:Fb9 f j=some r)(O S:List Nat)(w:World)(H:Hd O w w S [.fz (.sl rSample v1 f.Samples)]):
  Calls Tryz.prog 227 ([.agg [.int .i64 f.Den,v1].toArray,.int .i64 j]:List Value).toArray w fun e w'=>e= .returned (.int .i64 r)∧Hd O w w' S []:=by
 unfold Fb9 at c
 refine zW 18 Tryz.func227 rfl rfl rfl ?_
 refine zC fun z m=>zB ?_
 refine yY rfl rfl (xX (cs:=[.int .i64 f.Den,v1]) rfl H) ?_
 rintro _ A ⟨B,rfl,H⟩
 refine zK (.int .i64 0)<| (zG (zA (m _ _ ?_)))
 refine zC fun C n=>zB ?_
 refine zH (fa35_1 rfl)<| zH (zN one33 rfl (Cells.get (Blk.cells (H.item (i:=1) rfl)) (i:=1) rfl))<| zJ (.int .i64 j) ?_
 have o:=H
 obtain ⟨⟨d,h⟩,p,c⟩:=zF c
 refine yG rfl rfl (yC en261 rfl) (Fc1w f.Samples j v1 _ p _ _ _ (H.enter [] [0] (by decide) rfl)) ?_
 rintro _ D ⟨rfl,q⟩
 have H:=o.step (q.only:Only [] _ _)
 refine ⟨_,rfl,?_⟩
 refine zJ (.tuple #[.int .i64 d,.bool h])<| zH (xY (v:= .int .i64 d) rfl rfl)<| zH (xY (v:= .bool h) rfl rfl)<| zK (.int .i64 d)<| zK (.bool h)<| (zG (zA (n _ _ ?_)))
 refine zC fun E s=>?_
 refine zC fun F t=>zB ?_
 refine zJ (.bool h)<| (zG (zA (t _ _ ?_)))
 refine zZ (b:=h) rfl (fun k=>?_) (fun k=>?_)
 ·have c:=zS k c
  refine zC fun G u=>zB ?_
  refine zJ (.int .i64 d)<| zK (.int .i64 d)<| (zG (zA (u _ _ ?_)))
  obtain rfl:=someI c
  refine (zY (zV (post1 (v1:= .int .i64 d) rfl rfl ?_)))
  exact ⟨rfl,H.pick [] (by decide)⟩
 have c:=zT k c
 refine (yA (zA (s _ _ ?_)))
 refine zC fun I x=>zB ?_
 refine zJ (.int .i64 d) ?_
 obtain ⟨l,y,c⟩:=zD c
 refine zH (Do_sub (a:=d) (b:=1) rfl rfl y)<| zK (.int .i64 l)<| (zG (zA (x _ _ ?_)))
 obtain rfl:=someI c
 refine (zY (post1 (v1:= .int .i64 l) rfl rfl ?_))
 exact ⟨rfl,H.pick [] (by decide)⟩
theorem Fdiw (c:Sample)(r:Bool)(d:Fdi c=some r)(O S:List Nat)(w:World)(H:Hd O w w S []):
  Calls Tryz.prog 228 ([.agg [.int .i64 c.At,.int .i64 c.N,.int .i64 c.Mark].toArray]:List Value).toArray w fun e w'=>e= .returned (.bool r)∧Hd O w w' S []:=by
 unfold Fdi at d
 refine zW 6 Tryz.func228 rfl rfl rfl ?_
 refine zC fun l h=>zB ?_
 refine yY rfl rfl (xX (cs:=[.int .i64 c.At,.int .i64 c.N,.int .i64 c.Mark]) rfl H) ?_
 rintro _ m ⟨n,rfl,H⟩
 refine zK (.bool false)<| (zG (zA (h _ _ ?_)))
 refine zC fun o j=>zB ?_
 refine zH (fa40_2 rfl)<| zH (zN one3 rfl (Cells.get (Blk.cells (H.item (i:=0) rfl)) (i:=2) rfl)) ?_
 obtain ⟨f,k,d⟩:=zD d
 refine zH (zQ (Do_geq (a:=c.Mark) (b:=3) rfl rfl) k)<| zK (.bool f)<| (zG (zA (j _ _ ?_)))
 obtain rfl:=someI d
 refine (zY (post1 (v1:= .bool f) rfl rfl ?_))
 exact ⟨rfl,H.pick [] (by decide)⟩
end Go.Proofs.YtckmiljbaejijaaGreatDoor.L
