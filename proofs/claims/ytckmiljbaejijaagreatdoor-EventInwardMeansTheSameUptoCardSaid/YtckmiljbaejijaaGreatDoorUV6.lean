/- Walks: what each function computes, for every argument; no condition but those that stand in the statements. -/
import Derived.Test.YtckmiljbaejijaaGreatDoorUV0
import Derived.Test.YtckmiljbaejijaaGreatDoorUV5
import Derived.Test.YtckmiljbaejijaaGreatDoorUV4
namespace Go.Proofs.YtckmiljbaejijaaGreatDoor.L
open Go.RowKit Go.OB Go.Lf
set_option maxHeartbeats 4000000
theorem Fbcw (rfI:Nd→gJ→Option (Int×Nd))(rhI:Fay rfI)(d:dJ)(h:gJ)(k:Nat)(l:Value)(V:List Nat)(C:Value)(Y:List Nat)(u:Nat)(p:Value)(q:Value)(o:Value)(r:Int×dJ)(c:Fbc rfI d h=some r)(O S:List Nat)(w:World)(H:Hd O w w S [.tr fG [l] V d.kid,.tr (Rt.row (Rt.of (Rp.int .i64)) 3 []) [C] Y d.last,.blk k ([l,i6 d.n,i6 d.frames,C]++((Fl.arr 3 (Fl.int .i64)).f d.totals)) 245,.own (Rp.int .i64) o 3 h.rules,.blk u [p,q,o] 222,f1 gY p h.told,f1 Rp.bool q h.possible]):
  Cl 313 [gV k,gV u] w fun e y=> ∃Z ay aa az,e= .returned (i6 r.1)∧Hd O w y S [.tr fG [Z] ay r.2.kid,.tr (Rt.row (Rt.of (Rp.int .i64)) 3 []) [aa] az r.2.last,.blk k ([Z,i6 r.2.n,i6 r.2.frames,aa]++((Fl.arr 3 (Fl.int .i64)).f r.2.totals)) 245,.own (Rp.int .i64) o 3 h.rules,.blk u [p,q,o] 222]:=by
 unfold Fbc at c
 refine CW 96 Tryz.func313 ?_
 refine zB fun cc a0=>zA<| zI (i6 0)<| RN a0<| zB fun cd a1=>zA<| zH (gV k)<| zG (zN rfl)<| zG (fa245_0 rfl)<| Ld kV H 2 0 rfl rfl<| zH (gV u) ?_
 obtain ⟨a2,a3,ab⟩:=Fam (H.item (i:=0) rfl)
 obtain ⟨m,a4,c⟩:=zC c
 refine zZ rfl rfl (nN ab rfl rfl) (rhI d.kid (gJ.mk h.told h.possible h.rules) l V u p q o a2 a3 ab _ a4 _ _ _ (H.enter [0,3,4] [5,6])) ?_
 rintro _ a5 ⟨z,rfl,a6⟩
 have H:Hd _ _ a5 _ [.tr (Rt.row (Rt.of (Rp.int .i64)) 3 []) [C] Y d.last,.blk k ([l,i6 d.n,i6 d.frames,C]++((Fl.arr 3 (Fl.int .i64)).f d.totals)) 245,f1 gY p h.told,f1 Rp.bool q h.possible,.tr fG [l] z m.2,.own (Rp.int .i64) o 3 h.rules,.blk u [p,q,o] 222]:=H.back [0,3,4] [5,6] rfl a6
 refine ⟨_,rfl,?_⟩
 refine zI (i6 m.1)<| RN a1<| zB fun ce a7=>zA<| zH (gV k)<| zG (zN rfl)<| zG (aAl rfl)<| zG (Do_loadF (e:=(Fl.arr 3 (Fl.int .i64))) (a:=d.totals) agg243 rfl sz243 (Cells.suf (pre:=[l,i6 d.n,i6 d.frames,C]) (Hbc H 1 rfl) rfl))<| yQ rfl rfl (xA zero243 H) ?_
 rintro _ cf ⟨E,rfl,H⟩
 refine yP rfl (Lx_storeW (e:=(Fl.arr 3 (Fl.int .i64))) (a:=(Arr.rep 3 0:Arr 3 Int)) (a':=d.totals) H 7 rfl sz243 rfl rfl) ?_
 rintro cg H
 refine RN a7<| zB fun ch a8=>zA<| zH (i6 m.1) ?_
 obtain ⟨ac,ad,c⟩:=zC c
 refine zG (mP (X:=d.totals) aKy sz3 rfl rfl ad)<| zG (pW (v:=i6 ac) fM rfl (Cells.ix (e:=(Fl.int .i64)) (x:=d.totals) (Hbc H 7 rfl) ad)) ?_
 obtain ⟨ae,a9,c⟩:=zD c
 refine zG (xM (a:=ac) (b:=1) rfl rfl a9) ?_
 obtain ⟨ci,J,c⟩:=zC c
 refine zG (mP (X:=d.totals) aKy sz3 rfl rfl J) ?_
 obtain ⟨A,ba,c⟩:=zD c
 refine yP rfl (Lx_storeA (e:=(Fl.int .i64)) (X:=d.totals) (a:=ae) (j:=m.1) H 7 rfl sz3 rfl (v:=i6 ae) rfl rfl (Arr.at_lt J).1 (Arr.at_lt J).2 ba) ?_
 rintro cj H
 refine RN a8<| zB fun ck bb=>zA<| zH (gV k)<| zH (gV k)<| zG (zN rfl)<| zG (vI rfl)<| Ld rO H 1 3 rfl rfl<| zH (i6 m.1) ?_
 obtain ⟨cl,bc,c⟩:=zD c
 subst bc
 refine yQ rfl rfl (aX (r:=(Rp.int .i64)) (xl:=[m.1]) (cs:=[i6 m.1]) u38 el3 (by decide) (by decide) rfl (xH (vs:=[i6 m.1]) (by decide) rfl rfl ⟨rfl,trivial⟩ rfl) H ⟨[i6 m.1],[],rfl,rfl,rfl⟩) ?_
 rintro G cm H
 obtain ⟨I,bd,c⟩:=zC c
 refine yQ rfl rfl (aDh H 0 rfl u38 el3 rfl rfl (Sr.of_own (H.item (i:=8) rfl)) bd) ?_
 rintro t cn ⟨af,H⟩
 have H:Hd _ _ _ _ [.blk k ([l,i6 d.n,i6 d.frames,C]++((Fl.arr 3 (Fl.int .i64)).f d.totals)) 245,f1 gY p h.told,f1 Rp.bool q h.possible,.tr fG [l] z m.2,.own (Rp.int .i64) o 3 h.rules,.blk u [p,q,o] 222,.blk E ((Fl.arr 3 (Fl.int .i64)).f A) 243,.own (Rp.int .i64) G 3 ([m.1]:List Int),.tr (Rt.row (Rt.of (Rp.int .i64)) 3 []) [t] af I]:=H
 refine zG (zN rfl)<| zG (vI rfl)<| yP rfl (xE H 0 rfl aKw rfl (v:=t) rfl (nI (H.item (i:=8) rfl)) rfl) ?_
 rintro co H
 refine RN bb<| zB fun cp be=>?_
 have bf:=H
 have H:=H.rebase
 have cq:=H
 refine xU H [0,1,2,3,4,5,6,7,8,9,10] (kz [0,0,0,0,0,1,0,0,0,0,3]) mixed ?_
 refine XM (gV k)<| XM (i6 m.1)<| XP (fun _ _=>zN rfl)<| XP (fun _ _=>aAl rfl) ?_
 obtain ⟨ag,ah,c⟩:=zC c
 refine XP (fun _ _=>mP (X:=d.totals) aKy sz3 rfl rfl ah)<| MxM.wJ oS rfl rfl rfl (fun y s=>pW (v:=i6 ag) fM rfl (Cells.ix (e:=(Fl.int .i64)) (x:=d.totals) (Cells.suf (pre:=[l,i6 d.n,i6 d.frames,t]) (Blk.cells ((H.sees s).item (i:=0) rfl)) rfl) ah)) ?_
 obtain ⟨ai,bg,c⟩:=zD c
 refine XP (fun _ _=>xM (a:=ag) (b:=1) rfl rfl bg)<| XP (fun _ _=>zN rfl)<| XP (fun _ _=>aAl rfl) ?_
 obtain ⟨cr,K,c⟩:=zC c
 refine XP (fun _ _=>mP (X:=d.totals) aKy sz3 rfl rfl K) ?_
 obtain ⟨F,bh,c⟩:=zD c
 refine MxM.XL_exU oS rfl rfl (fun y s=>aIc (e:=(Fl.int .i64)) (X:=d.totals) (a:=ai) (j:=m.1) (pre:=[l,i6 d.n,i6 d.frames,t]) (H.sees s) 0 rfl sz3 rfl rfl (v:=i6 ai) rfl rfl (Arr.at_lt K).1 (Arr.at_lt K).2 bh) ?_
 rintro y ct s H
 refine ⟨H.only,?_⟩
 refine MxM.xK fun cu hS=>?_
 have H:=H.sees hS
 have H:=bf.rejoin H
 refine (zF (be _ _ ?_))
 obtain ⟨L,c,bi⟩:=zC c
 refine yK [42,43,44,45,46,47,48,49,50,51,52,53,54,55,56,57,58,59,60,61,62,63,64,65,66,67,68,69,70,71,72,73,74] (fun (g:Value×(List Nat))=>[]) (fun g wl=>Hd O w wl S [.blk k ([l,i6 d.n,i6 d.frames,g.1]++((Fl.arr 3 (Fl.int .i64)).f L.2)) 245,.tr fG [l] z m.2,.tr (Rt.row (Rt.of (Rp.int .i64)) 3 []) [g.1] g.2 L.1,f1 gY p h.told,f1 Rp.bool q h.possible,.own (Rp.int .i64) o 3 h.rules,.blk u [p,q,o] 222,.blk E ((Fl.arr 3 (Fl.int .i64)).f A) 243]) ?_ ?_
 ·skip
  refine zB fun cv bj=>?_
  have bk:=H
  have H:=H.rebase
  have cw:=H
  refine xU H [0,1,2,3,4,5,6,7,8,9] (kz [0,0,0,1,0,0,0,0,1,0]) mixed ?_
  refine XM (gV k)<| XP (fun _ _=>zN rfl)<| XP (fun _ _=>vI rfl)<| XR rO H 0 3 rfl rfl ?_
  obtain ⟨bl,bm,c⟩:=zD c
  obtain ⟨cx,cy,bn⟩:=nV ((H.item (i:=8) rfl))
  refine XP (fun _ _=>yJ (xO u38 bn) (congrArg (Value.int .i64) bm))<| XM (gV k)<| XP (fun _ _=>zN rfl)<| XP (fun _ _=>aRf rfl)<| XR fM H 0 2 rfl rfl ?_
  obtain ⟨bo,bp,c⟩:=zD c
  refine XP (fun _ _=>zL (yR (a:=bl) (b:=d.frames) rfl rfl) bp)<| MxM.xK fun cz hS=>?_
  have H:=H.sees hS
  have H:=bk.rejoin H
  refine (zF (bj _ _ ?_))
  refine zY (b:=bo) rfl (fun M=>?_) (fun M=>?_)
  ·have c:=zO M c
   refine zB fun c0 bq=>?_
   have br:=H
   have H:=H.rebase
   have c1:=H
   refine xU H [0,1,2,3,4,5,6,7,8,9,10,11,12,13,14,15] (kz [0,0,0,0,1,0,1,0,0,0,1,0,0,0,0,3]) mixed ?_
   refine XM (gV k)<| XM (gV k)<| XP (fun _ _=>zN rfl)<| XP (fun _ _=>vI rfl)<| XR rO H 0 3 rfl rfl ?_
   obtain ⟨B,D,c⟩:=zC c
   obtain ⟨c2,c3,c4,N⟩:=jC (H.item (i:=8) rfl) D
   refine XP (fun _ _=>xC u38 sz3 N rfl (yC D).1 (yC D).2.1 rfl rfl) ?_
   obtain ⟨bt,aj,c5,H⟩:=H.focusV 8 rfl N D rfl
   obtain ⟨bu,bv⟩:=trF (H.item (i:=9) rfl)
   subst bu
   obtain rfl:bt= [i6 B]:=bv
   have H:Hd _ _ _ _ [.blk k ([l,i6 d.n,i6 d.frames,t]++((Fl.arr 3 (Fl.int .i64)).f F)) 245,f1 gY p h.told,f1 Rp.bool q h.possible,.tr fG [l] z m.2,.own (Rp.int .i64) o 3 h.rules,.blk u [p,q,o] 222,.blk E ((Fl.arr 3 (Fl.int .i64)).f A) 243,.own (Rp.int .i64) G 3 ([m.1]:List Int),.tr (Rt.row (Rt.of (Rp.int .i64)) 3 [((0:Int).toNat,[i6 B])]) [t] aj I,.tr (Rt.of (Rp.int .i64)) [i6 B] [] B]:=H
   refine MxM.wJ oS rfl rfl rfl (fun y s=>xG fM rfl (Cells.get ((H.sees s).holeW 8 rfl N D rfl dG) (i:=0) rfl)) ?_
   refine XP (fun _ _=>zN rfl)<| XP (fun _ _=>aAl rfl) ?_
   obtain ⟨ak,al,c⟩:=zC c
   refine XP (fun _ _=>mP (X:=F) aKy sz3 rfl rfl al)<| MxM.wJ oS rfl rfl rfl (fun y s=>pW (v:=i6 ak) fM rfl (Cells.ix (e:=(Fl.int .i64)) (x:=F) (Cells.suf (pre:=[l,i6 d.n,i6 d.frames,t]) (Blk.cells ((H.sees s).item (i:=0) rfl)) rfl) al)) ?_
   obtain ⟨am,bw,c⟩:=zD c
   refine XP (fun _ _=>jO (a:=ak) (b:=1) rfl rfl bw)<| XP (fun _ _=>zN rfl)<| XP (fun _ _=>aAl rfl) ?_
   obtain ⟨c6,P,c⟩:=zC c
   refine XP (fun _ _=>mP (X:=F) aKy sz3 rfl rfl P) ?_
   obtain ⟨an,bx,c⟩:=zD c
   refine MxM.XL_exU oS rfl rfl (fun y s=>aIc (e:=(Fl.int .i64)) (X:=F) (a:=am) (j:=B) (pre:=[l,i6 d.n,i6 d.frames,t]) (H.sees s) 0 rfl sz3 rfl rfl (v:=i6 am) rfl rfl (Arr.at_lt P).1 (Arr.at_lt P).2 bx) ?_
   rintro y c7 s H
   refine ⟨H.only,?_⟩
   refine MxM.xK fun c8 hS=>?_
   have H:=H.sees hS
   have H:=br.rejoin H
   refine (zF (bq _ _ ?_))
   refine zA ?_
   refine zH (gV k)<| zH (gV k)<| zG (zN rfl)<| zG (vI rfl)<| Ld rO H 0 3 rfl rfl ?_
   have H:Hd _ _ _ _ [.blk k ([l,i6 d.n,i6 d.frames,t]++((Fl.arr 3 (Fl.int .i64)).f an)) 245,f1 gY p h.told,f1 Rp.bool q h.possible,.tr fG [l] z m.2,.own (Rp.int .i64) o 3 h.rules,.blk u [p,q,o] 222,.blk E ((Fl.arr 3 (Fl.int .i64)).f A) 243,.own (Rp.int .i64) G 3 ([m.1]:List Int),.tr (Rt.row (Rt.of (Rp.int .i64)) 3 [((0:Int).toNat,[i6 B])]) [t] aj I,.tr (Rt.of (Rp.int .i64)) [i6 B] [] B]:=H
   obtain ⟨ao,H⟩:=H.unfocus0 8 9 rfl rfl (by decide) rfl rfl D
   have H:Hd _ _ _ _ [.blk k ([l,i6 d.n,i6 d.frames,t]++((Fl.arr 3 (Fl.int .i64)).f an)) 245,f1 gY p h.told,f1 Rp.bool q h.possible,.tr fG [l] z m.2,.own (Rp.int .i64) o 3 h.rules,.blk u [p,q,o] 222,.blk E ((Fl.arr 3 (Fl.int .i64)).f A) 243,.own (Rp.int .i64) G 3 ([m.1]:List Int),.tr (Rt.row (Rt.of (Rp.int .i64)) 3 []) [t] ao I]:=H
   obtain ⟨c9,bz,c⟩:=zC c
   refine aEe rfl rfl (aEd H 8 rfl u38 sz3 rfl rfl bz) ?_
   rintro ap H
   refine zG (zN rfl)<| zG (vI rfl)<| yP rfl (xE H 0 rfl aKw rfl (v:=ap) rfl (nI (H.item (i:=8) rfl)) rfl) ?_
   rintro da H
   obtain rfl:=gI c
   exact (yA (zF (meet ⟨(ap,ao),zK,H.pick [0,3,8,1,2,4,5,6]⟩)))
  have c:=zQ M c
  obtain rfl:=gI c
  exact (zX (zF (meet ⟨(t,af),zK,H.pick [0,3,8,1,2,4,5,6]⟩)))
 rintro ⟨Q,R⟩ ρ db H
 have c:=bi
 obtain ⟨dc,dd⟩:=L
 refine zB fun de b0=>?_
 refine yD ?_
 refine zB fun df b1=>?_
 have b2:=H
 have H:=H.rebase
 have dg:=H
 refine xU H [0,1,2,3,4,5,6,7] (kz [0,1,0,0,0,1,0,0]) mixed ?_
 obtain ⟨aq,ar,c⟩:=zC c
 refine XP (fun _ _=>mP (X:=A) aKy sz3 rfl rfl ar)<| MxM.wJ oS rfl rfl rfl (fun y s=>pW (v:=i6 aq) fM rfl (Cells.ix (e:=(Fl.int .i64)) (x:=A) (Blk.cells ((H.sees s).item (i:=7) rfl)) ar))<| XM (gV k)<| XP (fun _ _=>zN rfl)<| XP (fun _ _=>aQk rfl)<| XR fM H 0 1 rfl rfl ?_
 obtain ⟨au,b3,c⟩:=zD c
 refine XP (fun _ _=>zL (kZ (a:=aq) (b:=d.n) rfl rfl) b3)<| XP (fun _ _=>xN (v:= .bool au) rfl)<| MxM.xK fun dh hS=>?_
 have H:=H.sees hS
 have H:=b2.rejoin H
 refine (zF (b1 _ _ ?_))
 refine zY (b:=au) rfl (fun T=>?_) (fun T=>?_)
 ·have c:=zO T c
  refine zB fun di b4=>zA<| zI (i6 2)<| RN b4 ?_
  obtain rfl:=gI c
  refine (zW (yE (zV (fC (v1:=i6 2) rfl rfl ?_))))
  exact ⟨l,z,Q,R,rfl,H.pick [1,2,0,5,6]⟩
 have c:=zQ T c
 refine zB fun dj b5=>?_
 have b6:=H
 have H:=H.rebase
 have dk:=H
 refine xU H [0,1,2,3,4,5,6,7,8,9,10,11,12] (kz [0,1,0,0,0,1,0,0,0,1,0,0,0]) mixed ?_
 obtain ⟨av,aw,c⟩:=zC c
 refine XP (fun _ _=>mP (X:=A) aKy sz3 rfl rfl aw)<| MxM.wJ oS rfl rfl rfl (fun y s=>pW (v:=i6 av) fM rfl (Cells.ix (e:=(Fl.int .i64)) (x:=A) (Blk.cells ((H.sees s).item (i:=7) rfl)) aw))<| XM (gV k)<| XP (fun _ _=>zN rfl)<| XP (fun _ _=>aRf rfl)<| XR fM H 0 2 rfl rfl<| XM (gV k)<| XP (fun _ _=>zN rfl) ?_
 refine XP (fun _ _=>aQk rfl)<| XR fM H 0 1 rfl rfl ?_
 obtain ⟨b7,b8,c⟩:=zD c
 refine XP (fun _ _=>jO (a:=d.frames) (b:=d.n) rfl rfl b8) ?_
 obtain ⟨ax,b9,c⟩:=zD c
 refine XP (fun _ _=>zL (aI (a:=av) (b:=b7) rfl rfl) b9)<| XP (fun _ _=>xN (v:= .bool ax) rfl)<| MxM.xK fun dl hS=>?_
 have H:=H.sees hS
 have H:=b6.rejoin H
 refine (zF (b5 _ _ ?_))
 refine zY (b:=ax) rfl (fun U=>?_) (fun U=>?_)
 ·have c:=zO U c
  refine zB fun dm ca=>zA<| zI (i6 1)<| RN ca ?_
  obtain rfl:=gI c
  refine (zW (yE (zV (fC (v1:=i6 1) rfl rfl ?_))))
  exact ⟨l,z,Q,R,rfl,H.pick [1,2,0,5,6]⟩
 have c:=zQ U c
 refine (zX (yH (zF (b0 _ _ ?_))))
 refine zB fun dn cb=>zA<| zI (i6 0)<| RN cb ?_
 obtain rfl:=gI c
 refine (zW (fC (v1:=i6 0) rfl rfl ?_))
 exact ⟨l,z,Q,R,rfl,H.pick [1,2,0,5,6]⟩
set_option maxRecDepth 100000 in
theorem Fbfw (rfI:Nd→gJ→Option (Int×Nd))(rhI:Fay rfI)(f:aC)(d:gJ)(o:Nat)(l:Value)(z:List Nat)(m:Value)(x:List Nat)(n:Nat)(h:Value)(j:Value)(k:Value)(r:Int×aC)(c:Fbf rfI f d=some r)(O S:List Nat)(w:World)(H:Hd O w w S [.tr fG [l] z f.while_,.tr fG [m] x f.from_,.blk o [l,m,i6 f.last,.bool f.begun] 255,.own (Rp.int .i64) k 3 d.rules,.blk n [h,j,k] 222,f1 gY h d.told,f1 Rp.bool j d.possible]):
  Cl 321 [gV o,gV n] w fun e s=> ∃K U L V,e= .returned (i6 r.1)∧Hd O w s S [.tr fG [K] U r.2.while_,.tr fG [L] V r.2.from_,.blk o [K,L,i6 r.2.last,.bool r.2.begun] 255,.own (Rp.int .i64) k 3 d.rules,.blk n [h,j,k] 222]:=by
 unfold Fbf at c
 refine CW 56 Tryz.func321 ?_
 refine zB fun a4 X=>zA<| zI (i6 0)<| RN X<| zB fun a5 Y=>?_
 have Z:=H
 have H:=H.rebase
 have aa:=H
 have M:Hd (O++bks (rest [0,1,3,4] [.tr fG [l] z f.while_,.tr fG [m] x f.from_,.blk o [l,m,i6 f.last,.bool f.begun] 255,.own (Rp.int .i64) k 3 d.rules,.blk n [h,j,k] 222,f1 gY h d.told,f1 Rp.bool j d.possible])) w w (bks (Go.Lf.pick ([0,1,3,4]++ [5,6]) [.tr fG [l] z f.while_,.tr fG [m] x f.from_,.blk o [l,m,i6 f.last,.bool f.begun] 255,.own (Rp.int .i64) k 3 d.rules,.blk n [h,j,k] 222,f1 gY h d.told,f1 Rp.bool j d.possible])) [.tr fG [l] z f.while_,.tr fG [m] x f.from_,.own (Rp.int .i64) k 3 d.rules,.blk n [h,j,k] 222,f1 gY h d.told,f1 Rp.bool j d.possible]:=H.enter [0,1,3,4] [5,6]
 have N:=H.firmB M (i:=2) rfl (List.mem_append_right _ List.mem_cons_self)
 have H:=M
 refine WP_mix H [0,1,2,3,4,6,7,8,9,10,5,11,12,13] (kz [0,0,0,0,0,3,0,0,0,0,0,3,0,0]) mixed ?_
 refine XM (gV o)<| XP (fun _ _=>zN rfl)<| XP (fun _ _=>fa255_0 rfl)<| XP (fun s p=>xG kV rfl (Cells.get (Blk.cells (N s p)) (i:=0) rfl))<| XM (gV n)<| XM (gV o)<| XP (fun _ _=>zN rfl)<| XP (fun _ _=>fa255_1 rfl)<| XP (fun s p=>xG kV rfl (Cells.get (Blk.cells (N s p)) (i:=1) rfl))<| XM (gV n) ?_
 obtain ⟨ab,ac,P⟩:=Fam (H.item (i:=0) rfl)
 obtain ⟨q,ad,c⟩:=zC c
 refine MxM.XL_effC oS rfl rfl rfl (fun s p=>nN P rfl rfl) (fun s p=>rhI f.while_ (gJ.mk d.told d.possible d.rules) l z n h j k ab ac P _ ad _ _ _ ((H.sees p).enter [0,2,3] [4,5])) ?_
 rintro s _ ae p ⟨u,rfl,af⟩
 have H:Hd _ _ ae _ [.tr fG [m] x f.from_,f1 gY h d.told,f1 Rp.bool j d.possible,.tr fG [l] u q.2,.own (Rp.int .i64) k 3 d.rules,.blk n [h,j,k] 222]:=(H.sees p).back [0,2,3] [4,5] rfl af
 refine ⟨_,rfl,H.only,?_⟩
 obtain ⟨ag,ah,Q⟩:=Fam (H.item (i:=0) rfl)
 obtain ⟨t,ai,c⟩:=zC c
 refine MxM.XL_effC oS rfl rfl rfl (fun s p=>nN Q rfl rfl) (fun s p=>rhI f.from_ (gJ.mk d.told d.possible d.rules) m x n h j k ag ah Q _ ai _ _ _ ((H.sees p).enter [0,4,5] [1,2])) ?_
 rintro s _ aj p ⟨y,rfl,ak⟩
 have H:Hd _ _ aj _ [f1 gY h d.told,f1 Rp.bool j d.possible,.tr fG [l] u q.2,.tr fG [m] y t.2,.own (Rp.int .i64) k 3 d.rules,.blk n [h,j,k] 222]:=(H.sees p).back [0,4,5] [1,2] rfl ak
 refine ⟨_,rfl,H.only,?_⟩
 refine XP (fun _ _=>xN (v:=i6 q.1) rfl)<| XP (fun _ _=>xN (v:=i6 t.1) rfl)<| MxM.xK fun al hS=>?_
 have H:=H.sees hS
 have H:=aa.back [0,1,3,4] [5,6] rfl H
 have H:Hd _ _ _ _ [.blk o [l,m,i6 f.last,.bool f.begun] 255,f1 gY h d.told,f1 Rp.bool j d.possible,f1 gY h d.told,f1 Rp.bool j d.possible,.tr fG [l] u q.2,.tr fG [m] y t.2,.own (Rp.int .i64) k 3 d.rules,.blk n [h,j,k] 222]:=H
 have H:Hd O w al (bks [.tr fG [l] z f.while_,.tr fG [m] x f.from_,.blk o [l,m,i6 f.last,.bool f.begun] 255,.own (Rp.int .i64) k 3 d.rules,.blk n [h,j,k] 222,f1 gY h d.told,f1 Rp.bool j d.possible]) [.blk o [l,m,i6 f.last,.bool f.begun] 255,f1 gY h d.told,f1 Rp.bool j d.possible,.tr fG [l] u q.2,.tr fG [m] y t.2,.own (Rp.int .i64) k 3 d.rules,.blk n [h,j,k] 222]:=H.pick [0,3,4,5,6,7,8]
 have H:=Z.rejoin H
 refine (zF (Y _ _ ?_))
 refine zB fun a6 am=>zA<| zI (i6 0)<| RN am ?_
 obtain ⟨A,c,an⟩:=zC c
 refine yK [7,20,21,22,23,24,25,26,27,28,29,30,31,32,33,34,35,36,37,38,39,40,41,42,43,44,45,46,47] (fun (g:Unit)=>[(7,i6 A)]) (fun g wl=>Hd O w wl S [.blk o [l,m,i6 f.last,.bool f.begun] 255,f1 gY h d.told,f1 Rp.bool j d.possible,.tr fG [l] u q.2,.tr fG [m] y t.2,.own (Rp.int .i64) k 3 d.rules,.blk n [h,j,k] 222]) ?_ ?_
 ·skip
  refine yD ?_
  obtain ⟨R,c,ao⟩:=zC c
  refine yK [20,21,22,23,24,25,26,27,28,29,30,31,32,33] (fun (g:Unit)=>[(20,.bool R)]) (fun g wl=>Hd O w wl S [.blk o [l,m,i6 f.last,.bool f.begun] 255,f1 gY h d.told,f1 Rp.bool j d.possible,.tr fG [l] u q.2,.tr fG [m] y t.2,.own (Rp.int .i64) k 3 d.rules,.blk n [h,j,k] 222]) ?_ ?_
  ·skip
   refine zA ?_
   refine zH (i6 t.1) ?_
   obtain ⟨ap,aq,c⟩:=zD c
   refine zG (zL (yR (a:=t.1) (b:=2) rfl rfl) aq)<| yS (b:=ap) rfl rfl rfl (fun B=>?_) (fun B=>?_)
   ·have c:=zO B c
    refine yG ?_
    refine yG ?_
    refine yG ?_
    refine yG ?_
    refine yG ?_
    refine yG ?_
    refine yG ?_
    refine yG ?_
    refine yG ?_
    refine zG (yO (v:= .bool true) rfl rfl)<| zI (.bool true) ?_
    obtain rfl:=gI c
    exact (yA (zF (meet ⟨(),(zJ rfl zK),H.pick [0,1,2,3,4,5,6]⟩)))
   have c:=zQ B c
   refine zH (i6 q.1) ?_
   obtain ⟨ar,au,c⟩:=zD c
   refine zG (zL (yR (a:=q.1) (b:=2) rfl rfl) au)<| yS (b:=ar) rfl rfl rfl (fun C=>?_) (fun C=>?_)
   ·have c:=zO C c
    refine zH (gV o)<| zG (zN rfl)<| zG (aKl rfl)<| Ld fM H 0 2 rfl rfl ?_
    obtain ⟨D,av,c⟩:=zD c
    refine zG (zL (yR (a:=f.last) (b:=2) rfl rfl) av)<| zG (yO (v:= .bool D) rfl rfl)<| zG (yM (v:= .bool D) rfl rfl)<| zI (.bool D) ?_
    obtain rfl:=gI c
    exact (yA (zF (meet ⟨(),(zJ rfl zK),H.pick [0,1,2,3,4,5,6]⟩)))
   have c:=zQ C c
   refine yG ?_
   refine yG ?_
   refine yG ?_
   refine yG ?_
   refine yG ?_
   refine zG (yM (v:= .bool false) rfl rfl)<| zG (yM (v:= .bool false) rfl rfl)<| zI (.bool false) ?_
   obtain rfl:=gI c
   exact (yA (zF (meet ⟨(),(zJ rfl zK),H.pick [0,1,2,3,4,5,6]⟩)))
  rintro _ ρ a7 H
  have c:=ao
  refine zY (b:=R) rfl (fun E=>?_) (fun E=>?_)
  ·have c:=zO E c
   refine zA ?_
   refine zI (i6 2) ?_
   obtain rfl:=gI c
   exact (yA (yH (zF (meet ⟨(),(zJ rfl zK),H.pick [0,1,2,3,4,5,6]⟩))))
  have c:=zQ E c
  obtain ⟨T,c,aw⟩:=zC c
  refine yK [34,35,36,37,38,39,40,41,42,43,44,45,46,47] (fun (g:Unit)=>[(34,.bool T)]) (fun g wl=>Hd O w wl S [.blk o [l,m,i6 f.last,.bool f.begun] 255,f1 gY h d.told,f1 Rp.bool j d.possible,.tr fG [l] u q.2,.tr fG [m] y t.2,.own (Rp.int .i64) k 3 d.rules,.blk n [h,j,k] 222]) ?_ ?_
  ·skip
   refine zA ?_
   refine zH (i6 t.1) ?_
   obtain ⟨ax,ay,c⟩:=zD c
   refine zG (zL (yR (a:=t.1) (b:=1) rfl rfl) ay)<| yS (b:=ax) rfl rfl rfl (fun F=>?_) (fun F=>?_)
   ·have c:=zO F c
    refine zH (i6 q.1) ?_
    obtain ⟨az,a0,c⟩:=zD c
    refine zG (zL (yR (a:=q.1) (b:=1) rfl rfl) a0)<| yS (b:=az) rfl rfl rfl (fun G=>?_) (fun G=>?_)
    ·have c:=zO G c
     refine yG ?_
     refine yG ?_
     refine yG ?_
     refine yG ?_
     refine yG ?_
     refine zG (yO (v:= .bool true) rfl rfl)<| zG (yO (v:= .bool true) rfl rfl)<| zI (.bool true) ?_
     obtain rfl:=gI c
     exact (yA (zF (meet ⟨(),(zJ rfl zK),H.pick [0,1,2,3,4,5,6]⟩)))
    have c:=zQ G c
    refine zH (gV o)<| zG (zN rfl)<| zG (aKl rfl)<| Ld fM H 0 2 rfl rfl ?_
    obtain ⟨I,a1,c⟩:=zD c
    refine zG (zL (yR (a:=f.last) (b:=1) rfl rfl) a1)<| zG (yM (v:= .bool I) rfl rfl)<| zG (yO (v:= .bool I) rfl rfl)<| zI (.bool I) ?_
    obtain rfl:=gI c
    exact (yA (zF (meet ⟨(),(zJ rfl zK),H.pick [0,1,2,3,4,5,6]⟩)))
   have c:=zQ F c
   refine yG ?_
   refine yG ?_
   refine yG ?_
   refine yG ?_
   refine yG ?_
   refine yG ?_
   refine yG ?_
   refine yG ?_
   refine yG ?_
   refine zG (yM (v:= .bool false) rfl rfl)<| zI (.bool false) ?_
   obtain rfl:=gI c
   exact (yA (zF (meet ⟨(),(zJ rfl zK),H.pick [0,1,2,3,4,5,6]⟩)))
  rintro _ ρ a8 H
  have c:=aw
  refine zY (b:=T) rfl (fun J=>?_) (fun J=>?_)
  ·have c:=zO J c
   refine zA ?_
   refine zI (i6 1) ?_
   obtain rfl:=gI c
   exact (yA (yH (zF (meet ⟨(),(zJ rfl zK),H.pick [0,1,2,3,4,5,6]⟩))))
  have c:=zQ J c
  obtain rfl:=gI c
  exact (zX (yH (zF (meet ⟨(),(zJ rfl zK),H.pick [0,1,2,3,4,5,6]⟩))))
 rintro _ ρ a9 H
 have c:=an
 refine zB fun ba a2=>zA<| zH (gV o)<| zH (gV o)<| zH (i6 A)<| zG (zN rfl)<| zG (aKl rfl)<| yP rfl (xE H 0 rfl sz3 rfl (v:=i6 A) rfl rfl rfl) ?_
 rintro bb H
 refine zG (zN rfl)<| zG (fa255_3 rfl)<| yP rfl (xE H 0 rfl sz4 rfl (v:= .bool true) rfl rfl rfl) ?_
 rintro bc H
 refine RN a2<| zB fun bd a3=>zA<| zH (i6 A)<| zI (i6 A)<| RN a3 ?_
 obtain rfl:=gI c
 refine (zW (fC (v1:=i6 A) rfl rfl ?_))
 exact ⟨l,u,m,y,rfl,H.pick [3,4,0,5,6]⟩
set_option maxRecDepth 100000 in
theorem Fbiw (rfI:Nd→gJ→Option (Int×Nd))(rhI:Fay rfI)(f:bZ)(d:gJ)(j:Nat)(k:Value)(y:List Nat)(o:Nat)(l:Value)(m:Value)(h:Value)(r:Int×bZ)(c:Fbi rfI f d=some r)(O S:List Nat)(w:World)(H:Hd O w w S [.tr fG [k] y f.kid,.blk j [k,i6 f.last,.bool f.begun] 258,.own (Rp.int .i64) h 3 d.rules,.blk o [l,m,h] 222,f1 gY l d.told,f1 Rp.bool m d.possible]):
  Cl 323 [gV j,gV o] w fun e F=> ∃z G,e= .returned (i6 r.1)∧Hd O w F S [.tr fG [z] G r.2.kid,.blk j [z,i6 r.2.last,.bool r.2.begun] 258,.own (Rp.int .i64) h 3 d.rules,.blk o [l,m,h] 222]:=by
 unfold Fbi at c
 refine CW 41 Tryz.func323 ?_
 refine zB fun ae I=>zA<| zI (i6 0)<| RN I<| zB fun af J=>zA<| zH (gV j)<| zG (zN rfl)<| zG (fa258_0 rfl)<| Ld kV H 1 0 rfl rfl<| zH (gV o) ?_
 obtain ⟨K,L,A⟩:=Fam (H.item (i:=0) rfl)
 obtain ⟨n,M,c⟩:=zC c
 refine zZ rfl rfl (nN A rfl rfl) (rhI f.kid (gJ.mk d.told d.possible d.rules) k y o l m h K L A _ M _ _ _ (H.enter [0,2,3] [4,5])) ?_
 rintro _ N ⟨p,rfl,P⟩
 have H:Hd _ _ N _ [.blk j [k,i6 f.last,.bool f.begun] 258,f1 gY l d.told,f1 Rp.bool m d.possible,.tr fG [k] p n.2,.own (Rp.int .i64) h 3 d.rules,.blk o [l,m,h] 222]:=H.back [0,2,3] [4,5] rfl P
 refine ⟨_,rfl,?_⟩
 refine zI (i6 n.1)<| RN J<| zB fun ag Q=>zA<| zI (i6 0)<| RN Q ?_
 obtain ⟨q,c,R⟩:=zC c
 refine yK [6,13,14,15,16,17,18,19,20,21,22,23,24,25,26,27,28,29,30,31,32] (fun (g:Unit)=>[(6,i6 q)]) (fun g wl=>Hd O w wl S [.blk j [k,i6 f.last,.bool f.begun] 258,f1 gY l d.told,f1 Rp.bool m d.possible,.tr fG [k] p n.2,.own (Rp.int .i64) h 3 d.rules,.blk o [l,m,h] 222]) ?_ ?_
 ·skip
  refine yD ?_
  obtain ⟨B,c,T⟩:=zC c
  refine yK [13,14,15,16,17,18,19,20,21,22] (fun (g:Unit)=>[(13,.bool B)]) (fun g wl=>Hd O w wl S [.blk j [k,i6 f.last,.bool f.begun] 258,f1 gY l d.told,f1 Rp.bool m d.possible,.tr fG [k] p n.2,.own (Rp.int .i64) h 3 d.rules,.blk o [l,m,h] 222]) ?_ ?_
  ·skip
   refine zA ?_
   refine zH (i6 n.1) ?_
   obtain ⟨U,V,c⟩:=zD c
   refine zG (zL (yR (a:=n.1) (b:=2) rfl rfl) V)<| yS (b:=U) rfl rfl rfl (fun s=>?_) (fun s=>?_)
   ·have c:=zO s c
    refine zH (gV j)<| zG (zN rfl)<| zG (aKm rfl)<| Ld fM H 0 1 rfl rfl ?_
    obtain ⟨C,X,c⟩:=zD c
    refine zG (zL (yR (a:=f.last) (b:=1) rfl rfl) X)<| zG (yO (v:= .bool C) rfl rfl)<| zI (.bool C) ?_
    obtain rfl:=gI c
    exact (yA (zF (meet ⟨(),(zJ rfl zK),H.pick [0,1,2,3,4,5]⟩)))
   have c:=zQ s c
   refine yG ?_
   refine yG ?_
   refine yG ?_
   refine yG ?_
   refine yG ?_
   refine zG (yM (v:= .bool false) rfl rfl)<| zI (.bool false) ?_
   obtain rfl:=gI c
   exact (yA (zF (meet ⟨(),(zJ rfl zK),H.pick [0,1,2,3,4,5]⟩)))
  rintro _ ρ ah H
  have c:=T
  refine zY (b:=B) rfl (fun t=>?_) (fun t=>?_)
  ·have c:=zO t c
   refine zA ?_
   refine zI (i6 2) ?_
   obtain rfl:=gI c
   exact (yA (yH (zF (meet ⟨(),(zJ rfl zK),H.pick [0,1,2,3,4,5]⟩))))
  have c:=zQ t c
  obtain ⟨D,c,Y⟩:=zC c
  refine yK [23,24,25,26,27,28,29,30,31,32] (fun (g:Unit)=>[(23,.bool D)]) (fun g wl=>Hd O w wl S [.blk j [k,i6 f.last,.bool f.begun] 258,f1 gY l d.told,f1 Rp.bool m d.possible,.tr fG [k] p n.2,.own (Rp.int .i64) h 3 d.rules,.blk o [l,m,h] 222]) ?_ ?_
  ·skip
   refine zA ?_
   refine zH (i6 n.1) ?_
   obtain ⟨Z,aa,c⟩:=zD c
   refine zG (zL (yR (a:=n.1) (b:=1) rfl rfl) aa)<| yS (b:=Z) rfl rfl rfl (fun u=>?_) (fun u=>?_)
   ·have c:=zO u c
    refine yG ?_
    refine yG ?_
    refine yG ?_
    refine yG ?_
    refine yG ?_
    refine zG (yO (v:= .bool true) rfl rfl)<| zI (.bool true) ?_
    obtain rfl:=gI c
    exact (yA (zF (meet ⟨(),(zJ rfl zK),H.pick [0,1,2,3,4,5]⟩)))
   have c:=zQ u c
   refine zH (gV j)<| zG (zN rfl)<| zG (aKm rfl)<| Ld fM H 0 1 rfl rfl ?_
   obtain ⟨E,ab,c⟩:=zD c
   refine zG (zL (yR (a:=f.last) (b:=2) rfl rfl) ab)<| zG (yM (v:= .bool E) rfl rfl)<| zI (.bool E) ?_
   obtain rfl:=gI c
   exact (yA (zF (meet ⟨(),(zJ rfl zK),H.pick [0,1,2,3,4,5]⟩)))
  rintro _ ρ ai H
  have c:=Y
  refine zY (b:=D) rfl (fun x=>?_) (fun x=>?_)
  ·have c:=zO x c
   refine zA ?_
   refine zI (i6 1) ?_
   obtain rfl:=gI c
   exact (yA (yH (zF (meet ⟨(),(zJ rfl zK),H.pick [0,1,2,3,4,5]⟩))))
  have c:=zQ x c
  obtain rfl:=gI c
  exact (zX (yH (zF (meet ⟨(),(zJ rfl zK),H.pick [0,1,2,3,4,5]⟩))))
 rintro _ ρ aj H
 have c:=R
 refine zB fun ak ac=>zA<| zH (gV j)<| zH (gV j)<| zH (i6 n.1)<| zG (zN rfl)<| zG (aKm rfl)<| yP rfl (xE H 0 rfl sz3 rfl (v:=i6 n.1) rfl rfl rfl) ?_
 rintro al H
 refine zG (zN rfl)<| zG (fa258_2 rfl)<| yP rfl (xE H 0 rfl sz4 rfl (v:= .bool true) rfl rfl rfl) ?_
 rintro am H
 refine RN ac<| zB fun an ad=>zA<| zH (i6 q)<| zI (i6 q)<| RN ad ?_
 obtain rfl:=gI c
 refine (zW (fC (v1:=i6 q) rfl rfl ?_))
 exact ⟨k,p,rfl,H.pick [3,0,4,5]⟩
theorem Fdsw (rfI:Nd→gJ→Option (Int×Nd))(rhI:Fay rfI)(z:Nd)(a:gJ)(A:Value)(j:List Nat)(h:Nat)(c:Value)(d:Value)(b:Value)(fid:FuncId)(rv:Value)(hm:mY Tryz.prog "orangebox/event.step" A fid rv)(r:Int×Nd)(i:Fds rfI z a=some r)(O S:List Nat)(w:World)(H:Hd O w w S [.tr fG [A] j z,.own (Rp.int .i64) b 3 a.rules,.blk h [c,d,b] 222,f1 gY c a.told,f1 Rp.bool d a.possible]):
  Calls Tryz.prog fid ([rv,gV h]:List Value).toArray w fun e w'=> ∃bs',e= .returned (i6 r.1)∧Hd O w w' S [.tr fG [A] bs' r.2,.own (Rp.int .i64) b 3 a.rules,.blk h [c,d,b] 222]:=by
 unfold Fds at i
 cases z with
 | constant B=>
  obtain rfl:=aBw H 0 rfl
  obtain ⟨rfl,rfl⟩:=hm.eq (dZ (p:=false) (by kernel_rfl) (by kernel_rfl) en325) w
  obtain ⟨x5,e6,i⟩:=zC i
  refine Calls.mono (Ffcw (mQ.mk B) (gJ.mk a.told a.possible a.rules) h c d b _ e6 _ _ _ (H.enter [1,2] [3,4])) ?_
  rintro _ w7 ⟨rfl,G8⟩
  have H:Hd _ _ w7 _ [.tr fG [(.iface 277 (.agg ([i6 B]:List Value).toArray))] j (.constant B),f1 gY c a.told,f1 Rp.bool d a.possible,.own (Rp.int .i64) b 3 a.rules,.blk h [c,d,b] 222]:=H.back [1,2] [3,4] rfl G8
  obtain rfl:=gI i
  exact ⟨j,rfl,H.pick [0,3,4]⟩
 | number C D E=>
  obtain rfl:=aFj H 0 rfl
  obtain ⟨rfl,rfl⟩:=hm.eq (dZ (p:=false) (by kernel_rfl) (by kernel_rfl) en327) w
  obtain ⟨cp,bk,i⟩:=zC i
  refine Calls.mono (Faxw (kF.mk C D E) (gJ.mk a.told a.possible a.rules) h c d b _ bk _ _ _ (H.enter [1,2] [3,4])) ?_
  rintro _ bl ⟨rfl,bm⟩
  have H:Hd _ _ bl _ [.tr fG [(.iface 279 (.agg ([i6 C,i6 D,i6 E]:List Value).toArray))] j (.number C D E),f1 gY c a.told,f1 Rp.bool d a.possible,.own (Rp.int .i64) b 3 a.rules,.blk h [c,d,b] 222]:=H.back [1,2] [3,4] rfl bm
  obtain rfl:=gI i
  exact ⟨j,rfl,H.pick [0,3,4]⟩
 | pair F G I J K=>
  obtain rfl:=aJt H 0 rfl
  obtain ⟨rfl,rfl⟩:=hm.eq (dZ (p:=false) (by kernel_rfl) (by kernel_rfl) en332) w
  obtain ⟨cq,bn,i⟩:=zC i
  refine Calls.mono (Favw (mG.mk F G I J K) (gJ.mk a.told a.possible a.rules) h c d b _ bn _ _ _ (H.enter [1,2] [3,4])) ?_
  rintro _ bo ⟨rfl,bp⟩
  have H:Hd _ _ bo _ [.tr fG [(.iface 281 (.agg ([i6 F,i6 G,i6 I,i6 J,i6 K]:List Value).toArray))] j (.pair F G I J K),f1 gY c a.told,f1 Rp.bool d a.possible,.own (Rp.int .i64) b 3 a.rules,.blk h [c,d,b] 222]:=H.back [1,2] [3,4] rfl bp
  obtain rfl:=gI i
  exact ⟨j,rfl,H.pick [0,3,4]⟩
 | steady Y Z aa ab=>
  obtain ⟨q,L,ac,rfl,H⟩:=aFh H 0 rfl
  have H:Hd _ _ _ _ [.own (Rp.int .i64) b 3 a.rules,.blk h [c,d,b] 222,f1 gY c a.told,f1 Rp.bool d a.possible,.tr (Rt.row (Rt.of gY) 148 []) [L] ac ab,.blk q [i6 Y,i6 Z,i6 aa,L] 241]:=H
  obtain ⟨rfl,rfl⟩:=hm.eq (dZ (p:=true) (by kernel_rfl) (by kernel_rfl) en310) w
  obtain ⟨⟨cr,l⟩,bq,i⟩:=zC i
  refine Calls.mono (Fa1w (dO.mk Y Z aa ab) (gJ.mk a.told a.possible a.rules) q L ac h c d b _ bq _ _ _ (H.enter [4,5,0,1] [2,3])) ?_
  rintro _ br ⟨ad,bt,rfl,bu⟩
  have H:Hd _ _ br _ [f1 gY c a.told,f1 Rp.bool d a.possible,.tr (Rt.row (Rt.of gY) 148 []) [ad] bt l.last,.blk q [i6 l.track,i6 l.n,i6 l.frames,ad] 241,.own (Rp.int .i64) b 3 a.rules,.blk h [c,d,b] 222]:=H.back [4,5,0,1] [2,3] rfl bu
  obtain ⟨ae,H⟩:=aAu H 2 3 rfl rfl (by decide)
  have H:Hd _ _ _ _ [f1 gY c a.told,f1 Rp.bool d a.possible,.own (Rp.int .i64) b 3 a.rules,.blk h [c,d,b] 222,.tr fG [(.iface 239 (gV q))] ae (.steady l.track l.n l.frames l.last)]:=H
  obtain rfl:=gI i
  exact ⟨ae,rfl,H.pick [4,2,3]⟩
 | phase M=>
  obtain rfl:=aGo H 0 rfl
  obtain ⟨rfl,rfl⟩:=hm.eq (dZ (p:=false) (by kernel_rfl) (by kernel_rfl) en335) w
  obtain ⟨cs,bv,i⟩:=zC i
  refine Calls.mono (Fa4w (kT.mk M) (gJ.mk a.told a.possible a.rules) h c d b _ bv _ _ _ (H.enter [1,2] [3,4])) ?_
  rintro _ bw ⟨rfl,bx⟩
  have H:Hd _ _ bw _ [.tr fG [(.iface 283 (.agg ([i6 M]:List Value).toArray))] j (.phase M),f1 gY c a.told,f1 Rp.bool d a.possible,.own (Rp.int .i64) b 3 a.rules,.blk h [c,d,b] 222]:=H.back [1,2] [3,4] rfl bx
  obtain rfl:=gI i
  exact ⟨j,rfl,H.pick [0,3,4]⟩
 | rule N=>
  obtain rfl:=aIv H 0 rfl
  obtain ⟨rfl,rfl⟩:=hm.eq (dZ (p:=false) (by kernel_rfl) (by kernel_rfl) en337) w
  obtain ⟨ct,bz,i⟩:=zC i
  refine Calls.mono (Fejw (vH.mk N) (gJ.mk a.told a.possible a.rules) h c d b _ bz _ _ _ (H.enter [1,2] [3,4])) ?_
  rintro _ b0 ⟨rfl,b1⟩
  have H:Hd _ _ b0 _ [.tr fG [(.iface 285 (.agg ([i6 N]:List Value).toArray))] j (.rule N),f1 gY c a.told,f1 Rp.bool d a.possible,.own (Rp.int .i64) b 3 a.rules,.blk h [c,d,b] 222]:=H.back [1,2] [3,4] rfl b1
  obtain rfl:=gI i
  exact ⟨j,rfl,H.pick [0,3,4]⟩
 | not af=>
  obtain ⟨s,P,ag,rfl,H⟩:=aNf H 0 rfl
  have H:Hd _ _ _ _ [.own (Rp.int .i64) b 3 a.rules,.blk h [c,d,b] 222,f1 gY c a.told,f1 Rp.bool d a.possible,.tr fG [P] ag af,.blk s [P] 248]:=H
  obtain ⟨rfl,rfl⟩:=hm.eq (dZ (p:=true) (by kernel_rfl) (by kernel_rfl) en316) w
  obtain ⟨⟨cu,ah⟩,b2,i⟩:=zC i
  refine Calls.mono (Fbsw rfI rhI (kN.mk af) (gJ.mk a.told a.possible a.rules) s P ag h c d b _ b2 _ _ _ (H.enter [4,5,0,1] [2,3])) ?_
  rintro _ b3 ⟨ai,b4,rfl,b5⟩
  have H:Hd _ _ b3 _ [f1 gY c a.told,f1 Rp.bool d a.possible,.tr fG [ai] b4 ah.kid,.blk s [ai] 248,.own (Rp.int .i64) b 3 a.rules,.blk h [c,d,b] 222]:=H.back [4,5,0,1] [2,3] rfl b5
  obtain ⟨aj,H⟩:=aHj H 2 3 rfl rfl (by decide)
  have H:Hd _ _ _ _ [f1 gY c a.told,f1 Rp.bool d a.possible,.own (Rp.int .i64) b 3 a.rules,.blk h [c,d,b] 222,.tr fG [(.iface 246 (gV s))] aj (.not ah.kid)]:=H
  obtain rfl:=gI i
  exact ⟨aj,rfl,H.pick [4,2,3]⟩
 | group ak al=>
  obtain ⟨t,Q,am,rfl,H⟩:=aGs H 0 rfl
  have H:Hd _ _ _ _ [.own (Rp.int .i64) b 3 a.rules,.blk h [c,d,b] 222,f1 gY c a.told,f1 Rp.bool d a.possible,.tr fO [Q] am ak,.blk t [Q,.bool al] 251]:=H
  obtain ⟨rfl,rfl⟩:=hm.eq (dZ (p:=true) (by kernel_rfl) (by kernel_rfl) en319) w
  obtain ⟨⟨cv,u⟩,b6,i⟩:=zC i
  refine Calls.mono (Fbrw rfI rhI (aA.mk ak al) (gJ.mk a.told a.possible a.rules) t Q am h c d b _ b6 _ _ _ (H.enter [4,5,0,1] [2,3])) ?_
  rintro _ b7 ⟨an,b8,rfl,b9⟩
  have H:Hd _ _ b7 _ [f1 gY c a.told,f1 Rp.bool d a.possible,.tr fO [an] b8 u.kids,.blk t [an,.bool u.any] 251,.own (Rp.int .i64) b 3 a.rules,.blk h [c,d,b] 222]:=H.back [4,5,0,1] [2,3] rfl b9
  obtain ⟨ao,H⟩:=aCi H 2 3 rfl rfl (by decide)
  have H:Hd _ _ _ _ [f1 gY c a.told,f1 Rp.bool d a.possible,.own (Rp.int .i64) b 3 a.rules,.blk h [c,d,b] 222,.tr fG [(.iface 249 (gV t))] ao (.group u.kids u.any)]:=H
  obtain rfl:=gI i
  exact ⟨ao,rfl,H.pick [4,2,3]⟩
 | count ap aq ar au av=>
  obtain ⟨v,R,aw,T,ax,rfl,H⟩:=aGr H 0 rfl
  have H:Hd _ _ _ _ [.own (Rp.int .i64) b 3 a.rules,.blk h [c,d,b] 222,f1 gY c a.told,f1 Rp.bool d a.possible,.tr fG [R] aw ap,.tr (Rt.row (Rt.of (Rp.int .i64)) 3 []) [T] ax au,.blk v ([R,i6 aq,i6 ar,T]++((Fl.arr 3 (Fl.int .i64)).f av)) 245]:=H
  obtain ⟨rfl,rfl⟩:=hm.eq (dZ (p:=true) (by kernel_rfl) (by kernel_rfl) en313) w
  obtain ⟨⟨cw,k⟩,ca,i⟩:=zC i
  refine Calls.mono (Fbcw rfI rhI (dJ.mk ap aq ar au av) (gJ.mk a.told a.possible a.rules) v R aw T ax h c d b _ ca _ _ _ (H.enter [4,5,6,0,1] [2,3])) ?_
  rintro _ cb ⟨ay,cc,az,cd,rfl,ce⟩
  have H:Hd _ _ cb _ [f1 gY c a.told,f1 Rp.bool d a.possible,.tr fG [ay] cc k.kid,.tr (Rt.row (Rt.of (Rp.int .i64)) 3 []) [az] cd k.last,.blk v ([ay,i6 k.n,i6 k.frames,az]++((Fl.arr 3 (Fl.int .i64)).f k.totals)) 245,.own (Rp.int .i64) b 3 a.rules,.blk h [c,d,b] 222]:=H.back [4,5,6,0,1] [2,3] rfl ce
  obtain ⟨a0,H⟩:=qL H 2 3 4 rfl rfl rfl (by decide)
  have H:Hd _ _ _ _ [f1 gY c a.told,f1 Rp.bool d a.possible,.own (Rp.int .i64) b 3 a.rules,.blk h [c,d,b] 222,.tr fG [(.iface 242 (gV v))] a0 (.count k.kid k.n k.frames k.last k.totals)]:=H
  obtain rfl:=gI i
  exact ⟨a0,rfl,H.pick [4,2,3]⟩
 | since a1 a2 a3 a4=>
  obtain ⟨x,U,a5,V,a6,rfl,H⟩:=aGt H 0 rfl
  have H:Hd _ _ _ _ [.own (Rp.int .i64) b 3 a.rules,.blk h [c,d,b] 222,f1 gY c a.told,f1 Rp.bool d a.possible,.tr fG [U] a5 a1,.tr fG [V] a6 a2,.blk x [U,V,i6 a3,.bool a4] 255]:=H
  obtain ⟨rfl,rfl⟩:=hm.eq (dZ (p:=true) (by kernel_rfl) (by kernel_rfl) en321) w
  obtain ⟨⟨cx,m⟩,cf,i⟩:=zC i
  refine Calls.mono (Fbfw rfI rhI (aC.mk a1 a2 a3 a4) (gJ.mk a.told a.possible a.rules) x U a5 V a6 h c d b _ cf _ _ _ (H.enter [4,5,6,0,1] [2,3])) ?_
  rintro _ cg ⟨a7,ch,a8,ci,rfl,cj⟩
  have H:Hd _ _ cg _ [f1 gY c a.told,f1 Rp.bool d a.possible,.tr fG [a7] ch m.while_,.tr fG [a8] ci m.from_,.blk x [a7,a8,i6 m.last,.bool m.begun] 255,.own (Rp.int .i64) b 3 a.rules,.blk h [c,d,b] 222]:=H.back [4,5,6,0,1] [2,3] rfl cj
  obtain ⟨a9,H⟩:=aCh H 2 3 4 rfl rfl rfl (by decide)
  have H:Hd _ _ _ _ [f1 gY c a.told,f1 Rp.bool d a.possible,.own (Rp.int .i64) b 3 a.rules,.blk h [c,d,b] 222,.tr fG [(.iface 252 (gV x))] a9 (.since m.while_ m.from_ m.last m.begun)]:=H
  obtain rfl:=gI i
  exact ⟨a9,rfl,H.pick [4,2,3]⟩
 | rises ba bb bc=>
  obtain ⟨y,X,bd,rfl,H⟩:=aGm H 0 rfl
  have H:Hd _ _ _ _ [.own (Rp.int .i64) b 3 a.rules,.blk h [c,d,b] 222,f1 gY c a.told,f1 Rp.bool d a.possible,.tr fG [X] bd ba,.blk y [X,i6 bb,.bool bc] 258]:=H
  obtain ⟨rfl,rfl⟩:=hm.eq (dZ (p:=true) (by kernel_rfl) (by kernel_rfl) en323) w
  obtain ⟨⟨cy,o⟩,ck,i⟩:=zC i
  refine Calls.mono (Fbiw rfI rhI (bZ.mk ba bb bc) (gJ.mk a.told a.possible a.rules) y X bd h c d b _ ck _ _ _ (H.enter [4,5,0,1] [2,3])) ?_
  rintro _ cl ⟨be,cm,rfl,cn⟩
  have H:Hd _ _ cl _ [f1 gY c a.told,f1 Rp.bool d a.possible,.tr fG [be] cm o.kid,.blk y [be,i6 o.last,.bool o.begun] 258,.own (Rp.int .i64) b 3 a.rules,.blk h [c,d,b] 222]:=H.back [4,5,0,1] [2,3] rfl cn
  obtain ⟨bf,H⟩:=aCr H 2 3 rfl rfl (by decide)
  have H:Hd _ _ _ _ [f1 gY c a.told,f1 Rp.bool d a.possible,.own (Rp.int .i64) b 3 a.rules,.blk h [c,d,b] 222,.tr fG [(.iface 256 (gV y))] bf (.rises o.kid o.last o.begun)]:=H
  obtain rfl:=gI i
  exact ⟨bf,rfl,H.pick [4,2,3]⟩
theorem Ffl:Fay (Fad):=by
 have h: ∀n,Fay (Fby n):=by
  intro n
  induction n with
  | zero=>intro b c d e f i j k fid rv hm r a; cases a
  | succ n ih=>intro b c d e f i j k fid rv hm r a; exact Fdsw (Fby n) ih b c d e f i j k fid rv hm r a
 exact h FU
set_option maxRecDepth 100000 in
theorem Fbpw (d:fF)(f:gJ)(s:Nat)(l:Value)(m:Value)(az:List Nat)(n:Value)(y:List Nat)(o:Value)(u:Nat)(j:Value)(k:Value)(h:Value)(r:fF)(c:Fbp d f=some r)(O S:List Nat)(w:World)(H:Hd O w w S [.tr fP [m] az d.moves,.tr fO [n] y d.rules,.blk s [l,i6 d.tracks,m,n,o] 146,.own (Rp.int .i64) h 3 f.rules,.blk u [j,k,h] 222,f1 Rp.str l d.phases,f1 Rp.bool o d.possible,f1 gY j f.told,f1 Rp.bool k f.possible]):
  Cl 141 [gV s,gV u] w fun e w'=> ∃a0 u22 bq u23 br u24,e= .returned (.tuple #[])∧Hd O w w' S [f1 Rp.str a0 r.phases,.tr fP [u22] bq r.moves,.tr fO [u23] br r.rules,f1 Rp.bool u24 r.possible,.blk s [a0,i6 r.tracks,u22,u23,u24] 146,.own (Rp.int .i64) h 3 f.rules,.blk u [j,k,h] 222]:=by
 unfold Fbp at c
 refine CW 94 Tryz.func141 ?_
 refine zB fun fd bt=>zA<| zI (.slice none 0 0)<| RN bt ?_
 obtain ⟨T,c,bu⟩:=zC c
 refine yK [4,6,13,14,15,16,17,18,19,20,21,22,23,24,25,26,27,28,29] (fun (g:Value×(List Nat))=>[(4,g.1)]) (fun g wl=>Hd O w wl S [.own (Rp.int .i64) g.1 3 T.1,.tr fP [m] g.2 T.2,.tr fO [n] y d.rules,.blk s [l,i6 d.tracks,m,n,o] 146,f1 Rp.str l d.phases,f1 Rp.bool o d.possible,.own (Rp.int .i64) h 3 f.rules,.blk u [j,k,h] 222,f1 gY j f.told,f1 Rp.bool k f.possible]) ?_ ?_
 ·skip
  refine zB fun fe bv=>zA<| zH (gV s)<| zG (zN rfl)<| zG (aDj rfl)<| Ld aOy H 2 2 rfl rfl ?_
  obtain ⟨bw,bx,c⟩:=zD c
  obtain ⟨ff,fg,bz⟩:=nV ((H.item (i:=0) rfl))
  refine zG (yJ (xO aQi bz) (congrArg (Value.int .i64) bx))<| zH (i6 0)<| RN bv<| yD ?_
  have H:=bY H (Rp.int .i64) 3
  unfold Fdd at c
  obtain ⟨b0,a1,b1,c⟩:=yT c
  refine xB [4,6,18,19,20,21,22,23,24,25,26,27,28,29] (fun (g:Nat×(List Int)×Int×(List fK)×Value×(List Nat))=>[(4,g.2.2.2.2.1),(18,i6 g.2.2.1)]) (fun g wl=>Hd O w wl S [.own (Rp.int .i64) g.2.2.2.2.1 3 g.2.1,.tr fP [m] g.2.2.2.2.2 g.2.2.2.1,.tr fO [n] y d.rules,.blk s [l,i6 d.tracks,m,n,o] 146,f1 Rp.str l d.phases,f1 Rp.bool o d.possible,.own (Rp.int .i64) h 3 f.rules,.blk u [j,k,h] 222,f1 gY j f.told,f1 Rp.bool k f.possible]∧fV b0 g.1 (g.2.1,g.2.2.1,g.2.2.2.1)=some T) (fun g=>g.1) (a1,[],0,d.moves,.slice none 0 0,az) (zJ rfl (zJ rfl zK)) ⟨H.pick [9,0,1,2,5,6,3,4,7,8],c⟩ ?_
  clear H c
  rintro ⟨a1,a2,M,U,V,b2⟩ ρ fh ⟨H,c⟩
  obtain ⟨b3,rfl,c⟩:=yZ c
  have c:=yY b1 c
  refine zB fun fi b4=>zA ?_
  obtain ⟨b5,b6,c⟩:=zD c
  refine zG (zL (xP (a:=M) (b:=bw) rfl rfl) b6)<| RN b4<| zB fun fj b7=>zY (b:=b5) rfl (fun ab=>?_) (fun ab=>?_)
  ·have c:=zO ab c
   refine zX (zF (b7 _ _ ?_))
   refine zB fun fk b8=>?_
   refine yD ?_
   refine zB fun fm b9=>zA ?_
   obtain ⟨t,N,c⟩:=zC c
   obtain ⟨fn,fo,fp,ac⟩:=jC (H.item (i:=1) rfl) N
   refine zG (xC aQi aHn ac rfl (yC N).1 (yC N).2.1 rfl rfl) ?_
   obtain ⟨fq,X,fr,H⟩:=H.focusV 1 rfl ac N rfl
   obtain ⟨B,a3,rfl,H⟩:=qV H 10 rfl
   have H:Hd _ _ _ _ [.own (Rp.int .i64) V 3 a2,.tr fO [n] y d.rules,.blk s [l,i6 d.tracks,m,n,o] 146,f1 Rp.str l d.phases,f1 Rp.bool o d.possible,.own (Rp.int .i64) h 3 f.rules,.blk u [j,k,h] 222,f1 gY j f.told,f1 Rp.bool k f.possible,.tr (Rt.row dA 172 [(M.toNat,[i6 t.from_,i6 t.to,B])]) [m] X U,.tr fG [B] a3 t.when]:=H
   refine zG (yJ (yF (cs:=[i6 t.from_,i6 t.to,B]) agg172 rfl aHn rfl (H.holeW 9 rfl ac N rfl dG)) rfl)<| yQ rfl rfl (xA aSl H) ?_
   rintro _ fs ⟨Y,rfl,H⟩
   refine yP rfl (yL (vs:=[i6 t.from_,i6 t.to,B]) H 11 rfl aHn rfl rfl rfl ⟨rfl,rfl,(nI (H.item (i:=10) rfl)),trivial⟩ rfl) ?_
   rintro ft H
   refine RN b9<| zA<| zH V<| zG (fa172_2 rfl)<| Ld kV H 11 2 rfl rfl<| zH (gV u) ?_
   obtain ⟨ca,cb,a4⟩:=Fam (H.item (i:=10) rfl)
   obtain ⟨F,cc,c⟩:=zC c
   refine zZ rfl rfl (nN a4 rfl rfl) (Ffl t.when (gJ.mk f.told f.possible f.rules) B a3 u j k h ca cb a4 _ cc _ _ _ (H.enter [10,5,6] [7,8])) ?_
   rintro _ cd ⟨a5,rfl,ce⟩
   have H:Hd _ _ cd _ [.own (Rp.int .i64) V 3 a2,.tr fO [n] y d.rules,.blk s [l,i6 d.tracks,m,n,o] 146,f1 Rp.str l d.phases,f1 Rp.bool o d.possible,f1 gY j f.told,f1 Rp.bool k f.possible,.tr (Rt.row dA 172 [(M.toNat,[i6 t.from_,i6 t.to,B])]) [m] X U,.blk Y [i6 t.from_,i6 t.to,B] 172,.tr fG [B] a5 F.2,.own (Rp.int .i64) h 3 f.rules,.blk u [j,k,h] 222]:=H.back [10,5,6] [7,8] rfl ce
   refine ⟨_,rfl,?_⟩
   obtain ⟨fu,cf,c⟩:=zD c
   subst cf
   refine yQ rfl rfl (aX (r:=(Rp.int .i64)) (xl:=[F.1]) (cs:=[i6 F.1]) u38 el3 (by decide) (by decide) rfl (xH (vs:=[i6 F.1]) (by decide) rfl rfl ⟨rfl,trivial⟩ rfl) H ⟨[i6 F.1],[],rfl,rfl,rfl⟩) ?_
   rintro ad fv H
   obtain ⟨Z,cg,c⟩:=zC c
   refine yQ rfl rfl (aJ H (i:=0) rfl u38 el3 rfl rfl (Sr.of_own (H.item (i:=12) rfl)) cg) ?_
   rintro P fw H
   refine zI P<| (yA (yH (zF (b8 _ _ ?_))))
   refine zA ?_
   obtain ⟨a6,ch,c⟩:=zD c
   refine zG (xM (a:=M) (b:=1) rfl rfl ch)<| zH (i6 a6) ?_
   have H:Hd _ _ _ _ [.own (Rp.int .i64) P 3 Z,.tr fO [n] y d.rules,.blk s [l,i6 d.tracks,m,n,o] 146,f1 Rp.str l d.phases,f1 Rp.bool o d.possible,f1 gY j f.told,f1 Rp.bool k f.possible,.tr (Rt.row dA 172 [(M.toNat,[i6 t.from_,i6 t.to,B])]) [m] X U,.blk Y [i6 t.from_,i6 t.to,B] 172,.tr fG [B] a5 F.2,.own (Rp.int .i64) h 3 f.rules,.blk u [j,k,h] 222,.own (Rp.int .i64) ad 3 ([F.1]:List Int)]:=H
   obtain ⟨ci,H⟩:=jM (x:=fK.mk t.from_ t.to F.2) H 9 rfl
   have H:Hd _ _ _ _ [.own (Rp.int .i64) P 3 Z,.tr fO [n] y d.rules,.blk s [l,i6 d.tracks,m,n,o] 146,f1 Rp.str l d.phases,f1 Rp.bool o d.possible,f1 gY j f.told,f1 Rp.bool k f.possible,.tr (Rt.row dA 172 [(M.toNat,[i6 t.from_,i6 t.to,B])]) [m] X U,.blk Y [i6 t.from_,i6 t.to,B] 172,.own (Rp.int .i64) h 3 f.rules,.blk u [j,k,h] 222,.own (Rp.int .i64) ad 3 ([F.1]:List Int),.tr dA [i6 t.from_,i6 t.to,B] ci (fK.mk t.from_ t.to F.2)]:=H
   obtain ⟨a7,cj,c⟩:=zC c
   obtain ⟨a8,H⟩:=H.unfocus 7 12 rfl rfl (by decide) rfl rfl cj
   have H:Hd _ _ _ _ [.own (Rp.int .i64) P 3 Z,.tr fO [n] y d.rules,.blk s [l,i6 d.tracks,m,n,o] 146,f1 Rp.str l d.phases,f1 Rp.bool o d.possible,f1 gY j f.told,f1 Rp.bool k f.possible,.blk Y [i6 t.from_,i6 t.to,B] 172,.own (Rp.int .i64) h 3 f.rules,.blk u [j,k,h] 222,.own (Rp.int .i64) ad 3 ([F.1]:List Int),.tr fP [m] a8 a7]:=H
   exact (yA (zF (meet ⟨(b3,Z,a6,a7,P,a8),(zJ rfl (zJ rfl zK)),⟨H.pick [0,11,1,2,3,4,8,9,5,6],c⟩,Nat.lt_succ_self _⟩)))
  have c:=zQ ab c
  obtain rfl:=gI c
  exact (xI (yI (yI (yV (zF (meet ⟨(V,b2),(zJ rfl zK),H.pick [0,1,2,3,4,5,6,7,8,9]⟩))))))
 rintro ⟨C,ck⟩ ρ fx H
 have c:=bu
 obtain ⟨E,D⟩:=T
 refine zB fun fy cl=>zA<| zH (gV s)<| zG (zN rfl)<| zG (aSp rfl)<| Ld jS H 3 0 rfl rfl ?_
 obtain ⟨f0,cm,c⟩:=zD c
 obtain ⟨f4,f5,cn⟩:=SlF.len ((H.item (i:=4) rfl))
 refine zG (yJ (xO u22 cn) (congrArg (Value.int .i64) cm)) ?_
 obtain ⟨co,cp,c⟩:=zC c
 refine yQ rfl rfl (aKh (r:=Rp.bool) (zv:= .bool false) uC el4 rfl (fun _ _=>rfl) rfl rfl cp H) ?_
 rintro z f6 H
 refine zI z<| RN cl ?_
 obtain ⟨a9,c,cq⟩:=zC c
 refine yK [8,9,10,11,12,36,37,38,39,40,41,42,43,44,45,46,47,48,49,50,51,52,53,54,55,56,57,58,59,60,61,62,63,64,65,66,67,68,69,70,71,72,73,74,75,76,77,78,79,80,81,82,83,84,85,86,87,88,89] (fun (g:(List Nat))=>[]) (fun g wl=>Hd O w wl S [.tr fP [m] g D,.tr fO [n] y d.rules,.blk s [l,i6 d.tracks,m,n,o] 146,f1 Rp.str l d.phases,f1 Rp.bool o d.possible,.own (Rp.int .i64) h 3 f.rules,.blk u [j,k,h] 222,f1 gY j f.told,f1 Rp.bool k f.possible,.own Rp.bool z 4 a9]) ?_ ?_
 ·skip
  refine zB fun f7 cr=>zA<| zH (gV s)<| zG (zN rfl)<| zG (aBk rfl)<| Ld aBt H 3 4 rfl rfl ?_
  obtain ⟨ct,cu,c⟩:=zD c
  obtain ⟨f8,f9,cv⟩:=SlF.len ((H.item (i:=5) rfl))
  refine zG (yJ (xO uC cv) (congrArg (Value.int .i64) cu))<| zH (i6 0)<| RN cr<| yD ?_
  unfold Fe4 at c
  obtain ⟨cw,ba,cx,c⟩:=yT c
  refine xB [8,9,10,11,12,41,42,43,44,45,46,47,48,49,50,51,52,53,54,55,56,57,58,59,60,61,62,63,64,65,66,67,68,69,70,71,72,73,74,75,76,77,78,79,80,81,82,83,84,85,86,87,88,89] (fun (g:Nat×Int×(List Bool)×(List Nat))=>[(41,i6 g.2.1)]) (fun g wl=>Hd O w wl S [.own (Rp.int .i64) C 3 E,.tr fP [m] g.2.2.2 D,.tr fO [n] y d.rules,.blk s [l,i6 d.tracks,m,n,o] 146,f1 Rp.str l d.phases,f1 Rp.bool o d.possible,.own (Rp.int .i64) h 3 f.rules,.blk u [j,k,h] 222,f1 gY j f.told,f1 Rp.bool k f.possible,.own Rp.bool z 4 g.2.2.1]∧fV cw g.1 (g.2.1,g.2.2.1)=some a9) (fun g=>g.1) (ba,0,co,ck) (zJ rfl zK) ⟨H.pick [0,1,2,3,4,5,6,7,8,9,10],c⟩ ?_
  clear H c
  rintro ⟨ba,I,cy,ae⟩ ρ ga ⟨H,c⟩
  obtain ⟨cz,rfl,c⟩:=yZ c
  have c:=yY cx c
  refine zB fun gb c0=>zA ?_
  obtain ⟨c1,c2,c⟩:=zD c
  refine zG (zL (xP (a:=I) (b:=ct) rfl rfl) c2)<| RN c0<| zB fun gc c3=>zY (b:=c1) rfl (fun af=>?_) (fun af=>?_)
  ·have c:=zO af c
   refine zX (zF (c3 _ _ ?_))
   obtain ⟨bb,c,c4⟩:=zC c
   refine yK [8,9,10,11,12,43,44,45,46,47,48,49,50,51,52,53,54,55,56,57,58,59,60,61,62,63,64,65,66,67,68,69,70,71,72,73,74,75,76,77,78,79,80,81,82,83,84,85,86,87,88] (fun (g:(List Nat))=>[]) (fun g wl=>Hd O w wl S [.own (Rp.int .i64) C 3 E,.tr fP [m] g D,.tr fO [n] y d.rules,.blk s [l,i6 d.tracks,m,n,o] 146,f1 Rp.str l d.phases,f1 Rp.bool o d.possible,.own (Rp.int .i64) h 3 f.rules,.blk u [j,k,h] 222,f1 gY j f.told,f1 Rp.bool k f.possible,.own Rp.bool z 4 bb]) ?_ ?_
   ·skip
    refine yD ?_
    refine zB fun gd c5=>zA<| zH (i6 I) ?_
    obtain ⟨aa,ag,c⟩:=zC c
    obtain ⟨c6,c7,ge,c8,c9,da,db,dc,dd⟩:=dI (H.item (i:=5) rfl) ag
    obtain rfl:c8= [.bool aa]:=da
    have H:=H.fz (.at c6 (c7+I.toNat * 1) _) ⟨db,dc,dd⟩
    refine zG (xC uC sz4 c9 rfl (yC ag).1 (yC ag).2.1 rfl rfl)<| zG (xG qY rfl (Cells.get (H.item (i:=11) rfl).2.2 (i:=0) rfl))<| zI (i6 I)<| zI (.bool aa)<| RN c5<| zB fun gf de=>zB fun gg df=>zA<| zH (.bool aa) ?_
    obtain ⟨dg,dh,c⟩:=zD c
    refine zG (zL (wH (p:=aa) rfl) dh)<| RN df<| zY (b:=dg) rfl (fun ah=>?_) (fun ah=>?_)
    ·have c:=zO ah c
     obtain rfl:=gI c
     exact (xI (yI (yV (zF (meet ⟨ae,zK,H.pick [0,1,2,3,4,5,6,7,8,9,10]⟩)))))
    have c:=zQ ah c
    refine zX (zF (de _ _ ?_))
    refine zB fun gh di=>zA<| zI (.bool true)<| RN di ?_
    obtain ⟨Q,c,dj⟩:=zC c
    refine yK [10,11,12,48,49,50,51,52,53,54,55,56,57,58,59,60,61,62,63,64,65,66,67,68,69,70,71,72,73,74,75,76,77,78] (fun (g:(List Nat))=>[(10,.bool Q.1)]) (fun g wl=>Hd O w wl S [.own (Rp.int .i64) C 3 E,.tr fP [m] g D,.tr fO [n] y d.rules,.blk s [l,i6 d.tracks,m,n,o] 146,f1 Rp.str l d.phases,f1 Rp.bool o d.possible,.own (Rp.int .i64) h 3 f.rules,.blk u [j,k,h] 222,f1 gY j f.told,f1 Rp.bool k f.possible,.own Rp.bool z 4 Q.2]) ?_ ?_
    ·skip
     refine zB fun gj dk=>zA<| zH (gV s)<| zG (zN rfl)<| zG (aDj rfl)<| Ld aOy H 3 2 rfl rfl ?_
     obtain ⟨dl,dm,c⟩:=zD c
     obtain ⟨gl,gm,dn⟩:=nV ((H.item (i:=1) rfl))
     refine zG (yJ (xO aQi dn) (congrArg (Value.int .i64) dm))<| zH (i6 0)<| RN dk<| yD ?_
     unfold Fco at c
     obtain ⟨dp,bc,dq,c⟩:=yT c
     refine xB [10,11,12,53,54,55,56,57,58,59,60,61,62,63,64,65,66,67,68,69,70,71,72,73,74,75,76,77,78] (fun (g:Nat×Int×(List Bool)×(List Nat))=>[(10,.bool true),(53,i6 g.2.1)]) (fun g wl=>Hd O w wl S [.own (Rp.int .i64) C 3 E,.tr fP [m] g.2.2.2 D,.tr fO [n] y d.rules,.blk s [l,i6 d.tracks,m,n,o] 146,f1 Rp.str l d.phases,f1 Rp.bool o d.possible,.own (Rp.int .i64) h 3 f.rules,.blk u [j,k,h] 222,f1 gY j f.told,f1 Rp.bool k f.possible,.own Rp.bool z 4 g.2.2.1]∧fV dp g.1 (g.2.1,g.2.2.1)=some Q) (fun g=>g.1) (bc,0,cy,ae) (zJ rfl (zJ rfl zK)) ⟨H.pick [0,1,2,3,4,5,6,7,8,9,10],c⟩ ?_
     clear H c
     rintro ⟨bc,G,J,dr⟩ ρ gn ⟨H,c⟩
     obtain ⟨ds,rfl,c⟩:=yZ c
     have c:=yY dq c
     refine zB fun go dt=>zA ?_
     obtain ⟨du,dv,c⟩:=zD c
     refine zG (zL (xP (a:=G) (b:=dl) rfl rfl) dv)<| RN dt<| zB fun gp dw=>zY (b:=du) rfl (fun ai=>?_) (fun ai=>?_)
     ·have c:=zO ai c
      refine zX (zF (dw _ _ ?_))
      obtain ⟨dx,dy,c⟩:=wI c
      refine yK [10,11,12,55,56,57,58,59,60,61,62,63,64,65,66,67,68,69,70,71,72,73,74,75,76,77] (fun (g:(List Bool)×(List Nat))=>[(10,.bool true)]) (fun g wl=>Hd O w wl S [.own (Rp.int .i64) C 3 E,.tr fP [m] g.2 D,.tr fO [n] y d.rules,.blk s [l,i6 d.tracks,m,n,o] 146,f1 Rp.str l d.phases,f1 Rp.bool o d.possible,.own (Rp.int .i64) h 3 f.rules,.blk u [j,k,h] 222,f1 gY j f.told,f1 Rp.bool k f.possible,.own Rp.bool z 4 g.1]∧dx g.1=some Q) ?_ ?_
      ·skip
       refine yD ?_
       refine zB fun gq dz=>zA<| zH (i6 G) ?_
       obtain ⟨q,K,c⟩:=zC c
       obtain ⟨gr,gs,gt,aj⟩:=jC (H.item (i:=1) rfl) K
       refine zG (xC aQi aHn aj rfl (yC K).1 (yC K).2.1 rfl rfl) ?_
       obtain ⟨gu,R,gv,H⟩:=H.focusV 1 rfl aj K rfl
       obtain ⟨A,ak,rfl,H⟩:=qV H 11 rfl
       have H:Hd _ _ _ _ [.own (Rp.int .i64) C 3 E,.tr fO [n] y d.rules,.blk s [l,i6 d.tracks,m,n,o] 146,f1 Rp.str l d.phases,f1 Rp.bool o d.possible,.own (Rp.int .i64) h 3 f.rules,.blk u [j,k,h] 222,f1 gY j f.told,f1 Rp.bool k f.possible,.own Rp.bool z 4 J,.tr (Rt.row dA 172 [(G.toNat,[i6 q.from_,i6 q.to,A])]) [m] R D,.tr fG [A] ak q.when]:=H
       refine zG (yJ (yF (cs:=[i6 q.from_,i6 q.to,A]) agg172 rfl aHn rfl (H.holeW 10 rfl aj K rfl dG)) rfl)<| yQ rfl rfl (xA aSl H) ?_
       rintro _ gw ⟨L,rfl,H⟩
       refine zI (i6 G)<| yP rfl (yL (vs:=[i6 q.from_,i6 q.to,A]) H 12 rfl aHn rfl rfl rfl ⟨rfl,rfl,(nI (H.item (i:=11) rfl)),trivial⟩ rfl) ?_
       rintro gx H
       refine RN dz<| zB fun gy d0=>?_
       obtain ⟨bd,c,d1⟩:=zC c
       refine yK [58,59,60,61,62,63,64,65,66,67,68] (fun (g:(List Nat))=>[(68,.bool bd)]) (fun g wl=>Hd O w wl S [.own (Rp.int .i64) C 3 E,.tr fO [n] y d.rules,.blk s [l,i6 d.tracks,m,n,o] 146,f1 Rp.str l d.phases,.tr fP [m] g D,f1 Rp.bool o d.possible,.own (Rp.int .i64) h 3 f.rules,.blk u [j,k,h] 222,f1 gY j f.told,f1 Rp.bool k f.possible,.own Rp.bool z 4 J,.blk L [i6 q.from_,i6 q.to,A] 172]) ?_ ?_
       ·skip
        refine zA ?_
        refine zG (fa172_0 rfl)<| Ld fM H 12 0 rfl rfl<| zH (i6 I) ?_
        obtain ⟨d2,d3,c⟩:=zD c
        refine zG (zL (dC (a:=q.from_) (b:=I) rfl rfl) d3)<| yS (b:=d2) rfl rfl rfl (fun al=>?_) (fun al=>?_)
        ·have c:=zO al c
         refine yG ?_
         refine yG ?_
         refine yG ?_
         refine yG ?_
         refine yG ?_
         refine zG (yO (v:= .bool true) rfl rfl) ?_
         have H:Hd _ _ _ _ [.own (Rp.int .i64) C 3 E,.tr fO [n] y d.rules,.blk s [l,i6 d.tracks,m,n,o] 146,f1 Rp.str l d.phases,f1 Rp.bool o d.possible,.own (Rp.int .i64) h 3 f.rules,.blk u [j,k,h] 222,f1 gY j f.told,f1 Rp.bool k f.possible,.own Rp.bool z 4 J,.tr (Rt.row dA 172 [(G.toNat,[i6 q.from_,i6 q.to,A])]) [m] R D,.tr fG [A] ak q.when,.blk L [i6 q.from_,i6 q.to,A] 172]:=H
         obtain ⟨d4,H⟩:=jM (x:=q) H 11 rfl
         have H:Hd _ _ _ _ [.own (Rp.int .i64) C 3 E,.tr fO [n] y d.rules,.blk s [l,i6 d.tracks,m,n,o] 146,f1 Rp.str l d.phases,f1 Rp.bool o d.possible,.own (Rp.int .i64) h 3 f.rules,.blk u [j,k,h] 222,f1 gY j f.told,f1 Rp.bool k f.possible,.own Rp.bool z 4 J,.tr (Rt.row dA 172 [(G.toNat,[i6 q.from_,i6 q.to,A])]) [m] R D,.blk L [i6 q.from_,i6 q.to,A] 172,.tr dA [i6 q.from_,i6 q.to,A] d4 q]:=H
         obtain ⟨be,H⟩:=H.unfocus0 10 12 rfl rfl (by decide) rfl rfl K
         have H:Hd _ _ _ _ [.own (Rp.int .i64) C 3 E,.tr fO [n] y d.rules,.blk s [l,i6 d.tracks,m,n,o] 146,f1 Rp.str l d.phases,f1 Rp.bool o d.possible,.own (Rp.int .i64) h 3 f.rules,.blk u [j,k,h] 222,f1 gY j f.told,f1 Rp.bool k f.possible,.own Rp.bool z 4 J,.blk L [i6 q.from_,i6 q.to,A] 172,.tr fP [m] be D]:=H
         obtain rfl:=gI c
         exact (yA (zF (meet ⟨be,(zJ rfl zK),H.pick [0,1,2,3,11,4,5,6,7,8,9,10]⟩)))
        have c:=zQ al c
        refine zH C<| zH (i6 G) ?_
        obtain ⟨bf,am,c⟩:=zC c
        obtain ⟨gz,g0,d5,d6,d7,d8⟩:=jD (H.item (i:=0) rfl) am
        obtain rfl:d5= [i6 bf]:=d7
        refine zG (xC u38 sz3 d6 rfl (yC am).1 (yC am).2.1 rfl rfl)<| zG (xG fM rfl (Cells.get d8 (i:=0) rfl)) ?_
        obtain ⟨d9,ea,c⟩:=zD c
        refine zG (zL (yR (a:=bf) (b:=1) rfl rfl) ea)<| zG (yM (v:= .bool d9) rfl rfl) ?_
        have H:Hd _ _ _ _ [.own (Rp.int .i64) C 3 E,.tr fO [n] y d.rules,.blk s [l,i6 d.tracks,m,n,o] 146,f1 Rp.str l d.phases,f1 Rp.bool o d.possible,.own (Rp.int .i64) h 3 f.rules,.blk u [j,k,h] 222,f1 gY j f.told,f1 Rp.bool k f.possible,.own Rp.bool z 4 J,.tr (Rt.row dA 172 [(G.toNat,[i6 q.from_,i6 q.to,A])]) [m] R D,.tr fG [A] ak q.when,.blk L [i6 q.from_,i6 q.to,A] 172]:=H
        obtain ⟨eb,H⟩:=jM (x:=q) H 11 rfl
        have H:Hd _ _ _ _ [.own (Rp.int .i64) C 3 E,.tr fO [n] y d.rules,.blk s [l,i6 d.tracks,m,n,o] 146,f1 Rp.str l d.phases,f1 Rp.bool o d.possible,.own (Rp.int .i64) h 3 f.rules,.blk u [j,k,h] 222,f1 gY j f.told,f1 Rp.bool k f.possible,.own Rp.bool z 4 J,.tr (Rt.row dA 172 [(G.toNat,[i6 q.from_,i6 q.to,A])]) [m] R D,.blk L [i6 q.from_,i6 q.to,A] 172,.tr dA [i6 q.from_,i6 q.to,A] eb q]:=H
        obtain ⟨bg,H⟩:=H.unfocus0 10 12 rfl rfl (by decide) rfl rfl K
        have H:Hd _ _ _ _ [.own (Rp.int .i64) C 3 E,.tr fO [n] y d.rules,.blk s [l,i6 d.tracks,m,n,o] 146,f1 Rp.str l d.phases,f1 Rp.bool o d.possible,.own (Rp.int .i64) h 3 f.rules,.blk u [j,k,h] 222,f1 gY j f.told,f1 Rp.bool k f.possible,.own Rp.bool z 4 J,.blk L [i6 q.from_,i6 q.to,A] 172,.tr fP [m] bg D]:=H
        obtain rfl:=gI c
        exact (yA (zF (meet ⟨bg,(zJ rfl zK),H.pick [0,1,2,3,11,4,5,6,7,8,9,10]⟩)))
       rintro an ρ g1 H
       have c:=d1
       refine zY (b:=bd) rfl (fun ao=>?_) (fun ao=>?_)
       ·have c:=zO ao c
        exact (xI (yI (yV (zF (meet ⟨(J,an),(zJ rfl zK),⟨H.pick [0,4,1,2,3,5,6,7,8,9,10],c⟩⟩)))))
       have c:=zQ ao c
       refine zX (zF (d0 _ _ ?_))
       refine zB fun g2 ec=>zA<| zH z<| zG (fa172_1 rfl)<| Ld fM H 11 1 rfl rfl ?_
       obtain ⟨ed,ap,c⟩:=zC c
       obtain ⟨g3,g4,ee,bh,ef,eg⟩:=jD (H.item (i:=10) rfl) ap
       obtain rfl:ee= [.bool ed]:=ef
       refine zG (xC uC sz4 bh rfl (yC ap).1 (yC ap).2.1 rfl rfl) ?_
       obtain ⟨eh,ei,c⟩:=zC c
       refine yP rfl (nO (vs:=[.bool true]) (off:=0) H 10 rfl bh eg rfl sz4 rfl rfl rfl (kS ⟨rfl,trivial⟩) ei (by decide) rfl rfl) ?_
       rintro g5 H
       refine RN ec<| zB fun g6 ej=>zA<| zH C<| zH (i6 G) ?_
       obtain ⟨bi,aq,c⟩:=zC c
       obtain ⟨g7,g8,ek,el,em,en⟩:=jD (H.item (i:=0) rfl) aq
       obtain rfl:ek= [i6 bi]:=em
       refine zG (xC u38 sz3 el rfl (yC aq).1 (yC aq).2.1 rfl rfl)<| zG (xG fM rfl (Cells.get en (i:=0) rfl)) ?_
       obtain ⟨eo,ep,c⟩:=zD c
       refine zG (zL (yR (a:=bi) (b:=2) rfl rfl) ep)<| RN ej<| zY (b:=eo) rfl (fun ar=>?_) (fun ar=>?_)
       ·have c:=zO ar c
        refine zB fun g9 er=>zA<| zI (.bool false)<| RN er ?_
        obtain rfl:=gI c
        exact (xI (blockQ_x rfl (yI (yI (yV (zF (meet ⟨an,(zJ rfl zK),H.pick [0,4,1,2,3,5,6,7,8,9,10]⟩)))))))
       have c:=zQ ar c
       exact (zX (yH (zF (meet ⟨(eh,an),(zJ rfl zK),⟨H.pick [0,4,1,2,3,5,6,7,8,9,10],c⟩⟩))))
      rintro ⟨es,et⟩ ρ ha ⟨H,c⟩
      have c:=dF dy c
      refine zA ?_
      obtain ⟨bj,eu,c⟩:=zD c
      refine zG (xM (a:=G) (b:=1) rfl rfl eu)<| zH (i6 bj) ?_
      exact (yA (zF (meet ⟨(ds,bj,es,et),(zJ rfl (zJ rfl zK)),⟨H.pick [0,1,2,3,4,5,6,7,8,9,10],c⟩,Nat.lt_succ_self _⟩)))
     have c:=zQ ai c
     obtain rfl:=gI c
     exact (xI (yI (yI (yV (zF (meet ⟨dr,(zJ rfl zK),H.pick [0,1,2,3,4,5,6,7,8,9,10]⟩))))))
    rintro bk ρ hb H
    have c:=dj
    obtain ⟨au,hc⟩:=Q
    refine zA ?_
    refine zH z<| zH (i6 I)<| zH z<| zH (i6 I) ?_
    obtain ⟨bl,av,c⟩:=zC c
    obtain ⟨he,hf,ew,ex,ey,ez⟩:=jD (H.item (i:=10) rfl) av
    obtain rfl:ew= [.bool bl]:=ey
    refine zG (xC uC sz4 ex rfl (yC av).1 (yC av).2.1 rfl rfl)<| zG (xG qY rfl (Cells.get ez (i:=0) rfl))<| yS (b:=bl) rfl rfl rfl (fun aw=>?_) (fun aw=>?_)
    ·have c:=zO aw c
     refine yG ?_
     refine zG (yO (v:= .bool true) rfl rfl) ?_
     obtain ⟨e0,ax,c⟩:=zC c
     obtain ⟨hg,hh,e1,bm,e2,e3⟩:=jD (H.item (i:=10) rfl) ax
     obtain rfl:e1= [.bool e0]:=e2
     refine zG (xC uC sz4 bm rfl (yC ax).1 (yC ax).2.1 rfl rfl) ?_
     obtain ⟨hi,e4,c⟩:=zC c
     refine yP rfl (nO (vs:=[.bool true]) (off:=0) H 10 rfl bm e3 rfl sz4 rfl rfl rfl (kS ⟨rfl,trivial⟩) e4 (by decide) rfl rfl) ?_
     rintro hj H
     obtain rfl:=gI c
     exact (yA (yH (zF (meet ⟨bk,zK,H.pick [0,1,2,3,4,5,6,7,8,9,10]⟩))))
    have c:=zQ aw c
    refine zH (.bool au)<| zG (yM (v:= .bool au) rfl rfl) ?_
    obtain ⟨e5,ay,c⟩:=zC c
    obtain ⟨hk,hl,e6,bn,e7,e8⟩:=jD (H.item (i:=10) rfl) ay
    obtain rfl:e6= [.bool e5]:=e7
    refine zG (xC uC sz4 bn rfl (yC ay).1 (yC ay).2.1 rfl rfl) ?_
    obtain ⟨hn,e9,c⟩:=zC c
    refine yP rfl (nO (vs:=[.bool au]) (off:=0) H 10 rfl bn e8 rfl sz4 rfl rfl rfl (kS ⟨rfl,trivial⟩) e9 (by decide) rfl rfl) ?_
    rintro ho H
    obtain rfl:=gI c
    exact (yA (yH (zF (meet ⟨bk,zK,H.pick [0,1,2,3,4,5,6,7,8,9,10]⟩))))
   rintro fa ρ hp H
   have c:=c4
   refine zA ?_
   obtain ⟨bo,fb,c⟩:=zD c
   refine zG (xM (a:=I) (b:=1) rfl rfl fb)<| zH (i6 bo) ?_
   exact (yA (zF (meet ⟨(cz,bo,bb,fa),(zJ rfl zK),⟨H.pick [0,1,2,3,4,5,6,7,8,9,10],c⟩,Nat.lt_succ_self _⟩)))
  have c:=zQ af c
  obtain rfl:=gI c
  exact (xI (yI (yI (yV (zF (meet ⟨ae,zK,H.pick [1,2,3,4,5,6,7,8,9,10]⟩))))))
 rintro fc ρ hq H
 have c:=cq
 refine zA ?_
 refine zH (gV s)<| zH z<| zG (zN rfl)<| zG (aBk rfl)<| yP rfl (xE H 2 rfl sz144 rfl (v:=z) rfl (bC (H.item (i:=9) rfl)) rfl) ?_
 rintro hr H
 have H:=H.freeze (i:=9) rfl
 obtain rfl:=gI c
 refine (yA (nJ rfl ?_))
 exact ⟨l,m,fc,n,y,z,rfl,H.pick [3,0,1,9,2,5,6]⟩
end Go.Proofs.YtckmiljbaejijaaGreatDoor.L
