/- Walks: what each function computes, for every argument; no condition but those that stand in the statements. -/
import Derived.Test.YtckmiljbaejijaaGreatDoorUV0
import Derived.Test.YtckmiljbaejijaaGreatDoorUV7
namespace Go.Proofs.YtckmiljbaejijaaGreatDoor.L
open Go.RowKit Go.OB Go.Lf
set_option maxHeartbeats 4000000
set_option maxRecDepth 100000 in
theorem Fbow (rfI:Nd→gG→Option (Int×Nd))(rhI:Fat rfI)(l:dY)(d:gG)(m:Nat)(k:Value)(A:List Nat)(n:Nat)(h:Value)(j:Value)(f:Value)(r:Int×dY)(c:Fbo rfI l d=some r)(O S:List Nat)(w:World)(H:Hd O w w S [.tr fK [k] A l.kids,.blk m [k,.bool l.any] 251,.own (Rp.int .i64) f 3 d.rules,.blk n [h,j,f] 222,f1 gQ h d.told,f1 Rp.bool j d.possible]):
  Calls Tryz.prog 319 ([gW m,gW n]:List Value).toArray w fun e w'=> ∃L ac,e= .returned (i6 r.1)∧Hd O w w' S [.tr fK [L] ac r.2.kids,.blk m [L,.bool r.2.any] 251,.own (Rp.int .i64) f 3 d.rules,.blk n [h,j,f] 222]:=by
 unfold Fbo at c
 refine zZ 38 Tryz.func319 rfl rfl rfl ?_
 refine zC fun bq ad=>zB<| zK (i6 0)<| zG (zA (ad _ _ ?_))
 refine zC fun br ae=>zB<| zK (i6 1)<| zK (i6 2)<| zG (zA (ae _ _ ?_))
 obtain ⟨B,c,af⟩:=zF c
 refine yH [5,6,10,11,12,13] (fun (g:Unit)=>[(5,i6 B.1),(6,i6 B.2)]) (fun g wl=>Hd O w wl S [.tr fK [k] A l.kids,.blk m [k,.bool l.any] 251,.own (Rp.int .i64) f 3 d.rules,.blk n [h,j,f] 222,f1 gQ h d.told,f1 Rp.bool j d.possible]) ?_ ?_
 ·skip
  refine zC fun bt ag=>zB<| zJ (gW m)<| zH (yA rfl)<| zH (fa251_1 rfl)<| Ld one4 H 1 1 rfl rfl<| zG (zA (ag _ _ ?_))
  refine zW (b:=l.any) rfl (fun C=>?_) (fun C=>?_)
  ·have c:=zN C c
   refine zB ?_
   refine zK (i6 2)<| zK (i6 1) ?_
   obtain rfl:=gI c
   exact (zG (zA (meet ⟨(),(zI rfl (zI rfl zL)),H.pick [0,1,2,3,4,5] (by decide)⟩)))
  have c:=zO C c
  obtain rfl:=gI c
  exact (zX (zA (meet ⟨(),(zI rfl (zI rfl zL)),H.pick [0,1,2,3,4,5] (by decide)⟩)))
 rintro _ ρ bu H
 have c:=af
 obtain ⟨y,u⟩:=B
 refine zC fun bv ah=>zB<| zJ (i6 u)<| zK (i6 u)<| zG (zA (ah _ _ ?_))
 obtain ⟨z,c,ai⟩:=zF c
 refine yH [7,9,15,16,17,18,19,20,21,22,23,24,25,26,27,28,29,30,31,32,33,34,35,36] (fun (g:(List Nat))=>[(7,i6 z.1)]) (fun g wl=>Hd O w wl S [.tr fK [k] g z.2,.blk m [k,.bool l.any] 251,.own (Rp.int .i64) f 3 d.rules,.blk n [h,j,f] 222,f1 gQ h d.told,f1 Rp.bool j d.possible]) ?_ ?_
 ·skip
  refine zC fun bw aj=>zB<| zJ (gW m)<| zH (yA rfl)<| zH (fa251_0 rfl)<| Ld one143 H 1 0 rfl rfl ?_
  obtain ⟨ak,al,c⟩:=zD c
  obtain ⟨bx,bz,am⟩:=row_len ((H.item (i:=0) rfl))
  refine zH (yO (xI u143 am) (congrArg (Value.int .i64) al))<| zJ (i6 0)<| zG (zA (aj _ _ ?_))
  refine yC ?_
  unfold Fcb at c
  obtain ⟨an,M,ao,c⟩:=yR c
  refine xA [7,9,20,21,22,23,24,25,26,27,28,29,30,31,32,33,34,35,36] (fun (g:Nat×Int×Int×(List Nd)×(List Nat))=>[(7,i6 g.2.1),(20,i6 g.2.2.1)]) (fun g wl=>Hd O w wl S [.tr fK [k] g.2.2.2.2 g.2.2.2.1,.blk m [k,.bool l.any] 251,.own (Rp.int .i64) f 3 d.rules,.blk n [h,j,f] 222,f1 gQ h d.told,f1 Rp.bool j d.possible]∧fV an g.1 (g.2.1,g.2.2.1,g.2.2.2.1)=some z) (fun g=>g.1) (M,u,0,l.kids,A) (zI rfl (zI rfl zL)) ⟨H.pick [0,1,2,3,4,5] (by decide),c⟩ ?_
  clear H c
  rintro ⟨M,N,p,s,ap⟩ ρ b0 ⟨H,c⟩
  obtain ⟨aq,rfl,c⟩:=yV c
  have c:=yU ao c
  refine zC fun b1 ar=>zB ?_
  obtain ⟨au,av,c⟩:=zD c
  refine zH (zM (xK (a:=p) (b:=ak) rfl rfl) av)<| zG (zA (ar _ _ ?_))
  refine zC fun b2 aw=>?_
  refine zW (b:=au) rfl (fun D=>?_) (fun D=>?_)
  ·have c:=zN D c
   refine zX (zA (aw _ _ ?_))
   obtain ⟨E,c,ax⟩:=zF c
   refine yH [7,9,22,23,24,25,26,27,28,29,30,31,32,33,34,35] (fun (g:(List Nat))=>[(7,i6 E.1)]) (fun g wl=>Hd O w wl S [.tr fK [k] g E.2,.blk m [k,.bool l.any] 251,.own (Rp.int .i64) f 3 d.rules,.blk n [h,j,f] 222,f1 gQ h d.told,f1 Rp.bool j d.possible]) ?_ ?_
   ·skip
    refine yC ?_
    refine zC fun b3 ay=>zB ?_
    obtain ⟨P,v,c⟩:=zF c
    obtain ⟨b4,b5,b6,F⟩:=aX (H.item (i:=0) rfl) v
    refine zH (yT u143 sz170 F rfl (zS v).1 (zS v).2.1 rfl rfl) ?_
    obtain ⟨b7,t,Q,H⟩:=H.focusV 0 rfl F v rfl
    obtain ⟨o,rfl⟩:=tr_cell rfl (H.item (i:=6) rfl)
    have H:Hd _ _ _ _ [.blk m [k,.bool l.any] 251,.own (Rp.int .i64) f 3 d.rules,.blk n [h,j,f] 222,f1 gQ h d.told,f1 Rp.bool j d.possible,.tr (Rt.row fC 170 [(p.toNat,[o])]) [k] t s,.tr fC [o] Q P]:=H
    refine zH (yX kD rfl (Cells.get (H.holeW 5 rfl F v rfl eU) (i:=0) rfl))<| zK o<| zG (zA (ay _ _ ?_))
    refine zC fun b8 az=>zB<| zJ o<| zJ (gW n) ?_
    obtain ⟨a0,a1,R⟩:=Fak (H.item (i:=6) rfl)
    obtain ⟨q,a2,c⟩:=zF c
    refine yG rfl rfl (DoC_inv R rfl rfl) (rhI P (gG.mk d.told d.possible d.rules) o Q n h j f a0 a1 R _ a2 _ _ _ (H.enter [6,1,2] [3,4] (by decide) rfl)) ?_
    rintro _ a3 ⟨x,rfl,a4⟩
    have H:Hd _ _ a3 _ [.blk m [k,.bool l.any] 251,f1 gQ h d.told,f1 Rp.bool j d.possible,.tr (Rt.row fC 170 [(p.toNat,[o])]) [k] t s,.tr fC [o] x q.2,.own (Rp.int .i64) f 3 d.rules,.blk n [h,j,f] 222]:=H.back [6,1,2] [3,4] rfl a4
    refine ⟨_,rfl,?_⟩
    refine zG (zA (az _ _ ?_))
    refine yC ?_
    refine zC fun b9 a5=>zB<| zJ (i6 y) ?_
    obtain ⟨T,a6,c⟩:=zD c
    refine zH (zM (yZ (a:=q.1) (b:=y) rfl rfl) a6)<| zK (.bool T)<| zG (zA (a5 _ _ ?_))
    refine zW (b:=T) rfl (fun G=>?_) (fun G=>?_)
    ·have c:=zN G c
     refine zB ?_
     refine zJ (i6 y)<| zK (i6 y) ?_
     have H:Hd _ _ _ _ [.blk m [k,.bool l.any] 251,f1 gQ h d.told,f1 Rp.bool j d.possible,.tr (Rt.row fC 170 [(p.toNat,[o])]) [k] t s,.tr fC [o] x q.2,.own (Rp.int .i64) f 3 d.rules,.blk n [h,j,f] 222]:=H
     obtain ⟨a7,a8,c⟩:=zF c
     obtain ⟨U,H⟩:=H.unfocus 3 4 rfl rfl (by decide) rfl rfl a8
     have H:Hd _ _ _ _ [.blk m [k,.bool l.any] 251,f1 gQ h d.told,f1 Rp.bool j d.possible,.own (Rp.int .i64) f 3 d.rules,.blk n [h,j,f] 222,.tr fK [k] U a7]:=H
     obtain rfl:=gI c
     exact (zG (yK (yK (zA (meet ⟨U,(zI rfl zL),H.pick [5,0,3,4,1,2] (by decide)⟩)))))
    have c:=zO G c
    refine zC fun ca a9=>zB ?_
    obtain ⟨V,ba,c⟩:=zD c
    refine zH (zM (yZ (a:=q.1) (b:=0) rfl rfl) ba)<| zK (.bool V)<| zG (zA (a9 _ _ ?_))
    refine zW (b:=V) rfl (fun I=>?_) (fun I=>?_)
    ·have c:=zN I c
     refine zC fun cb bb=>zB<| zJ (i6 N)<| zJ (i6 u) ?_
     obtain ⟨bc,bd,c⟩:=zD c
     refine zH (zM (yZ (a:=N) (b:=u) rfl rfl) bd)<| zG (zA (bb _ _ ?_))
     refine zW (b:=bc) rfl (fun J=>?_) (fun J=>?_)
     ·have c:=zN J c
      refine zB ?_
      refine zK (i6 0) ?_
      have H:Hd _ _ _ _ [.blk m [k,.bool l.any] 251,f1 gQ h d.told,f1 Rp.bool j d.possible,.tr (Rt.row fC 170 [(p.toNat,[o])]) [k] t s,.tr fC [o] x q.2,.own (Rp.int .i64) f 3 d.rules,.blk n [h,j,f] 222]:=H
      obtain ⟨be,bf,c⟩:=zF c
      obtain ⟨X,H⟩:=H.unfocus 3 4 rfl rfl (by decide) rfl rfl bf
      have H:Hd _ _ _ _ [.blk m [k,.bool l.any] 251,f1 gQ h d.told,f1 Rp.bool j d.possible,.own (Rp.int .i64) f 3 d.rules,.blk n [h,j,f] 222,.tr fK [k] X be]:=H
      obtain rfl:=gI c
      exact (zG (yK (yK (zA (meet ⟨X,(zI rfl zL),H.pick [5,0,3,4,1,2] (by decide)⟩)))))
     have c:=zO J c
     have H:Hd _ _ _ _ [.blk m [k,.bool l.any] 251,f1 gQ h d.told,f1 Rp.bool j d.possible,.tr (Rt.row fC 170 [(p.toNat,[o])]) [k] t s,.tr fC [o] x q.2,.own (Rp.int .i64) f 3 d.rules,.blk n [h,j,f] 222]:=H
     obtain ⟨bg,bh,c⟩:=zF c
     obtain ⟨Y,H⟩:=H.unfocus 3 4 rfl rfl (by decide) rfl rfl bh
     have H:Hd _ _ _ _ [.blk m [k,.bool l.any] 251,f1 gQ h d.told,f1 Rp.bool j d.possible,.own (Rp.int .i64) f 3 d.rules,.blk n [h,j,f] 222,.tr fK [k] Y bg]:=H
     obtain rfl:=gI c
     exact (zX (yK (yK (zA (meet ⟨Y,(zI rfl zL),H.pick [5,0,3,4,1,2] (by decide)⟩)))))
    have c:=zO I c
    have H:Hd _ _ _ _ [.blk m [k,.bool l.any] 251,f1 gQ h d.told,f1 Rp.bool j d.possible,.tr (Rt.row fC 170 [(p.toNat,[o])]) [k] t s,.tr fC [o] x q.2,.own (Rp.int .i64) f 3 d.rules,.blk n [h,j,f] 222]:=H
    obtain ⟨bi,bj,c⟩:=zF c
    obtain ⟨Z,H⟩:=H.unfocus 3 4 rfl rfl (by decide) rfl rfl bj
    have H:Hd _ _ _ _ [.blk m [k,.bool l.any] 251,f1 gQ h d.told,f1 Rp.bool j d.possible,.own (Rp.int .i64) f 3 d.rules,.blk n [h,j,f] 222,.tr fK [k] Z bi]:=H
    obtain rfl:=gI c
    exact (zX (yK (yK (zA (meet ⟨Z,(zI rfl zL),H.pick [5,0,3,4,1,2] (by decide)⟩)))))
   rintro bk ρ cc H
   have c:=ax
   obtain ⟨bl,bm⟩:=E
   refine zB ?_
   obtain ⟨aa,bn,c⟩:=zD c
   refine zH (xJ (a:=p) (b:=1) rfl rfl bn)<| zJ (i6 aa) ?_
   exact (zG (zA (meet ⟨(aq,bl,aa,bm,bk),(zI rfl (zI rfl zL)),⟨H.pick [0,1,2,3,4,5] (by decide),c⟩,Nat.lt_succ_self _⟩)))
  have c:=zO D c
  obtain rfl:=gI c
  exact (xH (yL (yL (yS (zA (meet ⟨ap,(zI rfl zL),H.pick [0,1,2,3,4,5] (by decide)⟩))))))
 rintro bo ρ cd H
 have c:=ai
 obtain ⟨K,ce⟩:=z
 refine zC fun cf bp=>zB<| zJ (i6 K)<| zK (i6 K)<| zG (zA (bp _ _ ?_))
 obtain rfl:=gI c
 refine (zY (gX (v1:=i6 K) rfl rfl ?_))
 exact ⟨k,bo,rfl,H.pick [0,1,2,3] (by decide)⟩
theorem Fbfw (rfI:Nd→gG→Option (Int×Nd))(rhI:Fat rfI)(d:eY)(h:gG)(k:Nat)(l:Value)(V:List Nat)(C:Value)(Y:List Nat)(u:Nat)(p:Value)(q:Value)(o:Value)(r:Int×eY)(c:Fbf rfI d h=some r)(O S:List Nat)(w:World)(H:Hd O w w S [.tr fC [l] V d.kid,.tr (Rt.row (Rt.of (Rp.int .i64)) 3 []) [C] Y d.last,.blk k ([l,i6 d.n,i6 d.frames,C]++((Fl.arr 3 (Fl.int .i64)).f d.totals)) 245,.own (Rp.int .i64) o 3 h.rules,.blk u [p,q,o] 222,f1 gQ p h.told,f1 Rp.bool q h.possible]):
  Calls Tryz.prog 313 ([gW k,gW u]:List Value).toArray w fun e y=> ∃Z ay aa az,e= .returned (i6 r.1)∧Hd O w y S [.tr fC [Z] ay r.2.kid,.tr (Rt.row (Rt.of (Rp.int .i64)) 3 []) [aa] az r.2.last,.blk k ([Z,i6 r.2.n,i6 r.2.frames,aa]++((Fl.arr 3 (Fl.int .i64)).f r.2.totals)) 245,.own (Rp.int .i64) o 3 h.rules,.blk u [p,q,o] 222]:=by
 unfold Fbf at c
 refine zZ 96 Tryz.func313 rfl rfl rfl ?_
 refine zC fun cc a0=>zB<| zK (i6 0)<| zG (zA (a0 _ _ ?_))
 refine zC fun cd a1=>zB<| zJ (gW k)<| zH (yA rfl)<| zH (fa245_0 rfl)<| Ld kD H 2 0 rfl rfl<| zJ (gW u) ?_
 obtain ⟨a2,a3,ab⟩:=Fak (H.item (i:=0) rfl)
 obtain ⟨m,a4,c⟩:=zF c
 refine yG rfl rfl (DoC_inv ab rfl rfl) (rhI d.kid (gG.mk h.told h.possible h.rules) l V u p q o a2 a3 ab _ a4 _ _ _ (H.enter [0,3,4] [5,6] (by decide) rfl)) ?_
 rintro _ a5 ⟨z,rfl,a6⟩
 have H:Hd _ _ a5 _ [.tr (Rt.row (Rt.of (Rp.int .i64)) 3 []) [C] Y d.last,.blk k ([l,i6 d.n,i6 d.frames,C]++((Fl.arr 3 (Fl.int .i64)).f d.totals)) 245,f1 gQ p h.told,f1 Rp.bool q h.possible,.tr fC [l] z m.2,.own (Rp.int .i64) o 3 h.rules,.blk u [p,q,o] 222]:=H.back [0,3,4] [5,6] rfl a6
 refine ⟨_,rfl,?_⟩
 refine zK (i6 m.1)<| zG (zA (a1 _ _ ?_))
 refine zC fun ce a7=>zB<| zJ (gW k)<| zH (yA rfl)<| zH (fa245_4 rfl)<| zH (Do_loadF (e:=(Fl.arr 3 (Fl.int .i64))) (a:=d.totals) agg243 rfl sz243 (Cells.suf (pre:=[l,i6 d.n,i6 d.frames,C]) (Hbc H 1 rfl) rfl))<| yY rfl rfl (xN zero243 H) ?_
 rintro _ cf ⟨E,rfl,H⟩
 refine xB rfl (Lx_storeW (e:=(Fl.arr 3 (Fl.int .i64))) (a:=(Arr.rep 3 0:Arr 3 Int)) (a':=d.totals) H 7 rfl sz243 rfl rfl) ?_
 rintro cg H
 refine zG (zA (a7 _ _ ?_))
 refine zC fun ch a8=>zB<| zJ (i6 m.1) ?_
 obtain ⟨ac,ad,c⟩:=zF c
 refine zH (dC (X:=d.totals) u243 sz3 rfl rfl ad)<| zH (dX (v:=i6 ac) fU rfl (Cells.ix (e:=(Fl.int .i64)) (x:=d.totals) (Hbc H 7 rfl) ad)) ?_
 obtain ⟨ae,a9,c⟩:=zD c
 refine zH (xJ (a:=ac) (b:=1) rfl rfl a9) ?_
 obtain ⟨ci,J,c⟩:=zF c
 refine zH (dC (X:=d.totals) u243 sz3 rfl rfl J) ?_
 obtain ⟨A,ba,c⟩:=zD c
 refine xB rfl (kH (e:=(Fl.int .i64)) (X:=d.totals) (a:=ae) (j:=m.1) H 7 rfl sz3 rfl (v:=i6 ae) rfl rfl (Arr.at_lt J).1 (Arr.at_lt J).2 ba) ?_
 rintro cj H
 refine zG (zA (a8 _ _ ?_))
 refine zC fun ck bb=>zB<| zJ (gW k)<| zJ (gW k)<| zH (yA rfl)<| zH (fa245_3 rfl)<| Ld kL H 1 3 rfl rfl<| zJ (i6 m.1) ?_
 obtain ⟨cl,bc,c⟩:=zD c
 subst bc
 refine yY rfl rfl (Lx_bs (r:=(Rp.int .i64)) (xl:=[m.1]) (cs:=[i6 m.1]) u38 el3 (by decide) (by decide) rfl (wG (vs:=[i6 m.1]) (by decide) rfl rfl ⟨rfl,trivial⟩ rfl) H ⟨[i6 m.1],[],rfl,rfl,rfl⟩) ?_
 rintro G cm H
 obtain ⟨I,bd,c⟩:=zF c
 refine yY rfl rfl (Lx_appF H 0 rfl u38 el3 rfl rfl (Sr.of_own (H.item (i:=8) rfl)) bd) ?_
 rintro t cn ⟨af,H⟩
 have H:Hd _ _ _ _ [.blk k ([l,i6 d.n,i6 d.frames,C]++((Fl.arr 3 (Fl.int .i64)).f d.totals)) 245,f1 gQ p h.told,f1 Rp.bool q h.possible,.tr fC [l] z m.2,.own (Rp.int .i64) o 3 h.rules,.blk u [p,q,o] 222,.blk E ((Fl.arr 3 (Fl.int .i64)).f A) 243,.own (Rp.int .i64) G 3 ([m.1]:List Int),.tr (Rt.row (Rt.of (Rp.int .i64)) 3 []) [t] af I]:=H
 refine zH (yA rfl)<| zH (fa245_3 rfl)<| xB rfl (wI H 0 rfl sz38 rfl (v:=t) rfl (tr_one (H.item (i:=8) rfl)) rfl) ?_
 rintro co H
 refine zG (zA (bb _ _ ?_))
 refine zC fun cp be=>?_
 have bf:=H
 have H:=H.rebase
 have cq:=H
 refine xX H [0,1,2,3,4,5,6,7,8,9,10] (kz [0,0,0,0,0,1,0,0,0,0,3]) mixed ?_
 refine XM (gW k)<| XM (i6 m.1)<| XP (fun _ _=>yA rfl)<| XP (fun _ _=>fa245_4 rfl) ?_
 obtain ⟨ag,ah,c⟩:=zF c
 refine XP (fun _ _=>dC (X:=d.totals) u243 sz3 rfl rfl ah)<| MxM.xP oS rfl rfl rfl (fun y s=>dX (v:=i6 ag) fU rfl (Cells.ix (e:=(Fl.int .i64)) (x:=d.totals) (Cells.suf (pre:=[l,i6 d.n,i6 d.frames,t]) (Blk.cells ((H.sees s).item (i:=0) rfl)) rfl) ah)) ?_
 obtain ⟨ai,bg,c⟩:=zD c
 refine XP (fun _ _=>xJ (a:=ag) (b:=1) rfl rfl bg)<| XP (fun _ _=>yA rfl)<| XP (fun _ _=>fa245_4 rfl) ?_
 obtain ⟨cr,K,c⟩:=zF c
 refine XP (fun _ _=>dC (X:=d.totals) u243 sz3 rfl rfl K) ?_
 obtain ⟨F,bh,c⟩:=zD c
 refine MxM.XL_exU oS rfl rfl (fun y s=>Lx_storeP (e:=(Fl.int .i64)) (X:=d.totals) (a:=ai) (j:=m.1) (pre:=[l,i6 d.n,i6 d.frames,t]) (H.sees s) 0 rfl sz3 rfl rfl (v:=i6 ai) rfl rfl (Arr.at_lt K).1 (Arr.at_lt K).2 bh) ?_
 rintro y ct s H
 refine ⟨H.only,?_⟩
 refine MxM.xE fun cu hS=>?_
 have H:=H.sees hS
 have H:=bf.rejoin H
 refine (zA (be _ _ ?_))
 obtain ⟨L,c,bi⟩:=zF c
 refine yH [42,43,44,45,46,47,48,49,50,51,52,53,54,55,56,57,58,59,60,61,62,63,64,65,66,67,68,69,70,71,72,73,74] (fun (g:Value×(List Nat))=>[]) (fun g wl=>Hd O w wl S [.blk k ([l,i6 d.n,i6 d.frames,g.1]++((Fl.arr 3 (Fl.int .i64)).f L.2)) 245,.tr fC [l] z m.2,.tr (Rt.row (Rt.of (Rp.int .i64)) 3 []) [g.1] g.2 L.1,f1 gQ p h.told,f1 Rp.bool q h.possible,.own (Rp.int .i64) o 3 h.rules,.blk u [p,q,o] 222,.blk E ((Fl.arr 3 (Fl.int .i64)).f A) 243]) ?_ ?_
 ·skip
  refine zC fun cv bj=>?_
  have bk:=H
  have H:=H.rebase
  have cw:=H
  refine xX H [0,1,2,3,4,5,6,7,8,9] (kz [0,0,0,1,0,0,0,0,1,0]) mixed ?_
  refine XM (gW k)<| XP (fun _ _=>yA rfl)<| XP (fun _ _=>fa245_3 rfl)<| XR kL H 0 3 rfl rfl ?_
  obtain ⟨bl,bm,c⟩:=zD c
  obtain ⟨cx,cy,bn⟩:=row_len ((H.item (i:=8) rfl))
  refine XP (fun _ _=>yO (xI u38 bn) (congrArg (Value.int .i64) bm))<| XM (gW k)<| XP (fun _ _=>yA rfl)<| XP (fun _ _=>fa245_2 rfl)<| XR fU H 0 2 rfl rfl ?_
  obtain ⟨bo,bp,c⟩:=zD c
  refine XP (fun _ _=>zM (yZ (a:=bl) (b:=d.frames) rfl rfl) bp)<| MxM.xE fun cz hS=>?_
  have H:=H.sees hS
  have H:=bk.rejoin H
  refine (zA (bj _ _ ?_))
  refine zW (b:=bo) rfl (fun M=>?_) (fun M=>?_)
  ·have c:=zN M c
   refine zC fun c0 bq=>?_
   have br:=H
   have H:=H.rebase
   have c1:=H
   refine xX H [0,1,2,3,4,5,6,7,8,9,10,11,12,13,14,15] (kz [0,0,0,0,1,0,1,0,0,0,1,0,0,0,0,3]) mixed ?_
   refine XM (gW k)<| XM (gW k)<| XP (fun _ _=>yA rfl)<| XP (fun _ _=>fa245_3 rfl)<| XR kL H 0 3 rfl rfl ?_
   obtain ⟨B,D,c⟩:=zF c
   obtain ⟨c2,c3,c4,N⟩:=aX (H.item (i:=8) rfl) D
   refine XP (fun _ _=>yT u38 sz3 N rfl (zS D).1 (zS D).2.1 rfl rfl) ?_
   obtain ⟨bt,aj,c5,H⟩:=H.focusV 8 rfl N D rfl
   obtain ⟨bu,bv⟩:=trF (H.item (i:=9) rfl)
   subst bu
   obtain rfl:bt= [i6 B]:=bv
   have H:Hd _ _ _ _ [.blk k ([l,i6 d.n,i6 d.frames,t]++((Fl.arr 3 (Fl.int .i64)).f F)) 245,f1 gQ p h.told,f1 Rp.bool q h.possible,.tr fC [l] z m.2,.own (Rp.int .i64) o 3 h.rules,.blk u [p,q,o] 222,.blk E ((Fl.arr 3 (Fl.int .i64)).f A) 243,.own (Rp.int .i64) G 3 ([m.1]:List Int),.tr (Rt.row (Rt.of (Rp.int .i64)) 3 [((0:Int).toNat,[i6 B])]) [t] aj I,.tr (Rt.of (Rp.int .i64)) [i6 B] [] B]:=H
   refine MxM.xP oS rfl rfl rfl (fun y s=>yX fU rfl (Cells.get ((H.sees s).holeW 8 rfl N D rfl eU) (i:=0) rfl)) ?_
   refine XP (fun _ _=>yA rfl)<| XP (fun _ _=>fa245_4 rfl) ?_
   obtain ⟨ak,al,c⟩:=zF c
   refine XP (fun _ _=>dC (X:=F) u243 sz3 rfl rfl al)<| MxM.xP oS rfl rfl rfl (fun y s=>dX (v:=i6 ak) fU rfl (Cells.ix (e:=(Fl.int .i64)) (x:=F) (Cells.suf (pre:=[l,i6 d.n,i6 d.frames,t]) (Blk.cells ((H.sees s).item (i:=0) rfl)) rfl) al)) ?_
   obtain ⟨am,bw,c⟩:=zD c
   refine XP (fun _ _=>aZ (a:=ak) (b:=1) rfl rfl bw)<| XP (fun _ _=>yA rfl)<| XP (fun _ _=>fa245_4 rfl) ?_
   obtain ⟨c6,P,c⟩:=zF c
   refine XP (fun _ _=>dC (X:=F) u243 sz3 rfl rfl P) ?_
   obtain ⟨an,bx,c⟩:=zD c
   refine MxM.XL_exU oS rfl rfl (fun y s=>Lx_storeP (e:=(Fl.int .i64)) (X:=F) (a:=am) (j:=B) (pre:=[l,i6 d.n,i6 d.frames,t]) (H.sees s) 0 rfl sz3 rfl rfl (v:=i6 am) rfl rfl (Arr.at_lt P).1 (Arr.at_lt P).2 bx) ?_
   rintro y c7 s H
   refine ⟨H.only,?_⟩
   refine MxM.xE fun c8 hS=>?_
   have H:=H.sees hS
   have H:=br.rejoin H
   refine (zA (bq _ _ ?_))
   refine zB ?_
   refine zJ (gW k)<| zJ (gW k)<| zH (yA rfl)<| zH (fa245_3 rfl)<| Ld kL H 0 3 rfl rfl ?_
   have H:Hd _ _ _ _ [.blk k ([l,i6 d.n,i6 d.frames,t]++((Fl.arr 3 (Fl.int .i64)).f an)) 245,f1 gQ p h.told,f1 Rp.bool q h.possible,.tr fC [l] z m.2,.own (Rp.int .i64) o 3 h.rules,.blk u [p,q,o] 222,.blk E ((Fl.arr 3 (Fl.int .i64)).f A) 243,.own (Rp.int .i64) G 3 ([m.1]:List Int),.tr (Rt.row (Rt.of (Rp.int .i64)) 3 [((0:Int).toNat,[i6 B])]) [t] aj I,.tr (Rt.of (Rp.int .i64)) [i6 B] [] B]:=H
   obtain ⟨ao,H⟩:=H.unfocus0 8 9 rfl rfl (by decide) rfl rfl D
   have H:Hd _ _ _ _ [.blk k ([l,i6 d.n,i6 d.frames,t]++((Fl.arr 3 (Fl.int .i64)).f an)) 245,f1 gQ p h.told,f1 Rp.bool q h.possible,.tr fC [l] z m.2,.own (Rp.int .i64) o 3 h.rules,.blk u [p,q,o] 222,.blk E ((Fl.arr 3 (Fl.int .i64)).f A) 243,.own (Rp.int .i64) G 3 ([m.1]:List Int),.tr (Rt.row (Rt.of (Rp.int .i64)) 3 []) [t] ao I]:=H
   obtain ⟨c9,bz,c⟩:=zF c
   refine RL_exP rfl rfl (Lx_rpart_l H 8 rfl u38 sz3 rfl rfl bz) ?_
   rintro ap H
   refine zH (yA rfl)<| zH (fa245_3 rfl)<| xB rfl (wI H 0 rfl sz38 rfl (v:=ap) rfl (tr_one (H.item (i:=8) rfl)) rfl) ?_
   rintro da H
   obtain rfl:=gI c
   exact (zG (zA (meet ⟨(ap,ao),zL,H.pick [0,3,8,1,2,4,5,6] (by decide)⟩)))
  have c:=zO M c
  obtain rfl:=gI c
  exact (zX (zA (meet ⟨(t,af),zL,H.pick [0,3,8,1,2,4,5,6] (by decide)⟩)))
 rintro ⟨Q,R⟩ ρ db H
 have c:=bi
 obtain ⟨dc,dd⟩:=L
 refine zC fun de b0=>?_
 refine yC ?_
 refine zC fun df b1=>?_
 have b2:=H
 have H:=H.rebase
 have dg:=H
 refine xX H [0,1,2,3,4,5,6,7] (kz [0,1,0,0,0,1,0,0]) mixed ?_
 obtain ⟨aq,ar,c⟩:=zF c
 refine XP (fun _ _=>dC (X:=A) u243 sz3 rfl rfl ar)<| MxM.xP oS rfl rfl rfl (fun y s=>dX (v:=i6 aq) fU rfl (Cells.ix (e:=(Fl.int .i64)) (x:=A) (Blk.cells ((H.sees s).item (i:=7) rfl)) ar))<| XM (gW k)<| XP (fun _ _=>yA rfl)<| XP (fun _ _=>fa245_1 rfl)<| XR fU H 0 1 rfl rfl ?_
 obtain ⟨au,b3,c⟩:=zD c
 refine XP (fun _ _=>zM (aJ (a:=aq) (b:=d.n) rfl rfl) b3)<| XP (fun _ _=>xM (v:= .bool au) rfl)<| MxM.xE fun dh hS=>?_
 have H:=H.sees hS
 have H:=b2.rejoin H
 refine (zA (b1 _ _ ?_))
 refine zW (b:=au) rfl (fun T=>?_) (fun T=>?_)
 ·have c:=zN T c
  refine zC fun di b4=>zB<| zK (i6 2)<| zG (zA (b4 _ _ ?_))
  obtain rfl:=gI c
  refine (zY (yD (zT (gX (v1:=i6 2) rfl rfl ?_))))
  exact ⟨l,z,Q,R,rfl,H.pick [1,2,0,5,6] (by decide)⟩
 have c:=zO T c
 refine zC fun dj b5=>?_
 have b6:=H
 have H:=H.rebase
 have dk:=H
 refine xX H [0,1,2,3,4,5,6,7,8,9,10,11,12] (kz [0,1,0,0,0,1,0,0,0,1,0,0,0]) mixed ?_
 obtain ⟨av,aw,c⟩:=zF c
 refine XP (fun _ _=>dC (X:=A) u243 sz3 rfl rfl aw)<| MxM.xP oS rfl rfl rfl (fun y s=>dX (v:=i6 av) fU rfl (Cells.ix (e:=(Fl.int .i64)) (x:=A) (Blk.cells ((H.sees s).item (i:=7) rfl)) aw))<| XM (gW k)<| XP (fun _ _=>yA rfl)<| XP (fun _ _=>fa245_2 rfl)<| XR fU H 0 2 rfl rfl<| XM (gW k)<| XP (fun _ _=>yA rfl) ?_
 refine XP (fun _ _=>fa245_1 rfl)<| XR fU H 0 1 rfl rfl ?_
 obtain ⟨b7,b8,c⟩:=zD c
 refine XP (fun _ _=>aZ (a:=d.frames) (b:=d.n) rfl rfl b8) ?_
 obtain ⟨ax,b9,c⟩:=zD c
 refine XP (fun _ _=>zM (bM (a:=av) (b:=b7) rfl rfl) b9)<| XP (fun _ _=>xM (v:= .bool ax) rfl)<| MxM.xE fun dl hS=>?_
 have H:=H.sees hS
 have H:=b6.rejoin H
 refine (zA (b5 _ _ ?_))
 refine zW (b:=ax) rfl (fun U=>?_) (fun U=>?_)
 ·have c:=zN U c
  refine zC fun dm ca=>zB<| zK (i6 1)<| zG (zA (ca _ _ ?_))
  obtain rfl:=gI c
  refine (zY (yD (zT (gX (v1:=i6 1) rfl rfl ?_))))
  exact ⟨l,z,Q,R,rfl,H.pick [1,2,0,5,6] (by decide)⟩
 have c:=zO U c
 refine (zX (yK (zA (b0 _ _ ?_))))
 refine zC fun dn cb=>zB<| zK (i6 0)<| zG (zA (cb _ _ ?_))
 obtain rfl:=gI c
 refine (zY (gX (v1:=i6 0) rfl rfl ?_))
 exact ⟨l,z,Q,R,rfl,H.pick [1,2,0,5,6] (by decide)⟩
set_option maxRecDepth 100000 in
theorem Fblw (rfI:Nd→gG→Option (Int×Nd))(rhI:Fat rfI)(f:cZ)(d:gG)(o:Nat)(l:Value)(z:List Nat)(m:Value)(x:List Nat)(n:Nat)(h:Value)(j:Value)(k:Value)(r:Int×cZ)(c:Fbl rfI f d=some r)(O S:List Nat)(w:World)(H:Hd O w w S [.tr fC [l] z f.while_,.tr fC [m] x f.from_,.blk o [l,m,i6 f.last,.bool f.begun] 255,.own (Rp.int .i64) k 3 d.rules,.blk n [h,j,k] 222,f1 gQ h d.told,f1 Rp.bool j d.possible]):
  Calls Tryz.prog 321 ([gW o,gW n]:List Value).toArray w fun e s=> ∃K U L V,e= .returned (i6 r.1)∧Hd O w s S [.tr fC [K] U r.2.while_,.tr fC [L] V r.2.from_,.blk o [K,L,i6 r.2.last,.bool r.2.begun] 255,.own (Rp.int .i64) k 3 d.rules,.blk n [h,j,k] 222]:=by
 unfold Fbl at c
 refine zZ 56 Tryz.func321 rfl rfl rfl ?_
 refine zC fun a4 X=>zB<| zK (i6 0)<| zG (zA (X _ _ ?_))
 refine zC fun a5 Y=>?_
 have Z:=H
 have H:=H.rebase
 have aa:=H
 have M:Hd (O++bks (rest [0,1,3,4] [.tr fC [l] z f.while_,.tr fC [m] x f.from_,.blk o [l,m,i6 f.last,.bool f.begun] 255,.own (Rp.int .i64) k 3 d.rules,.blk n [h,j,k] 222,f1 gQ h d.told,f1 Rp.bool j d.possible])) w w (bks (Go.Lf.pick ([0,1,3,4]++ [5,6]) [.tr fC [l] z f.while_,.tr fC [m] x f.from_,.blk o [l,m,i6 f.last,.bool f.begun] 255,.own (Rp.int .i64) k 3 d.rules,.blk n [h,j,k] 222,f1 gQ h d.told,f1 Rp.bool j d.possible])) [.tr fC [l] z f.while_,.tr fC [m] x f.from_,.own (Rp.int .i64) k 3 d.rules,.blk n [h,j,k] 222,f1 gQ h d.told,f1 Rp.bool j d.possible]:=H.enter [0,1,3,4] [5,6] (by decide) rfl
 have N:=H.firmB M (i:=2) rfl (List.mem_append_right _ List.mem_cons_self)
 have H:=M
 refine WP_mix H [0,1,2,3,4,6,7,8,9,10,5,11,12,13] (kz [0,0,0,0,0,3,0,0,0,0,0,3,0,0]) mixed ?_
 refine XM (gW o)<| XP (fun _ _=>yA rfl)<| XP (fun _ _=>fa255_0 rfl)<| XP (fun s p=>yX kD rfl (Cells.get (Blk.cells (N s p)) (i:=0) rfl))<| XM (gW n)<| XM (gW o)<| XP (fun _ _=>yA rfl)<| XP (fun _ _=>fa255_1 rfl)<| XP (fun s p=>yX kD rfl (Cells.get (Blk.cells (N s p)) (i:=1) rfl))<| XM (gW n) ?_
 obtain ⟨ab,ac,P⟩:=Fak (H.item (i:=0) rfl)
 obtain ⟨q,ad,c⟩:=zF c
 refine MxM.XL_effC oS rfl rfl rfl (fun s p=>DoC_inv P rfl rfl) (fun s p=>rhI f.while_ (gG.mk d.told d.possible d.rules) l z n h j k ab ac P _ ad _ _ _ ((H.sees p).enter [0,2,3] [4,5] (by decide) rfl)) ?_
 rintro s _ ae p ⟨u,rfl,af⟩
 have H:Hd _ _ ae _ [.tr fC [m] x f.from_,f1 gQ h d.told,f1 Rp.bool j d.possible,.tr fC [l] u q.2,.own (Rp.int .i64) k 3 d.rules,.blk n [h,j,k] 222]:=(H.sees p).back [0,2,3] [4,5] rfl af
 refine ⟨_,rfl,H.only,?_⟩
 obtain ⟨ag,ah,Q⟩:=Fak (H.item (i:=0) rfl)
 obtain ⟨t,ai,c⟩:=zF c
 refine MxM.XL_effC oS rfl rfl rfl (fun s p=>DoC_inv Q rfl rfl) (fun s p=>rhI f.from_ (gG.mk d.told d.possible d.rules) m x n h j k ag ah Q _ ai _ _ _ ((H.sees p).enter [0,4,5] [1,2] (by decide) rfl)) ?_
 rintro s _ aj p ⟨y,rfl,ak⟩
 have H:Hd _ _ aj _ [f1 gQ h d.told,f1 Rp.bool j d.possible,.tr fC [l] u q.2,.tr fC [m] y t.2,.own (Rp.int .i64) k 3 d.rules,.blk n [h,j,k] 222]:=(H.sees p).back [0,4,5] [1,2] rfl ak
 refine ⟨_,rfl,H.only,?_⟩
 refine XP (fun _ _=>xM (v:=i6 q.1) rfl)<| XP (fun _ _=>xM (v:=i6 t.1) rfl)<| MxM.xE fun al hS=>?_
 have H:=H.sees hS
 have H:=aa.back [0,1,3,4] [5,6] rfl H
 have H:Hd _ _ _ _ [.blk o [l,m,i6 f.last,.bool f.begun] 255,f1 gQ h d.told,f1 Rp.bool j d.possible,f1 gQ h d.told,f1 Rp.bool j d.possible,.tr fC [l] u q.2,.tr fC [m] y t.2,.own (Rp.int .i64) k 3 d.rules,.blk n [h,j,k] 222]:=H
 have H:Hd O w al (bks [.tr fC [l] z f.while_,.tr fC [m] x f.from_,.blk o [l,m,i6 f.last,.bool f.begun] 255,.own (Rp.int .i64) k 3 d.rules,.blk n [h,j,k] 222,f1 gQ h d.told,f1 Rp.bool j d.possible]) [.blk o [l,m,i6 f.last,.bool f.begun] 255,f1 gQ h d.told,f1 Rp.bool j d.possible,.tr fC [l] u q.2,.tr fC [m] y t.2,.own (Rp.int .i64) k 3 d.rules,.blk n [h,j,k] 222]:=H.pick [0,3,4,5,6,7,8] (by decide)
 have H:=Z.rejoin H
 refine (zA (Y _ _ ?_))
 refine zC fun a6 am=>zB<| zK (i6 0)<| zG (zA (am _ _ ?_))
 obtain ⟨A,c,an⟩:=zF c
 refine yH [7,20,21,22,23,24,25,26,27,28,29,30,31,32,33,34,35,36,37,38,39,40,41,42,43,44,45,46,47] (fun (g:Unit)=>[(7,i6 A)]) (fun g wl=>Hd O w wl S [.blk o [l,m,i6 f.last,.bool f.begun] 255,f1 gQ h d.told,f1 Rp.bool j d.possible,.tr fC [l] u q.2,.tr fC [m] y t.2,.own (Rp.int .i64) k 3 d.rules,.blk n [h,j,k] 222]) ?_ ?_
 ·skip
  refine yC ?_
  obtain ⟨R,c,ao⟩:=zF c
  refine yH [20,21,22,23,24,25,26,27,28,29,30,31,32,33] (fun (g:Unit)=>[(20,.bool R)]) (fun g wl=>Hd O w wl S [.blk o [l,m,i6 f.last,.bool f.begun] 255,f1 gQ h d.told,f1 Rp.bool j d.possible,.tr fC [l] u q.2,.tr fC [m] y t.2,.own (Rp.int .i64) k 3 d.rules,.blk n [h,j,k] 222]) ?_ ?_
  ·skip
   refine zB ?_
   refine zJ (i6 t.1) ?_
   obtain ⟨ap,aq,c⟩:=zD c
   refine zH (zM (yZ (a:=t.1) (b:=2) rfl rfl) aq)<| yM (b:=ap) rfl rfl rfl (fun B=>?_) (fun B=>?_)
   ·have c:=zN B c
    refine yE ?_
    refine yE ?_
    refine yE ?_
    refine yE ?_
    refine yE ?_
    refine yE ?_
    refine yE ?_
    refine yE ?_
    refine yE ?_
    refine zH (yI (v:= .bool true) rfl rfl)<| zK (.bool true) ?_
    obtain rfl:=gI c
    exact (zG (zA (meet ⟨(),(zI rfl zL),H.pick [0,1,2,3,4,5,6] (by decide)⟩)))
   have c:=zO B c
   refine zJ (i6 q.1) ?_
   obtain ⟨ar,au,c⟩:=zD c
   refine zH (zM (yZ (a:=q.1) (b:=2) rfl rfl) au)<| yM (b:=ar) rfl rfl rfl (fun C=>?_) (fun C=>?_)
   ·have c:=zN C c
    refine zJ (gW o)<| zH (yA rfl)<| zH (fa255_2 rfl)<| Ld fU H 0 2 rfl rfl ?_
    obtain ⟨D,av,c⟩:=zD c
    refine zH (zM (yZ (a:=f.last) (b:=2) rfl rfl) av)<| zH (yI (v:= .bool D) rfl rfl)<| zH (yF (v:= .bool D) rfl rfl)<| zK (.bool D) ?_
    obtain rfl:=gI c
    exact (zG (zA (meet ⟨(),(zI rfl zL),H.pick [0,1,2,3,4,5,6] (by decide)⟩)))
   have c:=zO C c
   refine yE ?_
   refine yE ?_
   refine yE ?_
   refine yE ?_
   refine yE ?_
   refine zH (yF (v:= .bool false) rfl rfl)<| zH (yF (v:= .bool false) rfl rfl)<| zK (.bool false) ?_
   obtain rfl:=gI c
   exact (zG (zA (meet ⟨(),(zI rfl zL),H.pick [0,1,2,3,4,5,6] (by decide)⟩)))
  rintro _ ρ a7 H
  have c:=ao
  refine zW (b:=R) rfl (fun E=>?_) (fun E=>?_)
  ·have c:=zN E c
   refine zB ?_
   refine zK (i6 2) ?_
   obtain rfl:=gI c
   exact (zG (yK (zA (meet ⟨(),(zI rfl zL),H.pick [0,1,2,3,4,5,6] (by decide)⟩))))
  have c:=zO E c
  obtain ⟨T,c,aw⟩:=zF c
  refine yH [34,35,36,37,38,39,40,41,42,43,44,45,46,47] (fun (g:Unit)=>[(34,.bool T)]) (fun g wl=>Hd O w wl S [.blk o [l,m,i6 f.last,.bool f.begun] 255,f1 gQ h d.told,f1 Rp.bool j d.possible,.tr fC [l] u q.2,.tr fC [m] y t.2,.own (Rp.int .i64) k 3 d.rules,.blk n [h,j,k] 222]) ?_ ?_
  ·skip
   refine zB ?_
   refine zJ (i6 t.1) ?_
   obtain ⟨ax,ay,c⟩:=zD c
   refine zH (zM (yZ (a:=t.1) (b:=1) rfl rfl) ay)<| yM (b:=ax) rfl rfl rfl (fun F=>?_) (fun F=>?_)
   ·have c:=zN F c
    refine zJ (i6 q.1) ?_
    obtain ⟨az,a0,c⟩:=zD c
    refine zH (zM (yZ (a:=q.1) (b:=1) rfl rfl) a0)<| yM (b:=az) rfl rfl rfl (fun G=>?_) (fun G=>?_)
    ·have c:=zN G c
     refine yE ?_
     refine yE ?_
     refine yE ?_
     refine yE ?_
     refine yE ?_
     refine zH (yI (v:= .bool true) rfl rfl)<| zH (yI (v:= .bool true) rfl rfl)<| zK (.bool true) ?_
     obtain rfl:=gI c
     exact (zG (zA (meet ⟨(),(zI rfl zL),H.pick [0,1,2,3,4,5,6] (by decide)⟩)))
    have c:=zO G c
    refine zJ (gW o)<| zH (yA rfl)<| zH (fa255_2 rfl)<| Ld fU H 0 2 rfl rfl ?_
    obtain ⟨I,a1,c⟩:=zD c
    refine zH (zM (yZ (a:=f.last) (b:=1) rfl rfl) a1)<| zH (yF (v:= .bool I) rfl rfl)<| zH (yI (v:= .bool I) rfl rfl)<| zK (.bool I) ?_
    obtain rfl:=gI c
    exact (zG (zA (meet ⟨(),(zI rfl zL),H.pick [0,1,2,3,4,5,6] (by decide)⟩)))
   have c:=zO F c
   refine yE ?_
   refine yE ?_
   refine yE ?_
   refine yE ?_
   refine yE ?_
   refine yE ?_
   refine yE ?_
   refine yE ?_
   refine yE ?_
   refine zH (yF (v:= .bool false) rfl rfl)<| zK (.bool false) ?_
   obtain rfl:=gI c
   exact (zG (zA (meet ⟨(),(zI rfl zL),H.pick [0,1,2,3,4,5,6] (by decide)⟩)))
  rintro _ ρ a8 H
  have c:=aw
  refine zW (b:=T) rfl (fun J=>?_) (fun J=>?_)
  ·have c:=zN J c
   refine zB ?_
   refine zK (i6 1) ?_
   obtain rfl:=gI c
   exact (zG (yK (zA (meet ⟨(),(zI rfl zL),H.pick [0,1,2,3,4,5,6] (by decide)⟩))))
  have c:=zO J c
  obtain rfl:=gI c
  exact (zX (yK (zA (meet ⟨(),(zI rfl zL),H.pick [0,1,2,3,4,5,6] (by decide)⟩))))
 rintro _ ρ a9 H
 have c:=an
 refine zC fun ba a2=>zB<| zJ (gW o)<| zJ (gW o)<| zJ (i6 A)<| zH (yA rfl)<| zH (fa255_2 rfl)<| xB rfl (wI H 0 rfl sz3 rfl (v:=i6 A) rfl rfl rfl) ?_
 rintro bb H
 refine zH (yA rfl)<| zH (fa255_3 rfl)<| xB rfl (wI H 0 rfl sz4 rfl (v:= .bool true) rfl rfl rfl) ?_
 rintro bc H
 refine zG (zA (a2 _ _ ?_))
 refine zC fun bd a3=>zB<| zJ (i6 A)<| zK (i6 A)<| zG (zA (a3 _ _ ?_))
 obtain rfl:=gI c
 refine (zY (gX (v1:=i6 A) rfl rfl ?_))
 exact ⟨l,u,m,y,rfl,H.pick [3,4,0,5,6] (by decide)⟩
set_option maxRecDepth 100000 in
theorem Fbdw (rfI:Nd→gG→Option (Int×Nd))(rhI:Fat rfI)(f:cO)(d:gG)(j:Nat)(k:Value)(y:List Nat)(o:Nat)(l:Value)(m:Value)(h:Value)(r:Int×cO)(c:Fbd rfI f d=some r)(O S:List Nat)(w:World)(H:Hd O w w S [.tr fC [k] y f.kid,.blk j [k,i6 f.last,.bool f.begun] 258,.own (Rp.int .i64) h 3 d.rules,.blk o [l,m,h] 222,f1 gQ l d.told,f1 Rp.bool m d.possible]):
  Calls Tryz.prog 323 ([gW j,gW o]:List Value).toArray w fun e F=> ∃z G,e= .returned (i6 r.1)∧Hd O w F S [.tr fC [z] G r.2.kid,.blk j [z,i6 r.2.last,.bool r.2.begun] 258,.own (Rp.int .i64) h 3 d.rules,.blk o [l,m,h] 222]:=by
 unfold Fbd at c
 refine zZ 41 Tryz.func323 rfl rfl rfl ?_
 refine zC fun ae I=>zB<| zK (i6 0)<| zG (zA (I _ _ ?_))
 refine zC fun af J=>zB<| zJ (gW j)<| zH (yA rfl)<| zH (fa258_0 rfl)<| Ld kD H 1 0 rfl rfl<| zJ (gW o) ?_
 obtain ⟨K,L,A⟩:=Fak (H.item (i:=0) rfl)
 obtain ⟨n,M,c⟩:=zF c
 refine yG rfl rfl (DoC_inv A rfl rfl) (rhI f.kid (gG.mk d.told d.possible d.rules) k y o l m h K L A _ M _ _ _ (H.enter [0,2,3] [4,5] (by decide) rfl)) ?_
 rintro _ N ⟨p,rfl,P⟩
 have H:Hd _ _ N _ [.blk j [k,i6 f.last,.bool f.begun] 258,f1 gQ l d.told,f1 Rp.bool m d.possible,.tr fC [k] p n.2,.own (Rp.int .i64) h 3 d.rules,.blk o [l,m,h] 222]:=H.back [0,2,3] [4,5] rfl P
 refine ⟨_,rfl,?_⟩
 refine zK (i6 n.1)<| zG (zA (J _ _ ?_))
 refine zC fun ag Q=>zB<| zK (i6 0)<| zG (zA (Q _ _ ?_))
 obtain ⟨q,c,R⟩:=zF c
 refine yH [6,13,14,15,16,17,18,19,20,21,22,23,24,25,26,27,28,29,30,31,32] (fun (g:Unit)=>[(6,i6 q)]) (fun g wl=>Hd O w wl S [.blk j [k,i6 f.last,.bool f.begun] 258,f1 gQ l d.told,f1 Rp.bool m d.possible,.tr fC [k] p n.2,.own (Rp.int .i64) h 3 d.rules,.blk o [l,m,h] 222]) ?_ ?_
 ·skip
  refine yC ?_
  obtain ⟨B,c,T⟩:=zF c
  refine yH [13,14,15,16,17,18,19,20,21,22] (fun (g:Unit)=>[(13,.bool B)]) (fun g wl=>Hd O w wl S [.blk j [k,i6 f.last,.bool f.begun] 258,f1 gQ l d.told,f1 Rp.bool m d.possible,.tr fC [k] p n.2,.own (Rp.int .i64) h 3 d.rules,.blk o [l,m,h] 222]) ?_ ?_
  ·skip
   refine zB ?_
   refine zJ (i6 n.1) ?_
   obtain ⟨U,V,c⟩:=zD c
   refine zH (zM (yZ (a:=n.1) (b:=2) rfl rfl) V)<| yM (b:=U) rfl rfl rfl (fun s=>?_) (fun s=>?_)
   ·have c:=zN s c
    refine zJ (gW j)<| zH (yA rfl)<| zH (fa258_1 rfl)<| Ld fU H 0 1 rfl rfl ?_
    obtain ⟨C,X,c⟩:=zD c
    refine zH (zM (yZ (a:=f.last) (b:=1) rfl rfl) X)<| zH (yI (v:= .bool C) rfl rfl)<| zK (.bool C) ?_
    obtain rfl:=gI c
    exact (zG (zA (meet ⟨(),(zI rfl zL),H.pick [0,1,2,3,4,5] (by decide)⟩)))
   have c:=zO s c
   refine yE ?_
   refine yE ?_
   refine yE ?_
   refine yE ?_
   refine yE ?_
   refine zH (yF (v:= .bool false) rfl rfl)<| zK (.bool false) ?_
   obtain rfl:=gI c
   exact (zG (zA (meet ⟨(),(zI rfl zL),H.pick [0,1,2,3,4,5] (by decide)⟩)))
  rintro _ ρ ah H
  have c:=T
  refine zW (b:=B) rfl (fun t=>?_) (fun t=>?_)
  ·have c:=zN t c
   refine zB ?_
   refine zK (i6 2) ?_
   obtain rfl:=gI c
   exact (zG (yK (zA (meet ⟨(),(zI rfl zL),H.pick [0,1,2,3,4,5] (by decide)⟩))))
  have c:=zO t c
  obtain ⟨D,c,Y⟩:=zF c
  refine yH [23,24,25,26,27,28,29,30,31,32] (fun (g:Unit)=>[(23,.bool D)]) (fun g wl=>Hd O w wl S [.blk j [k,i6 f.last,.bool f.begun] 258,f1 gQ l d.told,f1 Rp.bool m d.possible,.tr fC [k] p n.2,.own (Rp.int .i64) h 3 d.rules,.blk o [l,m,h] 222]) ?_ ?_
  ·skip
   refine zB ?_
   refine zJ (i6 n.1) ?_
   obtain ⟨Z,aa,c⟩:=zD c
   refine zH (zM (yZ (a:=n.1) (b:=1) rfl rfl) aa)<| yM (b:=Z) rfl rfl rfl (fun u=>?_) (fun u=>?_)
   ·have c:=zN u c
    refine yE ?_
    refine yE ?_
    refine yE ?_
    refine yE ?_
    refine yE ?_
    refine zH (yI (v:= .bool true) rfl rfl)<| zK (.bool true) ?_
    obtain rfl:=gI c
    exact (zG (zA (meet ⟨(),(zI rfl zL),H.pick [0,1,2,3,4,5] (by decide)⟩)))
   have c:=zO u c
   refine zJ (gW j)<| zH (yA rfl)<| zH (fa258_1 rfl)<| Ld fU H 0 1 rfl rfl ?_
   obtain ⟨E,ab,c⟩:=zD c
   refine zH (zM (yZ (a:=f.last) (b:=2) rfl rfl) ab)<| zH (yF (v:= .bool E) rfl rfl)<| zK (.bool E) ?_
   obtain rfl:=gI c
   exact (zG (zA (meet ⟨(),(zI rfl zL),H.pick [0,1,2,3,4,5] (by decide)⟩)))
  rintro _ ρ ai H
  have c:=Y
  refine zW (b:=D) rfl (fun x=>?_) (fun x=>?_)
  ·have c:=zN x c
   refine zB ?_
   refine zK (i6 1) ?_
   obtain rfl:=gI c
   exact (zG (yK (zA (meet ⟨(),(zI rfl zL),H.pick [0,1,2,3,4,5] (by decide)⟩))))
  have c:=zO x c
  obtain rfl:=gI c
  exact (zX (yK (zA (meet ⟨(),(zI rfl zL),H.pick [0,1,2,3,4,5] (by decide)⟩))))
 rintro _ ρ aj H
 have c:=R
 refine zC fun ak ac=>zB<| zJ (gW j)<| zJ (gW j)<| zJ (i6 n.1)<| zH (yA rfl)<| zH (fa258_1 rfl)<| xB rfl (wI H 0 rfl sz3 rfl (v:=i6 n.1) rfl rfl rfl) ?_
 rintro al H
 refine zH (yA rfl)<| zH (fa258_2 rfl)<| xB rfl (wI H 0 rfl sz4 rfl (v:= .bool true) rfl rfl rfl) ?_
 rintro am H
 refine zG (zA (ac _ _ ?_))
 refine zC fun an ad=>zB<| zJ (i6 q)<| zK (i6 q)<| zG (zA (ad _ _ ?_))
 obtain rfl:=gI c
 refine (zY (gX (v1:=i6 q) rfl rfl ?_))
 exact ⟨k,p,rfl,H.pick [3,0,4,5] (by decide)⟩
theorem Fdew (rfI:Nd→gG→Option (Int×Nd))(rhI:Fat rfI)(z:Nd)(a:gG)(A:Value)(j:List Nat)(h:Nat)(c:Value)(d:Value)(b:Value)(fid:FuncId)(rv:Value)(hm:MethodOf Tryz.prog "orangebox/event.step" A fid rv)(r:Int×Nd)(i:Fde rfI z a=some r)(O S:List Nat)(w:World)(H:Hd O w w S [.tr fC [A] j z,.own (Rp.int .i64) b 3 a.rules,.blk h [c,d,b] 222,f1 gQ c a.told,f1 Rp.bool d a.possible]):
  Calls Tryz.prog fid ([rv,gW h]:List Value).toArray w fun e w'=> ∃bs',e= .returned (i6 r.1)∧Hd O w w' S [.tr fC [A] bs' r.2,.own (Rp.int .i64) b 3 a.rules,.blk h [c,d,b] 222]:=by
 unfold Fde at i
 cases z with
 | constant B=>
  obtain rfl:=nd_open_constant H 0 rfl
  obtain ⟨rfl,rfl⟩:=hm.eq (dJ (p:=false) (by kernel_rfl) (by kernel_rfl) en325) w
  obtain ⟨x5,e6,i⟩:=zF i
  refine Calls.mono (Fdnw (EventConstant.mk B) (gG.mk a.told a.possible a.rules) h c d b _ e6 _ _ _ (H.enter [1,2] [3,4] (by decide) rfl)) ?_
  rintro _ w7 ⟨rfl,G8⟩
  have H:Hd _ _ w7 _ [.tr fC [(.iface 277 (.agg ([i6 B]:List Value).toArray))] j (.constant B),f1 gQ c a.told,f1 Rp.bool d a.possible,.own (Rp.int .i64) b 3 a.rules,.blk h [c,d,b] 222]:=H.back [1,2] [3,4] rfl G8
  obtain rfl:=gI i
  exact ⟨j,rfl,H.pick [0,3,4] (by decide)⟩
 | number C D E=>
  obtain rfl:=nd_open_number H 0 rfl
  obtain ⟨rfl,rfl⟩:=hm.eq (dJ (p:=false) (by kernel_rfl) (by kernel_rfl) en327) w
  obtain ⟨cp,bk,i⟩:=zF i
  refine Calls.mono (Fasw (aG.mk C D E) (gG.mk a.told a.possible a.rules) h c d b _ bk _ _ _ (H.enter [1,2] [3,4] (by decide) rfl)) ?_
  rintro _ bl ⟨rfl,bm⟩
  have H:Hd _ _ bl _ [.tr fC [(.iface 279 (.agg ([i6 C,i6 D,i6 E]:List Value).toArray))] j (.number C D E),f1 gQ c a.told,f1 Rp.bool d a.possible,.own (Rp.int .i64) b 3 a.rules,.blk h [c,d,b] 222]:=H.back [1,2] [3,4] rfl bm
  obtain rfl:=gI i
  exact ⟨j,rfl,H.pick [0,3,4] (by decide)⟩
 | pair F G I J K=>
  obtain rfl:=nd_open_pair H 0 rfl
  obtain ⟨rfl,rfl⟩:=hm.eq (dJ (p:=false) (by kernel_rfl) (by kernel_rfl) en332) w
  obtain ⟨cq,bn,i⟩:=zF i
  refine Calls.mono (Fayw (EventPair.mk F G I J K) (gG.mk a.told a.possible a.rules) h c d b _ bn _ _ _ (H.enter [1,2] [3,4] (by decide) rfl)) ?_
  rintro _ bo ⟨rfl,bp⟩
  have H:Hd _ _ bo _ [.tr fC [(.iface 281 (.agg ([i6 F,i6 G,i6 I,i6 J,i6 K]:List Value).toArray))] j (.pair F G I J K),f1 gQ c a.told,f1 Rp.bool d a.possible,.own (Rp.int .i64) b 3 a.rules,.blk h [c,d,b] 222]:=H.back [1,2] [3,4] rfl bp
  obtain rfl:=gI i
  exact ⟨j,rfl,H.pick [0,3,4] (by decide)⟩
 | steady Y Z aa ab=>
  obtain ⟨q,L,ac,rfl,H⟩:=nd_open_steady H 0 rfl
  have H:Hd _ _ _ _ [.own (Rp.int .i64) b 3 a.rules,.blk h [c,d,b] 222,f1 gQ c a.told,f1 Rp.bool d a.possible,.tr (Rt.row (Rt.of gQ) 148 []) [L] ac ab,.blk q [i6 Y,i6 Z,i6 aa,L] 241]:=H
  obtain ⟨rfl,rfl⟩:=hm.eq (dJ (p:=true) (by kernel_rfl) (by kernel_rfl) en310) w
  obtain ⟨⟨cr,l⟩,bq,i⟩:=zF i
  refine Calls.mono (Faow (eQ.mk Y Z aa ab) (gG.mk a.told a.possible a.rules) q L ac h c d b _ bq _ _ _ (H.enter [4,5,0,1] [2,3] (by decide) rfl)) ?_
  rintro _ br ⟨ad,bt,rfl,bu⟩
  have H:Hd _ _ br _ [f1 gQ c a.told,f1 Rp.bool d a.possible,.tr (Rt.row (Rt.of gQ) 148 []) [ad] bt l.last,.blk q [i6 l.track,i6 l.n,i6 l.frames,ad] 241,.own (Rp.int .i64) b 3 a.rules,.blk h [c,d,b] 222]:=H.back [4,5,0,1] [2,3] rfl bu
  obtain ⟨ae,H⟩:=nd_mk_steady H 2 3 rfl rfl (by decide)
  have H:Hd _ _ _ _ [f1 gQ c a.told,f1 Rp.bool d a.possible,.own (Rp.int .i64) b 3 a.rules,.blk h [c,d,b] 222,.tr fC [(.iface 239 (gW q))] ae (.steady l.track l.n l.frames l.last)]:=H
  obtain rfl:=gI i
  exact ⟨ae,rfl,H.pick [4,2,3] (by decide)⟩
 | phase M=>
  obtain rfl:=nd_open_phase H 0 rfl
  obtain ⟨rfl,rfl⟩:=hm.eq (dJ (p:=false) (by kernel_rfl) (by kernel_rfl) en335) w
  obtain ⟨cs,bv,i⟩:=zF i
  refine Calls.mono (Favw (aW.mk M) (gG.mk a.told a.possible a.rules) h c d b _ bv _ _ _ (H.enter [1,2] [3,4] (by decide) rfl)) ?_
  rintro _ bw ⟨rfl,bx⟩
  have H:Hd _ _ bw _ [.tr fC [(.iface 283 (.agg ([i6 M]:List Value).toArray))] j (.phase M),f1 gQ c a.told,f1 Rp.bool d a.possible,.own (Rp.int .i64) b 3 a.rules,.blk h [c,d,b] 222]:=H.back [1,2] [3,4] rfl bx
  obtain rfl:=gI i
  exact ⟨j,rfl,H.pick [0,3,4] (by decide)⟩
 | rule N=>
  obtain rfl:=nd_open_rule H 0 rfl
  obtain ⟨rfl,rfl⟩:=hm.eq (dJ (p:=false) (by kernel_rfl) (by kernel_rfl) en337) w
  obtain ⟨ct,bz,i⟩:=zF i
  refine Calls.mono (Fdzw (EventRule.mk N) (gG.mk a.told a.possible a.rules) h c d b _ bz _ _ _ (H.enter [1,2] [3,4] (by decide) rfl)) ?_
  rintro _ b0 ⟨rfl,b1⟩
  have H:Hd _ _ b0 _ [.tr fC [(.iface 285 (.agg ([i6 N]:List Value).toArray))] j (.rule N),f1 gQ c a.told,f1 Rp.bool d a.possible,.own (Rp.int .i64) b 3 a.rules,.blk h [c,d,b] 222]:=H.back [1,2] [3,4] rfl b1
  obtain rfl:=gI i
  exact ⟨j,rfl,H.pick [0,3,4] (by decide)⟩
 | not af=>
  obtain ⟨s,P,ag,rfl,H⟩:=nd_open_not H 0 rfl
  have H:Hd _ _ _ _ [.own (Rp.int .i64) b 3 a.rules,.blk h [c,d,b] 222,f1 gQ c a.told,f1 Rp.bool d a.possible,.tr fC [P] ag af,.blk s [P] 248]:=H
  obtain ⟨rfl,rfl⟩:=hm.eq (dJ (p:=true) (by kernel_rfl) (by kernel_rfl) en316) w
  obtain ⟨⟨cu,ah⟩,b2,i⟩:=zF i
  refine Calls.mono (Fbgw rfI rhI (aO.mk af) (gG.mk a.told a.possible a.rules) s P ag h c d b _ b2 _ _ _ (H.enter [4,5,0,1] [2,3] (by decide) rfl)) ?_
  rintro _ b3 ⟨ai,b4,rfl,b5⟩
  have H:Hd _ _ b3 _ [f1 gQ c a.told,f1 Rp.bool d a.possible,.tr fC [ai] b4 ah.kid,.blk s [ai] 248,.own (Rp.int .i64) b 3 a.rules,.blk h [c,d,b] 222]:=H.back [4,5,0,1] [2,3] rfl b5
  obtain ⟨aj,H⟩:=nd_mk_not H 2 3 rfl rfl (by decide)
  have H:Hd _ _ _ _ [f1 gQ c a.told,f1 Rp.bool d a.possible,.own (Rp.int .i64) b 3 a.rules,.blk h [c,d,b] 222,.tr fC [(.iface 246 (gW s))] aj (.not ah.kid)]:=H
  obtain rfl:=gI i
  exact ⟨aj,rfl,H.pick [4,2,3] (by decide)⟩
 | group ak al=>
  obtain ⟨t,Q,am,rfl,H⟩:=nd_open_group H 0 rfl
  have H:Hd _ _ _ _ [.own (Rp.int .i64) b 3 a.rules,.blk h [c,d,b] 222,f1 gQ c a.told,f1 Rp.bool d a.possible,.tr fK [Q] am ak,.blk t [Q,.bool al] 251]:=H
  obtain ⟨rfl,rfl⟩:=hm.eq (dJ (p:=true) (by kernel_rfl) (by kernel_rfl) en319) w
  obtain ⟨⟨cv,u⟩,b6,i⟩:=zF i
  refine Calls.mono (Fbow rfI rhI (dY.mk ak al) (gG.mk a.told a.possible a.rules) t Q am h c d b _ b6 _ _ _ (H.enter [4,5,0,1] [2,3] (by decide) rfl)) ?_
  rintro _ b7 ⟨an,b8,rfl,b9⟩
  have H:Hd _ _ b7 _ [f1 gQ c a.told,f1 Rp.bool d a.possible,.tr fK [an] b8 u.kids,.blk t [an,.bool u.any] 251,.own (Rp.int .i64) b 3 a.rules,.blk h [c,d,b] 222]:=H.back [4,5,0,1] [2,3] rfl b9
  obtain ⟨ao,H⟩:=nd_mk_group H 2 3 rfl rfl (by decide)
  have H:Hd _ _ _ _ [f1 gQ c a.told,f1 Rp.bool d a.possible,.own (Rp.int .i64) b 3 a.rules,.blk h [c,d,b] 222,.tr fC [(.iface 249 (gW t))] ao (.group u.kids u.any)]:=H
  obtain rfl:=gI i
  exact ⟨ao,rfl,H.pick [4,2,3] (by decide)⟩
 | count ap aq ar au av=>
  obtain ⟨v,R,aw,T,ax,rfl,H⟩:=nd_open_count H 0 rfl
  have H:Hd _ _ _ _ [.own (Rp.int .i64) b 3 a.rules,.blk h [c,d,b] 222,f1 gQ c a.told,f1 Rp.bool d a.possible,.tr fC [R] aw ap,.tr (Rt.row (Rt.of (Rp.int .i64)) 3 []) [T] ax au,.blk v ([R,i6 aq,i6 ar,T]++((Fl.arr 3 (Fl.int .i64)).f av)) 245]:=H
  obtain ⟨rfl,rfl⟩:=hm.eq (dJ (p:=true) (by kernel_rfl) (by kernel_rfl) en313) w
  obtain ⟨⟨cw,k⟩,ca,i⟩:=zF i
  refine Calls.mono (Fbfw rfI rhI (eY.mk ap aq ar au av) (gG.mk a.told a.possible a.rules) v R aw T ax h c d b _ ca _ _ _ (H.enter [4,5,6,0,1] [2,3] (by decide) rfl)) ?_
  rintro _ cb ⟨ay,cc,az,cd,rfl,ce⟩
  have H:Hd _ _ cb _ [f1 gQ c a.told,f1 Rp.bool d a.possible,.tr fC [ay] cc k.kid,.tr (Rt.row (Rt.of (Rp.int .i64)) 3 []) [az] cd k.last,.blk v ([ay,i6 k.n,i6 k.frames,az]++((Fl.arr 3 (Fl.int .i64)).f k.totals)) 245,.own (Rp.int .i64) b 3 a.rules,.blk h [c,d,b] 222]:=H.back [4,5,6,0,1] [2,3] rfl ce
  obtain ⟨a0,H⟩:=nd_mk_count H 2 3 4 rfl rfl rfl (by decide)
  have H:Hd _ _ _ _ [f1 gQ c a.told,f1 Rp.bool d a.possible,.own (Rp.int .i64) b 3 a.rules,.blk h [c,d,b] 222,.tr fC [(.iface 242 (gW v))] a0 (.count k.kid k.n k.frames k.last k.totals)]:=H
  obtain rfl:=gI i
  exact ⟨a0,rfl,H.pick [4,2,3] (by decide)⟩
 | since a1 a2 a3 a4=>
  obtain ⟨x,U,a5,V,a6,rfl,H⟩:=nd_open_since H 0 rfl
  have H:Hd _ _ _ _ [.own (Rp.int .i64) b 3 a.rules,.blk h [c,d,b] 222,f1 gQ c a.told,f1 Rp.bool d a.possible,.tr fC [U] a5 a1,.tr fC [V] a6 a2,.blk x [U,V,i6 a3,.bool a4] 255]:=H
  obtain ⟨rfl,rfl⟩:=hm.eq (dJ (p:=true) (by kernel_rfl) (by kernel_rfl) en321) w
  obtain ⟨⟨cx,m⟩,cf,i⟩:=zF i
  refine Calls.mono (Fblw rfI rhI (cZ.mk a1 a2 a3 a4) (gG.mk a.told a.possible a.rules) x U a5 V a6 h c d b _ cf _ _ _ (H.enter [4,5,6,0,1] [2,3] (by decide) rfl)) ?_
  rintro _ cg ⟨a7,ch,a8,ci,rfl,cj⟩
  have H:Hd _ _ cg _ [f1 gQ c a.told,f1 Rp.bool d a.possible,.tr fC [a7] ch m.while_,.tr fC [a8] ci m.from_,.blk x [a7,a8,i6 m.last,.bool m.begun] 255,.own (Rp.int .i64) b 3 a.rules,.blk h [c,d,b] 222]:=H.back [4,5,6,0,1] [2,3] rfl cj
  obtain ⟨a9,H⟩:=nd_mk_since H 2 3 4 rfl rfl rfl (by decide)
  have H:Hd _ _ _ _ [f1 gQ c a.told,f1 Rp.bool d a.possible,.own (Rp.int .i64) b 3 a.rules,.blk h [c,d,b] 222,.tr fC [(.iface 252 (gW x))] a9 (.since m.while_ m.from_ m.last m.begun)]:=H
  obtain rfl:=gI i
  exact ⟨a9,rfl,H.pick [4,2,3] (by decide)⟩
 | rises ba bb bc=>
  obtain ⟨y,X,bd,rfl,H⟩:=nd_open_rises H 0 rfl
  have H:Hd _ _ _ _ [.own (Rp.int .i64) b 3 a.rules,.blk h [c,d,b] 222,f1 gQ c a.told,f1 Rp.bool d a.possible,.tr fC [X] bd ba,.blk y [X,i6 bb,.bool bc] 258]:=H
  obtain ⟨rfl,rfl⟩:=hm.eq (dJ (p:=true) (by kernel_rfl) (by kernel_rfl) en323) w
  obtain ⟨⟨cy,o⟩,ck,i⟩:=zF i
  refine Calls.mono (Fbdw rfI rhI (cO.mk ba bb bc) (gG.mk a.told a.possible a.rules) y X bd h c d b _ ck _ _ _ (H.enter [4,5,0,1] [2,3] (by decide) rfl)) ?_
  rintro _ cl ⟨be,cm,rfl,cn⟩
  have H:Hd _ _ cl _ [f1 gQ c a.told,f1 Rp.bool d a.possible,.tr fC [be] cm o.kid,.blk y [be,i6 o.last,.bool o.begun] 258,.own (Rp.int .i64) b 3 a.rules,.blk h [c,d,b] 222]:=H.back [4,5,0,1] [2,3] rfl cn
  obtain ⟨bf,H⟩:=nd_mk_rises H 2 3 rfl rfl (by decide)
  have H:Hd _ _ _ _ [f1 gQ c a.told,f1 Rp.bool d a.possible,.own (Rp.int .i64) b 3 a.rules,.blk h [c,d,b] 222,.tr fC [(.iface 256 (gW y))] bf (.rises o.kid o.last o.begun)]:=H
  obtain rfl:=gI i
  exact ⟨bf,rfl,H.pick [4,2,3] (by decide)⟩
theorem Fdp:Fat (Fac):=by
 have h: ∀n,Fat (Fb4 n):=by
  intro n
  induction n with
  | zero=>intro b c d e f i j k fid rv hm r a; cases a
  | succ n ih=>intro b c d e f i j k fid rv hm r a; exact Fdew (Fb4 n) ih b c d e f i j k fid rv hm r a
 exact h FU
end Go.Proofs.YtckmiljbaejijaaGreatDoor.L
