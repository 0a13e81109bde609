/- Walks: what each function computes, for every argument; no condition but those that stand in the statements. -/
import Derived.Test.YtckmiljbaejijaaGreatDoorUV0
import Derived.Test.YtckmiljbaejijaaGreatDoorUV7
namespace Go.Proofs.YtckmiljbaejijaaGreatDoor.L
open Go.RowKit Go.OB Go.Lf
set_option maxHeartbeats 4000000
theorem Fa4w (l:EventPhase)(d:EventMoment)(k:Nat)(h:Value)(j:Value)(f:Value)(r:Int)(c:Fa4 l d=some r)(O S:List Nat)(w:World)(H:Hd O w w S [.own (Rp.int .i64) f 3 d.rules,.blk k [h,j,f] 222,.fz (.sl rToldT h d.told),.fz (.sl Rp.bool j d.possible)]):
  Calls Tryz.prog 335 ([.agg [.int .i64 l.phase].toArray,ptr0 k]:List Value).toArray w fun e w'=>e= .returned (.int .i64 r)∧Hd O w w' S [.own (Rp.int .i64) f 3 d.rules,.blk k [h,j,f] 222]:=by
 unfold Fa4 at c
 refine zW 34 Tryz.func335 rfl rfl rfl ?_
 refine zC fun K9 I=>zB ?_
 refine yY rfl rfl (xX (cs:=[.int .i64 l.phase]) rfl H) ?_
 rintro _ a7 ⟨o,rfl,H⟩
 refine zK (.int .i64 0)<| (zG (zA (I _ _ ?_)))
 refine zC fun a8 J=>zB ?_
 refine zK (.int .i64 0)<| (zG (zA (J _ _ ?_)))
 obtain ⟨m,c,K⟩:=zF c
 refine yK [5,7,8,9,10,11,12,13,14,15,16,17,18,19,20] (fun (g:Unit)=>[(5,.int .i64 m)]) (fun g wl=>Hd O w wl S [.own (Rp.int .i64) f 3 d.rules,.blk k [h,j,f] 222,.fz (.sl rToldT h d.told),.fz (.sl Rp.bool j d.possible),.blk o [.int .i64 l.phase] 283]) ?_ ?_
 ·skip
  refine zC fun a9 L=>zB ?_
  refine zJ (ptr0 k)<| zH (yB rfl)<| zH (fa222_1 rfl)<| zH (zN one144 rfl (Cells.get (Blk.cells (H.item (i:=1) rfl)) (i:=1) rfl)) ?_
  obtain ⟨M,N,c⟩:=zD c
  obtain ⟨ba,bb,P⟩:=SlF.len ((H.item (i:=3) rfl))
  refine zH (yS (xP u144 P) (congrArg (Value.int .i64) N))<| zJ (.int .i64 0)<| (zG (zA (L _ _ ?_)))
  refine yH ?_
  unfold Fes at c
  obtain ⟨Q,A,R,c⟩:=yX c
  refine xI [5,7,13,14,15,16,17,18,19,20] (fun (g:Nat×Int×Int)=>[(5,.int .i64 g.2.1),(13,.int .i64 g.2.2)]) (fun g wl=>Hd O w wl S [.own (Rp.int .i64) f 3 d.rules,.blk k [h,j,f] 222,.fz (.sl rToldT h d.told),.fz (.sl Rp.bool j d.possible),.blk o [.int .i64 l.phase] 283]∧loopN Q g.1 (g.2.1,g.2.2)=some m) (fun g=>g.1) (A,0,0) (zL rfl (zL rfl zM)) ⟨H.pick [0,1,2,3,4] (by decide),c⟩ ?_
  clear H c
  rintro ⟨A,B,q⟩ ρ bc ⟨H,c⟩
  obtain ⟨T,rfl,c⟩:=xC c
  have c:=xB R c
  refine zC fun bd U=>zB ?_
  obtain ⟨V,X,c⟩:=zD c
  refine zH (zQ (xR (a:=q) (b:=M) rfl rfl) X)<| (zG (zA (U _ _ ?_)))
  refine zC fun be Y=>?_
  refine zZ (b:=V) rfl (fun s=>?_) (fun s=>?_)
  ·have c:=zS s c
   refine (yA (zA (Y _ _ ?_)))
   obtain ⟨C,c,Z⟩:=zF c
   refine yK [5,7,15,16,17,18,19] (fun (g:Unit)=>[(5,.int .i64 C)]) (fun g wl=>Hd O w wl S [.own (Rp.int .i64) f 3 d.rules,.blk k [h,j,f] 222,.fz (.sl rToldT h d.told),.fz (.sl Rp.bool j d.possible),.blk o [.int .i64 l.phase] 283]) ?_ ?_
   ·skip
    refine yH ?_
    refine zC fun bf aa=>zB ?_
    obtain ⟨n,t,c⟩:=zF c
    obtain ⟨ab,ac,bg,ad,ae,af,ag,ah,ai⟩:=rd_at (H.item (i:=3) rfl) t
    obtain rfl:ad= [.bool n]:=af
    have H:=H.fz (.at ab (ac+q.toNat * 1) _) ⟨ag,ah,ai⟩
    refine zH (xE u144 sz4 ae rfl (yE t).1 (yE t).2.1 rfl rfl)<| zH (zN one4 rfl (Cells.get (H.item (i:=5) rfl).2.2 (i:=0) rfl))<| zK (.bool n)<| (zG (zA (aa _ _ ?_)))
    refine zC fun bh aj=>zB ?_
    refine zJ (.bool n)<| (zG (zA (aj _ _ ?_)))
    refine zZ (b:=n) rfl (fun u=>?_) (fun u=>?_)
    ·have c:=zS u c
     refine zB ?_
     refine zJ (.int .i64 B) ?_
     obtain ⟨ak,al,c⟩:=zD c
     refine zH (xM (a:=B) (b:=1) rfl rfl al)<| zK (.int .i64 ak) ?_
     obtain rfl:=someI c
     exact (zG (yP (zA (meet ⟨(),(zL rfl zM),H.pick [0,1,2,3,4] (by decide)⟩))))
    have c:=zT u c
    obtain rfl:=someI c
    exact (yA (yP (zA (meet ⟨(),(zL rfl zM),H.pick [0,1,2,3,4] (by decide)⟩))))
   rintro _ ρ bi H
   have c:=Z
   refine zB ?_
   obtain ⟨D,am,c⟩:=zD c
   refine zH (xM (a:=q) (b:=1) rfl rfl am)<| zJ (.int .i64 D) ?_
   exact (zG (zA (meet ⟨(T,C,D),(zL rfl (zL rfl zM)),⟨H.pick [0,1,2,3,4] (by decide),c⟩,Nat.lt_succ_self _⟩)))
  have c:=zT s c
  obtain rfl:=someI c
  exact (xO (yQ (yQ (yZ (zA (meet ⟨(),(zL rfl zM),H.pick [0,1,2,3,4] (by decide)⟩))))))
 rintro _ ρ bj H
 have c:=K
 refine zC fun bk an=>?_
 refine yH ?_
 refine zC fun bl ao=>?_
 have ap:=H
 have H:=H.rebase
 have bm:=H
 refine wF H [0,1,2,3,4,5,6,7,8,9] [.pure,.pure,.pure,.read,.pure,.read,.pure,.read,.pure,.pure] mixed (by kernel_rfl) (by kernel_rfl) (by kernel_rfl) rfl ?_
 refine Mx.zI rfl rfl rfl (fun w' hw'=>yM (v:=ptr0 k) rfl) ?_
 refine Mx.zI rfl rfl rfl (fun w' hw'=>yB rfl) ?_
 refine Mx.zI rfl rfl rfl (fun w' hw'=>fa222_1 rfl) ?_
 refine Mx.yO oS rfl rfl rfl (fun w' hw'=>zN one144 rfl (Cells.get (Blk.cells ((H.sees hw').item (i:=1) rfl)) (i:=1) rfl)) ?_
 refine Mx.zI rfl rfl rfl (fun w' hw'=>fa283_0 rfl) ?_
 refine Mx.yO oS rfl rfl rfl (fun w' hw'=>zN one3 rfl (Cells.get (Blk.cells ((H.sees hw').item (i:=4) rfl)) (i:=0) rfl)) ?_
 obtain ⟨E,x,c⟩:=zF c
 obtain ⟨aq,ar,bn,au,av,aw,ax,ay,az⟩:=rd_at (H.item (i:=3) rfl) x
 obtain rfl:au= [.bool E]:=aw
 have H:=H.fz (.at aq (ar+l.phase.toNat * 1) _) ⟨ax,ay,az⟩
 refine Mx.zI rfl rfl rfl (fun w' hw'=>xE u144 sz4 av rfl (yE x).1 (yE x).2.1 rfl rfl) ?_
 refine Mx.yO oS rfl rfl rfl (fun w' hw'=>zN one4 rfl (Cells.get ((H.sees hw').item (i:=5) rfl).2.2 (i:=0) rfl)) ?_
 obtain ⟨F,a0,c⟩:=zD c
 refine Mx.zI rfl rfl rfl (fun w' hw'=>zQ (wI (p:=E) rfl) a0) ?_
 refine Mx.zI rfl rfl rfl (fun w' hw'=>xN (v:= .bool F) rfl) ?_
 refine Mx.xK fun bo hS=>?_
 have H:=H.sees hS
 have H:=ap.rejoin H
 refine (zA (ao _ _ ?_))
 refine zZ (b:=F) rfl (fun y=>?_) (fun y=>?_)
 ·have c:=zS y c
  refine zC fun bp a1=>zB ?_
  refine zK (.int .i64 1)<| (zG (zA (a1 _ _ ?_)))
  obtain rfl:=someI c
  refine (zY (yF (zV (post1 (v1:= .int .i64 1) rfl rfl ?_))))
  exact ⟨rfl,H.pick [0,1] (by decide)⟩
 have c:=zT y c
 refine zC fun bq a2=>zB ?_
 refine zJ (.int .i64 m) ?_
 obtain ⟨G,a3,c⟩:=zD c
 refine zH (zQ (xA (a:=m) (b:=1) rfl rfl) a3)<| zK (.bool G)<| (zG (zA (a2 _ _ ?_)))
 refine zZ (b:=G) rfl (fun z=>?_) (fun z=>?_)
 ·have c:=zS z c
  refine zC fun br a4=>zB ?_
  refine zK (.int .i64 2)<| (zG (zA (a4 _ _ ?_)))
  obtain rfl:=someI c
  refine (zY (yF (zV (post1 (v1:= .int .i64 2) rfl rfl ?_))))
  exact ⟨rfl,H.pick [0,1] (by decide)⟩
 have c:=zT z c
 refine (yA (yP (zA (an _ _ ?_))))
 refine zC fun bt a5=>zB ?_
 refine zK (.int .i64 0)<| (zG (zA (a5 _ _ ?_)))
 obtain rfl:=someI c
 refine (zY (post1 (v1:= .int .i64 0) rfl rfl ?_))
 exact ⟨rfl,H.pick [0,1] (by decide)⟩
theorem Fe2w (f:EventRule)(a:EventMoment)(b:Nat)(h:Value)(j:Value)(c:Value)(r:Int)(d:Fe2 f a=some r)(O S:List Nat)(w:World)(H:Hd O w w S [.own (Rp.int .i64) c 3 a.rules,.blk b [h,j,c] 222,.fz (.sl rToldT h a.told),.fz (.sl Rp.bool j a.possible)]):
  Calls Tryz.prog 337 ([.agg [.int .i64 f.rule].toArray,ptr0 b]:List Value).toArray w fun e w'=>e= .returned (.int .i64 r)∧Hd O w w' S [.own (Rp.int .i64) c 3 a.rules,.blk b [h,j,c] 222]:=by
 unfold Fe2 at d
 refine zW 13 Tryz.func337 rfl rfl rfl ?_
 refine zC fun u m=>zB ?_
 refine yY rfl rfl (xX (cs:=[.int .i64 f.rule]) rfl H) ?_
 rintro _ x ⟨y,rfl,H⟩
 refine zK (.int .i64 0)<| (zG (zA (m _ _ ?_)))
 refine zC fun z n=>?_
 have o:=H
 have H:=H.rebase
 have A:=H
 refine wF H [0,1,2,3,4,5,6,7,8] [.pure,.pure,.pure,.read,.pure,.read,.pure,.read,.pure] mixed (by kernel_rfl) (by kernel_rfl) (by kernel_rfl) rfl ?_
 refine Mx.zI rfl rfl rfl (fun w' hw'=>yM (v:=ptr0 b) rfl) ?_
 refine Mx.zI rfl rfl rfl (fun w' hw'=>yB rfl) ?_
 refine Mx.zI rfl rfl rfl (fun w' hw'=>fa222_2 rfl) ?_
 refine Mx.yO oS rfl rfl rfl (fun w' hw'=>zN one38 rfl (Cells.get (Blk.cells ((H.sees hw').item (i:=1) rfl)) (i:=2) rfl)) ?_
 refine Mx.zI rfl rfl rfl (fun w' hw'=>fa285_0 rfl) ?_
 refine Mx.yO oS rfl rfl rfl (fun w' hw'=>zN one3 rfl (Cells.get (Blk.cells ((H.sees hw').item (i:=4) rfl)) (i:=0) rfl)) ?_
 obtain ⟨k,l,d⟩:=zF d
 obtain ⟨B,C,p,q,s,t⟩:=own_at (H.item (i:=0) rfl) l
 obtain rfl:p= [.int .i64 k]:=s
 refine Mx.zI rfl rfl rfl (fun w' hw'=>xE u38 sz3 q rfl (yE l).1 (yE l).2.1 rfl rfl) ?_
 refine Mx.yO oS rfl rfl rfl (fun w' hw'=>zN one3 rfl (Cells.get (t.sees hw') (i:=0) rfl)) ?_
 refine Mx.zI rfl rfl rfl (fun w' hw'=>xN (v:= .int .i64 k) rfl) ?_
 refine Mx.xK fun D hS=>?_
 have H:=H.sees hS
 have H:=o.rejoin H
 refine (zA (n _ _ ?_))
 obtain rfl:=someI d
 refine (zY (post1 (v1:= .int .i64 k) rfl rfl ?_))
 exact ⟨rfl,H.pick [0,1] (by decide)⟩
theorem Fbbw (d:Int)(r:Int)(c:Fbb d=some r)(O S:List Nat)(w:World)(H:Hd O w w S []):
  Calls Tryz.prog 317 ([.int .i64 d]:List Value).toArray w fun e w'=>e= .returned (.int .i64 r)∧Hd O w w' S []:=by
 unfold Fbb at c
 refine zW 8 Tryz.func317 rfl rfl rfl ?_
 refine zC fun v k=>zB ?_
 refine zK (.int .i64 0)<| (zG (zA (k _ _ ?_)))
 refine zC fun x l=>?_
 refine zC fun y m=>zB ?_
 refine zJ (.int .i64 d)<| (zG (zA (m _ _ ?_)))
 refine yH ?_
 refine zC fun z n=>zB ?_
 obtain ⟨i,o,c⟩:=zD c
 refine zH (zQ (xA (a:=d) (b:=2) rfl rfl) o)<| zK (.bool i)<| (zG (zA (n _ _ ?_)))
 refine zZ (b:=i) rfl (fun f=>?_) (fun f=>?_)
 ·have c:=zS f c
  refine zC fun A p=>zB ?_
  refine zK (.int .i64 1)<| (zG (zA (p _ _ ?_)))
  obtain rfl:=someI c
  refine (zY (yF (zV (post1 (v1:= .int .i64 1) rfl rfl ?_))))
  exact ⟨rfl,H.pick [] (by decide)⟩
 have c:=zT f c
 refine zC fun B q=>zB ?_
 obtain ⟨j,s,c⟩:=zD c
 refine zH (zQ (xA (a:=d) (b:=1) rfl rfl) s)<| zK (.bool j)<| (zG (zA (q _ _ ?_)))
 refine zZ (b:=j) rfl (fun h=>?_) (fun h=>?_)
 ·have c:=zS h c
  refine zC fun C t=>zB ?_
  refine zK (.int .i64 2)<| (zG (zA (t _ _ ?_)))
  obtain rfl:=someI c
  refine (zY (yF (zV (post1 (v1:= .int .i64 2) rfl rfl ?_))))
  exact ⟨rfl,H.pick [] (by decide)⟩
 have c:=zT h c
 refine (yA (yP (zA (l _ _ ?_))))
 refine zC fun D u=>zB ?_
 refine zK (.int .i64 0)<| (zG (zA (u _ _ ?_)))
 obtain rfl:=someI c
 refine (zY (post1 (v1:= .int .i64 0) rfl rfl ?_))
 exact ⟨rfl,H.pick [] (by decide)⟩
theorem Fbpw (rfI:Nd→EventMoment→Option (Int×Nd))(rhI:Fap rfI)(l:EventNot)(a:EventMoment)(k:Nat)(c:Value)(m:List Nat)(d:Nat)(f:Value)(h:Value)(b:Value)(r:Int×EventNot)(j:Fbp rfI l a=some r)(O S:List Nat)(w:World)(H:Hd O w w S [.tr rtNd [c] m l.kid,.blk k [c] 248,.own (Rp.int .i64) b 3 a.rules,.blk d [f,h,b] 222,.fz (.sl rToldT f a.told),.fz (.sl Rp.bool h a.possible)]):
  Calls Tryz.prog 316 ([ptr0 k,ptr0 d]:List Value).toArray w fun e w'=> ∃n t,e= .returned (.int .i64 r.1)∧Hd O w w' S [.tr rtNd [n] t r.2.kid,.blk k [n] 248,.own (Rp.int .i64) b 3 a.rules,.blk d [f,h,b] 222]:=by
 unfold Fbp at j
 refine zW 12 Tryz.func316 rfl rfl rfl ?_
 refine zC fun F u=>zB ?_
 refine zK (.int .i64 0)<| (zG (zA (u _ _ ?_)))
 refine zC fun G v=>zB ?_
 refine zJ (ptr0 k)<| zH (yB rfl)<| zH (fa248_0 rfl)<| zH (zN one170 rfl (Cells.get (Blk.cells (H.item (i:=1) rfl)) (i:=0) rfl))<| zJ (ptr0 d) ?_
 obtain ⟨x,y,o⟩:=Fam (H.item (i:=0) rfl)
 obtain ⟨p,z,j⟩:=zF j
 refine yG rfl rfl (DoC_inv o rfl rfl) (rhI l.kid (EventMoment.mk a.told a.possible a.rules) c m d f h b x y o _ z _ _ _ (H.enter [0,2,3] [4,5] (by decide) rfl)) ?_
 rintro _ A ⟨q,rfl,B⟩
 have H:Hd _ _ A _ [.blk k [c] 248,.fz (.sl rToldT f a.told),.fz (.sl Rp.bool h a.possible),.tr rtNd [c] q p.2,.own (Rp.int .i64) b 3 a.rules,.blk d [f,h,b] 222]:=H.back [0,2,3] [4,5] rfl B
 refine ⟨_,rfl,?_⟩
 have C:=H
 obtain ⟨s,D,j⟩:=zF j
 refine yG rfl rfl (yC en317 rfl) (Fbbw p.1 _ D _ _ _ (H.enter [] [] (by decide) rfl)) ?_
 rintro _ I ⟨rfl,E⟩
 have H:=C.step (E.only:Only [] _ _)
 refine ⟨_,rfl,?_⟩
 refine zK (.int .i64 s)<| (zG (zA (v _ _ ?_)))
 obtain rfl:=someI j
 refine (zY (post1 (v1:= .int .i64 s) rfl rfl ?_))
 exact ⟨c,q,rfl,H.pick [3,0,4,5] (by decide)⟩
set_option maxRecDepth 100000 in
theorem Fbcw (rfI:Nd→EventMoment→Option (Int×Nd))(rhI:Fap rfI)(l:EventGroup)(d:EventMoment)(m:Nat)(k:Value)(A:List Nat)(n:Nat)(h:Value)(j:Value)(f:Value)(r:Int×EventGroup)(c:Fbc rfI l d=some r)(O S:List Nat)(w:World)(H:Hd O w w S [.tr rowNd [k] A l.kids,.blk m [k,.bool l.any] 251,.own (Rp.int .i64) f 3 d.rules,.blk n [h,j,f] 222,.fz (.sl rToldT h d.told),.fz (.sl Rp.bool j d.possible)]):
  Calls Tryz.prog 319 ([ptr0 m,ptr0 n]:List Value).toArray w fun e w'=> ∃L ab,e= .returned (.int .i64 r.1)∧Hd O w w' S [.tr rowNd [L] ab r.2.kids,.blk m [L,.bool r.2.any] 251,.own (Rp.int .i64) f 3 d.rules,.blk n [h,j,f] 222]:=by
 unfold Fbc at c
 refine zW 38 Tryz.func319 rfl rfl rfl ?_
 refine zC fun bp ac=>zB ?_
 refine zK (.int .i64 0)<| (zG (zA (ac _ _ ?_)))
 refine zC fun bq ad=>zB ?_
 refine zK (.int .i64 1)<| zK (.int .i64 2)<| (zG (zA (ad _ _ ?_)))
 obtain ⟨B,c,ae⟩:=zF c
 refine yK [5,6,10,11,12,13] (fun (g:Unit)=>[(5,.int .i64 B.1),(6,.int .i64 B.2)]) (fun g wl=>Hd O w wl S [.tr rowNd [k] A l.kids,.blk m [k,.bool l.any] 251,.own (Rp.int .i64) f 3 d.rules,.blk n [h,j,f] 222,.fz (.sl rToldT h d.told),.fz (.sl Rp.bool j d.possible)]) ?_ ?_
 ·skip
  refine zC fun br af=>zB ?_
  refine zJ (ptr0 m)<| zH (yB rfl)<| zH (fa251_1 rfl)<| zH (zN one4 rfl (Cells.get (Blk.cells (H.item (i:=1) rfl)) (i:=1) rfl))<| (zG (zA (af _ _ ?_)))
  refine zZ (b:=l.any) rfl (fun C=>?_) (fun C=>?_)
  ·have c:=zS C c
   refine zB ?_
   refine zK (.int .i64 2)<| zK (.int .i64 1) ?_
   obtain rfl:=someI c
   exact (zG (zA (meet ⟨(),(zL rfl (zL rfl zM)),H.pick [0,1,2,3,4,5] (by decide)⟩)))
  have c:=zT C c
  obtain rfl:=someI c
  exact (yA (zA (meet ⟨(),(zL rfl (zL rfl zM)),H.pick [0,1,2,3,4,5] (by decide)⟩)))
 rintro _ ρ bt H
 have c:=ae
 obtain ⟨y,u⟩:=B
 refine zC fun bu ag=>zB ?_
 refine zJ (.int .i64 u)<| zK (.int .i64 u)<| (zG (zA (ag _ _ ?_)))
 obtain ⟨z,c,ah⟩:=zF c
 refine yK [7,9,15,16,17,18,19,20,21,22,23,24,25,26,27,28,29,30,31,32,33,34,35,36] (fun (g:(List Nat))=>[(7,.int .i64 z.1)]) (fun g wl=>Hd O w wl S [.tr rowNd [k] g z.2,.blk m [k,.bool l.any] 251,.own (Rp.int .i64) f 3 d.rules,.blk n [h,j,f] 222,.fz (.sl rToldT h d.told),.fz (.sl Rp.bool j d.possible)]) ?_ ?_
 ·skip
  refine zC fun bv ai=>zB ?_
  refine zJ (ptr0 m)<| zH (yB rfl)<| zH (fa251_0 rfl)<| zH (zN one143 rfl (Cells.get (Blk.cells (H.item (i:=1) rfl)) (i:=0) rfl)) ?_
  obtain ⟨aj,ak,c⟩:=zD c
  obtain ⟨bw,bx,al⟩:=row_len ((H.item (i:=0) rfl))
  refine zH (yS (xP u143 al) (congrArg (Value.int .i64) ak))<| zJ (.int .i64 0)<| (zG (zA (ai _ _ ?_)))
  refine yH ?_
  unfold Fcd at c
  obtain ⟨am,M,an,c⟩:=yX c
  refine xI [7,9,20,21,22,23,24,25,26,27,28,29,30,31,32,33,34,35,36] (fun (g:Nat×Int×Int×(List Nd)×(List Nat))=>[(7,.int .i64 g.2.1),(20,.int .i64 g.2.2.1)]) (fun g wl=>Hd O w wl S [.tr rowNd [k] g.2.2.2.2 g.2.2.2.1,.blk m [k,.bool l.any] 251,.own (Rp.int .i64) f 3 d.rules,.blk n [h,j,f] 222,.fz (.sl rToldT h d.told),.fz (.sl Rp.bool j d.possible)]∧loopN am g.1 (g.2.1,g.2.2.1,g.2.2.2.1)=some z) (fun g=>g.1) (M,u,0,l.kids,A) (zL rfl (zL rfl zM)) ⟨H.pick [0,1,2,3,4,5] (by decide),c⟩ ?_
  clear H c
  rintro ⟨M,N,p,s,ao⟩ ρ bz ⟨H,c⟩
  obtain ⟨ap,rfl,c⟩:=xC c
  have c:=xB an c
  refine zC fun b0 aq=>zB ?_
  obtain ⟨ar,au,c⟩:=zD c
  refine zH (zQ (xR (a:=p) (b:=aj) rfl rfl) au)<| (zG (zA (aq _ _ ?_)))
  refine zC fun b1 av=>?_
  refine zZ (b:=ar) rfl (fun D=>?_) (fun D=>?_)
  ·have c:=zS D c
   refine (yA (zA (av _ _ ?_)))
   obtain ⟨E,c,aw⟩:=zF c
   refine yK [7,9,22,23,24,25,26,27,28,29,30,31,32,33,34,35] (fun (g:(List Nat))=>[(7,.int .i64 E.1)]) (fun g wl=>Hd O w wl S [.tr rowNd [k] g E.2,.blk m [k,.bool l.any] 251,.own (Rp.int .i64) f 3 d.rules,.blk n [h,j,f] 222,.fz (.sl rToldT h d.told),.fz (.sl Rp.bool j d.possible)]) ?_ ?_
   ·skip
    refine yH ?_
    refine zC fun b2 ax=>zB ?_
    obtain ⟨P,v,c⟩:=zF c
    obtain ⟨b3,b4,b5,F⟩:=row_at (H.item (i:=0) rfl) v
    refine zH (xE u143 sz170 F rfl (yE v).1 (yE v).2.1 rfl rfl) ?_
    obtain ⟨b6,t,Q,H⟩:=H.focusV 0 rfl F v rfl
    obtain ⟨o,rfl⟩:=tr_cell rfl (H.item (i:=6) rfl)
    have H:Hd _ _ _ _ [.blk m [k,.bool l.any] 251,.own (Rp.int .i64) f 3 d.rules,.blk n [h,j,f] 222,.fz (.sl rToldT h d.told),.fz (.sl Rp.bool j d.possible),.tr (Rt.row rtNd 170 [(p.toNat,[o])]) [k] t s,.tr rtNd [o] Q P]:=H
    refine zH (zN one170 rfl (Cells.get (H.holeW 5 rfl F v rfl lookup_eq) (i:=0) rfl))<| zK o<| (zG (zA (ax _ _ ?_)))
    refine zC fun b7 ay=>zB ?_
    refine zJ o<| zJ (ptr0 n) ?_
    obtain ⟨az,a0,R⟩:=Fam (H.item (i:=6) rfl)
    obtain ⟨q,a1,c⟩:=zF c
    refine yG rfl rfl (DoC_inv R rfl rfl) (rhI P (EventMoment.mk d.told d.possible d.rules) o Q n h j f az a0 R _ a1 _ _ _ (H.enter [6,1,2] [3,4] (by decide) rfl)) ?_
    rintro _ a2 ⟨x,rfl,a3⟩
    have H:Hd _ _ a2 _ [.blk m [k,.bool l.any] 251,.fz (.sl rToldT h d.told),.fz (.sl Rp.bool j d.possible),.tr (Rt.row rtNd 170 [(p.toNat,[o])]) [k] t s,.tr rtNd [o] x q.2,.own (Rp.int .i64) f 3 d.rules,.blk n [h,j,f] 222]:=H.back [6,1,2] [3,4] rfl a3
    refine ⟨_,rfl,?_⟩
    refine (zG (zA (ay _ _ ?_)))
    refine yH ?_
    refine zC fun b8 a4=>zB ?_
    refine zJ (.int .i64 y) ?_
    obtain ⟨T,a5,c⟩:=zD c
    refine zH (zQ (xA (a:=q.1) (b:=y) rfl rfl) a5)<| zK (.bool T)<| (zG (zA (a4 _ _ ?_)))
    refine zZ (b:=T) rfl (fun G=>?_) (fun G=>?_)
    ·have c:=zS G c
     refine zB ?_
     refine zJ (.int .i64 y)<| zK (.int .i64 y) ?_
     have H:Hd _ _ _ _ [.blk m [k,.bool l.any] 251,.fz (.sl rToldT h d.told),.fz (.sl Rp.bool j d.possible),.tr (Rt.row rtNd 170 [(p.toNat,[o])]) [k] t s,.tr rtNd [o] x q.2,.own (Rp.int .i64) f 3 d.rules,.blk n [h,j,f] 222]:=H
     obtain ⟨a6,a7,c⟩:=zF c
     obtain ⟨U,H⟩:=H.unfocus 3 4 rfl rfl (by decide) rfl rfl a7
     have H:Hd _ _ _ _ [.blk m [k,.bool l.any] 251,.fz (.sl rToldT h d.told),.fz (.sl Rp.bool j d.possible),.own (Rp.int .i64) f 3 d.rules,.blk n [h,j,f] 222,.tr rowNd [k] U a6]:=H
     obtain rfl:=someI c
     exact (zG (yP (yP (zA (meet ⟨U,(zL rfl zM),H.pick [5,0,3,4,1,2] (by decide)⟩)))))
    have c:=zT G c
    refine zC fun b9 a8=>zB ?_
    obtain ⟨V,a9,c⟩:=zD c
    refine zH (zQ (xA (a:=q.1) (b:=0) rfl rfl) a9)<| zK (.bool V)<| (zG (zA (a8 _ _ ?_)))
    refine zZ (b:=V) rfl (fun I=>?_) (fun I=>?_)
    ·have c:=zS I c
     refine zC fun ca ba=>zB ?_
     refine zJ (.int .i64 N)<| zJ (.int .i64 u) ?_
     obtain ⟨bb,bc,c⟩:=zD c
     refine zH (zQ (xA (a:=N) (b:=u) rfl rfl) bc)<| (zG (zA (ba _ _ ?_)))
     refine zZ (b:=bb) rfl (fun J=>?_) (fun J=>?_)
     ·have c:=zS J c
      refine zB ?_
      refine zK (.int .i64 0) ?_
      have H:Hd _ _ _ _ [.blk m [k,.bool l.any] 251,.fz (.sl rToldT h d.told),.fz (.sl Rp.bool j d.possible),.tr (Rt.row rtNd 170 [(p.toNat,[o])]) [k] t s,.tr rtNd [o] x q.2,.own (Rp.int .i64) f 3 d.rules,.blk n [h,j,f] 222]:=H
      obtain ⟨bd,be,c⟩:=zF c
      obtain ⟨X,H⟩:=H.unfocus 3 4 rfl rfl (by decide) rfl rfl be
      have H:Hd _ _ _ _ [.blk m [k,.bool l.any] 251,.fz (.sl rToldT h d.told),.fz (.sl Rp.bool j d.possible),.own (Rp.int .i64) f 3 d.rules,.blk n [h,j,f] 222,.tr rowNd [k] X bd]:=H
      obtain rfl:=someI c
      exact (zG (yP (yP (zA (meet ⟨X,(zL rfl zM),H.pick [5,0,3,4,1,2] (by decide)⟩)))))
     have c:=zT J c
     have H:Hd _ _ _ _ [.blk m [k,.bool l.any] 251,.fz (.sl rToldT h d.told),.fz (.sl Rp.bool j d.possible),.tr (Rt.row rtNd 170 [(p.toNat,[o])]) [k] t s,.tr rtNd [o] x q.2,.own (Rp.int .i64) f 3 d.rules,.blk n [h,j,f] 222]:=H
     obtain ⟨bf,bg,c⟩:=zF c
     obtain ⟨Y,H⟩:=H.unfocus 3 4 rfl rfl (by decide) rfl rfl bg
     have H:Hd _ _ _ _ [.blk m [k,.bool l.any] 251,.fz (.sl rToldT h d.told),.fz (.sl Rp.bool j d.possible),.own (Rp.int .i64) f 3 d.rules,.blk n [h,j,f] 222,.tr rowNd [k] Y bf]:=H
     obtain rfl:=someI c
     exact (yA (yP (yP (zA (meet ⟨Y,(zL rfl zM),H.pick [5,0,3,4,1,2] (by decide)⟩)))))
    have c:=zT I c
    have H:Hd _ _ _ _ [.blk m [k,.bool l.any] 251,.fz (.sl rToldT h d.told),.fz (.sl Rp.bool j d.possible),.tr (Rt.row rtNd 170 [(p.toNat,[o])]) [k] t s,.tr rtNd [o] x q.2,.own (Rp.int .i64) f 3 d.rules,.blk n [h,j,f] 222]:=H
    obtain ⟨bh,bi,c⟩:=zF c
    obtain ⟨Z,H⟩:=H.unfocus 3 4 rfl rfl (by decide) rfl rfl bi
    have H:Hd _ _ _ _ [.blk m [k,.bool l.any] 251,.fz (.sl rToldT h d.told),.fz (.sl Rp.bool j d.possible),.own (Rp.int .i64) f 3 d.rules,.blk n [h,j,f] 222,.tr rowNd [k] Z bh]:=H
    obtain rfl:=someI c
    exact (yA (yP (yP (zA (meet ⟨Z,(zL rfl zM),H.pick [5,0,3,4,1,2] (by decide)⟩)))))
   rintro bj ρ cb H
   have c:=aw
   obtain ⟨bk,bl⟩:=E
   refine zB ?_
   obtain ⟨aa,bm,c⟩:=zD c
   refine zH (xM (a:=p) (b:=1) rfl rfl bm)<| zJ (.int .i64 aa) ?_
   exact (zG (zA (meet ⟨(ap,bk,aa,bl,bj),(zL rfl (zL rfl zM)),⟨H.pick [0,1,2,3,4,5] (by decide),c⟩,Nat.lt_succ_self _⟩)))
  have c:=zT D c
  obtain rfl:=someI c
  exact (xO (yQ (yQ (yZ (zA (meet ⟨ao,(zL rfl zM),H.pick [0,1,2,3,4,5] (by decide)⟩))))))
 rintro bn ρ cc H
 have c:=ah
 obtain ⟨K,cd⟩:=z
 refine zC fun ce bo=>zB ?_
 refine zJ (.int .i64 K)<| zK (.int .i64 K)<| (zG (zA (bo _ _ ?_)))
 obtain rfl:=someI c
 refine (zY (post1 (v1:= .int .i64 K) rfl rfl ?_))
 exact ⟨k,bn,rfl,H.pick [0,1,2,3] (by decide)⟩
theorem Fbhw (rfI:Nd→EventMoment→Option (Int×Nd))(rhI:Fap rfI)(d:EventCount)(h:EventMoment)(k:Nat)(l:Value)(T:List Nat)(A:Value)(U:List Nat)(t:Nat)(p:Value)(q:Value)(o:Value)(r:Int×EventCount)(c:Fbh rfI d h=some r)(O S:List Nat)(w:World)(H:Hd O w w S [.tr rtNd [l] T d.kid,.tr (Rt.row (Rt.of (Rp.int .i64)) 3 []) [A] U d.last,.blk k ([l,.int .i64 d.n,.int .i64 d.frames,A]++((Fl.arr 3 (Fl.int .i64)).f d.totals)) 245,.own (Rp.int .i64) o 3 h.rules,.blk t [p,q,o] 222,.fz (.sl rToldT p h.told),.fz (.sl Rp.bool q h.possible)]):
  Calls Tryz.prog 313 ([ptr0 k,ptr0 t]:List Value).toArray w fun e w'=> ∃V aw Y ax,e= .returned (.int .i64 r.1)∧Hd O w w' S [.tr rtNd [V] aw r.2.kid,.tr (Rt.row (Rt.of (Rp.int .i64)) 3 []) [Y] ax r.2.last,.blk k ([V,.int .i64 r.2.n,.int .i64 r.2.frames,Y]++((Fl.arr 3 (Fl.int .i64)).f r.2.totals)) 245,.own (Rp.int .i64) o 3 h.rules,.blk t [p,q,o] 222]:=by
 unfold Fbh at c
 refine zW 96 Tryz.func313 rfl rfl rfl ?_
 refine zC fun ca ay=>zB ?_
 refine zK (.int .i64 0)<| (zG (zA (ay _ _ ?_)))
 refine zC fun cb az=>zB ?_
 refine zJ (ptr0 k)<| zH (yB rfl)<| zH (fa245_0 rfl)<| zH (zN one170 rfl (Cells.get (Blk.cells (H.item (i:=2) rfl)) (i:=0) rfl))<| zJ (ptr0 t) ?_
 obtain ⟨a0,a1,Z⟩:=Fam (H.item (i:=0) rfl)
 obtain ⟨m,a2,c⟩:=zF c
 refine yG rfl rfl (DoC_inv Z rfl rfl) (rhI d.kid (EventMoment.mk h.told h.possible h.rules) l T t p q o a0 a1 Z _ a2 _ _ _ (H.enter [0,3,4] [5,6] (by decide) rfl)) ?_
 rintro _ a3 ⟨u,rfl,a4⟩
 have H:Hd _ _ a3 _ [.tr (Rt.row (Rt.of (Rp.int .i64)) 3 []) [A] U d.last,.blk k ([l,.int .i64 d.n,.int .i64 d.frames,A]++((Fl.arr 3 (Fl.int .i64)).f d.totals)) 245,.fz (.sl rToldT p h.told),.fz (.sl Rp.bool q h.possible),.tr rtNd [l] u m.2,.own (Rp.int .i64) o 3 h.rules,.blk t [p,q,o] 222]:=H.back [0,3,4] [5,6] rfl a4
 refine ⟨_,rfl,?_⟩
 refine zK (.int .i64 m.1)<| (zG (zA (az _ _ ?_)))
 refine zC fun cc a5=>zB ?_
 refine zJ (ptr0 k)<| zH (yB rfl)<| zH (fa245_4 rfl)<| zH (Do_loadF (e:=(Fl.arr 3 (Fl.int .i64))) (a:=d.totals) agg243 rfl sz243 (Cells.suf (pre:=[l,.int .i64 d.n,.int .i64 d.frames,A]) (Blk.cells (H.item (i:=1) rfl)) rfl))<| yY rfl rfl (xQ zero243 H) ?_
 rintro _ cd ⟨C,rfl,H⟩
 refine xG rfl (Lx_storeW (e:=(Fl.arr 3 (Fl.int .i64))) (a:=(Arr.rep 3 0:Arr 3 Int)) (a':=d.totals) H 7 rfl sz243 rfl rfl) ?_
 rintro ce H
 refine (zG (zA (a5 _ _ ?_)))
 refine zC fun cf a6=>zB ?_
 refine zJ (.int .i64 m.1) ?_
 obtain ⟨aa,ab,c⟩:=zF c
 refine zH (Do_idxA (X:=d.totals) u243 sz3 rfl rfl ab)<| zH (Do_load1 (v:= .int .i64 aa) one3 rfl (Cells.ix (e:=(Fl.int .i64)) (x:=d.totals) (Blk.cells (H.item (i:=7) rfl)) ab)) ?_
 obtain ⟨ac,a7,c⟩:=zD c
 refine zH (xM (a:=aa) (b:=1) rfl rfl a7) ?_
 obtain ⟨cg,G,c⟩:=zF c
 refine zH (Do_idxA (X:=d.totals) u243 sz3 rfl rfl G) ?_
 obtain ⟨y,a8,c⟩:=zD c
 refine xG rfl (Lx_storeA (e:=(Fl.int .i64)) (X:=d.totals) (a:=ac) (j:=m.1) H 7 rfl sz3 rfl (v:= .int .i64 ac) rfl rfl (Arr.at_lt G).1 (Arr.at_lt G).2 a8) ?_
 rintro ch H
 refine (zG (zA (a6 _ _ ?_)))
 refine zC fun ci a9=>zB ?_
 refine zJ (ptr0 k)<| zJ (ptr0 k)<| zH (yB rfl)<| zH (fa245_3 rfl)<| zH (zN one38 rfl (Cells.get (Blk.cells (H.item (i:=1) rfl)) (i:=3) rfl))<| zJ (.int .i64 m.1) ?_
 obtain ⟨cj,ba,c⟩:=zD c
 subst ba
 refine yY rfl rfl (Lx_bs (r:=(Rp.int .i64)) (xl:=[m.1]) (cs:=[.int .i64 m.1]) u38 el3 (by decide) (by decide) rfl (wC (vs:=[.int .i64 m.1]) (by decide) rfl rfl ⟨rfl,trivial⟩ rfl) H ⟨[.int .i64 m.1],[],rfl,rfl,rfl⟩) ?_
 rintro E ck H
 obtain ⟨F,bb,c⟩:=zF c
 refine yY rfl rfl (Lx_appF H 0 rfl u38 el3 rfl rfl (Sr.of_own (H.item (i:=8) rfl)) bb) ?_
 rintro s cl ⟨ad,H⟩
 have H:Hd _ _ _ _ [.blk k ([l,.int .i64 d.n,.int .i64 d.frames,A]++((Fl.arr 3 (Fl.int .i64)).f d.totals)) 245,.fz (.sl rToldT p h.told),.fz (.sl Rp.bool q h.possible),.tr rtNd [l] u m.2,.own (Rp.int .i64) o 3 h.rules,.blk t [p,q,o] 222,.blk C ((Fl.arr 3 (Fl.int .i64)).f y) 243,.own (Rp.int .i64) E 3 ([m.1]:List Int),.tr (Rt.row (Rt.of (Rp.int .i64)) 3 []) [s] ad F]:=H
 refine zH (yB rfl)<| zH (fa245_3 rfl)<| xG rfl (wE H 0 rfl sz38 rfl (v:=s) rfl (tr_one (H.item (i:=8) rfl)) rfl) ?_
 rintro cm H
 refine (zG (zA (a9 _ _ ?_)))
 refine zC fun cn bc=>?_
 have bd:=H
 have H:=H.rebase
 have co:=H
 refine wF H [0,1,2,3,4,5,6,7,8,9,10] [.pure,.pure,.pure,.pure,.pure,.read,.pure,.pure,.pure,.pure,.eff] mixed (by kernel_rfl) (by kernel_rfl) (by kernel_rfl) rfl ?_
 refine Mx.zI rfl rfl rfl (fun w' hw'=>yM (v:=ptr0 k) rfl) ?_
 refine Mx.zI rfl rfl rfl (fun w' hw'=>yM (v:= .int .i64 m.1) rfl) ?_
 refine Mx.zI rfl rfl rfl (fun w' hw'=>yB rfl) ?_
 refine Mx.zI rfl rfl rfl (fun w' hw'=>fa245_4 rfl) ?_
 obtain ⟨ae,af,c⟩:=zF c
 refine Mx.zI rfl rfl rfl (fun w' hw'=>Do_idxA (X:=d.totals) u243 sz3 rfl rfl af) ?_
 refine Mx.yO oS rfl rfl rfl (fun w' hw'=>Do_load1 (v:= .int .i64 ae) one3 rfl (Cells.ix (e:=(Fl.int .i64)) (x:=d.totals) (Cells.suf (pre:=[l,.int .i64 d.n,.int .i64 d.frames,s]) (Blk.cells ((H.sees hw').item (i:=0) rfl)) rfl) af)) ?_
 obtain ⟨ag,be,c⟩:=zD c
 refine Mx.zI rfl rfl rfl (fun w' hw'=>xM (a:=ae) (b:=1) rfl rfl be) ?_
 refine Mx.zI rfl rfl rfl (fun w' hw'=>yB rfl) ?_
 refine Mx.zI rfl rfl rfl (fun w' hw'=>fa245_4 rfl) ?_
 obtain ⟨cp,I,c⟩:=zF c
 refine Mx.zI rfl rfl rfl (fun w' hw'=>Do_idxA (X:=d.totals) u243 sz3 rfl rfl I) ?_
 obtain ⟨D,bf,c⟩:=zD c
 refine Mx.XL_exU oS rfl rfl (fun w' hw'=>Lx_storeP (e:=(Fl.int .i64)) (X:=d.totals) (a:=ag) (j:=m.1) (pre:=[l,.int .i64 d.n,.int .i64 d.frames,s]) (H.sees hw') 0 rfl sz3 rfl rfl (v:= .int .i64 ag) rfl rfl (Arr.at_lt I).1 (Arr.at_lt I).2 bf) ?_
 rintro w' cq hw' H
 refine ⟨H.only,?_⟩
 refine Mx.xK fun cr hS=>?_
 have H:=H.sees hS
 have H:=bd.rejoin H
 refine (zA (bc _ _ ?_))
 obtain ⟨J,c,bg⟩:=zF c
 refine yK [42,43,44,45,46,47,48,49,50,51,52,53,54,55,56,57,58,59,60,61,62,63,64,65,66,67,68,69,70,71,72,73,74] (fun (g:Value×(List Nat))=>[]) (fun g wl=>Hd O w wl S [.blk k ([l,.int .i64 d.n,.int .i64 d.frames,g.1]++((Fl.arr 3 (Fl.int .i64)).f J.2)) 245,.tr rtNd [l] u m.2,.tr (Rt.row (Rt.of (Rp.int .i64)) 3 []) [g.1] g.2 J.1,.fz (.sl rToldT p h.told),.fz (.sl Rp.bool q h.possible),.own (Rp.int .i64) o 3 h.rules,.blk t [p,q,o] 222,.blk C ((Fl.arr 3 (Fl.int .i64)).f y) 243]) ?_ ?_
 ·skip
  refine zC fun ct bh=>?_
  have bi:=H
  have H:=H.rebase
  have cu:=H
  refine wF H [0,1,2,3,4,5,6,7,8,9] [.pure,.pure,.pure,.read,.pure,.pure,.pure,.pure,.read,.pure] mixed (by kernel_rfl) (by kernel_rfl) (by kernel_rfl) rfl ?_
  refine Mx.zI rfl rfl rfl (fun w' hw'=>yM (v:=ptr0 k) rfl) ?_
  refine Mx.zI rfl rfl rfl (fun w' hw'=>yB rfl) ?_
  refine Mx.zI rfl rfl rfl (fun w' hw'=>fa245_3 rfl) ?_
  refine Mx.yO oS rfl rfl rfl (fun w' hw'=>zN one38 rfl (Cells.get (Blk.cells ((H.sees hw').item (i:=0) rfl)) (i:=3) rfl)) ?_
  obtain ⟨bj,bk,c⟩:=zD c
  obtain ⟨cv,cw,bl⟩:=row_len ((H.item (i:=8) rfl))
  refine Mx.zI rfl rfl rfl (fun w' hw'=>yS (xP u38 bl) (congrArg (Value.int .i64) bk)) ?_
  refine Mx.zI rfl rfl rfl (fun w' hw'=>yM (v:=ptr0 k) rfl) ?_
  refine Mx.zI rfl rfl rfl (fun w' hw'=>yB rfl) ?_
  refine Mx.zI rfl rfl rfl (fun w' hw'=>fa245_2 rfl) ?_
  refine Mx.yO oS rfl rfl rfl (fun w' hw'=>zN one3 rfl (Cells.get (Blk.cells ((H.sees hw').item (i:=0) rfl)) (i:=2) rfl)) ?_
  obtain ⟨bm,bn,c⟩:=zD c
  refine Mx.zI rfl rfl rfl (fun w' hw'=>zQ (xA (a:=bj) (b:=d.frames) rfl rfl) bn) ?_
  refine Mx.xK fun cx hS=>?_
  have H:=H.sees hS
  have H:=bi.rejoin H
  refine (zA (bh _ _ ?_))
  refine zZ (b:=bm) rfl (fun K=>?_) (fun K=>?_)
  ·have c:=zS K c
   refine zC fun cy bo=>?_
   have bp:=H
   have H:=H.rebase
   have cz:=H
   refine wF H [0,1,2,3,4,5,6,7,8,9,10,11,12,13,14,15] [.pure,.pure,.pure,.pure,.read,.pure,.read,.pure,.pure,.pure,.read,.pure,.pure,.pure,.pure,.eff] mixed (by kernel_rfl) (by kernel_rfl) (by kernel_rfl) rfl ?_
   refine Mx.zI rfl rfl rfl (fun w' hw'=>yM (v:=ptr0 k) rfl) ?_
   refine Mx.zI rfl rfl rfl (fun w' hw'=>yM (v:=ptr0 k) rfl) ?_
   refine Mx.zI rfl rfl rfl (fun w' hw'=>yB rfl) ?_
   refine Mx.zI rfl rfl rfl (fun w' hw'=>fa245_3 rfl) ?_
   refine Mx.yO oS rfl rfl rfl (fun w' hw'=>zN one38 rfl (Cells.get (Blk.cells ((H.sees hw').item (i:=0) rfl)) (i:=3) rfl)) ?_
   obtain ⟨z,B,c⟩:=zF c
   obtain ⟨c0,c1,c2,L⟩:=row_at (H.item (i:=8) rfl) B
   refine Mx.zI rfl rfl rfl (fun w' hw'=>xE u38 sz3 L rfl (yE B).1 (yE B).2.1 rfl rfl) ?_
   obtain ⟨bq,ah,c3,H⟩:=H.focusV 8 rfl L B rfl
   obtain ⟨br,bt⟩:=trF (H.item (i:=9) rfl)
   subst br
   obtain rfl:bq= [.int .i64 z]:=bt
   have H:Hd _ _ _ _ [.blk k ([l,.int .i64 d.n,.int .i64 d.frames,s]++((Fl.arr 3 (Fl.int .i64)).f D)) 245,.fz (.sl rToldT p h.told),.fz (.sl Rp.bool q h.possible),.tr rtNd [l] u m.2,.own (Rp.int .i64) o 3 h.rules,.blk t [p,q,o] 222,.blk C ((Fl.arr 3 (Fl.int .i64)).f y) 243,.own (Rp.int .i64) E 3 ([m.1]:List Int),.tr (Rt.row (Rt.of (Rp.int .i64)) 3 [((0:Int).toNat,[.int .i64 z])]) [s] ah F,.tr (Rt.of (Rp.int .i64)) [.int .i64 z] [] z]:=H
   refine Mx.yO oS rfl rfl rfl (fun w' hw'=>zN one3 rfl (Cells.get ((H.sees hw').holeW 8 rfl L B rfl lookup_eq) (i:=0) rfl)) ?_
   refine Mx.zI rfl rfl rfl (fun w' hw'=>yB rfl) ?_
   refine Mx.zI rfl rfl rfl (fun w' hw'=>fa245_4 rfl) ?_
   obtain ⟨ai,aj,c⟩:=zF c
   refine Mx.zI rfl rfl rfl (fun w' hw'=>Do_idxA (X:=D) u243 sz3 rfl rfl aj) ?_
   refine Mx.yO oS rfl rfl rfl (fun w' hw'=>Do_load1 (v:= .int .i64 ai) one3 rfl (Cells.ix (e:=(Fl.int .i64)) (x:=D) (Cells.suf (pre:=[l,.int .i64 d.n,.int .i64 d.frames,s]) (Blk.cells ((H.sees hw').item (i:=0) rfl)) rfl) aj)) ?_
   obtain ⟨ak,bu,c⟩:=zD c
   refine Mx.zI rfl rfl rfl (fun w' hw'=>Do_sub (a:=ai) (b:=1) rfl rfl bu) ?_
   refine Mx.zI rfl rfl rfl (fun w' hw'=>yB rfl) ?_
   refine Mx.zI rfl rfl rfl (fun w' hw'=>fa245_4 rfl) ?_
   obtain ⟨c4,M,c⟩:=zF c
   refine Mx.zI rfl rfl rfl (fun w' hw'=>Do_idxA (X:=D) u243 sz3 rfl rfl M) ?_
   obtain ⟨al,bv,c⟩:=zD c
   refine Mx.XL_exU oS rfl rfl (fun w' hw'=>Lx_storeP (e:=(Fl.int .i64)) (X:=D) (a:=ak) (j:=z) (pre:=[l,.int .i64 d.n,.int .i64 d.frames,s]) (H.sees hw') 0 rfl sz3 rfl rfl (v:= .int .i64 ak) rfl rfl (Arr.at_lt M).1 (Arr.at_lt M).2 bv) ?_
   rintro w' c5 hw' H
   refine ⟨H.only,?_⟩
   refine Mx.xK fun c6 hS=>?_
   have H:=H.sees hS
   have H:=bp.rejoin H
   refine (zA (bo _ _ ?_))
   refine zB ?_
   refine zJ (ptr0 k)<| zJ (ptr0 k)<| zH (yB rfl)<| zH (fa245_3 rfl)<| zH (zN one38 rfl (Cells.get (Blk.cells (H.item (i:=0) rfl)) (i:=3) rfl)) ?_
   have H:Hd _ _ _ _ [.blk k ([l,.int .i64 d.n,.int .i64 d.frames,s]++((Fl.arr 3 (Fl.int .i64)).f al)) 245,.fz (.sl rToldT p h.told),.fz (.sl Rp.bool q h.possible),.tr rtNd [l] u m.2,.own (Rp.int .i64) o 3 h.rules,.blk t [p,q,o] 222,.blk C ((Fl.arr 3 (Fl.int .i64)).f y) 243,.own (Rp.int .i64) E 3 ([m.1]:List Int),.tr (Rt.row (Rt.of (Rp.int .i64)) 3 [((0:Int).toNat,[.int .i64 z])]) [s] ah F,.tr (Rt.of (Rp.int .i64)) [.int .i64 z] [] z]:=H
   obtain ⟨am,H⟩:=H.unfocus0 8 9 rfl rfl (by decide) rfl rfl B
   have H:Hd _ _ _ _ [.blk k ([l,.int .i64 d.n,.int .i64 d.frames,s]++((Fl.arr 3 (Fl.int .i64)).f al)) 245,.fz (.sl rToldT p h.told),.fz (.sl Rp.bool q h.possible),.tr rtNd [l] u m.2,.own (Rp.int .i64) o 3 h.rules,.blk t [p,q,o] 222,.blk C ((Fl.arr 3 (Fl.int .i64)).f y) 243,.own (Rp.int .i64) E 3 ([m.1]:List Int),.tr (Rt.row (Rt.of (Rp.int .i64)) 3 []) [s] am F]:=H
   obtain ⟨c7,bw,c⟩:=zF c
   refine RL_exP rfl rfl (Lx_rpart_l H 8 rfl u38 sz3 rfl rfl bw) ?_
   rintro an H
   refine zH (yB rfl)<| zH (fa245_3 rfl)<| xG rfl (wE H 0 rfl sz38 rfl (v:=an) rfl (tr_one (H.item (i:=8) rfl)) rfl) ?_
   rintro c8 H
   obtain rfl:=someI c
   exact (zG (zA (meet ⟨(an,am),zM,H.pick [0,3,8,1,2,4,5,6] (by decide)⟩)))
  have c:=zT K c
  obtain rfl:=someI c
  exact (yA (zA (meet ⟨(s,ad),zM,H.pick [0,3,8,1,2,4,5,6] (by decide)⟩)))
 rintro ⟨N,P⟩ ρ c9 H
 have c:=bg
 obtain ⟨da,db⟩:=J
 refine zC fun dc bx=>?_
 refine yH ?_
 refine zC fun dd bz=>?_
 have b0:=H
 have H:=H.rebase
 have de:=H
 refine wF H [0,1,2,3,4,5,6,7] [.pure,.read,.pure,.pure,.pure,.read,.pure,.pure] mixed (by kernel_rfl) (by kernel_rfl) (by kernel_rfl) rfl ?_
 obtain ⟨ao,ap,c⟩:=zF c
 refine Mx.zI rfl rfl rfl (fun w' hw'=>Do_idxA (X:=y) u243 sz3 rfl rfl ap) ?_
 refine Mx.yO oS rfl rfl rfl (fun w' hw'=>Do_load1 (v:= .int .i64 ao) one3 rfl (Cells.ix (e:=(Fl.int .i64)) (x:=y) (Blk.cells ((H.sees hw').item (i:=7) rfl)) ap)) ?_
 refine Mx.zI rfl rfl rfl (fun w' hw'=>yM (v:=ptr0 k) rfl) ?_
 refine Mx.zI rfl rfl rfl (fun w' hw'=>yB rfl) ?_
 refine Mx.zI rfl rfl rfl (fun w' hw'=>fa245_1 rfl) ?_
 refine Mx.yO oS rfl rfl rfl (fun w' hw'=>zN one3 rfl (Cells.get (Blk.cells ((H.sees hw').item (i:=0) rfl)) (i:=1) rfl)) ?_
 obtain ⟨aq,b1,c⟩:=zD c
 refine Mx.zI rfl rfl rfl (fun w' hw'=>zQ (Do_geq (a:=ao) (b:=d.n) rfl rfl) b1) ?_
 refine Mx.zI rfl rfl rfl (fun w' hw'=>xN (v:= .bool aq) rfl) ?_
 refine Mx.xK fun df hS=>?_
 have H:=H.sees hS
 have H:=b0.rejoin H
 refine (zA (bz _ _ ?_))
 refine zZ (b:=aq) rfl (fun Q=>?_) (fun Q=>?_)
 ·have c:=zS Q c
  refine zC fun dg b2=>zB ?_
  refine zK (.int .i64 2)<| (zG (zA (b2 _ _ ?_)))
  obtain rfl:=someI c
  refine (zY (yF (zV (post1 (v1:= .int .i64 2) rfl rfl ?_))))
  exact ⟨l,u,N,P,rfl,H.pick [1,2,0,5,6] (by decide)⟩
 have c:=zT Q c
 refine zC fun dh b3=>?_
 have b4:=H
 have H:=H.rebase
 have di:=H
 refine wF H [0,1,2,3,4,5,6,7,8,9,10,11,12] [.pure,.read,.pure,.pure,.pure,.read,.pure,.pure,.pure,.read,.pure,.pure,.pure] mixed (by kernel_rfl) (by kernel_rfl) (by kernel_rfl) rfl ?_
 obtain ⟨ar,au,c⟩:=zF c
 refine Mx.zI rfl rfl rfl (fun w' hw'=>Do_idxA (X:=y) u243 sz3 rfl rfl au) ?_
 refine Mx.yO oS rfl rfl rfl (fun w' hw'=>Do_load1 (v:= .int .i64 ar) one3 rfl (Cells.ix (e:=(Fl.int .i64)) (x:=y) (Blk.cells ((H.sees hw').item (i:=7) rfl)) au)) ?_
 refine Mx.zI rfl rfl rfl (fun w' hw'=>yM (v:=ptr0 k) rfl) ?_
 refine Mx.zI rfl rfl rfl (fun w' hw'=>yB rfl) ?_
 refine Mx.zI rfl rfl rfl (fun w' hw'=>fa245_2 rfl) ?_
 refine Mx.yO oS rfl rfl rfl (fun w' hw'=>zN one3 rfl (Cells.get (Blk.cells ((H.sees hw').item (i:=0) rfl)) (i:=2) rfl)) ?_
 refine Mx.zI rfl rfl rfl (fun w' hw'=>yM (v:=ptr0 k) rfl) ?_
 refine Mx.zI rfl rfl rfl (fun w' hw'=>yB rfl) ?_
 refine Mx.zI rfl rfl rfl (fun w' hw'=>fa245_1 rfl) ?_
 refine Mx.yO oS rfl rfl rfl (fun w' hw'=>zN one3 rfl (Cells.get (Blk.cells ((H.sees hw').item (i:=0) rfl)) (i:=1) rfl)) ?_
 obtain ⟨b5,b6,c⟩:=zD c
 refine Mx.zI rfl rfl rfl (fun w' hw'=>Do_sub (a:=d.frames) (b:=d.n) rfl rfl b6) ?_
 obtain ⟨av,b7,c⟩:=zD c
 refine Mx.zI rfl rfl rfl (fun w' hw'=>zQ (Do_gtr (a:=ar) (b:=b5) rfl rfl) b7) ?_
 refine Mx.zI rfl rfl rfl (fun w' hw'=>xN (v:= .bool av) rfl) ?_
 refine Mx.xK fun dj hS=>?_
 have H:=H.sees hS
 have H:=b4.rejoin H
 refine (zA (b3 _ _ ?_))
 refine zZ (b:=av) rfl (fun R=>?_) (fun R=>?_)
 ·have c:=zS R c
  refine zC fun dk b8=>zB ?_
  refine zK (.int .i64 1)<| (zG (zA (b8 _ _ ?_)))
  obtain rfl:=someI c
  refine (zY (yF (zV (post1 (v1:= .int .i64 1) rfl rfl ?_))))
  exact ⟨l,u,N,P,rfl,H.pick [1,2,0,5,6] (by decide)⟩
 have c:=zT R c
 refine (yA (yP (zA (bx _ _ ?_))))
 refine zC fun dl b9=>zB ?_
 refine zK (.int .i64 0)<| (zG (zA (b9 _ _ ?_)))
 obtain rfl:=someI c
 refine (zY (post1 (v1:= .int .i64 0) rfl rfl ?_))
 exact ⟨l,u,N,P,rfl,H.pick [1,2,0,5,6] (by decide)⟩
set_option maxRecDepth 100000 in
theorem Fbqw (rfI:Nd→EventMoment→Option (Int×Nd))(rhI:Fap rfI)(f:EventSince)(d:EventMoment)(o:Nat)(l:Value)(x:List Nat)(m:Value)(t:List Nat)(n:Nat)(h:Value)(j:Value)(k:Value)(r:Int×EventSince)(c:Fbq rfI f d=some r)(O S:List Nat)(w:World)(H:Hd O w w S [.tr rtNd [l] x f.while_,.tr rtNd [m] t f.from_,.blk o [l,m,.int .i64 f.last,.bool f.begun] 255,.own (Rp.int .i64) k 3 d.rules,.blk n [h,j,k] 222,.fz (.sl rToldT h d.told),.fz (.sl Rp.bool j d.possible)]):
  Calls Tryz.prog 321 ([ptr0 o,ptr0 n]:List Value).toArray w fun e w'=> ∃I R J T,e= .returned (.int .i64 r.1)∧Hd O w w' S [.tr rtNd [I] R r.2.while_,.tr rtNd [J] T r.2.from_,.blk o [I,J,.int .i64 r.2.last,.bool r.2.begun] 255,.own (Rp.int .i64) k 3 d.rules,.blk n [h,j,k] 222]:=by
 unfold Fbq at c
 refine zW 56 Tryz.func321 rfl rfl rfl ?_
 refine zC fun a2 U=>zB ?_
 refine zK (.int .i64 0)<| (zG (zA (U _ _ ?_)))
 refine zC fun a3 V=>?_
 have X:=H
 have H:=H.rebase
 have Y:=H
 have K:Hd (O++bks (rest [0,1,3,4] [.tr rtNd [l] x f.while_,.tr rtNd [m] t f.from_,.blk o [l,m,.int .i64 f.last,.bool f.begun] 255,.own (Rp.int .i64) k 3 d.rules,.blk n [h,j,k] 222,.fz (.sl rToldT h d.told),.fz (.sl Rp.bool j d.possible)])) w w (bks (Go.Lf.pick ([0,1,3,4]++ [5,6]) [.tr rtNd [l] x f.while_,.tr rtNd [m] t f.from_,.blk o [l,m,.int .i64 f.last,.bool f.begun] 255,.own (Rp.int .i64) k 3 d.rules,.blk n [h,j,k] 222,.fz (.sl rToldT h d.told),.fz (.sl Rp.bool j d.possible)])) [.tr rtNd [l] x f.while_,.tr rtNd [m] t f.from_,.own (Rp.int .i64) k 3 d.rules,.blk n [h,j,k] 222,.fz (.sl rToldT h d.told),.fz (.sl Rp.bool j d.possible)]:=H.enter [0,1,3,4] [5,6] (by decide) rfl
 have L:=H.firmB K (i:=2) rfl (List.mem_append_right _ List.mem_cons_self)
 have H:=K
 refine WP_mix H [0,1,2,3,4,6,7,8,9,10,5,11,12,13] [.pure,.pure,.pure,.pure,.pure,.eff,.pure,.pure,.pure,.pure,.pure,.eff,.pure,.pure] mixed (by kernel_rfl) (by kernel_rfl) (by kernel_rfl) (by decide) ?_
 refine Mx.zI rfl rfl rfl (fun w' hw'=>yM (v:=ptr0 o) rfl) ?_
 refine Mx.zI rfl rfl rfl (fun w' hw'=>yB rfl) ?_
 refine Mx.zI rfl rfl rfl (fun w' hw'=>fa255_0 rfl) ?_
 refine Mx.zI rfl rfl rfl (fun w' hw'=>zN one170 rfl (Cells.get (Blk.cells (L w' hw')) (i:=0) rfl)) ?_
 refine Mx.zI rfl rfl rfl (fun w' hw'=>yM (v:=ptr0 n) rfl) ?_
 refine Mx.zI rfl rfl rfl (fun w' hw'=>yM (v:=ptr0 o) rfl) ?_
 refine Mx.zI rfl rfl rfl (fun w' hw'=>yB rfl) ?_
 refine Mx.zI rfl rfl rfl (fun w' hw'=>fa255_1 rfl) ?_
 refine Mx.zI rfl rfl rfl (fun w' hw'=>zN one170 rfl (Cells.get (Blk.cells (L w' hw')) (i:=1) rfl)) ?_
 refine Mx.zI rfl rfl rfl (fun w' hw'=>yM (v:=ptr0 n) rfl) ?_
 obtain ⟨Z,aa,M⟩:=Fam (H.item (i:=0) rfl)
 obtain ⟨p,ab,c⟩:=zF c
 refine Mx.XL_effC oS rfl rfl rfl (fun w' hw'=>DoC_inv M rfl rfl) (fun w' hw'=>rhI f.while_ (EventMoment.mk d.told d.possible d.rules) l x n h j k Z aa M _ ab _ _ _ ((H.sees hw').enter [0,2,3] [4,5] (by decide) rfl)) ?_
 rintro w' _ ac hw' ⟨s,rfl,ad⟩
 have H:Hd _ _ ac _ [.tr rtNd [m] t f.from_,.fz (.sl rToldT h d.told),.fz (.sl Rp.bool j d.possible),.tr rtNd [l] s p.2,.own (Rp.int .i64) k 3 d.rules,.blk n [h,j,k] 222]:=(H.sees hw').back [0,2,3] [4,5] rfl ad
 refine ⟨_,rfl,H.only,?_⟩
 obtain ⟨ae,af,N⟩:=Fam (H.item (i:=0) rfl)
 obtain ⟨q,ag,c⟩:=zF c
 refine Mx.XL_effC oS rfl rfl rfl (fun w' hw'=>DoC_inv N rfl rfl) (fun w' hw'=>rhI f.from_ (EventMoment.mk d.told d.possible d.rules) m t n h j k ae af N _ ag _ _ _ ((H.sees hw').enter [0,4,5] [1,2] (by decide) rfl)) ?_
 rintro w' _ ah hw' ⟨u,rfl,ai⟩
 have H:Hd _ _ ah _ [.fz (.sl rToldT h d.told),.fz (.sl Rp.bool j d.possible),.tr rtNd [l] s p.2,.tr rtNd [m] u q.2,.own (Rp.int .i64) k 3 d.rules,.blk n [h,j,k] 222]:=(H.sees hw').back [0,4,5] [1,2] rfl ai
 refine ⟨_,rfl,H.only,?_⟩
 refine Mx.zI rfl rfl rfl (fun w' hw'=>xN (v:= .int .i64 p.1) rfl) ?_
 refine Mx.zI rfl rfl rfl (fun w' hw'=>xN (v:= .int .i64 q.1) rfl) ?_
 refine Mx.xK fun aj hS=>?_
 have H:=H.sees hS
 have H:=Y.back [0,1,3,4] [5,6] rfl H
 have H:Hd _ _ _ _ [.blk o [l,m,.int .i64 f.last,.bool f.begun] 255,.fz (.sl rToldT h d.told),.fz (.sl Rp.bool j d.possible),.fz (.sl rToldT h d.told),.fz (.sl Rp.bool j d.possible),.tr rtNd [l] s p.2,.tr rtNd [m] u q.2,.own (Rp.int .i64) k 3 d.rules,.blk n [h,j,k] 222]:=H
 have H:Hd O w aj (bks [.tr rtNd [l] x f.while_,.tr rtNd [m] t f.from_,.blk o [l,m,.int .i64 f.last,.bool f.begun] 255,.own (Rp.int .i64) k 3 d.rules,.blk n [h,j,k] 222,.fz (.sl rToldT h d.told),.fz (.sl Rp.bool j d.possible)]) [.blk o [l,m,.int .i64 f.last,.bool f.begun] 255,.fz (.sl rToldT h d.told),.fz (.sl Rp.bool j d.possible),.tr rtNd [l] s p.2,.tr rtNd [m] u q.2,.own (Rp.int .i64) k 3 d.rules,.blk n [h,j,k] 222]:=H.pick [0,3,4,5,6,7,8] (by decide)
 have H:=X.rejoin H
 refine (zA (V _ _ ?_))
 refine zC fun a4 ak=>zB ?_
 refine zK (.int .i64 0)<| (zG (zA (ak _ _ ?_)))
 obtain ⟨y,c,al⟩:=zF c
 refine yK [7,20,21,22,23,24,25,26,27,28,29,30,31,32,33,34,35,36,37,38,39,40,41,42,43,44,45,46,47] (fun (g:Unit)=>[(7,.int .i64 y)]) (fun g wl=>Hd O w wl S [.blk o [l,m,.int .i64 f.last,.bool f.begun] 255,.fz (.sl rToldT h d.told),.fz (.sl Rp.bool j d.possible),.tr rtNd [l] s p.2,.tr rtNd [m] u q.2,.own (Rp.int .i64) k 3 d.rules,.blk n [h,j,k] 222]) ?_ ?_
 ·skip
  refine yH ?_
  obtain ⟨P,c,am⟩:=zF c
  refine yK [20,21,22,23,24,25,26,27,28,29,30,31,32,33] (fun (g:Unit)=>[(20,.bool P)]) (fun g wl=>Hd O w wl S [.blk o [l,m,.int .i64 f.last,.bool f.begun] 255,.fz (.sl rToldT h d.told),.fz (.sl Rp.bool j d.possible),.tr rtNd [l] s p.2,.tr rtNd [m] u q.2,.own (Rp.int .i64) k 3 d.rules,.blk n [h,j,k] 222]) ?_ ?_
  ·skip
   refine zB ?_
   refine zJ (.int .i64 q.1) ?_
   obtain ⟨an,ao,c⟩:=zD c
   refine zH (zQ (xA (a:=q.1) (b:=2) rfl rfl) ao)<| yN (b:=an) rfl rfl rfl (fun z=>?_) (fun z=>?_)
   ·have c:=zS z c
    refine yI ?_
    refine yI ?_
    refine yI ?_
    refine yI ?_
    refine yI ?_
    refine yI ?_
    refine yI ?_
    refine yI ?_
    refine yI ?_
    refine zH (yL (v:= .bool true) rfl rfl)<| zK (.bool true) ?_
    obtain rfl:=someI c
    exact (zG (zA (meet ⟨(),(zL rfl zM),H.pick [0,1,2,3,4,5,6] (by decide)⟩)))
   have c:=zT z c
   refine zJ (.int .i64 p.1) ?_
   obtain ⟨ap,aq,c⟩:=zD c
   refine zH (zQ (xA (a:=p.1) (b:=2) rfl rfl) aq)<| yN (b:=ap) rfl rfl rfl (fun A=>?_) (fun A=>?_)
   ·have c:=zS A c
    refine zJ (ptr0 o)<| zH (yB rfl)<| zH (fa255_2 rfl)<| zH (zN one3 rfl (Cells.get (Blk.cells (H.item (i:=0) rfl)) (i:=2) rfl)) ?_
    obtain ⟨B,ar,c⟩:=zD c
    refine zH (zQ (xA (a:=f.last) (b:=2) rfl rfl) ar)<| zH (yL (v:= .bool B) rfl rfl)<| zH (yJ (v:= .bool B) rfl rfl)<| zK (.bool B) ?_
    obtain rfl:=someI c
    exact (zG (zA (meet ⟨(),(zL rfl zM),H.pick [0,1,2,3,4,5,6] (by decide)⟩)))
   have c:=zT A c
   refine yI ?_
   refine yI ?_
   refine yI ?_
   refine yI ?_
   refine yI ?_
   refine zH (yJ (v:= .bool false) rfl rfl)<| zH (yJ (v:= .bool false) rfl rfl)<| zK (.bool false) ?_
   obtain rfl:=someI c
   exact (zG (zA (meet ⟨(),(zL rfl zM),H.pick [0,1,2,3,4,5,6] (by decide)⟩)))
  rintro _ ρ a5 H
  have c:=am
  refine zZ (b:=P) rfl (fun C=>?_) (fun C=>?_)
  ·have c:=zS C c
   refine zB ?_
   refine zK (.int .i64 2) ?_
   obtain rfl:=someI c
   exact (zG (yP (zA (meet ⟨(),(zL rfl zM),H.pick [0,1,2,3,4,5,6] (by decide)⟩))))
  have c:=zT C c
  obtain ⟨Q,c,au⟩:=zF c
  refine yK [34,35,36,37,38,39,40,41,42,43,44,45,46,47] (fun (g:Unit)=>[(34,.bool Q)]) (fun g wl=>Hd O w wl S [.blk o [l,m,.int .i64 f.last,.bool f.begun] 255,.fz (.sl rToldT h d.told),.fz (.sl Rp.bool j d.possible),.tr rtNd [l] s p.2,.tr rtNd [m] u q.2,.own (Rp.int .i64) k 3 d.rules,.blk n [h,j,k] 222]) ?_ ?_
  ·skip
   refine zB ?_
   refine zJ (.int .i64 q.1) ?_
   obtain ⟨av,aw,c⟩:=zD c
   refine zH (zQ (xA (a:=q.1) (b:=1) rfl rfl) aw)<| yN (b:=av) rfl rfl rfl (fun D=>?_) (fun D=>?_)
   ·have c:=zS D c
    refine zJ (.int .i64 p.1) ?_
    obtain ⟨ax,ay,c⟩:=zD c
    refine zH (zQ (xA (a:=p.1) (b:=1) rfl rfl) ay)<| yN (b:=ax) rfl rfl rfl (fun E=>?_) (fun E=>?_)
    ·have c:=zS E c
     refine yI ?_
     refine yI ?_
     refine yI ?_
     refine yI ?_
     refine yI ?_
     refine zH (yL (v:= .bool true) rfl rfl)<| zH (yL (v:= .bool true) rfl rfl)<| zK (.bool true) ?_
     obtain rfl:=someI c
     exact (zG (zA (meet ⟨(),(zL rfl zM),H.pick [0,1,2,3,4,5,6] (by decide)⟩)))
    have c:=zT E c
    refine zJ (ptr0 o)<| zH (yB rfl)<| zH (fa255_2 rfl)<| zH (zN one3 rfl (Cells.get (Blk.cells (H.item (i:=0) rfl)) (i:=2) rfl)) ?_
    obtain ⟨F,az,c⟩:=zD c
    refine zH (zQ (xA (a:=f.last) (b:=1) rfl rfl) az)<| zH (yJ (v:= .bool F) rfl rfl)<| zH (yL (v:= .bool F) rfl rfl)<| zK (.bool F) ?_
    obtain rfl:=someI c
    exact (zG (zA (meet ⟨(),(zL rfl zM),H.pick [0,1,2,3,4,5,6] (by decide)⟩)))
   have c:=zT D c
   refine yI ?_
   refine yI ?_
   refine yI ?_
   refine yI ?_
   refine yI ?_
   refine yI ?_
   refine yI ?_
   refine yI ?_
   refine yI ?_
   refine zH (yJ (v:= .bool false) rfl rfl)<| zK (.bool false) ?_
   obtain rfl:=someI c
   exact (zG (zA (meet ⟨(),(zL rfl zM),H.pick [0,1,2,3,4,5,6] (by decide)⟩)))
  rintro _ ρ a6 H
  have c:=au
  refine zZ (b:=Q) rfl (fun G=>?_) (fun G=>?_)
  ·have c:=zS G c
   refine zB ?_
   refine zK (.int .i64 1) ?_
   obtain rfl:=someI c
   exact (zG (yP (zA (meet ⟨(),(zL rfl zM),H.pick [0,1,2,3,4,5,6] (by decide)⟩))))
  have c:=zT G c
  obtain rfl:=someI c
  exact (yA (yP (zA (meet ⟨(),(zL rfl zM),H.pick [0,1,2,3,4,5,6] (by decide)⟩))))
 rintro _ ρ a7 H
 have c:=al
 refine zC fun a8 a0=>zB ?_
 refine zJ (ptr0 o)<| zJ (ptr0 o)<| zJ (.int .i64 y)<| zH (yB rfl)<| zH (fa255_2 rfl)<| xG rfl (wE H 0 rfl sz3 rfl (v:= .int .i64 y) rfl rfl rfl) ?_
 rintro a9 H
 refine zH (yB rfl)<| zH (fa255_3 rfl)<| xG rfl (wE H 0 rfl sz4 rfl (v:= .bool true) rfl rfl rfl) ?_
 rintro ba H
 refine (zG (zA (a0 _ _ ?_)))
 refine zC fun bb a1=>zB ?_
 refine zJ (.int .i64 y)<| zK (.int .i64 y)<| (zG (zA (a1 _ _ ?_)))
 obtain rfl:=someI c
 refine (zY (post1 (v1:= .int .i64 y) rfl rfl ?_))
 exact ⟨l,s,m,u,rfl,H.pick [3,4,0,5,6] (by decide)⟩
set_option maxRecDepth 100000 in
theorem Fbiw (rfI:Nd→EventMoment→Option (Int×Nd))(rhI:Fap rfI)(f:EventRises)(d:EventMoment)(j:Nat)(k:Value)(y:List Nat)(o:Nat)(l:Value)(m:Value)(h:Value)(r:Int×EventRises)(c:Fbi rfI f d=some r)(O S:List Nat)(w:World)(H:Hd O w w S [.tr rtNd [k] y f.kid,.blk j [k,.int .i64 f.last,.bool f.begun] 258,.own (Rp.int .i64) h 3 d.rules,.blk o [l,m,h] 222,.fz (.sl rToldT l d.told),.fz (.sl Rp.bool m d.possible)]):
  Calls Tryz.prog 323 ([ptr0 j,ptr0 o]:List Value).toArray w fun e w'=> ∃z F,e= .returned (.int .i64 r.1)∧Hd O w w' S [.tr rtNd [z] F r.2.kid,.blk j [z,.int .i64 r.2.last,.bool r.2.begun] 258,.own (Rp.int .i64) h 3 d.rules,.blk o [l,m,h] 222]:=by
 unfold Fbi at c
 refine zW 41 Tryz.func323 rfl rfl rfl ?_
 refine zC fun ad G=>zB ?_
 refine zK (.int .i64 0)<| (zG (zA (G _ _ ?_)))
 refine zC fun ae I=>zB ?_
 refine zJ (ptr0 j)<| zH (yB rfl)<| zH (fa258_0 rfl)<| zH (zN one170 rfl (Cells.get (Blk.cells (H.item (i:=1) rfl)) (i:=0) rfl))<| zJ (ptr0 o) ?_
 obtain ⟨J,K,A⟩:=Fam (H.item (i:=0) rfl)
 obtain ⟨n,L,c⟩:=zF c
 refine yG rfl rfl (DoC_inv A rfl rfl) (rhI f.kid (EventMoment.mk d.told d.possible d.rules) k y o l m h J K A _ L _ _ _ (H.enter [0,2,3] [4,5] (by decide) rfl)) ?_
 rintro _ M ⟨p,rfl,N⟩
 have H:Hd _ _ M _ [.blk j [k,.int .i64 f.last,.bool f.begun] 258,.fz (.sl rToldT l d.told),.fz (.sl Rp.bool m d.possible),.tr rtNd [k] p n.2,.own (Rp.int .i64) h 3 d.rules,.blk o [l,m,h] 222]:=H.back [0,2,3] [4,5] rfl N
 refine ⟨_,rfl,?_⟩
 refine zK (.int .i64 n.1)<| (zG (zA (I _ _ ?_)))
 refine zC fun af P=>zB ?_
 refine zK (.int .i64 0)<| (zG (zA (P _ _ ?_)))
 obtain ⟨q,c,Q⟩:=zF c
 refine yK [6,13,14,15,16,17,18,19,20,21,22,23,24,25,26,27,28,29,30,31,32] (fun (g:Unit)=>[(6,.int .i64 q)]) (fun g wl=>Hd O w wl S [.blk j [k,.int .i64 f.last,.bool f.begun] 258,.fz (.sl rToldT l d.told),.fz (.sl Rp.bool m d.possible),.tr rtNd [k] p n.2,.own (Rp.int .i64) h 3 d.rules,.blk o [l,m,h] 222]) ?_ ?_
 ·skip
  refine yH ?_
  obtain ⟨B,c,R⟩:=zF c
  refine yK [13,14,15,16,17,18,19,20,21,22] (fun (g:Unit)=>[(13,.bool B)]) (fun g wl=>Hd O w wl S [.blk j [k,.int .i64 f.last,.bool f.begun] 258,.fz (.sl rToldT l d.told),.fz (.sl Rp.bool m d.possible),.tr rtNd [k] p n.2,.own (Rp.int .i64) h 3 d.rules,.blk o [l,m,h] 222]) ?_ ?_
  ·skip
   refine zB ?_
   refine zJ (.int .i64 n.1) ?_
   obtain ⟨T,U,c⟩:=zD c
   refine zH (zQ (xA (a:=n.1) (b:=2) rfl rfl) U)<| yN (b:=T) rfl rfl rfl (fun s=>?_) (fun s=>?_)
   ·have c:=zS s c
    refine zJ (ptr0 j)<| zH (yB rfl)<| zH (fa258_1 rfl)<| zH (zN one3 rfl (Cells.get (Blk.cells (H.item (i:=0) rfl)) (i:=1) rfl)) ?_
    obtain ⟨C,V,c⟩:=zD c
    refine zH (zQ (xA (a:=f.last) (b:=1) rfl rfl) V)<| zH (yL (v:= .bool C) rfl rfl)<| zK (.bool C) ?_
    obtain rfl:=someI c
    exact (zG (zA (meet ⟨(),(zL rfl zM),H.pick [0,1,2,3,4,5] (by decide)⟩)))
   have c:=zT s c
   refine yI ?_
   refine yI ?_
   refine yI ?_
   refine yI ?_
   refine yI ?_
   refine zH (yJ (v:= .bool false) rfl rfl)<| zK (.bool false) ?_
   obtain rfl:=someI c
   exact (zG (zA (meet ⟨(),(zL rfl zM),H.pick [0,1,2,3,4,5] (by decide)⟩)))
  rintro _ ρ ag H
  have c:=R
  refine zZ (b:=B) rfl (fun t=>?_) (fun t=>?_)
  ·have c:=zS t c
   refine zB ?_
   refine zK (.int .i64 2) ?_
   obtain rfl:=someI c
   exact (zG (yP (zA (meet ⟨(),(zL rfl zM),H.pick [0,1,2,3,4,5] (by decide)⟩))))
  have c:=zT t c
  obtain ⟨D,c,X⟩:=zF c
  refine yK [23,24,25,26,27,28,29,30,31,32] (fun (g:Unit)=>[(23,.bool D)]) (fun g wl=>Hd O w wl S [.blk j [k,.int .i64 f.last,.bool f.begun] 258,.fz (.sl rToldT l d.told),.fz (.sl Rp.bool m d.possible),.tr rtNd [k] p n.2,.own (Rp.int .i64) h 3 d.rules,.blk o [l,m,h] 222]) ?_ ?_
  ·skip
   refine zB ?_
   refine zJ (.int .i64 n.1) ?_
   obtain ⟨Y,Z,c⟩:=zD c
   refine zH (zQ (xA (a:=n.1) (b:=1) rfl rfl) Z)<| yN (b:=Y) rfl rfl rfl (fun u=>?_) (fun u=>?_)
   ·have c:=zS u c
    refine yI ?_
    refine yI ?_
    refine yI ?_
    refine yI ?_
    refine yI ?_
    refine zH (yL (v:= .bool true) rfl rfl)<| zK (.bool true) ?_
    obtain rfl:=someI c
    exact (zG (zA (meet ⟨(),(zL rfl zM),H.pick [0,1,2,3,4,5] (by decide)⟩)))
   have c:=zT u c
   refine zJ (ptr0 j)<| zH (yB rfl)<| zH (fa258_1 rfl)<| zH (zN one3 rfl (Cells.get (Blk.cells (H.item (i:=0) rfl)) (i:=1) rfl)) ?_
   obtain ⟨E,aa,c⟩:=zD c
   refine zH (zQ (xA (a:=f.last) (b:=2) rfl rfl) aa)<| zH (yJ (v:= .bool E) rfl rfl)<| zK (.bool E) ?_
   obtain rfl:=someI c
   exact (zG (zA (meet ⟨(),(zL rfl zM),H.pick [0,1,2,3,4,5] (by decide)⟩)))
  rintro _ ρ ah H
  have c:=X
  refine zZ (b:=D) rfl (fun x=>?_) (fun x=>?_)
  ·have c:=zS x c
   refine zB ?_
   refine zK (.int .i64 1) ?_
   obtain rfl:=someI c
   exact (zG (yP (zA (meet ⟨(),(zL rfl zM),H.pick [0,1,2,3,4,5] (by decide)⟩))))
  have c:=zT x c
  obtain rfl:=someI c
  exact (yA (yP (zA (meet ⟨(),(zL rfl zM),H.pick [0,1,2,3,4,5] (by decide)⟩))))
 rintro _ ρ ai H
 have c:=Q
 refine zC fun aj ab=>zB ?_
 refine zJ (ptr0 j)<| zJ (ptr0 j)<| zJ (.int .i64 n.1)<| zH (yB rfl)<| zH (fa258_1 rfl)<| xG rfl (wE H 0 rfl sz3 rfl (v:= .int .i64 n.1) rfl rfl rfl) ?_
 rintro ak H
 refine zH (yB rfl)<| zH (fa258_2 rfl)<| xG rfl (wE H 0 rfl sz4 rfl (v:= .bool true) rfl rfl rfl) ?_
 rintro al H
 refine (zG (zA (ab _ _ ?_)))
 refine zC fun am ac=>zB ?_
 refine zJ (.int .i64 q)<| zK (.int .i64 q)<| (zG (zA (ac _ _ ?_)))
 obtain rfl:=someI c
 refine (zY (post1 (v1:= .int .i64 q) rfl rfl ?_))
 exact ⟨k,p,rfl,H.pick [3,0,4,5] (by decide)⟩
theorem Fdew (rfI:Nd→EventMoment→Option (Int×Nd))(rhI:Fap rfI)(z:Nd)(a:EventMoment)(A:Value)(j:List Nat)(h:Nat)(c:Value)(d:Value)(b:Value)(fid:FuncId)(rv:Value)(hm:MethodOf Tryz.prog "orangebox/event.step" A fid rv)(r:Int×Nd)(i:Fde rfI z a=some r)(O S:List Nat)(w:World)(H:Hd O w w S [.tr rtNd [A] j z,.own (Rp.int .i64) b 3 a.rules,.blk h [c,d,b] 222,.fz (.sl rToldT c a.told),.fz (.sl Rp.bool d a.possible)]):
  Calls Tryz.prog fid ([rv,ptr0 h]:List Value).toArray w fun e w'=> ∃bs',e= .returned (.int .i64 r.1)∧Hd O w w' S [.tr rtNd [A] bs' r.2,.own (Rp.int .i64) b 3 a.rules,.blk h [c,d,b] 222]:=by
 unfold Fde at i
 cases z with
 | constant B=>
  obtain rfl:=nd_open_constant H 0 rfl
  obtain ⟨rfl,rfl⟩:=hm.eq (meth_ok (p:=false) (by kernel_rfl) (by kernel_rfl) en325) w
  obtain ⟨x5,e6,i⟩:=zF i
  refine Calls.mono (Feqw (EventConstant.mk B) (EventMoment.mk a.told a.possible a.rules) h c d b _ e6 _ _ _ (H.enter [1,2] [3,4] (by decide) rfl)) ?_
  rintro _ w7 ⟨rfl,G8⟩
  have H:Hd _ _ w7 _ [.tr rtNd [(.iface 277 (.agg ([.int .i64 B]:List Value).toArray))] j (.constant B),.fz (.sl rToldT c a.told),.fz (.sl Rp.bool d a.possible),.own (Rp.int .i64) b 3 a.rules,.blk h [c,d,b] 222]:=H.back [1,2] [3,4] rfl G8
  obtain rfl:=someI i
  exact ⟨j,rfl,H.pick [0,3,4] (by decide)⟩
 | number C D E=>
  obtain rfl:=nd_open_number H 0 rfl
  obtain ⟨rfl,rfl⟩:=hm.eq (meth_ok (p:=false) (by kernel_rfl) (by kernel_rfl) en327) w
  obtain ⟨co,bj,i⟩:=zF i
  refine Calls.mono (Fa5w (EventNumber.mk C D E) (EventMoment.mk a.told a.possible a.rules) h c d b _ bj _ _ _ (H.enter [1,2] [3,4] (by decide) rfl)) ?_
  rintro _ bk ⟨rfl,bl⟩
  have H:Hd _ _ bk _ [.tr rtNd [(.iface 279 (.agg ([.int .i64 C,.int .i64 D,.int .i64 E]:List Value).toArray))] j (.number C D E),.fz (.sl rToldT c a.told),.fz (.sl Rp.bool d a.possible),.own (Rp.int .i64) b 3 a.rules,.blk h [c,d,b] 222]:=H.back [1,2] [3,4] rfl bl
  obtain rfl:=someI i
  exact ⟨j,rfl,H.pick [0,3,4] (by decide)⟩
 | pair F G I J K=>
  obtain rfl:=nd_open_pair H 0 rfl
  obtain ⟨rfl,rfl⟩:=hm.eq (meth_ok (p:=false) (by kernel_rfl) (by kernel_rfl) en332) w
  obtain ⟨cp,bm,i⟩:=zF i
  refine Calls.mono (Favw (EventPair.mk F G I J K) (EventMoment.mk a.told a.possible a.rules) h c d b _ bm _ _ _ (H.enter [1,2] [3,4] (by decide) rfl)) ?_
  rintro _ bn ⟨rfl,bo⟩
  have H:Hd _ _ bn _ [.tr rtNd [(.iface 281 (.agg ([.int .i64 F,.int .i64 G,.int .i64 I,.int .i64 J,.int .i64 K]:List Value).toArray))] j (.pair F G I J K),.fz (.sl rToldT c a.told),.fz (.sl Rp.bool d a.possible),.own (Rp.int .i64) b 3 a.rules,.blk h [c,d,b] 222]:=H.back [1,2] [3,4] rfl bo
  obtain rfl:=someI i
  exact ⟨j,rfl,H.pick [0,3,4] (by decide)⟩
 | steady Y Z aa ab=>
  obtain ⟨q,L,ac,rfl,H⟩:=nd_open_steady H 0 rfl
  have H:Hd _ _ _ _ [.own (Rp.int .i64) b 3 a.rules,.blk h [c,d,b] 222,.fz (.sl rToldT c a.told),.fz (.sl Rp.bool d a.possible),.tr (Rt.row (Rt.of rToldT) 148 []) [L] ac ab,.blk q [.int .i64 Y,.int .i64 Z,.int .i64 aa,L] 241]:=H
  obtain ⟨rfl,rfl⟩:=hm.eq (meth_ok (p:=true) (by kernel_rfl) (by kernel_rfl) en310) w
  obtain ⟨⟨cq,l⟩,bp,i⟩:=zF i
  refine Calls.mono (Fazw (EventSteady.mk Y Z aa ab) (EventMoment.mk a.told a.possible a.rules) q L ac h c d b _ bp _ _ _ (H.enter [4,5,0,1] [2,3] (by decide) rfl)) ?_
  rintro _ bq ⟨ad,br,rfl,bt⟩
  have H:Hd _ _ bq _ [.fz (.sl rToldT c a.told),.fz (.sl Rp.bool d a.possible),.tr (Rt.row (Rt.of rToldT) 148 []) [ad] br l.last,.blk q [.int .i64 l.track,.int .i64 l.n,.int .i64 l.frames,ad] 241,.own (Rp.int .i64) b 3 a.rules,.blk h [c,d,b] 222]:=H.back [4,5,0,1] [2,3] rfl bt
  obtain ⟨ae,H⟩:=nd_mk_steady H 2 3 rfl rfl (by decide)
  have H:Hd _ _ _ _ [.fz (.sl rToldT c a.told),.fz (.sl Rp.bool d a.possible),.own (Rp.int .i64) b 3 a.rules,.blk h [c,d,b] 222,.tr rtNd [(.iface 239 (ptr0 q))] ae (.steady l.track l.n l.frames l.last)]:=H
  obtain rfl:=someI i
  exact ⟨ae,rfl,H.pick [4,2,3] (by decide)⟩
 | phase M=>
  obtain rfl:=nd_open_phase H 0 rfl
  obtain ⟨rfl,rfl⟩:=hm.eq (meth_ok (p:=false) (by kernel_rfl) (by kernel_rfl) en335) w
  obtain ⟨cr,bu,i⟩:=zF i
  refine Calls.mono (Fa4w (EventPhase.mk M) (EventMoment.mk a.told a.possible a.rules) h c d b _ bu _ _ _ (H.enter [1,2] [3,4] (by decide) rfl)) ?_
  rintro _ bv ⟨rfl,bw⟩
  have H:Hd _ _ bv _ [.tr rtNd [(.iface 283 (.agg ([.int .i64 M]:List Value).toArray))] j (.phase M),.fz (.sl rToldT c a.told),.fz (.sl Rp.bool d a.possible),.own (Rp.int .i64) b 3 a.rules,.blk h [c,d,b] 222]:=H.back [1,2] [3,4] rfl bw
  obtain rfl:=someI i
  exact ⟨j,rfl,H.pick [0,3,4] (by decide)⟩
 | rule N=>
  obtain rfl:=nd_open_rule H 0 rfl
  obtain ⟨rfl,rfl⟩:=hm.eq (meth_ok (p:=false) (by kernel_rfl) (by kernel_rfl) en337) w
  obtain ⟨cs,bx,i⟩:=zF i
  refine Calls.mono (Fe2w (EventRule.mk N) (EventMoment.mk a.told a.possible a.rules) h c d b _ bx _ _ _ (H.enter [1,2] [3,4] (by decide) rfl)) ?_
  rintro _ bz ⟨rfl,b0⟩
  have H:Hd _ _ bz _ [.tr rtNd [(.iface 285 (.agg ([.int .i64 N]:List Value).toArray))] j (.rule N),.fz (.sl rToldT c a.told),.fz (.sl Rp.bool d a.possible),.own (Rp.int .i64) b 3 a.rules,.blk h [c,d,b] 222]:=H.back [1,2] [3,4] rfl b0
  obtain rfl:=someI i
  exact ⟨j,rfl,H.pick [0,3,4] (by decide)⟩
 | not af=>
  obtain ⟨s,P,ag,rfl,H⟩:=nd_open_not H 0 rfl
  have H:Hd _ _ _ _ [.own (Rp.int .i64) b 3 a.rules,.blk h [c,d,b] 222,.fz (.sl rToldT c a.told),.fz (.sl Rp.bool d a.possible),.tr rtNd [P] ag af,.blk s [P] 248]:=H
  obtain ⟨rfl,rfl⟩:=hm.eq (meth_ok (p:=true) (by kernel_rfl) (by kernel_rfl) en316) w
  obtain ⟨⟨ct,ah⟩,b1,i⟩:=zF i
  refine Calls.mono (Fbpw rfI rhI (EventNot.mk af) (EventMoment.mk a.told a.possible a.rules) s P ag h c d b _ b1 _ _ _ (H.enter [4,5,0,1] [2,3] (by decide) rfl)) ?_
  rintro _ b2 ⟨ai,b3,rfl,b4⟩
  have H:Hd _ _ b2 _ [.fz (.sl rToldT c a.told),.fz (.sl Rp.bool d a.possible),.tr rtNd [ai] b3 ah.kid,.blk s [ai] 248,.own (Rp.int .i64) b 3 a.rules,.blk h [c,d,b] 222]:=H.back [4,5,0,1] [2,3] rfl b4
  obtain ⟨aj,H⟩:=nd_mk_not H 2 3 rfl rfl (by decide)
  have H:Hd _ _ _ _ [.fz (.sl rToldT c a.told),.fz (.sl Rp.bool d a.possible),.own (Rp.int .i64) b 3 a.rules,.blk h [c,d,b] 222,.tr rtNd [(.iface 246 (ptr0 s))] aj (.not ah.kid)]:=H
  obtain rfl:=someI i
  exact ⟨aj,rfl,H.pick [4,2,3] (by decide)⟩
 | group ak al=>
  obtain ⟨t,Q,am,rfl,H⟩:=nd_open_group H 0 rfl
  have H:Hd _ _ _ _ [.own (Rp.int .i64) b 3 a.rules,.blk h [c,d,b] 222,.fz (.sl rToldT c a.told),.fz (.sl Rp.bool d a.possible),.tr rowNd [Q] am ak,.blk t [Q,.bool al] 251]:=H
  obtain ⟨rfl,rfl⟩:=hm.eq (meth_ok (p:=true) (by kernel_rfl) (by kernel_rfl) en319) w
  obtain ⟨⟨cu,u⟩,b5,i⟩:=zF i
  refine Calls.mono (Fbcw rfI rhI (EventGroup.mk ak al) (EventMoment.mk a.told a.possible a.rules) t Q am h c d b _ b5 _ _ _ (H.enter [4,5,0,1] [2,3] (by decide) rfl)) ?_
  rintro _ b6 ⟨an,b7,rfl,b8⟩
  have H:Hd _ _ b6 _ [.fz (.sl rToldT c a.told),.fz (.sl Rp.bool d a.possible),.tr rowNd [an] b7 u.kids,.blk t [an,.bool u.any] 251,.own (Rp.int .i64) b 3 a.rules,.blk h [c,d,b] 222]:=H.back [4,5,0,1] [2,3] rfl b8
  obtain ⟨ao,H⟩:=nd_mk_group H 2 3 rfl rfl (by decide)
  have H:Hd _ _ _ _ [.fz (.sl rToldT c a.told),.fz (.sl Rp.bool d a.possible),.own (Rp.int .i64) b 3 a.rules,.blk h [c,d,b] 222,.tr rtNd [(.iface 249 (ptr0 t))] ao (.group u.kids u.any)]:=H
  obtain rfl:=someI i
  exact ⟨ao,rfl,H.pick [4,2,3] (by decide)⟩
 | count ap aq ar au av=>
  obtain ⟨v,R,aw,T,ax,rfl,H⟩:=nd_open_count H 0 rfl
  have H:Hd _ _ _ _ [.own (Rp.int .i64) b 3 a.rules,.blk h [c,d,b] 222,.fz (.sl rToldT c a.told),.fz (.sl Rp.bool d a.possible),.tr rtNd [R] aw ap,.tr (Rt.row (Rt.of (Rp.int .i64)) 3 []) [T] ax au,.blk v ([R,.int .i64 aq,.int .i64 ar,T]++((Fl.arr 3 (Fl.int .i64)).f av)) 245]:=H
  obtain ⟨rfl,rfl⟩:=hm.eq (meth_ok (p:=true) (by kernel_rfl) (by kernel_rfl) en313) w
  obtain ⟨⟨cv,k⟩,b9,i⟩:=zF i
  refine Calls.mono (Fbhw rfI rhI (EventCount.mk ap aq ar au av) (EventMoment.mk a.told a.possible a.rules) v R aw T ax h c d b _ b9 _ _ _ (H.enter [4,5,6,0,1] [2,3] (by decide) rfl)) ?_
  rintro _ ca ⟨ay,cb,az,cc,rfl,cd⟩
  have H:Hd _ _ ca _ [.fz (.sl rToldT c a.told),.fz (.sl Rp.bool d a.possible),.tr rtNd [ay] cb k.kid,.tr (Rt.row (Rt.of (Rp.int .i64)) 3 []) [az] cc k.last,.blk v ([ay,.int .i64 k.n,.int .i64 k.frames,az]++((Fl.arr 3 (Fl.int .i64)).f k.totals)) 245,.own (Rp.int .i64) b 3 a.rules,.blk h [c,d,b] 222]:=H.back [4,5,6,0,1] [2,3] rfl cd
  obtain ⟨a0,H⟩:=nd_mk_count H 2 3 4 rfl rfl rfl (by decide)
  have H:Hd _ _ _ _ [.fz (.sl rToldT c a.told),.fz (.sl Rp.bool d a.possible),.own (Rp.int .i64) b 3 a.rules,.blk h [c,d,b] 222,.tr rtNd [(.iface 242 (ptr0 v))] a0 (.count k.kid k.n k.frames k.last k.totals)]:=H
  obtain rfl:=someI i
  exact ⟨a0,rfl,H.pick [4,2,3] (by decide)⟩
 | since a1 a2 a3 a4=>
  obtain ⟨x,U,a5,V,a6,rfl,H⟩:=nd_open_since H 0 rfl
  have H:Hd _ _ _ _ [.own (Rp.int .i64) b 3 a.rules,.blk h [c,d,b] 222,.fz (.sl rToldT c a.told),.fz (.sl Rp.bool d a.possible),.tr rtNd [U] a5 a1,.tr rtNd [V] a6 a2,.blk x [U,V,.int .i64 a3,.bool a4] 255]:=H
  obtain ⟨rfl,rfl⟩:=hm.eq (meth_ok (p:=true) (by kernel_rfl) (by kernel_rfl) en321) w
  obtain ⟨⟨cw,m⟩,ce,i⟩:=zF i
  refine Calls.mono (Fbqw rfI rhI (EventSince.mk a1 a2 a3 a4) (EventMoment.mk a.told a.possible a.rules) x U a5 V a6 h c d b _ ce _ _ _ (H.enter [4,5,6,0,1] [2,3] (by decide) rfl)) ?_
  rintro _ cf ⟨a7,cg,a8,ch,rfl,ci⟩
  have H:Hd _ _ cf _ [.fz (.sl rToldT c a.told),.fz (.sl Rp.bool d a.possible),.tr rtNd [a7] cg m.while_,.tr rtNd [a8] ch m.from_,.blk x [a7,a8,.int .i64 m.last,.bool m.begun] 255,.own (Rp.int .i64) b 3 a.rules,.blk h [c,d,b] 222]:=H.back [4,5,6,0,1] [2,3] rfl ci
  obtain ⟨a9,H⟩:=nd_mk_since H 2 3 4 rfl rfl rfl (by decide)
  have H:Hd _ _ _ _ [.fz (.sl rToldT c a.told),.fz (.sl Rp.bool d a.possible),.own (Rp.int .i64) b 3 a.rules,.blk h [c,d,b] 222,.tr rtNd [(.iface 252 (ptr0 x))] a9 (.since m.while_ m.from_ m.last m.begun)]:=H
  obtain rfl:=someI i
  exact ⟨a9,rfl,H.pick [4,2,3] (by decide)⟩
 | rises ba bb bc=>
  obtain ⟨y,X,bd,rfl,H⟩:=nd_open_rises H 0 rfl
  have H:Hd _ _ _ _ [.own (Rp.int .i64) b 3 a.rules,.blk h [c,d,b] 222,.fz (.sl rToldT c a.told),.fz (.sl Rp.bool d a.possible),.tr rtNd [X] bd ba,.blk y [X,.int .i64 bb,.bool bc] 258]:=H
  obtain ⟨rfl,rfl⟩:=hm.eq (meth_ok (p:=true) (by kernel_rfl) (by kernel_rfl) en323) w
  obtain ⟨⟨cx,o⟩,cj,i⟩:=zF i
  refine Calls.mono (Fbiw rfI rhI (EventRises.mk ba bb bc) (EventMoment.mk a.told a.possible a.rules) y X bd h c d b _ cj _ _ _ (H.enter [4,5,0,1] [2,3] (by decide) rfl)) ?_
  rintro _ ck ⟨be,cl,rfl,cm⟩
  have H:Hd _ _ ck _ [.fz (.sl rToldT c a.told),.fz (.sl Rp.bool d a.possible),.tr rtNd [be] cl o.kid,.blk y [be,.int .i64 o.last,.bool o.begun] 258,.own (Rp.int .i64) b 3 a.rules,.blk h [c,d,b] 222]:=H.back [4,5,0,1] [2,3] rfl cm
  obtain ⟨bf,H⟩:=nd_mk_rises H 2 3 rfl rfl (by decide)
  have H:Hd _ _ _ _ [.fz (.sl rToldT c a.told),.fz (.sl Rp.bool d a.possible),.own (Rp.int .i64) b 3 a.rules,.blk h [c,d,b] 222,.tr rtNd [(.iface 256 (ptr0 y))] bf (.rises o.kid o.last o.begun)]:=H
  obtain rfl:=someI i
  exact ⟨bf,rfl,H.pick [4,2,3] (by decide)⟩
theorem Fez:Fap (Fac):=by
 have h: ∀n,Fap (Fcv n):=by
  intro n
  induction n with
  | zero=>intro b c d e f i j k fid rv hm r a; cases a
  | succ n ih=>intro b c d e f i j k fid rv hm r a; exact Fdew (Fcv n) ih b c d e f i j k fid rv hm r a
 exact h FU
end Go.Proofs.YtckmiljbaejijaaGreatDoor.L
