/- Walks: what each function computes, for every argument; no condition but those that stand in the statements. -/
import Derived.Test.YtckmiljbaejijaaGreatDoorUV0
import Derived.Test.YtckmiljbaejijaaGreatDoorUV7
import Derived.Test.YtckmiljbaejijaaGreatDoorUV8
import Derived.Test.YtckmiljbaejijaaGreatDoorUV4
import Derived.Test.YtckmiljbaejijaaGreatDoorUV6
import Derived.Test.YtckmiljbaejijaaGreatDoorUV1
namespace Go.Proofs.YtckmiljbaejijaaGreatDoor.L
open Go.RowKit Go.OB Go.Lf
set_option maxHeartbeats 4000000
set_option maxRecDepth 100000 in
theorem Fbnw (d:EventWatch)(f:EventMoment)(s:Nat)(l:Value)(m:Value)(az:List Nat)(n:Value)(y:List Nat)(o:Value)(u:Nat)(j:Value)(k:Value)(h:Value)(r:EventWatch)(c:Fbn d f=some r)(O S:List Nat)(w:World)(H:Hd O w w S [.tr rowEM [m] az d.moves,.tr rowNd [n] y d.rules,.blk s [l,.int .i64 d.tracks,m,n,o] 146,.own (Rp.int .i64) h 3 f.rules,.blk u [j,k,h] 222,.fz (.sl Rp.str l d.phases),.fz (.sl Rp.bool o d.possible),.fz (.sl rToldT j f.told),.fz (.sl Rp.bool k f.possible)]):
  Calls Tryz.prog 141 ([ptr0 s,ptr0 u]:List Value).toArray w fun e w'=> ∃a0 u22 bp u23 bq u24,e= .returned (.tuple #[])∧Hd O w w' S [.fz (.sl Rp.str a0 r.phases),.tr rowEM [u22] bp r.moves,.tr rowNd [u23] bq r.rules,.fz (.sl Rp.bool u24 r.possible),.blk s [a0,.int .i64 r.tracks,u22,u23,u24] 146,.own (Rp.int .i64) h 3 f.rules,.blk u [j,k,h] 222]:=by
 unfold Fbn at c
 refine zW 94 Tryz.func141 rfl rfl rfl ?_
 refine zC fun fc br=>zB ?_
 refine zK (.slice none 0 0)<| (zG (zA (br _ _ ?_)))
 obtain ⟨T,c,bt⟩:=zF c
 refine yK [4,6,13,14,15,16,17,18,19,20,21,22,23,24,25,26,27,28,29] (fun (g:Value×(List Nat))=>[(4,g.1)]) (fun g wl=>Hd O w wl S [.own (Rp.int .i64) g.1 3 T.1,.tr rowEM [m] g.2 T.2,.tr rowNd [n] y d.rules,.blk s [l,.int .i64 d.tracks,m,n,o] 146,.fz (.sl Rp.str l d.phases),.fz (.sl Rp.bool o d.possible),.own (Rp.int .i64) h 3 f.rules,.blk u [j,k,h] 222,.fz (.sl rToldT j f.told),.fz (.sl Rp.bool k f.possible)]) ?_ ?_
 ·skip
  refine zC fun fd bu=>zB ?_
  refine zJ (ptr0 s)<| zH (yB rfl)<| zH (fa146_2 rfl)<| zH (zN one142 rfl (Cells.get (Blk.cells (H.item (i:=2) rfl)) (i:=2) rfl)) ?_
  obtain ⟨bv,bw,c⟩:=zD c
  obtain ⟨fe,ff,bx⟩:=row_len ((H.item (i:=0) rfl))
  refine zH (yS (xP u142 bx) (congrArg (Value.int .i64) bw))<| zJ (.int .i64 0)<| (zG (zA (bu _ _ ?_)))
  refine yH ?_
  have H:=own_nil H (Rp.int .i64) 3
  unfold Fdz at c
  obtain ⟨bz,a1,b0,c⟩:=yX c
  refine xI [4,6,18,19,20,21,22,23,24,25,26,27,28,29] (fun (g:Nat×(List Int)×Int×(List EventMove)×Value×(List Nat))=>[(4,g.2.2.2.2.1),(18,.int .i64 g.2.2.1)]) (fun g wl=>Hd O w wl S [.own (Rp.int .i64) g.2.2.2.2.1 3 g.2.1,.tr rowEM [m] g.2.2.2.2.2 g.2.2.2.1,.tr rowNd [n] y d.rules,.blk s [l,.int .i64 d.tracks,m,n,o] 146,.fz (.sl Rp.str l d.phases),.fz (.sl Rp.bool o d.possible),.own (Rp.int .i64) h 3 f.rules,.blk u [j,k,h] 222,.fz (.sl rToldT j f.told),.fz (.sl Rp.bool k f.possible)]∧loopN bz g.1 (g.2.1,g.2.2.1,g.2.2.2.1)=some T) (fun g=>g.1) (a1,[],0,d.moves,.slice none 0 0,az) (zL rfl (zL rfl zM)) ⟨H.pick [9,0,1,2,5,6,3,4,7,8] (by decide),c⟩ ?_
  clear H c
  rintro ⟨a1,a2,M,U,V,b1⟩ ρ fg ⟨H,c⟩
  obtain ⟨b2,rfl,c⟩:=xC c
  have c:=xB b0 c
  refine zC fun fh b3=>zB ?_
  obtain ⟨b4,b5,c⟩:=zD c
  refine zH (zQ (xR (a:=M) (b:=bv) rfl rfl) b5)<| (zG (zA (b3 _ _ ?_)))
  refine zC fun fi b6=>?_
  refine zZ (b:=b4) rfl (fun ab=>?_) (fun ab=>?_)
  ·have c:=zS ab c
   refine (yA (zA (b6 _ _ ?_)))
   refine zC fun fj b7=>?_
   refine yH ?_
   refine zC fun fk b8=>zB ?_
   obtain ⟨t,N,c⟩:=zF c
   obtain ⟨fm,fn,fo,ac⟩:=row_at (H.item (i:=1) rfl) N
   refine zH (xE u142 sz172 ac rfl (yE N).1 (yE N).2.1 rfl rfl) ?_
   obtain ⟨fp,X,fq,H⟩:=H.focusV 1 rfl ac N rfl
   obtain ⟨B,a3,rfl,H⟩:=rtEventMove_open H 10 rfl
   have H:Hd _ _ _ _ [.own (Rp.int .i64) V 3 a2,.tr rowNd [n] y d.rules,.blk s [l,.int .i64 d.tracks,m,n,o] 146,.fz (.sl Rp.str l d.phases),.fz (.sl Rp.bool o d.possible),.own (Rp.int .i64) h 3 f.rules,.blk u [j,k,h] 222,.fz (.sl rToldT j f.told),.fz (.sl Rp.bool k f.possible),.tr (Rt.row rtEventMove 172 [(M.toNat,[.int .i64 t.from_,.int .i64 t.to,B])]) [m] X U,.tr rtNd [B] a3 t.when]:=H
   refine zH (yS (yR (cs:=[.int .i64 t.from_,.int .i64 t.to,B]) agg172 rfl sz172 rfl (H.holeW 9 rfl ac N rfl lookup_eq)) rfl)<| yY rfl rfl (xQ zero172 H) ?_
   rintro _ fr ⟨Y,rfl,H⟩
   refine xG rfl (xH (vs:=[.int .i64 t.from_,.int .i64 t.to,B]) H 11 rfl sz172 rfl rfl rfl ⟨rfl,rfl,(tr_one (H.item (i:=10) rfl)),trivial⟩ rfl) ?_
   rintro fs H
   refine (zG (zA (b8 _ _ ?_)))
   refine zB ?_
   refine zJ V<| zH (fa172_2 rfl)<| zH (zN one170 rfl (Cells.get (Blk.cells (H.item (i:=11) rfl)) (i:=2) rfl))<| zJ (ptr0 u) ?_
   obtain ⟨b9,ca,a4⟩:=Fam (H.item (i:=10) rfl)
   obtain ⟨F,cb,c⟩:=zF c
   refine yG rfl rfl (DoC_inv a4 rfl rfl) (Fez t.when (EventMoment.mk f.told f.possible f.rules) B a3 u j k h b9 ca a4 _ cb _ _ _ (H.enter [10,5,6] [7,8] (by decide) rfl)) ?_
   rintro _ cc ⟨a5,rfl,cd⟩
   have H:Hd _ _ cc _ [.own (Rp.int .i64) V 3 a2,.tr rowNd [n] y d.rules,.blk s [l,.int .i64 d.tracks,m,n,o] 146,.fz (.sl Rp.str l d.phases),.fz (.sl Rp.bool o d.possible),.fz (.sl rToldT j f.told),.fz (.sl Rp.bool k f.possible),.tr (Rt.row rtEventMove 172 [(M.toNat,[.int .i64 t.from_,.int .i64 t.to,B])]) [m] X U,.blk Y [.int .i64 t.from_,.int .i64 t.to,B] 172,.tr rtNd [B] a5 F.2,.own (Rp.int .i64) h 3 f.rules,.blk u [j,k,h] 222]:=H.back [10,5,6] [7,8] rfl cd
   refine ⟨_,rfl,?_⟩
   obtain ⟨ft,ce,c⟩:=zD c
   subst ce
   refine yY rfl rfl (Lx_bs (r:=(Rp.int .i64)) (xl:=[F.1]) (cs:=[.int .i64 F.1]) u38 el3 (by decide) (by decide) rfl (wC (vs:=[.int .i64 F.1]) (by decide) rfl rfl ⟨rfl,trivial⟩ rfl) H ⟨[.int .i64 F.1],[],rfl,rfl,rfl⟩) ?_
   rintro ad fu H
   obtain ⟨Z,cf,c⟩:=zF c
   refine yY rfl rfl (Lx_app H (i:=0) rfl u38 el3 rfl rfl (Sr.of_own (H.item (i:=12) rfl)) cf) ?_
   rintro P fv H
   refine zK P<| (zG (yP (zA (b7 _ _ ?_))))
   refine zB ?_
   obtain ⟨a6,cg,c⟩:=zD c
   refine zH (xM (a:=M) (b:=1) rfl rfl cg)<| zJ (.int .i64 a6) ?_
   have H:Hd _ _ _ _ [.own (Rp.int .i64) P 3 Z,.tr rowNd [n] y d.rules,.blk s [l,.int .i64 d.tracks,m,n,o] 146,.fz (.sl Rp.str l d.phases),.fz (.sl Rp.bool o d.possible),.fz (.sl rToldT j f.told),.fz (.sl Rp.bool k f.possible),.tr (Rt.row rtEventMove 172 [(M.toNat,[.int .i64 t.from_,.int .i64 t.to,B])]) [m] X U,.blk Y [.int .i64 t.from_,.int .i64 t.to,B] 172,.tr rtNd [B] a5 F.2,.own (Rp.int .i64) h 3 f.rules,.blk u [j,k,h] 222,.own (Rp.int .i64) ad 3 ([F.1]:List Int)]:=H
   obtain ⟨ch,H⟩:=rtEventMove_mk (x:=EventMove.mk t.from_ t.to F.2) H 9 rfl
   have H:Hd _ _ _ _ [.own (Rp.int .i64) P 3 Z,.tr rowNd [n] y d.rules,.blk s [l,.int .i64 d.tracks,m,n,o] 146,.fz (.sl Rp.str l d.phases),.fz (.sl Rp.bool o d.possible),.fz (.sl rToldT j f.told),.fz (.sl Rp.bool k f.possible),.tr (Rt.row rtEventMove 172 [(M.toNat,[.int .i64 t.from_,.int .i64 t.to,B])]) [m] X U,.blk Y [.int .i64 t.from_,.int .i64 t.to,B] 172,.own (Rp.int .i64) h 3 f.rules,.blk u [j,k,h] 222,.own (Rp.int .i64) ad 3 ([F.1]:List Int),.tr rtEventMove [.int .i64 t.from_,.int .i64 t.to,B] ch (EventMove.mk t.from_ t.to F.2)]:=H
   obtain ⟨a7,ci,c⟩:=zF c
   obtain ⟨a8,H⟩:=H.unfocus 7 12 rfl rfl (by decide) rfl rfl ci
   have H:Hd _ _ _ _ [.own (Rp.int .i64) P 3 Z,.tr rowNd [n] y d.rules,.blk s [l,.int .i64 d.tracks,m,n,o] 146,.fz (.sl Rp.str l d.phases),.fz (.sl Rp.bool o d.possible),.fz (.sl rToldT j f.told),.fz (.sl Rp.bool k f.possible),.blk Y [.int .i64 t.from_,.int .i64 t.to,B] 172,.own (Rp.int .i64) h 3 f.rules,.blk u [j,k,h] 222,.own (Rp.int .i64) ad 3 ([F.1]:List Int),.tr rowEM [m] a8 a7]:=H
   exact (zG (zA (meet ⟨(b2,Z,a6,a7,P,a8),(zL rfl (zL rfl zM)),⟨H.pick [0,11,1,2,3,4,8,9,5,6] (by decide),c⟩,Nat.lt_succ_self _⟩)))
  have c:=zT ab c
  obtain rfl:=someI c
  exact (xO (yQ (yQ (yZ (zA (meet ⟨(V,b1),(zL rfl zM),H.pick [0,1,2,3,4,5,6,7,8,9] (by decide)⟩))))))
 rintro ⟨C,cj⟩ ρ fw H
 have c:=bt
 obtain ⟨E,D⟩:=T
 refine zC fun fx ck=>zB ?_
 refine zJ (ptr0 s)<| zH (yB rfl)<| zH (fa146_0 rfl)<| zH (zN one22 rfl (Cells.get (Blk.cells (H.item (i:=3) rfl)) (i:=0) rfl)) ?_
 obtain ⟨fy,cl,c⟩:=zD c
 obtain ⟨f0,f1,cm⟩:=SlF.len ((H.item (i:=4) rfl))
 refine zH (yS (xP u22 cm) (congrArg (Value.int .i64) cl)) ?_
 obtain ⟨cn,co,c⟩:=zF c
 refine yY rfl rfl (Lx_make (r:=Rp.bool) (zv:= .bool false) u144 el4 rfl (fun _ _=>rfl) rfl rfl co H) ?_
 rintro z f4 H
 refine zK z<| (zG (zA (ck _ _ ?_)))
 obtain ⟨a9,c,cp⟩:=zF c
 refine yK [8,9,10,11,12,36,37,38,39,40,41,42,43,44,45,46,47,48,49,50,51,52,53,54,55,56,57,58,59,60,61,62,63,64,65,66,67,68,69,70,71,72,73,74,75,76,77,78,79,80,81,82,83,84,85,86,87,88,89] (fun (g:(List Nat))=>[]) (fun g wl=>Hd O w wl S [.tr rowEM [m] g D,.tr rowNd [n] y d.rules,.blk s [l,.int .i64 d.tracks,m,n,o] 146,.fz (.sl Rp.str l d.phases),.fz (.sl Rp.bool o d.possible),.own (Rp.int .i64) h 3 f.rules,.blk u [j,k,h] 222,.fz (.sl rToldT j f.told),.fz (.sl Rp.bool k f.possible),.own Rp.bool z 4 a9]) ?_ ?_
 ·skip
  refine zC fun f5 cq=>zB ?_
  refine zJ (ptr0 s)<| zH (yB rfl)<| zH (fa146_4 rfl)<| zH (zN one144 rfl (Cells.get (Blk.cells (H.item (i:=3) rfl)) (i:=4) rfl)) ?_
  obtain ⟨cr,ct,c⟩:=zD c
  obtain ⟨f6,f7,cu⟩:=SlF.len ((H.item (i:=5) rfl))
  refine zH (yS (xP u144 cu) (congrArg (Value.int .i64) ct))<| zJ (.int .i64 0)<| (zG (zA (cq _ _ ?_)))
  refine yH ?_
  unfold Fds at c
  obtain ⟨cv,ba,cw,c⟩:=yX c
  refine xI [8,9,10,11,12,41,42,43,44,45,46,47,48,49,50,51,52,53,54,55,56,57,58,59,60,61,62,63,64,65,66,67,68,69,70,71,72,73,74,75,76,77,78,79,80,81,82,83,84,85,86,87,88,89] (fun (g:Nat×Int×(List Bool)×(List Nat))=>[(41,.int .i64 g.2.1)]) (fun g wl=>Hd O w wl S [.own (Rp.int .i64) C 3 E,.tr rowEM [m] g.2.2.2 D,.tr rowNd [n] y d.rules,.blk s [l,.int .i64 d.tracks,m,n,o] 146,.fz (.sl Rp.str l d.phases),.fz (.sl Rp.bool o d.possible),.own (Rp.int .i64) h 3 f.rules,.blk u [j,k,h] 222,.fz (.sl rToldT j f.told),.fz (.sl Rp.bool k f.possible),.own Rp.bool z 4 g.2.2.1]∧loopN cv g.1 (g.2.1,g.2.2.1)=some a9) (fun g=>g.1) (ba,0,cn,cj) (zL rfl zM) ⟨H.pick [0,1,2,3,4,5,6,7,8,9,10] (by decide),c⟩ ?_
  clear H c
  rintro ⟨ba,I,cx,ae⟩ ρ f8 ⟨H,c⟩
  obtain ⟨cy,rfl,c⟩:=xC c
  have c:=xB cw c
  refine zC fun f9 cz=>zB ?_
  obtain ⟨c0,c1,c⟩:=zD c
  refine zH (zQ (xR (a:=I) (b:=cr) rfl rfl) c1)<| (zG (zA (cz _ _ ?_)))
  refine zC fun ga c2=>?_
  refine zZ (b:=c0) rfl (fun af=>?_) (fun af=>?_)
  ·have c:=zS af c
   refine (yA (zA (c2 _ _ ?_)))
   obtain ⟨bb,c,c3⟩:=zF c
   refine yK [8,9,10,11,12,43,44,45,46,47,48,49,50,51,52,53,54,55,56,57,58,59,60,61,62,63,64,65,66,67,68,69,70,71,72,73,74,75,76,77,78,79,80,81,82,83,84,85,86,87,88] (fun (g:(List Nat))=>[]) (fun g wl=>Hd O w wl S [.own (Rp.int .i64) C 3 E,.tr rowEM [m] g D,.tr rowNd [n] y d.rules,.blk s [l,.int .i64 d.tracks,m,n,o] 146,.fz (.sl Rp.str l d.phases),.fz (.sl Rp.bool o d.possible),.own (Rp.int .i64) h 3 f.rules,.blk u [j,k,h] 222,.fz (.sl rToldT j f.told),.fz (.sl Rp.bool k f.possible),.own Rp.bool z 4 bb]) ?_ ?_
   ·skip
    refine yH ?_
    refine zC fun gb c4=>zB ?_
    refine zJ (.int .i64 I) ?_
    obtain ⟨aa,ag,c⟩:=zF c
    obtain ⟨c5,c6,gc,c7,c8,c9,da,db,dc⟩:=rd_at (H.item (i:=5) rfl) ag
    obtain rfl:c7= [.bool aa]:=c9
    have H:=H.fz (.at c5 (c6+I.toNat * 1) _) ⟨da,db,dc⟩
    refine zH (xE u144 sz4 c8 rfl (yE ag).1 (yE ag).2.1 rfl rfl)<| zH (zN one4 rfl (Cells.get (H.item (i:=11) rfl).2.2 (i:=0) rfl))<| zK (.int .i64 I)<| zK (.bool aa)<| (zG (zA (c4 _ _ ?_)))
    refine zC fun gd dd=>?_
    refine zC fun ge de=>zB ?_
    refine zJ (.bool aa) ?_
    obtain ⟨df,dg,c⟩:=zD c
    refine zH (zQ (wI (p:=aa) rfl) dg)<| (zG (zA (de _ _ ?_)))
    refine zZ (b:=df) rfl (fun ah=>?_) (fun ah=>?_)
    ·have c:=zS ah c
     obtain rfl:=someI c
     exact (xO (yQ (yZ (zA (meet ⟨ae,zM,H.pick [0,1,2,3,4,5,6,7,8,9,10] (by decide)⟩)))))
    have c:=zT ah c
    refine (yA (zA (dd _ _ ?_)))
    refine zC fun gf dh=>zB ?_
    refine zK (.bool true)<| (zG (zA (dh _ _ ?_)))
    obtain ⟨Q,c,di⟩:=zF c
    refine yK [10,11,12,48,49,50,51,52,53,54,55,56,57,58,59,60,61,62,63,64,65,66,67,68,69,70,71,72,73,74,75,76,77,78] (fun (g:(List Nat))=>[(10,.bool Q.1)]) (fun g wl=>Hd O w wl S [.own (Rp.int .i64) C 3 E,.tr rowEM [m] g D,.tr rowNd [n] y d.rules,.blk s [l,.int .i64 d.tracks,m,n,o] 146,.fz (.sl Rp.str l d.phases),.fz (.sl Rp.bool o d.possible),.own (Rp.int .i64) h 3 f.rules,.blk u [j,k,h] 222,.fz (.sl rToldT j f.told),.fz (.sl Rp.bool k f.possible),.own Rp.bool z 4 Q.2]) ?_ ?_
    ·skip
     refine zC fun gg dj=>zB ?_
     refine zJ (ptr0 s)<| zH (yB rfl)<| zH (fa146_2 rfl)<| zH (zN one142 rfl (Cells.get (Blk.cells (H.item (i:=3) rfl)) (i:=2) rfl)) ?_
     obtain ⟨dk,dl,c⟩:=zD c
     obtain ⟨gh,gi,dm⟩:=row_len ((H.item (i:=1) rfl))
     refine zH (yS (xP u142 dm) (congrArg (Value.int .i64) dl))<| zJ (.int .i64 0)<| (zG (zA (dj _ _ ?_)))
     refine yH ?_
     unfold Fcl at c
     obtain ⟨dn,bc,dp,c⟩:=yX c
     refine xI [10,11,12,53,54,55,56,57,58,59,60,61,62,63,64,65,66,67,68,69,70,71,72,73,74,75,76,77,78] (fun (g:Nat×Int×(List Bool)×(List Nat))=>[(10,.bool true),(53,.int .i64 g.2.1)]) (fun g wl=>Hd O w wl S [.own (Rp.int .i64) C 3 E,.tr rowEM [m] g.2.2.2 D,.tr rowNd [n] y d.rules,.blk s [l,.int .i64 d.tracks,m,n,o] 146,.fz (.sl Rp.str l d.phases),.fz (.sl Rp.bool o d.possible),.own (Rp.int .i64) h 3 f.rules,.blk u [j,k,h] 222,.fz (.sl rToldT j f.told),.fz (.sl Rp.bool k f.possible),.own Rp.bool z 4 g.2.2.1]∧loopN dn g.1 (g.2.1,g.2.2.1)=some Q) (fun g=>g.1) (bc,0,cx,ae) (zL rfl (zL rfl zM)) ⟨H.pick [0,1,2,3,4,5,6,7,8,9,10] (by decide),c⟩ ?_
     clear H c
     rintro ⟨bc,G,J,dq⟩ ρ gj ⟨H,c⟩
     obtain ⟨dr,rfl,c⟩:=xC c
     have c:=xB dp c
     refine zC fun gl ds=>zB ?_
     obtain ⟨dt,du,c⟩:=zD c
     refine zH (zQ (xR (a:=G) (b:=dk) rfl rfl) du)<| (zG (zA (ds _ _ ?_)))
     refine zC fun gm dv=>?_
     refine zZ (b:=dt) rfl (fun ai=>?_) (fun ai=>?_)
     ·have c:=zS ai c
      refine (yA (zA (dv _ _ ?_)))
      obtain ⟨dw,dx,c⟩:=xZ c
      refine yK [10,11,12,55,56,57,58,59,60,61,62,63,64,65,66,67,68,69,70,71,72,73,74,75,76,77] (fun (g:(List Bool)×(List Nat))=>[(10,.bool true)]) (fun g wl=>Hd O w wl S [.own (Rp.int .i64) C 3 E,.tr rowEM [m] g.2 D,.tr rowNd [n] y d.rules,.blk s [l,.int .i64 d.tracks,m,n,o] 146,.fz (.sl Rp.str l d.phases),.fz (.sl Rp.bool o d.possible),.own (Rp.int .i64) h 3 f.rules,.blk u [j,k,h] 222,.fz (.sl rToldT j f.told),.fz (.sl Rp.bool k f.possible),.own Rp.bool z 4 g.1]∧dw g.1=some Q) ?_ ?_
      ·skip
       refine yH ?_
       refine zC fun gn dy=>zB ?_
       refine zJ (.int .i64 G) ?_
       obtain ⟨q,K,c⟩:=zF c
       obtain ⟨go,gp,gq,aj⟩:=row_at (H.item (i:=1) rfl) K
       refine zH (xE u142 sz172 aj rfl (yE K).1 (yE K).2.1 rfl rfl) ?_
       obtain ⟨gr,R,gs,H⟩:=H.focusV 1 rfl aj K rfl
       obtain ⟨A,ak,rfl,H⟩:=rtEventMove_open H 11 rfl
       have H:Hd _ _ _ _ [.own (Rp.int .i64) C 3 E,.tr rowNd [n] y d.rules,.blk s [l,.int .i64 d.tracks,m,n,o] 146,.fz (.sl Rp.str l d.phases),.fz (.sl Rp.bool o d.possible),.own (Rp.int .i64) h 3 f.rules,.blk u [j,k,h] 222,.fz (.sl rToldT j f.told),.fz (.sl Rp.bool k f.possible),.own Rp.bool z 4 J,.tr (Rt.row rtEventMove 172 [(G.toNat,[.int .i64 q.from_,.int .i64 q.to,A])]) [m] R D,.tr rtNd [A] ak q.when]:=H
       refine zH (yS (yR (cs:=[.int .i64 q.from_,.int .i64 q.to,A]) agg172 rfl sz172 rfl (H.holeW 10 rfl aj K rfl lookup_eq)) rfl)<| yY rfl rfl (xQ zero172 H) ?_
       rintro _ gt ⟨L,rfl,H⟩
       refine zK (.int .i64 G)<| xG rfl (xH (vs:=[.int .i64 q.from_,.int .i64 q.to,A]) H 12 rfl sz172 rfl rfl rfl ⟨rfl,rfl,(tr_one (H.item (i:=11) rfl)),trivial⟩ rfl) ?_
       rintro gu H
       refine (zG (zA (dy _ _ ?_)))
       refine zC fun gv dz=>?_
       obtain ⟨bd,c,d0⟩:=zF c
       refine yK [58,59,60,61,62,63,64,65,66,67,68] (fun (g:(List Nat))=>[(68,.bool bd)]) (fun g wl=>Hd O w wl S [.own (Rp.int .i64) C 3 E,.tr rowNd [n] y d.rules,.blk s [l,.int .i64 d.tracks,m,n,o] 146,.fz (.sl Rp.str l d.phases),.tr rowEM [m] g D,.fz (.sl Rp.bool o d.possible),.own (Rp.int .i64) h 3 f.rules,.blk u [j,k,h] 222,.fz (.sl rToldT j f.told),.fz (.sl Rp.bool k f.possible),.own Rp.bool z 4 J,.blk L [.int .i64 q.from_,.int .i64 q.to,A] 172]) ?_ ?_
       ·skip
        refine zB ?_
        refine zH (fa172_0 rfl)<| zH (zN one3 rfl (Cells.get (Blk.cells (H.item (i:=12) rfl)) (i:=0) rfl))<| zJ (.int .i64 I) ?_
        obtain ⟨d1,d2,c⟩:=zD c
        refine zH (zQ (wH (a:=q.from_) (b:=I) rfl rfl) d2)<| yN (b:=d1) rfl rfl rfl (fun al=>?_) (fun al=>?_)
        ·have c:=zS al c
         refine yI ?_
         refine yI ?_
         refine yI ?_
         refine yI ?_
         refine yI ?_
         refine zH (yL (v:= .bool true) rfl rfl) ?_
         have H:Hd _ _ _ _ [.own (Rp.int .i64) C 3 E,.tr rowNd [n] y d.rules,.blk s [l,.int .i64 d.tracks,m,n,o] 146,.fz (.sl Rp.str l d.phases),.fz (.sl Rp.bool o d.possible),.own (Rp.int .i64) h 3 f.rules,.blk u [j,k,h] 222,.fz (.sl rToldT j f.told),.fz (.sl Rp.bool k f.possible),.own Rp.bool z 4 J,.tr (Rt.row rtEventMove 172 [(G.toNat,[.int .i64 q.from_,.int .i64 q.to,A])]) [m] R D,.tr rtNd [A] ak q.when,.blk L [.int .i64 q.from_,.int .i64 q.to,A] 172]:=H
         obtain ⟨d3,H⟩:=rtEventMove_mk (x:=q) H 11 rfl
         have H:Hd _ _ _ _ [.own (Rp.int .i64) C 3 E,.tr rowNd [n] y d.rules,.blk s [l,.int .i64 d.tracks,m,n,o] 146,.fz (.sl Rp.str l d.phases),.fz (.sl Rp.bool o d.possible),.own (Rp.int .i64) h 3 f.rules,.blk u [j,k,h] 222,.fz (.sl rToldT j f.told),.fz (.sl Rp.bool k f.possible),.own Rp.bool z 4 J,.tr (Rt.row rtEventMove 172 [(G.toNat,[.int .i64 q.from_,.int .i64 q.to,A])]) [m] R D,.blk L [.int .i64 q.from_,.int .i64 q.to,A] 172,.tr rtEventMove [.int .i64 q.from_,.int .i64 q.to,A] d3 q]:=H
         obtain ⟨be,H⟩:=H.unfocus0 10 12 rfl rfl (by decide) rfl rfl K
         have H:Hd _ _ _ _ [.own (Rp.int .i64) C 3 E,.tr rowNd [n] y d.rules,.blk s [l,.int .i64 d.tracks,m,n,o] 146,.fz (.sl Rp.str l d.phases),.fz (.sl Rp.bool o d.possible),.own (Rp.int .i64) h 3 f.rules,.blk u [j,k,h] 222,.fz (.sl rToldT j f.told),.fz (.sl Rp.bool k f.possible),.own Rp.bool z 4 J,.blk L [.int .i64 q.from_,.int .i64 q.to,A] 172,.tr rowEM [m] be D]:=H
         obtain rfl:=someI c
         exact (zG (zA (meet ⟨be,(zL rfl zM),H.pick [0,1,2,3,11,4,5,6,7,8,9,10] (by decide)⟩)))
        have c:=zT al c
        refine zJ C<| zJ (.int .i64 G) ?_
        obtain ⟨bf,am,c⟩:=zF c
        obtain ⟨gw,gx,d4,d5,d6,d7⟩:=own_at (H.item (i:=0) rfl) am
        obtain rfl:d4= [.int .i64 bf]:=d6
        refine zH (xE u38 sz3 d5 rfl (yE am).1 (yE am).2.1 rfl rfl)<| zH (zN one3 rfl (Cells.get d7 (i:=0) rfl)) ?_
        obtain ⟨d8,d9,c⟩:=zD c
        refine zH (zQ (xA (a:=bf) (b:=1) rfl rfl) d9)<| zH (yJ (v:= .bool d8) rfl rfl) ?_
        have H:Hd _ _ _ _ [.own (Rp.int .i64) C 3 E,.tr rowNd [n] y d.rules,.blk s [l,.int .i64 d.tracks,m,n,o] 146,.fz (.sl Rp.str l d.phases),.fz (.sl Rp.bool o d.possible),.own (Rp.int .i64) h 3 f.rules,.blk u [j,k,h] 222,.fz (.sl rToldT j f.told),.fz (.sl Rp.bool k f.possible),.own Rp.bool z 4 J,.tr (Rt.row rtEventMove 172 [(G.toNat,[.int .i64 q.from_,.int .i64 q.to,A])]) [m] R D,.tr rtNd [A] ak q.when,.blk L [.int .i64 q.from_,.int .i64 q.to,A] 172]:=H
        obtain ⟨ea,H⟩:=rtEventMove_mk (x:=q) H 11 rfl
        have H:Hd _ _ _ _ [.own (Rp.int .i64) C 3 E,.tr rowNd [n] y d.rules,.blk s [l,.int .i64 d.tracks,m,n,o] 146,.fz (.sl Rp.str l d.phases),.fz (.sl Rp.bool o d.possible),.own (Rp.int .i64) h 3 f.rules,.blk u [j,k,h] 222,.fz (.sl rToldT j f.told),.fz (.sl Rp.bool k f.possible),.own Rp.bool z 4 J,.tr (Rt.row rtEventMove 172 [(G.toNat,[.int .i64 q.from_,.int .i64 q.to,A])]) [m] R D,.blk L [.int .i64 q.from_,.int .i64 q.to,A] 172,.tr rtEventMove [.int .i64 q.from_,.int .i64 q.to,A] ea q]:=H
        obtain ⟨bg,H⟩:=H.unfocus0 10 12 rfl rfl (by decide) rfl rfl K
        have H:Hd _ _ _ _ [.own (Rp.int .i64) C 3 E,.tr rowNd [n] y d.rules,.blk s [l,.int .i64 d.tracks,m,n,o] 146,.fz (.sl Rp.str l d.phases),.fz (.sl Rp.bool o d.possible),.own (Rp.int .i64) h 3 f.rules,.blk u [j,k,h] 222,.fz (.sl rToldT j f.told),.fz (.sl Rp.bool k f.possible),.own Rp.bool z 4 J,.blk L [.int .i64 q.from_,.int .i64 q.to,A] 172,.tr rowEM [m] bg D]:=H
        obtain rfl:=someI c
        exact (zG (zA (meet ⟨bg,(zL rfl zM),H.pick [0,1,2,3,11,4,5,6,7,8,9,10] (by decide)⟩)))
       rintro an ρ gy H
       have c:=d0
       refine zZ (b:=bd) rfl (fun ao=>?_) (fun ao=>?_)
       ·have c:=zS ao c
        exact (xO (yQ (yZ (zA (meet ⟨(J,an),(zL rfl zM),⟨H.pick [0,4,1,2,3,5,6,7,8,9,10] (by decide),c⟩⟩)))))
       have c:=zT ao c
       refine (yA (zA (dz _ _ ?_)))
       refine zC fun gz eb=>zB ?_
       refine zJ z<| zH (fa172_1 rfl)<| zH (zN one3 rfl (Cells.get (Blk.cells (H.item (i:=11) rfl)) (i:=1) rfl)) ?_
       obtain ⟨ec,ap,c⟩:=zF c
       obtain ⟨g0,g1,ed,bh,ee,ef⟩:=own_at (H.item (i:=10) rfl) ap
       obtain rfl:ed= [.bool ec]:=ee
       refine zH (xE u144 sz4 bh rfl (yE ap).1 (yE ap).2.1 rfl rfl) ?_
       obtain ⟨eg,eh,c⟩:=zF c
       refine xG rfl (Lx_own_store (vs:=[.bool true]) (off:=0) H 10 rfl bh ef rfl sz4 rfl rfl rfl (allone_mem ⟨rfl,trivial⟩) eh (by decide) rfl rfl) ?_
       rintro g2 H
       refine (zG (zA (eb _ _ ?_)))
       refine zC fun g3 ei=>zB ?_
       refine zJ C<| zJ (.int .i64 G) ?_
       obtain ⟨bi,aq,c⟩:=zF c
       obtain ⟨g4,g5,ej,ek,el,em⟩:=own_at (H.item (i:=0) rfl) aq
       obtain rfl:ej= [.int .i64 bi]:=el
       refine zH (xE u38 sz3 ek rfl (yE aq).1 (yE aq).2.1 rfl rfl)<| zH (zN one3 rfl (Cells.get em (i:=0) rfl)) ?_
       obtain ⟨en,eo,c⟩:=zD c
       refine zH (zQ (xA (a:=bi) (b:=2) rfl rfl) eo)<| (zG (zA (ei _ _ ?_)))
       refine zZ (b:=en) rfl (fun ar=>?_) (fun ar=>?_)
       ·have c:=zS ar c
        refine zC fun g6 ep=>zB ?_
        refine zK (.bool false)<| (zG (zA (ep _ _ ?_)))
        obtain rfl:=someI c
        exact (xO (blockQ_x rfl (yQ (yQ (yZ (zA (meet ⟨an,(zL rfl zM),H.pick [0,4,1,2,3,5,6,7,8,9,10] (by decide)⟩)))))))
       have c:=zT ar c
       exact (yA (yP (zA (meet ⟨(eg,an),(zL rfl zM),⟨H.pick [0,4,1,2,3,5,6,7,8,9,10] (by decide),c⟩⟩))))
      rintro ⟨er,es⟩ ρ g7 ⟨H,c⟩
      have c:=wJ dx c
      refine zB ?_
      obtain ⟨bj,et,c⟩:=zD c
      refine zH (xM (a:=G) (b:=1) rfl rfl et)<| zJ (.int .i64 bj) ?_
      exact (zG (zA (meet ⟨(dr,bj,er,es),(zL rfl (zL rfl zM)),⟨H.pick [0,1,2,3,4,5,6,7,8,9,10] (by decide),c⟩,Nat.lt_succ_self _⟩)))
     have c:=zT ai c
     obtain rfl:=someI c
     exact (xO (yQ (yQ (yZ (zA (meet ⟨dq,(zL rfl zM),H.pick [0,1,2,3,4,5,6,7,8,9,10] (by decide)⟩))))))
    rintro bk ρ g8 H
    have c:=di
    obtain ⟨au,g9⟩:=Q
    refine zB ?_
    refine zJ z<| zJ (.int .i64 I)<| zJ z<| zJ (.int .i64 I) ?_
    obtain ⟨bl,av,c⟩:=zF c
    obtain ⟨ha,hb,eu,ew,ex,ey⟩:=own_at (H.item (i:=10) rfl) av
    obtain rfl:eu= [.bool bl]:=ex
    refine zH (xE u144 sz4 ew rfl (yE av).1 (yE av).2.1 rfl rfl)<| zH (zN one4 rfl (Cells.get ey (i:=0) rfl))<| yN (b:=bl) rfl rfl rfl (fun aw=>?_) (fun aw=>?_)
    ·have c:=zS aw c
     refine yI ?_
     refine zH (yL (v:= .bool true) rfl rfl) ?_
     obtain ⟨ez,ax,c⟩:=zF c
     obtain ⟨hc,he,e0,bm,e1,e2⟩:=own_at (H.item (i:=10) rfl) ax
     obtain rfl:e0= [.bool ez]:=e1
     refine zH (xE u144 sz4 bm rfl (yE ax).1 (yE ax).2.1 rfl rfl) ?_
     obtain ⟨hf,e3,c⟩:=zF c
     refine xG rfl (Lx_own_store (vs:=[.bool true]) (off:=0) H 10 rfl bm e2 rfl sz4 rfl rfl rfl (allone_mem ⟨rfl,trivial⟩) e3 (by decide) rfl rfl) ?_
     rintro hg H
     obtain rfl:=someI c
     exact (zG (yP (zA (meet ⟨bk,zM,H.pick [0,1,2,3,4,5,6,7,8,9,10] (by decide)⟩))))
    have c:=zT aw c
    refine zJ (.bool au)<| zH (yJ (v:= .bool au) rfl rfl) ?_
    obtain ⟨e4,ay,c⟩:=zF c
    obtain ⟨hh,hi,e5,bn,e6,e7⟩:=own_at (H.item (i:=10) rfl) ay
    obtain rfl:e5= [.bool e4]:=e6
    refine zH (xE u144 sz4 bn rfl (yE ay).1 (yE ay).2.1 rfl rfl) ?_
    obtain ⟨hj,e8,c⟩:=zF c
    refine xG rfl (Lx_own_store (vs:=[.bool au]) (off:=0) H 10 rfl bn e7 rfl sz4 rfl rfl rfl (allone_mem ⟨rfl,trivial⟩) e8 (by decide) rfl rfl) ?_
    rintro hk H
    obtain rfl:=someI c
    exact (zG (yP (zA (meet ⟨bk,zM,H.pick [0,1,2,3,4,5,6,7,8,9,10] (by decide)⟩))))
   rintro e9 ρ hl H
   have c:=c3
   refine zB ?_
   obtain ⟨bo,fa,c⟩:=zD c
   refine zH (xM (a:=I) (b:=1) rfl rfl fa)<| zJ (.int .i64 bo) ?_
   exact (zG (zA (meet ⟨(cy,bo,bb,e9),(zL rfl zM),⟨H.pick [0,1,2,3,4,5,6,7,8,9,10] (by decide),c⟩,Nat.lt_succ_self _⟩)))
  have c:=zT af c
  obtain rfl:=someI c
  exact (xO (yQ (yQ (yZ (zA (meet ⟨ae,zM,H.pick [1,2,3,4,5,6,7,8,9,10] (by decide)⟩))))))
 rintro fb ρ hn H
 have c:=cp
 refine zB ?_
 refine zJ (ptr0 s)<| zJ z<| zH (yB rfl)<| zH (fa146_4 rfl)<| xG rfl (wE H 2 rfl sz144 rfl (v:=z) rfl (own_one (H.item (i:=9) rfl)) rfl) ?_
 rintro ho H
 have H:=H.freeze (i:=9) rfl
 obtain rfl:=someI c
 refine (zG (post0n rfl ?_))
 exact ⟨l,m,fb,n,y,z,rfl,H.pick [3,0,1,9,2,5,6] (by decide)⟩
theorem Fafw (y:EventWatch)(s:List ToldT)(p:Nat)(J:Value)(P:Value)(V:List Nat)(Q:Value)(X:List Nat)(K:Value)(h:Value)(r:(List Int)×EventWatch)(j:Faf y s=some r)(O S:List Nat)(w:World)(H:Hd O w w S [.tr rowEM [P] V y.moves,.tr rowNd [Q] X y.rules,.blk p [J,.int .i64 y.tracks,P,Q,K] 146,.fz (.sl Rp.str J y.phases),.fz (.sl Rp.bool K y.possible),.fz (.sl rToldT h s)]):
  Calls Tryz.prog 78 ([ptr0 p,h]:List Value).toArray w fun e w'=> ∃Y Z aa an ab ao ac,e= .returned (Y)∧Hd O w w' S [.own (Rp.int .i64) Y 3 r.1,.fz (.sl Rp.str Z r.2.phases),.tr rowEM [aa] an r.2.moves,.tr rowNd [ab] ao r.2.rules,.fz (.sl Rp.bool ac r.2.possible),.blk p [Z,.int .i64 r.2.tracks,aa,ab,ac] 146]:=by
 unfold Faf at j
 refine zW 47 Tryz.func78 rfl rfl rfl ?_
 refine zC fun b1 ap=>zB ?_
 refine zK (.slice none 0 0)<| (zG (zA (ap _ _ ?_)))
 refine zC fun b2 aq=>zB ?_
 refine zJ h ?_
 obtain ⟨ar,au,av⟩: ∃a c,h= .slice a _ c:=SlF.len ((H.item (i:=5) rfl))
 refine zH (xW (cs:=[h,.slice none 0 0,.slice none 0 0]) (by rw [av]; exact bt222_0 ar _ au))<| yY rfl rfl (xX (cs:=[h,.slice none 0 0,.slice none 0 0]) rfl H) ?_
 rintro _ b3 ⟨o,rfl,H⟩
 refine zK (ptr0 o)<| (zG (zA (aq _ _ ?_)))
 refine zC fun b4 aw=>zB ?_
 refine zJ (ptr0 p)<| zJ (ptr0 o) ?_
 have H:=H.fz (.sl Rp.bool (.slice none 0 0) []) SlF.nil
 have H:=own_nil H (Rp.int .i64) 3
 obtain ⟨d,ax,j⟩:=zF j
 refine yG rfl rfl (yC en141 rfl) (Fbnw (EventWatch.mk y.phases y.tracks y.moves y.rules y.possible) (EventMoment.mk s [] []) p J P V Q X K o h (.slice none 0 0) (.slice none 0 0) _ ax _ _ _ (H.enter [0,1,2,8,6] [3,4,5,7] (by decide) rfl)) ?_
 rintro _ ay ⟨k,l,t,m,ad,f,rfl,az⟩
 have H:Hd _ _ ay _ [.fz (.sl Rp.str J y.phases),.fz (.sl Rp.bool K y.possible),.fz (.sl rToldT h s),.fz (.sl Rp.bool (.slice none 0 0) []),.fz (.sl Rp.str k d.phases),.tr rowEM [l] t d.moves,.tr rowNd [m] ad d.rules,.fz (.sl Rp.bool f d.possible),.blk p [k,.int .i64 d.tracks,l,m,f] 146,.own (Rp.int .i64) (.slice none 0 0) 3 [],.blk o [h,.slice none 0 0,.slice none 0 0] 222]:=H.back [0,1,2,8,6] [3,4,5,7] rfl az
 refine ⟨_,rfl,?_⟩
 refine (zG (zA (aw _ _ ?_)))
 refine zC fun b5 a0=>zB ?_
 refine zJ (ptr0 o)<| zJ (ptr0 p)<| zH (yB rfl)<| zH (fa146_4 rfl)<| zH (zN one144 rfl (Cells.get (Blk.cells (H.item (i:=8) rfl)) (i:=4) rfl))<| zH (yB rfl)<| zH (fa222_1 rfl)<| xG rfl (wE H 10 rfl sz144 rfl (v:=f) rfl (slf_one (H.item (i:=7) rfl)) rfl) ?_
 rintro b6 H
 refine (zG (zA (a0 _ _ ?_)))
 obtain ⟨L,j,a1⟩:=zF j
 refine yK [7,21,22,23,24,25,26,27,28,29,30,31,32,33,34,35,36,37,38,39,40,41,42] (fun (g:(List Nat)×Value)=>[]) (fun g wl=>Hd O w wl S [.fz (.sl rToldT h s),.fz (.sl Rp.str k d.phases),.tr rowEM [l] t d.moves,.tr rowNd [m] g.1 L.1,.fz (.sl Rp.bool f d.possible),.blk p [k,.int .i64 d.tracks,l,m,f] 146,.own (Rp.int .i64) g.2 3 L.2,.blk o [h,f,g.2] 222]) ?_ ?_
 ·skip
  refine zC fun b7 a2=>zB ?_
  refine zJ (ptr0 p)<| zH (yB rfl)<| zH (fa146_3 rfl)<| zH (zN one143 rfl (Cells.get (Blk.cells (H.item (i:=8) rfl)) (i:=3) rfl)) ?_
  obtain ⟨a3,a4,j⟩:=zD j
  obtain ⟨b8,b9,a5⟩:=row_len ((H.item (i:=6) rfl))
  refine zH (yS (xP u143 a5) (congrArg (Value.int .i64) a4))<| zJ (.int .i64 0)<| (zG (zA (a2 _ _ ?_)))
  refine yH ?_
  unfold Fen at j
  obtain ⟨a6,ae,a7,j⟩:=yX j
  refine xI [7,26,27,28,29,30,31,32,33,34,35,36,37,38,39,40,41,42] (fun (g:Nat×Int×(List Nd)×(List Int)×(List Nat)×Value)=>[(26,.int .i64 g.2.1)]) (fun g wl=>Hd O w wl S [.fz (.sl rToldT h s),.fz (.sl Rp.str k d.phases),.tr rowEM [l] t d.moves,.tr rowNd [m] g.2.2.2.2.1 g.2.2.1,.fz (.sl Rp.bool f d.possible),.blk p [k,.int .i64 d.tracks,l,m,f] 146,.own (Rp.int .i64) g.2.2.2.2.2 3 g.2.2.2.1,.blk o [h,f,g.2.2.2.2.2] 222]∧loopN a6 g.1 (g.2.1,g.2.2.1,g.2.2.2.1)=some L) (fun g=>g.1) (ae,0,d.rules,[],ad,.slice none 0 0) (zL rfl zM) ⟨H.pick [2,4,5,6,7,8,9,10] (by decide),j⟩ ?_
  clear H j
  rintro ⟨ae,x,z,B,a8,q⟩ ρ M ⟨H,j⟩
  obtain ⟨a9,rfl,j⟩:=xC j
  have j:=xB a7 j
  refine zC fun ca ba=>zB ?_
  obtain ⟨bb,bc,j⟩:=zD j
  refine zH (zQ (xR (a:=x) (b:=a3) rfl rfl) bc)<| (zG (zA (ba _ _ ?_)))
  refine zC fun cb bd=>?_
  refine zZ (b:=bb) rfl (fun R=>?_) (fun R=>?_)
  ·have j:=zS R j
   refine (yA (zA (bd _ _ ?_)))
   refine zC fun cc be=>?_
   refine yH ?_
   refine zC fun cd bf=>zB ?_
   obtain ⟨D,G,j⟩:=zF j
   obtain ⟨ce,cf,cg,T⟩:=row_at (H.item (i:=3) rfl) G
   refine zH (xE u143 sz170 T rfl (yE G).1 (yE G).2.1 rfl rfl) ?_
   obtain ⟨ch,A,E,H⟩:=H.focusV 3 rfl T G rfl
   obtain ⟨n,rfl⟩:=tr_cell rfl (H.item (i:=8) rfl)
   have H:Hd _ _ _ _ [.fz (.sl rToldT h s),.fz (.sl Rp.str k d.phases),.tr rowEM [l] t d.moves,.fz (.sl Rp.bool f d.possible),.blk p [k,.int .i64 d.tracks,l,m,f] 146,.own (Rp.int .i64) q 3 B,.blk o [h,f,q] 222,.tr (Rt.row rtNd 170 [(x.toNat,[n])]) [m] A z,.tr rtNd [n] E D]:=H
   refine zH (zN one170 rfl (Cells.get (H.holeW 7 rfl T G rfl lookup_eq) (i:=0) rfl))<| zK n<| (zG (zA (bf _ _ ?_)))
   have bg:=H
   have H:=H.rebase
   have bh:=H
   have af:Hd (O++bks (rest [2,4,5,6,7,8] [.fz (.sl rToldT h s),.fz (.sl Rp.str k d.phases),.tr rowEM [l] t d.moves,.fz (.sl Rp.bool f d.possible),.blk p [k,.int .i64 d.tracks,l,m,f] 146,.own (Rp.int .i64) q 3 B,.blk o [h,f,q] 222,.tr (Rt.row rtNd 170 [(x.toNat,[n])]) [m] A z,.tr rtNd [n] E D])) M M (bks (Go.Lf.pick ([2,4,5,6,7,8]++ [0,1,3]) [.fz (.sl rToldT h s),.fz (.sl Rp.str k d.phases),.tr rowEM [l] t d.moves,.fz (.sl Rp.bool f d.possible),.blk p [k,.int .i64 d.tracks,l,m,f] 146,.own (Rp.int .i64) q 3 B,.blk o [h,f,q] 222,.tr (Rt.row rtNd 170 [(x.toNat,[n])]) [m] A z,.tr rtNd [n] E D])) [.tr rowEM [l] t d.moves,.blk p [k,.int .i64 d.tracks,l,m,f] 146,.own (Rp.int .i64) q 3 B,.blk o [h,f,q] 222,.tr (Rt.row rtNd 170 [(x.toNat,[n])]) [m] A z,.tr rtNd [n] E D,.fz (.sl rToldT h s),.fz (.sl Rp.str k d.phases),.fz (.sl Rp.bool f d.possible)]:=H.enter [2,4,5,6,7,8] [0,1,3] (by decide) rfl
   refine WP_forkM H af [0,1,2,3,5,6] 4 7 [8,9,10,11,12] [] [.pure,.pure,.pure,.pure,.read,.pure,.pure,.eff,.new,.eff,.pure,.pure,.eff] ⟨trivial,trivial,trivial,trivial,trivial,trivial,trivial,trivial,trivial,trivial,trivial,trivial,trivial,trivial⟩ mixed (by kernel_rfl) (by kernel_rfl) (by kernel_rfl) (by kernel_rfl) (by kernel_rfl) (by decide) ?_
   have H:=af
   refine MxM.zI rfl rfl rfl (fun w' hw'=>yM (v:=ptr0 o) rfl) ?_
   refine MxM.zI rfl rfl rfl (fun w' hw'=>yM (v:=ptr0 o) rfl) ?_
   refine MxM.zI rfl rfl rfl (fun w' hw'=>yB rfl) ?_
   refine MxM.zI rfl rfl rfl (fun w' hw'=>fa222_2 rfl) ?_
   refine MxM.zI rfl rfl rfl (fun w' hw'=>yM (v:=n) rfl) ?_
   refine MxM.zI rfl rfl rfl (fun w' hw'=>yM (v:=ptr0 o) rfl) ?_
   refine MxM.xK fun ci hS=>?_
   have H:=H.sees hS
   obtain ⟨u,ag,j⟩:=zF j
   refine MxM.XL_join (du:=34) (dv:=37) (fun g1 g2 wl=> ∃(F:List Nat),q=g1∧ .int .i64 u.1=g2∧Hd (O++bks (rest [2,4,5,6,7,8] [.fz (.sl rToldT h s),.fz (.sl Rp.str k d.phases),.tr rowEM [l] t d.moves,.fz (.sl Rp.bool f d.possible),.blk p [k,.int .i64 d.tracks,l,m,f] 146,.own (Rp.int .i64) q 3 B,.blk o [h,f,q] 222,.tr (Rt.row rtNd 170 [(x.toNat,[n])]) [m] A z,.tr rtNd [n] E D])) M wl (bks (Go.Lf.pick ([2,4,5,6,7,8]++ [0,1,3]) [.fz (.sl rToldT h s),.fz (.sl Rp.str k d.phases),.tr rowEM [l] t d.moves,.fz (.sl Rp.bool f d.possible),.blk p [k,.int .i64 d.tracks,l,m,f] 146,.own (Rp.int .i64) q 3 B,.blk o [h,f,q] 222,.tr (Rt.row rtNd 170 [(x.toNat,[n])]) [m] A z,.tr rtNd [n] E D])) [.tr rowEM [l] t d.moves,.blk p [k,.int .i64 d.tracks,l,m,f] 146,.tr (Rt.row rtNd 170 [(x.toNat,[n])]) [m] A z,.fz (.sl rToldT h s),.fz (.sl Rp.str k d.phases),.fz (.sl Rp.bool f d.possible),.tr rtNd [n] F u.2,.own (Rp.int .i64) q 3 B,.blk o [h,f,q] 222]) ?_ ?_ ?_
   ·skip
    refine MxM.yO oS rfl rfl rfl (fun w' hw'=>zN one38 rfl (Cells.get (Blk.cells ((H.sees hw').item (i:=3) rfl)) (i:=2) rfl)) ?_
    obtain ⟨bk,bl,ah⟩:=Fam (H.item (i:=5) rfl)
    refine MxM.XL_effC oS rfl rfl rfl (fun w' hw'=>DoC_inv ah rfl rfl) (fun w' hw'=>Fez D (EventMoment.mk s d.possible B) n E o h f q bk bl ah _ ag _ _ _ ((H.sees hw').enter [5,2,3] [6,8] (by decide) rfl)) ?_
    rintro w' _ bm hw' ⟨F,rfl,bn⟩
    have H:Hd _ _ bm _ [.tr rowEM [l] t d.moves,.blk p [k,.int .i64 d.tracks,l,m,f] 146,.tr (Rt.row rtNd 170 [(x.toNat,[n])]) [m] A z,.fz (.sl rToldT h s),.fz (.sl Rp.str k d.phases),.fz (.sl Rp.bool f d.possible),.tr rtNd [n] F u.2,.own (Rp.int .i64) q 3 B,.blk o [h,f,q] 222]:=(H.sees hw').back [5,2,3] [6,8] rfl bn
    refine ⟨_,rfl,H.only,?_⟩
    refine MxM.xK fun cj hS=>?_
    have H:=H.sees hS
    exact ⟨_,_,rfl,H.only,F,rfl,rfl,H⟩
   ·skip
    obtain ⟨bo,bp,ai⟩:=Fam (H.item (i:=5) rfl)
    refine MxM.XL_effC oS rfl rfl rfl (fun w' hw'=>DoC_inv ai rfl rfl) (fun w' hw'=>Fez D (EventMoment.mk s d.possible B) n E o h f q bo bp ai _ ag _ _ _ ((H.sees hw').enter [5,2,3] [6,8] (by decide) rfl)) ?_
    rintro w' _ bq hw' ⟨aj,rfl,br⟩
    have H:Hd _ _ bq _ [.tr rowEM [l] t d.moves,.blk p [k,.int .i64 d.tracks,l,m,f] 146,.tr (Rt.row rtNd 170 [(x.toNat,[n])]) [m] A z,.fz (.sl rToldT h s),.fz (.sl Rp.str k d.phases),.fz (.sl Rp.bool f d.possible),.tr rtNd [n] aj u.2,.own (Rp.int .i64) q 3 B,.blk o [h,f,q] 222]:=(H.sees hw').back [5,2,3] [6,8] rfl br
    refine ⟨_,rfl,H.only,?_⟩
    refine MxM.yO oS rfl rfl rfl (fun w' hw'=>zN one38 rfl (Cells.get (Blk.cells ((H.sees hw').item (i:=8) rfl)) (i:=2) rfl)) ?_
    refine MxM.xK fun ck hS=>?_
    have H:=H.sees hS
    exact ⟨_,_,MxM.upd_comm _ (by decide) _ _,H.only,aj,rfl,rfl,H⟩
   rintro M' _ _ cl ⟨F,rfl,rfl,H⟩
   obtain ⟨cm,bt,j⟩:=zD j
   subst bt
   refine MxM.XL_exN oS rfl rfl rfl (fun w' hw'=>Ls_of (Lx_bs (r:=(Rp.int .i64)) (xl:=[u.1]) (cs:=[.int .i64 u.1]) u38 el3 (by decide) (by decide) rfl (wC (vs:=[.int .i64 u.1]) (by decide) rfl rfl ⟨rfl,trivial⟩ rfl) (H.sees hw') ⟨[.int .i64 u.1],[],rfl,rfl,rfl⟩) (Ys_bs (cs:=[.int .i64 u.1]) u38 el3 (by decide) (by decide) (wC (vs:=[.int .i64 u.1]) (by decide) rfl rfl ⟨rfl,trivial⟩ rfl))) ?_
   rintro w' N cn hw' H
   obtain ⟨I,bu,j⟩:=zF j
   refine MxM.XL_ex oS rfl rfl rfl (fun w' hw'=>Lx_app (H.sees hw') (i:=7) rfl u38 el3 rfl rfl (Sr.of_own ((H.sees hw').item (i:=9) rfl)) bu) ?_
   rintro w' C co hw' H
   refine ⟨H.only,?_⟩
   refine MxM.zI rfl rfl rfl (fun w' hw'=>yB rfl) ?_
   refine MxM.zI rfl rfl rfl (fun w' hw'=>fa222_2 rfl) ?_
   refine MxM.XL_exU oS rfl rfl (fun w' hw'=>wE (H.sees hw') 8 rfl sz38 rfl (v:=C) rfl (own_one ((H.sees hw').item (i:=7) rfl)) rfl) ?_
   rintro w' cp hw' H
   refine ⟨H.only,?_⟩
   refine MxM.xK fun bv hS=>?_
   have H:=H.sees hS
   have H:=bh.back [2,4,5,6,7,8] [0,1,3] rfl H
   have H:Hd _ _ _ _ [.fz (.sl rToldT h s),.fz (.sl Rp.str k d.phases),.fz (.sl Rp.bool f d.possible),.tr rowEM [l] t d.moves,.blk p [k,.int .i64 d.tracks,l,m,f] 146,.tr (Rt.row rtNd 170 [(x.toNat,[n])]) [m] A z,.fz (.sl rToldT h s),.fz (.sl Rp.str k d.phases),.fz (.sl Rp.bool f d.possible),.tr rtNd [n] F u.2,.own (Rp.int .i64) C 3 I,.blk o [h,f,C] 222,.own (Rp.int .i64) N 3 ([u.1]:List Int)]:=H
   have H:Hd O M bv (bks [.fz (.sl rToldT h s),.fz (.sl Rp.str k d.phases),.tr rowEM [l] t d.moves,.fz (.sl Rp.bool f d.possible),.blk p [k,.int .i64 d.tracks,l,m,f] 146,.own (Rp.int .i64) q 3 B,.blk o [h,f,q] 222,.tr (Rt.row rtNd 170 [(x.toNat,[n])]) [m] A z,.tr rtNd [n] E D]) [.tr rowEM [l] t d.moves,.blk p [k,.int .i64 d.tracks,l,m,f] 146,.tr (Rt.row rtNd 170 [(x.toNat,[n])]) [m] A z,.fz (.sl rToldT h s),.fz (.sl Rp.str k d.phases),.fz (.sl Rp.bool f d.possible),.tr rtNd [n] F u.2,.own (Rp.int .i64) C 3 I,.blk o [h,f,C] 222,.own (Rp.int .i64) N 3 ([u.1]:List Int)]:=H.pick [3,4,5,6,7,8,9,10,11,12] (by decide)
   refine ⟨H.only,?_⟩
   refine MxM.xK fun cq hS=>?_
   have H:=H.sees hS
   have H:=bg.rejoin H
   refine (yP (zA (be _ _ ?_)))
   refine zB ?_
   obtain ⟨ak,bw,j⟩:=zD j
   refine zH (xM (a:=x) (b:=1) rfl rfl bw)<| zJ (.int .i64 ak) ?_
   have H:Hd _ _ _ _ [.tr rowEM [l] t d.moves,.blk p [k,.int .i64 d.tracks,l,m,f] 146,.tr (Rt.row rtNd 170 [(x.toNat,[n])]) [m] A z,.fz (.sl rToldT h s),.fz (.sl Rp.str k d.phases),.fz (.sl Rp.bool f d.possible),.tr rtNd [n] F u.2,.own (Rp.int .i64) C 3 I,.blk o [h,f,C] 222,.own (Rp.int .i64) N 3 ([u.1]:List Int)]:=H
   obtain ⟨al,bx,j⟩:=zF j
   obtain ⟨am,H⟩:=H.unfocus 2 6 rfl rfl (by decide) rfl rfl bx
   have H:Hd _ _ _ _ [.tr rowEM [l] t d.moves,.blk p [k,.int .i64 d.tracks,l,m,f] 146,.fz (.sl rToldT h s),.fz (.sl Rp.str k d.phases),.fz (.sl Rp.bool f d.possible),.own (Rp.int .i64) C 3 I,.blk o [h,f,C] 222,.own (Rp.int .i64) N 3 ([u.1]:List Int),.tr rowNd [m] am al]:=H
   exact (zG (zA (meet ⟨(a9,ak,al,I,am,C),(zL rfl zM),⟨H.pick [2,3,0,8,4,1,5,6] (by decide),j⟩,Nat.lt_succ_self _⟩)))
  have j:=zT R j
  obtain rfl:=someI j
  exact (xO (yQ (yQ (yZ (zA (meet ⟨(a8,q),zM,H.pick [0,1,2,3,4,5,6,7] (by decide)⟩))))))
 rintro ⟨bz,U⟩ ρ cr H
 have j:=a1
 obtain ⟨ct,cu⟩:=L
 refine zC fun cv b0=>zB ?_
 refine zJ (ptr0 o)<| zH (yB rfl)<| zH (fa222_2 rfl)<| zH (zN one38 rfl (Cells.get (Blk.cells (H.item (i:=7) rfl)) (i:=2) rfl))<| zK U<| (zG (zA (b0 _ _ ?_)))
 obtain rfl:=someI j
 refine (zY (post1 (v1:=U) rfl rfl ?_))
 exact ⟨U,k,l,t,m,bz,f,rfl,H.pick [6,1,2,3,4,5] (by decide)⟩
theorem Fbkw (k:List Int)(I:List Str)(B:List (List Int))(j:Value)(J:Value)(n:Nat)(h:Value)(K:List Nat)(r:(List (List Int)))(c:Fbk k I B=some r)(O S:List Nat)(w:World)(H:Hd O w w S [.tr (Rt.row (Rt.row (Rt.of (Rp.int .i64)) 3 []) 38 []) [h] K B,.blk n [h] 28,.fz (.sl (Rp.int .i64) j k),.fz (.sl Rp.str J I)]):
  Calls Tryz.prog 54 ([j,J,ptr0 n]:List Value).toArray w fun e w'=> ∃L Y,e= .returned (.tuple #[])∧Hd O w w' S [.tr (Rt.row (Rt.row (Rt.of (Rp.int .i64)) 3 []) 38 []) [L] Y r,.blk n [L] 28]:=by
 unfold Fbk at c
 refine zW 25 Tryz.func54 rfl rfl rfl ?_
 refine zC fun a4 Z=>zB ?_
 refine zJ j ?_
 obtain ⟨aa,ab,c⟩:=zD c
 obtain ⟨a5,a6,ac⟩:=SlF.len ((H.item (i:=2) rfl))
 refine zH (yS (xP u38 ac) (congrArg (Value.int .i64) ab))<| zJ (.int .i64 0)<| (zG (zA (Z _ _ ?_)))
 refine yH ?_
 unfold Fev at c
 obtain ⟨ad,M,ae,c⟩:=yX c
 refine xI [5,6,9,10,11,12,13,14,15,16,17,18,19,20,21,22,23,24] (fun (g:Nat×Int×(List (List Int))×(List Nat))=>[(9,.int .i64 g.2.1)]) (fun g wl=>Hd O w wl S [.tr (Rt.row (Rt.row (Rt.of (Rp.int .i64)) 3 []) 38 []) [h] g.2.2.2 g.2.2.1,.blk n [h] 28,.fz (.sl (Rp.int .i64) j k)]∧loopN ad g.1 (g.2.1,g.2.2.1)=some r) (fun g=>g.1) (M,0,B,K) (zL rfl zM) ⟨H.pick [0,1,2] (by decide),c⟩ ?_
 clear H c
 rintro ⟨M,d,o,s⟩ ρ A ⟨H,c⟩
 obtain ⟨af,rfl,c⟩:=xC c
 have c:=xB ae c
 refine zC fun a7 ag=>zB ?_
 obtain ⟨ah,ai,c⟩:=zD c
 refine zH (zQ (xR (a:=d) (b:=aa) rfl rfl) ai)<| (zG (zA (ag _ _ ?_)))
 refine zC fun a8 aj=>?_
 refine zZ (b:=ah) rfl (fun C=>?_) (fun C=>?_)
 ·have c:=zS C c
  refine (yA (zA (aj _ _ ?_)))
  refine zC fun a9 ak=>?_
  refine yH ?_
  refine zC fun ba al=>zB ?_
  refine zJ (.int .i64 d) ?_
  obtain ⟨f,D,c⟩:=zF c
  obtain ⟨l,m,bb,am,an,ao,ap,aq,ar⟩:=rd_at (H.item (i:=2) rfl) D
  obtain rfl:am= [.int .i64 f]:=ao
  have H:=H.fz (.at l (m+d.toNat * 1) _) ⟨ap,aq,ar⟩
  refine zH (xE u38 sz3 an rfl (yE D).1 (yE D).2.1 rfl rfl)<| zH (zN one3 rfl (Cells.get (H.item (i:=3) rfl).2.2 (i:=0) rfl))<| zK (.int .i64 d)<| zK (.int .i64 f)<| (zG (zA (al _ _ ?_)))
  have au:=H
  have H:=H.rebase
  have av:=H
  have E:Hd (O++bks (rest [0] [.tr (Rt.row (Rt.row (Rt.of (Rp.int .i64)) 3 []) 38 []) [h] s o,.blk n [h] 28,.fz (.sl (Rp.int .i64) j k),.fz (.at l (m+d.toNat * 1) [.int .i64 f])])) A A (bks (Go.Lf.pick ([0]++ [2,3]) [.tr (Rt.row (Rt.row (Rt.of (Rp.int .i64)) 3 []) 38 []) [h] s o,.blk n [h] 28,.fz (.sl (Rp.int .i64) j k),.fz (.at l (m+d.toNat * 1) [.int .i64 f])])) [.tr (Rt.row (Rt.row (Rt.of (Rp.int .i64)) 3 []) 38 []) [h] s o,.fz (.sl (Rp.int .i64) j k),.fz (.at l (m+d.toNat * 1) [.int .i64 f])]:=H.enter [0] [2,3] (by decide) rfl
  have N:=H.firmB E (i:=1) rfl (List.mem_append_right _ List.mem_cons_self)
  refine WP_forkM H E [0,2,3,4,5,6,7] 1 8 [9] [10] [.pure,.pure,.pure,.pure,.pure,.read,.pure,.new,.eff,.pure,.eff] ⟨trivial,trivial,trivial,trivial,trivial,trivial,trivial,trivial,trivial,trivial,trivial,trivial⟩ mixed (by kernel_rfl) (by kernel_rfl) (by kernel_rfl) (by kernel_rfl) (by kernel_rfl) (by decide) ?_
  have H:=E
  refine MxM.zI rfl rfl rfl (fun w' hw'=>zN one28 rfl (Cells.get (Blk.cells (N w' hw')) (i:=0) rfl)) ?_
  refine MxM.zI rfl rfl rfl (fun w' hw'=>zN one28 rfl (Cells.get (Blk.cells (N w' hw')) (i:=0) rfl)) ?_
  refine MxM.zI rfl rfl rfl (fun w' hw'=>yM (v:= .int .i64 d) rfl) ?_
  obtain ⟨aw,y,c⟩:=zF c
  obtain ⟨bc,bd,be,F⟩:=row_at (H.item (i:=0) rfl) y
  refine MxM.zI rfl rfl rfl (fun w' hw'=>xE u28 sz38 F rfl (yE y).1 (yE y).2.1 rfl rfl) ?_
  obtain ⟨bf,t,ax,H⟩:=H.focusV 0 rfl F y rfl
  obtain ⟨u,rfl⟩:=tr_cell rfl (H.item (i:=3) rfl)
  have H:Hd _ _ _ _ [.fz (.sl (Rp.int .i64) j k),.fz (.at l (m+d.toNat * 1) [.int .i64 f]),.tr (Rt.row (Rt.row (Rt.of (Rp.int .i64)) 3 []) 38 [(d.toNat,[u])]) [h] t o,.tr (Rt.row (Rt.of (Rp.int .i64)) 3 []) [u] ax aw]:=H
  refine MxM.yO oS rfl rfl rfl (fun w' hw'=>zN one38 rfl (Cells.get ((H.sees hw').holeW 2 rfl F y rfl lookup_eq) (i:=0) rfl)) ?_
  refine MxM.zI rfl rfl rfl (fun w' hw'=>yM (v:= .int .i64 f) rfl) ?_
  obtain ⟨bg,ay,c⟩:=zD c
  subst ay
  refine MxM.XL_exN oS rfl rfl rfl (fun w' hw'=>Ls_of (Lx_bs (r:=(Rp.int .i64)) (xl:=[f]) (cs:=[.int .i64 f]) u38 el3 (by decide) (by decide) rfl (wC (vs:=[.int .i64 f]) (by decide) rfl rfl ⟨rfl,trivial⟩ rfl) (H.sees hw') ⟨[.int .i64 f],[],rfl,rfl,rfl⟩) (Ys_bs (cs:=[.int .i64 f]) u38 el3 (by decide) (by decide) (wC (vs:=[.int .i64 f]) (by decide) rfl rfl ⟨rfl,trivial⟩ rfl))) ?_
  rintro w' x bh hw' H
  refine MxM.xK fun bi hS=>?_
  have H:=H.sees hS
  obtain ⟨z,P,c⟩:=zF c
  refine MxM.XL_join (du:=15) (dv:=22) (fun g1 g2 wl=> ∃(p:Value) (q:List Nat),.int .i64 d=g1∧p=g2∧Hd (O++bks (rest [0] [.tr (Rt.row (Rt.row (Rt.of (Rp.int .i64)) 3 []) 38 []) [h] s o,.blk n [h] 28,.fz (.sl (Rp.int .i64) j k),.fz (.at l (m+d.toNat * 1) [.int .i64 f])])) A wl (bks (Go.Lf.pick ([0]++ [2,3]) [.tr (Rt.row (Rt.row (Rt.of (Rp.int .i64)) 3 []) 38 []) [h] s o,.blk n [h] 28,.fz (.sl (Rp.int .i64) j k),.fz (.at l (m+d.toNat * 1) [.int .i64 f])])) [.fz (.sl (Rp.int .i64) j k),.fz (.at l (m+d.toNat * 1) [.int .i64 f]),.tr (Rt.row (Rt.row (Rt.of (Rp.int .i64)) 3 []) 38 [(d.toNat,[u])]) [h] t o,.own (Rp.int .i64) x 3 ([f]:List Int),.tr (Rt.row (Rt.of (Rp.int .i64)) 3 []) [p] q z]) ?_ ?_ ?_
  ·skip
   refine MxM.zI rfl rfl rfl (fun w' hw'=>yM (v:= .int .i64 d) rfl) ?_
   refine MxM.XL_ex oS rfl rfl rfl (fun w' hw'=>Lx_appF (H.sees hw') 3 rfl u38 el3 rfl rfl (Sr.of_own ((H.sees hw').item (i:=4) rfl)) P) ?_
   rintro w' p bj hw' ⟨q,H⟩
   refine ⟨H.only,?_⟩
   have H:Hd _ _ _ _ [.fz (.sl (Rp.int .i64) j k),.fz (.at l (m+d.toNat * 1) [.int .i64 f]),.tr (Rt.row (Rt.row (Rt.of (Rp.int .i64)) 3 []) 38 [(d.toNat,[u])]) [h] t o,.own (Rp.int .i64) x 3 ([f]:List Int),.tr (Rt.row (Rt.of (Rp.int .i64)) 3 []) [p] q z]:=H
   refine MxM.xK fun bk hS=>?_
   have H:=H.sees hS
   exact ⟨_,_,rfl,H.only,p,q,rfl,rfl,H⟩
  ·skip
   refine MxM.XL_ex oS rfl rfl rfl (fun w' hw'=>Lx_appF (H.sees hw') 3 rfl u38 el3 rfl rfl (Sr.of_own ((H.sees hw').item (i:=4) rfl)) P) ?_
   rintro w' Q bl hw' ⟨R,H⟩
   refine ⟨H.only,?_⟩
   have H:Hd _ _ _ _ [.fz (.sl (Rp.int .i64) j k),.fz (.at l (m+d.toNat * 1) [.int .i64 f]),.tr (Rt.row (Rt.row (Rt.of (Rp.int .i64)) 3 []) 38 [(d.toNat,[u])]) [h] t o,.own (Rp.int .i64) x 3 ([f]:List Int),.tr (Rt.row (Rt.of (Rp.int .i64)) 3 []) [Q] R z]:=H
   refine MxM.zI rfl rfl rfl (fun w' hw'=>yM (v:= .int .i64 d) rfl) ?_
   refine MxM.xK fun bm hS=>?_
   have H:=H.sees hS
   exact ⟨_,_,MxM.upd_comm _ (by decide) _ _,H.only,Q,R,rfl,rfl,H⟩
  rintro M' _ _ bn ⟨p,q,rfl,rfl,H⟩
  obtain ⟨bo,G,c⟩:=zF c
  obtain ⟨bp,bq,br,T⟩:=row_at (H.item (i:=2) rfl) G
  refine MxM.zI rfl rfl rfl (fun w' hw'=>xE u28 sz38 T rfl (yE G).1 (yE G).2.1 rfl rfl) ?_
  refine MxM.xK fun a1 hS=>?_
  have H:=H.sees hS
  have H:=av.back [0] [2,3] rfl H
  have H:Hd _ _ _ _ [.blk n [h] 28,.fz (.sl (Rp.int .i64) j k),.fz (.at l (m+d.toNat * 1) [.int .i64 f]),.fz (.sl (Rp.int .i64) j k),.fz (.at l (m+d.toNat * 1) [.int .i64 f]),.tr (Rt.row (Rt.row (Rt.of (Rp.int .i64)) 3 []) 38 [(d.toNat,[u])]) [h] t o,.own (Rp.int .i64) x 3 ([f]:List Int),.tr (Rt.row (Rt.of (Rp.int .i64)) 3 []) [p] q z]:=H
  have H:Hd O A a1 (bks [.tr (Rt.row (Rt.row (Rt.of (Rp.int .i64)) 3 []) 38 []) [h] s o,.blk n [h] 28,.fz (.sl (Rp.int .i64) j k),.fz (.at l (m+d.toNat * 1) [.int .i64 f])]) [.blk n [h] 28,.fz (.sl (Rp.int .i64) j k),.fz (.at l (m+d.toNat * 1) [.int .i64 f]),.tr (Rt.row (Rt.row (Rt.of (Rp.int .i64)) 3 []) 38 [(d.toNat,[u])]) [h] t o,.own (Rp.int .i64) x 3 ([f]:List Int),.tr (Rt.row (Rt.of (Rp.int .i64)) 3 []) [p] q z]:=H.pick [0,3,4,5,6,7] (by decide)
  refine ⟨H.only,?_⟩
  refine MxM.XL_exU oS rfl rfl (fun w' hw'=>Lx_hole_storeW (vs:=[p]) (off:=0) (H.sees hw') 3 rfl T y rfl rfl sz38 rfl rfl (one_cells (tr_one ((H.sees hw').item (i:=5) rfl))) (allone_mem ⟨(tr_one ((H.sees hw').item (i:=5) rfl)),trivial⟩) (by show _≤1; decide)) ?_
  rintro w' bt hw' H
  refine ⟨H.only,?_⟩
  refine MxM.xK fun bu hS=>?_
  have H:=H.sees hS
  have H:=au.rejoin H
  refine (yP (zA (ak _ _ ?_)))
  refine zB ?_
  obtain ⟨U,a2,c⟩:=zD c
  refine zH (xM (a:=d) (b:=1) rfl rfl a2)<| zJ (.int .i64 U) ?_
  have H:Hd _ _ _ _ [.blk n [h] 28,.fz (.sl (Rp.int .i64) j k),.fz (.at l (m+d.toNat * 1) [.int .i64 f]),.tr (Rt.row (Rt.row (Rt.of (Rp.int .i64)) 3 []) 38 [(d.toNat,[p])]) [h] t o,.own (Rp.int .i64) x 3 ([f]:List Int),.tr (Rt.row (Rt.of (Rp.int .i64)) 3 []) [p] q z]:=H
  obtain ⟨V,a3,c⟩:=zF c
  obtain ⟨X,H⟩:=H.unfocus 3 5 rfl rfl (by decide) rfl rfl a3
  have H:Hd _ _ _ _ [.blk n [h] 28,.fz (.sl (Rp.int .i64) j k),.fz (.at l (m+d.toNat * 1) [.int .i64 f]),.own (Rp.int .i64) x 3 ([f]:List Int),.tr (Rt.row (Rt.row (Rt.of (Rp.int .i64)) 3 []) 38 []) [h] X V]:=H
  exact (zG (zA (meet ⟨(af,U,V,X),(zL rfl zM),⟨H.pick [4,0,1] (by decide),c⟩,Nat.lt_succ_self _⟩)))
 have c:=zT C c
 obtain rfl:=someI c
 refine (xO (yQ (yQ (yZ (post0n rfl ?_)))))
 exact ⟨h,s,rfl,H.pick [0,1] (by decide)⟩
set_option maxRecDepth 100000 in
theorem Fcrw (j:Rules)(k:List Track)(m:Int)(p:Int)(p4c0:List (List Int))(v1:Value)(n:Value)(o:Value)(f:Value)(h:Nat)(l:Value)(t:List Nat)(r:Int×(List (List Int)))(c:Fcr j k m p p4c0=some r)(O S:List Nat)(w:World)(H:Hd O w w S [.tr (Rt.row (Rt.row (Rt.of (Rp.int .i64)) 3 []) 38 []) [l] t p4c0,.blk h [l] 28,.fz (.sl Rp.str v1 j.Phases),.fz (.sl rMoveT n j.Moves),.fz (.sl rRule o j.Rules),.fz (.sl rTrack f k)]):
  Calls Tryz.prog 53 ([.agg [v1,n,o].toArray,f,.int .i64 m,.int .i64 p,.func (.func 54) #[] #[ptr0 h]]:List Value).toArray w fun e w'=> ∃ag av,e= .returned (.int .i64 r.1)∧Hd O w w' S [.tr (Rt.row (Rt.row (Rt.of (Rp.int .i64)) 3 []) 38 []) [ag] av r.2,.blk h [ag] 28]:=by
 unfold Fcr at c
 refine zW 54 Tryz.func53 rfl rfl rfl ?_
 refine zC fun cr aw=>zB ?_
 refine yY rfl rfl (xX (cs:=[v1,n,o]) rfl H) ?_
 rintro _ ct ⟨ah,rfl,H⟩
 refine zK (.int .i64 0)<| (zG (zA (aw _ _ ?_)))
 refine zC fun cu ax=>?_
 refine zC fun cv ay=>zB ?_
 refine zH (yS (yR (cs:=[v1,n,o]) agg26 rfl sz26 rfl (Blk.cells (H.item (i:=6) rfl))) rfl)<| zJ f ?_
 have az:=H
 obtain ⟨A,a0,c⟩:=zF c
 refine yG rfl rfl (yC en73 rfl) (Faxw j k v1 n o f _ a0 _ _ _ (H.enter [] [2,3,4,5] (by decide) rfl)) ?_
 rintro _ cw ⟨rfl,a1⟩
 have H:=az.step (a1.only:Only [] _ _)
 refine ⟨_,rfl,?_⟩
 refine zK (.int .i64 A)<| (zG (zA (ay _ _ ?_)))
 refine zC fun cx a2=>zB ?_
 refine zJ (.int .i64 A) ?_
 obtain ⟨a3,a4,c⟩:=zD c
 refine zH (zQ (wH (a:=A) (b:=0) rfl rfl) a4)<| (zG (zA (a2 _ _ ?_)))
 refine zZ (b:=a3) rfl (fun N=>?_) (fun N=>?_)
 ·have c:=zS N c
  refine zC fun cy a5=>zB ?_
  refine zJ (.int .i64 A)<| zK (.int .i64 A)<| (zG (zA (a5 _ _ ?_)))
  obtain rfl:=someI c
  refine (zY (zV (post1 (v1:= .int .i64 A) rfl rfl ?_)))
  exact ⟨l,t,rfl,H.pick [0,1] (by decide)⟩
 have c:=zT N c
 refine (yA (zA (ax _ _ ?_)))
 refine zC fun cz a6=>?_
 obtain ⟨ai,c,a7⟩:=zF c
 refine yK [20,21,22,23,24,25,26,27,28,29,30] (fun (g:Unit)=>[(30,.bool ai)]) (fun g wl=>Hd O w wl S [.tr (Rt.row (Rt.row (Rt.of (Rp.int .i64)) 3 []) 38 []) [l] t p4c0,.blk h [l] 28,.fz (.sl Rp.str v1 j.Phases),.fz (.sl rMoveT n j.Moves),.fz (.sl rRule o j.Rules),.fz (.sl rTrack f k),.blk ah [v1,n,o] 26]) ?_ ?_
 ·skip
  refine zB ?_
  refine zJ (.int .i64 m) ?_
  obtain ⟨a8,a9,c⟩:=zD c
  refine zH (zQ (xR (a:=m) (b:=0) rfl rfl) a9) ?_
  obtain ⟨aj,c,ba⟩:=zF c
  refine RL_cutS 5 [22,23,24,25,26] [(26,.bool aj)] (fun wl=>Hd O w wl S [.tr (Rt.row (Rt.row (Rt.of (Rp.int .i64)) 3 []) 38 []) [l] t p4c0,.blk h [l] 28,.fz (.sl Rp.str v1 j.Phases),.fz (.sl rMoveT n j.Moves),.fz (.sl rRule o j.Rules),.fz (.sl rTrack f k),.blk ah [v1,n,o] 26]) ?_ ?_
  ·skip
   refine yN (b:=a8) rfl rfl rfl (fun P=>?_) (fun P=>?_)
   ·have c:=zS P c
    refine yI ?_
    refine yI ?_
    refine yI ?_
    refine zH (yL (v:= .bool true) rfl rfl) ?_
    obtain rfl:=someI c
    exact zG (zA (meet ⟨(zL rfl zM),H.pick [0,1,2,3,4,5,6] (by decide)⟩))
   have c:=zT P c
   refine zJ (.int .i64 m)<| zJ (.int .i64 p) ?_
   obtain ⟨bb,bc,c⟩:=zD c
   refine zH (zQ (Do_gtr (a:=m) (b:=p) rfl rfl) bc)<| zH (yJ (v:= .bool bb) rfl rfl) ?_
   obtain rfl:=someI c
   exact zG (zA (meet ⟨(zL rfl zM),H.pick [0,1,2,3,4,5,6] (by decide)⟩))
  rintro ρ c0 H
  have c:=ba
  refine yN (b:=aj) rfl rfl rfl (fun Q=>?_) (fun Q=>?_)
  ·have c:=zS Q c
   refine yI ?_
   refine yI ?_
   refine zH (yL (v:= .bool true) rfl rfl) ?_
   obtain rfl:=someI c
   exact (zG (zA (meet ⟨(),(zL rfl zM),H.pick [0,1,2,3,4,5,6] (by decide)⟩)))
  have c:=zT Q c
  refine zJ (.int .i64 p) ?_
  obtain ⟨bd,be,c⟩:=zD c
  refine zH (zQ (Do_geq (a:=p) (b:=4194304) rfl rfl) be)<| zH (yJ (v:= .bool bd) rfl rfl) ?_
  obtain rfl:=someI c
  exact (zG (zA (meet ⟨(),(zL rfl zM),H.pick [0,1,2,3,4,5,6] (by decide)⟩)))
 rintro _ ρ c1 H
 have c:=a7
 refine zZ (b:=ai) rfl (fun R=>?_) (fun R=>?_)
 ·have c:=zS R c
  refine zC fun c2 bf=>zB ?_
  refine zK (.int .i64 9)<| (zG (zA (bf _ _ ?_)))
  obtain rfl:=someI c
  refine (zY (zV (post1 (v1:= .int .i64 9) rfl rfl ?_)))
  exact ⟨l,t,rfl,H.pick [0,1] (by decide)⟩
 have c:=zT R c
 refine (yA (zA (a6 _ _ ?_)))
 refine zC fun c3 bg=>?_
 refine zC fun c4 bh=>zB ?_
 refine zJ (.int .i64 p)<| zJ (.int .i64 m) ?_
 obtain ⟨bi,bj,c⟩:=zD c
 refine zH (Do_sub (a:=p) (b:=m) rfl rfl bj) ?_
 obtain ⟨bk,bl,c⟩:=zD c
 refine zH (xM (a:=bi) (b:=1) rfl rfl bl) ?_
 obtain ⟨bm,bn,c⟩:=zD c
 refine zH (zQ (Do_gtr (a:=bk) (b:=20000) rfl rfl) bn)<| (zG (zA (bh _ _ ?_)))
 refine zZ (b:=bm) rfl (fun T=>?_) (fun T=>?_)
 ·have c:=zS T c
  refine zC fun c5 bo=>zB ?_
  refine zK (.int .i64 3)<| (zG (zA (bo _ _ ?_)))
  obtain rfl:=someI c
  refine (zY (zV (post1 (v1:= .int .i64 3) rfl rfl ?_)))
  exact ⟨l,t,rfl,H.pick [0,1] (by decide)⟩
 have c:=zT T c
 refine (yA (zA (bg _ _ ?_)))
 refine zC fun c6 bp=>zB ?_
 refine zH (yS (yR (cs:=[v1,n,o]) agg26 rfl sz26 rfl (Blk.cells (H.item (i:=6) rfl))) rfl)<| zJ f ?_
 obtain ⟨q,bq,c⟩:=zF c
 refine yG rfl rfl (yC en74 rfl) (Faow j k v1 n o f _ bq _ _ _ (H.enter [] [2,3,4,5] (by decide) rfl)) ?_
 rintro _ br ⟨s,U,V,ak,X,al,Y,rfl,bt⟩
 have H:=H.back1 [2,3,4,5] rfl bt
 refine ⟨_,rfl,?_⟩
 refine zK (ptr0 s)<| (zG (zA (bp _ _ ?_)))
 have H:Hd O w br S [.tr (Rt.row (Rt.row (Rt.of (Rp.int .i64)) 3 []) 38 []) [l] t p4c0,.blk h [l] 28,.fz (.sl rTrack f k),.fz (.sl Rp.str U q.phases),.tr rowEM [V] ak q.moves,.tr rowNd [X] al q.rules,.fz (.sl Rp.bool Y q.possible),.blk s [U,.int .i64 q.tracks,V,X,Y] 146]:=H.pick [0,1,5,7,8,9,10,11] (by decide)
 obtain ⟨am,c,bu⟩:=zF c
 refine yK [13,39,40,41,42,43,44,45,46,47,48,49,50,51,52,53] (fun (g:Value×(List Nat))=>[]) (fun g wl=>Hd O w wl S [.blk h [g.1] 28,.tr (Rt.row (Rt.row (Rt.of (Rp.int .i64)) 3 []) 38 []) [g.1] g.2 am]) ?_ ?_
 ·skip
  refine zC fun c7 bv=>zB ?_
  refine zJ (.int .i64 m)<| zK (.int .i64 m)<| (zG (zA (bv _ _ ?_)))
  refine yH ?_
  unfold Fc0 at c
  obtain ⟨bw,an,bx,c⟩:=yX c
  refine xI [13,40,41,42,43,44,45,46,47,48,49,50,51,52,53] (fun (g:Nat×Int×(List (List Int))×(List Str)×Int×(List EventMove)×(List Nd)×(List Bool)×Value×(List Nat)×Value×Value×(List Nat)×Value×(List Nat)×Value)=>[(13,.int .i64 g.2.1)]) (fun g wl=>Hd O w wl S [.blk h [g.2.2.2.2.2.2.2.2.1] 28,.tr (Rt.row (Rt.row (Rt.of (Rp.int .i64)) 3 []) 38 []) [g.2.2.2.2.2.2.2.2.1] g.2.2.2.2.2.2.2.2.2.1 g.2.2.1,.fz (.sl rTrack f k),.blk s [g.2.2.2.2.2.2.2.2.2.2.1,.int .i64 g.2.2.2.2.1,g.2.2.2.2.2.2.2.2.2.2.2.1,g.2.2.2.2.2.2.2.2.2.2.2.2.2.1,g.2.2.2.2.2.2.2.2.2.2.2.2.2.2.2] 146,.fz (.sl Rp.str g.2.2.2.2.2.2.2.2.2.2.1 g.2.2.2.1),.tr rowEM [g.2.2.2.2.2.2.2.2.2.2.2.1] g.2.2.2.2.2.2.2.2.2.2.2.2.1 g.2.2.2.2.2.1,.tr rowNd [g.2.2.2.2.2.2.2.2.2.2.2.2.2.1] g.2.2.2.2.2.2.2.2.2.2.2.2.2.2.1 g.2.2.2.2.2.2.1,.fz (.sl Rp.bool g.2.2.2.2.2.2.2.2.2.2.2.2.2.2.2 g.2.2.2.2.2.2.2.1)]∧loopN bw g.1 (g.2.1,g.2.2.1,g.2.2.2.1,g.2.2.2.2.1,g.2.2.2.2.2.1,g.2.2.2.2.2.2.1,g.2.2.2.2.2.2.2.1)=some am) (fun g=>g.1) (an,m,p4c0,q.phases,q.tracks,q.moves,q.rules,q.possible,l,t,U,V,ak,X,al,Y) (zL rfl zM) ⟨H.pick [1,0,2,7,3,4,5,6] (by decide),c⟩ ?_
  clear H c
  rintro ⟨an,B,Z,D,bz,b0,b1,E,C,F,G,b2,b3,b4,b5,I⟩ ρ c8 ⟨H,c⟩
  obtain ⟨b6,rfl,c⟩:=xC c
  have c:=xB bx c
  refine zC fun c9 b7=>?_
  refine zC fun da b8=>zB ?_
  refine zJ (.int .i64 B)<| zJ (.int .i64 p) ?_
  obtain ⟨b9,ca,c⟩:=zD c
  refine zH (zQ (Do_leq (a:=B) (b:=p) rfl rfl) ca)<| (zG (zA (b8 _ _ ?_)))
  refine zZ (b:=b9) rfl (fun aa=>?_) (fun aa=>?_)
  ·have c:=zS aa c
   refine (yA (zA (b7 _ _ ?_)))
   refine zC fun db cb=>?_
   refine yH ?_
   refine zB ?_
   refine zJ (.func (.func 54) #[] #[ptr0 h])<| zJ (ptr0 s)<| zJ f<| zJ (.int .i64 B) ?_
   obtain ⟨J,cc,c⟩:=zF c
   refine yG rfl rfl (yC en77 rfl) (Faiw k B f _ cc _ _ _ (H.enter [] [2] (by decide) rfl)) ?_
   rintro _ dc ⟨K,rfl,cd⟩
   have H:=H.back1 [2] rfl cd
   refine ⟨_,rfl,?_⟩
   have H:=H.freeze (i:=8) rfl
   obtain ⟨⟨L,d⟩,ce,c⟩:=zF c
   refine yG rfl rfl (yC en78 rfl) (Fafw (EventWatch.mk D bz b0 b1 E) J s G b2 b3 b4 b5 I K _ ce _ _ _ (H.enter [5,6,3] [4,7,8] (by decide) rfl)) ?_
   rintro _ cf ⟨M,u,x,ao,y,ap,z,rfl,cg⟩
   have H:Hd _ _ cf _ [.blk h [C] 28,.tr (Rt.row (Rt.row (Rt.of (Rp.int .i64)) 3 []) 38 []) [C] F Z,.fz (.sl rTrack f k),.fz (.sl Rp.str G D),.fz (.sl Rp.bool I E),.fz (.sl rToldT K J),.own (Rp.int .i64) M 3 L,.fz (.sl Rp.str u d.phases),.tr rowEM [x] ao d.moves,.tr rowNd [y] ap d.rules,.fz (.sl Rp.bool z d.possible),.blk s [u,.int .i64 d.tracks,x,y,z] 146]:=H.back [5,6,3] [4,7,8] rfl cg
   refine ⟨_,rfl,?_⟩
   refine zJ (ptr0 s) ?_
   obtain ⟨ab,ch,c⟩:=zF c
   refine yG rfl rfl (yC en27 rfl) (Fagw (EventWatch.mk d.phases d.tracks d.moves d.rules d.possible) s u x ao y ap z _ ch _ _ _ (H.enter [8,9,11] [7,10] (by decide) rfl)) ?_
   rintro _ ci ⟨ac,ad,ae,rfl,cj⟩
   have H:Hd _ _ ci _ [.blk h [C] 28,.tr (Rt.row (Rt.row (Rt.of (Rp.int .i64)) 3 []) 38 []) [C] F Z,.fz (.sl rTrack f k),.fz (.sl Rp.str G D),.fz (.sl Rp.bool I E),.fz (.sl rToldT K J),.own (Rp.int .i64) M 3 L,.fz (.sl Rp.str u d.phases),.fz (.sl Rp.bool z d.possible),.own Rp.str ac 9 ab,.tr rowEM [x] ad d.moves,.tr rowNd [y] ae d.rules,.blk s [u,.int .i64 d.tracks,x,y,z] 146]:=H.back [8,9,11] [7,10] rfl cj
   refine ⟨_,rfl,?_⟩
   have H:=H.freeze (i:=6) rfl
   have H:=H.freeze (i:=9) rfl
   obtain ⟨aq,ck,c⟩:=zF c
   refine yG rfl rfl (DoC_clo en54 rfl rfl) (Fbkw L ab Z M ac h C F _ ck _ _ _ (H.enter [1,0] [6,9] (by decide) rfl)) ?_
   rintro _ cl ⟨af,ar,rfl,cm⟩
   have H:Hd _ _ cl _ [.fz (.sl rTrack f k),.fz (.sl Rp.str G D),.fz (.sl Rp.bool I E),.fz (.sl rToldT K J),.fz (.sl (Rp.int .i64) M L),.fz (.sl Rp.str u d.phases),.fz (.sl Rp.bool z d.possible),.fz (.sl Rp.str ac ab),.tr rowEM [x] ad d.moves,.tr rowNd [y] ae d.rules,.blk s [u,.int .i64 d.tracks,x,y,z] 146,.tr (Rt.row (Rt.row (Rt.of (Rp.int .i64)) 3 []) 38 []) [af] ar aq,.blk h [af] 28]:=H.back [1,0] [6,9] rfl cm
   refine ⟨_,rfl,?_⟩
   refine (zG (yP (zA (cb _ _ ?_))))
   refine zB ?_
   refine zJ (.int .i64 B) ?_
   obtain ⟨au,cn,c⟩:=zD c
   refine zH (xM (a:=B) (b:=1) rfl rfl cn)<| zK (.int .i64 au) ?_
   exact (zG (zA (meet ⟨(b6,au,aq,d.phases,d.tracks,d.moves,d.rules,d.possible,af,ar,u,x,ad,y,ae,z),(zL rfl zM),⟨H.pick [12,11,0,10,5,8,9,6] (by decide),c⟩,Nat.lt_succ_self _⟩)))
  have c:=zT aa c
  obtain rfl:=someI c
  exact (xO (yQ (yQ (yZ (zA (meet ⟨(C,F),zM,H.pick [0,1] (by decide)⟩))))))
 rintro ⟨co,cp⟩ ρ dd H
 have c:=bu
 refine zC fun de cq=>zB ?_
 refine zK (.int .i64 0)<| (zG (zA (cq _ _ ?_)))
 obtain rfl:=someI c
 refine (zY (post1 (v1:= .int .i64 0) rfl rfl ?_))
 exact ⟨co,cp,rfl,H.pick [1,0] (by decide)⟩
theorem Fcbw (d:Rules)(l:List Track)(m:Int)(n:Int)(v1:Value)(v2:Value)(f:Value)(j:Value)(r:(List (List Int))×Int)(c:Fcb d l m n=some r)(O S:List Nat)(w:World)(H:Hd O w w S [.fz (.sl Rp.str v1 d.Phases),.fz (.sl rMoveT v2 d.Moves),.fz (.sl rRule f d.Rules),.fz (.sl rTrack j l)]):
  Calls Tryz.prog 15 ([.agg [v1,v2,f].toArray,j,.int .i64 m,.int .i64 n]:List Value).toArray w fun e w'=> ∃u9,e= .returned (.tuple #[u9,.int .i64 r.2])∧Hd O w w' S [.fz (.sl (Rp.sl (Rp.int .i64)) u9 r.1)]:=by
 unfold Fcb at c
 refine zW 26 Tryz.func15 rfl rfl rfl ?_
 refine zC fun Q s=>zB ?_
 refine yY rfl rfl (xX (cs:=[v1,v2,f]) rfl H) ?_
 rintro _ T ⟨t,rfl,H⟩
 refine zK (.slice none 0 0)<| zK (.int .i64 0)<| (zG (zA (s _ _ ?_)))
 refine zC fun U u=>zB ?_
 refine zH (fa26_2 rfl)<| zH (zN one24 rfl (Cells.get (Blk.cells (H.item (i:=4) rfl)) (i:=2) rfl)) ?_
 obtain ⟨V,x,c⟩:=zD c
 obtain ⟨X,Y,y⟩:=SlF.len ((H.item (i:=2) rfl))
 refine zH (yS (xP u24 y) (congrArg (Value.int .i64) x)) ?_
 obtain ⟨z,A,c⟩:=zF c
 refine yY rfl rfl (Lx_makeT (R:=(Rt.row (Rt.of (Rp.int .i64)) 3 [])) u28 el38 rfl (fun _ _=>row_zero) rfl rfl A H) ?_
 rintro p Z ⟨B,H⟩
 refine yY rfl rfl (xQ zero28 H) ?_
 rintro _ aa ⟨q,rfl,H⟩
 refine xG rfl (wE H 6 rfl sz28 rfl (v:=p) rfl (tr_one (H.item (i:=5) rfl)) rfl) ?_
 rintro ab H
 refine (zG (zA (u _ _ ?_)))
 refine zC fun ac C=>zB ?_
 refine zH (yS (yR (cs:=[v1,v2,f]) agg26 rfl sz26 rfl (Blk.cells (H.item (i:=4) rfl))) rfl)<| zJ j<| zJ (.int .i64 m)<| zJ (.int .i64 n)<| zH (Do_makeFunc rfl) ?_
 obtain ⟨⟨h,D⟩,E,c⟩:=zF c
 refine yG rfl rfl (yC en53 rfl) (Fcrw d l m n z v1 v2 f j q p B _ E _ _ _ (H.enter [5,6] [0,1,2,3] (by decide) rfl)) ?_
 rintro _ F ⟨k,G,rfl,I⟩
 have H:Hd _ _ F _ [.fz (.sl Rp.str v1 d.Phases),.fz (.sl rMoveT v2 d.Moves),.fz (.sl rRule f d.Rules),.fz (.sl rTrack j l),.blk t [v1,v2,f] 26,.tr (Rt.row (Rt.row (Rt.of (Rp.int .i64)) 3 []) 38 []) [k] G D,.blk q [k] 28]:=H.back [5,6] [0,1,2,3] rfl I
 refine ⟨_,rfl,?_⟩
 refine zK (.int .i64 h)<| (zG (zA (C _ _ ?_)))
 refine zC fun ad J=>?_
 refine zC fun ae K=>zB ?_
 refine zJ (.int .i64 h) ?_
 obtain ⟨L,M,c⟩:=zD c
 refine zH (zQ (wH (a:=h) (b:=0) rfl rfl) M)<| (zG (zA (K _ _ ?_)))
 refine zZ (b:=L) rfl (fun o=>?_) (fun o=>?_)
 ·have c:=zS o c
  refine zC fun af N=>zB ?_
  refine zJ (.int .i64 h)<| zK (.slice none 0 0)<| zK (.int .i64 h)<| (zG (zA (N _ _ ?_)))
  have H:=H.fz (.sl (Rp.sl (Rp.int .i64)) (.slice none 0 0) []) SlF.nil
  obtain rfl:=someI c
  refine (zY (zV (post2 (v1:= .slice none 0 0) (v2:= .int .i64 h) rfl rfl rfl ?_)))
  exact ⟨.slice none 0 0,rfl,H.pick [7] (by decide)⟩
 have c:=zT o c
 refine (yA (zA (J _ _ ?_)))
 refine zC fun ag P=>zB ?_
 refine zH (zN one28 rfl (Cells.get (Blk.cells (H.item (i:=6) rfl)) (i:=0) rfl))<| zK k<| zK (.int .i64 0)<| (zG (zA (P _ _ ?_)))
 have H:=H.freezeT (fr_row fr_of) 5 rfl
 obtain rfl:=someI c
 refine (zY (post2 (v1:=k) (v2:= .int .i64 0) rfl rfl rfl ?_))
 exact ⟨k,rfl,H.pick [5] (by decide)⟩
theorem Fa3w (f:List Int)(c:List Str)(h:List (List Str))(j:Value)(b:Value)(d:Nat)(k:Value)(r:(List (List Str)))(a:Fa3 f c h=some r)(O S:List Nat)(w:World)(H:Hd O w w S [.own (Rp.sl Rp.str) k 22 h,.blk d [k] 41,.fz (.sl (Rp.int .i64) j f),.fz (.sl Rp.str b c)]):
  Calls Tryz.prog 55 ([j,b,ptr0 d]:List Value).toArray w fun e w'=> ∃u9,e= .returned (.tuple #[])∧Hd O w w' S [.own (Rp.sl Rp.str) u9 22 r,.blk d [u9] 41]:=by
 unfold Fa3 at a
 refine zW 9 Tryz.func55 rfl rfl rfl ?_
 refine zB ?_
 refine zH (zN one41 rfl (Cells.get (Blk.cells (H.item (i:=1) rfl)) (i:=0) rfl))<| zJ b ?_
 obtain ⟨o,m,a⟩:=zD a
 subst m
 refine yY rfl rfl (Lx_bs (r:=(Rp.sl Rp.str)) (xl:=[c]) (cs:=[b]) u41 el22 (by decide) (by decide) rfl (fillB_ones rfl rfl ⟨(slf_one (H.item (i:=3) rfl)),trivial⟩) H ⟨[b],[],rfl,⟨_,rfl,(H.item (i:=3) rfl)⟩,rfl⟩) ?_
 rintro p q H
 obtain ⟨s,n,a⟩:=zF a
 refine yY rfl rfl (Lx_app H (i:=0) rfl u41 el22 rfl rfl (Sr.of_own (H.item (i:=4) rfl)) n) ?_
 rintro l t H
 refine xG rfl (wE H 1 rfl sz41 rfl (v:=l) rfl (own_one (H.item (i:=0) rfl)) rfl) ?_
 rintro u H
 obtain rfl:=someI a
 refine (zG (post0n rfl ?_))
 exact ⟨l,rfl,H.pick [0,1] (by decide)⟩
end Go.Proofs.YtckmiljbaejijaaGreatDoor.L
