/- Walks: what each function computes, for every argument; no condition but those that stand in the statements. -/
import Derived.Test.YtckmiljbaejijaaGreatDoorUV0
namespace Go.Proofs.YtckmiljbaejijaaGreatDoor.L
open Go.RowKit Go.OB Go.Lf
set_option maxHeartbeats 4000000
set_option maxRecDepth 100000 in
theorem Feaw (d:Int)(l:List Int)(v1:Value)(r:(Arr 64 Int)×Int)(c:Fea d l=some r)(O S:List Nat)(w:World)(H:Hd O w w S [.fz (.sl (Rp.int .i64) v1 l),.fz (.at 1 0 ((Fl.arr 4 (Fl.int .u16)).f yT))]):
  Calls Tryz.prog 52 ([.int .i64 d,v1]:List Value).toArray w fun e w'=>e= .returned (.tuple #[.agg ((Fl.arr 64 (Fl.int .u16)).f r.1).toArray,.int .i64 r.2])∧Hd O w w' S []:=by
 unfold Fea at c
 refine zW 50 Tryz.func52 rfl rfl rfl ?_
 refine zC fun K4 N=>zB ?_
 refine yY rfl rfl (xQ zero98 H) ?_
 rintro _ w7 ⟨m,rfl,H⟩
 refine zK (.int .i64 0)<| (zG (zA (N _ _ ?_)))
 refine zC fun ca P=>?_
 obtain ⟨E,c,Q⟩:=zF c
 refine yK [9,10,11,12,13,14] (fun (g:Unit)=>[(14,.bool E)]) (fun g wl=>Hd O w wl S [.fz (.sl (Rp.int .i64) v1 l),.fz (.at 1 0 ((Fl.arr 4 (Fl.int .u16)).f yT)),.blk m ((Fl.arr 64 (Fl.int .u16)).f (Arr.rep 64 0:Arr 64 Int)) 98]) ?_ ?_
 ·skip
  refine zB ?_
  refine zJ (.int .i64 d) ?_
  obtain ⟨R,T,c⟩:=zD c
  refine zH (zQ (xR (a:=d) (b:=0) rfl rfl) T)<| yN (b:=R) rfl rfl rfl (fun p=>?_) (fun p=>?_)
  ·have c:=zS p c
   refine yI ?_
   refine yI ?_
   refine zH (yL (v:= .bool true) rfl rfl) ?_
   obtain rfl:=someI c
   exact (zG (zA (meet ⟨(),(zL rfl zM),H.pick [0,1,2] (by decide)⟩)))
  have c:=zT p c
  refine zJ (.int .i64 d) ?_
  obtain ⟨U,V,c⟩:=zD c
  refine zH (zQ (Do_geq (a:=d) (b:=4194304) rfl rfl) V)<| zH (yJ (v:= .bool U) rfl rfl) ?_
  obtain rfl:=someI c
  exact (zG (zA (meet ⟨(),(zL rfl zM),H.pick [0,1,2] (by decide)⟩)))
 rintro _ ρ cb H
 have c:=Q
 refine zZ (b:=E) rfl (fun s=>?_) (fun s=>?_)
 ·have c:=zS s c
  refine zC fun cc Y=>zB ?_
  refine zH (xW (cs:=(Fl.arr 64 (Fl.int .u16)).f (Arr.rep 64 0:Arr 64 Int)) bz98)<| xG rfl (Lx_storeW (e:=(Fl.arr 64 (Fl.int .u16))) (a:=(Arr.rep 64 0:Arr 64 Int)) (a':=(Arr.rep 64 0:Arr 64 Int)) H 2 rfl sz98 rfl rfl) ?_
  rintro cd H
  refine zK (.int .i64 9)<| (zG (zA (Y _ _ ?_)))
  obtain rfl:=someI c
  refine (zY (zV (postc1 (v1:= .int .i64 9) rfl rfl (xJ agg98 sz98 (Fl.len _ _) (Blk.cells (H.item (i:=2) rfl))) rfl ?_)))
  exact ⟨rfl,H.pick [] (by decide)⟩
 have c:=zT s c
 refine (yA (zA (P _ _ ?_)))
 refine zC fun ce Z=>?_
 refine zC fun cf aa=>zB ?_
 refine zJ v1 ?_
 obtain ⟨ab,ac,c⟩:=zD c
 obtain ⟨cg,ch,ad⟩:=SlF.len ((H.item (i:=0) rfl))
 refine zH (yS (xP u38 ad) (congrArg (Value.int .i64) ac)) ?_
 obtain ⟨ae,af,c⟩:=zD c
 refine zH (zQ (wH (a:=ab) (b:=58) rfl rfl) af)<| (zG (zA (aa _ _ ?_)))
 refine zZ (b:=ae) rfl (fun t=>?_) (fun t=>?_)
 ·have c:=zS t c
  refine zC fun ci ag=>zB ?_
  refine zH (xW (cs:=(Fl.arr 64 (Fl.int .u16)).f (Arr.rep 64 0:Arr 64 Int)) bz98)<| xG rfl (Lx_storeW (e:=(Fl.arr 64 (Fl.int .u16))) (a:=(Arr.rep 64 0:Arr 64 Int)) (a':=(Arr.rep 64 0:Arr 64 Int)) H 2 rfl sz98 rfl rfl) ?_
  rintro cj H
  refine zK (.int .i64 3)<| (zG (zA (ag _ _ ?_)))
  obtain rfl:=someI c
  refine (zY (zV (postc1 (v1:= .int .i64 3) rfl rfl (xJ agg98 sz98 (Fl.len _ _) (Blk.cells (H.item (i:=2) rfl))) rfl ?_)))
  exact ⟨rfl,H.pick [] (by decide)⟩
 have c:=zT t c
 refine (yA (zA (Z _ _ ?_)))
 refine zC fun ck ah=>zB ?_
 refine yY rfl rfl (xQ zero98 H) ?_
 rintro _ cl ⟨n,rfl,H⟩
 refine (zG (zA (ah _ _ ?_)))
 refine zC fun cm ai=>zB ?_
 refine zJ (.int .i64 d) ?_
 obtain ⟨aj,ak,c⟩:=zD c
 refine zH (Do_and (a:=d) (b:=2047) rfl rfl ak) ?_
 have al:=H
 obtain ⟨F,am,c⟩:=zF c
 refine yG rfl rfl (yC en116 rfl) (Fauw aj _ am _ _ _ (H.enter [] [] (by decide) rfl)) ?_
 rintro _ cn ⟨rfl,an⟩
 have H:=al.step (an.only:Only [] _ _)
 refine ⟨_,rfl,?_⟩
 refine zJ (.int .i64 d) ?_
 obtain ⟨ao,ap,c⟩:=zF c
 refine zH (Do_shr' (j:=d) (q:=11) rfl rfl ap) ?_
 have aq:=H
 obtain ⟨G,ar,c⟩:=zF c
 refine yG rfl rfl (yC en116 rfl) (Fauw ao _ ar _ _ _ (H.enter [] [] (by decide) rfl)) ?_
 rintro _ co ⟨rfl,au⟩
 have H:=aq.step (au.only:Only [] _ _)
 refine ⟨_,rfl,?_⟩
 obtain ⟨cp,u,c⟩:=zF c
 refine zH (Do_idxA (X:=(Arr.rep 64 0:Arr 64 Int)) u98 sz96 rfl rfl u) ?_
 obtain ⟨I,av,c⟩:=zD c
 refine xG rfl (Lx_storeA (e:=(Fl.int .u16)) (X:=(Arr.rep 64 0:Arr 64 Int)) (a:=F) (j:=1) H 3 rfl sz96 rfl (v:= .int .u16 F) rfl rfl (Arr.at_lt u).1 (Arr.at_lt u).2 av) ?_
 rintro cq H
 obtain ⟨cr,x,c⟩:=zF c
 refine zH (Do_idxA (X:=I) u98 sz96 rfl rfl x) ?_
 obtain ⟨aw,ax,c⟩:=zD c
 refine xG rfl (Lx_storeA (e:=(Fl.int .u16)) (X:=I) (a:=G) (j:=2) H 3 rfl sz96 rfl (v:= .int .u16 G) rfl rfl (Arr.at_lt x).1 (Arr.at_lt x).2 ax) ?_
 rintro ct H
 refine (zG (zA (ai _ _ ?_)))
 obtain ⟨ay,az,c⟩:=xZ c
 refine yK [5,7,8,28,29,30,31,32,33,34,35,36,37,38,39,40,41,42,43,44,45,46,47] (fun (g:(Arr 64 Int))=>[]) (fun g wl=>Hd O w wl S [.fz (.at 1 0 ((Fl.arr 4 (Fl.int .u16)).f yT)),.blk m ((Fl.arr 64 (Fl.int .u16)).f (Arr.rep 64 0:Arr 64 Int)) 98,.blk n ((Fl.arr 64 (Fl.int .u16)).f g) 98]∧ay g=some r) ?_ ?_
 ·skip
  refine zC fun cu a0=>zB ?_
  refine zJ v1 ?_
  obtain ⟨a1,a2,c⟩:=zD c
  obtain ⟨cv,cw,a3⟩:=SlF.len ((H.item (i:=0) rfl))
  refine zH (yS (xP u38 a3) (congrArg (Value.int .i64) a2))<| zJ (.int .i64 0)<| (zG (zA (a0 _ _ ?_)))
  refine yH ?_
  unfold Fe3 at c
  obtain ⟨a4,J,a5,c⟩:=yX c
  refine xI [5,7,8,30,31,32,33,34,35,36,37,38,39,40,41,42,43,44,45,46,47] (fun (g:Nat×Int×(Arr 64 Int))=>[(30,.int .i64 g.2.1)]) (fun g wl=>Hd O w wl S [.fz (.sl (Rp.int .i64) v1 l),.fz (.at 1 0 ((Fl.arr 4 (Fl.int .u16)).f yT)),.blk m ((Fl.arr 64 (Fl.int .u16)).f (Arr.rep 64 0:Arr 64 Int)) 98,.blk n ((Fl.arr 64 (Fl.int .u16)).f g.2.2) 98]∧loopN a4 g.1 (g.2.1,g.2.2)=some r) (fun g=>g.1) (J,0,aw) (zL rfl zM) ⟨H.pick [0,1,2,3] (by decide),c⟩ ?_
  clear H c
  rintro ⟨J,k,o⟩ ρ cx ⟨H,c⟩
  obtain ⟨a6,rfl,c⟩:=xC c
  have c:=xB a5 c
  refine zC fun cy a7=>zB ?_
  obtain ⟨a8,a9,c⟩:=zD c
  refine zH (zQ (xR (a:=k) (b:=a1) rfl rfl) a9)<| (zG (zA (a7 _ _ ?_)))
  refine zC fun cz ba=>?_
  refine zZ (b:=a8) rfl (fun y=>?_) (fun y=>?_)
  ·have c:=zS y c
   refine (yA (zA (ba _ _ ?_)))
   refine zC fun c0 bb=>?_
   refine yH ?_
   refine zC fun c1 bc=>zB ?_
   refine zJ (.int .i64 k) ?_
   obtain ⟨h,z,c⟩:=zF c
   obtain ⟨bd,be,c2,bf,bg,bh,bi,bj,bk⟩:=rd_at (H.item (i:=0) rfl) z
   obtain rfl:bf= [.int .i64 h]:=bh
   have H:=H.fz (.at bd (be+k.toNat * 1) _) ⟨bi,bj,bk⟩
   refine zH (xE u38 sz3 bg rfl (yE z).1 (yE z).2.1 rfl rfl)<| zH (zN one3 rfl (Cells.get (H.item (i:=4) rfl).2.2 (i:=0) rfl))<| zK (.int .i64 k)<| zK (.int .i64 h)<| (zG (zA (bc _ _ ?_)))
   refine zC fun c3 bl=>?_
   obtain ⟨K,c,bm⟩:=zF c
   refine yK [35,36,37,38,39,40] (fun (g:Unit)=>[(40,.bool K)]) (fun g wl=>Hd O w wl S [.fz (.sl (Rp.int .i64) v1 l),.fz (.at 1 0 ((Fl.arr 4 (Fl.int .u16)).f yT)),.blk m ((Fl.arr 64 (Fl.int .u16)).f (Arr.rep 64 0:Arr 64 Int)) 98,.blk n ((Fl.arr 64 (Fl.int .u16)).f o) 98]) ?_ ?_
   ·skip
    refine zB ?_
    refine zJ (.int .i64 h) ?_
    obtain ⟨bn,bo,c⟩:=zD c
    refine zH (zQ (xR (a:=h) (b:=0) rfl rfl) bo)<| yN (b:=bn) rfl rfl rfl (fun A=>?_) (fun A=>?_)
    ·have c:=zS A c
     refine yI ?_
     refine yI ?_
     refine zH (yL (v:= .bool true) rfl rfl) ?_
     obtain rfl:=someI c
     exact (zG (zA (meet ⟨(),(zL rfl zM),H.pick [0,1,2,3] (by decide)⟩)))
    have c:=zT A c
    refine zJ (.int .i64 h) ?_
    obtain ⟨bp,bq,c⟩:=zD c
    refine zH (zQ (Do_gtr (a:=h) (b:=2047) rfl rfl) bq)<| zH (yJ (v:= .bool bp) rfl rfl) ?_
    obtain rfl:=someI c
    exact (zG (zA (meet ⟨(),(zL rfl zM),H.pick [0,1,2,3] (by decide)⟩)))
   rintro _ ρ c4 H
   have c:=bm
   refine zZ (b:=K) rfl (fun B=>?_) (fun B=>?_)
   ·have c:=zS B c
    refine zC fun c5 br=>zB ?_
    refine zH (xW (cs:=(Fl.arr 64 (Fl.int .u16)).f (Arr.rep 64 0:Arr 64 Int)) bz98)<| xG rfl (Lx_storeW (e:=(Fl.arr 64 (Fl.int .u16))) (a:=(Arr.rep 64 0:Arr 64 Int)) (a':=(Arr.rep 64 0:Arr 64 Int)) H 2 rfl sz98 rfl rfl) ?_
    rintro c6 H
    refine zK (.int .i64 9)<| (zG (zA (br _ _ ?_)))
    obtain rfl:=someI c
    refine (zY (zV (yF (zV (zV (yF (zV (postc1 (v1:= .int .i64 9) rfl rfl (xJ agg98 sz98 (Fl.len _ _) (Blk.cells (H.item (i:=2) rfl))) rfl ?_))))))))
    exact ⟨rfl,H.pick [] (by decide)⟩
   have c:=zT B c
   refine (yA (zA (bl _ _ ?_)))
   refine zB ?_
   refine zJ (.int .i64 k) ?_
   obtain ⟨bt,bu,c⟩:=zD c
   refine zH (xM (a:=3) (b:=k) rfl rfl bu)<| zJ (.int .i64 h) ?_
   have bv:=H
   obtain ⟨L,bw,c⟩:=zF c
   refine yG rfl rfl (yC en116 rfl) (Fauw h _ bw _ _ _ (H.enter [] [] (by decide) rfl)) ?_
   rintro _ c7 ⟨rfl,bx⟩
   have H:=bv.step (bx.only:Only [] _ _)
   refine ⟨_,rfl,?_⟩
   obtain ⟨c8,C,c⟩:=zF c
   refine zH (Do_idxA (X:=o) u98 sz96 rfl rfl C) ?_
   obtain ⟨bz,b0,c⟩:=zD c
   refine xG rfl (Lx_storeA (e:=(Fl.int .u16)) (X:=o) (a:=L) (j:=bt) H 3 rfl sz96 rfl (v:= .int .u16 L) rfl rfl (Arr.at_lt C).1 (Arr.at_lt C).2 b0) ?_
   rintro c9 H
   refine (zG (yP (zA (bb _ _ ?_))))
   refine zB ?_
   obtain ⟨M,b1,c⟩:=zD c
   refine zH (xM (a:=k) (b:=1) rfl rfl b1)<| zJ (.int .i64 M) ?_
   exact (zG (zA (meet ⟨(a6,M,bz),(zL rfl zM),⟨H.pick [0,1,2,3] (by decide),c⟩,Nat.lt_succ_self _⟩)))
  have c:=zT y c
  exact (xO (yQ (yQ (yZ (zA (meet ⟨o,zM,⟨H.pick [1,2,3] (by decide),c⟩⟩))))))
 rintro b2 ρ da ⟨H,c⟩
 have c:=wJ az c
 refine zC fun db b3=>zB ?_
 obtain ⟨D,b4,c⟩:=zF c
 refine yG rfl rfl (yC en117 rfl) (Fd1w b2 n _ b4 _ _ _ (H.enter [2] [0] (by decide) rfl)) ?_
 rintro _ b5 ⟨rfl,b6⟩
 have H:Hd _ _ b5 _ [.fz (.at 1 0 ((Fl.arr 4 (Fl.int .u16)).f yT)),.blk m ((Fl.arr 64 (Fl.int .u16)).f (Arr.rep 64 0:Arr 64 Int)) 98,.blk n ((Fl.arr 64 (Fl.int .u16)).f D) 98]:=H.back [2] [0] rfl b6
 refine ⟨_,rfl,?_⟩
 refine (zG (zA (b3 _ _ ?_)))
 refine zC fun dc b7=>zB ?_
 refine zH (Do_loadF (e:=(Fl.arr 64 (Fl.int .u16))) (a:=D) agg98 rfl sz98 (Blk.cells (H.item (i:=2) rfl)))<| xG rfl (Lx_storeW (e:=(Fl.arr 64 (Fl.int .u16))) (a:=(Arr.rep 64 0:Arr 64 Int)) (a':=D) H 1 rfl sz98 rfl rfl) ?_
 rintro dd H
 refine zK (.int .i64 0)<| (zG (zA (b7 _ _ ?_)))
 obtain rfl:=someI c
 refine (zY (postc1 (v1:= .int .i64 0) rfl rfl (xJ agg98 sz98 (Fl.len _ _) (Blk.cells (H.item (i:=1) rfl))) rfl ?_))
 exact ⟨rfl,H.pick [] (by decide)⟩
set_option maxRecDepth 100000 in
theorem Fdrw (r:Bool)(c:Fdr=some r)(O S:List Nat)(w:World)(H:Hd O w w S [.fz (.at 1 0 ((Fl.arr 4 (Fl.int .u16)).f yT))]):
  Calls Tryz.prog 14 ([]:List Value).toArray w fun e w'=>e= .returned (.bool r)∧Hd O w w' S []:=by
 unfold Fdr at c
 refine zW 34 Tryz.func14 rfl rfl rfl ?_
 refine zC fun K2 K=>zB ?_
 refine zK (.bool false)<| (zG (zA (K _ _ ?_)))
 refine zC fun K3 L=>zB ?_
 obtain ⟨x4,M,c⟩:=zF c
 refine yY rfl rfl (Lx_make (r:=(Rp.int .i64)) (zv:= .int .i64 0) u38 el3 rfl (fun _ _=>rfl) rfl rfl M H) ?_
 rintro h w9 H
 refine zK h<| (zG (zA (L _ _ ?_)))
 refine zC fun au N=>zB ?_
 refine zJ h ?_
 obtain ⟨P,l,c⟩:=zF c
 obtain ⟨av,aw,Q,s,R,T⟩:=own_at (H.item (i:=1) rfl) l
 obtain rfl:Q= [.int .i64 P]:=R
 refine zH (xE u38 sz3 s rfl (yE l).1 (yE l).2.1 rfl rfl) ?_
 obtain ⟨k,U,c⟩:=zF c
 refine xG rfl (Lx_own_store (vs:=[.int .i64 5]) (off:=0) H 1 rfl s T rfl sz3 rfl rfl rfl (allone_mem ⟨rfl,trivial⟩) U (by decide) rfl rfl) ?_
 rintro ax H
 refine (zG (zA (N _ _ ?_)))
 refine zC fun ay V=>zB ?_
 refine zJ h ?_
 have Y:=H
 have H:=H.freeze (i:=1) rfl
 obtain ⟨⟨d,j⟩,Z,c⟩:=zF c
 refine yG rfl rfl (yC en52 rfl) (Feaw 2050 k h _ Z _ _ _ (H.enter [] [1,0] (by decide) rfl)) ?_
 rintro _ az ⟨rfl,aa⟩
 have H:=Y.step (aa.only:Only [] _ _)
 refine ⟨_,rfl,?_⟩
 refine zJ (.tuple #[.agg ((Fl.arr 64 (Fl.int .u16)).f d).toArray,.int .i64 j])<| zH (xY (v:= .agg ((Fl.arr 64 (Fl.int .u16)).f d).toArray) rfl rfl)<| zH (xY (v:= .int .i64 j) rfl rfl)<| yY rfl rfl (xQ zero98 H) ?_
 rintro _ a0 ⟨m,rfl,H⟩
 refine xG rfl (Lx_storeW (e:=(Fl.arr 64 (Fl.int .u16))) (a:=(Arr.rep 64 0:Arr 64 Int)) (a':=d) H 2 rfl sz98 rfl rfl) ?_
 rintro a1 H
 refine zK (.int .i64 j)<| (zG (zA (V _ _ ?_)))
 obtain ⟨t,c,ab⟩:=zF c
 refine yK [0,12,13,14,15,16,17,18,19,20,21,22,23,24,25,26,27,28,29,30,31,32,33] (fun (g:Unit)=>[(0,.bool t)]) (fun g wl=>Hd O w wl S [.fz (.at 1 0 ((Fl.arr 4 (Fl.int .u16)).f yT))]) ?_ ?_
 ·skip
  refine zB ?_
  refine zJ (.int .i64 j) ?_
  obtain ⟨ac,ad,c⟩:=zD c
  refine zH (zQ (xA (a:=j) (b:=0) rfl rfl) ad) ?_
  obtain ⟨u,c,ae⟩:=zF c
  refine RL_cutS 5 [14,15,16,17,18] [(18,.bool u)] (fun wl=>Hd O w wl S [.fz (.at 1 0 ((Fl.arr 4 (Fl.int .u16)).f yT)),.own (Rp.int .i64) h 3 k,.blk m ((Fl.arr 64 (Fl.int .u16)).f d) 98]) ?_ ?_
  ·skip
   refine yN (b:=ac) rfl rfl rfl (fun n=>?_) (fun n=>?_)
   ·have c:=zS n c
    obtain ⟨y,z,c⟩:=zF c
    refine zH (Do_idxA (X:=d) u98 sz96 rfl rfl z)<| zH (Do_load1 (v:= .int .u16 y) one96 rfl (Cells.ix (e:=(Fl.int .u16)) (x:=d) (Blk.cells (H.item (i:=2) rfl)) z)) ?_
    obtain ⟨af,ag,c⟩:=zD c
    refine zH (zQ (xA (a:=y) (b:=2631) rfl rfl) ag)<| zH (yL (v:= .bool af) rfl rfl) ?_
    obtain rfl:=someI c
    exact zG (zA (meet ⟨(zL rfl zM),H.pick [0,1,2] (by decide)⟩))
   have c:=zT n c
   refine yI ?_
   refine yI ?_
   refine yI ?_
   refine zH (yJ (v:= .bool false) rfl rfl) ?_
   obtain rfl:=someI c
   exact zG (zA (meet ⟨(zL rfl zM),H.pick [0,1,2] (by decide)⟩))
  rintro ρ a2 H
  have c:=ae
  obtain ⟨A,c,ah⟩:=zF c
  refine RL_cutS 5 [19,20,21,22,23] [(23,.bool A)] (fun wl=>Hd O w wl S [.fz (.at 1 0 ((Fl.arr 4 (Fl.int .u16)).f yT)),.own (Rp.int .i64) h 3 k,.blk m ((Fl.arr 64 (Fl.int .u16)).f d) 98]) ?_ ?_
  ·skip
   refine yN (b:=u) rfl rfl rfl (fun o=>?_) (fun o=>?_)
   ·have c:=zS o c
    obtain ⟨B,C,c⟩:=zF c
    refine zH (Do_idxA (X:=d) u98 sz96 rfl rfl C)<| zH (Do_load1 (v:= .int .u16 B) one96 rfl (Cells.ix (e:=(Fl.int .u16)) (x:=d) (Blk.cells (H.item (i:=2) rfl)) C)) ?_
    obtain ⟨ai,aj,c⟩:=zD c
    refine zH (zQ (xA (a:=B) (b:=2) rfl rfl) aj)<| zH (yL (v:= .bool ai) rfl rfl) ?_
    obtain rfl:=someI c
    exact zG (zA (meet ⟨(zL rfl zM),H.pick [0,1,2] (by decide)⟩))
   have c:=zT o c
   refine yI ?_
   refine yI ?_
   refine yI ?_
   refine zH (yJ (v:= .bool false) rfl rfl) ?_
   obtain rfl:=someI c
   exact zG (zA (meet ⟨(zL rfl zM),H.pick [0,1,2] (by decide)⟩))
  rintro ρ a3 H
  have c:=ah
  obtain ⟨D,c,ak⟩:=zF c
  refine RL_cutS 5 [24,25,26,27,28] [(28,.bool D)] (fun wl=>Hd O w wl S [.fz (.at 1 0 ((Fl.arr 4 (Fl.int .u16)).f yT)),.own (Rp.int .i64) h 3 k,.blk m ((Fl.arr 64 (Fl.int .u16)).f d) 98]) ?_ ?_
  ·skip
   refine yN (b:=A) rfl rfl rfl (fun p=>?_) (fun p=>?_)
   ·have c:=zS p c
    obtain ⟨E,F,c⟩:=zF c
    refine zH (Do_idxA (X:=d) u98 sz96 rfl rfl F)<| zH (Do_load1 (v:= .int .u16 E) one96 rfl (Cells.ix (e:=(Fl.int .u16)) (x:=d) (Blk.cells (H.item (i:=2) rfl)) F)) ?_
    obtain ⟨al,am,c⟩:=zD c
    refine zH (zQ (xA (a:=E) (b:=1) rfl rfl) am)<| zH (yL (v:= .bool al) rfl rfl) ?_
    obtain rfl:=someI c
    exact zG (zA (meet ⟨(zL rfl zM),H.pick [0,1,2] (by decide)⟩))
   have c:=zT p c
   refine yI ?_
   refine yI ?_
   refine yI ?_
   refine zH (yJ (v:= .bool false) rfl rfl) ?_
   obtain rfl:=someI c
   exact zG (zA (meet ⟨(zL rfl zM),H.pick [0,1,2] (by decide)⟩))
  rintro ρ a4 H
  have c:=ak
  refine yN (b:=D) rfl rfl rfl (fun q=>?_) (fun q=>?_)
  ·have c:=zS q c
   obtain ⟨G,I,c⟩:=zF c
   refine zH (Do_idxA (X:=d) u98 sz96 rfl rfl I)<| zH (Do_load1 (v:= .int .u16 G) one96 rfl (Cells.ix (e:=(Fl.int .u16)) (x:=d) (Blk.cells (H.item (i:=2) rfl)) I)) ?_
   obtain ⟨J,an,c⟩:=zD c
   refine zH (zQ (xA (a:=G) (b:=2053) rfl rfl) an)<| zH (yL (v:= .bool J) rfl rfl)<| zK (.bool J) ?_
   obtain rfl:=someI c
   exact (zG (zA (meet ⟨(),(zL rfl zM),H.pick [0] (by decide)⟩)))
  have c:=zT q c
  refine yI ?_
  refine yI ?_
  refine yI ?_
  refine zH (yJ (v:= .bool false) rfl rfl)<| zK (.bool false) ?_
  obtain rfl:=someI c
  exact (zG (zA (meet ⟨(),(zL rfl zM),H.pick [0] (by decide)⟩)))
 rintro _ ρ a5 H
 have c:=ab
 obtain rfl:=someI c
 refine (zY (post1 (v1:= .bool t) rfl rfl ?_))
 exact ⟨rfl,H.pick [] (by decide)⟩
theorem Fagw (d:EventWatch)(l:Nat)(j:Value)(f:Value)(n:List Nat)(h:Value)(o:List Nat)(k:Value)(r:(List Str))(c:Fag d=some r)(O S:List Nat)(w:World)(H:Hd O w w S [.tr rowEM [f] n d.moves,.tr rowNd [h] o d.rules,.blk l [j,.int .i64 d.tracks,f,h,k] 146,.fz (.sl Rp.str j d.phases),.fz (.sl Rp.bool k d.possible)]):
  Calls Tryz.prog 27 ([ptr0 l]:List Value).toArray w fun e w'=> ∃z F G,e= .returned (z)∧Hd O w w' S [.own Rp.str z 9 r,.tr rowEM [f] F d.moves,.tr rowNd [h] G d.rules,.blk l [j,.int .i64 d.tracks,f,h,k] 146]:=by
 unfold Fag at c
 refine zW 29 Tryz.func27 rfl rfl rfl ?_
 refine zC fun az I=>zB ?_
 refine zK (.slice none 0 0)<| (zG (zA (I _ _ ?_)))
 refine zC fun a0 J=>zB ?_
 refine zK (.slice none 0 0)<| (zG (zA (J _ _ ?_)))
 obtain ⟨A,c,K⟩:=zF c
 refine yK [3,4,5,6,7,8,9,10,11,12,13,14,15,16,17,18,19,20,21,22,23,24,25,26,27] (fun (g:Value)=>[(3,g)]) (fun g wl=>Hd O w wl S [.own Rp.str g 9 A,.tr rowEM [f] n d.moves,.tr rowNd [h] o d.rules,.blk l [j,.int .i64 d.tracks,f,h,k] 146,.fz (.sl Rp.str j d.phases),.fz (.sl Rp.bool k d.possible)]) ?_ ?_
 ·skip
  refine zC fun a1 L=>zB ?_
  refine zJ (ptr0 l)<| zH (yB rfl)<| zH (fa146_4 rfl)<| zH (zN one144 rfl (Cells.get (Blk.cells (H.item (i:=2) rfl)) (i:=4) rfl)) ?_
  obtain ⟨M,N,c⟩:=zD c
  obtain ⟨a2,a3,P⟩:=SlF.len ((H.item (i:=4) rfl))
  refine zH (yS (xP u144 P) (congrArg (Value.int .i64) N))<| zJ (.int .i64 0)<| (zG (zA (L _ _ ?_)))
  refine yH ?_
  have H:=own_nil H Rp.str 9
  unfold Fd7 at c
  obtain ⟨Q,B,R,c⟩:=yX c
  refine xI [3,4,5,11,12,13,14,15,16,17,18,19,20,21,22,23,24,25,26,27] (fun (g:Nat×(List Str)×Int×Value)=>[(3,g.2.2.2),(11,.int .i64 g.2.2.1)]) (fun g wl=>Hd O w wl S [.own Rp.str g.2.2.2 9 g.2.1,.tr rowEM [f] n d.moves,.tr rowNd [h] o d.rules,.blk l [j,.int .i64 d.tracks,f,h,k] 146,.fz (.sl Rp.str j d.phases),.fz (.sl Rp.bool k d.possible)]∧loopN Q g.1 (g.2.1,g.2.2.1)=some A) (fun g=>g.1) (B,[],0,.slice none 0 0) (zL rfl (zL rfl zM)) ⟨H.pick [5,0,1,2,3,4] (by decide),c⟩ ?_
  clear H c
  rintro ⟨B,a4,m,t⟩ ρ a5 ⟨H,c⟩
  obtain ⟨T,rfl,c⟩:=xC c
  have c:=xB R c
  refine zC fun a6 U=>zB ?_
  obtain ⟨V,X,c⟩:=zD c
  refine zH (zQ (xR (a:=m) (b:=M) rfl rfl) X)<| (zG (zA (U _ _ ?_)))
  refine zC fun a7 Y=>?_
  refine zZ (b:=V) rfl (fun u=>?_) (fun u=>?_)
  ·have c:=zS u c
   refine (yA (zA (Y _ _ ?_)))
   obtain ⟨C,c,Z⟩:=zF c
   refine yK [3,4,5,13,14,15,16,17,18,19,20,21,22,23,24,25,26] (fun (g:Value)=>[(3,g)]) (fun g wl=>Hd O w wl S [.own Rp.str g 9 C,.tr rowEM [f] n d.moves,.tr rowNd [h] o d.rules,.blk l [j,.int .i64 d.tracks,f,h,k] 146,.fz (.sl Rp.str j d.phases),.fz (.sl Rp.bool k d.possible)]) ?_ ?_
   ·skip
    refine yH ?_
    refine zC fun a8 aa=>zB ?_
    refine zJ (.int .i64 m) ?_
    obtain ⟨q,v,c⟩:=zF c
    obtain ⟨ab,ac,a9,ad,ae,af,ag,ah,ai⟩:=rd_at (H.item (i:=5) rfl) v
    obtain rfl:ad= [.bool q]:=af
    have H:=H.fz (.at ab (ac+m.toNat * 1) _) ⟨ag,ah,ai⟩
    refine zH (xE u144 sz4 ae rfl (yE v).1 (yE v).2.1 rfl rfl)<| zH (zN one4 rfl (Cells.get (H.item (i:=6) rfl).2.2 (i:=0) rfl))<| zK (.int .i64 m)<| zK (.bool q)<| (zG (zA (aa _ _ ?_)))
    refine zC fun ba aj=>zB ?_
    refine zJ (.bool q)<| (zG (zA (aj _ _ ?_)))
    refine zZ (b:=q) rfl (fun x=>?_) (fun x=>?_)
    ·have c:=zS x c
     refine zB ?_
     refine zJ t<| zJ (ptr0 l)<| zH (yB rfl)<| zH (fa146_0 rfl)<| zH (zN one22 rfl (Cells.get (Blk.cells (H.item (i:=3) rfl)) (i:=0) rfl))<| zJ (.int .i64 m) ?_
     obtain ⟨p,y,c⟩:=zF c
     obtain ⟨ak,al,bb,am,an,ao,ap,aq,ar⟩:=rd_at (H.item (i:=4) rfl) y
     obtain rfl:am= [.string (bs p)]:=ao
     have H:=H.fz (.at ak (al+m.toNat * 1) _) ⟨ap,aq,ar⟩
     refine zH (xE u22 sz9 an rfl (yE y).1 (yE y).2.1 rfl rfl)<| zH (zN one9 rfl (Cells.get (H.item (i:=7) rfl).2.2 (i:=0) rfl)) ?_
     obtain ⟨bc,au,c⟩:=zD c
     subst au
     refine yY rfl rfl (Lx_bs (r:=Rp.str) (xl:=[p]) (cs:=[.string (bs p)]) u22 el9 (by decide) (by decide) rfl (wC (vs:=[.string (bs p)]) (by decide) rfl rfl ⟨rfl,trivial⟩ rfl) H ⟨[.string (bs p)],[],rfl,rfl,rfl⟩) ?_
     rintro bd be H
     obtain ⟨bf,av,c⟩:=zF c
     refine yY rfl rfl (Lx_app H (i:=0) rfl u22 el9 rfl rfl (Sr.of_own (H.item (i:=8) rfl)) av) ?_
     rintro D bg H
     refine zK D ?_
     obtain rfl:=someI c
     exact (zG (yP (zA (meet ⟨D,(zL rfl zM),H.pick [0,1,2,3,4,5] (by decide)⟩))))
    have c:=zT x c
    obtain rfl:=someI c
    exact (yA (yP (zA (meet ⟨t,(zL rfl zM),H.pick [0,1,2,3,4,5] (by decide)⟩))))
   rintro aw ρ bh H
   have c:=Z
   refine zB ?_
   obtain ⟨E,ax,c⟩:=zD c
   refine zH (xM (a:=m) (b:=1) rfl rfl ax)<| zJ (.int .i64 E) ?_
   exact (zG (zA (meet ⟨(T,C,E,aw),(zL rfl (zL rfl zM)),⟨H.pick [0,1,2,3,4,5] (by decide),c⟩,Nat.lt_succ_self _⟩)))
  have c:=zT u c
  obtain rfl:=someI c
  exact (xO (yQ (yQ (yZ (zA (meet ⟨t,(zL rfl zM),H.pick [0,1,2,3,4,5] (by decide)⟩))))))
 rintro s ρ bi H
 have c:=K
 refine zC fun bj ay=>zB ?_
 refine zJ s<| zK s<| (zG (zA (ay _ _ ?_)))
 obtain rfl:=someI c
 refine (zY (post1 (v1:=s) rfl rfl ?_))
 exact ⟨s,n,o,rfl,H.pick [0,1,2,3] (by decide)⟩
set_option maxRecDepth 100000 in
theorem Fbtw (d:Int)(r:Bool)(c:Fbt d=some r)(O S:List Nat)(w:World)(H:Hd O w w S []):
  Calls Tryz.prog 145 ([.int .u8 d]:List Value).toArray w fun e w'=>e= .returned (.bool r)∧Hd O w w' S []:=by
 unfold Fbt at c
 refine zW 21 Tryz.func145 rfl rfl rfl ?_
 refine zC fun E p=>zB ?_
 refine zK (.bool false)<| (zG (zA (p _ _ ?_)))
 obtain ⟨k,c,q⟩:=zF c
 refine yK [2,3,4,5,6,7,8,9,10,11,12,13,14,15,16,17,18,19,20] (fun (g:Unit)=>[(2,.bool k)]) (fun g wl=>Hd O w wl S []) ?_ ?_
 ·skip
  refine zB ?_
  refine zJ (.int .u8 d) ?_
  obtain ⟨s,t,c⟩:=zD c
  refine zH (zQ (Do_geq (a:=d) (b:=97) rfl rfl) t) ?_
  obtain ⟨l,c,u⟩:=zF c
  refine RL_cutS 4 [5,6,7,8] [(8,.bool l)] (fun wl=>Hd O w wl S []) ?_ ?_
  ·skip
   refine yN (b:=s) rfl rfl rfl (fun f=>?_) (fun f=>?_)
   ·have c:=zS f c
    refine zJ (.int .u8 d) ?_
    obtain ⟨x,y,c⟩:=zD c
    refine zH (zQ (Do_leq (a:=d) (b:=122) rfl rfl) y)<| zH (yL (v:= .bool x) rfl rfl) ?_
    obtain rfl:=someI c
    exact zG (zA (meet ⟨(zL rfl zM),H.pick [] (by decide)⟩))
   have c:=zT f c
   refine yI ?_
   refine yI ?_
   refine zH (yJ (v:= .bool false) rfl rfl) ?_
   obtain rfl:=someI c
   exact zG (zA (meet ⟨(zL rfl zM),H.pick [] (by decide)⟩))
  rintro ρ F H
  have c:=u
  obtain ⟨m,c,z⟩:=zF c
  refine RL_cutS 8 [9,10,11,12,13,14,15,16] [(16,.bool m)] (fun wl=>Hd O w wl S []) ?_ ?_
  ·skip
   refine yN (b:=l) rfl rfl rfl (fun h=>?_) (fun h=>?_)
   ·have c:=zS h c
    refine yI ?_
    refine yI ?_
    refine yI ?_
    refine yI ?_
    refine yI ?_
    refine yI ?_
    refine zH (yL (v:= .bool true) rfl rfl) ?_
    obtain rfl:=someI c
    exact zG (zA (meet ⟨(zL rfl zM),H.pick [] (by decide)⟩))
   have c:=zT h c
   refine zJ (.int .u8 d) ?_
   obtain ⟨A,B,c⟩:=zD c
   refine zH (zQ (Do_geq (a:=d) (b:=48) rfl rfl) B)<| yN (b:=A) rfl rfl rfl (fun i=>?_) (fun i=>?_)
   ·have c:=zS i c
    refine zJ (.int .u8 d) ?_
    obtain ⟨n,C,c⟩:=zD c
    refine zH (zQ (Do_leq (a:=d) (b:=57) rfl rfl) C)<| zH (yL (v:= .bool n) rfl rfl)<| zH (yJ (v:= .bool n) rfl rfl) ?_
    obtain rfl:=someI c
    exact zG (zA (meet ⟨(zL rfl zM),H.pick [] (by decide)⟩))
   have c:=zT i c
   refine yI ?_
   refine yI ?_
   refine zH (yJ (v:= .bool false) rfl rfl)<| zH (yJ (v:= .bool false) rfl rfl) ?_
   obtain rfl:=someI c
   exact zG (zA (meet ⟨(zL rfl zM),H.pick [] (by decide)⟩))
  rintro ρ G H
  have c:=z
  refine yN (b:=m) rfl rfl rfl (fun j=>?_) (fun j=>?_)
  ·have c:=zS j c
   refine yI ?_
   refine yI ?_
   refine zH (yL (v:= .bool true) rfl rfl)<| zK (.bool true) ?_
   obtain rfl:=someI c
   exact (zG (zA (meet ⟨(),(zL rfl zM),H.pick [] (by decide)⟩)))
  have c:=zT j c
  refine zJ (.int .u8 d) ?_
  obtain ⟨o,D,c⟩:=zD c
  refine zH (zQ (xA (a:=d) (b:=45) rfl rfl) D)<| zH (yJ (v:= .bool o) rfl rfl)<| zK (.bool o) ?_
  obtain rfl:=someI c
  exact (zG (zA (meet ⟨(),(zL rfl zM),H.pick [] (by decide)⟩)))
 rintro _ ρ I H
 have c:=q
 obtain rfl:=someI c
 refine (zY (post1 (v1:= .bool k) rfl rfl ?_))
 exact ⟨rfl,H.pick [] (by decide)⟩
set_option maxRecDepth 100000 in
theorem Fcow (c:Str)(r:Bool)(a:Fco c=some r)(O S:List Nat)(w:World)(H:Hd O w w S []):
  Calls Tryz.prog 144 ([.string (bs c)]:List Value).toArray w fun e w'=>e= .returned (.bool r)∧Hd O w w' S []:=by
 unfold Fco at a
 refine zW 21 Tryz.func144 rfl rfl rfl ?_
 refine zC fun K1 P=>zB ?_
 refine zK (.bool false)<| (zG (zA (P _ _ ?_)))
 refine zC fun a6 Q=>?_
 refine zC fun a7 R=>zB ?_
 refine zJ (.string (bs c))<| (zG (zA (R _ _ ?_)))
 refine yH ?_
 obtain ⟨x,a,T⟩:=zF a
 refine yK [4,5,6,7,8,9,10,11,12,13,14,15,16,17,18,19,20] (fun (g:Unit)=>[(4,.bool x)]) (fun g wl=>Hd O w wl S []) ?_ ?_
 ·skip
  refine zC fun a8 U=>zB ?_
  obtain ⟨y,V,a⟩:=zD a
  refine zH (zQ (Do_eqls (s1:=c) (s2:=[112,104,97,115,101]) rfl rfl) V)<| zK (.bool y)<| (zG (zA (U _ _ ?_)))
  refine zZ (b:=y) rfl (fun d=>?_) (fun d=>?_)
  ·have a:=zS d a
   obtain rfl:=someI a
   exact (yA (zA (meet ⟨(),(zL rfl zM),H.pick [] (by decide)⟩)))
  have a:=zT d a
  refine zC fun a9 X=>zB ?_
  obtain ⟨z,Y,a⟩:=zD a
  refine zH (zQ (Do_eqls (s1:=c) (s2:=[109,111,118,101]) rfl rfl) Y)<| zK (.bool z)<| (zG (zA (X _ _ ?_)))
  refine zZ (b:=z) rfl (fun f=>?_) (fun f=>?_)
  ·have a:=zS f a
   obtain rfl:=someI a
   exact (yA (zA (meet ⟨(),(zL rfl zM),H.pick [] (by decide)⟩)))
  have a:=zT f a
  refine zC fun ba Z=>zB ?_
  obtain ⟨A,aa,a⟩:=zD a
  refine zH (zQ (Do_eqls (s1:=c) (s2:=[114,117,108,101]) rfl rfl) aa)<| zK (.bool A)<| (zG (zA (Z _ _ ?_)))
  refine zZ (b:=A) rfl (fun h=>?_) (fun h=>?_)
  ·have a:=zS h a
   obtain rfl:=someI a
   exact (yA (zA (meet ⟨(),(zL rfl zM),H.pick [] (by decide)⟩)))
  have a:=zT h a
  refine zC fun bb ab=>zB ?_
  obtain ⟨B,ac,a⟩:=zD a
  refine zH (zQ (Do_eqls (s1:=c) (s2:=[105,102]) rfl rfl) ac)<| zK (.bool B)<| (zG (zA (ab _ _ ?_)))
  refine zZ (b:=B) rfl (fun i=>?_) (fun i=>?_)
  ·have a:=zS i a
   obtain rfl:=someI a
   exact (yA (zA (meet ⟨(),(zL rfl zM),H.pick [] (by decide)⟩)))
  have a:=zT i a
  refine zC fun bc ad=>zB ?_
  obtain ⟨C,ae,a⟩:=zD a
  refine zH (zQ (Do_eqls (s1:=c) (s2:=[111,114]) rfl rfl) ae)<| zK (.bool C)<| (zG (zA (ad _ _ ?_)))
  refine zZ (b:=C) rfl (fun j=>?_) (fun j=>?_)
  ·have a:=zS j a
   obtain rfl:=someI a
   exact (yA (zA (meet ⟨(),(zL rfl zM),H.pick [] (by decide)⟩)))
  have a:=zT j a
  refine zC fun bd af=>zB ?_
  obtain ⟨D,ag,a⟩:=zD a
  refine zH (zQ (Do_eqls (s1:=c) (s2:=[97,110,100]) rfl rfl) ag)<| zK (.bool D)<| (zG (zA (af _ _ ?_)))
  refine zZ (b:=D) rfl (fun k=>?_) (fun k=>?_)
  ·have a:=zS k a
   obtain rfl:=someI a
   exact (yA (zA (meet ⟨(),(zL rfl zM),H.pick [] (by decide)⟩)))
  have a:=zT k a
  refine zC fun be ah=>zB ?_
  obtain ⟨E,ai,a⟩:=zD a
  refine zH (zQ (Do_eqls (s1:=c) (s2:=[116,114,117,101]) rfl rfl) ai)<| zK (.bool E)<| (zG (zA (ah _ _ ?_)))
  refine zZ (b:=E) rfl (fun l=>?_) (fun l=>?_)
  ·have a:=zS l a
   obtain rfl:=someI a
   exact (yA (zA (meet ⟨(),(zL rfl zM),H.pick [] (by decide)⟩)))
  have a:=zT l a
  refine zC fun bf aj=>zB ?_
  obtain ⟨F,ak,a⟩:=zD a
  refine zH (zQ (Do_eqls (s1:=c) (s2:=[102,97,108,115,101]) rfl rfl) ak)<| zK (.bool F)<| (zG (zA (aj _ _ ?_)))
  refine zZ (b:=F) rfl (fun m=>?_) (fun m=>?_)
  ·have a:=zS m a
   obtain rfl:=someI a
   exact (yA (zA (meet ⟨(),(zL rfl zM),H.pick [] (by decide)⟩)))
  have a:=zT m a
  refine zC fun bg al=>zB ?_
  obtain ⟨G,am,a⟩:=zD a
  refine zH (zQ (Do_eqls (s1:=c) (s2:=[115,116,101,97,100,121]) rfl rfl) am)<| zK (.bool G)<| (zG (zA (al _ _ ?_)))
  refine zZ (b:=G) rfl (fun n=>?_) (fun n=>?_)
  ·have a:=zS n a
   obtain rfl:=someI a
   exact (yA (zA (meet ⟨(),(zL rfl zM),H.pick [] (by decide)⟩)))
  have a:=zT n a
  refine zC fun bh an=>zB ?_
  obtain ⟨I,ao,a⟩:=zD a
  refine zH (zQ (Do_eqls (s1:=c) (s2:=[110,111,116]) rfl rfl) ao)<| zK (.bool I)<| (zG (zA (an _ _ ?_)))
  refine zZ (b:=I) rfl (fun o=>?_) (fun o=>?_)
  ·have a:=zS o a
   obtain rfl:=someI a
   exact (yA (zA (meet ⟨(),(zL rfl zM),H.pick [] (by decide)⟩)))
  have a:=zT o a
  refine zC fun bi ap=>zB ?_
  obtain ⟨J,aq,a⟩:=zD a
  refine zH (zQ (Do_eqls (s1:=c) (s2:=[102,111,114]) rfl rfl) aq)<| zK (.bool J)<| (zG (zA (ap _ _ ?_)))
  refine zZ (b:=J) rfl (fun p=>?_) (fun p=>?_)
  ·have a:=zS p a
   obtain rfl:=someI a
   exact (yA (zA (meet ⟨(),(zL rfl zM),H.pick [] (by decide)⟩)))
  have a:=zT p a
  refine zC fun bj ar=>zB ?_
  obtain ⟨K,au,a⟩:=zD a
  refine zH (zQ (Do_eqls (s1:=c) (s2:=[119,105,116,104,105,110]) rfl rfl) au)<| zK (.bool K)<| (zG (zA (ar _ _ ?_)))
  refine zZ (b:=K) rfl (fun q=>?_) (fun q=>?_)
  ·have a:=zS q a
   obtain rfl:=someI a
   exact (yA (zA (meet ⟨(),(zL rfl zM),H.pick [] (by decide)⟩)))
  have a:=zT q a
  refine zC fun bk av=>zB ?_
  obtain ⟨L,aw,a⟩:=zD a
  refine zH (zQ (Do_eqls (s1:=c) (s2:=[99,111,117,110,116]) rfl rfl) aw)<| zK (.bool L)<| (zG (zA (av _ _ ?_)))
  refine zZ (b:=L) rfl (fun s=>?_) (fun s=>?_)
  ·have a:=zS s a
   obtain rfl:=someI a
   exact (yA (zA (meet ⟨(),(zL rfl zM),H.pick [] (by decide)⟩)))
  have a:=zT s a
  refine zC fun bl ax=>zB ?_
  obtain ⟨M,ay,a⟩:=zD a
  refine zH (zQ (Do_eqls (s1:=c) (s2:=[111,102]) rfl rfl) ay)<| zK (.bool M)<| (zG (zA (ax _ _ ?_)))
  refine zZ (b:=M) rfl (fun t=>?_) (fun t=>?_)
  ·have a:=zS t a
   obtain rfl:=someI a
   exact (yA (zA (meet ⟨(),(zL rfl zM),H.pick [] (by decide)⟩)))
  have a:=zT t a
  refine zC fun bm az=>zB ?_
  obtain ⟨N,a0,a⟩:=zD a
  refine zH (zQ (Do_eqls (s1:=c) (s2:=[114,105,115,101,115]) rfl rfl) a0)<| zK (.bool N)<| (zG (zA (az _ _ ?_)))
  refine zZ (b:=N) rfl (fun u=>?_) (fun u=>?_)
  ·have a:=zS u a
   obtain rfl:=someI a
   exact (yA (zA (meet ⟨(),(zL rfl zM),H.pick [] (by decide)⟩)))
  have a:=zT u a
  refine zB ?_
  obtain ⟨a1,a2,a⟩:=zD a
  refine zH (zQ (Do_eqls (s1:=c) (s2:=[115,105,110,99,101]) rfl rfl) a2)<| zK (.bool a1) ?_
  obtain rfl:=someI a
  exact (zG (zA (meet ⟨(),(zL rfl zM),H.pick [] (by decide)⟩)))
 rintro _ ρ bn H
 have a:=T
 refine zZ (b:=x) rfl (fun v=>?_) (fun v=>?_)
 ·have a:=zS v a
  refine zC fun bo a3=>zB ?_
  refine zK (.bool true)<| (zG (zA (a3 _ _ ?_)))
  obtain rfl:=someI a
  refine (zY (yF (zV (post1 (v1:= .bool true) rfl rfl ?_))))
  exact ⟨rfl,H.pick [] (by decide)⟩
 have a:=zT v a
 refine (yA (yP (zA (Q _ _ ?_))))
 refine zC fun bp a4=>zB ?_
 refine zK (.bool false)<| (zG (zA (a4 _ _ ?_)))
 obtain rfl:=someI a
 refine (zY (post1 (v1:= .bool false) rfl rfl ?_))
 exact ⟨rfl,H.pick [] (by decide)⟩
theorem Faew (d:Int)(f:Int)(h:Int)(r:Bool)(c:Fae d f h=some r)(O S:List Nat)(w:World)(H:Hd O w w S []):
  Calls Tryz.prog 76 ([.int .i64 d,.int .i64 f,.int .i64 h]:List Value).toArray w fun e w'=>e= .returned (.bool r)∧Hd O w w' S []:=by
 unfold Fae at c
 refine zW 15 Tryz.func76 rfl rfl rfl ?_
 refine zC fun q l=>zB ?_
 refine zK (.bool false)<| (zG (zA (l _ _ ?_)))
 obtain ⟨j,c,m⟩:=zF c
 refine yK [6,7,8,9,10,11,12,13,14] (fun (g:Unit)=>[(6,.bool j)]) (fun g wl=>Hd O w wl S []) ?_ ?_
 ·skip
  refine zB ?_
  refine zJ (.int .i64 d)<| zJ (.int .i64 f) ?_
  obtain ⟨n,o,c⟩:=zD c
  refine zH (zQ (Do_geq (a:=d) (b:=f) rfl rfl) o)<| yN (b:=n) rfl rfl rfl (fun i=>?_) (fun i=>?_)
  ·have c:=zS i c
   refine zJ (.int .i64 d)<| zJ (.int .i64 h) ?_
   obtain ⟨k,p,c⟩:=zD c
   refine zH (zQ (Do_leq (a:=d) (b:=h) rfl rfl) p)<| zH (yL (v:= .bool k) rfl rfl)<| zK (.bool k) ?_
   obtain rfl:=someI c
   exact (zG (zA (meet ⟨(),(zL rfl zM),H.pick [] (by decide)⟩)))
  have c:=zT i c
  refine yI ?_
  refine yI ?_
  refine yI ?_
  refine zH (yJ (v:= .bool false) rfl rfl)<| zK (.bool false) ?_
  obtain rfl:=someI c
  exact (zG (zA (meet ⟨(),(zL rfl zM),H.pick [] (by decide)⟩)))
 rintro _ ρ s H
 have c:=m
 obtain rfl:=someI c
 refine (zY (post1 (v1:= .bool j) rfl rfl ?_))
 exact ⟨rfl,H.pick [] (by decide)⟩
set_option maxRecDepth 100000 in
theorem Fakw (d:Str)(r:Bool)(c:Fak d=some r)(O S:List Nat)(w:World)(H:Hd O w w S []):
  Calls Tryz.prog 86 ([.string (bs d)]:List Value).toArray w fun e w'=>e= .returned (.bool r)∧Hd O w w' S []:=by
 unfold Fak at c
 refine zW 33 Tryz.func86 rfl rfl rfl ?_
 refine zC fun K1 x=>zB ?_
 refine zK (.bool false)<| (zG (zA (x _ _ ?_)))
 refine zC fun a4 y=>?_
 obtain ⟨n,c,z⟩:=zF c
 refine yK [4,5,6,7,8,9,10,11,12,13,14,15,16,17,18,19,20,21] (fun (g:Unit)=>[(21,.bool n)]) (fun g wl=>Hd O w wl S []) ?_ ?_
 ·skip
  refine zB ?_
  refine zJ (.string (bs d)) ?_
  obtain ⟨A,B,c⟩:=zD c
  refine zH (yS (Do_slen (s1:=d) u9 rfl) (congrArg (Value.int .i64) B)) ?_
  have C:=H
  obtain ⟨D,E,c⟩:=zF c
  refine yG rfl rfl (yC en76 rfl) (Faew A 1 30 _ E _ _ _ (H.enter [] [] (by decide) rfl)) ?_
  rintro _ a5 ⟨rfl,F⟩
  have H:=C.step (F.only:Only [] _ _)
  refine ⟨_,rfl,?_⟩
  obtain ⟨G,I,c⟩:=zD c
  refine zH (zQ (wI (p:=D) rfl) I) ?_
  obtain ⟨o,c,J⟩:=zF c
  refine RL_cutS 5 [8,9,10,11,12] [(12,.bool o)] (fun wl=>Hd O w wl S []) ?_ ?_
  ·skip
   refine yN (b:=G) rfl rfl rfl (fun h=>?_) (fun h=>?_)
   ·have c:=zS h c
    refine yI ?_
    refine yI ?_
    refine yI ?_
    refine zH (yL (v:= .bool true) rfl rfl) ?_
    obtain rfl:=someI c
    exact zG (zA (meet ⟨(zL rfl zM),H.pick [] (by decide)⟩))
   have c:=zT h c
   refine zJ (.string (bs d)) ?_
   obtain ⟨K,L,c⟩:=zF c
   refine zH (Do_sidx (s1:=d) (q:=0) u9 rfl rfl L) ?_
   obtain ⟨M,N,c⟩:=zD c
   refine zH (zQ (xR (a:=K) (b:=97) rfl rfl) N)<| zH (yJ (v:= .bool M) rfl rfl) ?_
   obtain rfl:=someI c
   exact zG (zA (meet ⟨(zL rfl zM),H.pick [] (by decide)⟩))
  rintro ρ a6 H
  have c:=J
  obtain ⟨s,c,P⟩:=zF c
  refine RL_cutS 5 [13,14,15,16,17] [(17,.bool s)] (fun wl=>Hd O w wl S []) ?_ ?_
  ·skip
   refine yN (b:=o) rfl rfl rfl (fun i=>?_) (fun i=>?_)
   ·have c:=zS i c
    refine yI ?_
    refine yI ?_
    refine yI ?_
    refine zH (yL (v:= .bool true) rfl rfl) ?_
    obtain rfl:=someI c
    exact zG (zA (meet ⟨(zL rfl zM),H.pick [] (by decide)⟩))
   have c:=zT i c
   refine zJ (.string (bs d)) ?_
   obtain ⟨Q,R,c⟩:=zF c
   refine zH (Do_sidx (s1:=d) (q:=0) u9 rfl rfl R) ?_
   obtain ⟨T,U,c⟩:=zD c
   refine zH (zQ (Do_gtr (a:=Q) (b:=122) rfl rfl) U)<| zH (yJ (v:= .bool T) rfl rfl) ?_
   obtain rfl:=someI c
   exact zG (zA (meet ⟨(zL rfl zM),H.pick [] (by decide)⟩))
  rintro ρ a7 H
  have c:=P
  refine yN (b:=s) rfl rfl rfl (fun j=>?_) (fun j=>?_)
  ·have c:=zS j c
   refine yI ?_
   refine yI ?_
   refine zH (yL (v:= .bool true) rfl rfl) ?_
   obtain rfl:=someI c
   exact (zG (zA (meet ⟨(),(zL rfl zM),H.pick [] (by decide)⟩)))
  have c:=zT j c
  refine zJ (.string (bs d)) ?_
  have V:=H
  obtain ⟨X,Y,c⟩:=zF c
  refine yG rfl rfl (yC en144 rfl) (Fcow d _ Y _ _ _ (H.enter [] [] (by decide) rfl)) ?_
  rintro _ a8 ⟨rfl,Z⟩
  have H:=V.step (Z.only:Only [] _ _)
  refine ⟨_,rfl,?_⟩
  refine zH (yJ (v:= .bool X) rfl rfl) ?_
  obtain rfl:=someI c
  exact (zG (zA (meet ⟨(),(zL rfl zM),H.pick [] (by decide)⟩)))
 rintro _ ρ a9 H
 have c:=z
 refine zZ (b:=n) rfl (fun k=>?_) (fun k=>?_)
 ·have c:=zS k c
  refine zC fun ba aa=>zB ?_
  refine zK (.bool false)<| (zG (zA (aa _ _ ?_)))
  obtain rfl:=someI c
  refine (zY (zV (post1 (v1:= .bool false) rfl rfl ?_)))
  exact ⟨rfl,H.pick [] (by decide)⟩
 have c:=zT k c
 refine (yA (zA (y _ _ ?_)))
 obtain ⟨ab,ac,c⟩:=xZ c
 refine yK [2,3,22,23,24,25,26,27,28,29,30,31,32] (fun (g:Unit)=>[]) (fun g wl=>Hd O w wl S []∧ab ()=some r) ?_ ?_
 ·skip
  refine zC fun bb ad=>zB ?_
  refine zJ (.string (bs d)) ?_
  obtain ⟨ae,af,c⟩:=zD c
  refine zH (yS (Do_slen (s1:=d) u9 rfl) (congrArg (Value.int .i64) af))<| zJ (.int .i64 0)<| (zG (zA (ad _ _ ?_)))
  refine yH ?_
  unfold Fdd at c
  obtain ⟨ag,t,ah,c⟩:=yX c
  refine xI [2,3,24,25,26,27,28,29,30,31,32] (fun (g:Nat×Int)=>[(24,.int .i64 g.2)]) (fun g wl=>Hd O w wl S []∧loopN ag g.1 g.2=some r) (fun g=>g.1) (t,0) (zL rfl zM) ⟨H.pick [] (by decide),c⟩ ?_
  clear H c
  rintro ⟨t,f⟩ ρ bc ⟨H,c⟩
  obtain ⟨ai,rfl,c⟩:=xC c
  have c:=xB ah c
  refine zC fun bd aj=>zB ?_
  obtain ⟨ak,al,c⟩:=zD c
  refine zH (zQ (xR (a:=f) (b:=ae) rfl rfl) al)<| (zG (zA (aj _ _ ?_)))
  refine zC fun be am=>?_
  refine zZ (b:=ak) rfl (fun l=>?_) (fun l=>?_)
  ·have c:=zS l c
   refine (yA (zA (am _ _ ?_)))
   refine zC fun bf an=>?_
   refine yH ?_
   refine zC fun bg ao=>zB ?_
   refine zJ (.int .i64 f)<| zK (.int .i64 f)<| (zG (zA (ao _ _ ?_)))
   refine zC fun bh ap=>zB ?_
   refine zJ (.string (bs d))<| zJ (.int .i64 f) ?_
   obtain ⟨aq,ar,c⟩:=zF c
   refine zH (Do_sidx (s1:=d) (q:=f) u9 rfl rfl ar) ?_
   have au:=H
   obtain ⟨av,aw,c⟩:=zF c
   refine yG rfl rfl (yC en145 rfl) (Fbtw aq _ aw _ _ _ (H.enter [] [] (by decide) rfl)) ?_
   rintro _ bi ⟨rfl,ax⟩
   have H:=au.step (ax.only:Only [] _ _)
   refine ⟨_,rfl,?_⟩
   obtain ⟨ay,az,c⟩:=zD c
   refine zH (zQ (wI (p:=av) rfl) az)<| (zG (zA (ap _ _ ?_)))
   refine zZ (b:=ay) rfl (fun m=>?_) (fun m=>?_)
   ·have c:=zS m c
    refine zC fun bj a0=>zB ?_
    refine zK (.bool false)<| (zG (zA (a0 _ _ ?_)))
    obtain rfl:=someI c
    refine (zY (yF (zV (zV (yF (zV (post1 (v1:= .bool false) rfl rfl ?_)))))))
    exact ⟨rfl,H.pick [] (by decide)⟩
   have c:=zT m c
   refine (yA (yP (zA (an _ _ ?_))))
   refine zB ?_
   obtain ⟨u,a1,c⟩:=zD c
   refine zH (xM (a:=f) (b:=1) rfl rfl a1)<| zJ (.int .i64 u) ?_
   exact (zG (zA (meet ⟨(ai,u),(zL rfl zM),⟨H.pick [] (by decide),c⟩,Nat.lt_succ_self _⟩)))
  have c:=zT l c
  exact (xO (yQ (yQ (yZ (zA (meet ⟨(),zM,⟨H.pick [] (by decide),c⟩⟩))))))
 rintro _ ρ bk ⟨H,c⟩
 have c:=wJ ac c
 refine zC fun bl a2=>zB ?_
 refine zK (.bool true)<| (zG (zA (a2 _ _ ?_)))
 obtain rfl:=someI c
 refine (zY (post1 (v1:= .bool true) rfl rfl ?_))
 exact ⟨rfl,H.pick [] (by decide)⟩
theorem Fahw (h:List Str)(f:Str)(v1:Value)(r:Int)(c:Fah h f=some r)(O S:List Nat)(w:World)(H:Hd O w w S [.fz (.sl Rp.str v1 h)]):
  Calls Tryz.prog 136 ([v1,.string (bs f)]:List Value).toArray w fun e w'=>e= .returned (.int .i64 r)∧Hd O w w' S []:=by
 unfold Fah at c
 refine zW 19 Tryz.func136 rfl rfl rfl ?_
 refine zC fun Z p=>zB ?_
 refine zK (.int .i64 0)<| (zG (zA (p _ _ ?_)))
 obtain ⟨q,s,c⟩:=xZ c
 refine yK [4,5,6,7,8,9,10,11,12,13,14,15,16,17,18] (fun (g:Unit)=>[]) (fun g wl=>Hd O w wl S []∧q ()=some r) ?_ ?_
 ·skip
  refine zC fun aa t=>zB ?_
  refine zJ v1 ?_
  obtain ⟨u,v,c⟩:=zD c
  obtain ⟨ab,ac,x⟩:=SlF.len ((H.item (i:=0) rfl))
  refine zH (yS (xP u22 x) (congrArg (Value.int .i64) v))<| zJ (.int .i64 0)<| (zG (zA (t _ _ ?_)))
  refine yH ?_
  unfold Fdc at c
  obtain ⟨y,m,z,c⟩:=yX c
  refine xI [4,5,8,9,10,11,12,13,14,15,16,17,18] (fun (g:Nat×Int)=>[(8,.int .i64 g.2)]) (fun g wl=>Hd O w wl S [.fz (.sl Rp.str v1 h)]∧loopN y g.1 g.2=some r) (fun g=>g.1) (m,0) (zL rfl zM) ⟨H.pick [0] (by decide),c⟩ ?_
  clear H c
  rintro ⟨m,d⟩ ρ ad ⟨H,c⟩
  obtain ⟨A,rfl,c⟩:=xC c
  have c:=xB z c
  refine zC fun ae B=>zB ?_
  obtain ⟨C,D,c⟩:=zD c
  refine zH (zQ (xR (a:=d) (b:=u) rfl rfl) D)<| (zG (zA (B _ _ ?_)))
  refine zC fun af E=>?_
  refine zZ (b:=C) rfl (fun j=>?_) (fun j=>?_)
  ·have c:=zS j c
   refine (yA (zA (E _ _ ?_)))
   refine zC fun ag F=>?_
   refine yH ?_
   refine zC fun ah G=>zB ?_
   refine zJ (.int .i64 d)<| zK (.int .i64 d)<| (zG (zA (G _ _ ?_)))
   refine zC fun ai I=>zB ?_
   refine zJ (.string (bs f))<| zJ v1<| zJ (.int .i64 d) ?_
   obtain ⟨n,k,c⟩:=zF c
   obtain ⟨J,K,aj,L,M,N,P,Q,R⟩:=rd_at (H.item (i:=0) rfl) k
   obtain rfl:L= [.string (bs n)]:=N
   have H:=H.fz (.at J (K+d.toNat * 1) _) ⟨P,Q,R⟩
   refine zH (xE u22 sz9 M rfl (yE k).1 (yE k).2.1 rfl rfl)<| zH (zN one9 rfl (Cells.get (H.item (i:=1) rfl).2.2 (i:=0) rfl)) ?_
   obtain ⟨T,U,c⟩:=zD c
   refine zH (zQ (Do_eqls (s1:=f) (s2:=n) rfl rfl) U)<| (zG (zA (I _ _ ?_)))
   refine zZ (b:=T) rfl (fun l=>?_) (fun l=>?_)
   ·have c:=zS l c
    refine zC fun ak V=>zB ?_
    refine zJ (.int .i64 d)<| zK (.int .i64 d)<| (zG (zA (V _ _ ?_)))
    obtain rfl:=someI c
    refine (zY (yF (zV (zV (yF (zV (post1 (v1:= .int .i64 d) rfl rfl ?_)))))))
    exact ⟨rfl,H.pick [] (by decide)⟩
   have c:=zT l c
   refine (yA (yP (zA (F _ _ ?_))))
   refine zB ?_
   obtain ⟨o,X,c⟩:=zD c
   refine zH (xM (a:=d) (b:=1) rfl rfl X)<| zJ (.int .i64 o) ?_
   exact (zG (zA (meet ⟨(A,o),(zL rfl zM),⟨H.pick [0] (by decide),c⟩,Nat.lt_succ_self _⟩)))
  have c:=zT j c
  exact (xO (yQ (yQ (yZ (zA (meet ⟨(),zM,⟨H.pick [] (by decide),c⟩⟩))))))
 rintro _ ρ al ⟨H,c⟩
 have c:=wJ s c
 refine zC fun am Y=>zB ?_
 refine zK (.int .i64 (-1))<| (zG (zA (Y _ _ ?_)))
 obtain rfl:=someI c
 refine (zY (post1 (v1:= .int .i64 (-1)) rfl rfl ?_))
 exact ⟨rfl,H.pick [] (by decide)⟩
theorem Fa1w (f:List Str)(d:Str)(v1:Value)(r:Bool)(c:Fa1 f d=some r)(O S:List Nat)(w:World)(H:Hd O w w S [.fz (.sl Rp.str v1 f)]):
  Calls Tryz.prog 87 ([v1,.string (bs d)]:List Value).toArray w fun e w'=>e= .returned (.bool r)∧Hd O w w' S []:=by
 unfold Fa1 at c
 refine zW 9 Tryz.func87 rfl rfl rfl ?_
 refine zC fun p i=>zB ?_
 refine zK (.bool false)<| (zG (zA (i _ _ ?_)))
 refine zC fun q j=>zB ?_
 refine zJ v1<| zJ (.string (bs d)) ?_
 have k:=H
 obtain ⟨l,m,c⟩:=zF c
 refine yG rfl rfl (yC en136 rfl) (Fahw f d v1 _ m _ _ _ (H.enter [] [0] (by decide) rfl)) ?_
 rintro _ s ⟨rfl,n⟩
 have H:=k.step (n.only:Only [] _ _)
 refine ⟨_,rfl,?_⟩
 obtain ⟨h,o,c⟩:=zD c
 refine zH (zQ (Do_geq (a:=l) (b:=0) rfl rfl) o)<| zK (.bool h)<| (zG (zA (j _ _ ?_)))
 obtain rfl:=someI c
 refine (zY (post1 (v1:= .bool h) rfl rfl ?_))
 exact ⟨rfl,H.pick [] (by decide)⟩
abbrev Feg (f:Cond→Int→Int→Option (Bool×Int)):Prop:= ∀(p0:Cond) (p1:Int) (p2:Int) (v1:Value) (b3:Nat) (r:Bool×Int) (_:f p0 p1 p2=some r) (O S:List Nat) (w:World) (_:Hd O w w S [.blk b3 [.int .i64 p2] 3,.fz (.sl rCond v1 p0.Kids)]),
  Calls Tryz.prog 80 ([.agg [.int .i64 p0.Kind,.string (bs p0.Name),.string (bs p0.Other),.int .i64 p0.Op,.int .i64 p0.N,.int .i64 p0.Frames,v1].toArray,.int .i64 p1,ptr0 b3]:List Value).toArray w fun e w'=>e= .returned (.bool r.1)∧Hd O w w' S [.blk b3 [.int .i64 r.2] 3]
set_option maxRecDepth 100000 in
theorem Fbsw (rfC:Cond→Int→Int→Option (Bool×Int))(rhC:Feg rfC)(f:Cond)(k:Int)(n:Int)(v1:Value)(h:Nat)(r:Bool×Int)(c:Fbs rfC f k n=some r)(O S:List Nat)(w:World)(H:Hd O w w S [.blk h [.int .i64 n] 3,.fz (.sl rCond v1 f.Kids)]):
  Calls Tryz.prog 80 ([.agg [.int .i64 f.Kind,.string (bs f.Name),.string (bs f.Other),.int .i64 f.Op,.int .i64 f.N,.int .i64 f.Frames,v1].toArray,.int .i64 k,ptr0 h]:List Value).toArray w fun e w'=>e= .returned (.bool r.1)∧Hd O w w' S [.blk h [.int .i64 r.2] 3]:=by
 unfold Fbs at c
 refine zW 36 Tryz.func80 rfl rfl rfl ?_
 refine zC fun K5 E=>zB ?_
 refine yY rfl rfl (xX (cs:=[.int .i64 f.Kind,.string (bs f.Name),.string (bs f.Other),.int .i64 f.Op,.int .i64 f.N,.int .i64 f.Frames,v1]) rfl H) ?_
 rintro _ w8 ⟨F,rfl,H⟩
 refine zK (.bool false)<| (zG (zA (E _ _ ?_)))
 refine zC fun K9 G=>zB ?_
 refine zJ (ptr0 h)<| zH (yB rfl)<| zH (zN one3 rfl (Cells.get (Blk.cells (H.item (i:=0) rfl)) (i:=0) rfl)) ?_
 obtain ⟨l,I,c⟩:=zD c
 refine zH (xM (a:=n) (b:=1) rfl rfl I)<| zH (yB rfl)<| xG rfl (wE H 0 rfl sz3 rfl (v:= .int .i64 l) rfl rfl rfl) ?_
 rintro a7 H
 refine (zG (zA (G _ _ ?_)))
 refine zC fun a8 J=>?_
 obtain ⟨x,c,K⟩:=zF c
 refine yK [14,15,16,17,18,19,20,21] (fun (g:Unit)=>[(21,.bool x)]) (fun g wl=>Hd O w wl S [.blk h [.int .i64 l] 3,.fz (.sl rCond v1 f.Kids),.blk F [.int .i64 f.Kind,.string (bs f.Name),.string (bs f.Other),.int .i64 f.Op,.int .i64 f.N,.int .i64 f.Frames,v1] 70]) ?_ ?_
 ·skip
  refine zB ?_
  refine zJ (.int .i64 k) ?_
  obtain ⟨L,M,c⟩:=zD c
  refine zH (zQ (xA (a:=k) (b:=0) rfl rfl) M)<| yN (b:=L) rfl rfl rfl (fun o=>?_) (fun o=>?_)
  ·have c:=zS o c
   refine yI ?_
   refine yI ?_
   refine yI ?_
   refine yI ?_
   refine zH (yL (v:= .bool true) rfl rfl) ?_
   obtain rfl:=someI c
   exact (zG (zA (meet ⟨(),(zL rfl zM),H.pick [0,1,2] (by decide)⟩)))
  have c:=zT o c
  refine zJ (ptr0 h)<| zH (yB rfl)<| zH (zN one3 rfl (Cells.get (Blk.cells (H.item (i:=0) rfl)) (i:=0) rfl)) ?_
  obtain ⟨P,Q,c⟩:=zD c
  refine zH (zQ (Do_gtr (a:=l) (b:=200) rfl rfl) Q)<| zH (yJ (v:= .bool P) rfl rfl) ?_
  obtain rfl:=someI c
  exact (zG (zA (meet ⟨(),(zL rfl zM),H.pick [0,1,2] (by decide)⟩)))
 rintro _ ρ a9 H
 have c:=K
 refine zZ (b:=x) rfl (fun q=>?_) (fun q=>?_)
 ·have c:=zS q c
  refine zC fun ba R=>zB ?_
  refine zK (.bool false)<| (zG (zA (R _ _ ?_)))
  obtain rfl:=someI c
  refine (zY (zV (post1 (v1:= .bool false) rfl rfl ?_)))
  exact ⟨rfl,H.pick [0] (by decide)⟩
 have c:=zT q c
 refine (yA (zA (J _ _ ?_)))
 obtain ⟨T,U,c⟩:=xZ c
 refine yK [6,8,22,23,24,25,26,27,28,29,30,31,32,33,34,35] (fun (g:Int)=>[]) (fun g wl=>Hd O w wl S [.blk h [.int .i64 g] 3]∧T g=some r) ?_ ?_
 ·skip
  refine zC fun bb V=>zB ?_
  refine zH (fa70_6 rfl)<| zH (zN one68 rfl (Cells.get (Blk.cells (H.item (i:=2) rfl)) (i:=6) rfl)) ?_
  obtain ⟨X,Y,c⟩:=zD c
  obtain ⟨bc,bd,Z⟩:=SlF.len ((H.item (i:=1) rfl))
  refine zH (yS (xP u68 Z) (congrArg (Value.int .i64) Y))<| zJ (.int .i64 0)<| (zG (zA (V _ _ ?_)))
  refine yH ?_
  unfold Fd2 at c
  obtain ⟨aa,y,ab,c⟩:=yX c
  refine xI [6,8,25,26,27,28,29,30,31,32,33,34,35] (fun (g:Nat×Int×Int)=>[(25,.int .i64 g.2.1)]) (fun g wl=>Hd O w wl S [.blk h [.int .i64 g.2.2] 3,.fz (.sl rCond v1 f.Kids)]∧loopN aa g.1 (g.2.1,g.2.2)=some r) (fun g=>g.1) (y,0,l) (zL rfl zM) ⟨H.pick [0,1] (by decide),c⟩ ?_
  clear H c
  rintro ⟨y,m,z⟩ ρ be ⟨H,c⟩
  obtain ⟨ac,rfl,c⟩:=xC c
  have c:=xB ab c
  refine zC fun bf ad=>zB ?_
  obtain ⟨ae,af,c⟩:=zD c
  refine zH (zQ (xR (a:=m) (b:=X) rfl rfl) af)<| (zG (zA (ad _ _ ?_)))
  refine zC fun bg ag=>?_
  refine zZ (b:=ae) rfl (fun s=>?_) (fun s=>?_)
  ·have c:=zS s c
   refine (yA (zA (ag _ _ ?_)))
   refine zC fun bh ah=>?_
   refine yH ?_
   refine zC fun bi ai=>zB ?_
   obtain ⟨d,t,c⟩:=zF c
   obtain ⟨A,B,bj,bk,aj,ak,al,am,an⟩:=rd_at (H.item (i:=1) rfl) t
   obtain ⟨j,rfl,ao⟩:=rCond_open ak
   have H:=H.fzs [.at A (B+m.toNat * 7) _,.sl rCond j d.Kids] ⟨⟨al,am,an⟩,ao,trivial⟩
   refine zH (xE u68 sz70 aj rfl (yE t).1 (yE t).2.1 rfl rfl)<| zH (yS (yR (cs:=[.int .i64 d.Kind,.string (bs d.Name),.string (bs d.Other),.int .i64 d.Op,.int .i64 d.N,.int .i64 d.Frames,j]) agg70 rfl sz70 rfl (H.item (i:=2) rfl).2.2) rfl)<| yY rfl rfl (xQ zero70 H) ?_
   rintro _ bl ⟨ap,rfl,H⟩
   refine xG rfl (xH (vs:=[.int .i64 d.Kind,.string (bs d.Name),.string (bs d.Other),.int .i64 d.Op,.int .i64 d.N,.int .i64 d.Frames,j]) H 4 rfl sz70 rfl rfl rfl ⟨rfl,rfl,rfl,rfl,rfl,rfl,(slf_one (H.item (i:=3) rfl)),trivial⟩ rfl) ?_
   rintro bm H
   refine (zG (zA (ai _ _ ?_)))
   refine zC fun bn aq=>zB ?_
   refine zH (yS (yR (cs:=[.int .i64 d.Kind,.string (bs d.Name),.string (bs d.Other),.int .i64 d.Op,.int .i64 d.N,.int .i64 d.Frames,j]) agg70 rfl sz70 rfl (Blk.cells (H.item (i:=4) rfl))) rfl)<| zJ (.int .i64 k) ?_
   obtain ⟨ar,au,c⟩:=zD c
   refine zH (Do_sub (a:=k) (b:=1) rfl rfl au)<| zJ (ptr0 h) ?_
   obtain ⟨⟨av,C⟩,aw,c⟩:=zF c
   refine yG rfl rfl (yC en80 rfl) (rhC d ar z j h _ aw _ _ _ (H.enter [0] [3] (by decide) rfl)) ?_
   rintro _ ax ⟨rfl,ay⟩
   have H:Hd _ _ ax _ [.fz (.sl rCond v1 f.Kids),.fz (.at A (B+m.toNat * 7) [.int .i64 d.Kind,.string (bs d.Name),.string (bs d.Other),.int .i64 d.Op,.int .i64 d.N,.int .i64 d.Frames,j]),.fz (.sl rCond j d.Kids),.blk ap [.int .i64 d.Kind,.string (bs d.Name),.string (bs d.Other),.int .i64 d.Op,.int .i64 d.N,.int .i64 d.Frames,j] 70,.blk h [.int .i64 C] 3]:=H.back [0] [3] rfl ay
   refine ⟨_,rfl,?_⟩
   obtain ⟨az,a0,c⟩:=zD c
   refine zH (zQ (wI (p:=av) rfl) a0)<| (zG (zA (aq _ _ ?_)))
   refine zZ (b:=az) rfl (fun u=>?_) (fun u=>?_)
   ·have c:=zS u c
    refine zC fun bo a1=>zB ?_
    refine zK (.bool false)<| (zG (zA (a1 _ _ ?_)))
    obtain rfl:=someI c
    refine (zY (yF (zV (zV (yF (zV (post1 (v1:= .bool false) rfl rfl ?_)))))))
    exact ⟨rfl,H.pick [4] (by decide)⟩
   have c:=zT u c
   refine (yA (yP (zA (ah _ _ ?_))))
   refine zB ?_
   obtain ⟨D,a2,c⟩:=zD c
   refine zH (xM (a:=m) (b:=1) rfl rfl a2)<| zJ (.int .i64 D) ?_
   exact (zG (zA (meet ⟨(ac,D,C),(zL rfl zM),⟨H.pick [4,0] (by decide),c⟩,Nat.lt_succ_self _⟩)))
  have c:=zT s c
  exact (xO (yQ (yQ (yZ (zA (meet ⟨z,zM,⟨H.pick [0] (by decide),c⟩⟩))))))
 rintro bp ρ bq ⟨H,c⟩
 have c:=wJ U c
 refine zC fun br a3=>zB ?_
 refine zK (.bool true)<| (zG (zA (a3 _ _ ?_)))
 obtain rfl:=someI c
 refine (zY (post1 (v1:= .bool true) rfl rfl ?_))
 exact ⟨rfl,H.pick [0] (by decide)⟩
theorem Ffb:Feg (Fdo):=by
 have h: ∀n,Feg (Faj n):=by
  intro n
  induction n with
  | zero=>intro b c d e f r a; cases a
  | succ n ih=>intro b c d e f r a; exact Fbsw (Faj n) ih b c d e f r a
 exact h FU
end Go.Proofs.YtckmiljbaejijaaGreatDoor.L
