/- Walks: what each function computes, for every argument; no condition but those that stand in the statements. -/
import Derived.Test.YtckmiljbaejijaaGreatDoorUV0
import Derived.Test.YtckmiljbaejijaaGreatDoorUV1
import Derived.Test.YtckmiljbaejijaaGreatDoorUV9
import Derived.Test.YtckmiljbaejijaaGreatDoorUV10
namespace Go.Proofs.YtckmiljbaejijaaGreatDoor.L
open Go.RowKit Go.OB Go.Lf
set_option maxHeartbeats 4000000
set_option maxRecDepth 100000 in
theorem Fczw (z:Rules)(k:List Track)(u:Int)(C:Int)(v1:Value)(A:Value)(B:Value)(h:Value)(r:Bool)(c:Fcz z k u C=some r)(O S:List Nat)(w:World)(H:Hd O w w S [.fz (.sl Rp.str v1 z.Phases),.fz (.sl rMoveT A z.Moves),.fz (.sl rRule B z.Rules),.fz (.sl rTrack h k),.fz (.at 1 0 ((Fl.arr 4 (Fl.int .u16)).f yT)),.fz (.at 3 0 ((Fl.arr 20 (Fl.int .u64)).f zO))]):
  Calls Tryz.prog 6 ([.agg [v1,A,B].toArray,h,.int .i64 u,.int .i64 C]:List Value).toArray w fun e w'=>e= .returned (.bool r)∧Hd O w w' S []:=by
 unfold Fcz at c
 refine zW 155 Tryz.func6 rfl rfl rfl ?_
 refine zC fun hl b2=>zB ?_
 refine yY rfl rfl (xX (cs:=[v1,A,B]) rfl H) ?_
 rintro _ hn ⟨bi,rfl,H⟩
 refine zK (.bool false)<| (zG (zA (b2 _ _ ?_)))
 refine zC fun ho b3=>?_
 refine zC fun hp b4=>zB ?_
 have b5:=H
 obtain ⟨b6,b7,c⟩:=zF c
 refine yG rfl rfl (yC en14 rfl) (Fdrw _ b7 _ _ _ (H.enter [] [4] (by decide) rfl)) ?_
 rintro _ hq ⟨rfl,b8⟩
 have H:=b5.step (b8.only:Only [] _ _)
 refine ⟨_,rfl,?_⟩
 obtain ⟨b9,ca,c⟩:=zD c
 refine zH (zQ (wI (p:=b6) rfl) ca)<| (zG (zA (b4 _ _ ?_)))
 refine zZ (b:=b9) rfl (fun aq=>?_) (fun aq=>?_)
 ·have c:=zS aq c
  refine zC fun hr cb=>zB ?_
  refine zK (.bool false)<| (zG (zA (cb _ _ ?_)))
  obtain rfl:=someI c
  refine (zY (zV (post1 (v1:= .bool false) rfl rfl ?_)))
  exact ⟨rfl,H.pick [] (by decide)⟩
 have c:=zT aq c
 refine (yA (zA (b3 _ _ ?_)))
 refine zC fun hs cc=>zB ?_
 refine zH (yS (yR (cs:=[v1,A,B]) agg26 rfl sz26 rfl (Blk.cells (H.item (i:=6) rfl))) rfl)<| zJ h<| zJ (.int .i64 u)<| zJ (.int .i64 C) ?_
 obtain ⟨⟨s,K⟩,cd,c⟩:=zF c
 refine yG rfl rfl (yC en15 rfl) (Fcbw z k u C v1 A B h _ cd _ _ _ (H.enter [] [0,1,2,3] (by decide) rfl)) ?_
 rintro _ ht ⟨j,rfl,ce⟩
 have H:=H.back1 [0,1,2,3] rfl ce
 refine ⟨_,rfl,?_⟩
 refine zJ (.tuple #[j,.int .i64 K])<| zH (xY (v:=j) rfl rfl)<| zH (xY (v:= .int .i64 K) rfl rfl)<| zK j<| zK (.int .i64 K)<| (zG (zA (cc _ _ ?_)))
 refine zC fun hu cf=>zB ?_
 refine zH (yS (yR (cs:=[v1,A,B]) agg26 rfl sz26 rfl (Blk.cells (H.item (i:=6) rfl))) rfl)<| zJ h<| zJ (.int .i64 u)<| zJ (.int .i64 C) ?_
 obtain ⟨⟨t,L⟩,cg,c⟩:=zF c
 refine yG rfl rfl (yC en16 rfl) (Fb4w z k u C v1 A B h _ cg _ _ _ (H.enter [] [0,1,2,3] (by decide) rfl)) ?_
 rintro _ hv ⟨l,rfl,ch⟩
 have H:=H.back1 [0,1,2,3] rfl ch
 refine ⟨_,rfl,?_⟩
 refine zJ (.tuple #[l,.int .i64 L])<| zH (xY (v:=l) rfl rfl)<| zH (xY (v:= .int .i64 L) rfl rfl)<| zK l<| zK (.int .i64 L)<| (zG (zA (cf _ _ ?_)))
 refine zC fun hw ci=>?_
 obtain ⟨bj,c,cj⟩:=zF c
 refine yK [39,40,41,42,43,44] (fun (g:Unit)=>[(44,.bool bj)]) (fun g wl=>Hd O w wl S [.fz (.sl Rp.str v1 z.Phases),.fz (.sl rMoveT A z.Moves),.fz (.sl rRule B z.Rules),.fz (.sl rTrack h k),.fz (.at 1 0 ((Fl.arr 4 (Fl.int .u16)).f yT)),.fz (.at 3 0 ((Fl.arr 20 (Fl.int .u64)).f zO)),.blk bi [v1,A,B] 26,.fz (.sl (Rp.sl (Rp.int .i64)) j s),.own (Rp.sl Rp.str) l 22 t]) ?_ ?_
 ·skip
  refine zB ?_
  refine zJ (.int .i64 K) ?_
  obtain ⟨ck,cl,c⟩:=zD c
  refine zH (zQ (wH (a:=K) (b:=0) rfl rfl) cl)<| yN (b:=ck) rfl rfl rfl (fun ar=>?_) (fun ar=>?_)
  ·have c:=zS ar c
   refine yI ?_
   refine yI ?_
   refine zH (yL (v:= .bool true) rfl rfl) ?_
   obtain rfl:=someI c
   exact (zG (zA (meet ⟨(),(zL rfl zM),H.pick [0,1,2,3,4,5,6,7,8] (by decide)⟩)))
  have c:=zT ar c
  refine zJ (.int .i64 L) ?_
  obtain ⟨cm,cn,c⟩:=zD c
  refine zH (zQ (wH (a:=L) (b:=0) rfl rfl) cn)<| zH (yJ (v:= .bool cm) rfl rfl) ?_
  obtain rfl:=someI c
  exact (zG (zA (meet ⟨(),(zL rfl zM),H.pick [0,1,2,3,4,5,6,7,8] (by decide)⟩)))
 rintro _ ρ hx H
 have c:=cj
 refine zZ (b:=bj) rfl (fun au=>?_) (fun au=>?_)
 ·have c:=zS au c
  refine zC fun hy co=>zB ?_
  refine zJ (.int .i64 K)<| zJ (.int .i64 L) ?_
  obtain ⟨bk,cp,c⟩:=zD c
  refine zH (zQ (xA (a:=K) (b:=L) rfl rfl) cp)<| zK (.bool bk)<| (zG (zA (co _ _ ?_)))
  obtain rfl:=someI c
  refine (zY (zV (post1 (v1:= .bool bk) rfl rfl ?_)))
  exact ⟨rfl,H.pick [] (by decide)⟩
 have c:=zT au c
 refine (yA (zA (ci _ _ ?_)))
 refine zC fun hz cq=>zB ?_
 refine zH (yS (yR (cs:=[v1,A,B]) agg26 rfl sz26 rfl (Blk.cells (H.item (i:=6) rfl))) rfl)<| zJ h ?_
 obtain ⟨⟨av,Y⟩,cr,c⟩:=zF c
 refine yG rfl rfl (yC en23 rfl) (Fb8w z k v1 A B h _ cr _ _ _ (H.enter [] [0,1,2,3] (by decide) rfl)) ?_
 rintro _ h0 ⟨M,aw,rfl,ct⟩
 have H:=H.back1 [0,1,2,3] rfl ct
 refine ⟨_,rfl,?_⟩
 refine zJ (.tuple #[M,.int .i64 Y])<| zH (xY (v:=M) rfl rfl)<| zH (xY (v:= .int .i64 Y) rfl rfl)<| zK M<| zK (.int .i64 Y)<| (zG (zA (cq _ _ ?_)))
 refine zC fun h1 cu=>?_
 obtain ⟨bl,c,cv⟩:=zF c
 refine yK [13,52,54,55,56,57,58,59,60,61,62,63,64,65,66,67,68,69,70,71,72] (fun (g:Unit)=>[(13,M),(72,.bool bl)]) (fun g wl=>Hd O w wl S [.tr (Rt.opt rtEventWatch 146) [M] aw av,.fz (.sl rTrack h k),.fz (.at 1 0 ((Fl.arr 4 (Fl.int .u16)).f yT)),.fz (.at 3 0 ((Fl.arr 20 (Fl.int .u64)).f zO)),.fz (.sl (Rp.sl (Rp.int .i64)) j s),.own (Rp.sl Rp.str) l 22 t]) ?_ ?_
 ·skip
  refine zB ?_
  refine zJ (.int .i64 Y) ?_
  obtain ⟨cw,cx,c⟩:=zD c
  refine zH (zQ (wH (a:=Y) (b:=0) rfl rfl) cx) ?_
  obtain ⟨bm,c,cy⟩:=zF c
  refine RL_cutS 8 [56,57,58,59,60,61,62,63] [(63,.bool bm)] (fun wl=>Hd O w wl S [.fz (.sl Rp.str v1 z.Phases),.fz (.sl rMoveT A z.Moves),.fz (.sl rRule B z.Rules),.fz (.sl rTrack h k),.fz (.at 1 0 ((Fl.arr 4 (Fl.int .u16)).f yT)),.fz (.at 3 0 ((Fl.arr 20 (Fl.int .u64)).f zO)),.blk bi [v1,A,B] 26,.fz (.sl (Rp.sl (Rp.int .i64)) j s),.own (Rp.sl Rp.str) l 22 t,.tr (Rt.opt rtEventWatch 146) [M] aw av]) ?_ ?_
  ·skip
   refine yN (b:=cw) rfl rfl rfl (fun ax=>?_) (fun ax=>?_)
   ·have c:=zS ax c
    refine yI ?_
    refine yI ?_
    refine yI ?_
    refine yI ?_
    refine yI ?_
    refine yI ?_
    refine zH (yL (v:= .bool true) rfl rfl) ?_
    obtain rfl:=someI c
    exact zG (zA (meet ⟨(zL rfl zM),H.pick [0,1,2,3,4,5,6,7,8,9] (by decide)⟩))
   have c:=zT ax c
   refine zJ j ?_
   obtain ⟨cz,c0,c⟩:=zD c
   obtain ⟨h2,h3,c1⟩:=SlF.len ((H.item (i:=7) rfl))
   refine zH (yS (xP u28 c1) (congrArg (Value.int .i64) c0))<| zH (fa26_2 rfl)<| zH (zN one24 rfl (Cells.get (Blk.cells (H.item (i:=6) rfl)) (i:=2) rfl)) ?_
   obtain ⟨c2,c3,c⟩:=zD c
   obtain ⟨h4,h5,c4⟩:=SlF.len ((H.item (i:=2) rfl))
   refine zH (yS (xP u24 c4) (congrArg (Value.int .i64) c3)) ?_
   obtain ⟨c5,c6,c⟩:=zD c
   refine zH (zQ (wH (a:=cz) (b:=c2) rfl rfl) c6)<| zH (yJ (v:= .bool c5) rfl rfl) ?_
   obtain rfl:=someI c
   exact zG (zA (meet ⟨(zL rfl zM),H.pick [0,1,2,3,4,5,6,7,8,9] (by decide)⟩))
  rintro ρ h6 H
  have c:=cy
  refine yN (b:=bm) rfl rfl rfl (fun ay=>?_) (fun ay=>?_)
  ·have c:=zS ay c
   refine yI ?_
   refine yI ?_
   refine yI ?_
   refine yI ?_
   refine yI ?_
   refine yI ?_
   refine yI ?_
   refine zH (yL (v:= .bool true) rfl rfl) ?_
   obtain rfl:=someI c
   exact (zG (zA (meet ⟨(),(zL rfl (zL rfl zM)),H.pick [9,3,4,5,7,8] (by decide)⟩)))
  have c:=zT ay c
  refine zJ l ?_
  obtain ⟨c7,c8,c⟩:=zD c
  obtain ⟨h7,h8,c9⟩:=Sr.len (Sr.of_own (H.item (i:=8) rfl))
  refine zH (yS (xP u41 c9) (congrArg (Value.int .i64) c8))<| zJ (.int .i64 C)<| zJ (.int .i64 u) ?_
  obtain ⟨da,db,c⟩:=zD c
  refine zH (Do_sub (a:=C) (b:=u) rfl rfl db) ?_
  obtain ⟨dc,dd,c⟩:=zD c
  refine zH (xM (a:=da) (b:=1) rfl rfl dd) ?_
  obtain ⟨de,df,c⟩:=zD c
  refine zH (zQ (wH (a:=c7) (b:=dc) rfl rfl) df)<| zH (yJ (v:= .bool de) rfl rfl) ?_
  obtain rfl:=someI c
  exact (zG (zA (meet ⟨(),(zL rfl (zL rfl zM)),H.pick [9,3,4,5,7,8] (by decide)⟩)))
 rintro _ ρ h9 H
 have c:=cv
 refine zZ (b:=bl) rfl (fun az=>?_) (fun az=>?_)
 ·have c:=zS az c
  refine zC fun ia dg=>zB ?_
  refine zK (.bool false)<| (zG (zA (dg _ _ ?_)))
  obtain rfl:=someI c
  refine (zY (zV (post1 (v1:= .bool false) rfl rfl ?_)))
  exact ⟨rfl,H.pick [] (by decide)⟩
 have c:=zT az c
 refine (yA (zA (cu _ _ ?_)))
 obtain ⟨dh,di,c⟩:=xZ c
 refine yK [8,13,14,15,16,17,18,19,20,73,74,75,76,77,78,79,80,81,82,83,84,85,86,87,88,89,90,91,92,93,94,95,96,97,98,99,100,101,102,103,104,105,106,107,108,109,110,111,112,113,114,115,116,117,118,119,120,121,122,123,124,125,126,127,128,129,130,131,132,133,134,135,136,137,138,139,140,141,142,143,144,145,146,147,148,149,150,151,152,153,154] (fun (g:Unit)=>[]) (fun g wl=>Hd O w wl S [.fz (.at 1 0 ((Fl.arr 4 (Fl.int .u16)).f yT)),.fz (.at 3 0 ((Fl.arr 20 (Fl.int .u64)).f zO))]∧dh ()=some r) ?_ ?_
 ·skip
  refine zC fun ib dj=>zB ?_
  refine zJ (.int .i64 u)<| zK (.int .i64 u)<| (zG (zA (dj _ _ ?_)))
  refine yH ?_
  unfold Fc2 at c
  obtain ⟨dk,bn,dl,c⟩:=yX c
  refine xI [8,13,14,15,16,17,18,19,20,74,75,76,77,78,79,80,81,82,83,84,85,86,87,88,89,90,91,92,93,94,95,96,97,98,99,100,101,102,103,104,105,106,107,108,109,110,111,112,113,114,115,116,117,118,119,120,121,122,123,124,125,126,127,128,129,130,131,132,133,134,135,136,137,138,139,140,141,142,143,144,145,146,147,148,149,150,151,152,153,154] (fun (g:Nat×(Option EventWatch)×Int×(List Nat)×Value)=>[(13,g.2.2.2.2),(14,.int .i64 g.2.2.1)]) (fun g wl=>Hd O w wl S [.tr (Rt.opt rtEventWatch 146) [g.2.2.2.2] g.2.2.2.1 g.2.1,.fz (.sl rTrack h k),.fz (.at 1 0 ((Fl.arr 4 (Fl.int .u16)).f yT)),.fz (.at 3 0 ((Fl.arr 20 (Fl.int .u64)).f zO)),.fz (.sl (Rp.sl (Rp.int .i64)) j s),.own (Rp.sl Rp.str) l 22 t]∧loopN dk g.1 (g.2.1,g.2.2.1)=some r) (fun g=>g.1) (bn,av,u,aw,M) (zL rfl (zL rfl zM)) ⟨H.pick [0,1,2,3,4,5] (by decide),c⟩ ?_
  clear H c
  rintro ⟨bn,ic,E,id,dm⟩ ρ ie ⟨H,c⟩
  obtain ⟨dn,rfl,c⟩:=xC c
  have c:=xB dl c
  refine zC fun ig dp=>?_
  refine zC fun ih dq=>zB ?_
  refine zJ (.int .i64 E)<| zJ (.int .i64 C) ?_
  obtain ⟨dr,ds,c⟩:=zD c
  refine zH (zQ (Do_leq (a:=E) (b:=C) rfl rfl) ds)<| (zG (zA (dq _ _ ?_)))
  refine zZ (b:=dr) rfl (fun a0=>?_) (fun a0=>?_)
  ·have c:=zS a0 c
   refine (yA (zA (dp _ _ ?_)))
   obtain ⟨dt,du,c⟩:=xZ c
   refine yK [8,13,15,16,17,18,19,20,79,80,81,82,83,84,85,86,87,88,89,90,91,92,93,94,95,96,97,98,99,100,101,102,103,104,105,106,107,108,109,110,111,112,113,114,115,116,117,118,119,120,121,122,123,124,125,126,127,128,129,130,131,132,133,134,135,136,137,138,139,140,141,142,143,144,145,146,147,148,149,150,151,152,153,154] (fun (g:(List Str)×Int×(List EventMove)×(List Nd)×(List Bool)×Nat×Value×Value×(List Nat)×Value×(List Nat)×Value)=>[(13,.pointer (some ⟨g.2.2.2.2.2.1,0,none⟩))]) (fun g wl=>Hd O w wl S [.blk g.2.2.2.2.2.1 [g.2.2.2.2.2.2.1,.int .i64 g.2.1,g.2.2.2.2.2.2.2.1,g.2.2.2.2.2.2.2.2.2.1,g.2.2.2.2.2.2.2.2.2.2.2] 146,.fz (.sl Rp.str g.2.2.2.2.2.2.1 g.1),.tr rowEM [g.2.2.2.2.2.2.2.1] g.2.2.2.2.2.2.2.2.1 g.2.2.1,.tr rowNd [g.2.2.2.2.2.2.2.2.2.1] g.2.2.2.2.2.2.2.2.2.2.1 g.2.2.2.1,.fz (.sl Rp.bool g.2.2.2.2.2.2.2.2.2.2.2 g.2.2.2.2.1),.fz (.sl rTrack h k),.fz (.at 1 0 ((Fl.arr 4 (Fl.int .u16)).f yT)),.fz (.at 3 0 ((Fl.arr 20 (Fl.int .u64)).f zO)),.fz (.sl (Rp.sl (Rp.int .i64)) j s),.own (Rp.sl Rp.str) l 22 t]∧dt (g.1,g.2.1,g.2.2.1,g.2.2.2.1,g.2.2.2.2.1)=some r) ?_ ?_
   ·skip
    refine yH ?_
    refine zC fun ii dv=>zB ?_
    refine zJ h<| zJ (.int .i64 E) ?_
    obtain ⟨⟨a1,Z⟩,dw,c⟩:=zF c
    refine yG rfl rfl (yC en24 rfl) (Fcxw k E h _ dw _ _ _ (H.enter [] [1] (by decide) rfl)) ?_
    rintro _ ij ⟨N,rfl,dx⟩
    have H:=H.back1 [1] rfl dx
    refine ⟨_,rfl,?_⟩
    refine zJ (.tuple #[N,.int .i64 Z])<| zH (xY (v:=N) rfl rfl)<| zH (xY (v:= .int .i64 Z) rfl rfl)<| zK N<| zK (.int .i64 Z)<| (zG (zA (dv _ _ ?_)))
    refine zC fun ik dy=>?_
    refine zC fun il dz=>zB ?_
    refine zJ (.int .i64 Z) ?_
    obtain ⟨d0,d1,c⟩:=zD c
    refine zH (zQ (wH (a:=Z) (b:=0) rfl rfl) d1)<| (zG (zA (dz _ _ ?_)))
    refine zZ (b:=d0) rfl (fun a2=>?_) (fun a2=>?_)
    ·have c:=zS a2 c
     refine zC fun im d2=>zB ?_
     refine zK (.bool false)<| (zG (zA (d2 _ _ ?_)))
     obtain rfl:=someI c
     refine (zY (zV (yF (zV (zV (yF (zV (post1 (v1:= .bool false) rfl rfl ?_))))))))
     exact ⟨rfl,H.pick [] (by decide)⟩
    have c:=zT a2 c
    refine (yA (zA (dy _ _ ?_)))
    refine zC fun io d3=>zB ?_
    refine zJ dm<| zJ N ?_
    obtain ⟨D,d4,c⟩:=zF c
    have H:=H.opt_some 0 rfl d4
    obtain ⟨y,ip,iq,d5,d6⟩:=H.opt_open 0 rfl
    clear H
    cases d5
    have H:=d6
    obtain ⟨ag,a3,bo,a4,bp,ah,rfl,H⟩:=rtEventWatch_open H 6 rfl
    have H:Hd _ _ _ _ [.fz (.sl rTrack h k),.fz (.at 1 0 ((Fl.arr 4 (Fl.int .u16)).f yT)),.fz (.at 3 0 ((Fl.arr 20 (Fl.int .u64)).f zO)),.fz (.sl (Rp.sl (Rp.int .i64)) j s),.own (Rp.sl Rp.str) l 22 t,.own rToldT N 148 a1,.blk y [ag,.int .i64 D.tracks,a3,a4,ah] 146,.tr rowEM [a3] bo D.moves,.tr rowNd [a4] bp D.rules,.fz (.sl Rp.str ag D.phases),.fz (.sl Rp.bool ah D.possible)]:=H
    have H:=H.freeze (i:=5) rfl
    obtain ⟨⟨ai,aa,d⟩,d7,c⟩:=zF c
    refine yG rfl rfl (yC en25 rfl) (Fa0w (EventWatch.mk D.phases D.tracks D.moves D.rules D.possible) a1 y ag a3 bo a4 bp ah N _ d7 _ _ _ (H.enter [7,8,6] [9,10,5] (by decide) rfl)) ?_
    rintro _ d8 ⟨I,m,n,P,o,Q,q,rfl,d9⟩
    have H:Hd _ _ d8 _ [.fz (.sl rTrack h k),.fz (.at 1 0 ((Fl.arr 4 (Fl.int .u16)).f yT)),.fz (.at 3 0 ((Fl.arr 20 (Fl.int .u64)).f zO)),.fz (.sl (Rp.sl (Rp.int .i64)) j s),.own (Rp.sl Rp.str) l 22 t,.fz (.sl rToldT N a1),.fz (.sl Rp.str ag D.phases),.fz (.sl Rp.bool ah D.possible),.own (Rp.int .i64) I 3 ai,.fz (.sl Rp.str m d.phases),.tr rowEM [n] P d.moves,.tr rowNd [o] Q d.rules,.fz (.sl Rp.bool q d.possible),.blk y [m,.int .i64 d.tracks,n,o,q] 146]:=H.back [7,8,6] [9,10,5] rfl d9
    refine ⟨_,rfl,?_⟩
    refine zJ (.tuple #[I,.int .i64 aa])<| zH (xY (v:=I) rfl rfl)<| zH (xY (v:= .int .i64 aa) rfl rfl)<| zK I<| zK (.int .i64 aa)<| (zG (zA (d3 _ _ ?_)))
    refine zC fun ir ea=>?_
    obtain ⟨bq,c,eb⟩:=zF c
    refine yK [93,94,95,96,97,98,99,100,101] (fun (g:Unit)=>[(101,.bool bq)]) (fun g wl=>Hd O w wl S [.fz (.sl rTrack h k),.fz (.at 1 0 ((Fl.arr 4 (Fl.int .u16)).f yT)),.fz (.at 3 0 ((Fl.arr 20 (Fl.int .u64)).f zO)),.fz (.sl (Rp.sl (Rp.int .i64)) j s),.own (Rp.sl Rp.str) l 22 t,.own (Rp.int .i64) I 3 ai,.fz (.sl Rp.str m d.phases),.tr rowEM [n] P d.moves,.tr rowNd [o] Q d.rules,.fz (.sl Rp.bool q d.possible),.blk y [m,.int .i64 d.tracks,n,o,q] 146]) ?_ ?_
    ·skip
     refine zB ?_
     refine zJ (.int .i64 aa) ?_
     obtain ⟨ec,ed,c⟩:=zD c
     refine zH (zQ (wH (a:=aa) (b:=0) rfl rfl) ed)<| yN (b:=ec) rfl rfl rfl (fun a5=>?_) (fun a5=>?_)
     ·have c:=zS a5 c
      refine yI ?_
      refine yI ?_
      refine yI ?_
      refine yI ?_
      refine yI ?_
      refine zH (yL (v:= .bool true) rfl rfl) ?_
      obtain rfl:=someI c
      exact (zG (zA (meet ⟨(),(zL rfl zM),H.pick [0,1,2,3,4,8,9,10,11,12,13] (by decide)⟩)))
     have c:=zT a5 c
     refine zJ I ?_
     obtain ⟨ee,ef,c⟩:=zD c
     obtain ⟨it,iu,eg⟩:=Sr.len (Sr.of_own (H.item (i:=8) rfl))
     refine zH (yS (xP u38 eg) (congrArg (Value.int .i64) ef))<| zJ j ?_
     obtain ⟨eh,ei,c⟩:=zD c
     obtain ⟨iv,iw,ej⟩:=SlF.len ((H.item (i:=3) rfl))
     refine zH (yS (xP u28 ej) (congrArg (Value.int .i64) ei)) ?_
     obtain ⟨ek,el,c⟩:=zD c
     refine zH (zQ (wH (a:=ee) (b:=eh) rfl rfl) el)<| zH (yJ (v:= .bool ek) rfl rfl) ?_
     obtain rfl:=someI c
     exact (zG (zA (meet ⟨(),(zL rfl zM),H.pick [0,1,2,3,4,8,9,10,11,12,13] (by decide)⟩)))
    rintro _ ρ iy H
    have c:=eb
    refine zZ (b:=bq) rfl (fun a6=>?_) (fun a6=>?_)
    ·have c:=zS a6 c
     refine zC fun iz em=>zB ?_
     refine zK (.bool false)<| (zG (zA (em _ _ ?_)))
     obtain rfl:=someI c
     refine (zY (zV (yF (zV (zV (yF (zV (post1 (v1:= .bool false) rfl rfl ?_))))))))
     exact ⟨rfl,H.pick [] (by decide)⟩
    have c:=zT a6 c
    refine (yA (zA (ea _ _ ?_)))
    obtain ⟨en,eo,c⟩:=xZ c
    refine yK [8,18,102,103,104,105,106,107,108,109,110,111,112,113,114,115,116,117,118,119,120,121,122,123,124,125,126,127,128,129,130,131,132,133] (fun (g:Unit)=>[]) (fun g wl=>Hd O w wl S [.fz (.sl rTrack h k),.fz (.at 1 0 ((Fl.arr 4 (Fl.int .u16)).f yT)),.fz (.at 3 0 ((Fl.arr 20 (Fl.int .u64)).f zO)),.fz (.sl (Rp.sl (Rp.int .i64)) j s),.own (Rp.sl Rp.str) l 22 t,.fz (.sl Rp.str m d.phases),.tr rowEM [n] P d.moves,.tr rowNd [o] Q d.rules,.fz (.sl Rp.bool q d.possible),.blk y [m,.int .i64 d.tracks,n,o,q] 146]∧en ()=some r) ?_ ?_
    ·skip
     refine zC fun i0 ep=>zB ?_
     refine zK (.int .i64 0)<| (zG (zA (ep _ _ ?_)))
     refine yH ?_
     unfold Fc6 at c
     obtain ⟨er,br,es,c⟩:=yX c
     refine xI [8,18,102,103,104,105,106,107,108,109,110,111,112,113,114,115,116,117,118,119,120,121,122,123,124,125,126,127,128,129,130,131,132,133] (fun (g:Nat×Int)=>[(18,.int .i64 g.2)]) (fun g wl=>Hd O w wl S [.fz (.sl rTrack h k),.fz (.at 1 0 ((Fl.arr 4 (Fl.int .u16)).f yT)),.fz (.at 3 0 ((Fl.arr 20 (Fl.int .u64)).f zO)),.fz (.sl (Rp.sl (Rp.int .i64)) j s),.own (Rp.sl Rp.str) l 22 t,.own (Rp.int .i64) I 3 ai,.fz (.sl Rp.str m d.phases),.tr rowEM [n] P d.moves,.tr rowNd [o] Q d.rules,.fz (.sl Rp.bool q d.possible),.blk y [m,.int .i64 d.tracks,n,o,q] 146]∧loopN er g.1 g.2=some r) (fun g=>g.1) (br,0) (zL rfl zM) ⟨H.pick [0,1,2,3,4,5,6,7,8,9,10] (by decide),c⟩ ?_
     clear H c
     rintro ⟨br,J⟩ ρ i1 ⟨H,c⟩
     obtain ⟨et,rfl,c⟩:=xC c
     have c:=xB es c
     refine zC fun i2 eu=>?_
     refine zC fun i3 ew=>zB ?_
     refine zJ (.int .i64 J)<| zJ j ?_
     obtain ⟨ex,ey,c⟩:=zD c
     obtain ⟨i4,i5,ez⟩:=SlF.len ((H.item (i:=3) rfl))
     refine zH (yS (xP u28 ez) (congrArg (Value.int .i64) ey)) ?_
     obtain ⟨e0,e1,c⟩:=zD c
     refine zH (zQ (xR (a:=J) (b:=ex) rfl rfl) e1)<| (zG (zA (ew _ _ ?_)))
     refine zZ (b:=e0) rfl (fun a7=>?_) (fun a7=>?_)
     ·have c:=zS a7 c
      refine (yA (zA (eu _ _ ?_)))
      refine zC fun i6 e2=>?_
      refine yH ?_
      obtain ⟨bt,c,e3⟩:=zF c
      refine yK [108,109,110,111,112,113,114,115,116,117,118,119,120,121,122,123,124,125,126,127,128,129,130,131,132,133] (fun (g:Unit)=>[(133,.bool bt)]) (fun g wl=>Hd O w wl S [.fz (.sl rTrack h k),.fz (.at 1 0 ((Fl.arr 4 (Fl.int .u16)).f yT)),.fz (.at 3 0 ((Fl.arr 20 (Fl.int .u64)).f zO)),.fz (.sl (Rp.sl (Rp.int .i64)) j s),.own (Rp.sl Rp.str) l 22 t,.own (Rp.int .i64) I 3 ai,.fz (.sl Rp.str m d.phases),.tr rowEM [n] P d.moves,.tr rowNd [o] Q d.rules,.fz (.sl Rp.bool q d.possible),.blk y [m,.int .i64 d.tracks,n,o,q] 146]) ?_ ?_
      ·skip
       have bu:=H
       have H:=H.rebase
       have i7:=H
       refine wF H [0,1,2,3,4,5,6,7,8,9,10,11,12,13,14,15,16,17,18,19,20,21,22,23,24,25] [.pure,.pure,.pure,.read,.pure,.pure,.pure,.pure,.pure,.pure,.pure,.pure,.pure,.pure,.read,.pure,.pure,.pure,.read,.pure,.pure,.pure,.pure,.read,.pure,.pure] mixed (by kernel_rfl) (by kernel_rfl) (by kernel_rfl) rfl ?_
       refine Mx.zI rfl rfl rfl (fun w' hw'=>yM (v:=j) rfl) ?_
       refine Mx.zI rfl rfl rfl (fun w' hw'=>yM (v:= .int .i64 J) rfl) ?_
       obtain ⟨e4,a8,c⟩:=zF c
       obtain ⟨e5,e6,i8,i9,e7,e8,e9,fa,fb⟩:=rd_at (H.item (i:=3) rfl) a8
       obtain ⟨fc,rfl,fd⟩:=e8
       have H:=H.fzs [.at e5 (e6+J.toNat * 1) _,.sl (Rp.int .i64) fc e4] ⟨⟨e9,fa,fb⟩,fd,trivial⟩
       refine Mx.zI rfl rfl rfl (fun w' hw'=>xE u28 sz38 e7 rfl (yE a8).1 (yE a8).2.1 rfl rfl) ?_
       refine Mx.yO oS rfl rfl rfl (fun w' hw'=>zN one38 rfl (Cells.get ((H.sees hw').item (i:=11) rfl).2.2 (i:=0) rfl)) ?_
       obtain ⟨fe,ff,c⟩:=zD c
       obtain ⟨ja,jb,fg⟩:=SlF.len ((H.item (i:=12) rfl))
       refine Mx.zI rfl rfl rfl (fun w' hw'=>yS (xP u38 fg) (congrArg (Value.int .i64) ff)) ?_
       refine Mx.zI rfl rfl rfl (fun w' hw'=>yM (v:= .int .i64 C) rfl) ?_
       refine Mx.zI rfl rfl rfl (fun w' hw'=>yM (v:= .int .i64 u) rfl) ?_
       obtain ⟨fh,fi,c⟩:=zD c
       refine Mx.zI rfl rfl rfl (fun w' hw'=>Do_sub (a:=C) (b:=u) rfl rfl fi) ?_
       obtain ⟨fj,fk,c⟩:=zD c
       refine Mx.zI rfl rfl rfl (fun w' hw'=>xM (a:=fh) (b:=1) rfl rfl fk) ?_
       obtain ⟨fm,fn,c⟩:=zD c
       refine Mx.zI rfl rfl rfl (fun w' hw'=>zQ (wH (a:=fe) (b:=fj) rfl rfl) fn) ?_
       refine Mx.XL_splitb (b:=fm) rfl rfl rfl rfl (fun a9=>?_) (fun a9=>?_)
       ·have c:=zS a9 c
        refine Mx.XL_offp rfl rfl rfl ?_
        refine Mx.XL_offp rfl rfl rfl ?_
        refine Mx.XL_offp rfl rfl rfl ?_
        refine Mx.XL_offr oS rfl rfl rfl ?_
        refine Mx.XL_offp rfl rfl rfl ?_
        refine Mx.XL_offp rfl rfl rfl ?_
        refine Mx.XL_offp rfl rfl rfl ?_
        refine Mx.XL_offr oS rfl rfl rfl ?_
        refine Mx.XL_offp rfl rfl rfl ?_
        refine Mx.XL_offp rfl rfl rfl ?_
        refine Mx.XL_offp rfl rfl rfl ?_
        refine Mx.XL_offp rfl rfl rfl ?_
        refine Mx.XL_offr oS rfl rfl rfl ?_
        refine Mx.XL_offp rfl rfl rfl ?_
        refine Mx.zI rfl rfl rfl (fun w' hw'=>yL (v:= .bool true) rfl rfl) ?_
        refine Mx.xK fun jc hS=>?_
        have H:=H.sees hS
        have H:=bu.rejoin H
        obtain rfl:=someI c
        exact (zA (meet ⟨(),(zL rfl zM),H.pick [0,1,2,3,4,5,6,7,8,9,10] (by decide)⟩))
       have c:=zT a9 c
       refine Mx.zI rfl rfl rfl (fun w' hw'=>yM (v:=I) rfl) ?_
       refine Mx.zI rfl rfl rfl (fun w' hw'=>yM (v:= .int .i64 J) rfl) ?_
       obtain ⟨bv,ba,c⟩:=zF c
       obtain ⟨jd,je,fo,fp,fq,fr⟩:=own_at (H.item (i:=5) rfl) ba
       obtain rfl:fo= [.int .i64 bv]:=fq
       refine Mx.zI rfl rfl rfl (fun w' hw'=>xE u38 sz3 fp rfl (yE ba).1 (yE ba).2.1 rfl rfl) ?_
       refine Mx.yO oS rfl rfl rfl (fun w' hw'=>zN one3 rfl (Cells.get (fr.sees hw') (i:=0) rfl)) ?_
       refine Mx.zI rfl rfl rfl (fun w' hw'=>yM (v:=j) rfl) ?_
       refine Mx.zI rfl rfl rfl (fun w' hw'=>yM (v:= .int .i64 J) rfl) ?_
       obtain ⟨fs,bb,c⟩:=zF c
       obtain ⟨ft,fu,jf,jg,fv,fw,fx,fy,f0⟩:=rd_at (H.item (i:=3) rfl) bb
       obtain ⟨f1,rfl,f4⟩:=fw
       have H:=H.fzs [.at ft (fu+J.toNat * 1) _,.sl (Rp.int .i64) f1 fs] ⟨⟨fx,fy,f0⟩,f4,trivial⟩
       refine Mx.zI rfl rfl rfl (fun w' hw'=>xE u28 sz38 fv rfl (yE bb).1 (yE bb).2.1 rfl rfl) ?_
       refine Mx.yO oS rfl rfl rfl (fun w' hw'=>zN one38 rfl (Cells.get ((H.sees hw').item (i:=13) rfl).2.2 (i:=0) rfl)) ?_
       refine Mx.zI rfl rfl rfl (fun w' hw'=>yM (v:= .int .i64 E) rfl) ?_
       refine Mx.zI rfl rfl rfl (fun w' hw'=>yM (v:= .int .i64 u) rfl) ?_
       obtain ⟨f5,f6,c⟩:=zD c
       refine Mx.zI rfl rfl rfl (fun w' hw'=>Do_sub (a:=E) (b:=u) rfl rfl f6) ?_
       obtain ⟨bw,bc,c⟩:=zF c
       obtain ⟨f7,f8,jh,f9,ga,gb,gc,gd,ge⟩:=rd_at (H.item (i:=14) rfl) bc
       obtain rfl:f9= [.int .i64 bw]:=gb
       have H:=H.fz (.at f7 (f8+f5.toNat * 1) _) ⟨gc,gd,ge⟩
       refine Mx.zI rfl rfl rfl (fun w' hw'=>xE u38 sz3 ga rfl (yE bc).1 (yE bc).2.1 rfl rfl) ?_
       refine Mx.yO oS rfl rfl rfl (fun w' hw'=>zN one3 rfl (Cells.get ((H.sees hw').item (i:=15) rfl).2.2 (i:=0) rfl)) ?_
       obtain ⟨gf,gg,c⟩:=zD c
       refine Mx.zI rfl rfl rfl (fun w' hw'=>zQ (wH (a:=bv) (b:=bw) rfl rfl) gg) ?_
       refine Mx.zI rfl rfl rfl (fun w' hw'=>yJ (v:= .bool gf) rfl rfl) ?_
       refine Mx.xK fun ji hS=>?_
       have H:=H.sees hS
       have H:=bu.rejoin H
       obtain rfl:=someI c
       exact (zA (meet ⟨(),(zL rfl zM),H.pick [0,1,2,3,4,5,6,7,8,9,10] (by decide)⟩))
      rintro _ ρ jj H
      have c:=e3
      refine zZ (b:=bt) rfl (fun bd=>?_) (fun bd=>?_)
      ·have c:=zS bd c
       refine zC fun jk gh=>zB ?_
       refine zK (.bool false)<| (zG (zA (gh _ _ ?_)))
       obtain rfl:=someI c
       refine (zY (yF (zV (zV (yF (zV (yF (zV (zV (yF (zV (post1 (v1:= .bool false) rfl rfl ?_))))))))))))
       exact ⟨rfl,H.pick [] (by decide)⟩
      have c:=zT bd c
      refine (yA (yP (zA (e2 _ _ ?_))))
      refine zB ?_
      refine zJ (.int .i64 J) ?_
      obtain ⟨bx,gi,c⟩:=zD c
      refine zH (xM (a:=J) (b:=1) rfl rfl gi)<| zK (.int .i64 bx) ?_
      exact (zG (zA (meet ⟨(et,bx),(zL rfl zM),⟨H.pick [0,1,2,3,4,5,6,7,8,9,10] (by decide),c⟩,Nat.lt_succ_self _⟩)))
     have c:=zT a7 c
     exact (xO (yQ (yQ (yZ (zA (meet ⟨(),zM,⟨H.pick [0,1,2,3,4,6,7,8,9,10] (by decide),c⟩⟩))))))
    rintro _ ρ jl ⟨H,c⟩
    have c:=wJ eo c
    refine zC fun jm gj=>zB ?_
    refine zH (xW (cs:=[.slice none 0 0]) bz63)<| yY rfl rfl (xX (cs:=[.slice none 0 0]) rfl H) ?_
    rintro _ jn ⟨F,rfl,H⟩
    refine zH (xW (cs:=[.slice none 0 0]) bz63)<| yY rfl rfl (xX (cs:=[.slice none 0 0]) rfl H) ?_
    rintro _ gl ⟨G,rfl,H⟩
    refine zK (ptr0 F)<| zK (ptr0 G)<| (zG (zA (gj _ _ ?_)))
    have H:Hd O w gl S [.fz (.sl rTrack h k),.fz (.at 1 0 ((Fl.arr 4 (Fl.int .u16)).f yT)),.fz (.at 3 0 ((Fl.arr 20 (Fl.int .u64)).f zO)),.fz (.sl (Rp.sl (Rp.int .i64)) j s),.own (Rp.sl Rp.str) l 22 t,.fz (.sl Rp.str m d.phases),.tr rowEM [n] P d.moves,.tr rowNd [o] Q d.rules,.fz (.sl Rp.bool q d.possible),.blk y [m,.int .i64 d.tracks,n,o,q] 146,.blk F [.slice none 0 0] 63,.blk G [.slice none 0 0] 63]:=H
    refine zC fun jo gm=>zB ?_
    refine zJ (ptr0 F)<| zJ (ptr0 y) ?_
    obtain ⟨aj,gn,c⟩:=zF c
    refine yG rfl rfl (yC en27 rfl) (Fagw (EventWatch.mk d.phases d.tracks d.moves d.rules d.possible) y m n P o Q q _ gn _ _ _ (H.enter [6,7,9] [5,8] (by decide) rfl)) ?_
    rintro _ go ⟨ak,ab,ac,rfl,gp⟩
    have H:Hd _ _ go _ [.fz (.sl rTrack h k),.fz (.at 1 0 ((Fl.arr 4 (Fl.int .u16)).f yT)),.fz (.at 3 0 ((Fl.arr 20 (Fl.int .u64)).f zO)),.fz (.sl (Rp.sl (Rp.int .i64)) j s),.own (Rp.sl Rp.str) l 22 t,.fz (.sl Rp.str m d.phases),.fz (.sl Rp.bool q d.possible),.blk F [.slice none 0 0] 63,.blk G [.slice none 0 0] 63,.own Rp.str ak 9 aj,.tr rowEM [n] ab d.moves,.tr rowNd [o] ac d.rules,.blk y [m,.int .i64 d.tracks,n,o,q] 146]:=H.back [6,7,9] [5,8] rfl gp
    refine ⟨_,rfl,?_⟩
    have H:=own_nil H (Rp.int .u8) 5
    have H:=H.freeze (i:=9) rfl
    obtain ⟨ad,gq,c⟩:=zF c
    refine yG rfl rfl (yC en26 rfl) (Faww (Orangeboxref0Ink.mk []) aj F (.slice none 0 0) ak _ gq _ _ _ (H.enter [13,7] [9,2] (by decide) rfl)) ?_
    rintro _ gr ⟨al,rfl,gs⟩
    have H:Hd _ _ gr _ [.fz (.sl rTrack h k),.fz (.at 1 0 ((Fl.arr 4 (Fl.int .u16)).f yT)),.fz (.at 3 0 ((Fl.arr 20 (Fl.int .u64)).f zO)),.fz (.sl (Rp.sl (Rp.int .i64)) j s),.own (Rp.sl Rp.str) l 22 t,.fz (.sl Rp.str m d.phases),.fz (.sl Rp.bool q d.possible),.blk G [.slice none 0 0] 63,.fz (.sl Rp.str ak aj),.tr rowEM [n] ab d.moves,.tr rowNd [o] ac d.rules,.blk y [m,.int .i64 d.tracks,n,o,q] 146,.own (Rp.int .u8) al 5 ad.out,.blk F [al] 63]:=H.back [13,7] [9,2] rfl gs
    refine ⟨_,rfl,?_⟩
    refine (zG (zA (gm _ _ ?_)))
    refine zC fun jp gt=>zB ?_
    refine zJ (ptr0 G)<| zJ l<| zJ (.int .i64 E)<| zJ (.int .i64 u) ?_
    obtain ⟨jq,gu,c⟩:=zD c
    refine zH (Do_sub (a:=E) (b:=u) rfl rfl gu) ?_
    obtain ⟨be,bf,c⟩:=zF c
    obtain ⟨jr,js,jt,gv,gw,gx⟩:=own_at (H.item (i:=4) rfl) bf
    obtain ⟨bg,rfl,gy⟩:=gw
    have H:=H.fzs [.sl Rp.str bg be] ⟨gy,trivial⟩
    refine zH (xE u41 sz22 gv rfl (yE bf).1 (yE bf).2.1 rfl rfl)<| zH (zN one22 rfl (Cells.get gx (i:=0) rfl)) ?_
    have H:=own_nil H (Rp.int .u8) 5
    obtain ⟨am,gz,c⟩:=zF c
    refine yG rfl rfl (yC en26 rfl) (Faww (Orangeboxref0Ink.mk []) be G (.slice none 0 0) bg _ gz _ _ _ (H.enter [15,7] [14,2] (by decide) rfl)) ?_
    rintro _ g0 ⟨bz,rfl,g1⟩
    have H:Hd _ _ g0 _ [.fz (.sl rTrack h k),.fz (.at 1 0 ((Fl.arr 4 (Fl.int .u16)).f yT)),.fz (.at 3 0 ((Fl.arr 20 (Fl.int .u64)).f zO)),.fz (.sl (Rp.sl (Rp.int .i64)) j s),.own (Rp.sl Rp.str) l 22 t,.fz (.sl Rp.str m d.phases),.fz (.sl Rp.bool q d.possible),.fz (.sl Rp.str ak aj),.tr rowEM [n] ab d.moves,.tr rowNd [o] ac d.rules,.blk y [m,.int .i64 d.tracks,n,o,q] 146,.own (Rp.int .u8) al 5 ad.out,.blk F [al] 63,.fz (.sl Rp.str bg be),.own (Rp.int .u8) bz 5 am.out,.blk G [bz] 63]:=H.back [15,7] [14,2] rfl g1
    refine ⟨_,rfl,?_⟩
    refine (zG (zA (gt _ _ ?_)))
    refine zC fun ju g2=>zB ?_
    refine zJ (ptr0 F) ?_
    have g3:=H
    have H:=H.freezeB (i:=12) rfl
    have H:=H.freeze (i:=11) rfl
    have H:=H.fz (.pt rOrangeboxref0Ink (some ⟨F,0,none⟩) (some ad)) ⟨_,_,_,rfl,(H.item (i:=12) rfl).1,(H.item (i:=12) rfl).2.1,(rOrangeboxref0Ink_mk (x:=ad) (H.item (i:=11) rfl)),(H.item (i:=12) rfl).2.2⟩
    obtain ⟨g4,g5,c⟩:=zF c
    refine yG rfl rfl (yC en28 rfl) (Fcpw (some ad) (some ⟨F,0,none⟩) _ g5 _ _ _ (H.enter [] [16] (by decide) rfl)) ?_
    rintro _ jv ⟨rfl,g6⟩
    have H:=g3.step (g6.only:Only [] _ _)
    refine ⟨_,rfl,?_⟩
    refine zJ (ptr0 G) ?_
    have g7:=H
    have H:=H.freezeB (i:=15) rfl
    have H:=H.freeze (i:=14) rfl
    have H:=H.fz (.pt rOrangeboxref0Ink (some ⟨G,0,none⟩) (some am)) ⟨_,_,_,rfl,(H.item (i:=15) rfl).1,(H.item (i:=15) rfl).2.1,(rOrangeboxref0Ink_mk (x:=am) (H.item (i:=14) rfl)),(H.item (i:=15) rfl).2.2⟩
    obtain ⟨g8,g9,c⟩:=zF c
    refine yG rfl rfl (yC en28 rfl) (Fcpw (some am) (some ⟨G,0,none⟩) _ g9 _ _ _ (H.enter [] [16] (by decide) rfl)) ?_
    rintro _ ha ⟨rfl,hb⟩
    have H:=g7.step (hb.only:Only [] _ _)
    refine ⟨_,rfl,?_⟩
    obtain ⟨hc,he,c⟩:=zD c
    refine zH (zQ (Do_neqs (s1:=g4) (s2:=g8) rfl rfl) he)<| (zG (zA (g2 _ _ ?_)))
    have H:Hd O w ha S [.fz (.sl rTrack h k),.fz (.at 1 0 ((Fl.arr 4 (Fl.int .u16)).f yT)),.fz (.at 3 0 ((Fl.arr 20 (Fl.int .u64)).f zO)),.fz (.sl (Rp.sl (Rp.int .i64)) j s),.own (Rp.sl Rp.str) l 22 t,.fz (.sl Rp.str m d.phases),.fz (.sl Rp.bool q d.possible),.tr rowEM [n] ab d.moves,.tr rowNd [o] ac d.rules,.blk y [m,.int .i64 d.tracks,n,o,q] 146]:=H.pick [0,1,2,3,4,5,6,8,9,10] (by decide)
    refine zZ (b:=hc) rfl (fun bh=>?_) (fun bh=>?_)
    ·have c:=zS bh c
     refine zC fun jw hf=>zB ?_
     refine zK (.bool false)<| (zG (zA (hf _ _ ?_)))
     obtain rfl:=someI c
     refine (zY (yF (zV (zV (yF (zV (post1 (v1:= .bool false) rfl rfl ?_)))))))
     exact ⟨rfl,H.pick [] (by decide)⟩
    have c:=zT bh c
    exact (yA (yP (zA (meet ⟨(d.phases,d.tracks,d.moves,d.rules,d.possible,y,m,n,ab,o,ac,q),(zL rfl zM),⟨H.pick [9,5,7,8,6,0,1,2,3,4] (by decide),c⟩⟩))))
   rintro ⟨R,T,ae,af,U,an,V,ao,hg,ap,hh,X⟩ ρ jx ⟨H,c⟩
   have c:=wJ du c
   refine zB ?_
   refine zJ (.int .i64 E) ?_
   obtain ⟨b0,hi,c⟩:=zD c
   refine zH (xM (a:=E) (b:=1) rfl rfl hi)<| zK (.int .i64 b0) ?_
   have H:Hd _ _ _ _ [.blk an [V,.int .i64 T,ao,ap,X] 146,.fz (.sl Rp.str V R),.tr rowEM [ao] hg ae,.tr rowNd [ap] hh af,.fz (.sl Rp.bool X U),.fz (.sl rTrack h k),.fz (.at 1 0 ((Fl.arr 4 (Fl.int .u16)).f yT)),.fz (.at 3 0 ((Fl.arr 20 (Fl.int .u64)).f zO)),.fz (.sl (Rp.sl (Rp.int .i64)) j s),.own (Rp.sl Rp.str) l 22 t]:=H
   obtain ⟨hj,H⟩:=rtEventWatch_mk (x:=EventWatch.mk R T ae af U) H 2 3 rfl rfl (H.item (i:=1) rfl) (H.item (i:=4) rfl) (by decide)
   have H:Hd _ _ _ _ [.blk an [V,.int .i64 T,ao,ap,X] 146,.fz (.sl Rp.str V R),.fz (.sl Rp.bool X U),.fz (.sl rTrack h k),.fz (.at 1 0 ((Fl.arr 4 (Fl.int .u16)).f yT)),.fz (.at 3 0 ((Fl.arr 20 (Fl.int .u64)).f zO)),.fz (.sl (Rp.sl (Rp.int .i64)) j s),.own (Rp.sl Rp.str) l 22 t,.tr rtEventWatch [V,.int .i64 T,ao,ap,X] hj (EventWatch.mk R T ae af U)]:=H
   obtain ⟨b1,H⟩:=H.opt_mk 8 0 rfl rfl (by decide)
   have H:Hd _ _ _ _ [.fz (.sl Rp.str V R),.fz (.sl Rp.bool X U),.fz (.sl rTrack h k),.fz (.at 1 0 ((Fl.arr 4 (Fl.int .u16)).f yT)),.fz (.at 3 0 ((Fl.arr 20 (Fl.int .u64)).f zO)),.fz (.sl (Rp.sl (Rp.int .i64)) j s),.own (Rp.sl Rp.str) l 22 t,.tr (Rt.opt rtEventWatch 146) [(ptr0 an)] b1 (some (EventWatch.mk R T ae af U))]:=H
   exact (zG (zA (meet ⟨(dn,(some (EventWatch.mk R T ae af U)),b0,b1,(ptr0 an)),(zL rfl (zL rfl zM)),⟨H.pick [7,2,3,4,5,6] (by decide),c⟩,Nat.lt_succ_self _⟩)))
  have c:=zT a0 c
  exact (xO (yQ (yQ (yZ (zA (meet ⟨(),zM,⟨H.pick [2,3] (by decide),c⟩⟩))))))
 rintro _ ρ jy ⟨H,c⟩
 have c:=wJ di c
 refine zC fun jz hk=>zB ?_
 refine zK (.bool true)<| (zG (zA (hk _ _ ?_)))
 obtain rfl:=someI c
 refine (zY (post1 (v1:= .bool true) rfl rfl ?_))
 exact ⟨rfl,H.pick [] (by decide)⟩
end Go.Proofs.YtckmiljbaejijaaGreatDoor.L
