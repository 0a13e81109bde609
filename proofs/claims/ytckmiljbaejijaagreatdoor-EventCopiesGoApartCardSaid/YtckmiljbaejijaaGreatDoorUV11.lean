/- Walks: what each function computes, for every argument; no condition but those that stand in the statements. -/
import Derived.Test.YtckmiljbaejijaaGreatDoorUV0
import Derived.Test.YtckmiljbaejijaaGreatDoorUV3
import Derived.Test.YtckmiljbaejijaaGreatDoorUV10
namespace Go.Proofs.YtckmiljbaejijaaGreatDoor.L
open Go.RowKit Go.OB Go.Lf
set_option maxHeartbeats 4000000
theorem Fblw (d:gW)(s:Nat)(h:Value)(k:Value)(ax:List Nat)(l:Value)(C:List Nat)(j:Value)(r:gW)(m:Fbl d=some r)(O S:List Nat)(w:World)(H:Hd O w w S [.tr fJ [k] ax d.moves,.tr fG [l] C d.rules,.blk s [h,i6 d.tracks,k,l,j] 146,f1 Rp.str h d.phases,f1 Rp.bool j d.possible]):
  Cl 39 [gU s] w fun e t=> ∃ay az a0 bl a1 bm a2 bn bo,e= .returned (gU ay)∧Hd O w t S [f1 Rp.str az r.phases,.tr fJ [a0] bl r.moves,.tr fG [a1] bm r.rules,f1 Rp.bool a2 r.possible,.blk ay [az,i6 r.tracks,a0,a1,a2] 146,.tr fJ [k] bn d.moves,.tr fG [l] bo d.rules,.blk s [h,i6 d.tracks,k,l,j] 146]:=by
 unfold Fbl at m
 refine zS 73 Tryz.func39 rfl rfl rfl ?_
 refine zC fun d0 bp=>zA<| zK (.pointer none)<| zF (zB (bp _ _ ?_))
 refine zC fun d1 bq=>?_
 have br:=H
 have H:=H.rebase
 have d2:=H
 refine WP_mix H [0,1,2,3,5,6,7,8,9,10,11,12,4,13,14,15,16] (kz [0,0,0,1,2,0,0,0,1,0,0,0,1,2,0,2,0]) mixed ?_
 refine XM (gU s)<| XP (fun _ _=>zN rfl)<| XP (fun _ _=>fa146_0 rfl)<| XR one22 H 2 0 rfl rfl<| XM (gU s)<| XP (fun _ _=>zN rfl)<| XP (fun _ _=>fa146_1 rfl)<| XR fU H 2 1 rfl rfl<| XM (gU s)<| XP (fun _ _=>zN rfl)<| XP (fun _ _=>fa146_4 rfl)<| XR one144 H 2 4 rfl rfl ?_
 obtain ⟨u,bt,m⟩:=zD m
 refine MxM.XL_newC oS rfl rfl rfl (fun t p=>zV en100 rfl) (fun t p=>Fbxw d.phases h _ bt _ _ _ ((H.sees p).enter [] [3] (by decide) rfl)) ?_
 rintro t _ d3 p ⟨n,rfl,a3⟩
 have H:=(H.sees p).back1 [3] rfl a3
 refine ⟨_,rfl,(a3.only:Only [] _ _).below,?_⟩
 obtain ⟨y,bu,m⟩:=zD m
 refine MxM.XL_newC oS rfl rfl rfl (fun t p=>zV en101 rfl) (fun t p=>Fc2w d.possible j _ bu _ _ _ ((H.sees p).enter [] [4] (by decide) rfl)) ?_
 rintro t _ d4 p ⟨o,rfl,a4⟩
 have H:=(H.sees p).back1 [4] rfl a4
 refine ⟨_,rfl,(a4.only:Only [] _ _).below,?_⟩
 obtain ⟨bv,bw,bx⟩: ∃a c,n= .slice a _ c:=Sr.len (Sr.of_own (H.item (i:=5) rfl))
 obtain ⟨bz,b0,b1⟩: ∃a c,o= .slice a _ c:=Sr.len (Sr.of_own (H.item (i:=6) rfl))
 refine XP (fun _ _=>xM (cs:=[n,i6 d.tracks,.slice none 0 0,.slice none 0 0,o]) (by rw [bx,b1]; exact bt146_0_1_4 bv _ bw _ bz _ b0))<| MxM.XL_exN oS rfl rfl rfl (fun t p=>Ls_of (xW (cs:=[n,i6 d.tracks,.slice none 0 0,.slice none 0 0,o]) rfl (H.sees p)) (Ys_box (cs:=[n,i6 d.tracks,.slice none 0 0,.slice none 0 0,o]) rfl)) ?_
 rintro t _ d5 p ⟨z,rfl,H⟩
 refine XP (fun _ _=>xO (v:=gU z) rfl)<| MxM.xI fun d6 hS=>?_
 have H:=H.sees hS
 have H:=br.rejoin H
 refine (zB (bq _ _ ?_))
 obtain ⟨D,m,b2⟩:=zD m
 refine yL [5,24,25,26,27,28,29,30,31,32,33,34,35,36,37,38,39,40,41,42,43,44,45,46,47,48,49,50] (fun (g:(List Nat)×Value×(List Nat))=>[]) (fun g wl=>Hd O w wl S [.tr fJ [k] g.1 d.moves,.tr fG [l] C d.rules,.blk s [h,i6 d.tracks,k,l,j] 146,f1 Rp.str h d.phases,f1 Rp.bool j d.possible,.own Rp.str n 9 u,.own Rp.bool o 4 y,.blk z [n,i6 d.tracks,g.2.1,.slice none 0 0,o] 146,.tr fJ [g.2.1] g.2.2 D]) ?_ ?_
 ·skip
  refine zC fun d7 b3=>zA<| zI (gU s)<| zH (zN rfl)<| zH (fa146_2 rfl)<| Ld one142 H 2 2 rfl rfl ?_
  obtain ⟨b4,b5,m⟩:=zG m
  obtain ⟨d8,d9,b6⟩:=kN ((H.item (i:=0) rfl))
  refine zH (yJ (xN u142 b6) (congrArg (Value.int .i64) b5))<| zI (i6 0)<| zF (zB (b3 _ _ ?_))
  refine yF ?_
  have H:=row_nil H fK 172
  unfold Fdr at m
  obtain ⟨b7,a5,b8,m⟩:=yR m
  refine xG [5,29,30,31,32,33,34,35,36,37,38,39,40,41,42,43,44,45,46,47,48,49,50] (fun (g:Nat×Int×(List fM)×(List Nat)×Value×(List Nat))=>[(29,i6 g.2.1)]) (fun g wl=>Hd O w wl S [.tr fJ [k] g.2.2.2.1 d.moves,.tr fG [l] C d.rules,.blk s [h,i6 d.tracks,k,l,j] 146,f1 Rp.str h d.phases,f1 Rp.bool j d.possible,.own Rp.str n 9 u,.own Rp.bool o 4 y,.blk z [n,i6 d.tracks,g.2.2.2.2.1,.slice none 0 0,o] 146,.tr fJ [g.2.2.2.2.1] g.2.2.2.2.2 g.2.2.1]∧eF b7 g.1 (g.2.1,g.2.2.1)=some D) (fun g=>g.1) (a5,0,[],ax,.slice none 0 0,[]) (zL rfl zO) ⟨H.pick [0,1,2,3,4,5,6,7,8] (by decide),m⟩ ?_
  clear H m
  rintro ⟨a5,E,U,b9,F,R⟩ ρ ea ⟨H,m⟩
  obtain ⟨ca,rfl,m⟩:=yX m
  have m:=yY b8 m
  refine zC fun eb cb=>zA ?_
  obtain ⟨cc,cd,m⟩:=zG m
  refine zH (zQ (xR (a:=E) (b:=b4) rfl rfl) cd)<| zF (zB (cb _ _ ?_))
  refine zC fun ec ce=>?_
  refine yC (b:=cc) rfl (fun an=>?_) (fun an=>?_)
  ·have m:=zT an m
   refine yB (zB (ce _ _ ?_))
   refine zC fun ed cf=>?_
   refine yF ?_
   refine zC fun ee cg=>zA ?_
   obtain ⟨f,ag,m⟩:=zD m
   obtain ⟨ef,eg,eh,ao⟩:=kG (H.item (i:=0) rfl) ag
   refine zH (xJ u142 sz172 ao rfl (yE ag).1 (yE ag).2.1 rfl rfl) ?_
   obtain ⟨ei,K,ej,H⟩:=H.focusV 0 rfl ao ag rfl
   obtain ⟨q,ac,rfl,H⟩:=rtEventMove_open H 9 rfl
   have H:Hd _ _ _ _ [.tr fG [l] C d.rules,.blk s [h,i6 d.tracks,k,l,j] 146,f1 Rp.str h d.phases,f1 Rp.bool j d.possible,.own Rp.str n 9 u,.own Rp.bool o 4 y,.blk z [n,i6 d.tracks,F,.slice none 0 0,o] 146,.tr fJ [F] R U,.tr (Rt.row fK 172 [(E.toNat,[i6 f.from_,i6 f.to,q])]) [k] K d.moves,.tr gY [q] ac f.when]:=H
   refine zH (yJ (yM (cs:=[i6 f.from_,i6 f.to,q]) agg172 rfl sz172 rfl (H.holeW 8 rfl ao ag rfl dK)) rfl)<| yP rfl rfl (xH zero172 H) ?_
   rintro _ ek ⟨V,rfl,H⟩
   refine yV rfl (yQ (vs:=[i6 f.from_,i6 f.to,q]) H 10 rfl sz172 rfl rfl rfl ⟨rfl,rfl,(bF (H.item (i:=9) rfl)),trivial⟩ rfl) ?_
   rintro ai H
   refine zF (zB (cg _ _ ?_))
   have ch:=H
   have H:=H.rebase
   have ci:=H
   have aj:Hd (O++bks (rest [0,1,4,5,7,8,9] [.tr fG [l] C d.rules,.blk s [h,i6 d.tracks,k,l,j] 146,f1 Rp.str h d.phases,f1 Rp.bool j d.possible,.own Rp.str n 9 u,.own Rp.bool o 4 y,.blk z [n,i6 d.tracks,F,.slice none 0 0,o] 146,.tr fJ [F] R U,.tr (Rt.row fK 172 [(E.toNat,[i6 f.from_,i6 f.to,q])]) [k] K d.moves,.tr gY [q] ac f.when,.blk V [i6 f.from_,i6 f.to,q] 172])) ai ai (bks (Go.Lf.pick ([0,1,4,5,7,8,9]++ [2,3]) [.tr fG [l] C d.rules,.blk s [h,i6 d.tracks,k,l,j] 146,f1 Rp.str h d.phases,f1 Rp.bool j d.possible,.own Rp.str n 9 u,.own Rp.bool o 4 y,.blk z [n,i6 d.tracks,F,.slice none 0 0,o] 146,.tr fJ [F] R U,.tr (Rt.row fK 172 [(E.toNat,[i6 f.from_,i6 f.to,q])]) [k] K d.moves,.tr gY [q] ac f.when,.blk V [i6 f.from_,i6 f.to,q] 172])) [.tr fG [l] C d.rules,.blk s [h,i6 d.tracks,k,l,j] 146,.own Rp.str n 9 u,.own Rp.bool o 4 y,.tr fJ [F] R U,.tr (Rt.row fK 172 [(E.toNat,[i6 f.from_,i6 f.to,q])]) [k] K d.moves,.tr gY [q] ac f.when,f1 Rp.str h d.phases,f1 Rp.bool j d.possible]:=H.enter [0,1,4,5,7,8,9] [2,3] (by decide) rfl
   have cj:=H.firmB aj (i:=6) rfl (List.mem_append_right _ List.mem_cons_self)
   have ap:=H.firmB aj (i:=10) rfl (List.mem_append_right _ (List.mem_cons_of_mem _ List.mem_cons_self))
   refine WP_forkM H aj [1,2,3,4,5,6,7,8,9,10,11,12,13] 0 14 [15,16] [17] [.pure,.pure,.pure,.pure,.pure,.pure,.pure,.pure,.pure,.pure,.pure,.eff,.pure,.eff,.eff,.pure,.pure,.eff] ⟨trivial,trivial,trivial,trivial,trivial,trivial,trivial,trivial,trivial,trivial,trivial,trivial,trivial,trivial,trivial,trivial,trivial,trivial,trivial⟩ mixed (by kernel_rfl) (by kernel_rfl) (by kernel_rfl) (by kernel_rfl) (by kernel_rfl) (by decide) ?_
   have H:=aj
   refine XM (gU z)<| XP (fun _ _=>zN rfl)<| XP (fun _ _=>fa146_2 rfl)<| XP (fun t p=>xA one142 rfl (Cells.get (Blk.cells (cj t p)) (i:=2) rfl))<| XP (fun _ _=>fa172_0 rfl)<| XP (fun t p=>xA fU rfl (Cells.get (Blk.cells (ap t p)) (i:=0) rfl))<| XP (fun _ _=>fa172_1 rfl)<| XP (fun t p=>xA fU rfl (Cells.get (Blk.cells (ap t p)) (i:=1) rfl)) ?_
   refine XP (fun _ _=>fa172_2 rfl)<| XP (fun t p=>xA bP rfl (Cells.get (Blk.cells (ap t p)) (i:=2) rfl)) ?_
   obtain ⟨ck,cl,a6⟩:=Fat (H.item (i:=6) rfl)
   obtain ⟨ak,cm,m⟩:=zD m
   refine MxM.XL_effC oS rfl rfl rfl (fun t p=>aA a6 rfl rfl) (fun t p=>Fgb f.when q ac ck cl a6 _ cm _ _ _ ((H.sees p).enter [6] [] (by decide) rfl)) ?_
   rintro t _ cn p ⟨al,co,Z,rfl,cp⟩
   have H:Hd _ _ cn _ [.tr fG [l] C d.rules,.blk s [h,i6 d.tracks,k,l,j] 146,.own Rp.str n 9 u,.own Rp.bool o 4 y,.tr fJ [F] R U,.tr (Rt.row fK 172 [(E.toNat,[i6 f.from_,i6 f.to,q])]) [k] K d.moves,f1 Rp.str h d.phases,f1 Rp.bool j d.possible,.tr gY [al] co ak,.tr gY [q] Z f.when]:=(H.sees p).back [6] [] rfl cp
   refine ⟨_,rfl,H.only,?_⟩
   obtain ⟨cq,cr,ct⟩:=nd_if (H.item (i:=8) rfl)
   refine XP (fun _ _=>xM (cs:=[i6 f.from_,i6 f.to,al]) (by rw [ct]; exact bt172_0_1_2 _ _ cq cr)) ?_
   obtain ⟨cu,H⟩:=aH (x:=fM.mk f.from_ f.to ak) H 8 rfl
   have H:Hd _ _ _ _ [.tr fG [l] C d.rules,.blk s [h,i6 d.tracks,k,l,j] 146,.own Rp.str n 9 u,.own Rp.bool o 4 y,.tr fJ [F] R U,.tr (Rt.row fK 172 [(E.toNat,[i6 f.from_,i6 f.to,q])]) [k] K d.moves,f1 Rp.str h d.phases,f1 Rp.bool j d.possible,.tr gY [q] Z f.when,.tr fK [i6 f.from_,i6 f.to,al] cu (fM.mk f.from_ f.to ak)]:=H
   refine MxM.XL_ex oS rfl rfl rfl (fun t p=>Lx_bsT1 (H.sees p) 9 rfl u142 el172 (by decide) (by decide) (xP (vs:=[.agg [i6 f.from_,i6 f.to,al].toArray]) (by decide) rfl rfl ⟨rfl,trivial⟩ rfl)) ?_
   rintro t cv el p ⟨cw,H⟩
   refine ⟨H.only,?_⟩
   have H:Hd _ _ _ _ [.tr fG [l] C d.rules,.blk s [h,i6 d.tracks,k,l,j] 146,.own Rp.str n 9 u,.own Rp.bool o 4 y,.tr fJ [F] R U,.tr (Rt.row fK 172 [(E.toNat,[i6 f.from_,i6 f.to,q])]) [k] K d.moves,f1 Rp.str h d.phases,f1 Rp.bool j d.possible,.tr gY [q] Z f.when,.tr fJ [cv] cw [fM.mk f.from_ f.to ak]]:=H
   refine MxM.xI fun em hS=>?_
   have H:=H.sees hS
   obtain ⟨aa,a7,m⟩:=zD m
   refine MxM.XL_join (du:=33) (dv:=47) (fun g1 g2 wl=> ∃(M:Value) (T:List Nat),gU z=g1∧M=g2∧Hd (O++bks (rest [0,1,4,5,7,8,9] [.tr fG [l] C d.rules,.blk s [h,i6 d.tracks,k,l,j] 146,f1 Rp.str h d.phases,f1 Rp.bool j d.possible,.own Rp.str n 9 u,.own Rp.bool o 4 y,.blk z [n,i6 d.tracks,F,.slice none 0 0,o] 146,.tr fJ [F] R U,.tr (Rt.row fK 172 [(E.toNat,[i6 f.from_,i6 f.to,q])]) [k] K d.moves,.tr gY [q] ac f.when,.blk V [i6 f.from_,i6 f.to,q] 172])) ai wl (bks (Go.Lf.pick ([0,1,4,5,7,8,9]++ [2,3]) [.tr fG [l] C d.rules,.blk s [h,i6 d.tracks,k,l,j] 146,f1 Rp.str h d.phases,f1 Rp.bool j d.possible,.own Rp.str n 9 u,.own Rp.bool o 4 y,.blk z [n,i6 d.tracks,F,.slice none 0 0,o] 146,.tr fJ [F] R U,.tr (Rt.row fK 172 [(E.toNat,[i6 f.from_,i6 f.to,q])]) [k] K d.moves,.tr gY [q] ac f.when,.blk V [i6 f.from_,i6 f.to,q] 172])) [.tr fG [l] C d.rules,.blk s [h,i6 d.tracks,k,l,j] 146,.own Rp.str n 9 u,.own Rp.bool o 4 y,.tr (Rt.row fK 172 [(E.toNat,[i6 f.from_,i6 f.to,q])]) [k] K d.moves,f1 Rp.str h d.phases,f1 Rp.bool j d.possible,.tr gY [q] Z f.when,.tr fJ [M] T aa]) ?_ ?_ ?_
   ·skip
    refine XM (gU z)<| MxM.XL_ex oS rfl rfl rfl (fun t p=>Lx_appT (H.sees p) 4 9 rfl rfl (by decide) u142 el172 rfl rfl a7) ?_
    rintro t M en p ⟨T,H⟩
    refine ⟨H.only,?_⟩
    have H:Hd _ _ _ _ [.tr fG [l] C d.rules,.blk s [h,i6 d.tracks,k,l,j] 146,.own Rp.str n 9 u,.own Rp.bool o 4 y,.tr (Rt.row fK 172 [(E.toNat,[i6 f.from_,i6 f.to,q])]) [k] K d.moves,f1 Rp.str h d.phases,f1 Rp.bool j d.possible,.tr gY [q] Z f.when,.tr fJ [M] T aa]:=H
    refine MxM.xI fun eo hS=>?_
    have H:=H.sees hS
    exact ⟨_,_,rfl,H.only,M,T,rfl,rfl,H⟩
   ·skip
    refine MxM.XL_ex oS rfl rfl rfl (fun t p=>Lx_appT (H.sees p) 4 9 rfl rfl (by decide) u142 el172 rfl rfl a7) ?_
    rintro t a8 ep p ⟨a9,H⟩
    refine ⟨H.only,?_⟩
    have H:Hd _ _ _ _ [.tr fG [l] C d.rules,.blk s [h,i6 d.tracks,k,l,j] 146,.own Rp.str n 9 u,.own Rp.bool o 4 y,.tr (Rt.row fK 172 [(E.toNat,[i6 f.from_,i6 f.to,q])]) [k] K d.moves,f1 Rp.str h d.phases,f1 Rp.bool j d.possible,.tr gY [q] Z f.when,.tr fJ [a8] a9 aa]:=H
    refine XM (gU z)<| MxM.xI fun er hS=>?_
    have H:=H.sees hS
    exact ⟨_,_,MxM.upd_comm _ (by decide) _ _,H.only,a8,a9,rfl,rfl,H⟩
   rintro M' _ _ es ⟨M,T,rfl,rfl,H⟩
   refine XP (fun _ _=>zN rfl)<| XP (fun _ _=>fa146_2 rfl)<| MxM.xI fun cx hS=>?_
   have H:=H.sees hS
   have H:=ci.back [0,1,4,5,7,8,9] [2,3] rfl H
   have H:Hd _ _ _ _ [f1 Rp.str h d.phases,f1 Rp.bool j d.possible,.blk z [n,i6 d.tracks,F,.slice none 0 0,o] 146,.blk V [i6 f.from_,i6 f.to,q] 172,.tr fG [l] C d.rules,.blk s [h,i6 d.tracks,k,l,j] 146,.own Rp.str n 9 u,.own Rp.bool o 4 y,.tr (Rt.row fK 172 [(E.toNat,[i6 f.from_,i6 f.to,q])]) [k] K d.moves,f1 Rp.str h d.phases,f1 Rp.bool j d.possible,.tr gY [q] Z f.when,.tr fJ [M] T aa]:=H
   have H:Hd O ai cx (bks [.tr fG [l] C d.rules,.blk s [h,i6 d.tracks,k,l,j] 146,f1 Rp.str h d.phases,f1 Rp.bool j d.possible,.own Rp.str n 9 u,.own Rp.bool o 4 y,.blk z [n,i6 d.tracks,F,.slice none 0 0,o] 146,.tr fJ [F] R U,.tr (Rt.row fK 172 [(E.toNat,[i6 f.from_,i6 f.to,q])]) [k] K d.moves,.tr gY [q] ac f.when,.blk V [i6 f.from_,i6 f.to,q] 172]) [.blk z [n,i6 d.tracks,F,.slice none 0 0,o] 146,.blk V [i6 f.from_,i6 f.to,q] 172,.tr fG [l] C d.rules,.blk s [h,i6 d.tracks,k,l,j] 146,.own Rp.str n 9 u,.own Rp.bool o 4 y,.tr (Rt.row fK 172 [(E.toNat,[i6 f.from_,i6 f.to,q])]) [k] K d.moves,f1 Rp.str h d.phases,f1 Rp.bool j d.possible,.tr gY [q] Z f.when,.tr fJ [M] T aa]:=H.pick [2,3,4,5,6,7,8,9,10,11,12] (by decide)
   refine ⟨H.only,?_⟩
   refine MxM.XL_exU oS rfl rfl (fun t p=>xE (H.sees p) 0 rfl sz142 rfl (v:=M) rfl (bF ((H.sees p).item (i:=10) rfl)) rfl) ?_
   rintro t et p H
   refine ⟨H.only,?_⟩
   refine MxM.xI fun eu hS=>?_
   have H:=H.sees hS
   have H:=ch.rejoin H
   refine yK (zB (cf _ _ ?_))
   refine zA ?_
   obtain ⟨ba,cy,m⟩:=zG m
   refine zH (xQ (a:=E) (b:=1) rfl rfl cy)<| zI (i6 ba) ?_
   have H:Hd _ _ _ _ [.blk z [n,i6 d.tracks,M,.slice none 0 0,o] 146,.blk V [i6 f.from_,i6 f.to,q] 172,.tr fG [l] C d.rules,.blk s [h,i6 d.tracks,k,l,j] 146,.own Rp.str n 9 u,.own Rp.bool o 4 y,.tr (Rt.row fK 172 [(E.toNat,[i6 f.from_,i6 f.to,q])]) [k] K d.moves,f1 Rp.str h d.phases,f1 Rp.bool j d.possible,.tr gY [q] Z f.when,.tr fJ [M] T aa]:=H
   obtain ⟨cz,H⟩:=aH (x:=f) H 9 rfl
   have H:Hd _ _ _ _ [.blk z [n,i6 d.tracks,M,.slice none 0 0,o] 146,.blk V [i6 f.from_,i6 f.to,q] 172,.tr fG [l] C d.rules,.blk s [h,i6 d.tracks,k,l,j] 146,.own Rp.str n 9 u,.own Rp.bool o 4 y,.tr (Rt.row fK 172 [(E.toNat,[i6 f.from_,i6 f.to,q])]) [k] K d.moves,f1 Rp.str h d.phases,f1 Rp.bool j d.possible,.tr fJ [M] T aa,.tr fK [i6 f.from_,i6 f.to,q] cz f]:=H
   obtain ⟨bb,H⟩:=H.unfocus0 6 10 rfl rfl (by decide) rfl rfl ag
   have H:Hd _ _ _ _ [.blk z [n,i6 d.tracks,M,.slice none 0 0,o] 146,.blk V [i6 f.from_,i6 f.to,q] 172,.tr fG [l] C d.rules,.blk s [h,i6 d.tracks,k,l,j] 146,.own Rp.str n 9 u,.own Rp.bool o 4 y,f1 Rp.str h d.phases,f1 Rp.bool j d.possible,.tr fJ [M] T aa,.tr fJ [k] bb d.moves]:=H
   exact (zF (zB (meet ⟨(ca,ba,aa,bb,M,T),(zL rfl zO),⟨H.pick [9,2,3,6,7,4,5,0,8] (by decide),m⟩,Nat.lt_succ_self _⟩)))
  have m:=zU an m
  obtain rfl:=gI m
  exact (xK (yH (yH (yU (zB (meet ⟨(b9,F,R),zO,H.pick [0,1,2,3,4,5,6,7,8] (by decide)⟩))))))
 rintro ⟨G,B,I⟩ ρ ew H
 have m:=b2
 obtain ⟨bc,m,c0⟩:=zD m
 refine yL [7,51,52,53,54,55,56,57,58,59,60,61,62,63,64,65,66,67,68,69,70,71] (fun (g:(List Nat)×Value×(List Nat))=>[]) (fun g wl=>Hd O w wl S [.tr fJ [k] G d.moves,.tr fG [l] g.1 d.rules,.blk s [h,i6 d.tracks,k,l,j] 146,f1 Rp.str h d.phases,f1 Rp.bool j d.possible,.own Rp.str n 9 u,.own Rp.bool o 4 y,.blk z [n,i6 d.tracks,B,g.2.1,o] 146,.tr fJ [B] I D,.tr fG [g.2.1] g.2.2 bc]) ?_ ?_
 ·skip
  refine zC fun ex c1=>zA<| zI (gU s)<| zH (zN rfl)<| zH (fa146_3 rfl)<| Ld one143 H 2 3 rfl rfl ?_
  obtain ⟨c2,c3,m⟩:=zG m
  obtain ⟨ey,ez,c4⟩:=kN ((H.item (i:=1) rfl))
  refine zH (yJ (xN u143 c4) (congrArg (Value.int .i64) c3))<| zI (i6 0)<| zF (zB (c1 _ _ ?_))
  refine yF ?_
  have H:=row_nil H gY 170
  unfold Fd8 at m
  obtain ⟨c5,bd,c6,m⟩:=yR m
  refine xG [7,56,57,58,59,60,61,62,63,64,65,66,67,68,69,70,71] (fun (g:Nat×Int×(List Nd)×(List Nat)×Value×(List Nat))=>[(56,i6 g.2.1)]) (fun g wl=>Hd O w wl S [.tr fJ [k] G d.moves,.tr fG [l] g.2.2.2.1 d.rules,.blk s [h,i6 d.tracks,k,l,j] 146,f1 Rp.str h d.phases,f1 Rp.bool j d.possible,.own Rp.str n 9 u,.own Rp.bool o 4 y,.blk z [n,i6 d.tracks,B,g.2.2.2.2.1,o] 146,.tr fJ [B] I D,.tr fG [g.2.2.2.2.1] g.2.2.2.2.2 g.2.2.1]∧eF c5 g.1 (g.2.1,g.2.2.1)=some bc) (fun g=>g.1) (bd,0,[],C,.slice none 0 0,[]) (zL rfl zO) ⟨H.pick [0,1,2,3,4,5,6,7,8,9] (by decide),m⟩ ?_
  clear H m
  rintro ⟨bd,L,ab,c7,J,X⟩ ρ am ⟨H,m⟩
  obtain ⟨c8,rfl,m⟩:=yX m
  have m:=yY c6 m
  refine zC fun e0 c9=>zA ?_
  obtain ⟨da,db,m⟩:=zG m
  refine zH (zQ (xR (a:=L) (b:=c2) rfl rfl) db)<| zF (zB (c9 _ _ ?_))
  refine zC fun e1 dc=>?_
  refine yC (b:=da) rfl (fun au=>?_) (fun au=>?_)
  ·have m:=zT au m
   refine yB (zB (dc _ _ ?_))
   refine zC fun e2 dd=>?_
   refine yF ?_
   refine zC fun e3 de=>zA ?_
   obtain ⟨N,ah,m⟩:=zD m
   obtain ⟨e4,e5,e6,av⟩:=kG (H.item (i:=1) rfl) ah
   refine zH (xJ u143 sz170 av rfl (yE ah).1 (yE ah).2.1 rfl rfl) ?_
   obtain ⟨e7,P,ad,H⟩:=H.focusV 1 rfl av ah rfl
   obtain ⟨A,rfl⟩:=tr_cell rfl (H.item (i:=10) rfl)
   have H:Hd _ _ _ _ [.tr fJ [k] G d.moves,.blk s [h,i6 d.tracks,k,l,j] 146,f1 Rp.str h d.phases,f1 Rp.bool j d.possible,.own Rp.str n 9 u,.own Rp.bool o 4 y,.blk z [n,i6 d.tracks,B,J,o] 146,.tr fJ [B] I D,.tr fG [J] X ab,.tr (Rt.row gY 170 [(L.toNat,[A])]) [l] P d.rules,.tr gY [A] ad N]:=H
   refine zH (xA bP rfl (Cells.get (H.holeW 9 rfl av ah rfl dK) (i:=0) rfl))<| zK A<| zF (zB (de _ _ ?_))
   have df:=H
   have H:=H.rebase
   have dg:=H
   have aw:Hd (O++bks (rest [0,1,4,5,7,8,9,10] [.tr fJ [k] G d.moves,.blk s [h,i6 d.tracks,k,l,j] 146,f1 Rp.str h d.phases,f1 Rp.bool j d.possible,.own Rp.str n 9 u,.own Rp.bool o 4 y,.blk z [n,i6 d.tracks,B,J,o] 146,.tr fJ [B] I D,.tr fG [J] X ab,.tr (Rt.row gY 170 [(L.toNat,[A])]) [l] P d.rules,.tr gY [A] ad N])) am am (bks (Go.Lf.pick ([0,1,4,5,7,8,9,10]++ [2,3]) [.tr fJ [k] G d.moves,.blk s [h,i6 d.tracks,k,l,j] 146,f1 Rp.str h d.phases,f1 Rp.bool j d.possible,.own Rp.str n 9 u,.own Rp.bool o 4 y,.blk z [n,i6 d.tracks,B,J,o] 146,.tr fJ [B] I D,.tr fG [J] X ab,.tr (Rt.row gY 170 [(L.toNat,[A])]) [l] P d.rules,.tr gY [A] ad N])) [.tr fJ [k] G d.moves,.blk s [h,i6 d.tracks,k,l,j] 146,.own Rp.str n 9 u,.own Rp.bool o 4 y,.tr fJ [B] I D,.tr fG [J] X ab,.tr (Rt.row gY 170 [(L.toNat,[A])]) [l] P d.rules,.tr gY [A] ad N,f1 Rp.str h d.phases,f1 Rp.bool j d.possible]:=H.enter [0,1,4,5,7,8,9,10] [2,3] (by decide) rfl
   have dh:=H.firmB aw (i:=6) rfl (List.mem_append_right _ List.mem_cons_self)
   refine WP_forkM H aw [1,2,3,4,5,6,7] 0 8 [9,10] [11] [.pure,.pure,.pure,.pure,.pure,.pure,.eff,.eff,.eff,.pure,.pure,.eff] ⟨trivial,trivial,trivial,trivial,trivial,trivial,trivial,trivial,trivial,trivial,trivial,trivial,trivial⟩ mixed (by kernel_rfl) (by kernel_rfl) (by kernel_rfl) (by kernel_rfl) (by kernel_rfl) (by decide) ?_
   have H:=aw
   refine XM (gU z)<| XP (fun _ _=>zN rfl)<| XP (fun _ _=>fa146_3 rfl)<| XP (fun t p=>xA one143 rfl (Cells.get (Blk.cells (dh t p)) (i:=3) rfl))<| XM A ?_
   obtain ⟨di,dj,be⟩:=Fat (H.item (i:=7) rfl)
   obtain ⟨bf,dk,m⟩:=zD m
   refine MxM.XL_effC oS rfl rfl rfl (fun t p=>aA be rfl rfl) (fun t p=>Fgb N A ad di dj be _ dk _ _ _ ((H.sees p).enter [7] [] (by decide) rfl)) ?_
   rintro t _ dl p ⟨dm,dn,ae,rfl,dp⟩
   have H:Hd _ _ dl _ [.tr fJ [k] G d.moves,.blk s [h,i6 d.tracks,k,l,j] 146,.own Rp.str n 9 u,.own Rp.bool o 4 y,.tr fJ [B] I D,.tr fG [J] X ab,.tr (Rt.row gY 170 [(L.toNat,[A])]) [l] P d.rules,f1 Rp.str h d.phases,f1 Rp.bool j d.possible,.tr gY [dm] dn bf,.tr gY [A] ae N]:=(H.sees p).back [7] [] rfl dp
   refine ⟨_,rfl,H.only,?_⟩
   refine MxM.XL_ex oS rfl rfl rfl (fun t p=>Lx_bsT1 (H.sees p) 9 rfl u143 el170 (by decide) (by decide) (fillB_ones rfl rfl ⟨(bF (H.item (i:=9) rfl)),trivial⟩)) ?_
   rintro t dq e8 p ⟨dr,H⟩
   refine ⟨H.only,?_⟩
   have H:Hd _ _ _ _ [.tr fJ [k] G d.moves,.blk s [h,i6 d.tracks,k,l,j] 146,.own Rp.str n 9 u,.own Rp.bool o 4 y,.tr fJ [B] I D,.tr fG [J] X ab,.tr (Rt.row gY 170 [(L.toNat,[A])]) [l] P d.rules,f1 Rp.str h d.phases,f1 Rp.bool j d.possible,.tr gY [A] ae N,.tr fG [dq] dr [bf]]:=H
   refine MxM.xI fun e9 hS=>?_
   have H:=H.sees hS
   obtain ⟨af,bg,m⟩:=zD m
   refine MxM.XL_join (du:=60) (dv:=68) (fun g1 g2 wl=> ∃(Q:Value) (Y:List Nat),gU z=g1∧Q=g2∧Hd (O++bks (rest [0,1,4,5,7,8,9,10] [.tr fJ [k] G d.moves,.blk s [h,i6 d.tracks,k,l,j] 146,f1 Rp.str h d.phases,f1 Rp.bool j d.possible,.own Rp.str n 9 u,.own Rp.bool o 4 y,.blk z [n,i6 d.tracks,B,J,o] 146,.tr fJ [B] I D,.tr fG [J] X ab,.tr (Rt.row gY 170 [(L.toNat,[A])]) [l] P d.rules,.tr gY [A] ad N])) am wl (bks (Go.Lf.pick ([0,1,4,5,7,8,9,10]++ [2,3]) [.tr fJ [k] G d.moves,.blk s [h,i6 d.tracks,k,l,j] 146,f1 Rp.str h d.phases,f1 Rp.bool j d.possible,.own Rp.str n 9 u,.own Rp.bool o 4 y,.blk z [n,i6 d.tracks,B,J,o] 146,.tr fJ [B] I D,.tr fG [J] X ab,.tr (Rt.row gY 170 [(L.toNat,[A])]) [l] P d.rules,.tr gY [A] ad N])) [.tr fJ [k] G d.moves,.blk s [h,i6 d.tracks,k,l,j] 146,.own Rp.str n 9 u,.own Rp.bool o 4 y,.tr fJ [B] I D,.tr (Rt.row gY 170 [(L.toNat,[A])]) [l] P d.rules,f1 Rp.str h d.phases,f1 Rp.bool j d.possible,.tr gY [A] ae N,.tr fG [Q] Y af]) ?_ ?_ ?_
   ·skip
    refine XM (gU z)<| MxM.XL_ex oS rfl rfl rfl (fun t p=>Lx_appT (H.sees p) 5 10 rfl rfl (by decide) u143 el170 rfl rfl bg) ?_
    rintro t Q fa p ⟨Y,H⟩
    refine ⟨H.only,?_⟩
    have H:Hd _ _ _ _ [.tr fJ [k] G d.moves,.blk s [h,i6 d.tracks,k,l,j] 146,.own Rp.str n 9 u,.own Rp.bool o 4 y,.tr fJ [B] I D,.tr (Rt.row gY 170 [(L.toNat,[A])]) [l] P d.rules,f1 Rp.str h d.phases,f1 Rp.bool j d.possible,.tr gY [A] ae N,.tr fG [Q] Y af]:=H
    refine MxM.xI fun fb hS=>?_
    have H:=H.sees hS
    exact ⟨_,_,rfl,H.only,Q,Y,rfl,rfl,H⟩
   ·skip
    refine MxM.XL_ex oS rfl rfl rfl (fun t p=>Lx_appT (H.sees p) 5 10 rfl rfl (by decide) u143 el170 rfl rfl bg) ?_
    rintro t bh fc p ⟨bi,H⟩
    refine ⟨H.only,?_⟩
    have H:Hd _ _ _ _ [.tr fJ [k] G d.moves,.blk s [h,i6 d.tracks,k,l,j] 146,.own Rp.str n 9 u,.own Rp.bool o 4 y,.tr fJ [B] I D,.tr (Rt.row gY 170 [(L.toNat,[A])]) [l] P d.rules,f1 Rp.str h d.phases,f1 Rp.bool j d.possible,.tr gY [A] ae N,.tr fG [bh] bi af]:=H
    refine XM (gU z)<| MxM.xI fun fd hS=>?_
    have H:=H.sees hS
    exact ⟨_,_,MxM.upd_comm _ (by decide) _ _,H.only,bh,bi,rfl,rfl,H⟩
   rintro M' _ _ fe ⟨Q,Y,rfl,rfl,H⟩
   refine XP (fun _ _=>zN rfl)<| XP (fun _ _=>fa146_3 rfl)<| MxM.xI fun ds hS=>?_
   have H:=H.sees hS
   have H:=dg.back [0,1,4,5,7,8,9,10] [2,3] rfl H
   have H:Hd _ _ _ _ [f1 Rp.str h d.phases,f1 Rp.bool j d.possible,.blk z [n,i6 d.tracks,B,J,o] 146,.tr fJ [k] G d.moves,.blk s [h,i6 d.tracks,k,l,j] 146,.own Rp.str n 9 u,.own Rp.bool o 4 y,.tr fJ [B] I D,.tr (Rt.row gY 170 [(L.toNat,[A])]) [l] P d.rules,f1 Rp.str h d.phases,f1 Rp.bool j d.possible,.tr gY [A] ae N,.tr fG [Q] Y af]:=H
   have H:Hd O am ds (bks [.tr fJ [k] G d.moves,.blk s [h,i6 d.tracks,k,l,j] 146,f1 Rp.str h d.phases,f1 Rp.bool j d.possible,.own Rp.str n 9 u,.own Rp.bool o 4 y,.blk z [n,i6 d.tracks,B,J,o] 146,.tr fJ [B] I D,.tr fG [J] X ab,.tr (Rt.row gY 170 [(L.toNat,[A])]) [l] P d.rules,.tr gY [A] ad N]) [.blk z [n,i6 d.tracks,B,J,o] 146,.tr fJ [k] G d.moves,.blk s [h,i6 d.tracks,k,l,j] 146,.own Rp.str n 9 u,.own Rp.bool o 4 y,.tr fJ [B] I D,.tr (Rt.row gY 170 [(L.toNat,[A])]) [l] P d.rules,f1 Rp.str h d.phases,f1 Rp.bool j d.possible,.tr gY [A] ae N,.tr fG [Q] Y af]:=H.pick [2,3,4,5,6,7,8,9,10,11,12] (by decide)
   refine ⟨H.only,?_⟩
   refine MxM.XL_exU oS rfl rfl (fun t p=>xE (H.sees p) 0 rfl sz143 rfl (v:=Q) rfl (bF ((H.sees p).item (i:=10) rfl)) rfl) ?_
   rintro t ff p H
   refine ⟨H.only,?_⟩
   refine MxM.xI fun fg hS=>?_
   have H:=H.sees hS
   have H:=df.rejoin H
   refine yK (zB (dd _ _ ?_))
   refine zA ?_
   obtain ⟨bj,dt,m⟩:=zG m
   refine zH (xQ (a:=L) (b:=1) rfl rfl dt)<| zI (i6 bj) ?_
   have H:Hd _ _ _ _ [.blk z [n,i6 d.tracks,B,Q,o] 146,.tr fJ [k] G d.moves,.blk s [h,i6 d.tracks,k,l,j] 146,.own Rp.str n 9 u,.own Rp.bool o 4 y,.tr fJ [B] I D,.tr (Rt.row gY 170 [(L.toNat,[A])]) [l] P d.rules,f1 Rp.str h d.phases,f1 Rp.bool j d.possible,.tr gY [A] ae N,.tr fG [Q] Y af]:=H
   obtain ⟨bk,H⟩:=H.unfocus0 6 9 rfl rfl (by decide) rfl rfl ah
   have H:Hd _ _ _ _ [.blk z [n,i6 d.tracks,B,Q,o] 146,.tr fJ [k] G d.moves,.blk s [h,i6 d.tracks,k,l,j] 146,.own Rp.str n 9 u,.own Rp.bool o 4 y,.tr fJ [B] I D,f1 Rp.str h d.phases,f1 Rp.bool j d.possible,.tr fG [Q] Y af,.tr fG [l] bk d.rules]:=H
   exact (zF (zB (meet ⟨(c8,bj,af,bk,Q,Y),(zL rfl zO),⟨H.pick [1,9,2,6,7,3,4,0,5,8] (by decide),m⟩,Nat.lt_succ_self _⟩)))
  have m:=zU au m
  obtain rfl:=gI m
  exact (xK (yH (yH (yU (zB (meet ⟨(c7,J,X),zO,H.pick [0,1,2,3,4,5,6,7,8,9] (by decide)⟩))))))
 rintro ⟨dw,dx,dy⟩ ρ fh H
 have m:=c0
 refine zC fun fi dz=>zA<| zI (gU z)<| zK (gU z)<| zF (zB (dz _ _ ?_))
 have H:=H.freeze (i:=5) rfl
 have H:=H.freeze (i:=6) rfl
 obtain rfl:=gI m
 refine (zY (fF (v1:=gU z) rfl rfl ?_))
 exact ⟨z,n,B,I,dx,dy,o,G,dw,rfl,H.pick [5,8,9,6,7,0,1,2] (by decide)⟩
theorem Fbgw (b:Option gK)(v1:Option Addr)(r:Str)(a:Fbg b=some r)(O S:List Nat)(w:World)(H:Hd O w w S [.fz (.pt aB v1 b)]):
  Cl 28 [.pointer v1] w fun e j=>e= .returned (sb r)∧Hd O w j S []:=by
 unfold Fbg at a
 refine zS 8 Tryz.func28 rfl rfl rfl ?_
 refine zC fun y k=>zA<| zK (.string (bs []))<| zF (zB (k _ _ ?_))
 refine zC fun z l=>zA<| zI (.pointer v1) ?_
 obtain ⟨c,m,a⟩:=zD a
 obtain ⟨d,f,A,n,o,p,q,t⟩:=ptf_some ((H.item (i:=0) rfl):PtF _ _ _ _ _) m
 obtain ⟨u,rfl,v⟩:=rOrangeboxref0Ink_open q
 have H:=H.fzs [.at d f _,.sl (Rp.int .u8) u c.out] ⟨⟨o,p,t⟩,v,trivial⟩
 refine zH (zN (ad:=⟨d,f,none⟩) (congrArg Value.pointer n))<| zH (fa63_0 rfl)<| zH (xA one61 rfl (Cells.get (H.item (i:=1) rfl).2.2 (i:=0) rfl)) ?_
 obtain ⟨h,x,a⟩:=zG a
 refine zH (yJ (Do_bytestr (xl:=c.out) u61 u5 u9 rfl (Sr.of_rd (H.item (i:=2) rfl))) (congrArg (fun s=>Value.string (bs s)) x))<| zK (sb h)<| zF (zB (l _ _ ?_))
 obtain rfl:=gI a
 refine (zY (fF (v1:=sb h) rfl rfl ?_))
 exact ⟨rfl,H.pick [] (by decide)⟩
theorem Fcww (n:List Int)(d:Int)(h:Int)(v1:Value)(r:(List Int))(c:Fcw n d h=some r)(O S:List Nat)(w:World)(H:Hd O w w S [.own (Rp.int .u8) v1 5 n,.fz (.at 3 0 ((Fl.arr 20 (Fl.int .u64)).f zJ))]):
  Cl 166 [v1,i6 d,i6 h] w fun e s=> ∃u4,e= .returned (u4)∧Hd O w s S [.own (Rp.int .u8) u4 5 r]:=by
 unfold Fcw at c
 refine zS 21 Tryz.func166 rfl rfl rfl ?_
 refine zC fun P t=>zA<| zK (.slice none 0 0)<| zF (zB (t _ _ ?_))
 refine zC fun Q u=>zA<| zI (i6 d) ?_
 obtain ⟨k,v,c⟩:=zG c
 refine zH (Do_conv u2 u297 rfl v)<| zK (.int .u64 k)<| zF (zB (u _ _ ?_))
 obtain ⟨l,c,x⟩:=zD c
 refine yL [0,7,10,11,12,13,14,15,16] (fun (g:Value)=>[(0,g),(7,.int .u64 l.2)]) (fun g wl=>Hd O w wl S [.own (Rp.int .u8) g 5 l.1,.fz (.at 3 0 ((Fl.arr 20 (Fl.int .u64)).f zJ))]) ?_ ?_
 ·skip
  refine zC fun R y=>zA<| zI (i6 d) ?_
  obtain ⟨z,A,c⟩:=zG c
  refine zH (zQ (xR (a:=d) (b:=0) rfl rfl) A)<| zF (zB (y _ _ ?_))
  refine yC (b:=z) rfl (fun m=>?_) (fun m=>?_)
  ·have c:=zT m c
   refine zC fun T B=>zA<| zI v1 ?_
   obtain ⟨U,C,c⟩:=zG c
   subst C
   refine yP rfl rfl (kM (r:=(Rp.int .u8)) (xl:=[45]) (cs:=[.int .u8 45]) u61 el5 (by decide) (by decide) rfl (xP (vs:=[.int .u8 45]) (by decide) rfl rfl ⟨rfl,trivial⟩ rfl) H ⟨[.int .u8 45],[],rfl,rfl,rfl⟩) ?_
   rintro V X H
   obtain ⟨Y,D,c⟩:=zD c
   refine yP rfl rfl (aO H (i:=0) rfl u61 el5 rfl rfl (Sr.of_own (H.item (i:=2) rfl)) D) ?_
   rintro o Z H
   refine zK o<| zF (zB (B _ _ ?_))
   refine zA ?_
   refine zI (.int .u64 k) ?_
   obtain ⟨F,G,c⟩:=zG c
   refine zH (Do_neg (a:=k) rfl G)<| zK (.int .u64 F) ?_
   obtain rfl:=gI c
   exact (zF (zB (meet ⟨o,(zL rfl (zL rfl zO)),H.pick [0,1] (by decide)⟩)))
  have c:=zU m c
  obtain rfl:=gI c
  exact (yB (zB (meet ⟨v1,(zL rfl (zL rfl zO)),H.pick [0,1] (by decide)⟩)))
 rintro p ρ aa H
 have c:=x
 obtain ⟨I,q⟩:=l
 refine zC fun ab J=>zA<| zI p<| zI (.int .u64 q)<| zI (i6 h) ?_
 obtain ⟨K,L,c⟩:=zD c
 refine yA rfl rfl (zV en208 rfl) (E.Fcew I q h p _ L _ _ _ (H.enter [0] [1] (by decide) rfl)) ?_
 rintro _ M ⟨j,rfl,N⟩
 have H:Hd _ _ M _ [.fz (.at 3 0 ((Fl.arr 20 (Fl.int .u64)).f zJ)),.own (Rp.int .u8) j 5 K]:=H.back [0] [1] rfl N
 refine ⟨_,rfl,?_⟩
 refine zK j<| zF (zB (J _ _ ?_))
 obtain rfl:=gI c
 refine (zY (fF (v1:=j) rfl rfl ?_))
 exact ⟨j,rfl,H.pick [1] (by decide)⟩
theorem Fccw (h:List Int)(a:Int)(b:Int)(v1:Value)(r:(List Int))(c:Fcc h a b=some r)(O S:List Nat)(w:World)(H:Hd O w w S [.own (Rp.int .u8) v1 5 h,.fz (.at 3 0 ((Fl.arr 20 (Fl.int .u64)).f zJ))]):
  Cl 112 [v1,i6 a,i6 b] w fun e i=> ∃u4,e= .returned (u4)∧Hd O w i S [.own (Rp.int .u8) u4 5 r]:=by
 unfold Fcc at c
 refine zS 11 Tryz.func112 rfl rfl rfl ?_
 refine zC fun p j=>zA<| zK (.slice none 0 0)<| zF (zB (j _ _ ?_))
 refine zC fun q k=>zA<| zI v1<| zI (i6 a)<| zI (i6 b) ?_
 obtain ⟨l,m,c⟩:=zD c
 refine yA rfl rfl (zV en166 rfl) (Fcww h a b v1 _ m _ _ _ (H.enter [0] [1] (by decide) rfl)) ?_
 rintro _ n ⟨d,rfl,o⟩
 have H:Hd _ _ n _ [.fz (.at 3 0 ((Fl.arr 20 (Fl.int .u64)).f zJ)),.own (Rp.int .u8) d 5 l]:=H.back [0] [1] rfl o
 refine ⟨_,rfl,?_⟩
 refine zK d<| zF (zB (k _ _ ?_))
 obtain rfl:=gI c
 refine (zY (fF (v1:=d) rfl rfl ?_))
 exact ⟨d,rfl,H.pick [1] (by decide)⟩
theorem Faiw (h:gK)(c:Int)(a:Nat)(d:Value)(r:gK)(b:Fai h c=some r)(O S:List Nat)(w:World)(H:Hd O w w S [.own (Rp.int .u8) d 5 h.out,.blk a [d] 63,.fz (.at 3 0 ((Fl.arr 20 (Fl.int .u64)).f zJ))]):
  Cl 47 [gU a,i6 c] w fun e m=> ∃j,e= .returned (.tuple #[])∧Hd O w m S [.own (Rp.int .u8) j 5 r.out,.blk a [j] 63]:=by
 unfold Fai at b
 refine zS 22 Tryz.func47 rfl rfl rfl ?_
 refine zC fun x n=>zA<| zI (gU a)<| zI (gU a)<| zH (zN rfl)<| zH (fa63_0 rfl)<| Ld one61 H 1 0 rfl rfl<| zI (i6 c) ?_
 obtain ⟨o,p,b⟩:=zD b
 refine yA rfl rfl (zV en112 rfl) (Fccw h.out c 10 d _ p _ _ _ (H.enter [0] [2] (by decide) rfl)) ?_
 rintro _ q ⟨k,rfl,s⟩
 have H:Hd _ _ q _ [.blk a [d] 63,.fz (.at 3 0 ((Fl.arr 20 (Fl.int .u64)).f zJ)),.own (Rp.int .u8) k 5 o]:=H.back [0] [2] rfl s
 refine ⟨_,rfl,?_⟩
 refine zH (zN rfl)<| zH (fa63_0 rfl)<| yV rfl (xE H 0 rfl sz61 rfl (v:=k) rfl (bY (H.item (i:=2) rfl)) rfl) ?_
 rintro y H
 refine zF (zB (n _ _ ?_))
 refine zA ?_
 refine zI (gU a)<| zI (gU a)<| zH (zN rfl)<| zH (fa63_0 rfl)<| Ld one61 H 0 0 rfl rfl ?_
 obtain ⟨z,t,b⟩:=zG b
 subst t
 refine yP rfl rfl (kM (r:=(Rp.int .u8)) (xl:=[32]) (cs:=[.int .u8 32]) u61 el5 (by decide) (by decide) rfl (xP (vs:=[.int .u8 32]) (by decide) rfl rfl ⟨rfl,trivial⟩ rfl) H ⟨[.int .u8 32],[],rfl,rfl,rfl⟩) ?_
 rintro A B H
 obtain ⟨C,u,b⟩:=zD b
 refine yP rfl rfl (aO H (i:=2) rfl u61 el5 rfl rfl (Sr.of_own (H.item (i:=3) rfl)) u) ?_
 rintro l D H
 refine zH (zN rfl)<| zH (fa63_0 rfl)<| yV rfl (xE H 0 rfl sz61 rfl (v:=l) rfl (bY (H.item (i:=2) rfl)) rfl) ?_
 rintro E H
 obtain rfl:=gI b
 refine (zF (post0n rfl ?_))
 exact ⟨l,rfl,H.pick [2,0] (by decide)⟩
theorem Fb8w (l:gK)(k:List Int)(d:Nat)(m:Value)(h:Value)(r:gK)(c:Fb8 l k=some r)(O S:List Nat)(w:World)(H:Hd O w w S [.own (Rp.int .u8) m 5 l.out,.blk d [m] 63,f1 (Rp.int .i64) h k,.fz (.at 3 0 ((Fl.arr 20 (Fl.int .u64)).f zJ))]):
  Cl 157 [gU d,h] w fun e B=> ∃u8,e= .returned (.tuple #[])∧Hd O w B S [.own (Rp.int .u8) u8 5 r.out,.blk d [u8] 63]:=by
 unfold Fb8 at c
 refine zS 21 Tryz.func157 rfl rfl rfl ?_
 refine zC fun K9 C=>zA<| zI (gU d)<| zI h ?_
 obtain ⟨D,E,c⟩:=zG c
 obtain ⟨al,am,F⟩:=SlF.len ((H.item (i:=2) rfl))
 refine zH (yJ (xN u38 F) (congrArg (Value.int .i64) E)) ?_
 obtain ⟨t,G,c⟩:=zD c
 refine yA rfl rfl (zV en47 rfl) (Faiw (gK.mk l.out) D d m _ G _ _ _ (H.enter [0,1] [3] (by decide) rfl)) ?_
 rintro _ I ⟨n,rfl,J⟩
 have H:Hd _ _ I _ [f1 (Rp.int .i64) h k,.fz (.at 3 0 ((Fl.arr 20 (Fl.int .u64)).f zJ)),.own (Rp.int .u8) n 5 t.out,.blk d [n] 63]:=H.back [0,1] [3] rfl J
 refine ⟨_,rfl,?_⟩
 refine zF (zB (C _ _ ?_))
 refine zC fun an K=>zA<| zK (i6 0)<| zF (zB (K _ _ ?_))
 refine yF ?_
 unfold Ffa at c
 obtain ⟨L,u,M,c⟩:=yR c
 refine xG [4,9,10,11,12,13,14,15,16,17,18,19,20] (fun (g:Nat×Int×(List Int)×Value)=>[(4,i6 g.2.1)]) (fun g wl=>Hd O w wl S [f1 (Rp.int .i64) h k,.fz (.at 3 0 ((Fl.arr 20 (Fl.int .u64)).f zJ)),.blk d [g.2.2.2] 63,.own (Rp.int .u8) g.2.2.2 5 g.2.2.1]∧eF L g.1 (g.2.1,g.2.2.1)=some r) (fun g=>g.1) (u,0,t.out,n) (zL rfl zO) ⟨H.pick [0,1,3,2] (by decide),c⟩ ?_
 clear H c
 rintro ⟨u,j,N,v⟩ ρ ao ⟨H,c⟩
 obtain ⟨P,rfl,c⟩:=yX c
 have c:=yY M c
 refine zC fun ap Q=>?_
 refine zC fun aq R=>zA<| zI (i6 j)<| zI h ?_
 obtain ⟨T,U,c⟩:=zG c
 obtain ⟨ar,au,V⟩:=SlF.len ((H.item (i:=0) rfl))
 refine zH (yJ (xN u38 V) (congrArg (Value.int .i64) U)) ?_
 obtain ⟨X,Y,c⟩:=zG c
 refine zH (zQ (xR (a:=j) (b:=T) rfl rfl) Y)<| zF (zB (R _ _ ?_))
 refine yC (b:=X) rfl (fun o=>?_) (fun o=>?_)
 ·have c:=zT o c
  refine yB (zB (Q _ _ ?_))
  refine zC fun av Z=>?_
  refine yF ?_
  refine zA ?_
  refine zI (gU d)<| zI h<| zI (i6 j) ?_
  obtain ⟨p,q,c⟩:=zD c
  obtain ⟨x,y,aw,aa,ab,ac,ad,ae,af⟩:=dQ (H.item (i:=0) rfl) q
  obtain rfl:aa= [i6 p]:=ac
  have H:=H.fz (.at x (y+j.toNat * 1) _) ⟨ad,ae,af⟩
  refine zH (xJ u38 sz3 ab rfl (yE q).1 (yE q).2.1 rfl rfl)<| zH (xA fU rfl (Cells.get (H.item (i:=4) rfl).2.2 (i:=0) rfl)) ?_
  obtain ⟨z,ag,c⟩:=zD c
  refine yA rfl rfl (zV en47 rfl) (Faiw (gK.mk N) p d v _ ag _ _ _ (H.enter [3,2] [1] (by decide) rfl)) ?_
  rintro _ ah ⟨s,rfl,ai⟩
  have H:Hd _ _ ah _ [f1 (Rp.int .i64) h k,.fz (.at 3 0 ((Fl.arr 20 (Fl.int .u64)).f zJ)),.fz (.at x (y+j.toNat * 1) [i6 p]),.own (Rp.int .u8) s 5 z.out,.blk d [s] 63]:=H.back [3,2] [1] rfl ai
  refine ⟨_,rfl,?_⟩
  refine (zF (yK (zB (Z _ _ ?_))))
  refine zA ?_
  refine zI (i6 j) ?_
  obtain ⟨A,aj,c⟩:=zG c
  refine zH (xQ (a:=j) (b:=1) rfl rfl aj)<| zK (i6 A) ?_
  exact (zF (zB (meet ⟨(P,A,z.out,s),(zL rfl zO),⟨H.pick [0,1,4,3] (by decide),c⟩,Nat.lt_succ_self _⟩)))
 have c:=zU o c
 obtain rfl:=gI c
 refine (xK (yH (yH (yU (post0n rfl ?_)))))
 exact ⟨v,rfl,H.pick [3,2] (by decide)⟩
theorem Fb7w (m:gK)(k:List (List Int))(d:Nat)(n:Value)(h:Value)(r:gK)(c:Fb7 m k=some r)(O S:List Nat)(w:World)(H:Hd O w w S [.own (Rp.int .u8) n 5 m.out,.blk d [n] 63,.fz (.sl (Rp.sl (Rp.int .i64)) h k),.fz (.at 3 0 ((Fl.arr 20 (Fl.int .u64)).f zJ))]):
  Cl 99 [gU d,h] w fun e C=> ∃u8,e= .returned (.tuple #[])∧Hd O w C S [.own (Rp.int .u8) u8 5 r.out,.blk d [u8] 63]:=by
 unfold Fb7 at c
 refine zS 21 Tryz.func99 rfl rfl rfl ?_
 refine zC fun K9 D=>zA<| zI (gU d)<| zI h ?_
 obtain ⟨E,F,c⟩:=zG c
 obtain ⟨am,an,G⟩:=SlF.len ((H.item (i:=2) rfl))
 refine zH (yJ (xN u28 G) (congrArg (Value.int .i64) F)) ?_
 obtain ⟨u,I,c⟩:=zD c
 refine yA rfl rfl (zV en47 rfl) (Faiw (gK.mk m.out) E d n _ I _ _ _ (H.enter [0,1] [3] (by decide) rfl)) ?_
 rintro _ J ⟨o,rfl,K⟩
 have H:Hd _ _ J _ [.fz (.sl (Rp.sl (Rp.int .i64)) h k),.fz (.at 3 0 ((Fl.arr 20 (Fl.int .u64)).f zJ)),.own (Rp.int .u8) o 5 u.out,.blk d [o] 63]:=H.back [0,1] [3] rfl K
 refine ⟨_,rfl,?_⟩
 refine zF (zB (D _ _ ?_))
 refine zC fun ao L=>zA<| zK (i6 0)<| zF (zB (L _ _ ?_))
 refine yF ?_
 unfold Fe8 at c
 obtain ⟨M,v,N,c⟩:=yR c
 refine xG [4,9,10,11,12,13,14,15,16,17,18,19,20] (fun (g:Nat×Int×(List Int)×Value)=>[(4,i6 g.2.1)]) (fun g wl=>Hd O w wl S [.fz (.sl (Rp.sl (Rp.int .i64)) h k),.fz (.at 3 0 ((Fl.arr 20 (Fl.int .u64)).f zJ)),.blk d [g.2.2.2] 63,.own (Rp.int .u8) g.2.2.2 5 g.2.2.1]∧eF M g.1 (g.2.1,g.2.2.1)=some r) (fun g=>g.1) (v,0,u.out,o) (zL rfl zO) ⟨H.pick [0,1,3,2] (by decide),c⟩ ?_
 clear H c
 rintro ⟨v,j,P,x⟩ ρ ap ⟨H,c⟩
 obtain ⟨Q,rfl,c⟩:=yX c
 have c:=yY N c
 refine zC fun aq R=>?_
 refine zC fun ar T=>zA<| zI (i6 j)<| zI h ?_
 obtain ⟨U,V,c⟩:=zG c
 obtain ⟨au,av,X⟩:=SlF.len ((H.item (i:=0) rfl))
 refine zH (yJ (xN u28 X) (congrArg (Value.int .i64) V)) ?_
 obtain ⟨Y,Z,c⟩:=zG c
 refine zH (zQ (xR (a:=j) (b:=U) rfl rfl) Z)<| zF (zB (T _ _ ?_))
 refine yC (b:=Y) rfl (fun p=>?_) (fun p=>?_)
 ·have c:=zT p c
  refine yB (zB (R _ _ ?_))
  refine zC fun aw aa=>?_
  refine yF ?_
  refine zA ?_
  refine zI (gU d)<| zI h<| zI (i6 j) ?_
  obtain ⟨q,s,c⟩:=zD c
  obtain ⟨y,z,ax,ay,ab,ac,ad,ae,af⟩:=dQ (H.item (i:=0) rfl) s
  obtain ⟨l,rfl,ag⟩:=ac
  have H:=H.fzs [.at y (z+j.toNat * 1) _,.sl (Rp.int .i64) l q] ⟨⟨ad,ae,af⟩,ag,trivial⟩
  refine zH (xJ u28 sz38 ab rfl (yE s).1 (yE s).2.1 rfl rfl)<| zH (xA one38 rfl (Cells.get (H.item (i:=4) rfl).2.2 (i:=0) rfl)) ?_
  obtain ⟨A,ah,c⟩:=zD c
  refine yA rfl rfl (zV en157 rfl) (Fb8w (gK.mk P) q d x l _ ah _ _ _ (H.enter [3,2] [5,1] (by decide) rfl)) ?_
  rintro _ ai ⟨t,rfl,aj⟩
  have H:Hd _ _ ai _ [.fz (.sl (Rp.sl (Rp.int .i64)) h k),.fz (.at 3 0 ((Fl.arr 20 (Fl.int .u64)).f zJ)),.fz (.at y (z+j.toNat * 1) [l]),f1 (Rp.int .i64) l q,.own (Rp.int .u8) t 5 A.out,.blk d [t] 63]:=H.back [3,2] [5,1] rfl aj
  refine ⟨_,rfl,?_⟩
  refine (zF (yK (zB (aa _ _ ?_))))
  refine zA ?_
  refine zI (i6 j) ?_
  obtain ⟨B,ak,c⟩:=zG c
  refine zH (xQ (a:=j) (b:=1) rfl rfl ak)<| zK (i6 B) ?_
  exact (zF (zB (meet ⟨(Q,B,A.out,t),(zL rfl zO),⟨H.pick [0,1,5,4] (by decide),c⟩,Nat.lt_succ_self _⟩)))
 have c:=zU p c
 obtain rfl:=gI c
 refine (xK (yH (yH (yU (post0n rfl ?_)))))
 exact ⟨x,rfl,H.pick [3,2] (by decide)⟩
theorem Fb1w (d:gK)(b:Int)(a:Nat)(h:Value)(r:gK)(c:Fb1 d b=some r)(O S:List Nat)(w:World)(H:Hd O w w S [.own (Rp.int .u8) h 5 d.out,.blk a [h] 63,.fz (.at 3 0 ((Fl.arr 20 (Fl.int .u64)).f zJ))]):
  Cl 57 [gU a,i6 b] w fun e k=> ∃j,e= .returned (.tuple #[])∧Hd O w k S [.own (Rp.int .u8) j 5 r.out,.blk a [j] 63]:=by
 unfold Fb1 at c
 refine zS 7 Tryz.func57 rfl rfl rfl ?_
 refine zA ?_
 refine zI (gU a)<| zI (i6 b) ?_
 obtain ⟨l,m,c⟩:=zD c
 refine yA rfl rfl (zV en47 rfl) (Faiw (gK.mk d.out) b a h _ m _ _ _ (H.enter [0,1] [2] (by decide) rfl)) ?_
 rintro _ n ⟨i,rfl,o⟩
 have H:Hd _ _ n _ [.fz (.at 3 0 ((Fl.arr 20 (Fl.int .u64)).f zJ)),.own (Rp.int .u8) i 5 l.out,.blk a [i] 63]:=H.back [0,1] [2] rfl o
 refine ⟨_,rfl,?_⟩
 obtain rfl:=gI c
 refine (zF (post0n rfl ?_))
 exact ⟨i,rfl,H.pick [1,2] (by decide)⟩
theorem Fbfw (c:List (List Int))(d:Int)(v1:Value)(r:Str)(b:Fbf c d=some r)(O S:List Nat)(w:World)(H:Hd O w w S [.fz (.sl (Rp.sl (Rp.int .i64)) v1 c),.fz (.at 3 0 ((Fl.arr 20 (Fl.int .u64)).f zJ))]):
  Cl 38 [v1,i6 d] w fun e n=>e= .returned (sb r)∧Hd O w n S []:=by
 unfold Fbf at b
 refine zS 16 Tryz.func38 rfl rfl rfl ?_
 refine zC fun F o=>zA<| zK (.string (bs []))<| zF (zB (o _ _ ?_))
 refine zC fun G p=>zA<| zH (xM (cs:=[.slice none 0 0]) bz63)<| yP rfl rfl (xW (cs:=[.slice none 0 0]) rfl H) ?_
 rintro _ I ⟨a,rfl,H⟩
 refine zK (gU a)<| zF (zB (p _ _ ?_))
 refine zC fun J q=>zA<| zI (gU a)<| zI v1 ?_
 have H:=dY H (Rp.int .u8) 5
 obtain ⟨k,s,b⟩:=zD b
 refine yA rfl rfl (zV en99 rfl) (Fb7w (gK.mk []) c a (.slice none 0 0) v1 _ s _ _ _ (H.enter [3,2] [0,1] (by decide) rfl)) ?_
 rintro _ t ⟨j,rfl,u⟩
 have H:Hd _ _ t _ [.fz (.sl (Rp.sl (Rp.int .i64)) v1 c),.fz (.at 3 0 ((Fl.arr 20 (Fl.int .u64)).f zJ)),.own (Rp.int .u8) j 5 k.out,.blk a [j] 63]:=H.back [3,2] [0,1] rfl u
 refine ⟨_,rfl,?_⟩
 refine zF (zB (q _ _ ?_))
 refine zC fun K v=>zA<| zI (gU a)<| zI (i6 d) ?_
 obtain ⟨h,y,b⟩:=zD b
 refine yA rfl rfl (zV en57 rfl) (Fb1w (gK.mk k.out) d a j _ y _ _ _ (H.enter [2,3] [1] (by decide) rfl)) ?_
 rintro _ z ⟨l,rfl,A⟩
 have H:Hd _ _ z _ [.fz (.sl (Rp.sl (Rp.int .i64)) v1 c),.fz (.at 3 0 ((Fl.arr 20 (Fl.int .u64)).f zJ)),.own (Rp.int .u8) l 5 h.out,.blk a [l] 63]:=H.back [2,3] [1] rfl A
 refine ⟨_,rfl,?_⟩
 refine zF (zB (v _ _ ?_))
 refine zC fun L B=>zA<| zI (gU a) ?_
 have C:=H
 have H:=H.freezeB (i:=3) rfl
 have H:=H.freeze (i:=2) rfl
 have H:=H.fz (.pt aB (some ⟨a,0,none⟩) (some h)) ⟨_,_,_,rfl,(H.item (i:=3) rfl).1,(H.item (i:=3) rfl).2.1,(rOrangeboxref0Ink_mk (x:=h) (H.item (i:=2) rfl)),(H.item (i:=3) rfl).2.2⟩
 obtain ⟨m,D,b⟩:=zD b
 refine yA rfl rfl (zV en28 rfl) (Fbgw (some h) (some ⟨a,0,none⟩) _ D _ _ _ (H.enter [] [4] (by decide) rfl)) ?_
 rintro _ M ⟨rfl,E⟩
 have H:=C.step (E.only:Only [] _ _)
 refine ⟨_,rfl,?_⟩
 refine zK (sb m)<| zF (zB (B _ _ ?_))
 obtain rfl:=gI b
 refine (zY (fF (v1:=sb m) rfl rfl ?_))
 exact ⟨rfl,H.pick [] (by decide)⟩
theorem Fb3w (d:gK)(c:Str)(a:Nat)(h:Value)(r:gK)(b:Fb3 d c=some r)(O S:List Nat)(w:World)(H:Hd O w w S [.own (Rp.int .u8) h 5 d.out,.blk a [h] 63,.fz (.at 3 0 ((Fl.arr 20 (Fl.int .u64)).f zJ))]):
  Cl 79 [gU a,sb c] w fun e m=> ∃j,e= .returned (.tuple #[])∧Hd O w m S [.own (Rp.int .u8) j 5 r.out,.blk a [j] 63]:=by
 unfold Fb3 at b
 refine zS 17 Tryz.func79 rfl rfl rfl ?_
 refine zC fun y n=>zA<| zI (gU a)<| zI (sb c) ?_
 obtain ⟨o,p,b⟩:=zG b
 refine zH (yJ (kD (s1:=c) u9 rfl) (congrArg (Value.int .i64) p)) ?_
 obtain ⟨q,s,b⟩:=zD b
 refine yA rfl rfl (zV en47 rfl) (Faiw (gK.mk d.out) o a h _ s _ _ _ (H.enter [0,1] [2] (by decide) rfl)) ?_
 rintro _ t ⟨k,rfl,u⟩
 have H:Hd _ _ t _ [.fz (.at 3 0 ((Fl.arr 20 (Fl.int .u64)).f zJ)),.own (Rp.int .u8) k 5 q.out,.blk a [k] 63]:=H.back [0,1] [2] rfl u
 refine ⟨_,rfl,?_⟩
 refine zF (zB (n _ _ ?_))
 refine zA ?_
 refine zI (gU a)<| zI (gU a)<| zH (zN rfl)<| zH (fa63_0 rfl)<| Ld one61 H 2 0 rfl rfl<| zI (sb c) ?_
 obtain ⟨z,x,b⟩:=zD b
 refine yP rfl rfl (Lx_appstr H (i:=1) rfl u61 u9 z8_5 rfl rfl x) ?_
 rintro l A H
 refine zH (zN rfl)<| zH (fa63_0 rfl)<| yV rfl (xE H 2 rfl sz61 rfl (v:=l) rfl (bY (H.item (i:=1) rfl)) rfl) ?_
 rintro B H
 obtain rfl:=gI b
 refine (zF (post0n rfl ?_))
 exact ⟨l,rfl,H.pick [1,2] (by decide)⟩
theorem Fciw (l:gK)(k:List Str)(d:Nat)(m:Value)(h:Value)(r:gK)(c:Fci l k=some r)(O S:List Nat)(w:World)(H:Hd O w w S [.own (Rp.int .u8) m 5 l.out,.blk d [m] 63,f1 Rp.str h k,.fz (.at 3 0 ((Fl.arr 20 (Fl.int .u64)).f zJ))]):
  Cl 26 [gU d,h] w fun e B=> ∃u8,e= .returned (.tuple #[])∧Hd O w B S [.own (Rp.int .u8) u8 5 r.out,.blk d [u8] 63]:=by
 unfold Fci at c
 refine zS 21 Tryz.func26 rfl rfl rfl ?_
 refine zC fun K9 C=>zA<| zI (gU d)<| zI h ?_
 obtain ⟨D,E,c⟩:=zG c
 obtain ⟨al,am,F⟩:=SlF.len ((H.item (i:=2) rfl))
 refine zH (yJ (xN u22 F) (congrArg (Value.int .i64) E)) ?_
 obtain ⟨t,G,c⟩:=zD c
 refine yA rfl rfl (zV en47 rfl) (Faiw (gK.mk l.out) D d m _ G _ _ _ (H.enter [0,1] [3] (by decide) rfl)) ?_
 rintro _ I ⟨n,rfl,J⟩
 have H:Hd _ _ I _ [f1 Rp.str h k,.fz (.at 3 0 ((Fl.arr 20 (Fl.int .u64)).f zJ)),.own (Rp.int .u8) n 5 t.out,.blk d [n] 63]:=H.back [0,1] [3] rfl J
 refine ⟨_,rfl,?_⟩
 refine zF (zB (C _ _ ?_))
 refine zC fun an K=>zA<| zK (i6 0)<| zF (zB (K _ _ ?_))
 refine yF ?_
 unfold Fex at c
 obtain ⟨L,u,M,c⟩:=yR c
 refine xG [4,9,10,11,12,13,14,15,16,17,18,19,20] (fun (g:Nat×Int×(List Int)×Value)=>[(4,i6 g.2.1)]) (fun g wl=>Hd O w wl S [f1 Rp.str h k,.fz (.at 3 0 ((Fl.arr 20 (Fl.int .u64)).f zJ)),.blk d [g.2.2.2] 63,.own (Rp.int .u8) g.2.2.2 5 g.2.2.1]∧eF L g.1 (g.2.1,g.2.2.1)=some r) (fun g=>g.1) (u,0,t.out,n) (zL rfl zO) ⟨H.pick [0,1,3,2] (by decide),c⟩ ?_
 clear H c
 rintro ⟨u,j,N,v⟩ ρ ao ⟨H,c⟩
 obtain ⟨P,rfl,c⟩:=yX c
 have c:=yY M c
 refine zC fun ap Q=>?_
 refine zC fun aq R=>zA<| zI (i6 j)<| zI h ?_
 obtain ⟨T,U,c⟩:=zG c
 obtain ⟨ar,au,V⟩:=SlF.len ((H.item (i:=0) rfl))
 refine zH (yJ (xN u22 V) (congrArg (Value.int .i64) U)) ?_
 obtain ⟨X,Y,c⟩:=zG c
 refine zH (zQ (xR (a:=j) (b:=T) rfl rfl) Y)<| zF (zB (R _ _ ?_))
 refine yC (b:=X) rfl (fun o=>?_) (fun o=>?_)
 ·have c:=zT o c
  refine yB (zB (Q _ _ ?_))
  refine zC fun av Z=>?_
  refine yF ?_
  refine zA ?_
  refine zI (gU d)<| zI h<| zI (i6 j) ?_
  obtain ⟨p,q,c⟩:=zD c
  obtain ⟨x,y,aw,aa,ab,ac,ad,ae,af⟩:=dQ (H.item (i:=0) rfl) q
  obtain rfl:aa= [sb p]:=ac
  have H:=H.fz (.at x (y+j.toNat * 1) _) ⟨ad,ae,af⟩
  refine zH (xJ u22 sz9 ab rfl (yE q).1 (yE q).2.1 rfl rfl)<| zH (xA bC rfl (Cells.get (H.item (i:=4) rfl).2.2 (i:=0) rfl)) ?_
  obtain ⟨z,ag,c⟩:=zD c
  refine yA rfl rfl (zV en79 rfl) (Fb3w (gK.mk N) p d v _ ag _ _ _ (H.enter [3,2] [1] (by decide) rfl)) ?_
  rintro _ ah ⟨s,rfl,ai⟩
  have H:Hd _ _ ah _ [f1 Rp.str h k,.fz (.at 3 0 ((Fl.arr 20 (Fl.int .u64)).f zJ)),.fz (.at x (y+j.toNat * 1) [sb p]),.own (Rp.int .u8) s 5 z.out,.blk d [s] 63]:=H.back [3,2] [1] rfl ai
  refine ⟨_,rfl,?_⟩
  refine (zF (yK (zB (Z _ _ ?_))))
  refine zA ?_
  refine zI (i6 j) ?_
  obtain ⟨A,aj,c⟩:=zG c
  refine zH (xQ (a:=j) (b:=1) rfl rfl aj)<| zK (i6 A) ?_
  exact (zF (zB (meet ⟨(P,A,z.out,s),(zL rfl zO),⟨H.pick [0,1,4,3] (by decide),c⟩,Nat.lt_succ_self _⟩)))
 have c:=zU o c
 obtain rfl:=gI c
 refine (xK (yH (yH (yU (post0n rfl ?_)))))
 exact ⟨v,rfl,H.pick [3,2] (by decide)⟩
theorem Fa3w (c:List Str)(d:Int)(v1:Value)(r:Str)(b:Fa3 c d=some r)(O S:List Nat)(w:World)(H:Hd O w w S [f1 Rp.str v1 c,.fz (.at 3 0 ((Fl.arr 20 (Fl.int .u64)).f zJ))]):
  Cl 33 [v1,i6 d] w fun e n=>e= .returned (sb r)∧Hd O w n S []:=by
 unfold Fa3 at b
 refine zS 16 Tryz.func33 rfl rfl rfl ?_
 refine zC fun F o=>zA<| zK (.string (bs []))<| zF (zB (o _ _ ?_))
 refine zC fun G p=>zA<| zH (xM (cs:=[.slice none 0 0]) bz63)<| yP rfl rfl (xW (cs:=[.slice none 0 0]) rfl H) ?_
 rintro _ I ⟨a,rfl,H⟩
 refine zK (gU a)<| zF (zB (p _ _ ?_))
 refine zC fun J q=>zA<| zI (gU a)<| zI v1 ?_
 have H:=dY H (Rp.int .u8) 5
 obtain ⟨k,s,b⟩:=zD b
 refine yA rfl rfl (zV en26 rfl) (Fciw (gK.mk []) c a (.slice none 0 0) v1 _ s _ _ _ (H.enter [3,2] [0,1] (by decide) rfl)) ?_
 rintro _ t ⟨j,rfl,u⟩
 have H:Hd _ _ t _ [f1 Rp.str v1 c,.fz (.at 3 0 ((Fl.arr 20 (Fl.int .u64)).f zJ)),.own (Rp.int .u8) j 5 k.out,.blk a [j] 63]:=H.back [3,2] [0,1] rfl u
 refine ⟨_,rfl,?_⟩
 refine zF (zB (q _ _ ?_))
 refine zC fun K v=>zA<| zI (gU a)<| zI (i6 d) ?_
 obtain ⟨h,y,b⟩:=zD b
 refine yA rfl rfl (zV en57 rfl) (Fb1w (gK.mk k.out) d a j _ y _ _ _ (H.enter [2,3] [1] (by decide) rfl)) ?_
 rintro _ z ⟨l,rfl,A⟩
 have H:Hd _ _ z _ [f1 Rp.str v1 c,.fz (.at 3 0 ((Fl.arr 20 (Fl.int .u64)).f zJ)),.own (Rp.int .u8) l 5 h.out,.blk a [l] 63]:=H.back [2,3] [1] rfl A
 refine ⟨_,rfl,?_⟩
 refine zF (zB (v _ _ ?_))
 refine zC fun L B=>zA<| zI (gU a) ?_
 have C:=H
 have H:=H.freezeB (i:=3) rfl
 have H:=H.freeze (i:=2) rfl
 have H:=H.fz (.pt aB (some ⟨a,0,none⟩) (some h)) ⟨_,_,_,rfl,(H.item (i:=3) rfl).1,(H.item (i:=3) rfl).2.1,(rOrangeboxref0Ink_mk (x:=h) (H.item (i:=2) rfl)),(H.item (i:=3) rfl).2.2⟩
 obtain ⟨m,D,b⟩:=zD b
 refine yA rfl rfl (zV en28 rfl) (Fbgw (some h) (some ⟨a,0,none⟩) _ D _ _ _ (H.enter [] [4] (by decide) rfl)) ?_
 rintro _ M ⟨rfl,E⟩
 have H:=C.step (E.only:Only [] _ _)
 refine ⟨_,rfl,?_⟩
 refine zK (sb m)<| zF (zB (B _ _ ?_))
 obtain rfl:=gI b
 refine (zY (fF (v1:=sb m) rfl rfl ?_))
 exact ⟨rfl,H.pick [] (by decide)⟩
end Go.Proofs.YtckmiljbaejijaaGreatDoor.L
