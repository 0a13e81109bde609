/- Walks: what each function computes, for every argument; no condition but those that stand in the statements. -/
import Derived.Test.YtgmikmoapfmedaaGreatDoorVV0
import Derived.Test.YtgmikmoapfmedaaGreatDoorVV5
import Derived.Test.YtgmikmoapfmedaaGreatDoorVV2
import Derived.Test.YtgmikmoapfmedaaGreatDoorVV3
namespace Go.Proofs.YtgmikmoapfmedaaGreatDoor.L
open Go.RowKit Go.OB Go.Lf
set_option maxHeartbeats 4000000
theorem Fcww (f:Rules)(h:Int)(n:Value)(o:Value)(q:Value)(r:Rules)(c:Fcw f h=some r)(O S:List Nat)(w:World)(H:Hd O w w S [f1 Rp.str n f.Phases,f1 gX o f.Moves,f1 fB q f.Rules]):
  Cl 89 [.agg [n,o,q].toArray,i6 h] w fun e t=> ∃R T u9,e= .returned (.agg [R,T,u9].toArray)∧Hd O w t S [f1 Rp.str R r.Phases,f1 gX T r.Moves,f1 fB u9 r.Rules]:=by
 unfold Fcw at c
 refine CW 70 Tryz.func89 ?_
 refine zB fun dc al=>zA<| yQ rfl rfl (xQ (cs:=[n,o,q]) rfl H) ?_
 rintro _ dd ⟨U,rfl,H⟩
 refine yQ rfl rfl (xB aAe H) ?_
 rintro _ de ⟨u,rfl,H⟩
 refine RN al<| zB fun df am=>zA<| yQ rfl rfl (Lx_mkmap H) ?_
 rintro _ dg ⟨A,rfl,H⟩
 refine zF (aQ rfl)<| Ld mM H 3 2 rfl rfl<| zH (i6 h) ?_
 obtain ⟨V,B,c⟩:=zD c
 obtain ⟨an,ao,dh,di,ap,aq,ar,au,av⟩:=fQ (H.item (i:=2) rfl) B
 obtain ⟨aw,rfl,ax⟩:=aC aq
 have H:=H.fzs [.at an (ao+h.toNat * 8) _,.sl fM aw V.When.Kids] ⟨⟨ar,au,av⟩,ax,trivial⟩
 refine zF (xG u73 aO ap rfl (zZ B).1 (zZ B).2.1 rfl rfl)<| zF (nN rfl)<| zF (xO dW rfl (Cells.get (H.item (i:=6) rfl).2.2 (i:=0) rfl)) ?_
 obtain ⟨ay,az,c⟩:=zD c
 refine yZ rfl (Lx_insert (K:=Ky.str) (G:=(fun v=>Value.bool v)) (m:=([]:List (Str×Bool))) (k:=V.Name) (v:=true) H 5 rfl u156 u9 rfl rfl rfl az) ?_
 rintro dj H
 refine zH (.map (some A))<| yQ rfl rfl (xB zero156 H) ?_
 rintro _ dk ⟨y,rfl,H⟩
 refine yZ rfl (xP H 8 rfl sz156 rfl (v:= .map (some A)) rfl rfl rfl) ?_
 rintro dl H
 refine RN am<| zB fun dm a0=>zA<| yQ rfl rfl (xB zero4 H) ?_
 rintro _ dn ⟨C,rfl,H⟩
 refine yZ rfl (xP H 9 rfl sz4 rfl (v:= .bool false) rfl rfl rfl) ?_
 rintro dp H
 refine RN a0 ?_
 obtain ⟨z,c,a1⟩:=zD c
 refine yL [7,19,20,21,22,23,24,25,26,27,28,29,30,31,32,33,34,35,36,37,38,39,40] (fun (g:Nat)=>[]) (fun g wl=>Hd O w wl S [f1 Rp.str n f.Phases,f1 gX o f.Moves,f1 fB q f.Rules,.blk U [n,o,q] 75,.blk u [.slice none 0 0,.slice none 0 0,.slice none 0 0] 75,.blk y [.map (some g)] 156,.mp g (bJ Ky.str (fun v=>Value.bool v) z.1),.blk C [.bool z.2] 4]) ?_ ?_
 ·skip
  refine zB fun dq a2=>zA<| zH (i6 h)<| zI (i6 h)<| RN a2<| yA ?_
  unfold Fem at c
  obtain ⟨a3,X,a4,c⟩:=yM c
  refine xA [7,20,21,22,23,24,25,26,27,28,29,30,31,32,33,34,35,36,37,38,39,40] (fun (g:Nat×Int×(List (Str×Bool))×Bool×Nat)=>[(7,i6 g.2.1)]) (fun g wl=>Hd O w wl S [f1 Rp.str n f.Phases,f1 gX o f.Moves,f1 fB q f.Rules,.blk U [n,o,q] 75,.blk u [.slice none 0 0,.slice none 0 0,.slice none 0 0] 75,.blk y [.map (some g.2.2.2.2)] 156,.mp g.2.2.2.2 (bJ Ky.str (fun v=>Value.bool v) g.2.2.1),.blk C [.bool g.2.2.2.1] 4]∧fJ a3 g.1 (g.2.1,g.2.2.1,g.2.2.2.1)=some z) (fun g=>g.1) (X,h,ay,false,A) (zJ rfl zK) ⟨H.pick [0,1,2,3,4,8,5,9],c⟩ ?_
  clear H c
  rintro ⟨X,j,Y,a5,Z⟩ ρ dr ⟨H,c⟩
  obtain ⟨a6,rfl,c⟩:=yS c
  have c:=yT a4 c
  refine zB fun ds a7=>?_
  refine zB fun dt a8=>zA<| zH (i6 j) ?_
  obtain ⟨a9,ba,c⟩:=zC c
  refine zF (zL (bK (a:=j) (b:=0) rfl rfl) ba)<| RN a8<| yB (b:=a9) rfl (fun D=>?_) (fun D=>?_)
  ·have c:=zT D c
   refine zS (zG (a7 _ _ ?_))
   refine zB fun du bb=>?_
   refine yA ?_
   refine zB fun dv bc=>?_
   refine zB fun dw bd=>?_
   have be:=H
   have H:=H.rebase
   have dx:=H
   refine WP_mix0 H [0,1,2,3,4,5,6,7,8] (kz [1,0,1,0,0,0,1,1,0]) mixed ?_
   refine XR one156 H 5 0 rfl rfl<| XP (fun _ _=>aQ rfl)<| XR mM H 3 2 rfl rfl<| XM (i6 j) ?_
   obtain ⟨aa,E,c⟩:=zD c
   obtain ⟨bf,bg,dy,dz,bh,bi,bj,bk,bl⟩:=fQ (H.item (i:=2) rfl) E
   obtain ⟨bm,rfl,bn⟩:=aC bi
   have H:=H.fzs [.at bf (bg+j.toNat * 8) _,.sl fM bm aa.When.Kids] ⟨⟨bj,bk,bl⟩,bn,trivial⟩
   refine XP (fun _ _=>xG u73 aO bh rfl (zZ E).1 (zZ E).2.1 rfl rfl)<| XP (fun _ _=>nN rfl)<| MxM.XL_read oS rfl rfl rfl (fun t F=>xO dW rfl (Cells.get ((H.sees F).item (i:=8) rfl).2.2 (i:=0) rfl)) ?_
   obtain ⟨bo,bp,c⟩:=zC c
   refine MxM.XL_read oS rfl rfl rfl (fun t F=>yK (vW (K:=Ky.str) (G:=(fun v=>Value.bool v)) (m:=Y) (k:=aa.Name) (zv:=false) ((H.sees F).item (i:=6) rfl) u156 u9 rfl rfl (Tryz.zeroValue4 t)) (congrArg (fun v=>Value.bool v) bp)) ?_
   obtain ⟨d0,bq,c⟩:=zC c
   refine XP (fun _ _=>zL (xX (p:=bo) rfl) bq)<| MxM.XL_nil fun d1 hS=>?_
   have H:=H.sees hS
   have H:=be.rejoin H
   refine (zG (bd _ _ ?_))
   obtain ⟨br,c⟩:=yO c
   refine xJ br ?_
   refine zS (zG (bc _ _ ?_))
   refine zA ?_
   refine zF (aQ rfl)<| Ld mM H 3 2 rfl rfl<| zH (i6 j) ?_
   obtain ⟨l,I,c⟩:=zD c
   obtain ⟨bt,bu,d2,d3,bv,bw,bx,bz,b0⟩:=fQ (H.item (i:=2) rfl) I
   obtain ⟨J,rfl,b1⟩:=aC bw
   have H:=H.fzs [.at bt (bu+j.toNat * 8) _,.sl fM J l.When.Kids] ⟨⟨bx,bz,b0⟩,b1,trivial⟩
   refine zF (xG u73 aO bv rfl (zZ I).1 (zZ I).2.1 rfl rfl)<| zF (qZ rfl)<| zF (yK (yH (cs:=[i6 l.When.Kind,sb l.When.Name,sb l.When.Other,i6 l.When.Op,i6 l.When.N,i6 l.When.Frames,J]) dV rfl dM rfl (Cells.drop (H.item (i:=10) rfl).2.2 1 7)) rfl)<| zF (dC rfl) ?_
   obtain ⟨⟨b2,b3⟩,b4,c⟩:=zD c
   refine zO rfl rfl (zM en117 rfl) (Fc5w l.When a5 Y J C y Z _ b4 _ _ _ (H.enter [7,6,5] [11])) ?_
   rintro _ d4 ⟨b5,rfl,b6⟩
   have H:Hd _ _ _ _ [_,_,_,_,_,_,_,_,_,_,_,_]:=H.back [7,6,5] [11] rfl b6
   refine ⟨_,rfl,?_⟩
   refine (zQ (yV (zG (bb _ _ ?_))))
   have H:Hd _ _ _ _ [_,_,_,_,_,_,_,_]:=H.pick [0,1,2,3,4,9,10,11]
   refine zA ?_
   refine zH (i6 j) ?_
   obtain ⟨ab,b7,c⟩:=zC c
   refine zF (bI (a:=j) (b:=1) rfl rfl b7)<| zI (i6 ab) ?_
   exact (zQ (zG (meet ⟨(a6,ab,b3,b2,b5),(zJ rfl zK),⟨H.pick [0,1,2,3,4,7,6,5],c⟩,Nat.lt_succ_self _⟩)))
  have c:=zU D c
  obtain rfl:=gI c
  exact (xH (yI (yI (yU (zG (meet ⟨Z,zK,H.pick [0,1,2,3,4,5,6,7]⟩))))))
 rintro ac ρ d5 H
 have c:=a1
 obtain ⟨ad,d6⟩:=z
 refine zB fun d7 b8=>zA<| yQ rfl rfl (xB aAe H) ?_
 rintro _ d8 ⟨ae,rfl,H⟩
 refine RN b8<| zB fun d9 b9=>zB fun ea ca=>zA<| Ld jS H 7 0 rfl rfl<| RN ca ?_
 obtain ⟨cb,c⟩:=yO c
 refine xJ cb ?_
 refine zS (zG (b9 _ _ ?_))
 obtain ⟨af,c,cc⟩:=zD c
 refine yL [10,48,49,50,51,52,53,54,55,56,57,58,59,60,61,62,63,64,65,66,67,68] (fun (g:Value)=>[]) (fun g wl=>Hd O w wl S [.blk u [.slice none 0 0,.slice none 0 0,.slice none 0 0] 75,.blk ae [.slice none 0 0,.slice none 0 0,g] 75,.own fB g 132 af]) ?_ ?_
 ·skip
  refine zB fun eb cd=>zA<| zF (aQ rfl)<| Ld mM H 3 2 rfl rfl<| zH (i6 h) ?_
  obtain ⟨ec,ce,c⟩:=zC c
  refine zF (xN (a:=h) (b:=1) rfl rfl ce) ?_
  obtain ⟨ag,cf,c⟩:=zD c
  refine aDo rfl rfl (pG u73 aO (H.item (i:=2) rfl) rfl rfl cf) ?_
  rintro ah cg
  have H:=H.fz (.sl fB ah ag) cg
  obtain ⟨ch,ci,c⟩:=zC c
  obtain ⟨ed,ee,cj⟩:=SlF.len ((H.item (i:=9) rfl))
  refine zF (yK (xI u73 cj) (congrArg (Value.int .i64) ci))<| zH (i6 0)<| RN cd<| yA ?_
  have H:=dL H fB 132
  unfold Fer at c
  obtain ⟨ck,ai,cl,c⟩:=yM c
  refine xA [10,54,55,56,57,58,59,60,61,62,63,64,65,66,67,68] (fun (g:Nat×Int×(List aN)×Value)=>[(54,i6 g.2.1)]) (fun g wl=>Hd O w wl S [.blk u [.slice none 0 0,.slice none 0 0,.slice none 0 0] 75,.blk y [.map (some ac)] 156,.mp ac (bJ Ky.str (fun v=>Value.bool v) ad),.blk ae [.slice none 0 0,.slice none 0 0,g.2.2.2] 75,.own fB g.2.2.2 132 g.2.2.1,f1 fB ah ag]∧fJ ck g.1 (g.2.1,g.2.2.1)=some af) (fun g=>g.1) (ai,0,[],.slice none 0 0) (zJ rfl zK) ⟨H.pick [4,5,6,8,10,9],c⟩ ?_
  clear H c
  rintro ⟨ai,L,ef,cm⟩ ρ eg ⟨H,c⟩
  obtain ⟨cn,rfl,c⟩:=yS c
  have c:=yT cl c
  refine zB fun eh co=>zA ?_
  obtain ⟨cp,cq,c⟩:=zC c
  refine zF (zL (xC (a:=L) (b:=ch) rfl rfl) cq)<| RN co<| zB fun ei cr=>yB (b:=cp) rfl (fun M=>?_) (fun M=>?_)
  ·have c:=zT M c
   refine zS (zG (cr _ _ ?_))
   refine zB fun ej ct=>?_
   refine yA ?_
   refine zB fun ek cu=>zA ?_
   obtain ⟨d,P,c⟩:=zD c
   obtain ⟨cv,cw,el,em,cx,cy,cz,c0,c1⟩:=fQ (H.item (i:=5) rfl) P
   obtain ⟨s,rfl,c2⟩:=aC cy
   have H:=H.fzs [.at cv (cw+L.toNat * 8) _,.sl fM s d.When.Kids] ⟨⟨cz,c0,c1⟩,c2,trivial⟩
   refine zF (xG u73 aO cx rfl (zZ P).1 (zZ P).2.1 rfl rfl)<| zF (yK (yH (cs:=[sb d.Name,i6 d.When.Kind,sb d.When.Name,sb d.When.Other,i6 d.When.Op,i6 d.When.N,i6 d.When.Frames,s]) rJ rfl aO rfl (H.item (i:=6) rfl).2.2) rfl)<| yQ rfl rfl (xB sW H) ?_
   rintro _ en ⟨eo,rfl,H⟩
   refine yZ rfl (yN (vs:=[sb d.Name,i6 d.When.Kind,sb d.When.Name,sb d.When.Other,i6 d.When.Op,i6 d.When.N,i6 d.When.Frames,s]) H 8 rfl aO rfl rfl rfl ⟨rfl,rfl,rfl,rfl,rfl,rfl,rfl,(dK (H.item (i:=7) rfl)),trivial⟩ rfl) ?_
   rintro c3 H
   refine RN cu<| zB fun ep c4=>zA<| Ld one156 H 1 0 rfl rfl<| zF (nN rfl)<| Ld dW H 8 0 rfl rfl ?_
   obtain ⟨eq,c5,c⟩:=zC c
   refine zF (yK (vW (K:=Ky.str) (G:=(fun v=>Value.bool v)) (m:=ad) (k:=d.Name) (zv:=false) (H.item (i:=2) rfl) u156 u9 rfl rfl (Tryz.zeroValue4 c3)) (congrArg (fun v=>Value.bool v) c5))<| RN c4 ?_
   obtain ⟨c6,c⟩:=eX c
   refine kF c6 ?_
   refine zA ?_
   refine zF (aQ rfl)<| Ld mM H 3 2 rfl rfl<| zF (yK (yH (cs:=[sb d.Name,i6 d.When.Kind,sb d.When.Name,sb d.When.Other,i6 d.When.Op,i6 d.When.N,i6 d.When.Frames,s]) rJ rfl aO rfl (Hbc H 8 rfl)) rfl) ?_
   obtain ⟨er,c7,c⟩:=zC c
   subst c7
   refine yQ rfl rfl (kX (r:=fB) (xl:=[d]) (cs:=[sb d.Name,i6 d.When.Kind,sb d.When.Name,sb d.When.Other,i6 d.When.Op,i6 d.When.N,i6 d.When.Frames,s]) u73 aBk (by decide) (by decide) rfl (xU (vs:=[.agg [sb d.Name,i6 d.When.Kind,sb d.When.Name,sb d.When.Other,i6 d.When.Op,i6 d.When.N,i6 d.When.Frames,s].toArray]) (by decide) rfl rfl ⟨rfl,trivial⟩ rfl) H ⟨[sb d.Name,i6 d.When.Kind,sb d.When.Name,sb d.When.Other,i6 d.When.Op,i6 d.When.N,i6 d.When.Frames,s],[],rfl,(aBf (x:=d) (H.item (i:=7) rfl)),rfl⟩) ?_
   rintro es et H
   obtain ⟨c8,c9,c⟩:=zD c
   refine yQ rfl rfl (jD H (i:=4) rfl u73 aBk rfl rfl (Sr.of_own (H.item (i:=9) rfl)) c9) ?_
   rintro aj eu H
   refine zF (aQ rfl)<| yZ rfl (xP H 3 rfl sz73 rfl (v:=aj) rfl (kL (H.item (i:=4) rfl)) rfl) ?_
   rintro ew H
   refine (zQ (yV (zG (ct _ _ ?_))))
   refine zA ?_
   obtain ⟨ak,da,c⟩:=zC c
   refine zF (xN (a:=L) (b:=1) rfl rfl da)<| zH (i6 ak) ?_
   exact (zQ (zG (meet ⟨(cn,ak,c8,aj),(zJ rfl zK),⟨H.pick [0,1,2,3,4,5],c⟩,Nat.lt_succ_self _⟩)))
  have c:=zU M c
  obtain rfl:=gI c
  exact (xH (yI (yI (yU (zG (meet ⟨cm,zK,H.pick [0,3,4]⟩))))))
 rintro Q ρ ex H
 have c:=cc
 refine zB fun ey db=>zA<| zF (yK (yH (cs:=[.slice none 0 0,.slice none 0 0,Q]) jK rfl nV rfl (Hbc H 1 rfl)) rfl)<| yZ rfl (yN (vs:=[.slice none 0 0,.slice none 0 0,Q]) H 0 rfl nV rfl rfl rfl ⟨rfl,rfl,(kL (H.item (i:=2) rfl)),trivial⟩ rfl) ?_
 rintro ez H
 refine RN db ?_
 have H:=H.fz (.sl Rp.str (.slice none 0 0) []) SlF.nil
 have H:=H.fz (.sl gX (.slice none 0 0) []) SlF.nil
 have H:=H.freeze (i:=2) rfl
 obtain rfl:=gI c
 refine (zW (jL rfl rfl (yX jK nV rfl (Hbc H 0 rfl)) ?_))
 exact ⟨.slice none 0 0,.slice none 0 0,Q,rfl,H.pick [3,4,2]⟩
theorem Fd6w (c:Cond)(g:List Str)(v1:Value)(f:Nat)(h:Value)(r:Int×(List Str))(d:Fd6 c g=some r)(O S:List Nat)(w:World)(H:Hd O w w S [.own Rp.str h 9 g,.blk f [h] 36,f1 fM v1 c.Kids]):
  Cl 169 [.agg [i6 c.Kind,sb c.Name,sb c.Other,i6 c.Op,i6 c.N,i6 c.Frames,v1].toArray,fA f] w fun e l=> ∃j,e= .returned (i6 r.1)∧Hd O w l S [.own Rp.str j 9 r.2,.blk f [j] 36]:=by
 unfold Fd6 at d
 refine CW 23 Tryz.func169 ?_
 refine zB fun B m=>zA<| yQ rfl rfl (xQ (cs:=[i6 c.Kind,sb c.Name,sb c.Other,i6 c.Op,i6 c.N,i6 c.Frames,v1]) rfl H) ?_
 rintro _ C ⟨D,rfl,H⟩
 refine zI (i6 0)<| RN m<| zB fun E n=>zB fun F o=>zA<| zF (kY rfl)<| Ld fK H 3 0 rfl rfl<| RN o<| yA<| zB fun G p=>zB fun I q=>zA ?_
 obtain ⟨s,t,d⟩:=zC d
 refine zF (zL (xW (a:=c.Kind) (b:=3) rfl rfl) t)<| zI (.bool s)<| RN q ?_
 obtain ⟨u,d⟩:=eX d
 refine kF u ?_
 refine zS (zG (p _ _ ?_))
 obtain ⟨x,d⟩:=eX d
 refine kF x ?_
 refine zA ?_
 refine Ld aEi H 1 0 rfl rfl<| zF (aEl rfl)<| Ld dW H 3 1 rfl rfl ?_
 obtain ⟨J,y,d⟩:=zC d
 subst y
 refine yQ rfl rfl (kX (r:=Rp.str) (xl:=[c.Name]) (cs:=[sb c.Name]) u36 el9 (by decide) (by decide) rfl (xU (vs:=[sb c.Name]) (by decide) rfl rfl ⟨rfl,trivial⟩ rfl) H ⟨[sb c.Name],[],rfl,rfl,rfl⟩) ?_
 rintro K L H
 obtain ⟨M,z,d⟩:=zD d
 refine yQ rfl rfl (jD H (i:=0) rfl u36 el9 rfl rfl (Sr.of_own (H.item (i:=4) rfl)) z) ?_
 rintro k P H
 refine yZ rfl (xP H 1 rfl sz36 rfl (v:=k) rfl (kL (H.item (i:=0) rfl)) rfl) ?_
 rintro Q H
 refine (zQ (yV (zG (n _ _ ?_))))
 refine zB fun R A=>zA<| zI (i6 0)<| RN A ?_
 obtain rfl:=gI d
 refine (zW (gZ (v1:=i6 0) rfl rfl ?_))
 exact ⟨k,rfl,H.pick [0,1]⟩
theorem Fdtw (d:Cond)(p1c0:List Str)(v1:Value)(f:Nat)(j:Value)(r:Int×(List Str))(c:Fdt d p1c0=some r)(O S:List Nat)(w:World)(H:Hd O w w S [.own Rp.str j 9 p1c0,.blk f [j] 36,f1 fM v1 d.Kids]):
  Cl 110 [.agg [i6 d.Kind,sb d.Name,sb d.Other,i6 d.Op,i6 d.N,i6 d.Frames,v1].toArray,.func (.func 169) #[] #[fA f]] w fun e o=> ∃l,e= .returned (i6 r.1)∧Hd O w o S [.own Rp.str l 9 r.2,.blk f [l] 36]:=by
 unfold Fdt at c
 refine CW 29 Tryz.func110 ?_
 refine zB fun M p=>zA<| yQ rfl rfl (xQ (cs:=[i6 d.Kind,sb d.Name,sb d.Other,i6 d.Op,i6 d.N,i6 d.Frames,v1]) rfl H) ?_
 rintro _ P ⟨Q,rfl,H⟩
 refine zI (i6 0)<| RN p<| zB fun R q=>zB fun T s=>zA<| zH (.func (.func 169) #[] #[fA f])<| zF (yK (yH (cs:=[i6 d.Kind,sb d.Name,sb d.Other,i6 d.Op,i6 d.N,i6 d.Frames,v1]) dV rfl dM rfl (Hbc H 3 rfl)) rfl) ?_
 obtain ⟨⟨k,m⟩,t,c⟩:=zD c
 refine zO rfl rfl (bY en169 rfl rfl) (Fd6w d p1c0 v1 f j _ t _ _ _ (H.enter [0,1] [2])) ?_
 rintro _ U ⟨h,rfl,u⟩
 have H:Hd _ _ _ _ [_,_,_,_]:=H.back [0,1] [2] rfl u
 refine ⟨_,rfl,?_⟩
 refine zI (i6 k)<| RN s<| zB fun V v=>zA<| zH (i6 k) ?_
 obtain ⟨X,x,c⟩:=zC c
 refine zF (zL (dJ (a:=k) (b:=0) rfl rfl) x)<| RN v ?_
 obtain ⟨y,c⟩:=yO c
 refine xJ y ?_
 refine zS (zG (q _ _ ?_))
 obtain ⟨z,A,c⟩:=xM c
 refine yL [4,7,8,15,16,17,18,19,20,21,22,23,24,25,26,27,28] (fun (g:Unit)=>[]) (fun g wl=>Hd O w wl S [.own Rp.str h 9 m,.blk f [h] 36]∧z ()=some r) ?_ ?_
 ·skip
  refine zB fun Y B=>zA<| zF (nR rfl)<| Ld rF H 1 6 rfl rfl ?_
  obtain ⟨C,D,c⟩:=zC c
  obtain ⟨Z,aa,E⟩:=SlF.len ((H.item (i:=0) rfl))
  refine zF (yK (xI sO E) (congrArg (Value.int .i64) D))<| zH (i6 0)<| RN B<| yA ?_
  unfold Fee at c
  obtain ⟨F,n,G,c⟩:=yM c
  refine xA [4,7,8,18,19,20,21,22,23,24,25,26,27,28] (fun (g:Nat)=>[(18,i6 0)]) (fun g wl=>Hd O w wl S [f1 fM v1 d.Kids,.own Rp.str h 9 m,.blk f [h] 36]∧fJ F g ()=some r) (fun g=>g) n (zJ rfl zK) ⟨H.pick [0,2,3],c⟩ ?_
  clear H c
  rintro n ρ ab ⟨H,c⟩
  obtain ⟨ac,rfl,c⟩:=yS c
  have c:=yT G c
  refine zB fun ad I=>zA ?_
  obtain ⟨ae,J,c⟩:=zC c
  refine zF (zL (xC (a:=0) (b:=C) rfl rfl) J)<| RN I<| zB fun af ag=>?_
  obtain ⟨K,c⟩:=yO c
  refine xJ K ?_
  exact (xH (yI (yI (yU (zG (meet ⟨(),zK,⟨H.pick [1,2],c⟩⟩))))))
 rintro _ ρ ah ⟨H,c⟩
 have c:=xR A c
 refine zB fun ai L=>zA<| zI (i6 0)<| RN L ?_
 obtain rfl:=gI c
 refine (zW (gZ (v1:=i6 0) rfl rfl ?_))
 exact ⟨h,rfl,H.pick [0,1]⟩
theorem Fcrw (a:Cond)(v1:Value)(r:(List Str))(b:Fcr a=some r)(O S:List Nat)(w:World)(H:Hd O w w S [f1 fM v1 a.Kids]):
  Cl 147 [.agg [i6 a.Kind,sb a.Name,sb a.Other,i6 a.Op,i6 a.N,i6 a.Frames,v1].toArray] w fun e d=> ∃u3,e= .returned (u3)∧Hd O w d S [.own Rp.str u3 9 r]:=by
 unfold Fcr at b
 refine CW 8 Tryz.func147 ?_
 refine zB fun m f=>zA<| yQ rfl rfl (xQ (cs:=[i6 a.Kind,sb a.Name,sb a.Other,i6 a.Op,i6 a.N,i6 a.Frames,v1]) rfl H) ?_
 rintro _ n ⟨o,rfl,H⟩
 refine zI (.slice none 0 0)<| RN f<| zB fun p g=>zA<| yQ rfl rfl (xB zero36 H) ?_
 rintro _ q ⟨h,rfl,H⟩
 refine RN g<| zB fun s i=>zA<| zF (yK (yH (cs:=[i6 a.Kind,sb a.Name,sb a.Other,i6 a.Op,i6 a.N,i6 a.Frames,v1]) dV rfl dM rfl (Hbc H 1 rfl)) rfl)<| zF (dC rfl) ?_
 have H:=dL H Rp.str 9
 obtain ⟨⟨t,u⟩,j,b⟩:=zD b
 refine zO rfl rfl (zM en110 rfl) (Fdtw a [] v1 h (.slice none 0 0) _ j _ _ _ (H.enter [3,2] [0])) ?_
 rintro _ v ⟨c,rfl,k⟩
 have H:Hd _ _ _ _ [_,_,_,_]:=H.back [3,2] [0] rfl k
 refine ⟨_,rfl,?_⟩
 refine RN i<| zB fun x l=>zA<| Ld aEi H 3 0 rfl rfl<| zI c<| RN l ?_
 obtain rfl:=gI b
 refine (zW (gZ (v1:=c) rfl rfl ?_))
 exact ⟨c,rfl,H.pick [2]⟩
theorem Fdow (f:Rules)(v1:Value)(j:Value)(h:Value)(r:(List Str))(c:Fdo f=some r)(O S:List Nat)(w:World)(H:Hd O w w S [f1 Rp.str v1 f.Phases,f1 gX j f.Moves,f1 fB h f.Rules]):
  Cl 116 [.agg [v1,j,h].toArray] w fun e A=> ∃s,e= .returned (s)∧Hd O w A S [.own Rp.str s 9 r]:=by
 unfold Fdo at c
 refine CW 38 Tryz.func116 ?_
 refine zB fun K8 B=>zA<| yQ rfl rfl (xQ (cs:=[v1,j,h]) rfl H) ?_
 rintro _ a5 ⟨t,rfl,H⟩
 refine zI (.slice none 0 0)<| RN B<| zB fun a6 C=>zA<| zI (.slice none 0 0)<| RN C ?_
 obtain ⟨D,c,F⟩:=zD c
 refine yL [3,5,8,9,10,11,12,13,14,15,16,17,18,19,20] (fun (g:Unit)=>[(3,.slice none 0 0)]) (fun g wl=>Hd O w wl S [f1 Rp.str v1 f.Phases,f1 gX j f.Moves,f1 fB h f.Rules,.blk t [v1,j,h] 75]) ?_ ?_
 ·skip
  refine zB fun a7 G=>zA<| zF (aCu rfl)<| Ld one72 H 3 1 rfl rfl ?_
  obtain ⟨I,J,c⟩:=zC c
  obtain ⟨a8,a9,K⟩:=SlF.len ((H.item (i:=1) rfl))
  refine zF (yK (xI u72 K) (congrArg (Value.int .i64) J))<| zH (i6 0)<| RN G<| yA ?_
  unfold Fek at c
  obtain ⟨L,u,M,c⟩:=yM c
  refine xA [3,5,11,12,13,14,15,16,17,18,19,20] (fun (g:Nat)=>[(3,.slice none 0 0),(11,i6 0)]) (fun g wl=>Hd O w wl S [f1 Rp.str v1 f.Phases,f1 gX j f.Moves,f1 fB h f.Rules,.blk t [v1,j,h] 75]∧fJ L g ()=some D) (fun g=>g) u (zJ rfl (zJ rfl zK)) ⟨H.pick [0,1,2,3],c⟩ ?_
  clear H c
  rintro u ρ ba ⟨H,c⟩
  obtain ⟨bb,rfl,c⟩:=yS c
  have c:=yT M c
  refine zB fun bc P=>zA ?_
  obtain ⟨bd,Q,c⟩:=zC c
  refine zF (zL (xC (a:=0) (b:=I) rfl rfl) Q)<| RN P<| zB fun be bf=>?_
  obtain ⟨R,c⟩:=yO c
  refine xJ R ?_
  obtain rfl:=gI c
  exact (xH (yI (yI (yU (zG (meet ⟨(),(zJ rfl zK),H.pick [0,1,2,3]⟩))))))
 rintro _ ρ bg H
 have c:=F
 obtain ⟨m,c,T⟩:=zD c
 refine yL [3,7,21,22,23,24,25,26,27,28,29,30,31,32,33] (fun (g:Value)=>[(3,g)]) (fun g wl=>Hd O w wl S [.own Rp.str g 9 m]) ?_ ?_
 ·skip
  refine zB fun bh U=>zA<| zF (aQ rfl)<| Ld mM H 3 2 rfl rfl ?_
  obtain ⟨V,X,c⟩:=zC c
  obtain ⟨bi,bj,Y⟩:=SlF.len ((H.item (i:=2) rfl))
  refine zF (yK (xI u73 Y) (congrArg (Value.int .i64) X))<| zH (i6 0)<| RN U<| yA ?_
  have H:=dL H Rp.str 9
  unfold Fej at c
  obtain ⟨Z,v,aa,c⟩:=yM c
  refine xA [3,7,24,25,26,27,28,29,30,31,32,33] (fun (g:Nat×(List Str)×Int×Value)=>[(3,g.2.2.2),(24,i6 g.2.2.1)]) (fun g wl=>Hd O w wl S [.own Rp.str g.2.2.2 9 g.2.1,f1 fB h f.Rules]∧fJ Z g.1 (g.2.1,g.2.2.1)=some m) (fun g=>g.1) (v,[],0,.slice none 0 0) (zJ rfl (zJ rfl zK)) ⟨H.pick [4,2],c⟩ ?_
  clear H c
  rintro ⟨v,bk,n,x⟩ ρ bl ⟨H,c⟩
  obtain ⟨ab,rfl,c⟩:=yS c
  have c:=yT aa c
  refine zB fun bm ac=>zA ?_
  obtain ⟨ad,ae,c⟩:=zC c
  refine zF (zL (xC (a:=n) (b:=V) rfl rfl) ae)<| RN ac<| zB fun bn af=>yB (b:=ad) rfl (fun o=>?_) (fun o=>?_)
  ·have c:=zT o c
   refine zS (zG (af _ _ ?_))
   refine zB fun bo ag=>?_
   refine yA ?_
   refine zB fun bp ah=>zA ?_
   obtain ⟨d,p,c⟩:=zD c
   obtain ⟨ai,aj,bq,br,ak,al,am,an,ao⟩:=fQ (H.item (i:=1) rfl) p
   obtain ⟨k,rfl,ap⟩:=aC al
   have H:=H.fzs [.at ai (aj+n.toNat * 8) _,.sl fM k d.When.Kids] ⟨⟨am,an,ao⟩,ap,trivial⟩
   refine zF (xG u73 aO ak rfl (zZ p).1 (zZ p).2.1 rfl rfl)<| zF (yK (yH (cs:=[sb d.Name,i6 d.When.Kind,sb d.When.Name,sb d.When.Other,i6 d.When.Op,i6 d.When.N,i6 d.When.Frames,k]) rJ rfl aO rfl (H.item (i:=2) rfl).2.2) rfl)<| yQ rfl rfl (xB sW H) ?_
   rintro _ bt ⟨bu,rfl,H⟩
   refine yZ rfl (yN (vs:=[sb d.Name,i6 d.When.Kind,sb d.When.Name,sb d.When.Other,i6 d.When.Op,i6 d.When.N,i6 d.When.Frames,k]) H 4 rfl aO rfl rfl rfl ⟨rfl,rfl,rfl,rfl,rfl,rfl,rfl,(dK (H.item (i:=3) rfl)),trivial⟩ rfl) ?_
   rintro bv H
   refine RN ah<| zA<| zH x<| zF (qZ rfl)<| zF (yK (yH (cs:=[i6 d.When.Kind,sb d.When.Name,sb d.When.Other,i6 d.When.Op,i6 d.When.N,i6 d.When.Frames,k]) dV rfl dM rfl (Cells.drop (Hbc H 4 rfl) 1 7)) rfl) ?_
   obtain ⟨bw,aq,c⟩:=zD c
   refine zO rfl rfl (zM en147 rfl) (Fcrw d.When k _ aq _ _ _ (H.enter [] [3])) ?_
   rintro _ bx ⟨bz,rfl,ar⟩
   have H:=H.back1 [3] rfl ar
   refine ⟨_,rfl,?_⟩
   obtain ⟨au,av,c⟩:=zD c
   refine yQ rfl rfl (jD H (i:=0) rfl u36 el9 rfl rfl (Sr.of_own (H.item (i:=5) rfl)) av) ?_
   rintro y b0 H
   refine zI y<| (zQ (yV (zG (ag _ _ ?_))))
   refine zA ?_
   obtain ⟨z,aw,c⟩:=zC c
   refine zF (xN (a:=n) (b:=1) rfl rfl aw)<| zH (i6 z) ?_
   exact (zQ (zG (meet ⟨(ab,au,z,y),(zJ rfl (zJ rfl zK)),⟨H.pick [0,1],c⟩,Nat.lt_succ_self _⟩)))
  have c:=zU o c
  obtain rfl:=gI c
  exact (xH (yI (yI (yU (zG (meet ⟨x,(zJ rfl zK),H.pick [0]⟩))))))
 rintro l ρ b1 H
 have c:=T
 refine zB fun b2 ax=>zA<| zH l ?_
 obtain ⟨ay,az,c⟩:=zD c
 refine zO rfl rfl (zM en148 rfl) (E.Fcow m l _ az _ _ _ (H.enter [0] [])) ?_
 rintro _ b3 ⟨rfl,a0⟩
 have H:Hd _ _ _ _ [_]:=H.back [0] [] rfl a0
 refine ⟨_,rfl,?_⟩
 refine RN ax<| zB fun b4 a1=>zA<| zH l ?_
 obtain ⟨b5,a2,c⟩:=zD c
 refine zO rfl rfl (zM en150 rfl) (E.Fdqw ay l _ a2 _ _ _ (H.enter [0] [])) ?_
 rintro _ b6 ⟨q,rfl,a3⟩
 have H:Hd _ _ _ _ [_]:=H.back [0] [] rfl a3
 refine ⟨_,rfl,?_⟩
 refine zI q<| RN a1 ?_
 obtain rfl:=gI c
 refine (zW (gZ (v1:=q) rfl rfl ?_))
 exact ⟨q,rfl,H.pick [0]⟩
theorem Fdfw (f:Rules)(v1:Value)(v2:Value)(d:Value)(r:(List Str)×Int)(c:Fdf f=some r)(O S:List Nat)(w:World)(H:Hd O w w S [f1 Rp.str v1 f.Phases,f1 gX v2 f.Moves,f1 fB d f.Rules]):
  Cl 88 [.agg [v1,v2,d].toArray] w fun e j=> ∃i,e= .returned (.tuple #[i,i6 r.2])∧Hd O w j S [.own Rp.str i 9 r.1]:=by
 unfold Fdf at c
 refine CW 12 Tryz.func88 ?_
 refine zB fun y k=>zA<| yQ rfl rfl (xQ (cs:=[v1,v2,d]) rfl H) ?_
 rintro _ z ⟨A,rfl,H⟩
 refine zI (.slice none 0 0)<| zI (i6 0)<| RN k<| zB fun B l=>zB fun C m=>zA<| zF (yK (yH (cs:=[v1,v2,d]) jK rfl nV rfl (Hbc H 3 rfl)) rfl) ?_
 have n:=H
 obtain ⟨g,o,c⟩:=zD c
 refine zO rfl rfl (zM en58 rfl) (Fa7w f v1 v2 d _ o _ _ _ (H.enter [] [0,1,2])) ?_
 rintro _ D ⟨rfl,p⟩
 have H:=n.step (p.only:Only [] _ _)
 refine ⟨_,rfl,?_⟩
 refine zI (i6 g)<| RN m<| zB fun E q=>zA<| zH (i6 g) ?_
 obtain ⟨F,s,c⟩:=zC c
 refine zF (zL (dJ (a:=g) (b:=0) rfl rfl) s)<| RN q ?_
 obtain ⟨t,c⟩:=yO c
 refine xJ t ?_
 refine zS (zG (l _ _ ?_))
 refine zB fun G u=>zA<| zF (yK (yH (cs:=[v1,v2,d]) jK rfl nV rfl (Hbc H 3 rfl)) rfl) ?_
 obtain ⟨I,v,c⟩:=zD c
 refine zO rfl rfl (zM en116 rfl) (Fdow f v1 v2 d _ v _ _ _ (H.enter [] [0,1,2])) ?_
 rintro _ J ⟨h,rfl,x⟩
 have H:=H.back1 [0,1,2] rfl x
 refine ⟨_,rfl,?_⟩
 refine zI h<| zI (i6 0)<| RN u ?_
 obtain rfl:=gI c
 refine (zW (cZ (v1:=h) (v2:=i6 0) rfl rfl rfl ?_))
 exact ⟨h,rfl,H.pick [4]⟩
theorem Fdgw (c:Rules)(g:Int)(v1:Value)(d:Value)(f:Value)(r:(List Str))(b:Fdg c g=some r)(O S:List Nat)(w:World)(H:Hd O w w S [f1 Rp.str v1 c.Phases,f1 gX d c.Moves,f1 fB f c.Rules]):
  Cl 60 [.agg [v1,d,f].toArray,i6 g] w fun e j=> ∃i,e= .returned (i)∧Hd O w j S [.own Rp.str i 9 r]:=by
 unfold Fdg at b
 refine CW 15 Tryz.func60 ?_
 refine zB fun y k=>zA<| yQ rfl rfl (xQ (cs:=[v1,d,f]) rfl H) ?_
 rintro _ z ⟨A,rfl,H⟩
 refine zI (.slice none 0 0)<| RN k<| zB fun B l=>zA<| zF (yK (yH (cs:=[v1,d,f]) jK rfl nV rfl (Hbc H 3 rfl)) rfl)<| zH (i6 g) ?_
 obtain ⟨m,n,b⟩:=zD b
 refine zO rfl rfl (zM en89 rfl) (Fcww c g v1 d f _ n _ _ _ (H.enter [] [0,1,2])) ?_
 rintro _ C ⟨o,p,q,rfl,s⟩
 have H:=H.back1 [0,1,2] rfl s
 refine ⟨_,rfl,?_⟩
 obtain ⟨⟨D,h⟩,t,b⟩:=zD b
 refine zO rfl rfl (zM en88 rfl) (Fdfw m o p q _ t _ _ _ (H.enter [] [4,5,6])) ?_
 rintro _ E ⟨a,rfl,u⟩
 have H:=H.back1 [4,5,6] rfl u
 refine ⟨_,rfl,?_⟩
 refine zH (.tuple #[a,i6 h])<| zF (yP (v:=a) rfl rfl)<| zF (yP (v:=i6 h) rfl rfl)<| zI a<| zI (i6 h)<| RN l<| zB fun F x=>zA<| zH a<| zI a<| RN x ?_
 obtain rfl:=gI b
 refine (zW (gZ (v1:=a) rfl rfl ?_))
 exact ⟨a,rfl,H.pick [7]⟩
theorem Fdyw (f:Rules)(h:Str)(v1:Value)(v2:Value)(d:Value)(r:(List Str)×Int)(c:Fdy f h=some r)(O S:List Nat)(w:World)(H:Hd O w w S [f1 Rp.str v1 f.Phases,f1 gX v2 f.Moves,f1 fB d f.Rules]):
  Cl 31 [.agg [v1,v2,d].toArray,sb h] w fun e l=> ∃k,e= .returned (.tuple #[k,i6 r.2])∧Hd O w l S [.own Rp.str k 9 r.1]:=by
 unfold Fdy at c
 refine CW 21 Tryz.func31 ?_
 refine zB fun J m=>zA<| yQ rfl rfl (xQ (cs:=[v1,v2,d]) rfl H) ?_
 rintro _ K ⟨L,rfl,H⟩
 refine zI (.slice none 0 0)<| zI (i6 0)<| RN m<| zB fun M n=>zB fun N o=>zA<| zF (yK (yH (cs:=[v1,v2,d]) jK rfl nV rfl (Hbc H 3 rfl)) rfl) ?_
 have p:=H
 obtain ⟨i,q,c⟩:=zD c
 refine zO rfl rfl (zM en58 rfl) (Fa7w f v1 v2 d _ q _ _ _ (H.enter [] [0,1,2])) ?_
 rintro _ P ⟨rfl,s⟩
 have H:=p.step (s.only:Only [] _ _)
 refine ⟨_,rfl,?_⟩
 refine zI (i6 i)<| RN o<| zB fun Q t=>zA<| zH (i6 i) ?_
 obtain ⟨R,u,c⟩:=zC c
 refine zF (zL (dJ (a:=i) (b:=0) rfl rfl) u)<| RN t ?_
 obtain ⟨v,c⟩:=yO c
 refine xJ v ?_
 refine zS (zG (n _ _ ?_))
 refine zB fun T x=>zA<| zF (yK (yH (cs:=[v1,v2,d]) jK rfl nV rfl (Hbc H 3 rfl)) rfl)<| zH (sb h) ?_
 have y:=H
 obtain ⟨g,z,c⟩:=zD c
 refine zO rfl rfl (zM en59 rfl) (Fd4w f h v1 v2 d _ z _ _ _ (H.enter [] [0,1,2])) ?_
 rintro _ U ⟨rfl,A⟩
 have H:=y.step (A.only:Only [] _ _)
 refine ⟨_,rfl,?_⟩
 refine zI (i6 g)<| RN x<| zB fun V B=>zB fun X C=>zA<| zH (i6 g) ?_
 obtain ⟨Y,D,c⟩:=zC c
 refine zF (zL (xC (a:=g) (b:=0) rfl rfl) D)<| RN C ?_
 obtain ⟨E,c⟩:=yO c
 refine xJ E ?_
 refine zS (zG (B _ _ ?_))
 refine zB fun Z F=>zA<| zF (yK (yH (cs:=[v1,v2,d]) jK rfl nV rfl (Hbc H 3 rfl)) rfl)<| zH (i6 g) ?_
 obtain ⟨aa,G,c⟩:=zD c
 refine zO rfl rfl (zM en60 rfl) (Fdgw f g v1 v2 d _ G _ _ _ (H.enter [] [0,1,2])) ?_
 rintro _ ab ⟨j,rfl,I⟩
 have H:=H.back1 [0,1,2] rfl I
 refine ⟨_,rfl,?_⟩
 refine zI j<| zI (i6 0)<| RN F ?_
 obtain rfl:=gI c
 refine (zW (cZ (v1:=j) (v2:=i6 0) rfl rfl rfl ?_))
 exact ⟨j,rfl,H.pick [4]⟩
theorem Fclw (r:Bool)(c:Fcl=some r)(O S:List Nat)(w:World)(H:Hd O w w S [.fz (.at 1 0 ((Fl.arr 7 Fl.str).f yG)),.fz (.gi 5)]):
  Cl 10 [] w fun e u=>e= .returned (.bool r)∧Hd O w u S []:=by
 unfold Fcl at c
 refine CW 33 Tryz.func10 ?_
 refine zB fun K3 x=>zA<| zI (.bool false)<| RN x<| zB fun K4 y=>zA ?_
 obtain ⟨⟨j,n,l⟩,z,c⟩:=zD c
 refine zO rfl rfl (zM en30 rfl) (Fdkw [114,117,108,101,32,97,32,105,102,32,120,32,62,32,49] _ z _ _ _ (H.enter [] [0,1])) ?_
 rintro _ af ⟨d,g,h,rfl,A⟩
 have H:=H.back1 [0,1] rfl A
 refine ⟨_,rfl,?_⟩
 refine zH (.tuple #[.agg [d,g,h].toArray,i6 n,i6 l])<| zF (yP (v:= .agg [d,g,h].toArray) rfl rfl)<| zF (yP (v:=i6 n) rfl rfl)<| zF (yP (v:=i6 l) rfl rfl)<| yQ rfl rfl (xB aAe H) ?_
 rintro _ ag ⟨q,rfl,H⟩
 refine yZ rfl (yN (vs:=[d,g,h]) H 5 rfl nV rfl rfl rfl ⟨(dK (H.item (i:=2) rfl)),(dK (H.item (i:=3) rfl)),(dK (H.item (i:=4) rfl)),trivial⟩ rfl) ?_
 rintro ah H
 refine zI (i6 n)<| zI (i6 l)<| RN y<| zB fun ai B=>zA<| zF (yK (yH (cs:=[d,g,h]) jK rfl nV rfl (Hbc H 5 rfl)) rfl) ?_
 obtain ⟨⟨s,m⟩,C,c⟩:=zD c
 refine zO rfl rfl (zM en31 rfl) (Fdyw j [97] d g h _ C _ _ _ (H.enter [] [2,3,4])) ?_
 rintro _ aj ⟨k,rfl,D⟩
 have H:=H.back1 [2,3,4] rfl D
 refine ⟨_,rfl,?_⟩
 refine zH (.tuple #[k,i6 m])<| zF (yP (v:=k) rfl rfl)<| zF (yP (v:=i6 m) rfl rfl)<| zI k<| zI (i6 m)<| RN B<| zB fun ak E=>zA<| zH (i6 l) ?_
 obtain ⟨al,F,c⟩:=zC c
 refine zF (zL (xW (a:=l) (b:=0) rfl rfl) F) ?_
 obtain ⟨G,c,I⟩:=zD c
 refine eF 4 [18,19,20,21] [(21,.bool G)] (fun wl=>Hd O w wl S [.fz (.at 1 0 ((Fl.arr 7 Fl.str).f yG)),.fz (.gi 5),f1 Rp.str d j.Phases,f1 gX g j.Moves,f1 fB h j.Rules,.blk q [d,g,h] 75,.own Rp.str k 9 s]) ?_ ?_
 ·skip
  obtain ⟨J,c⟩:=eX c
  refine dI true J ?_
  refine zH (i6 m) ?_
  obtain ⟨K,L,c⟩:=zC c
  refine zF (zL (xW (a:=m) (b:=0) rfl rfl) L)<| zF (yD (v:= .bool K) rfl rfl) ?_
  obtain rfl:=gI c
  exact zQ (zG (meet ⟨(zJ rfl zK),H.pick [0,1,2,3,4,5,6]⟩))
 rintro ρ am H
 have c:=I
 obtain ⟨M,c,N⟩:=zD c
 refine eF 5 [22,23,24,25,26] [(26,.bool M)] (fun wl=>Hd O w wl S [.fz (.at 1 0 ((Fl.arr 7 Fl.str).f yG)),.fz (.gi 5),f1 Rp.str d j.Phases,f1 gX g j.Moves,f1 fB h j.Rules,.blk q [d,g,h] 75,.own Rp.str k 9 s]) ?_ ?_
 ·skip
  obtain ⟨P,c⟩:=eX c
  refine dI true P ?_
  refine zH k ?_
  obtain ⟨Q,R,c⟩:=zC c
  obtain ⟨an,ao,T⟩:=Sr.len (Sr.of_own (H.item (i:=6) rfl))
  refine zF (yK (xI u36 T) (congrArg (Value.int .i64) R)) ?_
  obtain ⟨U,V,c⟩:=zC c
  refine zF (zL (xW (a:=Q) (b:=1) rfl rfl) V)<| zF (yD (v:= .bool U) rfl rfl) ?_
  obtain rfl:=gI c
  exact zQ (zG (meet ⟨(zJ rfl zK),H.pick [0,1,2,3,4,5,6]⟩))
 rintro ρ ap H
 have c:=N
 obtain ⟨X,c⟩:=eX c
 refine dI true X ?_
 refine zH k ?_
 obtain ⟨t,o,c⟩:=zD c
 obtain ⟨aq,ar,Y,Z,aa,ab⟩:=pK (H.item (i:=6) rfl) o
 obtain rfl:Y= [sb t]:=aa
 refine zF (xG u36 sz9 Z rfl (zZ o).1 (zZ o).2.1 rfl rfl)<| zF (xO dW rfl (Cells.get ab (i:=0) rfl)) ?_
 obtain ⟨p,ac,c⟩:=zC c
 refine zF (zL (fU (s1:=t) (s2:=[120]) rfl rfl) ac)<| zF (yD (v:= .bool p) rfl rfl)<| zI (.bool p)<| RN E ?_
 obtain rfl:=gI c
 refine (zW (gZ (v1:= .bool p) rfl rfl ?_))
 exact ⟨rfl,H.pick []⟩
theorem Fb8w (o:List gW)(p:List Twins)(k:Int)(l:Int)(v1:Value)(d:Value)(r:Bool)(c:Fb8 o p k l=some r)(O S:List Nat)(w:World)(H:Hd O w w S [f1 fH v1 o,f1 dD d p,.fz (.at 0 0 ((Fl.arr 20 (Fl.int .u64)).f zX)),.fz (.at 1 0 ((Fl.arr 7 Fl.str).f yG)),.fz (.gi 5)]):
  Cl 3 [v1,d,i6 k,i6 l] w fun e I=>e= .returned (.bool r)∧Hd O w I S []:=by
 unfold Fb8 at c
 refine CW 54 Tryz.func3 ?_
 refine zB fun K8 J=>zA<| zI (.bool false)<| RN J<| zB fun K9 K=>zA<| zF (dB (cs:=[.slice none 0 0]) bz27)<| yQ rfl rfl (xQ (cs:=[.slice none 0 0]) rfl H) ?_
 rintro _ av ⟨h,rfl,H⟩
 refine zF (dB (cs:=[.slice none 0 0]) bz27)<| yQ rfl rfl (xQ (cs:=[.slice none 0 0]) rfl H) ?_
 rintro _ aw ⟨j,rfl,H⟩
 refine zI (fA h)<| zI (fA j)<| RN K<| zB fun ax L=>zA<| zH v1<| zH d<| zH (i6 k)<| zH (i6 l) ?_
 obtain ⟨⟨A,q⟩,M,c⟩:=zD c
 refine zO rfl rfl (zM en6 rfl) (Fazw o p k l v1 d _ M _ _ _ (H.enter [] [0,1])) ?_
 rintro _ ay ⟨m,rfl,N⟩
 have H:=H.back1 [0,1] rfl N
 refine ⟨_,rfl,?_⟩
 refine zH (.tuple #[m,i6 q])<| zF (yP (v:=m) rfl rfl)<| zF (yP (v:=i6 q) rfl rfl)<| zI m<| zI (i6 q)<| RN L<| zB fun az P=>zA<| zH v1<| zH d<| zH (i6 k)<| zH (i6 l) ?_
 obtain ⟨⟨B,s⟩,Q,c⟩:=zD c
 refine zO rfl rfl (zM en7 rfl) (Fbfw o p k l v1 d _ Q _ _ _ (H.enter [] [0,1])) ?_
 rintro _ a0 ⟨n,rfl,R⟩
 have H:=H.back1 [0,1] rfl R
 refine ⟨_,rfl,?_⟩
 refine zH (.tuple #[n,i6 s])<| zF (yP (v:=n) rfl rfl)<| zF (yP (v:=i6 s) rfl rfl)<| zI n<| zI (i6 s)<| RN P<| zB fun a1 T=>zA<| zH (fA h)<| zH m ?_
 have H:=dL H (Rp.int .u8) 5
 have H:=H.freeze (i:=7) rfl
 obtain ⟨t,U,c⟩:=zD c
 refine zO rfl rfl (zM en8 rfl) (Faxw (gK.mk []) A h (.slice none 0 0) m _ U _ _ _ (H.enter [9,5] [7,2])) ?_
 rintro _ a2 ⟨C,rfl,V⟩
 have H:Hd _ _ _ _ [_,_,_,_,_,_,_,_,_,_]:=H.back [9,5] [7,2] rfl V
 refine ⟨_,rfl,?_⟩
 refine RN T<| zB fun a3 X=>zA<| zH (fA j)<| zH n ?_
 have H:=dL H (Rp.int .u8) 5
 have H:=H.freeze (i:=7) rfl
 obtain ⟨u,Y,c⟩:=zD c
 refine zO rfl rfl (zM en8 rfl) (Faxw (gK.mk []) B j (.slice none 0 0) n _ Y _ _ _ (H.enter [10,5] [7,2])) ?_
 rintro _ a4 ⟨D,rfl,Z⟩
 have H:Hd _ _ _ _ [_,_,_,_,_,_,_,_,_,_,_]:=H.back [10,5] [7,2] rfl Z
 refine ⟨_,rfl,?_⟩
 refine RN X ?_
 obtain ⟨E,c,aa⟩:=zD c
 refine yL [8,41,42,43,44,45,46,47,48,49,50,51,52,53] (fun (g:Unit)=>[(8,.bool E)]) (fun g wl=>Hd O w wl S [.fz (.at 0 0 ((Fl.arr 20 (Fl.int .u64)).f zX)),.fz (.at 1 0 ((Fl.arr 7 Fl.str).f yG)),.fz (.gi 5)]) ?_ ?_
 ·skip
  refine zA ?_
  refine zH (fA h) ?_
  have ab:=H
  have H:=H.freezeB (i:=8) rfl
  have H:=H.freeze (i:=7) rfl
  have H:=H.fz (.pt dS (some ⟨h,0,none⟩) (some t)) ⟨_,_,_,rfl,(H.item (i:=8) rfl).1,(H.item (i:=8) rfl).2.1,(aX (x:=t) (H.item (i:=7) rfl)),(H.item (i:=8) rfl).2.2⟩
  obtain ⟨ac,ad,c⟩:=zD c
  refine zO rfl rfl (zM en9 rfl) (Fblw (some t) (some ⟨h,0,none⟩) _ ad _ _ _ (H.enter [] [11])) ?_
  rintro _ a5 ⟨rfl,ae⟩
  have H:=ab.step (ae.only:Only [] _ _)
  refine ⟨_,rfl,?_⟩
  refine zH (fA j) ?_
  have af:=H
  have H:=H.freezeB (i:=10) rfl
  have H:=H.freeze (i:=9) rfl
  have H:=H.fz (.pt dS (some ⟨j,0,none⟩) (some u)) ⟨_,_,_,rfl,(H.item (i:=10) rfl).1,(H.item (i:=10) rfl).2.1,(aX (x:=u) (H.item (i:=9) rfl)),(H.item (i:=10) rfl).2.2⟩
  obtain ⟨ag,ah,c⟩:=zD c
  refine zO rfl rfl (zM en9 rfl) (Fblw (some u) (some ⟨j,0,none⟩) _ ah _ _ _ (H.enter [] [11])) ?_
  rintro _ a6 ⟨rfl,ai⟩
  have H:=af.step (ai.only:Only [] _ _)
  refine ⟨_,rfl,?_⟩
  obtain ⟨aj,ak,c⟩:=zC c
  refine zF (zL (fU (s1:=ac) (s2:=ag) rfl rfl) ak) ?_
  obtain ⟨F,c,al⟩:=zD c
  refine eF 5 [46,47,48,49,50] [(50,.bool F)] (fun wl=>Hd O w wl S [f1 fH v1 o,f1 dD d p,.fz (.at 0 0 ((Fl.arr 20 (Fl.int .u64)).f zX)),.fz (.at 1 0 ((Fl.arr 7 Fl.str).f yG)),.fz (.gi 5),f1 fV m A,f1 fV n B,.own (Rp.int .u8) C 5 t.out,.blk h [C] 27,.own (Rp.int .u8) D 5 u.out,.blk j [D] 27]) ?_ ?_
  ·skip
   refine yR (b:=aj) rfl rfl rfl (fun y=>?_) (fun y=>?_)
   ·have c:=zT y c
    refine zH (i6 q)<| zH (i6 s) ?_
    obtain ⟨am,an,c⟩:=zC c
    refine zF (zL (xW (a:=q) (b:=s) rfl rfl) an)<| zF (yD (v:= .bool am) rfl rfl) ?_
    obtain rfl:=gI c
    exact zQ (zG (meet ⟨(zJ rfl zK),H.pick [0,1,2,3,4,5,6,7,8,9,10]⟩))
   have c:=zU y c
   refine yC ?_
   refine yC ?_
   refine yC ?_
   refine zF (zY (v:= .bool false) rfl rfl) ?_
   obtain rfl:=gI c
   exact zQ (zG (meet ⟨(zJ rfl zK),H.pick [0,1,2,3,4,5,6,7,8,9,10]⟩))
  rintro ρ a7 H
  have c:=al
  refine yR (b:=F) rfl rfl rfl (fun z=>?_) (fun z=>?_)
  ·have c:=zT z c
   have ao:=H
   obtain ⟨G,ap,c⟩:=zD c
   refine zO rfl rfl (zM en10 rfl) (Fclw _ ap _ _ _ (H.enter [] [3,4])) ?_
   rintro _ a8 ⟨rfl,aq⟩
   have H:=ao.step (aq.only:Only [] _ _)
   refine ⟨_,rfl,?_⟩
   refine zF (yD (v:= .bool G) rfl rfl)<| zI (.bool G) ?_
   obtain rfl:=gI c
   exact (zQ (zG (meet ⟨(),(zJ rfl zK),H.pick [2,3,4]⟩)))
  have c:=zU z c
  refine yC ?_
  refine zF (zY (v:= .bool false) rfl rfl)<| zI (.bool false) ?_
  obtain rfl:=gI c
  exact (zQ (zG (meet ⟨(),(zJ rfl zK),H.pick [2,3,4]⟩)))
 rintro _ ρ a9 H
 have c:=aa
 obtain rfl:=gI c
 refine (zW (gZ (v1:= .bool E) rfl rfl ?_))
 exact ⟨rfl,H.pick []⟩
end Go.Proofs.YtgmikmoapfmedaaGreatDoor.L
