/- Walks: what each function computes, for every argument; no condition but those that stand in the statements. -/
import Derived.Test.YtckmiljbaejijaaGreatDoorUV0
import Derived.Test.YtckmiljbaejijaaGreatDoorUV1
import Derived.Test.YtckmiljbaejijaaGreatDoorUV2
namespace Go.Proofs.YtckmiljbaejijaaGreatDoor.L
open Go.RowKit Go.OB Go.Lf
set_option maxHeartbeats 4000000
theorem Fdaw (a:Rule)(b:Str)(v1:Value)(d:Nat)(r:Bool)(c:Fda a b=some r)(O S:List Nat)(w:World)(H:Hd O w w S [.blk d [.string (bs b)] 9,.fz (.sl rCond v1 a.When.Kids)]):
  Calls Tryz.prog 149 ([.agg [.string (bs a.Name),.int .i64 a.When.Kind,.string (bs a.When.Name),.string (bs a.When.Other),.int .i64 a.When.Op,.int .i64 a.When.N,.int .i64 a.When.Frames,v1].toArray,ptr0 d]:List Value).toArray w fun e w'=>e= .returned (.bool r)∧Hd O w w' S [.blk d [.string (bs b)] 9]:=by
 unfold Fda at c
 refine zW 8 Tryz.func149 rfl rfl rfl ?_
 refine zC fun l h=>zB ?_
 refine yY rfl rfl (xX (cs:=[.string (bs a.Name),.int .i64 a.When.Kind,.string (bs a.When.Name),.string (bs a.When.Other),.int .i64 a.When.Op,.int .i64 a.When.N,.int .i64 a.When.Frames,v1]) rfl H) ?_
 rintro _ m ⟨n,rfl,H⟩
 refine zK (.bool false)<| (zG (zA (h _ _ ?_)))
 refine zC fun o j=>zB ?_
 refine zH (fa95_0 rfl)<| zH (zN one9 rfl (Cells.get (Blk.cells (H.item (i:=2) rfl)) (i:=0) rfl))<| zH (zN one9 rfl (Cells.get (Blk.cells (H.item (i:=0) rfl)) (i:=0) rfl)) ?_
 obtain ⟨f,k,c⟩:=zD c
 refine zH (zQ (Do_eqls (s1:=a.Name) (s2:=b) rfl rfl) k)<| zK (.bool f)<| (zG (zA (j _ _ ?_)))
 obtain rfl:=someI c
 refine (zY (post1 (v1:= .bool f) rfl rfl ?_))
 exact ⟨rfl,H.pick [0] (by decide)⟩
theorem Fdgw (k:List Rule)(p1c0:Str)(v1:Value)(h:Nat)(r:Int)(c:Fdg k p1c0=some r)(O S:List Nat)(w:World)(H:Hd O w w S [.blk h [.string (bs p1c0)] 9,.fz (.sl rRule v1 k)]):
  Calls Tryz.prog 194 ([v1,.func (.func 149) #[] #[ptr0 h]]:List Value).toArray w fun e w'=>e= .returned (.int .i64 r)∧Hd O w w' S [.blk h [.string (bs p1c0)] 9]:=by
 unfold Fdg at c
 refine zW 19 Tryz.func194 rfl rfl rfl ?_
 refine zC fun K5 t=>zB ?_
 refine zK (.int .i64 0)<| (zG (zA (t _ _ ?_)))
 obtain ⟨u,v,c⟩:=xZ c
 refine yK [4,5,6,7,8,9,10,11,12,13,14,15,16,17,18] (fun (g:Unit)=>[]) (fun g wl=>Hd O w wl S [.blk h [.string (bs p1c0)] 9]∧u ()=some r) ?_ ?_
 ·skip
  refine zC fun ae x=>zB ?_
  refine zJ v1 ?_
  obtain ⟨y,z,c⟩:=zD c
  obtain ⟨af,ag,A⟩:=SlF.len ((H.item (i:=1) rfl))
  refine zH (yS (xP u24 A) (congrArg (Value.int .i64) z))<| zJ (.int .i64 0)<| (zG (zA (x _ _ ?_)))
  refine yH ?_
  unfold Fee at c
  obtain ⟨B,o,C,c⟩:=yX c
  refine xI [4,5,8,9,10,11,12,13,14,15,16,17,18] (fun (g:Nat×Int)=>[(8,.int .i64 g.2)]) (fun g wl=>Hd O w wl S [.blk h [.string (bs p1c0)] 9,.fz (.sl rRule v1 k)]∧loopN B g.1 g.2=some r) (fun g=>g.1) (o,0) (zL rfl zM) ⟨H.pick [0,1] (by decide),c⟩ ?_
  clear H c
  rintro ⟨o,f⟩ ρ ah ⟨H,c⟩
  obtain ⟨D,rfl,c⟩:=xC c
  have c:=xB C c
  refine zC fun ai E=>zB ?_
  obtain ⟨F,G,c⟩:=zD c
  refine zH (zQ (xR (a:=f) (b:=y) rfl rfl) G)<| (zG (zA (E _ _ ?_)))
  refine zC fun aj I=>?_
  refine zZ (b:=F) rfl (fun l=>?_) (fun l=>?_)
  ·have c:=zS l c
   refine (yA (zA (I _ _ ?_)))
   refine zC fun ak J=>?_
   refine yH ?_
   refine zC fun al K=>zB ?_
   refine zJ (.int .i64 f)<| zK (.int .i64 f)<| (zG (zA (K _ _ ?_)))
   refine zC fun am L=>zB ?_
   refine zJ (.func (.func 149) #[] #[ptr0 h])<| zJ v1<| zJ (.int .i64 f) ?_
   obtain ⟨d,m,c⟩:=zF c
   obtain ⟨p,q,an,ao,M,P,Q,R,T⟩:=rd_at (H.item (i:=1) rfl) m
   obtain ⟨j,rfl,U⟩:=rRule_open P
   have H:=H.fzs [.at p (q+f.toNat * 8) _,.sl rCond j d.When.Kids] ⟨⟨Q,R,T⟩,U,trivial⟩
   refine zH (xE u24 sz95 M rfl (yE m).1 (yE m).2.1 rfl rfl)<| zH (yS (yR (cs:=[.string (bs d.Name),.int .i64 d.When.Kind,.string (bs d.When.Name),.string (bs d.When.Other),.int .i64 d.When.Op,.int .i64 d.When.N,.int .i64 d.When.Frames,j]) agg95 rfl sz95 rfl (H.item (i:=2) rfl).2.2) rfl) ?_
   obtain ⟨V,X,c⟩:=zF c
   refine yG rfl rfl (DoC_clo en149 rfl rfl) (Fdaw d p1c0 j h _ X _ _ _ (H.enter [0] [3] (by decide) rfl)) ?_
   rintro _ Y ⟨rfl,Z⟩
   have H:Hd _ _ Y _ [.fz (.sl rRule v1 k),.fz (.at p (q+f.toNat * 8) [.string (bs d.Name),.int .i64 d.When.Kind,.string (bs d.When.Name),.string (bs d.When.Other),.int .i64 d.When.Op,.int .i64 d.When.N,.int .i64 d.When.Frames,j]),.fz (.sl rCond j d.When.Kids),.blk h [.string (bs p1c0)] 9]:=H.back [0] [3] rfl Z
   refine ⟨_,rfl,?_⟩
   refine (zG (zA (L _ _ ?_)))
   refine zZ (b:=V) rfl (fun n=>?_) (fun n=>?_)
   ·have c:=zS n c
    refine zC fun ap aa=>zB ?_
    refine zJ (.int .i64 f)<| zK (.int .i64 f)<| (zG (zA (aa _ _ ?_)))
    obtain rfl:=someI c
    refine (zY (yF (zV (zV (yF (zV (post1 (v1:= .int .i64 f) rfl rfl ?_)))))))
    exact ⟨rfl,H.pick [3] (by decide)⟩
   have c:=zT n c
   refine (yA (yP (zA (J _ _ ?_))))
   refine zB ?_
   obtain ⟨s,ab,c⟩:=zD c
   refine zH (xM (a:=f) (b:=1) rfl rfl ab)<| zJ (.int .i64 s) ?_
   exact (zG (zA (meet ⟨(D,s),(zL rfl zM),⟨H.pick [3,0] (by decide),c⟩,Nat.lt_succ_self _⟩)))
  have c:=zT l c
  exact (xO (yQ (yQ (yZ (zA (meet ⟨(),zM,⟨H.pick [0] (by decide),c⟩⟩))))))
 rintro _ ρ aq ⟨H,c⟩
 have c:=wJ v c
 refine zC fun ar ac=>zB ?_
 refine zK (.int .i64 (-1))<| (zG (zA (ac _ _ ?_)))
 obtain rfl:=someI c
 refine (zY (post1 (v1:= .int .i64 (-1)) rfl rfl ?_))
 exact ⟨rfl,H.pick [0] (by decide)⟩
theorem Fdpw (f:List Rule)(p1c0:Str)(v1:Value)(c:Nat)(r:Bool)(d:Fdp f p1c0=some r)(O S:List Nat)(w:World)(H:Hd O w w S [.blk c [.string (bs p1c0)] 9,.fz (.sl rRule v1 f)]):
  Calls Tryz.prog 148 ([v1,.func (.func 149) #[] #[ptr0 c]]:List Value).toArray w fun e w'=>e= .returned (.bool r)∧Hd O w w' S [.blk c [.string (bs p1c0)] 9]:=by
 unfold Fdp at d
 refine zW 9 Tryz.func148 rfl rfl rfl ?_
 refine zC fun p i=>zB ?_
 refine zK (.bool false)<| (zG (zA (i _ _ ?_)))
 refine zC fun q j=>zB ?_
 refine zJ v1<| zJ (.func (.func 149) #[] #[ptr0 c]) ?_
 obtain ⟨k,l,d⟩:=zF d
 refine yG rfl rfl (yC en194 rfl) (Fdgw f p1c0 v1 c _ l _ _ _ (H.enter [0] [1] (by decide) rfl)) ?_
 rintro _ m ⟨rfl,n⟩
 have H:Hd _ _ m _ [.fz (.sl rRule v1 f),.blk c [.string (bs p1c0)] 9]:=H.back [0] [1] rfl n
 refine ⟨_,rfl,?_⟩
 obtain ⟨h,o,d⟩:=zD d
 refine zH (zQ (Do_geq (a:=k) (b:=0) rfl rfl) o)<| zK (.bool h)<| (zG (zA (j _ _ ?_)))
 obtain rfl:=someI d
 refine (zY (post1 (v1:= .bool h) rfl rfl ?_))
 exact ⟨rfl,H.pick [1] (by decide)⟩
theorem Fblw (h:Str)(a:Rules)(j:Int)(k:Nat)(c:Value)(d:Value)(f:Value)(l:Nat)(r:Bool)(b:Fbl h a j=some r)(O S:List Nat)(w:World)(H:Hd O w w S [.blk k [c,d,f] 26,.blk l [.int .i64 j] 3,.fz (.sl Rp.str c a.Phases),.fz (.sl rMoveT d a.Moves),.fz (.sl rRule f a.Rules)]):
  Calls Tryz.prog 147 ([.string (bs h),ptr0 k,ptr0 l]:List Value).toArray w fun e w'=>e= .returned (.bool r)∧Hd O w w' S [.blk k [c,d,f] 26,.blk l [.int .i64 j] 3]:=by
 unfold Fbl at b
 refine zW 11 Tryz.func147 rfl rfl rfl ?_
 refine zC fun z q=>zB ?_
 refine yY rfl rfl (Lx_box1 rfl rfl H) ?_
 rintro _ A ⟨o,rfl,H⟩
 refine zK (.bool false)<| (zG (zA (q _ _ ?_)))
 refine zC fun B s=>zB ?_
 refine zH (fa26_2 rfl)<| zH (zN one24 rfl (Cells.get (Blk.cells (H.item (i:=0) rfl)) (i:=2) rfl))<| zH (zN one3 rfl (Cells.get (Blk.cells (H.item (i:=1) rfl)) (i:=0) rfl)) ?_
 obtain ⟨m,t,b⟩:=zF b
 refine RL_exP rfl rfl (Lx_slice_h u24 sz95 (H.item (i:=4) rfl) rfl rfl t) ?_
 rintro n u
 have H:=H.fz (.sl rRule n m) u
 refine zH (Do_makeFunc rfl) ?_
 obtain ⟨p,v,b⟩:=zF b
 refine yG rfl rfl (yC en148 rfl) (Fdpw m h n o _ v _ _ _ (H.enter [5] [6] (by decide) rfl)) ?_
 rintro _ x ⟨rfl,y⟩
 have H:Hd _ _ x _ [.blk k [c,d,f] 26,.blk l [.int .i64 j] 3,.fz (.sl Rp.str c a.Phases),.fz (.sl rMoveT d a.Moves),.fz (.sl rRule f a.Rules),.fz (.sl rRule n m),.blk o [.string (bs h)] 9]:=H.back [5] [6] rfl y
 refine ⟨_,rfl,?_⟩
 refine zK (.bool p)<| (zG (zA (s _ _ ?_)))
 obtain rfl:=someI b
 refine (zY (post1 (v1:= .bool p) rfl rfl ?_))
 exact ⟨rfl,H.pick [0,1] (by decide)⟩
theorem Fcgw (d:Cond)(f:Rules)(c1f1:Int)(v1:Value)(h:Nat)(j:Value)(l:Value)(m:Value)(n:Nat)(k:Nat)(r:Int)(c:Fcg d f c1f1=some r)(O S:List Nat)(w:World)(H:Hd O w w S [.blk h [j,l,m] 26,.blk k [.int .i64 c1f1] 3,.blk n [.func (.func 147) #[] #[ptr0 h,ptr0 k]] 48,.fz (.sl rCond v1 d.Kids),.fz (.sl Rp.str j f.Phases),.fz (.sl rMoveT l f.Moves),.fz (.sl rRule m f.Rules)]):
  Calls Tryz.prog 150 ([.agg [.int .i64 d.Kind,.string (bs d.Name),.string (bs d.Other),.int .i64 d.Op,.int .i64 d.N,.int .i64 d.Frames,v1].toArray,ptr0 h,ptr0 n]:List Value).toArray w fun e w'=>e= .returned (.int .i64 r)∧Hd O w w' S [.blk h [j,l,m] 26,.blk k [.int .i64 c1f1] 3,.blk n [.func (.func 147) #[] #[ptr0 h,ptr0 k]] 48]:=by
 unfold Fcg at c
 refine zW 28 Tryz.func150 rfl rfl rfl ?_
 refine zC fun aa A=>zB ?_
 refine yY rfl rfl (xX (cs:=[.int .i64 d.Kind,.string (bs d.Name),.string (bs d.Other),.int .i64 d.Op,.int .i64 d.N,.int .i64 d.Frames,v1]) rfl H) ?_
 rintro _ ab ⟨u,rfl,H⟩
 refine zK (.int .i64 0)<| (zG (zA (A _ _ ?_)))
 refine zC fun ac B=>?_
 obtain ⟨x,c,C⟩:=zF c
 refine yK [5,6,7,8,9,10,11,12,13,14,15,16,17,18,19,20,21,22,23,24,25,26,27] (fun (g:Unit)=>[(27,.bool x)]) (fun g wl=>Hd O w wl S [.blk h [j,l,m] 26,.fz (.sl Rp.str j f.Phases),.fz (.sl rMoveT l f.Moves),.fz (.sl rRule m f.Rules),.blk k [.int .i64 c1f1] 3,.blk n [.func (.func 147) #[] #[ptr0 h,ptr0 k]] 48]) ?_ ?_
 ·skip
  refine zB ?_
  refine zH (fa70_0 rfl)<| zH (zN one3 rfl (Cells.get (Blk.cells (H.item (i:=7) rfl)) (i:=0) rfl)) ?_
  obtain ⟨D,E,c⟩:=zD c
  refine zH (zQ (xA (a:=d.Kind) (b:=6) rfl rfl) E) ?_
  obtain ⟨y,c,F⟩:=zF c
  refine RL_cutS 8 [8,9,10,11,12,13,14,15] [(15,.bool y)] (fun wl=>Hd O w wl S [.blk h [j,l,m] 26,.blk k [.int .i64 c1f1] 3,.blk n [.func (.func 147) #[] #[ptr0 h,ptr0 k]] 48,.fz (.sl rCond v1 d.Kids),.fz (.sl Rp.str j f.Phases),.fz (.sl rMoveT l f.Moves),.fz (.sl rRule m f.Rules),.blk u [.int .i64 d.Kind,.string (bs d.Name),.string (bs d.Other),.int .i64 d.Op,.int .i64 d.N,.int .i64 d.Frames,v1] 70]) ?_ ?_
  ·skip
   refine yN (b:=D) rfl rfl rfl (fun o=>?_) (fun o=>?_)
   ·have c:=zS o c
    refine zH (fa26_0 rfl)<| zH (zN one22 rfl (Cells.get (Blk.cells (H.item (i:=0) rfl)) (i:=0) rfl))<| zH (fa70_1 rfl)<| zH (zN one9 rfl (Cells.get (Blk.cells (H.item (i:=7) rfl)) (i:=1) rfl)) ?_
    have G:=H
    obtain ⟨I,J,c⟩:=zF c
    refine yG rfl rfl (yC en87 rfl) (Fa1w f.Phases d.Name j _ J _ _ _ (H.enter [] [4] (by decide) rfl)) ?_
    rintro _ ad ⟨rfl,K⟩
    have H:=G.step (K.only:Only [] _ _)
    refine ⟨_,rfl,?_⟩
    obtain ⟨L,M,c⟩:=zD c
    refine zH (zQ (wI (p:=I) rfl) M)<| zH (yL (v:= .bool L) rfl rfl) ?_
    obtain rfl:=someI c
    exact zG (zA (meet ⟨(zL rfl zM),H.pick [0,1,2,3,4,5,6,7] (by decide)⟩))
   have c:=zT o c
   refine yI ?_
   refine yI ?_
   refine yI ?_
   refine yI ?_
   refine yI ?_
   refine yI ?_
   refine zH (yJ (v:= .bool false) rfl rfl) ?_
   obtain rfl:=someI c
   exact zG (zA (meet ⟨(zL rfl zM),H.pick [0,1,2,3,4,5,6,7] (by decide)⟩))
  rintro ρ ae H
  have c:=F
  refine yN (b:=y) rfl rfl rfl (fun q=>?_) (fun q=>?_)
  ·have c:=zS q c
   refine yI ?_
   refine yI ?_
   refine yI ?_
   refine yI ?_
   refine yI ?_
   refine yI ?_
   refine yI ?_
   refine yI ?_
   refine yI ?_
   refine yI ?_
   refine zH (yL (v:= .bool true) rfl rfl) ?_
   obtain rfl:=someI c
   exact (zG (zA (meet ⟨(),(zL rfl zM),H.pick [0,4,5,6,1,2] (by decide)⟩)))
  have c:=zT q c
  refine zH (fa70_0 rfl)<| zH (zN one3 rfl (Cells.get (Blk.cells (H.item (i:=7) rfl)) (i:=0) rfl)) ?_
  obtain ⟨P,Q,c⟩:=zD c
  refine zH (zQ (xA (a:=d.Kind) (b:=7) rfl rfl) Q)<| yN (b:=P) rfl rfl rfl (fun s=>?_) (fun s=>?_)
  ·have c:=zS s c
   refine zH (zN one48 rfl (Cells.get (Blk.cells (H.item (i:=2) rfl)) (i:=0) rfl))<| zH (fa70_1 rfl)<| zH (zN one9 rfl (Cells.get (Blk.cells (H.item (i:=7) rfl)) (i:=1) rfl)) ?_
   obtain ⟨R,T,c⟩:=zF c
   refine yG rfl rfl (DoC_clo en147 rfl rfl) (Fblw d.Name f c1f1 h j l m k _ T _ _ _ (H.enter [0,1] [4,5,6] (by decide) rfl)) ?_
   rintro _ U ⟨rfl,V⟩
   have H:Hd _ _ U _ [.blk n [.func (.func 147) #[] #[ptr0 h,ptr0 k]] 48,.fz (.sl rCond v1 d.Kids),.fz (.sl Rp.str j f.Phases),.fz (.sl rMoveT l f.Moves),.fz (.sl rRule m f.Rules),.blk u [.int .i64 d.Kind,.string (bs d.Name),.string (bs d.Other),.int .i64 d.Op,.int .i64 d.N,.int .i64 d.Frames,v1] 70,.blk h [j,l,m] 26,.blk k [.int .i64 c1f1] 3]:=H.back [0,1] [4,5,6] rfl V
   refine ⟨_,rfl,?_⟩
   obtain ⟨z,X,c⟩:=zD c
   refine zH (zQ (wI (p:=R) rfl) X)<| zH (yL (v:= .bool z) rfl rfl)<| zH (yJ (v:= .bool z) rfl rfl) ?_
   obtain rfl:=someI c
   exact (zG (zA (meet ⟨(),(zL rfl zM),H.pick [6,2,3,4,7,0] (by decide)⟩)))
  have c:=zT s c
  refine yI ?_
  refine yI ?_
  refine yI ?_
  refine yI ?_
  refine yI ?_
  refine zH (yJ (v:= .bool false) rfl rfl)<| zH (yJ (v:= .bool false) rfl rfl) ?_
  obtain rfl:=someI c
  exact (zG (zA (meet ⟨(),(zL rfl zM),H.pick [0,4,5,6,1,2] (by decide)⟩)))
 rintro _ ρ af H
 have c:=C
 refine zZ (b:=x) rfl (fun t=>?_) (fun t=>?_)
 ·have c:=zS t c
  refine zC fun ag Y=>zB ?_
  refine zK (.int .i64 4)<| (zG (zA (Y _ _ ?_)))
  obtain rfl:=someI c
  refine (zY (zV (post1 (v1:= .int .i64 4) rfl rfl ?_)))
  exact ⟨rfl,H.pick [0,4,5] (by decide)⟩
 have c:=zT t c
 refine (yA (zA (B _ _ ?_)))
 refine zC fun ah Z=>zB ?_
 refine zK (.int .i64 0)<| (zG (zA (Z _ _ ?_)))
 obtain rfl:=someI c
 refine (zY (post1 (v1:= .int .i64 0) rfl rfl ?_))
 exact ⟨rfl,H.pick [0,4,5] (by decide)⟩
abbrev Fdy (f:Cond→Rules→Int→Option Int):Prop:= ∀(p0:Cond) (p1c0:Rules) (p1c1f1:Int) (v1:Value) (b3:Nat) (v4:Value) (v5:Value) (v6:Value) (b11:Nat) (b13:Nat) (r:Int) (_:f p0 p1c0 p1c1f1=some r) (O S:List Nat) (w:World) (_:Hd O w w S [.blk b3 [v4,v5,v6] 26,.blk b13 [.int .i64 p1c1f1] 3,.blk b11 [.func (.func 147) #[] #[ptr0 b3,ptr0 b13]] 48,.fz (.sl rCond v1 p0.Kids),.fz (.sl Rp.str v4 p1c0.Phases),.fz (.sl rMoveT v5 p1c0.Moves),.fz (.sl rRule v6 p1c0.Rules)]),
  Calls Tryz.prog 81 ([.agg [.int .i64 p0.Kind,.string (bs p0.Name),.string (bs p0.Other),.int .i64 p0.Op,.int .i64 p0.N,.int .i64 p0.Frames,v1].toArray,.func (.func 150) #[] #[ptr0 b3,ptr0 b11]]:List Value).toArray w fun e w'=>e= .returned (.int .i64 r)∧Hd O w w' S [.blk b3 [v4,v5,v6] 26,.blk b13 [.int .i64 p1c1f1] 3,.blk b11 [.func (.func 147) #[] #[ptr0 b3,ptr0 b13]] 48]
theorem Fb7w (rfF:Cond→Rules→Int→Option Int)(rhF:Fdy rfF)(f:Cond)(p1c0:Rules)(p1c1f1:Int)(v1:Value)(h:Nat)(k:Value)(l:Value)(m:Value)(n:Nat)(j:Nat)(r:Int)(c:Fb7 rfF f p1c0 p1c1f1=some r)(O S:List Nat)(w:World)(H:Hd O w w S [.blk h [k,l,m] 26,.blk j [.int .i64 p1c1f1] 3,.blk n [.func (.func 147) #[] #[ptr0 h,ptr0 j]] 48,.fz (.sl rCond v1 f.Kids),.fz (.sl Rp.str k p1c0.Phases),.fz (.sl rMoveT l p1c0.Moves),.fz (.sl rRule m p1c0.Rules)]):
  Calls Tryz.prog 81 ([.agg [.int .i64 f.Kind,.string (bs f.Name),.string (bs f.Other),.int .i64 f.Op,.int .i64 f.N,.int .i64 f.Frames,v1].toArray,.func (.func 150) #[] #[ptr0 h,ptr0 n]]:List Value).toArray w fun e w'=>e= .returned (.int .i64 r)∧Hd O w w' S [.blk h [k,l,m] 26,.blk j [.int .i64 p1c1f1] 3,.blk n [.func (.func 147) #[] #[ptr0 h,ptr0 j]] 48]:=by
 unfold Fb7 at c
 refine zW 29 Tryz.func81 rfl rfl rfl ?_
 refine zC fun a0 C=>zB ?_
 refine yY rfl rfl (xX (cs:=[.int .i64 f.Kind,.string (bs f.Name),.string (bs f.Other),.int .i64 f.Op,.int .i64 f.N,.int .i64 f.Frames,v1]) rfl H) ?_
 rintro _ a1 ⟨D,rfl,H⟩
 refine zK (.int .i64 0)<| (zG (zA (C _ _ ?_)))
 refine zC fun a2 E=>?_
 refine zC fun a3 F=>zB ?_
 refine zJ (.func (.func 150) #[] #[ptr0 h,ptr0 n])<| zH (yS (yR (cs:=[.int .i64 f.Kind,.string (bs f.Name),.string (bs f.Other),.int .i64 f.Op,.int .i64 f.N,.int .i64 f.Frames,v1]) agg70 rfl sz70 rfl (Blk.cells (H.item (i:=7) rfl))) rfl) ?_
 obtain ⟨p,G,c⟩:=zF c
 refine yG rfl rfl (DoC_clo en150 rfl rfl) (Fcgw f p1c0 p1c1f1 v1 h k l m n j _ G _ _ _ (H.enter [0,1,2] [3,4,5,6] (by decide) rfl)) ?_
 rintro _ I ⟨rfl,J⟩
 have H:Hd _ _ I _ [.fz (.sl rCond v1 f.Kids),.fz (.sl Rp.str k p1c0.Phases),.fz (.sl rMoveT l p1c0.Moves),.fz (.sl rRule m p1c0.Rules),.blk D [.int .i64 f.Kind,.string (bs f.Name),.string (bs f.Other),.int .i64 f.Op,.int .i64 f.N,.int .i64 f.Frames,v1] 70,.blk h [k,l,m] 26,.blk j [.int .i64 p1c1f1] 3,.blk n [.func (.func 147) #[] #[ptr0 h,ptr0 j]] 48]:=H.back [0,1,2] [3,4,5,6] rfl J
 refine ⟨_,rfl,?_⟩
 refine zK (.int .i64 p)<| (zG (zA (F _ _ ?_)))
 refine zC fun a4 K=>zB ?_
 refine zJ (.int .i64 p) ?_
 obtain ⟨L,M,c⟩:=zD c
 refine zH (zQ (wH (a:=p) (b:=0) rfl rfl) M)<| (zG (zA (K _ _ ?_)))
 refine zZ (b:=L) rfl (fun t=>?_) (fun t=>?_)
 ·have c:=zS t c
  refine zC fun a5 P=>zB ?_
  refine zJ (.int .i64 p)<| zK (.int .i64 p)<| (zG (zA (P _ _ ?_)))
  obtain rfl:=someI c
  refine (zY (zV (post1 (v1:= .int .i64 p) rfl rfl ?_)))
  exact ⟨rfl,H.pick [5,6,7] (by decide)⟩
 have c:=zT t c
 refine (yA (zA (E _ _ ?_)))
 obtain ⟨Q,R,c⟩:=xZ c
 refine yK [4,7,8,15,16,17,18,19,20,21,22,23,24,25,26,27,28] (fun (g:Unit)=>[]) (fun g wl=>Hd O w wl S [.fz (.sl Rp.str k p1c0.Phases),.fz (.sl rMoveT l p1c0.Moves),.fz (.sl rRule m p1c0.Rules),.blk h [k,l,m] 26,.blk j [.int .i64 p1c1f1] 3,.blk n [.func (.func 147) #[] #[ptr0 h,ptr0 j]] 48]∧Q ()=some r) ?_ ?_
 ·skip
  refine zC fun a6 T=>zB ?_
  refine zH (fa70_6 rfl)<| zH (zN one68 rfl (Cells.get (Blk.cells (H.item (i:=4) rfl)) (i:=6) rfl)) ?_
  obtain ⟨U,V,c⟩:=zD c
  obtain ⟨a7,a8,X⟩:=SlF.len ((H.item (i:=0) rfl))
  refine zH (yS (xP u68 X) (congrArg (Value.int .i64) V))<| zJ (.int .i64 0)<| (zG (zA (T _ _ ?_)))
  refine yH ?_
  unfold Fdx at c
  obtain ⟨Y,y,Z,c⟩:=yX c
  refine xI [4,7,8,18,19,20,21,22,23,24,25,26,27,28] (fun (g:Nat×Int)=>[(18,.int .i64 g.2)]) (fun g wl=>Hd O w wl S [.fz (.sl rCond v1 f.Kids),.fz (.sl Rp.str k p1c0.Phases),.fz (.sl rMoveT l p1c0.Moves),.fz (.sl rRule m p1c0.Rules),.blk h [k,l,m] 26,.blk j [.int .i64 p1c1f1] 3,.blk n [.func (.func 147) #[] #[ptr0 h,ptr0 j]] 48]∧loopN Y g.1 g.2=some r) (fun g=>g.1) (y,0) (zL rfl zM) ⟨H.pick [0,1,2,3,5,6,7] (by decide),c⟩ ?_
  clear H c
  rintro ⟨y,s⟩ ρ a9 ⟨H,c⟩
  obtain ⟨aa,rfl,c⟩:=xC c
  have c:=xB Z c
  refine zC fun ba ab=>zB ?_
  obtain ⟨ac,ad,c⟩:=zD c
  refine zH (zQ (xR (a:=s) (b:=U) rfl rfl) ad)<| (zG (zA (ab _ _ ?_)))
  refine zC fun bb ae=>?_
  refine zZ (b:=ac) rfl (fun u=>?_) (fun u=>?_)
  ·have c:=zS u c
   refine (yA (zA (ae _ _ ?_)))
   refine zC fun bc af=>?_
   refine yH ?_
   refine zC fun bd ag=>zB ?_
   obtain ⟨d,v,c⟩:=zF c
   obtain ⟨z,A,be,bf,ah,ai,aj,ak,al⟩:=rd_at (H.item (i:=0) rfl) v
   obtain ⟨o,rfl,am⟩:=rCond_open ai
   have H:=H.fzs [.at z (A+s.toNat * 7) _,.sl rCond o d.Kids] ⟨⟨aj,ak,al⟩,am,trivial⟩
   refine zH (xE u68 sz70 ah rfl (yE v).1 (yE v).2.1 rfl rfl)<| zH (yS (yR (cs:=[.int .i64 d.Kind,.string (bs d.Name),.string (bs d.Other),.int .i64 d.Op,.int .i64 d.N,.int .i64 d.Frames,o]) agg70 rfl sz70 rfl (H.item (i:=7) rfl).2.2) rfl)<| yY rfl rfl (xQ zero70 H) ?_
   rintro _ bg ⟨an,rfl,H⟩
   refine xG rfl (xH (vs:=[.int .i64 d.Kind,.string (bs d.Name),.string (bs d.Other),.int .i64 d.Op,.int .i64 d.N,.int .i64 d.Frames,o]) H 9 rfl sz70 rfl rfl rfl ⟨rfl,rfl,rfl,rfl,rfl,rfl,(slf_one (H.item (i:=8) rfl)),trivial⟩ rfl) ?_
   rintro bh H
   refine (zG (zA (ag _ _ ?_)))
   refine zC fun bi ao=>zB ?_
   refine zH (yS (yR (cs:=[.int .i64 d.Kind,.string (bs d.Name),.string (bs d.Other),.int .i64 d.Op,.int .i64 d.N,.int .i64 d.Frames,o]) agg70 rfl sz70 rfl (Blk.cells (H.item (i:=9) rfl))) rfl)<| zJ (.func (.func 150) #[] #[ptr0 h,ptr0 n]) ?_
   obtain ⟨q,ap,c⟩:=zF c
   refine yG rfl rfl (yC en81 rfl) (rhF d p1c0 p1c1f1 o h k l m n j _ ap _ _ _ (H.enter [4,5,6] [8,1,2,3] (by decide) rfl)) ?_
   rintro _ aq ⟨rfl,ar⟩
   have H:Hd _ _ aq _ [.fz (.sl rCond v1 f.Kids),.fz (.sl Rp.str k p1c0.Phases),.fz (.sl rMoveT l p1c0.Moves),.fz (.sl rRule m p1c0.Rules),.fz (.at z (A+s.toNat * 7) [.int .i64 d.Kind,.string (bs d.Name),.string (bs d.Other),.int .i64 d.Op,.int .i64 d.N,.int .i64 d.Frames,o]),.fz (.sl rCond o d.Kids),.blk an [.int .i64 d.Kind,.string (bs d.Name),.string (bs d.Other),.int .i64 d.Op,.int .i64 d.N,.int .i64 d.Frames,o] 70,.blk h [k,l,m] 26,.blk j [.int .i64 p1c1f1] 3,.blk n [.func (.func 147) #[] #[ptr0 h,ptr0 j]] 48]:=H.back [4,5,6] [8,1,2,3] rfl ar
   refine ⟨_,rfl,?_⟩
   refine zK (.int .i64 q)<| (zG (zA (ao _ _ ?_)))
   refine zC fun bj au=>zB ?_
   refine zJ (.int .i64 q) ?_
   obtain ⟨av,aw,c⟩:=zD c
   refine zH (zQ (wH (a:=q) (b:=0) rfl rfl) aw)<| (zG (zA (au _ _ ?_)))
   refine zZ (b:=av) rfl (fun x=>?_) (fun x=>?_)
   ·have c:=zS x c
    refine zC fun bk ax=>zB ?_
    refine zJ (.int .i64 q)<| zK (.int .i64 q)<| (zG (zA (ax _ _ ?_)))
    obtain rfl:=someI c
    refine (zY (yF (zV (zV (yF (zV (post1 (v1:= .int .i64 q) rfl rfl ?_)))))))
    exact ⟨rfl,H.pick [7,8,9] (by decide)⟩
   have c:=zT x c
   refine (yA (yP (zA (af _ _ ?_))))
   refine zB ?_
   obtain ⟨B,ay,c⟩:=zD c
   refine zH (xM (a:=s) (b:=1) rfl rfl ay)<| zJ (.int .i64 B) ?_
   exact (zG (zA (meet ⟨(aa,B),(zL rfl zM),⟨H.pick [0,1,2,3,7,8,9] (by decide),c⟩,Nat.lt_succ_self _⟩)))
  have c:=zT u c
  exact (xO (yQ (yQ (yZ (zA (meet ⟨(),zM,⟨H.pick [1,2,3,4,5,6] (by decide),c⟩⟩))))))
 rintro _ ρ bl ⟨H,c⟩
 have c:=wJ R c
 refine zC fun bm az=>zB ?_
 refine zK (.int .i64 0)<| (zG (zA (az _ _ ?_)))
 obtain rfl:=someI c
 refine (zY (post1 (v1:= .int .i64 0) rfl rfl ?_))
 exact ⟨rfl,H.pick [3,4,5] (by decide)⟩
theorem Ffc:Fdy (Fei):=by
 have h: ∀n,Fdy (Fba n):=by
  intro n
  induction n with
  | zero=>intro b p1c0 p1c1f1 c d e f i j k r a; cases a
  | succ n ih=>intro b p1c0 p1c1f1 c d e f i j k r a; exact Fb7w (Fba n) ih b p1c0 p1c1f1 c d e f i j k r a
 exact h FU
theorem Fb1w (h:Rules)(j:Int)(v1:Value)(k:Value)(l:Value)(r:Int)(d:Fb1 h j=some r)(O S:List Nat)(w:World)(H:Hd O w w S [.fz (.sl Rp.str v1 h.Phases),.fz (.sl rMoveT k h.Moves),.fz (.sl rRule l h.Rules)]):
  Calls Tryz.prog 89 ([.agg [v1,k,l].toArray,.int .i64 j]:List Value).toArray w fun e w'=>e= .returned (.int .i64 r)∧Hd O w w' S []:=by
 unfold Fb1 at d
 refine zW 34 Tryz.func89 rfl rfl rfl ?_
 refine zC fun K7 E=>zB ?_
 refine yY rfl rfl (xX (cs:=[v1,k,l]) rfl H) ?_
 rintro _ av ⟨m,rfl,H⟩
 refine yY rfl rfl (Lx_box1 rfl rfl H) ?_
 rintro _ aw ⟨n,rfl,H⟩
 refine zK (.int .i64 0)<| (zG (zA (E _ _ ?_)))
 refine zC fun ax F=>zB ?_
 refine zH (fa26_2 rfl)<| zH (zN one24 rfl (Cells.get (Blk.cells (H.item (i:=3) rfl)) (i:=2) rfl))<| zH (zN one3 rfl (Cells.get (Blk.cells (H.item (i:=4) rfl)) (i:=0) rfl)) ?_
 obtain ⟨c,q,d⟩:=zF d
 obtain ⟨s,t,ay,az,G,I,J,K,L⟩:=rd_at (H.item (i:=2) rfl) q
 obtain ⟨f,rfl,M⟩:=rRule_open I
 have H:=H.fzs [.at s (t+j.toNat * 8) _,.sl rCond f c.When.Kids] ⟨⟨J,K,L⟩,M,trivial⟩
 refine zH (xE u24 sz95 G rfl (yE q).1 (yE q).2.1 rfl rfl)<| zH (yS (yR (cs:=[.string (bs c.Name),.int .i64 c.When.Kind,.string (bs c.When.Name),.string (bs c.When.Other),.int .i64 c.When.Op,.int .i64 c.When.N,.int .i64 c.When.Frames,f]) agg95 rfl sz95 rfl (H.item (i:=5) rfl).2.2) rfl)<| yY rfl rfl (xQ zero95 H) ?_
 rintro _ a0 ⟨A,rfl,H⟩
 refine xG rfl (xH (vs:=[.string (bs c.Name),.int .i64 c.When.Kind,.string (bs c.When.Name),.string (bs c.When.Other),.int .i64 c.When.Op,.int .i64 c.When.N,.int .i64 c.When.Frames,f]) H 7 rfl sz95 rfl rfl rfl ⟨rfl,rfl,rfl,rfl,rfl,rfl,rfl,(slf_one (H.item (i:=6) rfl)),trivial⟩ rfl) ?_
 rintro a1 H
 refine (zG (zA (F _ _ ?_)))
 refine zC fun a2 P=>zB ?_
 refine zH (Do_makeFunc rfl)<| yY rfl rfl (xQ zero48 H) ?_
 rintro _ a3 ⟨u,rfl,H⟩
 refine xG rfl (wE H 8 rfl sz48 rfl (v:= .func (.func 147) #[] #[ptr0 m,ptr0 n]) rfl rfl rfl) ?_
 rintro a4 H
 refine (zG (zA (P _ _ ?_)))
 refine zC fun a5 Q=>?_
 refine yH ?_
 refine zC fun a6 R=>zB ?_
 refine zH (fa95_0 rfl)<| zH (zN one9 rfl (Cells.get (Blk.cells (H.item (i:=7) rfl)) (i:=0) rfl)) ?_
 have T:=H
 obtain ⟨U,V,d⟩:=zF d
 refine yG rfl rfl (yC en86 rfl) (Fakw c.Name _ V _ _ _ (H.enter [] [] (by decide) rfl)) ?_
 rintro _ a7 ⟨rfl,X⟩
 have H:=T.step (X.only:Only [] _ _)
 refine ⟨_,rfl,?_⟩
 obtain ⟨B,Y,d⟩:=zD d
 refine zH (zQ (wI (p:=U) rfl) Y)<| zK (.bool B)<| (zG (zA (R _ _ ?_)))
 refine zZ (b:=B) rfl (fun x=>?_) (fun x=>?_)
 ·have d:=zS x d
  refine zC fun a8 Z=>zB ?_
  refine zK (.int .i64 8)<| (zG (zA (Z _ _ ?_)))
  obtain rfl:=someI d
  refine (zY (yF (zV (post1 (v1:= .int .i64 8) rfl rfl ?_))))
  exact ⟨rfl,H.pick [] (by decide)⟩
 have d:=zT x d
 refine zC fun a9 aa=>zB ?_
 refine zH (zN one48 rfl (Cells.get (Blk.cells (H.item (i:=8) rfl)) (i:=0) rfl))<| zH (fa95_0 rfl)<| zH (zN one9 rfl (Cells.get (Blk.cells (H.item (i:=7) rfl)) (i:=0) rfl)) ?_
 obtain ⟨C,ab,d⟩:=zF d
 refine yG rfl rfl (DoC_clo en147 rfl rfl) (Fblw c.Name h j m v1 k l n _ ab _ _ _ (H.enter [3,4] [0,1,2] (by decide) rfl)) ?_
 rintro _ ac ⟨rfl,ad⟩
 have H:Hd _ _ ac _ [.fz (.sl Rp.str v1 h.Phases),.fz (.sl rMoveT k h.Moves),.fz (.sl rRule l h.Rules),.fz (.at s (t+j.toNat * 8) [.string (bs c.Name),.int .i64 c.When.Kind,.string (bs c.When.Name),.string (bs c.When.Other),.int .i64 c.When.Op,.int .i64 c.When.N,.int .i64 c.When.Frames,f]),.fz (.sl rCond f c.When.Kids),.blk A [.string (bs c.Name),.int .i64 c.When.Kind,.string (bs c.When.Name),.string (bs c.When.Other),.int .i64 c.When.Op,.int .i64 c.When.N,.int .i64 c.When.Frames,f] 95,.blk u [.func (.func 147) #[] #[ptr0 m,ptr0 n]] 48,.blk m [v1,k,l] 26,.blk n [.int .i64 j] 3]:=H.back [3,4] [0,1,2] rfl ad
 refine ⟨_,rfl,?_⟩
 refine zK (.bool C)<| (zG (zA (aa _ _ ?_)))
 refine zZ (b:=C) rfl (fun y=>?_) (fun y=>?_)
 ·have d:=zS y d
  refine zC fun ba ae=>zB ?_
  refine zK (.int .i64 5)<| (zG (zA (ae _ _ ?_)))
  obtain rfl:=someI d
  refine (zY (yF (zV (post1 (v1:= .int .i64 5) rfl rfl ?_))))
  exact ⟨rfl,H.pick [] (by decide)⟩
 have d:=zT y d
 refine (yA (yP (zA (Q _ _ ?_))))
 refine zC fun bb af=>?_
 refine zC fun bc ag=>zB ?_
 refine zH (fa95_1 rfl)<| zH (yS (yR (cs:=[.int .i64 c.When.Kind,.string (bs c.When.Name),.string (bs c.When.Other),.int .i64 c.When.Op,.int .i64 c.When.N,.int .i64 c.When.Frames,f]) agg70 rfl sz70 rfl (Cells.drop (Blk.cells (H.item (i:=5) rfl)) 1 7)) rfl) ?_
 have ah:=H
 obtain ⟨o,ai,d⟩:=zF d
 refine yG rfl rfl (yC en29 rfl) (Fbow c.When f _ ai _ _ _ (H.enter [] [4] (by decide) rfl)) ?_
 rintro _ bd ⟨rfl,aj⟩
 have H:=ah.step (aj.only:Only [] _ _)
 refine ⟨_,rfl,?_⟩
 refine zK (.int .i64 o)<| (zG (zA (ag _ _ ?_)))
 refine zC fun be ak=>zB ?_
 refine zJ (.int .i64 o) ?_
 obtain ⟨al,am,d⟩:=zD d
 refine zH (zQ (wH (a:=o) (b:=0) rfl rfl) am)<| (zG (zA (ak _ _ ?_)))
 refine zZ (b:=al) rfl (fun z=>?_) (fun z=>?_)
 ·have d:=zS z d
  refine zC fun bf an=>zB ?_
  refine zJ (.int .i64 o)<| zK (.int .i64 o)<| (zG (zA (an _ _ ?_)))
  obtain rfl:=someI d
  refine (zY (zV (post1 (v1:= .int .i64 o) rfl rfl ?_)))
  exact ⟨rfl,H.pick [] (by decide)⟩
 have d:=zT z d
 refine (yA (zA (af _ _ ?_)))
 refine zC fun bg ao=>zB ?_
 refine zH (fa95_1 rfl)<| zH (yS (yR (cs:=[.int .i64 c.When.Kind,.string (bs c.When.Name),.string (bs c.When.Other),.int .i64 c.When.Op,.int .i64 c.When.N,.int .i64 c.When.Frames,f]) agg70 rfl sz70 rfl (Cells.drop (Blk.cells (H.item (i:=5) rfl)) 1 7)) rfl)<| zH (Do_makeFunc rfl) ?_
 obtain ⟨D,ap,d⟩:=zF d
 refine yG rfl rfl (yC en81 rfl) (Ffc c.When h j f m v1 k l u n _ ap _ _ _ (H.enter [7,8,6] [4,0,1,2] (by decide) rfl)) ?_
 rintro _ aq ⟨rfl,ar⟩
 have H:Hd _ _ aq _ [.fz (.sl Rp.str v1 h.Phases),.fz (.sl rMoveT k h.Moves),.fz (.sl rRule l h.Rules),.fz (.at s (t+j.toNat * 8) [.string (bs c.Name),.int .i64 c.When.Kind,.string (bs c.When.Name),.string (bs c.When.Other),.int .i64 c.When.Op,.int .i64 c.When.N,.int .i64 c.When.Frames,f]),.fz (.sl rCond f c.When.Kids),.blk A [.string (bs c.Name),.int .i64 c.When.Kind,.string (bs c.When.Name),.string (bs c.When.Other),.int .i64 c.When.Op,.int .i64 c.When.N,.int .i64 c.When.Frames,f] 95,.blk m [v1,k,l] 26,.blk n [.int .i64 j] 3,.blk u [.func (.func 147) #[] #[ptr0 m,ptr0 n]] 48]:=H.back [7,8,6] [4,0,1,2] rfl ar
 refine ⟨_,rfl,?_⟩
 refine zK (.int .i64 D)<| (zG (zA (ao _ _ ?_)))
 obtain rfl:=someI d
 refine (zY (post1 (v1:= .int .i64 D) rfl rfl ?_))
 exact ⟨rfl,H.pick [] (by decide)⟩
set_option maxRecDepth 100000 in
theorem Fcnw (d:Rules)(v1:Value)(h:Value)(j:Value)(r:Int)(c:Fcn d=some r)(O S:List Nat)(w:World)(H:Hd O w w S [.fz (.sl Rp.str v1 d.Phases),.fz (.sl rMoveT h d.Moves),.fz (.sl rRule j d.Rules)]):
  Calls Tryz.prog 31 ([.agg [v1,h,j].toArray]:List Value).toArray w fun e w'=>e= .returned (.int .i64 r)∧Hd O w w' S []:=by
 unfold Fcn at c
 refine zW 71 Tryz.func31 rfl rfl rfl ?_
 refine zC fun K7 X=>zB ?_
 refine yY rfl rfl (xX (cs:=[v1,h,j]) rfl H) ?_
 rintro _ dn ⟨k,rfl,H⟩
 refine zK (.int .i64 0)<| (zG (zA (X _ _ ?_)))
 refine zC fun dp Y=>?_
 obtain ⟨J,c,Z⟩:=zF c
 refine yK [10,11,12,13,14,15,16,17,18,19,20,21,22,23,24,25] (fun (g:Unit)=>[(25,.bool J)]) (fun g wl=>Hd O w wl S [.fz (.sl Rp.str v1 d.Phases),.fz (.sl rMoveT h d.Moves),.fz (.sl rRule j d.Rules),.blk k [v1,h,j] 26]) ?_ ?_
 ·skip
  refine zB ?_
  refine zH (fa26_0 rfl)<| zH (zN one22 rfl (Cells.get (Blk.cells (H.item (i:=3) rfl)) (i:=0) rfl)) ?_
  obtain ⟨aa,ab,c⟩:=zD c
  obtain ⟨dq,dr,ac⟩:=SlF.len ((H.item (i:=0) rfl))
  refine zH (yS (xP u22 ac) (congrArg (Value.int .i64) ab)) ?_
  obtain ⟨ad,ae,c⟩:=zD c
  refine zH (zQ (Do_gtr (a:=aa) (b:=20) rfl rfl) ae) ?_
  obtain ⟨K,c,af⟩:=zF c
  refine RL_cutS 6 [14,15,16,17,18,19] [(19,.bool K)] (fun wl=>Hd O w wl S [.fz (.sl Rp.str v1 d.Phases),.fz (.sl rMoveT h d.Moves),.fz (.sl rRule j d.Rules),.blk k [v1,h,j] 26]) ?_ ?_
  ·skip
   refine yN (b:=ad) rfl rfl rfl (fun t=>?_) (fun t=>?_)
   ·have c:=zS t c
    refine yI ?_
    refine yI ?_
    refine yI ?_
    refine yI ?_
    refine zH (yL (v:= .bool true) rfl rfl) ?_
    obtain rfl:=someI c
    exact zG (zA (meet ⟨(zL rfl zM),H.pick [0,1,2,3] (by decide)⟩))
   have c:=zT t c
   refine zH (fa26_1 rfl)<| zH (zN one23 rfl (Cells.get (Blk.cells (H.item (i:=3) rfl)) (i:=1) rfl)) ?_
   obtain ⟨ag,ah,c⟩:=zD c
   obtain ⟨ds,dt,ai⟩:=SlF.len ((H.item (i:=1) rfl))
   refine zH (yS (xP u23 ai) (congrArg (Value.int .i64) ah)) ?_
   obtain ⟨aj,ak,c⟩:=zD c
   refine zH (zQ (Do_gtr (a:=ag) (b:=60) rfl rfl) ak)<| zH (yJ (v:= .bool aj) rfl rfl) ?_
   obtain rfl:=someI c
   exact zG (zA (meet ⟨(zL rfl zM),H.pick [0,1,2,3] (by decide)⟩))
  rintro ρ du H
  have c:=af
  refine yN (b:=K) rfl rfl rfl (fun u=>?_) (fun u=>?_)
  ·have c:=zS u c
   refine yI ?_
   refine yI ?_
   refine yI ?_
   refine yI ?_
   refine zH (yL (v:= .bool true) rfl rfl) ?_
   obtain rfl:=someI c
   exact (zG (zA (meet ⟨(),(zL rfl zM),H.pick [0,1,2,3] (by decide)⟩)))
  have c:=zT u c
  refine zH (fa26_2 rfl)<| zH (zN one24 rfl (Cells.get (Blk.cells (H.item (i:=3) rfl)) (i:=2) rfl)) ?_
  obtain ⟨al,am,c⟩:=zD c
  obtain ⟨dv,dw,an⟩:=SlF.len ((H.item (i:=2) rfl))
  refine zH (yS (xP u24 an) (congrArg (Value.int .i64) am)) ?_
  obtain ⟨ao,ap,c⟩:=zD c
  refine zH (zQ (Do_gtr (a:=al) (b:=60) rfl rfl) ap)<| zH (yJ (v:= .bool ao) rfl rfl) ?_
  obtain rfl:=someI c
  exact (zG (zA (meet ⟨(),(zL rfl zM),H.pick [0,1,2,3] (by decide)⟩)))
 rintro _ ρ dx H
 have c:=Z
 refine zZ (b:=J) rfl (fun x=>?_) (fun x=>?_)
 ·have c:=zS x c
  refine zC fun dy aq=>zB ?_
  refine zK (.int .i64 3)<| (zG (zA (aq _ _ ?_)))
  obtain rfl:=someI c
  refine (zY (zV (post1 (v1:= .int .i64 3) rfl rfl ?_)))
  exact ⟨rfl,H.pick [] (by decide)⟩
 have c:=zT x c
 refine (yA (zA (Y _ _ ?_)))
 obtain ⟨ar,au,c⟩:=xZ c
 refine yK [2,3,4,26,27,28,29,30,31,32,33,34,35,36,37,38,39,40,41,42,43] (fun (g:Unit)=>[]) (fun g wl=>Hd O w wl S [.fz (.sl Rp.str v1 d.Phases),.fz (.sl rMoveT h d.Moves),.fz (.sl rRule j d.Rules),.blk k [v1,h,j] 26]∧ar ()=some r) ?_ ?_
 ·skip
  refine zC fun dz av=>zB ?_
  refine zH (fa26_0 rfl)<| zH (zN one22 rfl (Cells.get (Blk.cells (H.item (i:=3) rfl)) (i:=0) rfl)) ?_
  obtain ⟨aw,ax,c⟩:=zD c
  obtain ⟨d0,d1,ay⟩:=SlF.len ((H.item (i:=0) rfl))
  refine zH (yS (xP u22 ay) (congrArg (Value.int .i64) ax))<| zJ (.int .i64 0)<| (zG (zA (av _ _ ?_)))
  refine yH ?_
  unfold Feb at c
  obtain ⟨az,L,a0,c⟩:=yX c
  refine xI [2,3,4,29,30,31,32,33,34,35,36,37,38,39,40,41,42,43] (fun (g:Nat×Int)=>[(29,.int .i64 g.2)]) (fun g wl=>Hd O w wl S [.fz (.sl Rp.str v1 d.Phases),.fz (.sl rMoveT h d.Moves),.fz (.sl rRule j d.Rules),.blk k [v1,h,j] 26]∧loopN az g.1 g.2=some r) (fun g=>g.1) (L,0) (zL rfl zM) ⟨H.pick [0,1,2,3] (by decide),c⟩ ?_
  clear H c
  rintro ⟨L,l⟩ ρ d2 ⟨H,c⟩
  obtain ⟨a1,rfl,c⟩:=xC c
  have c:=xB a0 c
  refine zC fun d3 a2=>zB ?_
  obtain ⟨a3,a4,c⟩:=zD c
  refine zH (zQ (xR (a:=l) (b:=aw) rfl rfl) a4)<| (zG (zA (a2 _ _ ?_)))
  refine zC fun d4 a5=>?_
  refine zZ (b:=a3) rfl (fun y=>?_) (fun y=>?_)
  ·have c:=zS y c
   refine (yA (zA (a5 _ _ ?_)))
   refine zC fun d5 a6=>?_
   refine yH ?_
   refine zC fun d6 a7=>zB ?_
   refine zJ (.int .i64 l) ?_
   obtain ⟨m,z,c⟩:=zF c
   obtain ⟨a8,a9,d7,ba,bb,bc,bd,be,bf⟩:=rd_at (H.item (i:=0) rfl) z
   obtain rfl:ba= [.string (bs m)]:=bc
   have H:=H.fz (.at a8 (a9+l.toNat * 1) _) ⟨bd,be,bf⟩
   refine zH (xE u22 sz9 bb rfl (yE z).1 (yE z).2.1 rfl rfl)<| zH (zN one9 rfl (Cells.get (H.item (i:=4) rfl).2.2 (i:=0) rfl))<| zK (.int .i64 l)<| zK (.string (bs m))<| (zG (zA (a7 _ _ ?_)))
   refine zC fun d8 bg=>?_
   refine zC fun d9 bh=>zB ?_
   refine zJ (.string (bs m)) ?_
   have bi:=H
   obtain ⟨bj,bk,c⟩:=zF c
   refine yG rfl rfl (yC en86 rfl) (Fakw m _ bk _ _ _ (H.enter [] [] (by decide) rfl)) ?_
   rintro _ ea ⟨rfl,bl⟩
   have H:=bi.step (bl.only:Only [] _ _)
   refine ⟨_,rfl,?_⟩
   obtain ⟨bm,bn,c⟩:=zD c
   refine zH (zQ (wI (p:=bj) rfl) bn)<| (zG (zA (bh _ _ ?_)))
   refine zZ (b:=bm) rfl (fun A=>?_) (fun A=>?_)
   ·have c:=zS A c
    refine zC fun eb bo=>zB ?_
    refine zK (.int .i64 8)<| (zG (zA (bo _ _ ?_)))
    obtain rfl:=someI c
    refine (zY (zV (yF (zV (zV (yF (zV (post1 (v1:= .int .i64 8) rfl rfl ?_))))))))
    exact ⟨rfl,H.pick [] (by decide)⟩
   have c:=zT A c
   refine (yA (zA (bg _ _ ?_)))
   refine zC fun ec bp=>zB ?_
   refine zH (fa26_0 rfl)<| zH (zN one22 rfl (Cells.get (Blk.cells (H.item (i:=3) rfl)) (i:=0) rfl))<| zJ (.int .i64 l) ?_
   obtain ⟨M,bq,c⟩:=zF c
   refine RL_exP rfl rfl (Lx_slice_h u22 sz9 (H.item (i:=0) rfl) rfl rfl bq) ?_
   rintro P br
   have H:=H.fz (.sl Rp.str P M) br
   refine zJ (.string (bs m)) ?_
   have bt:=H
   obtain ⟨bu,bv,c⟩:=zF c
   refine yG rfl rfl (yC en87 rfl) (Fa1w M m P _ bv _ _ _ (H.enter [] [5] (by decide) rfl)) ?_
   rintro _ ed ⟨rfl,bw⟩
   have H:=bt.step (bw.only:Only [] _ _)
   refine ⟨_,rfl,?_⟩
   refine (zG (zA (bp _ _ ?_)))
   refine zZ (b:=bu) rfl (fun B=>?_) (fun B=>?_)
   ·have c:=zS B c
    refine zC fun ee bx=>zB ?_
    refine zK (.int .i64 5)<| (zG (zA (bx _ _ ?_)))
    obtain rfl:=someI c
    refine (zY (yF (zV (zV (yF (zV (post1 (v1:= .int .i64 5) rfl rfl ?_)))))))
    exact ⟨rfl,H.pick [] (by decide)⟩
   have c:=zT B c
   refine (yA (yP (zA (a6 _ _ ?_))))
   refine zB ?_
   obtain ⟨Q,bz,c⟩:=zD c
   refine zH (xM (a:=l) (b:=1) rfl rfl bz)<| zJ (.int .i64 Q) ?_
   exact (zG (zA (meet ⟨(a1,Q),(zL rfl zM),⟨H.pick [0,1,2,3] (by decide),c⟩,Nat.lt_succ_self _⟩)))
  have c:=zT y c
  exact (xO (yQ (yQ (yZ (zA (meet ⟨(),zM,⟨H.pick [0,1,2,3] (by decide),c⟩⟩))))))
 rintro _ ρ ef ⟨H,c⟩
 have c:=wJ au c
 obtain ⟨b0,b1,c⟩:=xZ c
 refine yK [2,6,7,44,45,46,47,48,49,50,51,52,53,54,55,56,57] (fun (g:Unit)=>[]) (fun g wl=>Hd O w wl S [.fz (.sl Rp.str v1 d.Phases),.fz (.sl rMoveT h d.Moves),.fz (.sl rRule j d.Rules),.blk k [v1,h,j] 26]∧b0 ()=some r) ?_ ?_
 ·skip
  refine zC fun eg b2=>zB ?_
  refine zH (fa26_1 rfl)<| zH (zN one23 rfl (Cells.get (Blk.cells (H.item (i:=3) rfl)) (i:=1) rfl)) ?_
  obtain ⟨b3,b4,c⟩:=zD c
  obtain ⟨eh,ei,b5⟩:=SlF.len ((H.item (i:=1) rfl))
  refine zH (yS (xP u23 b5) (congrArg (Value.int .i64) b4))<| zJ (.int .i64 0)<| (zG (zA (b2 _ _ ?_)))
  refine yH ?_
  unfold Fd9 at c
  obtain ⟨b6,R,b7,c⟩:=yX c
  refine xI [2,6,7,47,48,49,50,51,52,53,54,55,56,57] (fun (g:Nat×Int)=>[(47,.int .i64 g.2)]) (fun g wl=>Hd O w wl S [.fz (.sl Rp.str v1 d.Phases),.fz (.sl rMoveT h d.Moves),.fz (.sl rRule j d.Rules),.blk k [v1,h,j] 26]∧loopN b6 g.1 g.2=some r) (fun g=>g.1) (R,0) (zL rfl zM) ⟨H.pick [0,1,2,3] (by decide),c⟩ ?_
  clear H c
  rintro ⟨R,C⟩ ρ ej ⟨H,c⟩
  obtain ⟨b8,rfl,c⟩:=xC c
  have c:=xB b7 c
  refine zC fun ek b9=>zB ?_
  obtain ⟨ca,cb,c⟩:=zD c
  refine zH (zQ (xR (a:=C) (b:=b3) rfl rfl) cb)<| (zG (zA (b9 _ _ ?_)))
  refine zC fun el cc=>?_
  refine zZ (b:=ca) rfl (fun D=>?_) (fun D=>?_)
  ·have c:=zS D c
   refine (yA (zA (cc _ _ ?_)))
   refine zC fun em cd=>?_
   refine yH ?_
   refine zC fun en ce=>zB ?_
   obtain ⟨f,E,c⟩:=zF c
   obtain ⟨cf,cg,eo,ep,ch,ci,cj,ck,cl⟩:=rd_at (H.item (i:=1) rfl) E
   obtain ⟨s,rfl,cm⟩:=rMoveT_open ci
   have H:=H.fzs [.at cf (cg+C.toNat * 9) _,.sl rCond s f.When.Kids] ⟨⟨cj,ck,cl⟩,cm,trivial⟩
   refine zH (xE u23 sz122 ch rfl (yE E).1 (yE E).2.1 rfl rfl)<| zH (yS (yR (cs:=[.string (bs f.From),.string (bs f.To),.int .i64 f.When.Kind,.string (bs f.When.Name),.string (bs f.When.Other),.int .i64 f.When.Op,.int .i64 f.When.N,.int .i64 f.When.Frames,s]) agg122 rfl sz122 rfl (H.item (i:=4) rfl).2.2) rfl)<| yY rfl rfl (xQ zero122 H) ?_
   rintro _ er ⟨es,rfl,H⟩
   refine xG rfl (xH (vs:=[.string (bs f.From),.string (bs f.To),.int .i64 f.When.Kind,.string (bs f.When.Name),.string (bs f.When.Other),.int .i64 f.When.Op,.int .i64 f.When.N,.int .i64 f.When.Frames,s]) H 6 rfl sz122 rfl rfl rfl ⟨rfl,rfl,rfl,rfl,rfl,rfl,rfl,rfl,(slf_one (H.item (i:=5) rfl)),trivial⟩ rfl) ?_
   rintro et H
   refine (zG (zA (ce _ _ ?_)))
   refine zC fun eu cn=>zB ?_
   refine zH (yS (yR (cs:=[v1,h,j]) agg26 rfl sz26 rfl (Blk.cells (H.item (i:=3) rfl))) rfl)<| zH (yS (yR (cs:=[.string (bs f.From),.string (bs f.To),.int .i64 f.When.Kind,.string (bs f.When.Name),.string (bs f.When.Other),.int .i64 f.When.Op,.int .i64 f.When.N,.int .i64 f.When.Frames,s]) agg122 rfl sz122 rfl (Blk.cells (H.item (i:=6) rfl))) rfl) ?_
   have co:=H
   obtain ⟨n,cp,c⟩:=zF c
   refine yG rfl rfl (yC en88 rfl) (Fcqw d f v1 h j s _ cp _ _ _ (H.enter [] [0,1,2,5] (by decide) rfl)) ?_
   rintro _ ew ⟨rfl,cq⟩
   have H:=co.step (cq.only:Only [] _ _)
   refine ⟨_,rfl,?_⟩
   refine zK (.int .i64 n)<| (zG (zA (cn _ _ ?_)))
   refine zC fun ex cr=>zB ?_
   refine zJ (.int .i64 n) ?_
   obtain ⟨ct,cu,c⟩:=zD c
   refine zH (zQ (wH (a:=n) (b:=0) rfl rfl) cu)<| (zG (zA (cr _ _ ?_)))
   refine zZ (b:=ct) rfl (fun F=>?_) (fun F=>?_)
   ·have c:=zS F c
    refine zC fun ey cv=>zB ?_
    refine zJ (.int .i64 n)<| zK (.int .i64 n)<| (zG (zA (cv _ _ ?_)))
    obtain rfl:=someI c
    refine (zY (yF (zV (zV (yF (zV (post1 (v1:= .int .i64 n) rfl rfl ?_)))))))
    exact ⟨rfl,H.pick [] (by decide)⟩
   have c:=zT F c
   refine (yA (yP (zA (cd _ _ ?_))))
   refine zB ?_
   obtain ⟨T,cw,c⟩:=zD c
   refine zH (xM (a:=C) (b:=1) rfl rfl cw)<| zJ (.int .i64 T) ?_
   exact (zG (zA (meet ⟨(b8,T),(zL rfl zM),⟨H.pick [0,1,2,3] (by decide),c⟩,Nat.lt_succ_self _⟩)))
  have c:=zT D c
  exact (xO (yQ (yQ (yZ (zA (meet ⟨(),zM,⟨H.pick [0,1,2,3] (by decide),c⟩⟩))))))
 rintro _ ρ ez ⟨H,c⟩
 have c:=wJ b1 c
 obtain ⟨cx,cy,c⟩:=xZ c
 refine yK [2,8,9,58,59,60,61,62,63,64,65,66,67,68,69,70] (fun (g:Unit)=>[]) (fun g wl=>Hd O w wl S []∧cx ()=some r) ?_ ?_
 ·skip
  refine zC fun e0 cz=>zB ?_
  refine zH (fa26_2 rfl)<| zH (zN one24 rfl (Cells.get (Blk.cells (H.item (i:=3) rfl)) (i:=2) rfl)) ?_
  obtain ⟨c0,c1,c⟩:=zD c
  obtain ⟨e1,e2,c2⟩:=SlF.len ((H.item (i:=2) rfl))
  refine zH (yS (xP u24 c2) (congrArg (Value.int .i64) c1))<| zJ (.int .i64 0)<| (zG (zA (cz _ _ ?_)))
  refine yH ?_
  unfold Fdt at c
  obtain ⟨c3,U,c4,c⟩:=yX c
  refine xI [2,8,9,61,62,63,64,65,66,67,68,69,70] (fun (g:Nat×Int)=>[(61,.int .i64 g.2)]) (fun g wl=>Hd O w wl S [.fz (.sl Rp.str v1 d.Phases),.fz (.sl rMoveT h d.Moves),.fz (.sl rRule j d.Rules),.blk k [v1,h,j] 26]∧loopN c3 g.1 g.2=some r) (fun g=>g.1) (U,0) (zL rfl zM) ⟨H.pick [0,1,2,3] (by decide),c⟩ ?_
  clear H c
  rintro ⟨U,o⟩ ρ e3 ⟨H,c⟩
  obtain ⟨c5,rfl,c⟩:=xC c
  have c:=xB c4 c
  refine zC fun e4 c6=>zB ?_
  obtain ⟨c7,c8,c⟩:=zD c
  refine zH (zQ (xR (a:=o) (b:=c0) rfl rfl) c8)<| (zG (zA (c6 _ _ ?_)))
  refine zC fun e5 c9=>?_
  refine zZ (b:=c7) rfl (fun G=>?_) (fun G=>?_)
  ·have c:=zS G c
   refine (yA (zA (c9 _ _ ?_)))
   refine zC fun e6 da=>?_
   refine yH ?_
   refine zC fun e7 db=>zB ?_
   refine zJ (.int .i64 o)<| zK (.int .i64 o)<| (zG (zA (db _ _ ?_)))
   refine zC fun e8 dc=>zB ?_
   refine zH (yS (yR (cs:=[v1,h,j]) agg26 rfl sz26 rfl (Blk.cells (H.item (i:=3) rfl))) rfl)<| zJ (.int .i64 o) ?_
   have dd:=H
   obtain ⟨q,de,c⟩:=zF c
   refine yG rfl rfl (yC en89 rfl) (Fb1w d o v1 h j _ de _ _ _ (H.enter [] [0,1,2] (by decide) rfl)) ?_
   rintro _ e9 ⟨rfl,df⟩
   have H:=dd.step (df.only:Only [] _ _)
   refine ⟨_,rfl,?_⟩
   refine zK (.int .i64 q)<| (zG (zA (dc _ _ ?_)))
   refine zC fun fa dg=>zB ?_
   refine zJ (.int .i64 q) ?_
   obtain ⟨dh,di,c⟩:=zD c
   refine zH (zQ (wH (a:=q) (b:=0) rfl rfl) di)<| (zG (zA (dg _ _ ?_)))
   refine zZ (b:=dh) rfl (fun I=>?_) (fun I=>?_)
   ·have c:=zS I c
    refine zC fun fb dj=>zB ?_
    refine zJ (.int .i64 q)<| zK (.int .i64 q)<| (zG (zA (dj _ _ ?_)))
    obtain rfl:=someI c
    refine (zY (yF (zV (zV (yF (zV (post1 (v1:= .int .i64 q) rfl rfl ?_)))))))
    exact ⟨rfl,H.pick [] (by decide)⟩
   have c:=zT I c
   refine (yA (yP (zA (da _ _ ?_))))
   refine zB ?_
   obtain ⟨V,dk,c⟩:=zD c
   refine zH (xM (a:=o) (b:=1) rfl rfl dk)<| zJ (.int .i64 V) ?_
   exact (zG (zA (meet ⟨(c5,V),(zL rfl zM),⟨H.pick [0,1,2,3] (by decide),c⟩,Nat.lt_succ_self _⟩)))
  have c:=zT G c
  exact (xO (yQ (yQ (yZ (zA (meet ⟨(),zM,⟨H.pick [] (by decide),c⟩⟩))))))
 rintro _ ρ fc ⟨H,c⟩
 have c:=wJ cy c
 refine zC fun fd dl=>zB ?_
 refine zK (.int .i64 0)<| (zG (zA (dl _ _ ?_)))
 obtain rfl:=someI c
 refine (zY (post1 (v1:= .int .i64 0) rfl rfl ?_))
 exact ⟨rfl,H.pick [] (by decide)⟩
theorem Fdkw (a:Track)(b:Track)(v1:Value)(d:Nat)(f:Value)(r:Bool)(c:Fdk a b=some r)(O S:List Nat)(w:World)(H:Hd O w w S [.blk d [.string (bs b.Name),.int .i64 b.Series.Den,f,.int .i64 b.Long] 37,.fz (.sl rSample v1 a.Series.Samples),.fz (.sl rSample f b.Series.Samples)]):
  Calls Tryz.prog 138 ([.agg [.string (bs a.Name),.int .i64 a.Series.Den,v1,.int .i64 a.Long].toArray,ptr0 d]:List Value).toArray w fun e w'=>e= .returned (.bool r)∧Hd O w w' S [.blk d [.string (bs b.Name),.int .i64 b.Series.Den,f,.int .i64 b.Long] 37]:=by
 unfold Fdk at c
 refine zW 9 Tryz.func138 rfl rfl rfl ?_
 refine zC fun m j=>zB ?_
 refine yY rfl rfl (xX (cs:=[.string (bs a.Name),.int .i64 a.Series.Den,v1,.int .i64 a.Long]) rfl H) ?_
 rintro _ n ⟨o,rfl,H⟩
 refine zK (.bool false)<| (zG (zA (j _ _ ?_)))
 refine zC fun p k=>zB ?_
 refine zH (fa37_0 rfl)<| zH (zN one9 rfl (Cells.get (Blk.cells (H.item (i:=3) rfl)) (i:=0) rfl))<| zH (fa37_0 rfl)<| zH (zN one9 rfl (Cells.get (Blk.cells (H.item (i:=0) rfl)) (i:=0) rfl)) ?_
 obtain ⟨h,l,c⟩:=zD c
 refine zH (zQ (Do_eqls (s1:=a.Name) (s2:=b.Name) rfl rfl) l)<| zK (.bool h)<| (zG (zA (k _ _ ?_)))
 obtain rfl:=someI c
 refine (zY (post1 (v1:= .bool h) rfl rfl ?_))
 exact ⟨rfl,H.pick [0] (by decide)⟩
theorem Fccw (l:List Track)(p1c0:Track)(v1:Value)(j:Nat)(d:Value)(r:Int)(c:Fcc l p1c0=some r)(O S:List Nat)(w:World)(H:Hd O w w S [.blk j [.string (bs p1c0.Name),.int .i64 p1c0.Series.Den,d,.int .i64 p1c0.Long] 37,.fz (.sl rTrack v1 l),.fz (.sl rSample d p1c0.Series.Samples)]):
  Calls Tryz.prog 189 ([v1,.func (.func 138) #[] #[ptr0 j]]:List Value).toArray w fun e w'=>e= .returned (.int .i64 r)∧Hd O w w' S [.blk j [.string (bs p1c0.Name),.int .i64 p1c0.Series.Den,d,.int .i64 p1c0.Long] 37]:=by
 unfold Fcc at c
 refine zW 19 Tryz.func189 rfl rfl rfl ?_
 refine zC fun K7 u=>zB ?_
 refine zK (.int .i64 0)<| (zG (zA (u _ _ ?_)))
 obtain ⟨v,x,c⟩:=xZ c
 refine yK [4,5,6,7,8,9,10,11,12,13,14,15,16,17,18] (fun (g:Unit)=>[]) (fun g wl=>Hd O w wl S [.blk j [.string (bs p1c0.Name),.int .i64 p1c0.Series.Den,d,.int .i64 p1c0.Long] 37,.fz (.sl rSample d p1c0.Series.Samples)]∧v ()=some r) ?_ ?_
 ·skip
  refine zC fun ae y=>zB ?_
  refine zJ v1 ?_
  obtain ⟨z,A,c⟩:=zD c
  obtain ⟨af,ag,B⟩:=SlF.len ((H.item (i:=1) rfl))
  refine zH (yS (xP u27 B) (congrArg (Value.int .i64) A))<| zJ (.int .i64 0)<| (zG (zA (y _ _ ?_)))
  refine yH ?_
  unfold Fej at c
  obtain ⟨C,p,D,c⟩:=yX c
  refine xI [4,5,8,9,10,11,12,13,14,15,16,17,18] (fun (g:Nat×Int)=>[(8,.int .i64 g.2)]) (fun g wl=>Hd O w wl S [.blk j [.string (bs p1c0.Name),.int .i64 p1c0.Series.Den,d,.int .i64 p1c0.Long] 37,.fz (.sl rSample d p1c0.Series.Samples),.fz (.sl rTrack v1 l)]∧loopN C g.1 g.2=some r) (fun g=>g.1) (p,0) (zL rfl zM) ⟨H.pick [0,2,1] (by decide),c⟩ ?_
  clear H c
  rintro ⟨p,f⟩ ρ ah ⟨H,c⟩
  obtain ⟨E,rfl,c⟩:=xC c
  have c:=xB D c
  refine zC fun ai F=>zB ?_
  obtain ⟨G,I,c⟩:=zD c
  refine zH (zQ (xR (a:=f) (b:=z) rfl rfl) I)<| (zG (zA (F _ _ ?_)))
  refine zC fun aj J=>?_
  refine zZ (b:=G) rfl (fun m=>?_) (fun m=>?_)
  ·have c:=zS m c
   refine (yA (zA (J _ _ ?_)))
   refine zC fun ak K=>?_
   refine yH ?_
   refine zC fun al L=>zB ?_
   refine zJ (.int .i64 f)<| zK (.int .i64 f)<| (zG (zA (L _ _ ?_)))
   refine zC fun am M=>zB ?_
   refine zJ (.func (.func 138) #[] #[ptr0 j])<| zJ v1<| zJ (.int .i64 f) ?_
   obtain ⟨h,n,c⟩:=zF c
   obtain ⟨q,s,an,ao,N,P,Q,R,T⟩:=rd_at (H.item (i:=2) rfl) n
   obtain ⟨k,rfl,U⟩:=rTrack_open P
   have H:=H.fzs [.at q (s+f.toNat * 4) _,.sl rSample k h.Series.Samples] ⟨⟨Q,R,T⟩,U,trivial⟩
   refine zH (xE u27 sz37 N rfl (yE n).1 (yE n).2.1 rfl rfl)<| zH (yS (yR (cs:=[.string (bs h.Name),.int .i64 h.Series.Den,k,.int .i64 h.Long]) agg37 rfl sz37 rfl (H.item (i:=3) rfl).2.2) rfl) ?_
   obtain ⟨V,X,c⟩:=zF c
   refine yG rfl rfl (DoC_clo en138 rfl rfl) (Fdkw h p1c0 k j d _ X _ _ _ (H.enter [0] [4,1] (by decide) rfl)) ?_
   rintro _ Y ⟨rfl,Z⟩
   have H:Hd _ _ Y _ [.fz (.sl rSample d p1c0.Series.Samples),.fz (.sl rTrack v1 l),.fz (.at q (s+f.toNat * 4) [.string (bs h.Name),.int .i64 h.Series.Den,k,.int .i64 h.Long]),.fz (.sl rSample k h.Series.Samples),.blk j [.string (bs p1c0.Name),.int .i64 p1c0.Series.Den,d,.int .i64 p1c0.Long] 37]:=H.back [0] [4,1] rfl Z
   refine ⟨_,rfl,?_⟩
   refine (zG (zA (M _ _ ?_)))
   refine zZ (b:=V) rfl (fun o=>?_) (fun o=>?_)
   ·have c:=zS o c
    refine zC fun ap aa=>zB ?_
    refine zJ (.int .i64 f)<| zK (.int .i64 f)<| (zG (zA (aa _ _ ?_)))
    obtain rfl:=someI c
    refine (zY (yF (zV (zV (yF (zV (post1 (v1:= .int .i64 f) rfl rfl ?_)))))))
    exact ⟨rfl,H.pick [4] (by decide)⟩
   have c:=zT o c
   refine (yA (yP (zA (K _ _ ?_))))
   refine zB ?_
   obtain ⟨t,ab,c⟩:=zD c
   refine zH (xM (a:=f) (b:=1) rfl rfl ab)<| zJ (.int .i64 t) ?_
   exact (zG (zA (meet ⟨(E,t),(zL rfl zM),⟨H.pick [4,0,1] (by decide),c⟩,Nat.lt_succ_self _⟩)))
  have c:=zT m c
  exact (xO (yQ (yQ (yZ (zA (meet ⟨(),zM,⟨H.pick [0,1] (by decide),c⟩⟩))))))
 rintro _ ρ aq ⟨H,c⟩
 have c:=wJ x c
 refine zC fun ar ac=>zB ?_
 refine zK (.int .i64 (-1))<| (zG (zA (ac _ _ ?_)))
 obtain rfl:=someI c
 refine (zY (post1 (v1:= .int .i64 (-1)) rfl rfl ?_))
 exact ⟨rfl,H.pick [0] (by decide)⟩
theorem Fbzw (h:List Track)(p1c0:Track)(v1:Value)(c:Nat)(d:Value)(r:Bool)(f:Fbz h p1c0=some r)(O S:List Nat)(w:World)(H:Hd O w w S [.blk c [.string (bs p1c0.Name),.int .i64 p1c0.Series.Den,d,.int .i64 p1c0.Long] 37,.fz (.sl rTrack v1 h),.fz (.sl rSample d p1c0.Series.Samples)]):
  Calls Tryz.prog 134 ([v1,.func (.func 138) #[] #[ptr0 c]]:List Value).toArray w fun e w'=>e= .returned (.bool r)∧Hd O w w' S [.blk c [.string (bs p1c0.Name),.int .i64 p1c0.Series.Den,d,.int .i64 p1c0.Long] 37]:=by
 unfold Fbz at f
 refine zW 9 Tryz.func134 rfl rfl rfl ?_
 refine zC fun q j=>zB ?_
 refine zK (.bool false)<| (zG (zA (j _ _ ?_)))
 refine zC fun s k=>zB ?_
 refine zJ v1<| zJ (.func (.func 138) #[] #[ptr0 c]) ?_
 obtain ⟨l,m,f⟩:=zF f
 refine yG rfl rfl (yC en189 rfl) (Fccw h p1c0 v1 c d _ m _ _ _ (H.enter [0] [1,2] (by decide) rfl)) ?_
 rintro _ n ⟨rfl,o⟩
 have H:Hd _ _ n _ [.fz (.sl rTrack v1 h),.fz (.sl rSample d p1c0.Series.Samples),.blk c [.string (bs p1c0.Name),.int .i64 p1c0.Series.Den,d,.int .i64 p1c0.Long] 37]:=H.back [0] [1,2] rfl o
 refine ⟨_,rfl,?_⟩
 obtain ⟨i,p,f⟩:=zD f
 refine zH (zQ (Do_geq (a:=l) (b:=0) rfl rfl) p)<| zK (.bool i)<| (zG (zA (k _ _ ?_)))
 obtain rfl:=someI f
 refine (zY (post1 (v1:= .bool i) rfl rfl ?_))
 exact ⟨rfl,H.pick [2] (by decide)⟩
theorem Faqw (d:Int)(f:Int)(h:Int)(r:Bool)(c:Faq d f h=some r)(O S:List Nat)(w:World)(H:Hd O w w S []):
  Calls Tryz.prog 226 ([.int .i64 d,.int .i64 f,.int .i64 h]:List Value).toArray w fun e w'=>e= .returned (.bool r)∧Hd O w w' S []:=by
 unfold Faq at c
 refine zW 15 Tryz.func226 rfl rfl rfl ?_
 refine zC fun q l=>zB ?_
 refine zK (.bool false)<| (zG (zA (l _ _ ?_)))
 obtain ⟨j,c,m⟩:=zF c
 refine yK [6,7,8,9,10,11,12,13,14] (fun (g:Unit)=>[(6,.bool j)]) (fun g wl=>Hd O w wl S []) ?_ ?_
 ·skip
  refine zB ?_
  refine zJ (.int .i64 d)<| zJ (.int .i64 f) ?_
  obtain ⟨n,o,c⟩:=zD c
  refine zH (zQ (Do_geq (a:=d) (b:=f) rfl rfl) o)<| yN (b:=n) rfl rfl rfl (fun i=>?_) (fun i=>?_)
  ·have c:=zS i c
   refine zJ (.int .i64 d)<| zJ (.int .i64 h) ?_
   obtain ⟨k,p,c⟩:=zD c
   refine zH (zQ (Do_leq (a:=d) (b:=h) rfl rfl) p)<| zH (yL (v:= .bool k) rfl rfl)<| zK (.bool k) ?_
   obtain rfl:=someI c
   exact (zG (zA (meet ⟨(),(zL rfl zM),H.pick [] (by decide)⟩)))
  have c:=zT i c
  refine yI ?_
  refine yI ?_
  refine yI ?_
  refine zH (yJ (v:= .bool false) rfl rfl)<| zK (.bool false) ?_
  obtain rfl:=someI c
  exact (zG (zA (meet ⟨(),(zL rfl zM),H.pick [] (by decide)⟩)))
 rintro _ ρ s H
 have c:=m
 obtain rfl:=someI c
 refine (zY (post1 (v1:= .bool j) rfl rfl ?_))
 exact ⟨rfl,H.pick [] (by decide)⟩
end Go.Proofs.YtckmiljbaejijaaGreatDoor.L
