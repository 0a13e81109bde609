/- Walks: what each function computes, for every argument; no condition but those that stand in the statements. -/
import Derived.Test.YtckmiljbaejijaaGreatDoorUV0
import Derived.Test.YtckmiljbaejijaaGreatDoorUV7
import Derived.Test.YtckmiljbaejijaaGreatDoorUV9
namespace Go.Proofs.YtckmiljbaejijaaGreatDoor.L
open Go.RowKit Go.OB Go.Lf
set_option maxHeartbeats 4000000
set_option maxRecDepth 100000 in
theorem Fdew (d:Rules)(q:List fG)(t:Int)(o:Int)(v1:Value)(h:Value)(j:Value)(p:Value)(r:Bool)(c:Fde d q t o=some r)(O S:List Nat)(w:World)(H:Hd O w w S [f1 Rp.str v1 d.Phases,f1 gU h d.Moves,f1 gZ j d.Rules,f1 fM p q,.fz (.at 0 0 ((Fl.arr 7 Fl.str).f zM)),.fz (.gi 4)]):
  Cl 10 [.agg [v1,h,j].toArray,p,i6 t,i6 o] w fun e s=>e= .returned (.bool r)∧Hd O w s S []:=by
 unfold Fde at c
 refine CW 169 Tryz.func10 ?_
 refine zB fun hl bb=>zA<| yR rfl rfl (xW (cs:=[v1,h,j]) rfl H) ?_
 rintro _ hn ⟨u,rfl,H⟩
 refine zI (.bool false)<| RN bb<| zB fun ho bc=>zA<| zG (yK (yJ (cs:=[v1,h,j]) mZ rfl rZ rfl (Hbc H 6 rfl)) rfl) ?_
 obtain ⟨⟨x,z⟩,bd,c⟩:=zD c
 refine yB rfl rfl (zV en36 rfl) (Fa2w d v1 h j _ bd _ _ _ (H.enter [] [0,1,2])) ?_
 rintro _ hp ⟨k,rfl,be⟩
 have H:=H.back1 [0,1,2] rfl be
 refine ⟨_,rfl,?_⟩
 refine zH (.tuple #[k,i6 z])<| zG (xR (v:=k) rfl rfl)<| zG (xR (v:=i6 z) rfl rfl)<| zI k<| zI (i6 z)<| RN bc<| zB fun hq bf=>zA<| zG (yK (yJ (cs:=[v1,h,j]) mZ rfl rZ rfl (Hbc H 6 rfl)) rfl)<| zH p<| zH (i6 t)<| zH (i6 o) ?_
 obtain ⟨⟨y,A⟩,bg,c⟩:=zD c
 refine yB rfl rfl (zV en15 rfl) (Fbgw d q t o v1 h j p _ bg _ _ _ (H.enter [] [0,1,2,3])) ?_
 rintro _ hr ⟨n,rfl,bh⟩
 have H:=H.back1 [0,1,2,3] rfl bh
 refine ⟨_,rfl,?_⟩
 refine zH (.tuple #[n,i6 A])<| zG (xR (v:=n) rfl rfl)<| zG (xR (v:=i6 A) rfl rfl)<| zI n<| zI (i6 A)<| RN bf<| zB fun hs bi=>?_
 obtain ⟨al,c,bj⟩:=zD c
 refine yH [29,30,31,32,33,34,35,36,37,38,39,40,41,42,43,44,45,46,47,48,49] (fun (g:Unit)=>[(49,.bool al)]) (fun g wl=>Hd O w wl S [f1 Rp.str v1 d.Phases,f1 gU h d.Moves,f1 gZ j d.Rules,f1 fM p q,.fz (.at 0 0 ((Fl.arr 7 Fl.str).f zM)),.fz (.gi 4),.blk u [v1,h,j] 26,.own (Rp.int .i64) k 3 x,.fz (.sl (Rp.sl (Rp.int .i64)) n y)]) ?_ ?_
 ·skip
  refine zA ?_
  refine zH (i6 z) ?_
  obtain ⟨bk,bl,c⟩:=zC c
  refine zG (zL (wI (a:=z) (b:=0) rfl rfl) bl) ?_
  obtain ⟨am,c,bm⟩:=zD c
  refine dL 4 [31,32,33,34] [(34,.bool am)] (fun wl=>Hd O w wl S [f1 Rp.str v1 d.Phases,f1 gU h d.Moves,f1 gZ j d.Rules,f1 fM p q,.fz (.at 0 0 ((Fl.arr 7 Fl.str).f zM)),.fz (.gi 4),.blk u [v1,h,j] 26,.own (Rp.int .i64) k 3 x,.fz (.sl (Rp.sl (Rp.int .i64)) n y)]) ?_ ?_
  ·skip
   refine yO (b:=bk) rfl rfl rfl (fun E=>?_) (fun E=>?_)
   ·have c:=zN E c
    refine yE ?_
    refine yE ?_
    refine zG (yG (v:= .bool true) rfl rfl) ?_
    obtain rfl:=gJ c
    exact yA (zF (meet ⟨(zJ rfl zK),H.pick [0,1,2,3,4,5,6,7,8]⟩))
   have c:=zO E c
   refine zH (i6 A) ?_
   obtain ⟨bn,bo,c⟩:=zC c
   refine zG (zL (wI (a:=A) (b:=0) rfl rfl) bo)<| zG (yF (v:= .bool bn) rfl rfl) ?_
   obtain rfl:=gJ c
   exact yA (zF (meet ⟨(zJ rfl zK),H.pick [0,1,2,3,4,5,6,7,8]⟩))
  rintro ρ ht H
  have c:=bm
  obtain ⟨an,c,bp⟩:=zD c
  refine dL 8 [35,36,37,38,39,40,41,42] [(42,.bool an)] (fun wl=>Hd O w wl S [f1 Rp.str v1 d.Phases,f1 gU h d.Moves,f1 gZ j d.Rules,f1 fM p q,.fz (.at 0 0 ((Fl.arr 7 Fl.str).f zM)),.fz (.gi 4),.blk u [v1,h,j] 26,.own (Rp.int .i64) k 3 x,.fz (.sl (Rp.sl (Rp.int .i64)) n y)]) ?_ ?_
  ·skip
   refine yO (b:=am) rfl rfl rfl (fun F=>?_) (fun F=>?_)
   ·have c:=zN F c
    refine yE ?_
    refine yE ?_
    refine yE ?_
    refine yE ?_
    refine yE ?_
    refine yE ?_
    refine zG (yG (v:= .bool true) rfl rfl) ?_
    obtain rfl:=gJ c
    exact yA (zF (meet ⟨(zJ rfl zK),H.pick [0,1,2,3,4,5,6,7,8]⟩))
   have c:=zO F c
   refine zH k ?_
   obtain ⟨bq,br,c⟩:=zC c
   obtain ⟨hu,hv,bt⟩:=Sr.len (Sr.of_own (H.item (i:=7) rfl))
   refine zG (yK (xH u38 bt) (congrArg (Value.int .i64) br))<| zG (mP rfl)<| Ld sK H 6 2 rfl rfl ?_
   obtain ⟨bu,bv,c⟩:=zC c
   obtain ⟨hw,hx,bw⟩:=SlF.len ((H.item (i:=2) rfl))
   refine zG (yK (xH u24 bw) (congrArg (Value.int .i64) bv)) ?_
   obtain ⟨bx,bz,c⟩:=zC c
   refine zG (zL (wI (a:=bq) (b:=bu) rfl rfl) bz)<| zG (yF (v:= .bool bx) rfl rfl) ?_
   obtain rfl:=gJ c
   exact yA (zF (meet ⟨(zJ rfl zK),H.pick [0,1,2,3,4,5,6,7,8]⟩))
  rintro ρ hy H
  have c:=bp
  refine yO (b:=an) rfl rfl rfl (fun G=>?_) (fun G=>?_)
  ·have c:=zN G c
   refine yE ?_
   refine yE ?_
   refine yE ?_
   refine yE ?_
   refine yE ?_
   refine zG (yG (v:= .bool true) rfl rfl) ?_
   obtain rfl:=gJ c
   exact (yA (zF (meet ⟨(),(zJ rfl zK),H.pick [0,1,2,3,4,5,6,7,8]⟩)))
  have c:=zO G c
  refine zH n ?_
  obtain ⟨b0,b1,c⟩:=zC c
  obtain ⟨hz,h0,b2⟩:=SlF.len ((H.item (i:=8) rfl))
  refine zG (yK (xH u28 b2) (congrArg (Value.int .i64) b1))<| zH k ?_
  obtain ⟨b3,b4,c⟩:=zC c
  obtain ⟨h1,h2,b5⟩:=Sr.len (Sr.of_own (H.item (i:=7) rfl))
  refine zG (yK (xH u38 b5) (congrArg (Value.int .i64) b4)) ?_
  obtain ⟨b6,b7,c⟩:=zC c
  refine zG (zL (wI (a:=b0) (b:=b3) rfl rfl) b7)<| zG (yF (v:= .bool b6) rfl rfl) ?_
  obtain rfl:=gJ c
  exact (yA (zF (meet ⟨(),(zJ rfl zK),H.pick [0,1,2,3,4,5,6,7,8]⟩)))
 rintro _ ρ h3 H
 have c:=bj
 refine zZ (b:=al) rfl (fun I=>?_) (fun I=>?_)
 ·have c:=zN I c
  obtain ⟨ao,c,b8⟩:=zD c
  refine yH [8,50,51,52,53,54,55,56,57,58] (fun (g:Unit)=>[(8,.bool ao)]) (fun g wl=>Hd O w wl S [.fz (.at 0 0 ((Fl.arr 7 Fl.str).f zM)),.fz (.gi 4)]) ?_ ?_
  ·skip
   refine zA ?_
   refine zH (i6 z) ?_
   obtain ⟨b9,ca,c⟩:=zC c
   refine zG (zL (wI (a:=z) (b:=0) rfl rfl) ca) ?_
   obtain ⟨ap,c,cb⟩:=zD c
   refine dL 4 [52,53,54,55] [(55,.bool ap)] (fun wl=>Hd O w wl S [f1 Rp.str v1 d.Phases,f1 gU h d.Moves,f1 gZ j d.Rules,f1 fM p q,.fz (.at 0 0 ((Fl.arr 7 Fl.str).f zM)),.fz (.gi 4),.blk u [v1,h,j] 26,.own (Rp.int .i64) k 3 x,.fz (.sl (Rp.sl (Rp.int .i64)) n y)]) ?_ ?_
   ·skip
    refine yO (b:=b9) rfl rfl rfl (fun J=>?_) (fun J=>?_)
    ·have c:=zN J c
     refine yE ?_
     refine yE ?_
     refine zG (yG (v:= .bool true) rfl rfl) ?_
     obtain rfl:=gJ c
     exact yA (zF (meet ⟨(zJ rfl zK),H.pick [0,1,2,3,4,5,6,7,8]⟩))
    have c:=zO J c
    refine zH (i6 A) ?_
    obtain ⟨cc,cd,c⟩:=zC c
    refine zG (zL (wI (a:=A) (b:=0) rfl rfl) cd)<| zG (yF (v:= .bool cc) rfl rfl) ?_
    obtain rfl:=gJ c
    exact yA (zF (meet ⟨(zJ rfl zK),H.pick [0,1,2,3,4,5,6,7,8]⟩))
   rintro ρ h4 H
   have c:=cb
   refine yO (b:=ap) rfl rfl rfl (fun K=>?_) (fun K=>?_)
   ·have c:=zN K c
    have ce:=H
    obtain ⟨aq,cf,c⟩:=zD c
    refine yB rfl rfl (zV en20 rfl) (Fblw _ cf _ _ _ (H.enter [] [4,5])) ?_
    rintro _ h5 ⟨rfl,cg⟩
    have H:=ce.step (cg.only:Only [] _ _)
    refine ⟨_,rfl,?_⟩
    refine zG (yG (v:= .bool aq) rfl rfl)<| zI (.bool aq) ?_
    obtain rfl:=gJ c
    exact (yA (zF (meet ⟨(),(zJ rfl zK),H.pick [4,5]⟩)))
   have c:=zO K c
   refine yE ?_
   refine zG (yF (v:= .bool false) rfl rfl)<| zI (.bool false) ?_
   obtain rfl:=gJ c
   exact (yA (zF (meet ⟨(),(zJ rfl zK),H.pick [4,5]⟩)))
  rintro _ ρ h6 H
  have c:=b8
  obtain rfl:=gJ c
  refine (zY (zT (fB (v1:= .bool ao) rfl rfl ?_)))
  exact ⟨rfl,H.pick []⟩
 have c:=zO I c
 refine zW (zF (bi _ _ ?_))
 obtain ⟨ch,ci,c⟩:=wJ c
 refine yH [8,13,14,15,59,60,61,62,63,64,65,66,67,68,69,70,71,72,73,74,75,76,77,78,79,80,81,82,83,84,85,86,87,88,89,90,91,92,93,94,95,96,97,98,99,100,101,102,103,104,105,106,107,108,109,110,111,112,113,114,115,116,117,118,119,120,121,122,123,124,125,126,127,128,129,130,131,132,133,134,135,136,137,138,139,140,141,142,143,144,145,146,147,148,149,150,151,152,153,154,155,156,157,158,159,160,161,162,163,164,165,166,167] (fun (g:Unit)=>[]) (fun g wl=>Hd O w wl S [.fz (.at 0 0 ((Fl.arr 7 Fl.str).f zM)),.fz (.gi 4)]∧ch ()=some r) ?_ ?_
 ·skip
  refine zB fun h7 cj=>zA<| zI (i6 0)<| RN cj<| yD ?_
  unfold Fdk at c
  obtain ⟨ck,ar,cl,c⟩:=yS c
  refine xC [8,13,14,15,59,60,61,62,63,64,65,66,67,68,69,70,71,72,73,74,75,76,77,78,79,80,81,82,83,84,85,86,87,88,89,90,91,92,93,94,95,96,97,98,99,100,101,102,103,104,105,106,107,108,109,110,111,112,113,114,115,116,117,118,119,120,121,122,123,124,125,126,127,128,129,130,131,132,133,134,135,136,137,138,139,140,141,142,143,144,145,146,147,148,149,150,151,152,153,154,155,156,157,158,159,160,161,162,163,164,165,166,167] (fun (g:Nat×Int)=>[(13,i6 g.2)]) (fun g wl=>Hd O w wl S [f1 Rp.str v1 d.Phases,f1 gU h d.Moves,f1 gZ j d.Rules,f1 fM p q,.fz (.at 0 0 ((Fl.arr 7 Fl.str).f zM)),.fz (.gi 4),.blk u [v1,h,j] 26,.own (Rp.int .i64) k 3 x,.fz (.sl (Rp.sl (Rp.int .i64)) n y)]∧fU ck g.1 g.2=some r) (fun g=>g.1) (ar,0) (zJ rfl zK) ⟨H.pick [0,1,2,3,4,5,6,7,8],c⟩ ?_
  clear H c
  rintro ⟨ar,m⟩ ρ h8 ⟨H,c⟩
  obtain ⟨cm,rfl,c⟩:=yX c
  have c:=yY cl c
  refine zB fun h9 cn=>?_
  refine zB fun ia co=>zA<| zH (i6 m)<| zH k ?_
  obtain ⟨cp,cq,c⟩:=zC c
  obtain ⟨ib,id,cr⟩:=Sr.len (Sr.of_own (H.item (i:=7) rfl))
  refine zG (yK (xH u38 cr) (congrArg (Value.int .i64) cq)) ?_
  obtain ⟨ct,cu,c⟩:=zC c
  refine zG (zL (xN (a:=m) (b:=cp) rfl rfl) cu)<| RN co<| zZ (b:=ct) rfl (fun L=>?_) (fun L=>?_)
  ·have c:=zN L c
   refine zW (zF (cn _ _ ?_))
   obtain ⟨cv,cw,c⟩:=wJ c
   refine yH [8,14,15,65,66,67,68,69,70,71,72,73,74,75,76,77,78,79,80,81,82,83,84,85,86,87,88,89,90,91,92,93,94,95,96,97,98,99,100,101,102,103,104,105,106,107,108,109,110,111,112,113,114,115,116,117,118,119,120,121,122,123,124,125,126,127,128,129,130,131,132,133,134,135,136,137,138,139,140,141,142,143,144,145,146,147,148,149,150,151,152,153,154,155,156,157,158,159,160,161,162,163,164,165,166,167] (fun (g:Unit)=>[]) (fun g wl=>Hd O w wl S [f1 Rp.str v1 d.Phases,f1 gU h d.Moves,f1 gZ j d.Rules,f1 fM p q,.fz (.at 0 0 ((Fl.arr 7 Fl.str).f zM)),.fz (.gi 4),.blk u [v1,h,j] 26,.own (Rp.int .i64) k 3 x,.fz (.sl (Rp.sl (Rp.int .i64)) n y)]∧cv ()=some r) ?_ ?_
   ·skip
    refine yD ?_
    refine zB fun ie cx=>?_
    obtain ⟨au,c,cy⟩:=zD c
    refine yH [65,66,67,68,69,70,71,72,73,74,75,76,77,78,79,80,81,82,83,84,85,86,87,88,89,90,91,92] (fun (g:Unit)=>[(92,.bool au)]) (fun g wl=>Hd O w wl S [f1 Rp.str v1 d.Phases,f1 gU h d.Moves,f1 gZ j d.Rules,f1 fM p q,.fz (.at 0 0 ((Fl.arr 7 Fl.str).f zM)),.fz (.gi 4),.blk u [v1,h,j] 26,.own (Rp.int .i64) k 3 x,.fz (.sl (Rp.sl (Rp.int .i64)) n y)]) ?_ ?_
    ·skip
     refine zA ?_
     refine zH k<| zH (i6 m) ?_
     obtain ⟨av,M,c⟩:=zD c
     obtain ⟨ig,ih,cz,c0,c1,c2⟩:=bQ (H.item (i:=7) rfl) M
     obtain rfl:cz= [i6 av]:=c1
     refine zG (xA u38 sz3 c0 rfl (zX M).1 (zX M).2.1 rfl rfl)<| zG (yZ fK rfl (Cells.get c2 (i:=0) rfl)) ?_
     obtain ⟨c3,c4,c⟩:=zC c
     refine zG (zL (xN (a:=av) (b:=1) rfl rfl) c4) ?_
     obtain ⟨aw,c,c5⟩:=zD c
     refine dL 11 [70,71,72,73,74,75,76,77,78,79,80] [(80,.bool aw)] (fun wl=>Hd O w wl S [f1 Rp.str v1 d.Phases,f1 gU h d.Moves,f1 gZ j d.Rules,f1 fM p q,.fz (.at 0 0 ((Fl.arr 7 Fl.str).f zM)),.fz (.gi 4),.blk u [v1,h,j] 26,.own (Rp.int .i64) k 3 x,.fz (.sl (Rp.sl (Rp.int .i64)) n y)]) ?_ ?_
     ·skip
      refine yO (b:=c3) rfl rfl rfl (fun N=>?_) (fun N=>?_)
      ·have c:=zN N c
       refine yE ?_
       refine yE ?_
       refine yE ?_
       refine yE ?_
       refine yE ?_
       refine yE ?_
       refine yE ?_
       refine yE ?_
       refine yE ?_
       refine zG (yG (v:= .bool true) rfl rfl) ?_
       obtain rfl:=gJ c
       exact yA (zF (meet ⟨(zJ rfl zK),H.pick [0,1,2,3,4,5,6,7,8]⟩))
      have c:=zO N c
      refine zH (i6 o)<| zH k<| zH (i6 m) ?_
      obtain ⟨ax,P,c⟩:=zD c
      obtain ⟨ii,ij,c6,c7,c8,c9⟩:=bQ (H.item (i:=7) rfl) P
      obtain rfl:c6= [i6 ax]:=c8
      refine zG (xA u38 sz3 c7 rfl (zX P).1 (zX P).2.1 rfl rfl)<| zG (yZ fK rfl (Cells.get c9 (i:=0) rfl)) ?_
      obtain ⟨da,db,c⟩:=zC c
      refine zG (bY (a:=o) (b:=ax) rfl rfl db) ?_
      obtain ⟨dc,dd,c⟩:=zC c
      refine zG (xI (a:=da) (b:=1) rfl rfl dd)<| zH (i6 t) ?_
      obtain ⟨de,df,c⟩:=zC c
      refine zG (zL (xN (a:=dc) (b:=t) rfl rfl) df)<| zG (yF (v:= .bool de) rfl rfl) ?_
      obtain rfl:=gJ c
      exact yA (zF (meet ⟨(zJ rfl zK),H.pick [0,1,2,3,4,5,6,7,8]⟩))
     rintro ρ ik H
     have c:=c5
     refine yO (b:=aw) rfl rfl rfl (fun Q=>?_) (fun Q=>?_)
     ·have c:=zN Q c
      refine yE ?_
      refine yE ?_
      refine yE ?_
      refine yE ?_
      refine yE ?_
      refine yE ?_
      refine yE ?_
      refine yE ?_
      refine yE ?_
      refine yE ?_
      refine zG (yG (v:= .bool true) rfl rfl) ?_
      obtain rfl:=gJ c
      exact (yA (zF (meet ⟨(),(zJ rfl zK),H.pick [0,1,2,3,4,5,6,7,8]⟩)))
     have c:=zO Q c
     refine zH n<| zH (i6 m) ?_
     obtain ⟨dg,R,c⟩:=zD c
     obtain ⟨dh,di,il,im,dj,dk,dl,dm,dn⟩:=dC (H.item (i:=8) rfl) R
     obtain ⟨dp,rfl,dq⟩:=dk
     have H:=H.fzs [.at dh (di+m.toNat * 1) _,.sl (Rp.int .i64) dp dg] ⟨⟨dl,dm,dn⟩,dq,trivial⟩
     refine zG (xA u28 aCr dj rfl (zX R).1 (zX R).2.1 rfl rfl)<| zG (yZ mM rfl (Cells.get (H.item (i:=9) rfl).2.2 (i:=0) rfl)) ?_
     obtain ⟨dr,ds,c⟩:=zC c
     obtain ⟨io,ip,dt⟩:=SlF.len ((H.item (i:=10) rfl))
     refine zG (yK (xH u38 dt) (congrArg (Value.int .i64) ds))<| zH (i6 o)<| zH (i6 t) ?_
     obtain ⟨du,dv,c⟩:=zC c
     refine zG (bY (a:=o) (b:=t) rfl rfl dv) ?_
     obtain ⟨dw,dx,c⟩:=zC c
     refine zG (xI (a:=du) (b:=1) rfl rfl dx) ?_
     obtain ⟨dy,dz,c⟩:=zC c
     refine zG (zL (wI (a:=dr) (b:=dw) rfl rfl) dz)<| zG (yF (v:= .bool dy) rfl rfl) ?_
     obtain rfl:=gJ c
     exact (yA (zF (meet ⟨(),(zJ rfl zK),H.pick [0,1,2,3,4,5,6,7,8]⟩)))
    rintro _ ρ iq H
    have c:=cy
    refine zZ (b:=au) rfl (fun T=>?_) (fun T=>?_)
    ·have c:=zN T c
     refine zB fun ir d0=>?_
     obtain ⟨ay,c,d1⟩:=zD c
     refine yH [93,94,95,96,97,98,99,100,101,102,103,104,105,106,107,108,109] (fun (g:Unit)=>[(109,.bool ay)]) (fun g wl=>Hd O w wl S [f1 Rp.str v1 d.Phases,f1 gU h d.Moves,f1 gZ j d.Rules,f1 fM p q,.fz (.at 0 0 ((Fl.arr 7 Fl.str).f zM)),.fz (.gi 4),.blk u [v1,h,j] 26,.own (Rp.int .i64) k 3 x,.fz (.sl (Rp.sl (Rp.int .i64)) n y)]) ?_ ?_
     ·skip
      refine zA ?_
      refine zH k<| zH (i6 m) ?_
      obtain ⟨az,U,c⟩:=zD c
      obtain ⟨it,iu,d2,d3,d4,d5⟩:=bQ (H.item (i:=7) rfl) U
      obtain rfl:d2= [i6 az]:=d4
      refine zG (xA u38 sz3 d3 rfl (zX U).1 (zX U).2.1 rfl rfl)<| zG (yZ fK rfl (Cells.get d5 (i:=0) rfl)) ?_
      obtain ⟨d6,d7,c⟩:=zC c
      refine zG (zL (bZ (a:=az) (b:=0) rfl rfl) d7)<| yO (b:=d6) rfl rfl rfl (fun V=>?_) (fun V=>?_)
      ·have c:=zN V c
       refine zH n<| zH (i6 m) ?_
       obtain ⟨d8,X,c⟩:=zD c
       obtain ⟨d9,ea,iv,iw,eb,ec,ed,ee,ef⟩:=dC (H.item (i:=8) rfl) X
       obtain ⟨eg,rfl,eh⟩:=ec
       have H:=H.fzs [.at d9 (ea+m.toNat * 1) _,.sl (Rp.int .i64) eg d8] ⟨⟨ed,ee,ef⟩,eh,trivial⟩
       refine zG (xA u28 aCr eb rfl (zX X).1 (zX X).2.1 rfl rfl)<| zG (yZ mM rfl (Cells.get (H.item (i:=9) rfl).2.2 (i:=0) rfl)) ?_
       obtain ⟨ei,ej,c⟩:=zC c
       obtain ⟨iy,iz,ek⟩:=SlF.len ((H.item (i:=10) rfl))
       refine zG (yK (xH u38 ek) (congrArg (Value.int .i64) ej))<| zH (i6 o)<| zH (i6 t) ?_
       obtain ⟨el,em,c⟩:=zC c
       refine zG (bY (a:=o) (b:=t) rfl rfl em) ?_
       obtain ⟨en,eo,c⟩:=zC c
       refine zG (xI (a:=el) (b:=1) rfl rfl eo) ?_
       obtain ⟨ep,er,c⟩:=zC c
       refine zG (zL (wI (a:=ei) (b:=en) rfl rfl) er)<| zG (yG (v:= .bool ep) rfl rfl) ?_
       obtain rfl:=gJ c
       exact (yA (zF (meet ⟨(),(zJ rfl zK),H.pick [0,1,2,3,4,5,6,7,8]⟩)))
      have c:=zO V c
      refine yE ?_
      refine yE ?_
      refine yE ?_
      refine yE ?_
      refine yE ?_
      refine yE ?_
      refine yE ?_
      refine yE ?_
      refine yE ?_
      refine yE ?_
      refine zG (yF (v:= .bool false) rfl rfl) ?_
      obtain rfl:=gJ c
      exact (yA (zF (meet ⟨(),(zJ rfl zK),H.pick [0,1,2,3,4,5,6,7,8]⟩)))
     rintro _ ρ i1 H
     have c:=d1
     refine zZ (b:=ay) rfl (fun Y=>?_) (fun Y=>?_)
     ·have c:=zN Y c
      refine zB fun i2 es=>zA<| zI (.bool false)<| RN es ?_
      obtain rfl:=gJ c
      refine (zY (zT (zT (yC (zT (zT (yC (zT (fB (v1:= .bool false) rfl rfl ?_)))))))))
      exact ⟨rfl,H.pick []⟩
     have c:=zO Y c
     refine zW (zF (d0 _ _ ?_))
     exact (xG (yI (yT (zF (meet ⟨(),zK,⟨H.pick [0,1,2,3,4,5,6,7,8],c⟩⟩)))))
    have c:=zO T c
    refine zW (zF (cx _ _ ?_))
    refine zB fun i3 et=>?_
    have eu:=H
    have H:=H.rebase
    have i4:=H
    refine xX H [0,1,2,3,4,5,6,7,8,9,10,11,12,13,14,15] (kz [1,0,0,0,0,0,1,0,0,0,2,0,0,0,0,0]) mixed ?_
    refine MxM.xZ oS rfl rfl rfl (fun s l=>yK (yJ (cs:=[v1,h,j]) mZ rfl rZ rfl (Blk.cells ((H.sees l).item (i:=6) rfl))) rfl) ?_
    refine XM p<| XM (i6 o)<| XM k<| XM (i6 m) ?_
    obtain ⟨a0,Z,c⟩:=zD c
    obtain ⟨i5,i7,ew,ex,ey,ez⟩:=bQ (H.item (i:=7) rfl) Z
    obtain rfl:ew= [i6 a0]:=ey
    refine XP (fun _ _=>xA u38 sz3 ex rfl (zX Z).1 (zX Z).2.1 rfl rfl)<| MxM.xZ oS rfl rfl rfl (fun s l=>yZ fK rfl (Cells.get (ez.sees l) (i:=0) rfl)) ?_
    obtain ⟨e0,e1,c⟩:=zC c
    refine XP (fun _ _=>bY (a:=o) (b:=a0) rfl rfl e1) ?_
    obtain ⟨e2,e3,c⟩:=zC c
    refine XP (fun _ _=>xI (a:=e0) (b:=1) rfl rfl e3)<| XM (i6 o) ?_
    obtain ⟨⟨i8,C⟩,e4,c⟩:=zD c
    refine MxM.XL_newC oS rfl rfl rfl (fun s l=>zV en15 rfl) (fun s l=>Fbgw d q e2 o v1 h j p _ e4 _ _ _ ((H.sees l).enter [] [0,1,2,3])) ?_
    rintro s _ i9 l ⟨B,rfl,a1⟩
    have H:=(H.sees l).back1 [0,1,2,3] rfl a1
    refine ⟨_,rfl,(a1.only:Only [] _ _).below,?_⟩
    refine XM (.tuple #[B,i6 C])<| XP (fun _ _=>xR (v:=B) rfl rfl)<| XP (fun _ _=>xR (v:=i6 C) rfl rfl)<| XP (fun _ _=>xO (v:=B) rfl)<| XP (fun _ _=>xO (v:=i6 C) rfl)<| MxM.xE fun ja hS=>?_
    have H:=H.sees hS
    have H:=eu.rejoin H
    refine (zF (et _ _ ?_))
    obtain ⟨a2,c,e5⟩:=zD c
    refine yH [124,125,126,127,128,129,130,131,132,133,134,135,136,137,138,139,140,141,142,143,144,145,146,147,148,149,150,151,152,153,154,155,156,157,158,159,160,161,162,163,164,165,166,167] (fun (g:Unit)=>[(167,.bool a2)]) (fun g wl=>Hd O w wl S [f1 Rp.str v1 d.Phases,f1 gU h d.Moves,f1 gZ j d.Rules,f1 fM p q,.fz (.at 0 0 ((Fl.arr 7 Fl.str).f zM)),.fz (.gi 4),.blk u [v1,h,j] 26,.own (Rp.int .i64) k 3 x,.fz (.sl (Rp.sl (Rp.int .i64)) n y)]) ?_ ?_
    ·skip
     have D:=H
     have H:=H.rebase
     have jb:=H
     refine xX H [0,1,2,3,4,5,6,7,8,9,10,11,12,13,14,15,16,17,18,19,20,21,22,23,24,25,26,27,28,29,30,31,32,33,34,35,36,37,38,39,40,41,42,43] (kz [0,0,0,0,0,0,0,0,0,0,0,0,0,1,0,0,0,0,1,0,0,0,0,0,0,1,0,0,0,1,0,0,1,0,0,0,1,0,0,0,0,1,0,0]) mixed ?_
     refine XM (i6 C) ?_
     obtain ⟨e6,e7,c⟩:=zC c
     refine XP (fun _ _=>zL (wI (a:=C) (b:=0) rfl rfl) e7)<| MxM.XL_splitb (b:=e6) rfl rfl rfl rfl (fun aa=>?_) (fun aa=>?_)
     ·have c:=zN aa c
      refine XO<| XO<| XO<| XO<| XO<| XP (fun _ _=>yG (v:= .bool true) rfl rfl)<| XM (.bool true)<| XO<| XO<| XO<| MxM.XL_offr oS rfl rfl rfl<| XO<| XO<| XO<| XO<| MxM.XL_offr oS rfl rfl rfl<| XO<| XP (fun _ _=>yG (v:= .bool true) rfl rfl)<| XM (.bool true)<| XO<| XO<| XO<| MxM.XL_offr oS rfl rfl rfl<| XO<| XO<| XO<| MxM.XL_offr oS rfl rfl rfl ?_
      refine XO<| XO<| MxM.XL_offr oS rfl rfl rfl ?_
      refine XO<| XO<| XO<| MxM.XL_offr oS rfl rfl rfl ?_
      refine XO<| XO<| XO<| XO<| MxM.XL_offr oS rfl rfl rfl ?_
      refine XO<| XP (fun _ _=>yG (v:= .bool true) rfl rfl)<| MxM.xE fun jc hS=>?_
      have H:=H.sees hS
      have H:=D.rejoin H
      obtain rfl:=gJ c
      exact (zF (meet ⟨(),(zJ rfl zK),H.pick [0,1,2,3,4,5,6,7,8]⟩))
     have c:=zO aa c
     refine XM B ?_
     obtain ⟨e8,e9,c⟩:=zC c
     obtain ⟨jd,je,fa⟩:=SlF.len ((H.item (i:=9) rfl))
     refine XP (fun _ _=>yK (xH u28 fa) (congrArg (Value.int .i64) e9))<| XM k ?_
     obtain ⟨fb,fc,c⟩:=zC c
     obtain ⟨jf,jg,fd⟩:=Sr.len (Sr.of_own (H.item (i:=7) rfl))
     refine XP (fun _ _=>yK (xH u38 fd) (congrArg (Value.int .i64) fc)) ?_
     obtain ⟨a3,fe,c⟩:=zC c
     refine XP (fun _ _=>zL (wI (a:=e8) (b:=fb) rfl rfl) fe)<| XP (fun _ _=>yF (v:= .bool a3) rfl rfl)<| MxM.XL_splitb (b:=a3) rfl rfl rfl rfl (fun ab=>?_) (fun ab=>?_)
     ·have c:=zN ab c
      refine XO<| XO<| XO<| MxM.XL_offr oS rfl rfl rfl ?_
      refine XO<| XO<| XO<| XO<| MxM.XL_offr oS rfl rfl rfl ?_
      refine XO<| XP (fun _ _=>yG (v:= .bool true) rfl rfl)<| XM (.bool true)<| XO<| XO<| XO<| MxM.XL_offr oS rfl rfl rfl<| XO<| XO<| XO<| MxM.XL_offr oS rfl rfl rfl<| XO<| XO<| MxM.XL_offr oS rfl rfl rfl<| XO<| XO<| XO<| MxM.XL_offr oS rfl rfl rfl<| XO<| XO<| XO<| XO<| MxM.XL_offr oS rfl rfl rfl<| XO<| XP (fun _ _=>yG (v:= .bool true) rfl rfl) ?_
      refine MxM.xE fun jh hS=>?_
      have H:=H.sees hS
      have H:=D.rejoin H
      obtain rfl:=gJ c
      exact (zF (meet ⟨(),(zJ rfl zK),H.pick [0,1,2,3,4,5,6,7,8]⟩))
     have c:=zO ab c
     refine XM B<| XM (i6 m) ?_
     obtain ⟨ff,ac,c⟩:=zD c
     obtain ⟨fg,fh,ji,jj,fi,fj,fk,fm,fn⟩:=dC (H.item (i:=9) rfl) ac
     obtain ⟨fo,rfl,fp⟩:=fj
     have H:=H.fzs [.at fg (fh+m.toNat * 1) _,.sl (Rp.int .i64) fo ff] ⟨⟨fk,fm,fn⟩,fp,trivial⟩
     refine XP (fun _ _=>xA u28 aCr fi rfl (zX ac).1 (zX ac).2.1 rfl rfl)<| MxM.xZ oS rfl rfl rfl (fun s l=>yZ mM rfl (Cells.get ((H.sees l).item (i:=10) rfl).2.2 (i:=0) rfl)) ?_
     obtain ⟨fq,fr,c⟩:=zC c
     obtain ⟨jk,jl,fs⟩:=SlF.len ((H.item (i:=11) rfl))
     refine XP (fun _ _=>yK (xH u38 fs) (congrArg (Value.int .i64) fr))<| XM k<| XM (i6 m) ?_
     obtain ⟨a4,ad,c⟩:=zD c
     obtain ⟨jm,jn,ft,fu,fv,fw⟩:=bQ (H.item (i:=7) rfl) ad
     obtain rfl:ft= [i6 a4]:=fv
     refine XP (fun _ _=>xA u38 sz3 fu rfl (zX ad).1 (zX ad).2.1 rfl rfl)<| MxM.xZ oS rfl rfl rfl (fun s l=>yZ fK rfl (Cells.get (fw.sees l) (i:=0) rfl)) ?_
     obtain ⟨a5,fx,c⟩:=zC c
     refine XP (fun _ _=>zL (wI (a:=fq) (b:=a4) rfl rfl) fx)<| XP (fun _ _=>yF (v:= .bool a5) rfl rfl)<| MxM.XL_splitb (b:=a5) rfl rfl rfl rfl (fun ae=>?_) (fun ae=>?_)
     ·have c:=zN ae c
      refine XO<| XO<| XO<| MxM.XL_offr oS rfl rfl rfl ?_
      refine XO<| XO<| XO<| MxM.XL_offr oS rfl rfl rfl ?_
      refine XO<| XO<| MxM.XL_offr oS rfl rfl rfl ?_
      refine XO<| XO<| XO<| MxM.XL_offr oS rfl rfl rfl ?_
      refine XO<| XO<| XO<| XO<| MxM.XL_offr oS rfl rfl rfl ?_
      refine XO<| XP (fun _ _=>yG (v:= .bool true) rfl rfl)<| MxM.xE fun jo hS=>?_
      have H:=H.sees hS
      have H:=D.rejoin H
      obtain rfl:=gJ c
      exact (zF (meet ⟨(),(zJ rfl zK),H.pick [0,1,2,3,4,5,6,7,8]⟩))
     have c:=zO ae c
     refine XM B<| XM (i6 m) ?_
     obtain ⟨fy,af,c⟩:=zD c
     obtain ⟨f0,f4,jp,jq,f5,f6,f7,f8,f9⟩:=dC (H.item (i:=9) rfl) af
     obtain ⟨ga,rfl,gb⟩:=f6
     have H:=H.fzs [.at f0 (f4+m.toNat * 1) _,.sl (Rp.int .i64) ga fy] ⟨⟨f7,f8,f9⟩,gb,trivial⟩
     refine XP (fun _ _=>xA u28 aCr f5 rfl (zX af).1 (zX af).2.1 rfl rfl)<| MxM.xZ oS rfl rfl rfl (fun s l=>yZ mM rfl (Cells.get ((H.sees l).item (i:=12) rfl).2.2 (i:=0) rfl))<| XM k<| XM (i6 m) ?_
     obtain ⟨a6,ag,c⟩:=zD c
     obtain ⟨jr,js,gc,gd,ge,gf⟩:=bQ (H.item (i:=7) rfl) ag
     obtain rfl:gc= [i6 a6]:=ge
     refine XP (fun _ _=>xA u38 sz3 gd rfl (zX ag).1 (zX ag).2.1 rfl rfl)<| MxM.xZ oS rfl rfl rfl (fun s l=>yZ fK rfl (Cells.get (gf.sees l) (i:=0) rfl)) ?_
     obtain ⟨gg,gh,c⟩:=zC c
     refine XP (fun _ _=>bY (a:=a6) (b:=1) rfl rfl gh) ?_
     obtain ⟨a7,ah,c⟩:=zD c
     obtain ⟨gj,gl,jt,gm,gn,go,gp,gq,gr⟩:=dC (H.item (i:=13) rfl) ah
     obtain rfl:gm= [i6 a7]:=go
     have H:=H.fz (.at gj (gl+gg.toNat * 1) _) ⟨gp,gq,gr⟩
     refine XP (fun _ _=>xA u38 sz3 gn rfl (zX ah).1 (zX ah).2.1 rfl rfl)<| MxM.xZ oS rfl rfl rfl (fun s l=>yZ fK rfl (Cells.get ((H.sees l).item (i:=14) rfl).2.2 (i:=0) rfl))<| XM n<| XM (i6 m) ?_
     obtain ⟨gs,ai,c⟩:=zD c
     obtain ⟨gt,gu,ju,jv,gv,gw,gx,gy,gz⟩:=dC (H.item (i:=8) rfl) ai
     obtain ⟨g0,rfl,g1⟩:=gw
     have H:=H.fzs [.at gt (gu+m.toNat * 1) _,.sl (Rp.int .i64) g0 gs] ⟨⟨gx,gy,gz⟩,g1,trivial⟩
     refine XP (fun _ _=>xA u28 aCr gv rfl (zX ai).1 (zX ai).2.1 rfl rfl)<| MxM.xZ oS rfl rfl rfl (fun s l=>yZ mM rfl (Cells.get ((H.sees l).item (i:=15) rfl).2.2 (i:=0) rfl))<| XM (i6 o)<| XM (i6 t) ?_
     obtain ⟨g2,g3,c⟩:=zC c
     refine XP (fun _ _=>bY (a:=o) (b:=t) rfl rfl g3) ?_
     obtain ⟨a8,aj,c⟩:=zD c
     obtain ⟨g4,g5,jw,g6,g7,g8,g9,ha,hb⟩:=dC (H.item (i:=16) rfl) aj
     obtain rfl:g6= [i6 a8]:=g8
     have H:=H.fz (.at g4 (g5+g2.toNat * 1) _) ⟨g9,ha,hb⟩
     refine XP (fun _ _=>xA u38 sz3 g7 rfl (zX aj).1 (zX aj).2.1 rfl rfl)<| MxM.xZ oS rfl rfl rfl (fun s l=>yZ fK rfl (Cells.get ((H.sees l).item (i:=17) rfl).2.2 (i:=0) rfl)) ?_
     obtain ⟨hc,he,c⟩:=zC c
     refine XP (fun _ _=>zL (wI (a:=a7) (b:=a8) rfl rfl) he)<| XP (fun _ _=>yF (v:= .bool hc) rfl rfl)<| MxM.xE fun jx hS=>?_
     have H:=H.sees hS
     have H:=D.rejoin H
     obtain rfl:=gJ c
     exact (zF (meet ⟨(),(zJ rfl zK),H.pick [0,1,2,3,4,5,6,7,8]⟩))
    rintro _ ρ jy H
    have c:=e5
    refine zZ (b:=a2) rfl (fun ak=>?_) (fun ak=>?_)
    ·have c:=zN ak c
     refine zB fun jz hf=>zA<| zI (.bool false)<| RN hf ?_
     obtain rfl:=gJ c
     refine (zY (yC (zT (zT (yC (zT (fB (v1:= .bool false) rfl rfl ?_)))))))
     exact ⟨rfl,H.pick []⟩
    have c:=zO ak c
    exact (zW (yL (zF (meet ⟨(),zK,⟨H.pick [0,1,2,3,4,5,6,7,8],c⟩⟩))))
   rintro _ ρ j0 ⟨H,c⟩
   have c:=wM cw c
   refine zA ?_
   refine zH (i6 m) ?_
   obtain ⟨a9,hg,c⟩:=zC c
   refine zG (xI (a:=m) (b:=1) rfl rfl hg)<| zI (i6 a9) ?_
   exact (yA (zF (meet ⟨(cm,a9),(zJ rfl zK),⟨H.pick [0,1,2,3,4,5,6,7,8],c⟩,Nat.lt_succ_self _⟩)))
  have c:=zO L c
  exact (xG (yI (yI (yT (zF (meet ⟨(),zK,⟨H.pick [4,5],c⟩⟩))))))
 rintro _ ρ j1 ⟨H,c⟩
 have c:=wM ci c
 refine zB fun j2 hh=>zA ?_
 have hi:=H
 obtain ⟨ba,hj,c⟩:=zD c
 refine yB rfl rfl (zV en20 rfl) (Fblw _ hj _ _ _ (H.enter [] [0,1])) ?_
 rintro _ j3 ⟨rfl,hk⟩
 have H:=hi.step (hk.only:Only [] _ _)
 refine ⟨_,rfl,?_⟩
 refine zI (.bool ba)<| RN hh ?_
 obtain rfl:=gJ c
 refine (zY (fB (v1:= .bool ba) rfl rfl ?_))
 exact ⟨rfl,H.pick []⟩
end Go.Proofs.YtckmiljbaejijaaGreatDoor.L
