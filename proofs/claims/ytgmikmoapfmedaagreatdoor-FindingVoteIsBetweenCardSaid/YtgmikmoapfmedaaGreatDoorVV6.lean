/- Walks: what each function computes, for every argument; no condition but those that stand in the statements. -/
import Derived.Test.YtgmikmoapfmedaaGreatDoorVV0
import Derived.Test.YtgmikmoapfmedaaGreatDoorLfT
import Derived.Test.YtgmikmoapfmedaaGreatDoorVV3
import Derived.Test.YtgmikmoapfmedaaGreatDoorVV4
import Derived.Test.YtgmikmoapfmedaaGreatDoorVV5
namespace Go.Proofs.YtgmikmoapfmedaaGreatDoor.L
open Go.RowKit Go.OB Go.Lf
set_option maxHeartbeats 4000000
set_option maxRecDepth 100000 in
theorem Fbmw (n:List gV)(p:List Str)(F:Int)(q:Int)(u:Int)(v1:Value)(m:Value)(r:Bool)(c:Fbm n p F q u=some r)(O S:List Nat)(w:World)(H:Hd O w w S [f1 fD v1 n,f1 Rp.str m p,.fz (.at 1 0 ((Fl.arr 7 Fl.str).f zW)),.fz (.gi 5)]):
  Cl 4 [v1,m,i6 F,i6 q,i6 u] w fun e o=>e= .returned (.bool r)∧Hd O w o S []:=by
 unfold Fbm at c
 refine CW 185 Tryz.func4 ?_
 refine zB fun K7 b3=>zA<| zI (.bool false)<| RN b3<| zB fun K8 b4=>zA<| zH v1<| zH m<| zH (i6 F)<| zH (i6 q)<| zH (i6 u) ?_
 obtain ⟨⟨d,G,I⟩,b5,c⟩:=zD c
 refine zT rfl rfl (zO en11 rfl) (Faqw n p F q u v1 m _ b5 _ _ _ (H.enter [] [0,1])) ?_
 rintro _ iv ⟨k,B,rfl,b6⟩
 have H:=H.back1 [0,1] rfl b6
 refine ⟨_,rfl,?_⟩
 refine zH (.tuple #[.agg [sb d.Name,i6 d.Series.Den,k,i6 d.Long].toArray,B,i6 I])<| zG (xA (v:= .agg [sb d.Name,i6 d.Series.Den,k,i6 d.Long].toArray) rfl rfl)<| zG (xA (v:=B) rfl rfl)<| zG (xA (v:=i6 I) rfl rfl)<| yT rfl rfl (xE mQ H) ?_
 rintro _ iw ⟨s,rfl,H⟩
 refine xB rfl (yQ (vs:=[sb d.Name,i6 d.Series.Den,k,i6 d.Long]) H 6 rfl cO rfl rfl rfl ⟨rfl,rfl,(dW (H.item (i:=4) rfl)),rfl,trivial⟩ rfl) ?_
 rintro J H
 refine zI B<| zI (i6 I)<| RN b4<| zB fun ix b7=>zB fun iy b8=>zA<| zH (i6 I) ?_
 obtain ⟨b9,ca,c⟩:=zC c
 refine zG (zL (eQ (a:=I) (b:=0) rfl rfl) ca)<| RN b8<| yC (b:=b9) rfl (fun U=>?_) (fun U=>?_)
 ·have c:=zU U c
  refine zB fun iz cb=>zA ?_
  have cc:=H
  obtain ⟨a7,cd,c⟩:=zD c
  refine zT rfl rfl (zO en10 rfl) (Falw _ cd _ _ _ (H.enter [] [2,3])) ?_
  rintro _ i0 ⟨rfl,ce⟩
  have H:=cc.step (ce.only:Only [] _ _)
  refine ⟨_,rfl,?_⟩
  refine zI (.bool a7)<| RN cb ?_
  obtain rfl:=gI c
  refine (zX (zS (fB (v1:= .bool a7) rfl rfl ?_)))
  exact ⟨rfl,H.pick []⟩
 have c:=zV U c
 refine zQ (zF (b7 _ _ ?_))
 refine zB fun i1 cf=>?_
 have cg:=H
 have H:=H.rebase
 have ch:=H
 have a8:Hd (O++bks (rest [5,6] [f1 fD v1 n,f1 Rp.str m p,.fz (.at 1 0 ((Fl.arr 7 Fl.str).f zW)),.fz (.gi 5),f1 gW k d.Series.Samples,.own (Rp.int .i64) B 3 G,.blk s [sb d.Name,i6 d.Series.Den,k,i6 d.Long] 41])) J J (bks (Go.Lf.pick ([5,6]++ [0,1,2,3,4]) [f1 fD v1 n,f1 Rp.str m p,.fz (.at 1 0 ((Fl.arr 7 Fl.str).f zW)),.fz (.gi 5),f1 gW k d.Series.Samples,.own (Rp.int .i64) B 3 G,.blk s [sb d.Name,i6 d.Series.Den,k,i6 d.Long] 41])) [.own (Rp.int .i64) B 3 G,.blk s [sb d.Name,i6 d.Series.Den,k,i6 d.Long] 41,f1 fD v1 n,f1 Rp.str m p,.fz (.at 1 0 ((Fl.arr 7 Fl.str).f zW)),.fz (.gi 5),f1 gW k d.Series.Samples]:=H.enter [5,6] [0,1,2,3,4]
 refine WP_forkM H a8 [0,1,2,3,4,5,6,7,8,9,11,12,13,10] 19 14 [15,16,17,18] [20,21,22] [.pure,.pure,.pure,.read,.pure,.pure,.read,.pure,.pure,.read,.mk (World.heap J).size,.pure,.pure,.pure,.eff,.pure,.pure,.pure,.pure,.mk (World.heap J).size,.eff,.pure,.pure] ⟨trivial,trivial,trivial,trivial,trivial,trivial,trivial,trivial,trivial,trivial,rfl,trivial,trivial,trivial,trivial,trivial,trivial,trivial,trivial,rfl,trivial,trivial,trivial,trivial⟩ mixed (by kernel_rfl) (by kernel_rfl) (by kernel_rfl) (by kernel_rfl) (by kernel_rfl) (by decide) ?_
 have H:=Hd.hm a8
 refine XM v1<| XM m ?_
 obtain ⟨C,V,c⟩:=zD c
 obtain ⟨a9,ba,i2,ci,cj,ck,cl,cm,cn⟩:=xU (H.item (i:=3) rfl) V
 obtain rfl:ci= [sb C]:=ck
 have H:=H.fz (.at a9 (ba+(2:Int).toNat * 1) _) ⟨cl,cm,cn⟩
 refine XP (fun _ _=>yU u36 sz9 cj rfl (zN V).1 (zN V).2.1 rfl rfl)<| MxM.xN oS rfl rfl rfl (fun o j=>yZ dQ rfl (Cells.get ((H.sees j).item (i:=7) rfl).2.2 (i:=0) rfl))<| XM m ?_
 obtain ⟨A,X,c⟩:=zD c
 obtain ⟨bb,bc,i3,co,cp,cq,cr,ct,cu⟩:=xU (H.item (i:=3) rfl) X
 obtain rfl:co= [sb A]:=cq
 have H:=H.fz (.at bb (bc+(0:Int).toNat * 1) _) ⟨cr,ct,cu⟩
 refine XP (fun _ _=>yU u36 sz9 cp rfl (zN X).1 (zN X).2.1 rfl rfl)<| MxM.xN oS rfl rfl rfl (fun o j=>yZ dQ rfl (Cells.get ((H.sees j).item (i:=8) rfl).2.2 (i:=0) rfl))<| XM m ?_
 obtain ⟨z,Y,c⟩:=zD c
 obtain ⟨bd,be,i4,cv,cw,cx,cy,cz,c0⟩:=xU (H.item (i:=3) rfl) Y
 obtain rfl:cv= [sb z]:=cx
 have H:=H.fz (.at bd (be+(1:Int).toNat * 1) _) ⟨cy,cz,c0⟩
 refine XP (fun _ _=>yU u36 sz9 cw rfl (zN Y).1 (zN Y).2.1 rfl rfl)<| MxM.xN oS rfl rfl rfl (fun o j=>yZ dQ rfl (Cells.get ((H.sees j).item (i:=9) rfl).2.2 (i:=0) rfl))<| XM (i6 F)<| XM (i6 q)<| XM (i6 u) ?_
 obtain ⟨i5,c1,c⟩:=zC c
 subst c1
 refine H.bs_rule (r:=Rp.str) (xl:=[C,A,z]) (cs:=[sb C,sb A,sb z]) rfl rfl rfl rfl u36 el9 (by decide) (by decide) rfl (fP (vs:=[sb C,sb A,sb z]) (by decide) rfl rfl ⟨rfl,rfl,rfl,trivial⟩ rfl) ⟨[sb C],[sb A,sb z],rfl,rfl,⟨[sb A],[sb z],rfl,rfl,⟨[sb z],[],rfl,rfl,rfl⟩⟩⟩ ?_
 rintro Z i7 i8 H
 refine MxM.XL_nil fun i9 hS=>?_
 have H:=H.sees hS
 obtain ⟨h,bf,c⟩:=zD c
 refine MxM.XL_join (du:=14) (dv:=50) (fun g1 g2 wl=> ∃(t:Nat) (l:Value) (D:Value),gZ t=g1∧ .tuple #[.agg [sb h.1.Name,i6 h.1.Series.Den,l,i6 h.1.Long].toArray,D,i6 h.2.2]=g2∧Hd (O++bks (rest [5,6] [f1 fD v1 n,f1 Rp.str m p,.fz (.at 1 0 ((Fl.arr 7 Fl.str).f zW)),.fz (.gi 5),f1 gW k d.Series.Samples,.own (Rp.int .i64) B 3 G,.blk s [sb d.Name,i6 d.Series.Den,k,i6 d.Long] 41])) J wl (bks (Go.Lf.pick ([5,6]++ [0,1,2,3,4]) [f1 fD v1 n,f1 Rp.str m p,.fz (.at 1 0 ((Fl.arr 7 Fl.str).f zW)),.fz (.gi 5),f1 gW k d.Series.Samples,.own (Rp.int .i64) B 3 G,.blk s [sb d.Name,i6 d.Series.Den,k,i6 d.Long] 41])) [.own (Rp.int .i64) B 3 G,.blk s [sb d.Name,i6 d.Series.Den,k,i6 d.Long] 41,f1 fD v1 n,f1 Rp.str m p,.fz (.at 1 0 ((Fl.arr 7 Fl.str).f zW)),.fz (.gi 5),f1 gW k d.Series.Samples,.fz (.at a9 (ba+(2:Int).toNat * 1) [sb C]),.fz (.at bb (bc+(0:Int).toNat * 1) [sb A]),.fz (.at bd (be+(1:Int).toNat * 1) [sb z]),f1 Rp.str Z ([C,A,z]:List Str),.blk t [.string (bs []),i6 0,.slice none 0 0,i6 0] 41,f1 gW l h.1.Series.Samples,.own (Rp.int .i64) D 3 h.2.1]) ?_ ?_ ?_
 ·skip
  refine H.alloc_rule rfl rfl rfl rfl mQ ?_
  rintro t ja H
  have H:=H.hd
  have H:=H.freeze (i:=10) rfl
  refine MxM.XL_effC oS rfl rfl rfl (fun o j=>zO en11 rfl) (fun o j=>Faqw n ([C,A,z]:List Str) F q u v1 Z _ bf _ _ _ ((H.sees j).enter [] [2,10])) ?_
  rintro o _ jb j ⟨l,D,rfl,c4⟩
  have H:=(H.sees j).back1 [2,10] rfl c4
  refine ⟨_,rfl,H.only,?_⟩
  refine MxM.XL_nil fun jc hS=>?_
  have H:=H.sees hS
  exact ⟨_,_,rfl,H.only,t,l,D,rfl,rfl,H⟩
 ·skip
  have H:=H.hd
  have H:=H.freeze (i:=10) rfl
  refine MxM.XL_effCA oS rfl rfl rfl (fun o j=>zO en11 rfl) (fun o j=>Faqw n ([C,A,z]:List Str) F q u v1 Z _ bf _ _ _ ((H.sees j).enter [] [2,10])) ?_
  rintro o _ jd j ⟨c5,c6,rfl,c7⟩
  have H:=(H.sees j).back1 [2,10] rfl c7
  refine ⟨_,rfl,H.only,?_⟩
  refine H.alloc_ruleA rfl rfl rfl mQ ?_
  rintro _ c8 je H
  refine MxM.XL_nil fun jf hS=>?_
  have H:=H.sees hS
  have H:=H.pick [0,1,2,3,4,5,6,7,8,9,10,13,11,12]
  exact ⟨_,_,MxM.upd_comm _ (by decide) _ _,H.only,c8,c5,c6,rfl,rfl,H⟩
 rintro M' _ _ jg ⟨t,l,D,rfl,rfl,H⟩
 refine XM (.tuple #[.agg [sb h.1.Name,i6 h.1.Series.Den,l,i6 h.1.Long].toArray,D,i6 h.2.2])<| XP (fun _ _=>xA (v:= .agg [sb h.1.Name,i6 h.1.Series.Den,l,i6 h.1.Long].toArray) rfl rfl)<| XP (fun _ _=>xA (v:=D) rfl rfl)<| XP (fun _ _=>xA (v:=i6 h.2.2) rfl rfl)<| MxM.XL_nil fun jh hS=>?_
 have H:=H.sees hS
 have H:=ch.back [5,6] [0,1,2,3,4] rfl H
 have H:Hd _ _ _ _ [_,_,_,_,_,_,_,_,_,_,_,_,_,_,_,_,_,_,_]:=H
 have H:Hd _ _ _ _ [_,_,_,_,_,_,_,_,_,_,_,_,_,_]:=H.pick [5,6,7,8,9,10,11,12,13,14,15,16,17,18]
 refine ⟨H.only,?_⟩
 refine MxM.XL_exU oS rfl rfl (fun o j=>yQ (vs:=[sb h.1.Name,i6 h.1.Series.Den,l,i6 h.1.Long]) (H.sees j) 11 rfl cO rfl rfl rfl ⟨rfl,rfl,(dW ((H.sees j).item (i:=12) rfl)),rfl,trivial⟩ rfl) ?_
 rintro o ji j H
 refine ⟨H.only,?_⟩
 refine XP (fun _ _=>dU (v:=D) rfl)<| XP (fun _ _=>dU (v:=i6 h.2.2) rfl)<| MxM.XL_nil fun jj hS=>?_
 have H:=H.sees hS
 have H:=cg.rejoin H
 refine (zF (cf _ _ ?_))
 have H:Hd _ _ _ _ [_,_,_,_,_,_,_,_]:=H.pick [1,2,3,4,5,6,11,12]
 refine zB fun jk c9=>?_
 obtain ⟨bg,c,da⟩:=zD c
 refine yI [54,55,56,57,58,59,60,61,62,63,64,65,66,67,68,69,70,71,72,73,74,75,76,77] (fun (g:Unit)=>[(77,.bool bg)]) (fun g wl=>Hd O w wl S [.blk s [sb d.Name,i6 d.Series.Den,k,i6 d.Long] 41,f1 gW k d.Series.Samples,f1 fD v1 n,f1 Rp.str m p,.fz (.at 1 0 ((Fl.arr 7 Fl.str).f zW)),.fz (.gi 5),.blk t [sb h.1.Name,i6 h.1.Series.Den,l,i6 h.1.Long] 41,f1 gW l h.1.Series.Samples]) ?_ ?_
 ·skip
  refine zA ?_
  refine zH (i6 h.2.2) ?_
  obtain ⟨db,dc,c⟩:=zC c
  refine zG (zL (eQ (a:=h.2.2) (b:=0) rfl rfl) dc) ?_
  obtain ⟨bh,c,dd⟩:=zD c
  refine eH 11 [56,57,58,59,60,61,62,63,64,65,66] [(66,.bool bh)] (fun wl=>Hd O w wl S [.blk s [sb d.Name,i6 d.Series.Den,k,i6 d.Long] 41,f1 fD v1 n,f1 Rp.str m p,.fz (.at 1 0 ((Fl.arr 7 Fl.str).f zW)),.fz (.gi 5),f1 gW k d.Series.Samples,.blk t [sb h.1.Name,i6 h.1.Series.Den,l,i6 h.1.Long] 41,f1 gW l h.1.Series.Samples]) ?_ ?_
  ·skip
   refine xC (b:=db) rfl rfl rfl (fun aa=>?_) (fun aa=>?_)
   ·have c:=zU aa c
    refine yH ?_
    refine yH ?_
    refine yH ?_
    refine yH ?_
    refine yH ?_
    refine yH ?_
    refine yH ?_
    refine yH ?_
    refine yH ?_
    refine zG (yG (v:= .bool true) rfl rfl) ?_
    obtain rfl:=gI c
    exact zZ (zF (meet ⟨(zJ rfl zK),H.pick [0,1,2,3,4,5,6,7]⟩))
   have c:=zV aa c
   refine zG (aV rfl)<| zG (dS rfl)<| Ld bY H 0 2 rfl rfl ?_
   obtain ⟨de,df,c⟩:=zC c
   obtain ⟨jl,jm,dg⟩:=SlF.len ((H.item (i:=5) rfl))
   refine zG (yJ (xJ u37 dg) (congrArg (Value.int .i64) df))<| zH (i6 u)<| zH (i6 q) ?_
   obtain ⟨dh,di,c⟩:=zC c
   refine zG (dH (a:=u) (b:=q) rfl rfl di) ?_
   obtain ⟨dj,dk,c⟩:=zC c
   refine zG (xP (a:=dh) (b:=1) rfl rfl dk) ?_
   obtain ⟨dl,dm,c⟩:=zC c
   refine zG (zL (eQ (a:=de) (b:=dj) rfl rfl) dm)<| zG (yB (v:= .bool dl) rfl rfl) ?_
   obtain rfl:=gI c
   exact zZ (zF (meet ⟨(zJ rfl zK),H.pick [0,1,2,3,4,5,6,7]⟩))
  rintro ρ jn H
  have c:=dd
  refine xC (b:=bh) rfl rfl rfl (fun ab=>?_) (fun ab=>?_)
  ·have c:=zU ab c
   refine yH ?_
   refine yH ?_
   refine yH ?_
   refine yH ?_
   refine yH ?_
   refine yH ?_
   refine yH ?_
   refine yH ?_
   refine yH ?_
   refine zG (yG (v:= .bool true) rfl rfl) ?_
   obtain rfl:=gI c
   exact (zZ (zF (meet ⟨(),(zJ rfl zK),H.pick [0,5,1,2,3,4,6,7]⟩)))
  have c:=zV ab c
  refine zG (aV rfl)<| zG (dS rfl)<| Ld bY H 6 2 rfl rfl ?_
  obtain ⟨dn,dp,c⟩:=zC c
  obtain ⟨jo,jp,dq⟩:=SlF.len ((H.item (i:=7) rfl))
  refine zG (yJ (xJ u37 dq) (congrArg (Value.int .i64) dp))<| zH (i6 u)<| zH (i6 q) ?_
  obtain ⟨dr,ds,c⟩:=zC c
  refine zG (dH (a:=u) (b:=q) rfl rfl ds) ?_
  obtain ⟨dt,dw,c⟩:=zC c
  refine zG (xP (a:=dr) (b:=1) rfl rfl dw) ?_
  obtain ⟨dx,dy,c⟩:=zC c
  refine zG (zL (eQ (a:=dn) (b:=dt) rfl rfl) dy)<| zG (yB (v:= .bool dx) rfl rfl) ?_
  obtain rfl:=gI c
  exact (zZ (zF (meet ⟨(),(zJ rfl zK),H.pick [0,5,1,2,3,4,6,7]⟩)))
 rintro _ ρ jq H
 have c:=da
 refine yC (b:=bg) rfl (fun ac=>?_) (fun ac=>?_)
 ·have c:=zU ac c
  refine zB fun jr dz=>zA<| zI (.bool false)<| RN dz ?_
  obtain rfl:=gI c
  refine (zX (zS (fB (v1:= .bool false) rfl rfl ?_)))
  exact ⟨rfl,H.pick []⟩
 have c:=zV ac c
 refine zQ (zF (c9 _ _ ?_))
 obtain ⟨d0,d1,c⟩:=xH c
 refine yI [10,16,17,18,19,20,21,78,79,80,81,82,83,84,85,86,87,88,89,90,91,92,93,94,95,96,97,98,99,100,101,102,103,104,105,106,107,108,109,110,111,112,113,114,115,116,117,118,119,120,121,122,123,124,125,126,127,128,129,130,131,132,133,134,135,136,137,138,139,140,141,142,143,144,145,146,147,148,149,150,151,152,153,154,155,156,157,158,159,160,161,162,163,164,165,166,167,168,169,170,171,172,173,174,175,176,177,178,179,180,181,182,183] (fun (g:Unit)=>[]) (fun g wl=>Hd O w wl S [.fz (.at 1 0 ((Fl.arr 7 Fl.str).f zW)),.fz (.gi 5)]∧d0 ()=some r) ?_ ?_
 ·skip
  refine zB fun js d2=>zA<| zI (i6 0)<| RN d2<| zY ?_
  unfold Fbk at c
  obtain ⟨d3,bi,d4,c⟩:=yK c
  refine yX [10,16,17,18,19,20,21,78,79,80,81,82,83,84,85,86,87,88,89,90,91,92,93,94,95,96,97,98,99,100,101,102,103,104,105,106,107,108,109,110,111,112,113,114,115,116,117,118,119,120,121,122,123,124,125,126,127,128,129,130,131,132,133,134,135,136,137,138,139,140,141,142,143,144,145,146,147,148,149,150,151,152,153,154,155,156,157,158,159,160,161,162,163,164,165,166,167,168,169,170,171,172,173,174,175,176,177,178,179,180,181,182,183] (fun (g:Nat×Int)=>[(16,i6 g.2)]) (fun g wl=>Hd O w wl S [.blk s [sb d.Name,i6 d.Series.Den,k,i6 d.Long] 41,f1 gW k d.Series.Samples,f1 fD v1 n,f1 Rp.str m p,.fz (.at 1 0 ((Fl.arr 7 Fl.str).f zW)),.fz (.gi 5),.blk t [sb h.1.Name,i6 h.1.Series.Den,l,i6 h.1.Long] 41,f1 gW l h.1.Series.Samples]∧fE d3 g.1 g.2=some r) (fun g=>g.1) (bi,0) (zJ rfl zK) ⟨H.pick [0,1,2,3,4,5,6,7],c⟩ ?_
  clear H c
  rintro ⟨bi,x⟩ ρ jt ⟨H,c⟩
  obtain ⟨d5,rfl,c⟩:=yO c
  have c:=yN d4 c
  refine zB fun ju d6=>?_
  refine zB fun jv d7=>zA<| zH (i6 x)<| zH (i6 u)<| zH (i6 q) ?_
  obtain ⟨d8,d9,c⟩:=zC c
  refine zG (dH (a:=u) (b:=q) rfl rfl d9) ?_
  obtain ⟨ea,eb,c⟩:=zC c
  refine zG (zL (bV (a:=x) (b:=d8) rfl rfl) eb)<| RN d7<| yC (b:=ea) rfl (fun ad=>?_) (fun ad=>?_)
  ·have c:=zU ad c
   refine zQ (zF (d6 _ _ ?_))
   obtain ⟨ec,ed,c⟩:=xH c
   refine yI [10,17,18,19,20,21,85,86,87,88,89,90,91,92,93,94,95,96,97,98,99,100,101,102,103,104,105,106,107,108,109,110,111,112,113,114,115,116,117,118,119,120,121,122,123,124,125,126,127,128,129,130,131,132,133,134,135,136,137,138,139,140,141,142,143,144,145,146,147,148,149,150,151,152,153,154,155,156,157,158,159,160,161,162,163,164,165,166,167,168,169,170,171,172,173,174,175,176,177,178,179,180,181,182,183] (fun (g:Unit)=>[]) (fun g wl=>Hd O w wl S [.blk s [sb d.Name,i6 d.Series.Den,k,i6 d.Long] 41,f1 gW k d.Series.Samples,f1 fD v1 n,f1 Rp.str m p,.fz (.at 1 0 ((Fl.arr 7 Fl.str).f zW)),.fz (.gi 5),.blk t [sb h.1.Name,i6 h.1.Series.Den,l,i6 h.1.Long] 41,f1 gW l h.1.Series.Samples]∧ec ()=some r) ?_ ?_
   ·skip
    refine zY ?_
    refine zB fun jw ee=>?_
    refine zB fun jx ef=>?_
    have eg:=H
    have H:=H.rebase
    have jy:=H
    refine WP_mix0 H [0,1,2,3,4,5,6,7,8,9,10,11,12] (kz [0,0,1,0,0,1,0,0,1,0,0,1,0]) mixed ?_
    refine XP (fun _ _=>aV rfl)<| XP (fun _ _=>dS rfl)<| XR bY H 0 2 rfl rfl<| XM (i6 x) ?_
    obtain ⟨M,ae,c⟩:=zD c
    obtain ⟨eh,ei,jz,j0,ej,ek,el,em,en⟩:=xU (H.item (i:=1) rfl) ae
    obtain rfl:=xW ek
    have H:=H.fz (.at eh (ei+x.toNat * 3) _) ⟨el,em,en⟩
    refine XP (fun _ _=>yU u37 dV ej rfl (zN ae).1 (zN ae).2.1 rfl rfl)<| MxM.xN oS rfl rfl rfl (fun o j=>yJ (yL (cs:=[i6 M.At,i6 M.N,i6 M.Mark]) aZ rfl dV rfl ((H.sees j).item (i:=8) rfl).2.2) rfl)<| XP (fun _ _=>aV rfl)<| XP (fun _ _=>dS rfl)<| XR bY H 6 2 rfl rfl<| XM (i6 x) ?_
    obtain ⟨P,af,c⟩:=zD c
    obtain ⟨eo,ep,j1,j2,eq,er,es,et,eu⟩:=xU (H.item (i:=7) rfl) af
    obtain rfl:=xW er
    have H:=H.fz (.at eo (ep+x.toNat * 3) _) ⟨es,et,eu⟩
    refine XP (fun _ _=>yU u37 dV eq rfl (zN af).1 (zN af).2.1 rfl rfl)<| MxM.xN oS rfl rfl rfl (fun o j=>yJ (yL (cs:=[i6 P.At,i6 P.N,i6 P.Mark]) aZ rfl dV rfl ((H.sees j).item (i:=9) rfl).2.2) rfl) ?_
    obtain ⟨ew,ex,c⟩:=zC c
    refine XP (fun _ _=>zL (Do_neqF (e:=aBy) (a:=M) (b:=P) (by kernel_rfl) eqf46 (by decide) aZ dV rfl rfl) ex)<| MxM.XL_nil fun j3 hS=>?_
    have H:=H.sees hS
    have H:=eg.rejoin H
    refine (zF (ef _ _ ?_))
    refine yC (b:=ew) rfl (fun ag=>?_) (fun ag=>?_)
    ·have c:=zU ag c
     refine zB fun j4 ey=>zA<| zI (.bool false)<| RN ey ?_
     obtain rfl:=gI c
     refine (zX (zS (yE (zS (zS (yE (zS (fB (v1:= .bool false) rfl rfl ?_))))))))
     exact ⟨rfl,H.pick []⟩
    have c:=zV ag c
    refine zQ (zF (ee _ _ ?_))
    refine zB fun j5 ez=>zA<| zH v1<| zH (i6 q)<| zH (i6 x) ?_
    obtain ⟨e0,e1,c⟩:=zC c
    refine zG (xP (a:=q) (b:=x) rfl rfl e1) ?_
    obtain ⟨⟨ah,K⟩,e2,c⟩:=zD c
    refine zT rfl rfl (zO en12 rfl) (Fbaw n e0 v1 _ e2 _ _ _ (H.enter [] [2])) ?_
    rintro _ j6 ⟨E,rfl,e3⟩
    have H:=H.back1 [2] rfl e3
    refine ⟨_,rfl,?_⟩
    refine zH (.tuple #[E,i6 K])<| zG (xA (v:=E) rfl rfl)<| zG (xA (v:=i6 K) rfl rfl)<| zI E<| zI (i6 K)<| RN ez<| zB fun j7 e4=>zB fun j8 e5=>zA<| zH (i6 K) ?_
    obtain ⟨e6,e7,c⟩:=zC c
    refine zG (zL (eQ (a:=K) (b:=0) rfl rfl) e7)<| RN e5<| yC (b:=e6) rfl (fun ai=>?_) (fun ai=>?_)
    ·have c:=zU ai c
     refine zB fun j9 e8=>zA<| zI (.bool false)<| RN e8 ?_
     obtain rfl:=gI c
     refine (zX (zS (yE (zS (zS (yE (zS (fB (v1:= .bool false) rfl rfl ?_))))))))
     exact ⟨rfl,H.pick []⟩
    have c:=zV ai c
    refine zQ (zF (e4 _ _ ?_))
    refine zB fun ka e9=>zA<| zI (.slice none 0 0)<| RN e9 ?_
    obtain ⟨aj,c,fa⟩:=zD c
    refine yI [19,20,108,109,110,111,112,113,114,115,116,117,118,119,120,121,122,123,124,125,126,127,128,129,130,131,132,133,134,135,136,137,138,139,140,141,142,143,144,145,146,147,148,149,150,151,152,153,154,155,156,157,158,159] (fun (g:Value)=>[(19,g)]) (fun g wl=>Hd O w wl S [.own (Rp.int .i64) g 3 aj,.blk s [sb d.Name,i6 d.Series.Den,k,i6 d.Long] 41,f1 gW k d.Series.Samples,f1 fD v1 n,f1 Rp.str m p,.fz (.at 1 0 ((Fl.arr 7 Fl.str).f zW)),.fz (.gi 5),.blk t [sb h.1.Name,i6 h.1.Series.Den,l,i6 h.1.Long] 41,f1 gW l h.1.Series.Samples]) ?_ ?_
    ·skip
     refine zB fun kb fb=>zA<| zI (i6 0)<| RN fb<| zY ?_
     have H:=dE H (Rp.int .i64) 3
     unfold Fbw at c
     obtain ⟨fc,bj,fd,c⟩:=yK c
     refine yX [19,20,108,109,110,111,112,113,114,115,116,117,118,119,120,121,122,123,124,125,126,127,128,129,130,131,132,133,134,135,136,137,138,139,140,141,142,143,144,145,146,147,148,149,150,151,152,153,154,155,156,157,158,159] (fun (g:Nat×(List Int)×Int×Value)=>[(19,g.2.2.2),(20,i6 g.2.2.1)]) (fun g wl=>Hd O w wl S [.own (Rp.int .i64) g.2.2.2 3 g.2.1,.blk s [sb d.Name,i6 d.Series.Den,k,i6 d.Long] 41,f1 gW k d.Series.Samples,f1 fD v1 n,f1 Rp.str m p,.fz (.at 1 0 ((Fl.arr 7 Fl.str).f zW)),.fz (.gi 5),.blk t [sb h.1.Name,i6 h.1.Series.Den,l,i6 h.1.Long] 41,f1 gW l h.1.Series.Samples,.own dK E 51 ah]∧fE fc g.1 (g.2.1,g.2.2.1)=some aj) (fun g=>g.1) (bj,[],0,.slice none 0 0) (zJ rfl (zJ rfl zK)) ⟨H.pick [11,0,1,2,3,4,5,6,7,10],c⟩ ?_
     clear H c
     rintro ⟨bj,fe,y,Q⟩ ρ kc ⟨H,c⟩
     obtain ⟨ff,rfl,c⟩:=yO c
     have c:=yN fd c
     refine zB fun kd fg=>?_
     refine zB fun ke fh=>zA<| zH (i6 y)<| zH v1 ?_
     obtain ⟨fi,fj,c⟩:=zC c
     obtain ⟨kf,kg,fk⟩:=SlF.len ((H.item (i:=3) rfl))
     refine zG (yJ (xJ u22 fk) (congrArg (Value.int .i64) fj)) ?_
     obtain ⟨fm,fn,c⟩:=zC c
     refine zG (zL (xI (a:=y) (b:=fi) rfl rfl) fn)<| RN fh<| yC (b:=fm) rfl (fun ak=>?_) (fun ak=>?_)
     ·have c:=zU ak c
      refine zQ (zF (fg _ _ ?_))
      obtain ⟨bk,c,fo⟩:=zD c
      refine yI [19,114,115,116,117,118,119,120,121,122,123,124,125,126,127,128,129,130,131,132,133,134,135,136,137,138,139,140,141,142,143,144,145,146,147,148,149,150,151,152,153,154,155,156,157,158,159] (fun (g:Value)=>[(19,g)]) (fun g wl=>Hd O w wl S [.own (Rp.int .i64) g 3 bk,.blk s [sb d.Name,i6 d.Series.Den,k,i6 d.Long] 41,f1 gW k d.Series.Samples,f1 fD v1 n,f1 Rp.str m p,.fz (.at 1 0 ((Fl.arr 7 Fl.str).f zW)),.fz (.gi 5),.blk t [sb h.1.Name,i6 h.1.Series.Den,l,i6 h.1.Long] 41,f1 gW l h.1.Series.Samples,.own dK E 51 ah]) ?_ ?_
      ·skip
       refine zY ?_
       obtain ⟨bl,c,fp⟩:=zD c
       refine yI [114,115,116,117,118,119,120,121,122,123,124,125,126,127,128,129,130,131,132,133,134,135,136,137,138,139,140,141,142,143,144,145,146,147,148,149,150,151] (fun (g:Unit)=>[(151,.bool bl)]) (fun g wl=>Hd O w wl S [.own (Rp.int .i64) Q 3 fe,.blk s [sb d.Name,i6 d.Series.Den,k,i6 d.Long] 41,f1 gW k d.Series.Samples,f1 fD v1 n,f1 Rp.str m p,.fz (.at 1 0 ((Fl.arr 7 Fl.str).f zW)),.fz (.gi 5),.blk t [sb h.1.Name,i6 h.1.Series.Den,l,i6 h.1.Long] 41,f1 gW l h.1.Series.Samples,.own dK E 51 ah]) ?_ ?_
       ·skip
        have R:=H
        have H:=H.rebase
        have kh:=H
        refine WP_mix0 H [0,1,2,3,4,5,6,7,8,9,10,11,12,13,14,15,16,17,18,19,20,21,22,23,24,25,26,27,28,29,30,31,32,33,34,35,36,37] (kz [0,0,0,0,1,0,0,0,0,0,1,0,0,1,0,0,0,0,0,0,1,0,0,1,0,0,0,0,0,0,0,1,0,0,1,0,0,0]) mixed ?_
        refine XM E<| XM (i6 y) ?_
        obtain ⟨fq,al,c⟩:=zD c
        obtain ⟨ki,kj,kk,fr,fs,ft⟩:=dN (H.item (i:=9) rfl) al
        obtain rfl:=jA fs
        refine XP (fun _ _=>yU u47 aBs fr rfl (zN al).1 (zN al).2.1 rfl rfl)<| XP (fun _ _=>fa51_1 rfl)<| MxM.xN oS rfl rfl rfl (fun o j=>yZ qH rfl (Cells.get (ft.sees j) (i:=1) rfl))<| MxM.XL_splitb (b:=fq.Known) rfl rfl rfl rfl (fun am=>?_) (fun am=>?_)
        ·have c:=zU am c
         refine XM v1<| XM (i6 y) ?_
         obtain ⟨bm,an,c⟩:=zD c
         obtain ⟨fu,fv,kl,km,fw,fx,fy,f0,f2⟩:=xU (H.item (i:=3) rfl) an
         obtain ⟨f3,rfl,f4⟩:=xR fx
         have H:=H.fzs [.at fu (fv+y.toNat * 4) _,.sl gW f3 bm.Series.Samples] ⟨⟨fy,f0,f2⟩,f4,trivial⟩
         refine XP (fun _ _=>yU u22 cO fw rfl (zN an).1 (zN an).2.1 rfl rfl)<| XP (fun _ _=>jE rfl)<| MxM.xN oS rfl rfl rfl (fun o j=>yZ dQ rfl (Cells.get ((H.sees j).item (i:=10) rfl).2.2 (i:=0) rfl))<| XM m ?_
         obtain ⟨bn,ao,c⟩:=zD c
         obtain ⟨f5,f6,ko,f7,f8,f9,ga,gb,gc⟩:=xU (H.item (i:=4) rfl) ao
         obtain rfl:f7= [sb bn]:=f9
         have H:=H.fz (.at f5 (f6+(0:Int).toNat * 1) _) ⟨ga,gb,gc⟩
         refine XP (fun _ _=>yU u36 sz9 f8 rfl (zN ao).1 (zN ao).2.1 rfl rfl)<| MxM.xN oS rfl rfl rfl (fun o j=>yZ dQ rfl (Cells.get ((H.sees j).item (i:=12) rfl).2.2 (i:=0) rfl)) ?_
         obtain ⟨gd,ge,c⟩:=zC c
         refine XP (fun _ _=>zL (fO (s1:=bm.Name) (s2:=bn) rfl rfl) ge)<| MxM.XL_splitb (b:=gd) rfl rfl rfl rfl (fun ap=>?_) (fun ap=>?_)
         ·have c:=zU ap c
          refine XO<| XO<| XO<| XO<| MxM.XL_offr oS rfl rfl rfl ?_
          refine XO<| XO<| MxM.XL_offr oS rfl rfl rfl ?_
          refine XO<| XP (fun _ _=>yG (v:= .bool true) rfl rfl)<| XM (.bool true)<| XO<| XO<| XO<| XO<| MxM.XL_offr oS rfl rfl rfl<| XO<| XO<| MxM.XL_offr oS rfl rfl rfl<| XO<| XP (fun _ _=>yG (v:= .bool true) rfl rfl)<| XP (fun _ _=>yG (v:= .bool true) rfl rfl)<| MxM.XL_nil fun kp hS=>?_
          have H:=H.sees hS
          have H:=R.rejoin H
          obtain rfl:=gI c
          exact (zF (meet ⟨(),(zJ rfl zK),H.pick [0,1,2,3,4,5,6,7,8,9]⟩))
         have c:=zV ap c
         refine XM v1<| XM (i6 y) ?_
         obtain ⟨bo,aq,c⟩:=zD c
         obtain ⟨gf,gg,kq,kr,gh,gj,gk,gl,gm⟩:=xU (H.item (i:=3) rfl) aq
         obtain ⟨gn,rfl,go⟩:=xR gj
         have H:=H.fzs [.at gf (gg+y.toNat * 4) _,.sl gW gn bo.Series.Samples] ⟨⟨gk,gl,gm⟩,go,trivial⟩
         refine XP (fun _ _=>yU u22 cO gh rfl (zN aq).1 (zN aq).2.1 rfl rfl)<| XP (fun _ _=>jE rfl)<| MxM.xN oS rfl rfl rfl (fun o j=>yZ dQ rfl (Cells.get ((H.sees j).item (i:=13) rfl).2.2 (i:=0) rfl))<| XM m ?_
         obtain ⟨bp,ar,c⟩:=zD c
         obtain ⟨gp,gq,ks,gr,gs,gt,gu,gv,gw⟩:=xU (H.item (i:=4) rfl) ar
         obtain rfl:gr= [sb bp]:=gt
         have H:=H.fz (.at gp (gq+(1:Int).toNat * 1) _) ⟨gu,gv,gw⟩
         refine XP (fun _ _=>yU u36 sz9 gs rfl (zN ar).1 (zN ar).2.1 rfl rfl)<| MxM.xN oS rfl rfl rfl (fun o j=>yZ dQ rfl (Cells.get ((H.sees j).item (i:=15) rfl).2.2 (i:=0) rfl)) ?_
         obtain ⟨bq,gx,c⟩:=zC c
         refine XP (fun _ _=>zL (fO (s1:=bo.Name) (s2:=bp) rfl rfl) gx)<| XP (fun _ _=>yB (v:= .bool bq) rfl rfl)<| MxM.XL_splitb (b:=bq) rfl rfl rfl rfl (fun au=>?_) (fun au=>?_)
         ·have c:=zU au c
          refine XO<| XO<| XO<| XO<| MxM.XL_offr oS rfl rfl rfl ?_
          refine XO<| XO<| MxM.XL_offr oS rfl rfl rfl ?_
          refine XO<| XP (fun _ _=>yG (v:= .bool true) rfl rfl)<| XP (fun _ _=>yG (v:= .bool true) rfl rfl)<| MxM.XL_nil fun kt hS=>?_
          have H:=H.sees hS
          have H:=R.rejoin H
          obtain rfl:=gI c
          exact (zF (meet ⟨(),(zJ rfl zK),H.pick [0,1,2,3,4,5,6,7,8,9]⟩))
         have c:=zV au c
         refine XM v1<| XM (i6 y) ?_
         obtain ⟨br,av,c⟩:=zD c
         obtain ⟨gy,gz,ku,kv,g0,h5754,h5752,g3,g4⟩:=xU (H.item (i:=3) rfl) av
         obtain ⟨g5,rfl,g6⟩:=xR h5754
         have H:=H.fzs [.at gy (gz+y.toNat * 4) _,.sl gW g5 br.Series.Samples] ⟨⟨h5752,g3,g4⟩,g6,trivial⟩
         refine XP (fun _ _=>yU u22 cO g0 rfl (zN av).1 (zN av).2.1 rfl rfl)<| XP (fun _ _=>jE rfl)<| MxM.xN oS rfl rfl rfl (fun o j=>yZ dQ rfl (Cells.get ((H.sees j).item (i:=16) rfl).2.2 (i:=0) rfl))<| XM m ?_
         obtain ⟨bt,aw,c⟩:=zD c
         obtain ⟨g7,g8,kw,g9,ha,hb,hc,he,hf⟩:=xU (H.item (i:=4) rfl) aw
         obtain rfl:g9= [sb bt]:=hb
         have H:=H.fz (.at g7 (g8+(2:Int).toNat * 1) _) ⟨hc,he,hf⟩
         refine XP (fun _ _=>yU u36 sz9 ha rfl (zN aw).1 (zN aw).2.1 rfl rfl)<| MxM.xN oS rfl rfl rfl (fun o j=>yZ dQ rfl (Cells.get ((H.sees j).item (i:=18) rfl).2.2 (i:=0) rfl)) ?_
         obtain ⟨bu,hg,c⟩:=zC c
         refine XP (fun _ _=>zL (fO (s1:=br.Name) (s2:=bt) rfl rfl) hg)<| XP (fun _ _=>yB (v:= .bool bu) rfl rfl)<| XP (fun _ _=>yG (v:= .bool bu) rfl rfl)<| MxM.XL_nil fun kx hS=>?_
         have H:=H.sees hS
         have H:=R.rejoin H
         obtain rfl:=gI c
         exact (zF (meet ⟨(),(zJ rfl zK),H.pick [0,1,2,3,4,5,6,7,8,9]⟩))
        have c:=zV am c
        refine XO<| XO<| XO<| XO<| MxM.XL_offr oS rfl rfl rfl ?_
        refine XO<| XO<| MxM.XL_offr oS rfl rfl rfl ?_
        refine XO<| XO<| XO<| XO<| XO<| XO<| MxM.XL_offr oS rfl rfl rfl ?_
        refine XO<| XO<| MxM.XL_offr oS rfl rfl rfl ?_
        refine XO<| XO<| XO<| XO<| XO<| XO<| XO<| MxM.XL_offr oS rfl rfl rfl ?_
        refine XO<| XO<| MxM.XL_offr oS rfl rfl rfl ?_
        refine XO<| XO<| XP (fun _ _=>yB (v:= .bool false) rfl rfl)<| MxM.XL_nil fun ky hS=>?_
        have H:=H.sees hS
        have H:=R.rejoin H
        obtain rfl:=gI c
        exact (zF (meet ⟨(),(zJ rfl zK),H.pick [0,1,2,3,4,5,6,7,8,9]⟩))
       rintro _ ρ k0 H
       have c:=fp
       refine yC (b:=bl) rfl (fun ax=>?_) (fun ax=>?_)
       ·have c:=zU ax c
        refine zA ?_
        refine zH Q<| zH E<| zH (i6 y) ?_
        obtain ⟨T,ay,c⟩:=zD c
        obtain ⟨k1,k2,k3,hh,hi,hj⟩:=dN (H.item (i:=9) rfl) ay
        obtain rfl:=jA hi
        refine zG (yU u47 aBs hh rfl (zN ay).1 (zN ay).2.1 rfl rfl)<| zG (aCk rfl)<| zG (yZ fJ rfl (Cells.get hj (i:=0) rfl)) ?_
        obtain ⟨k4,hk,c⟩:=zC c
        subst hk
        refine yT rfl rfl (jG (r:=(Rp.int .i64)) (xl:=[T.N]) (cs:=[i6 T.N]) u42 el3 (by decide) (by decide) rfl (fP (vs:=[i6 T.N]) (by decide) rfl rfl ⟨rfl,trivial⟩ rfl) H ⟨[i6 T.N],[],rfl,rfl,rfl⟩) ?_
        rintro k5 k6 H
        obtain ⟨k7,hl,c⟩:=zD c
        refine yT rfl rfl (kU H (i:=0) rfl u42 el3 rfl rfl (Sr.of_own (H.item (i:=10) rfl)) hl) ?_
        rintro bv k8 H
        refine zI bv ?_
        obtain rfl:=gI c
        exact (zZ (yV (zF (meet ⟨bv,(zJ rfl zK),H.pick [0,1,2,3,4,5,6,7,8,9]⟩))))
       have c:=zV ax c
       obtain rfl:=gI c
       exact (zQ (yV (zF (meet ⟨Q,(zJ rfl zK),H.pick [0,1,2,3,4,5,6,7,8,9]⟩))))
      rintro hn ρ k9 H
      have c:=fo
      refine zA ?_
      refine zH (i6 y) ?_
      obtain ⟨bw,ho,c⟩:=zC c
      refine zG (xP (a:=y) (b:=1) rfl rfl ho)<| zI (i6 bw) ?_
      exact (zZ (zF (meet ⟨(ff,bk,bw,hn),(zJ rfl (zJ rfl zK)),⟨H.pick [0,1,2,3,4,5,6,7,8,9],c⟩,Nat.lt_succ_self _⟩)))
     have c:=zV ak c
     obtain rfl:=gI c
     exact (xG (yD (yD (yS (zF (meet ⟨Q,(zJ rfl zK),H.pick [0,1,2,3,4,5,6,7,8]⟩))))))
    rintro az ρ la H
    have c:=fa
    refine zB fun lb hp=>zA<| zH az ?_
    obtain ⟨hq,hr,c⟩:=zC c
    obtain ⟨lc,ld,hs⟩:=Sr.len (Sr.of_own (H.item (i:=0) rfl))
    refine zG (yJ (xJ u42 hs) (congrArg (Value.int .i64) hr)) ?_
    obtain ⟨ht,hu,c⟩:=zC c
    refine zG (zL (fV (a:=hq) (b:=3) rfl rfl) hu)<| RN hp<| yC (b:=ht) rfl (fun a0=>?_) (fun a0=>?_)
    ·have c:=zU a0 c
     refine zB fun lf hv=>zA<| zH az ?_
     have H:=H.freeze (i:=0) rfl
     obtain ⟨lg,hw,c⟩:=zD c
     refine zT rfl rfl (zO en13 rfl) (Fanw aj az _ hw _ _ _ (H.enter [] [0])) ?_
     rintro _ lh ⟨a1,rfl,hx⟩
     have H:=H.back1 [0] rfl hx
     refine ⟨_,rfl,?_⟩
     refine zI a1<| RN hv<| zB fun li hy=>zA<| zG (aV rfl)<| zG (dS rfl)<| Ld bY H 1 2 rfl rfl<| zH (i6 x) ?_
     obtain ⟨L,a2,c⟩:=zD c
     obtain ⟨hz,h0,lj,lk,h1,h2,h3,h4,h5⟩:=xU (H.item (i:=2) rfl) a2
     obtain rfl:=xW h2
     have H:=H.fz (.at hz (h0+x.toNat * 3) _) ⟨h3,h4,h5⟩
     refine zG (yU u37 dV h1 rfl (zN a2).1 (zN a2).2.1 rfl rfl)<| zG (mZ rfl)<| zG (yZ fJ rfl (Cells.get (H.item (i:=10) rfl).2.2 (i:=1) rfl))<| zI (i6 L.N)<| RN hy ?_
     obtain ⟨bx,c,h6⟩:=zD c
     refine yI [172,173,174,175,176,177,178,179,180,181,182,183] (fun (g:Unit)=>[(183,.bool bx)]) (fun g wl=>Hd O w wl S [.blk s [sb d.Name,i6 d.Series.Den,k,i6 d.Long] 41,f1 gW k d.Series.Samples,f1 fD v1 n,f1 Rp.str m p,.fz (.at 1 0 ((Fl.arr 7 Fl.str).f zW)),.fz (.gi 5),.blk t [sb h.1.Name,i6 h.1.Series.Den,l,i6 h.1.Long] 41,f1 gW l h.1.Series.Samples]) ?_ ?_
     ·skip
      refine zA ?_
      refine zH (i6 L.N)<| zH a1 ?_
      obtain ⟨bz,a3,c⟩:=zD c
      obtain ⟨ll,lm,h7,h8,h9,ia⟩:=dN (H.item (i:=9) rfl) a3
      obtain rfl:h7= [i6 bz]:=h9
      refine zG (yU u42 sz3 h8 rfl (zN a3).1 (zN a3).2.1 rfl rfl)<| zG (yZ fJ rfl (Cells.get ia (i:=0) rfl)) ?_
      obtain ⟨ib,id,c⟩:=zC c
      refine zG (zL (xI (a:=L.N) (b:=bz) rfl rfl) id)<| xC (b:=ib) rfl rfl rfl (fun a4=>?_) (fun a4=>?_)
      ·have c:=zU a4 c
       refine yH ?_
       refine yH ?_
       refine yH ?_
       refine yH ?_
       refine yH ?_
       refine zG (yG (v:= .bool true) rfl rfl) ?_
       obtain rfl:=gI c
       exact (zZ (zF (meet ⟨(),(zJ rfl zK),H.pick [1,2,3,4,5,6,7,8]⟩)))
      have c:=zV a4 c
      refine zH (i6 L.N)<| zH a1 ?_
      obtain ⟨b0,a5,c⟩:=zD c
      obtain ⟨ln,lo,ie,ig,ih,ii⟩:=dN (H.item (i:=9) rfl) a5
      obtain rfl:ie= [i6 b0]:=ih
      refine zG (yU u42 sz3 ig rfl (zN a5).1 (zN a5).2.1 rfl rfl)<| zG (yZ fJ rfl (Cells.get ii (i:=0) rfl)) ?_
      obtain ⟨ij,ik,c⟩:=zC c
      refine zG (zL (dD (a:=L.N) (b:=b0) rfl rfl) ik)<| zG (yB (v:= .bool ij) rfl rfl) ?_
      obtain rfl:=gI c
      exact (zZ (zF (meet ⟨(),(zJ rfl zK),H.pick [1,2,3,4,5,6,7,8]⟩)))
     rintro _ ρ lp H
     have c:=h6
     refine yC (b:=bx) rfl (fun a6=>?_) (fun a6=>?_)
     ·have c:=zU a6 c
      refine zB fun lq il=>zA<| zI (.bool false)<| RN il ?_
      obtain rfl:=gI c
      refine (zX (yE (zS (zS (yE (zS (fB (v1:= .bool false) rfl rfl ?_)))))))
      exact ⟨rfl,H.pick []⟩
     have c:=zV a6 c
     exact (zQ (yV (zF (meet ⟨(),zK,⟨H.pick [0,1,2,3,4,5,6,7],c⟩⟩))))
    have c:=zV a0 c
    exact (zQ (yV (zF (meet ⟨(),zK,⟨H.pick [1,2,3,4,5,6,7,8],c⟩⟩))))
   rintro _ ρ lr ⟨H,c⟩
   have c:=xO ed c
   refine zA ?_
   refine zH (i6 x) ?_
   obtain ⟨b1,im,c⟩:=zC c
   refine zG (xP (a:=x) (b:=1) rfl rfl im)<| zI (i6 b1) ?_
   exact (zZ (zF (meet ⟨(d5,b1),(zJ rfl zK),⟨H.pick [0,1,2,3,4,5,6,7],c⟩,Nat.lt_succ_self _⟩)))
  have c:=zV ad c
  exact (xG (yD (yD (yS (zF (meet ⟨(),zK,⟨H.pick [4,5],c⟩⟩))))))
 rintro _ ρ ls ⟨H,c⟩
 have c:=xO d1 c
 refine zB fun lu io=>zA ?_
 have ip:=H
 obtain ⟨b2,iq,c⟩:=zD c
 refine zT rfl rfl (zO en10 rfl) (Falw _ iq _ _ _ (H.enter [] [0,1])) ?_
 rintro _ lv ⟨rfl,ir⟩
 have H:=ip.step (ir.only:Only [] _ _)
 refine ⟨_,rfl,?_⟩
 refine zI (.bool b2)<| RN io ?_
 obtain rfl:=gI c
 refine (zX (fB (v1:= .bool b2) rfl rfl ?_))
 exact ⟨rfl,H.pick []⟩
end Go.Proofs.YtgmikmoapfmedaaGreatDoor.L
