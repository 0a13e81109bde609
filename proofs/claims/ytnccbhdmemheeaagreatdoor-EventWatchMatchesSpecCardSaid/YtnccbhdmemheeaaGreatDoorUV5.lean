/- Walks that the claim stands on; no condition beyond those stated. -/
import Derived.Test.YtnccbhdmemheeaaGreatDoorUV4
namespace Go.Proofs.YtnccbhdmemheeaaGreatDoor.L
open Go.RowKit Go.OB Go.Lf
set_option maxRecDepth 100000
set_option maxHeartbeats 4000000
variable {O S:List Nat}{w:World}
theorem Fdkw (h:gG)(l:Int)(E:Nat)(U V X Y v6 v7 v8 s:Value)(bu:List Nat)(G:Value)(bv:List Nat)(I:Value)(bw:List Nat)(o o27 bx:Nat)(D:s= .slice (some ⟨o,o27,none⟩) h.nodes.length bx)(r:Int×(List gI))(d:Fdk h l=some r)(H:Hd O w w S [.tr cO [s] bu h.nodes,.tr eX [G] bv h.moves,.tr eX [I] bw h.rules,.blk E [U,V,X,Y,v6,v7,i6 h.frames,v8,s,i6 h.first,G,I] 77,fZ U h.r.Phases,aI V h.r.Moves,bY X h.r.Rules,fZ Y h.names,uO v6 h.dens,jR v7 h.told,aH v8 h.phase]):
  Cl 134 [gW E,.pointer (some ⟨o,o27+l.toNat*18,none⟩)] w λe k=> ∃bz b0 b1,e= .returned (i6 r.1)/\Hd O w k S [.tr cO [s] bz r.2,.tr eX [G] b0 h.moves,.tr eX [I] b1 h.rules,.blk E [U,V,X,Y,v6,v7,i6 h.frames,v8,s,i6 h.first,G,I] 77]:=by
 refine CW 262 Tryz.func134 ?_;refine SR<|zA (i6 0)<|RM<|SR<|zB (gW E)<|zB (.pointer (some ⟨o,o27+l.toNat*18,none⟩))<|nf Z rX<|zK (kR Z)<|bE d λb2 ax d=>?_
 have a9:=aJ (H.im 0 Z) D;obtain⟨_,g0,_,H⟩:=H.fV 0 Z a9 ax Z;obtain⟨_,g3,g4,g5,g6,g7,g8,g9,_,rfl,H⟩:=zV H 11 Z;have H:=qO H;refine RH dC H 10 1 Z a9 ax Z ?_;have H:=qO H;obtain⟨_,H⟩:=zN (x:=b2) H 11 12 13 14 Z Z Z Z (H.im 15 Z) (by decide);have H:=dL H;obtain⟨_,H⟩:=H.u0 10 12 Z Z (by decide) Z Z ax;have H:=dY H;obtain⟨⟨p,ay⟩,b3,d⟩:=yD d;refine cAc bAq (Fafw b3 (H.W [11,0,1,2] [3,4,5,6,7,8,9])) λ_ ad ae _ b4=>?_
 have H:=dY<|H.back [11,0,1,2] [3,4,5,6,7,8,9] Z b4;refine zB (.tuple #[.agg [i6 p.N,vb p.Known].toArray,i6 ay])<|zK (zM (v:= .agg [i6 p.N,vb p.Known].toArray) Z Z)<|zK (zM (v:=i6 ay) Z Z)<|xb (yK vM H) λ_ _ H=>xu (zZ (vs:=[i6 p.N,vb p.Known]) H 12 Z rE Z Z Z ⟨Z,Z,T1⟩ Z) λ_ H=>zA (i6 ay)<|RM<|SQ ?_
 have b5:=H;have H:=H.rb;have hk:=H;refine yI H (rg [0,20]) (kz [0,0,0,0,1,0,0,0,1,0,0,0,1,0,1,0,0,0,0,3]) mixed ?_;refine XM (.pointer (some ⟨o,o27+l.toNat*18,none⟩))<|XM (.pointer (some ⟨o,o27+l.toNat*18,none⟩))<|Xn Z aLs<|bE d λaf u d=>?_
 have z:=aJ (H.im 8 Z) D;obtain⟨_,_,_,H⟩:=H.fV 8 Z z u Z;obtain⟨_,_,_,_,_,_,_,_,_,rfl,H⟩:=zV H 13 Z;have H:=rZ H;refine XH fC H 12 15 Z z u Z ?_;refine XM (.pointer (some ⟨o,o27+l.toNat*18,none⟩))<|Xn Z aCk<|XH aKp H 12 11 Z z u Z<|XM (.pointer (some ⟨o,o27+l.toNat*18,none⟩))<|Xn Z aBs<|XH fC H 12 12 Z z u Z ?_;refine bE d λb6 A d=>?_
 obtain⟨_,_,_,F⟩:=wC (H.im 14 Z) A;refine XQ (xA u82 aIb F Z (zY A).1 (zY A).2.1 Z Z) ?_;obtain⟨b7,_,_,H⟩:=H.fV 14 Z F A Z;obtain⟨b8,b9⟩:=trF (H.im 18 Z);subst b8;obtain rfl:b7=[.int .i8 b6]:=b9;have H:=aIp H;refine XH one224 H 17 0 Z F A Z ?_;refine lE d λca cb d=>XQ (pI u224 u3 Z cb)<|lE d λba cc d=>XQ (pO (a:=af.known) (b:=ca) Z Z cc)<|Xn Z aLs<|Xu (λk f=>yQ (vs:=[i6 ba]) (off:=15) (H.Z f) 12 Z z u Z Z sz3 Z Z Z (yT ⟨Z,T1⟩) (by show _<=18;decide)) λk _ f H=>nJ b5 H λ_ H=>?_
 refine zF<|KN<|SQ ?_;have cd:=H;have H:=H.rb;have h5:=H;refine yI H (rg [0,10]) (kz [0,0,0,1,0,0,0,1,0,3]) mixed ?_;refine XM (.pointer (some ⟨o,o27+l.toNat*18,none⟩))<|Xn Z aCk<|XH aKp H 12 11 Z z u Z<|XM (.pointer (some ⟨o,o27+l.toNat*18,none⟩))<|Xn Z aBs<|XH fC H 12 12 Z z u Z ?_;refine XQ (xA u82 aIb F Z (zY A).1 (zY A).2.1 Z Z)<|Xu (λk f=>yQ (vs:=[.int .i8 0]) (off:=0) (H.Z f) 17 Z F A Z Z aIb Z Z Z (yT ⟨Z,T1⟩) (by show _<=1;decide)) λk _ f H=>nJ cd H λ_ H=>?_
 refine zF<|KN ?_;have H:=rZ<|H.U (rg [0,7,8,11]);refine bE d λce d cf=>jo H (rg [45,126]) (λ(g:(List Nat))=>[]) (λg=>[.tr cO [s] g ce]) (rg [1,10,0,1]) ?_ ?_
 ·refine SR<|zK (wO Z)<|Ld pF H 10 1 Z Z<|RM<|WJ d ?_ ?_<;>intro d
  ·refine SQ ?_;have cg:=H;have H:=H.rb;have h8:=H;refine yI H (rg [0,10]) (kz [0,0,0,1,0,0,0,1,0,3]) mixed ?_;refine XM (.pointer (some ⟨o,o27+l.toNat*18,none⟩))<|Xn Z aCk<|XH aKp H 11 11 Z z u Z<|XM (.pointer (some ⟨o,o27+l.toNat*18,none⟩))<|Xn Z aBs<|XH fC H 11 12 Z z u Z ?_;refine XQ (xA u82 aIb F Z (zY A).1 (zY A).2.1 Z Z)<|Xu (λk f=>yQ (vs:=[.int .i8 1]) (off:=0) (H.Z f) 16 Z F A Z Z aIb Z Z Z (yT ⟨Z,T1⟩) (by show _<=1;decide)) λk _ f H=>nJ cg H λ_ H=>?_
   refine zF<|KN<|SR<|zB (.pointer (some ⟨o,o27+l.toNat*18,none⟩))<|nf Z aLs<|RH fC H 11 15 Z z u Z<|eH d λbb d=>nf Z aLs<|xu (yQ (vs:=[i6 bb]) (off:=15) H 11 Z z u Z Z sz3 Z Z Z (yT ⟨Z,T1⟩) (by show _<=18;decide)) λ_ H=>RM<|bE d λch d ci=>jo H (rg [63,38]) (λ(g:(List Nat))=>[]) (λg=>[.tr cO [s] g ch]) (rg [1,10,0,1,11,1]) ?_ ?_
   ·refine zJ ?_;have H:=rZ H;have H:=H.addF (r:=(Rp.int .i8)) (cs:=[.int .i8 1]) (a:=1) Z;refine bE d λcj ck d=>?_
    obtain⟨id,H⟩:=H.uf 16 18 Z Z (by decide) Z Z ck;have H:=rZ H;obtain⟨_,H⟩:=zN (x:={af with c:=cE af.c,ring:=cj,known:=bb}) H 12 17 13 14 Z Z Z Z (H.im 15 Z) (by decide);have H:=qZ H;refine bE d λ_ cl d=>?_
    obtain⟨cm,H⟩:=H.uf 11 14 Z Z (by decide) Z Z cl;have H:=aT H;refine lo d H (rg [63,38]) (λx (y:(List Nat))=>[]) (λx y=>[.tr cO [s] y x]) (rg [1,10,0,1,11,1]) cm (H.U (rg [0,10,13,1,10,1])) ?_;clear H d;rintro _ cn _ ρ _ H d;have H:=dY H;refine SQ<|bE d λco d cp=>jo H (rg [63,24]) (λ(g:(List Nat))=>[(86,vb co)]) (λg=>[.tr cO [s] g cn]) (rg [1,10,0,1,12,1]) ?_ ?_
    ·have bc:=H;have H:=H.rb;have ik:=H;refine yI H (rg [0,24]) (kz [0,0,0,1,0,0,0,0,0,0,1,0,0,0,1,0,0,0,0,1,0,1,0,0]) mixed ?_;refine XM (.pointer (some ⟨o,o27+l.toNat*18,none⟩))<|Xn Z qC<|bE d λbd J d=>?_
     have aj:=aJ (H.im 10 Z) D;obtain⟨_,_,_,H⟩:=H.fV 10 Z aj J Z;obtain⟨_,_,_,_,_,_,_,_,i0,rfl,H⟩:=zV H 12 Z;have H:=aG H;refine XH tH H 11 16 Z aj J Z ?_;refine lE d λcq cr d=>?_
     obtain⟨_,i2,ct⟩:=jS ((H.im 14 Z));refine XQ (yS (kF u83 ct) (congrArg (Value.int .i64) cr))<|lE d λcu cv d=>XQ (bJ (vK (a:=cq) (b:=0) Z Z) cv)<|MxM.XL_splitb (b:=cu) Z Z Z Z (λaz=>?_) (λaz=>?_)
     ·have d:=aAt az d;refine XM (.pointer (some ⟨o,o27+l.toNat*18,none⟩))<|Xn Z qC<|XH tH H 11 16 Z aj J Z<|XM (.pointer (some ⟨o,o27+l.toNat*18,none⟩))<|Xn Z qC ?_;refine XH tH H 11 16 Z aj J Z ?_;refine lE d λcw cx d=>?_
      obtain⟨i3,i4,cy⟩:=jS ((H.im 14 Z));refine XQ (yS (kF u83 cy) (congrArg (Value.int .i64) cx))<|lE d λi5 cz d=>XQ (pO (a:=cw) (b:=1) Z Z cz)<|bE d λc0 K d=>?_
      obtain⟨_,i9,_,a0⟩:=wC (H.im 14 Z) K;refine XQ (xA u83 aId a0 Z (zY K).1 (zY K).2.1 Z Z)<|XQ (aKb Z) ?_;obtain⟨_,_,_,H⟩:=H.fV 14 Z a0 K Z;obtain⟨c1,c2⟩:=trF (H.im 17 Z);subst c1;obtain rfl:=dX c2;have H:=rZ H;refine XH fC H 16 1 Z a0 K Z ?_;refine XQ (mV Z)<|XR fC H 10 0 Z Z<|lE d λc3 c4 d=>XQ (bJ (aHl (a:=c0.n) (b:=p.N) Z Z) c4)<|XQ (qL (v:=vb c3) Z Z)<|nJ bc H λ_ H=>?_
      have H:=rZ H;obtain⟨_,H⟩:=H.u0 16 17 Z Z (by decide) Z Z K;have H:=aG H;obtain⟨_,H⟩:=zN (x:=bd) H 12 13 16 14 Z Z Z Z (H.im 15 Z) (by decide);have H:=aT H;obtain⟨c5,H⟩:=H.u0 11 13 Z Z (by decide) Z Z J;have H:=dL H
      cases d
      exact zF<|mt c5 (H.U (rg [0,10,12,1,10,1]))
     have d:=aBj az d;refine XO<|XO<|XO<|MxM.XL_offr oS Z Z Z ?_;refine XO<|XO<|XO<|MxM.XL_offr oS Z Z Z ?_;refine XO<|XO<|XO<|XO<|MxM.XL_offr oS Z Z Z ?_;refine XO<|MxM.XL_offr oS Z Z Z ?_;refine XO<|XQ (rY (v:=vb false) Z Z)<|nJ bc H λ_ H=>?_
     have H:=aG H;obtain⟨_,H⟩:=zN (x:=bd) H 12 13 14 15 Z Z Z Z (H.im 16 Z) (by decide);have H:=aT H;obtain⟨c6,H⟩:=H.u0 11 13 Z Z (by decide) Z Z J;have H:=dL H
     cases d
     exact zF<|mt c6 (H.U (rg [0,10,12,1,10,1]))
    rintro c7 ρ _ H;have H:=dY H;have d:=cp;refine WJ d ?_ ?_<;>intro d
    ·refine WZ<|zJ ?_;have c8:=H;have H:=H.rb;have jl:=H;refine yI H (rg [0,15]) (kz [0,0,0,0,1,0,0,0,1,0,0,0,0,0,3]) mixed ?_;refine XM (.pointer (some ⟨o,o27+l.toNat*18,none⟩))<|XM (.pointer (some ⟨o,o27+l.toNat*18,none⟩))<|Xn Z qC<|bE d λbe ak d=>?_
     have al:=aJ (H.im 10 Z) D;obtain⟨_,_,_,H⟩:=H.fV 10 Z al ak Z;obtain⟨_,_,_,_,_,_,_,_,_,rfl,H⟩:=zV H 12 Z;have H:=aG H;refine XH tH H 11 16 Z al ak Z ?_;refine XM (.pointer (some ⟨o,o27+l.toNat*18,none⟩))<|Xn Z qC<|XH tH H 11 16 Z al ak Z ?_;refine lE d λc9 da d=>?_
     obtain⟨_,_,db⟩:=jS ((H.im 14 Z));refine XQ (yS (kF u83 db) (congrArg (Value.int .i64) da))<|lE d λ_ dc d=>XQ (pO (a:=c9) (b:=1) Z Z dc)<|bE d λdd de d=>MxM.XL_exP Z Z Z (aKv H 14 Z u83 aId Z Z de) ?_
     rintro df H;refine Xn Z qC<|Xu (λk f=>yQ (vs:=[df]) (off:=16) (H.Z f) 11 Z al ak Z Z sz83 Z Z (sQ (xZ ((H.Z f).V (i:=14) Z))) (yT ⟨(xZ ((H.Z f).V (i:=14) Z)),T1⟩) (by show _<=18;decide)) λk _ f H=>nJ c8 H λ_ H=>?_
     have H:=aG H;obtain⟨_,H⟩:=zN (x:={be with c:=cE be.c,low:=dd}) H 12 13 14 15 Z Z Z Z (H.im 16 Z) (by decide);have H:=aT H;refine bE d λ_ dg d=>?_
     obtain⟨dh,H⟩:=H.uf 11 13 Z Z (by decide) Z Z dg;have H:=dL H;exact zO<|zF<|me d dh (H.U (rg [0,10,12,1,10,1]))
    cases d
    exact yA<|zT<|zT<|zW<|zF<|mt c7 (H.U (rg [0,12]))
   rintro di ρ _ H;have H:=dY H;have d:=ci;refine bE d λdj d dk=>jo H (rg [101,38]) (λ(g:(List Nat))=>[]) (λg=>[.tr cO [s] g dj]) (rg [1,10,0,1,12,1]) ?_ ?_
   ·refine zJ<|lo d H (rg [101,38]) (λx (y:(List Nat))=>[]) (λx y=>[.tr cO [s] y x]) (rg [1,10,0,1,12,1]) di (H.U (rg [0,12])) ?_;clear H d;rintro _ dl _ ρ _ H d;have H:=dY H;refine SQ<|bE d λdm d dn=>jo H (rg [101,24]) (λ(g:(List Nat))=>[(124,vb dm)]) (λg=>[.tr cO [s] g dl]) (rg [1,10,0,1,12,1]) ?_ ?_
    ·have bf:=H;have H:=H.rb;have kc:=H;refine yI H (rg [0,24]) (kz [0,0,0,1,0,0,0,0,0,0,1,0,0,0,1,0,0,0,0,1,0,1,0,0]) mixed ?_;refine XM (.pointer (some ⟨o,o27+l.toNat*18,none⟩))<|Xn Z rC<|bE d λbg L d=>?_
     have am:=aJ (H.im 10 Z) D;obtain⟨_,_,_,H⟩:=H.fV 10 Z am L Z;obtain⟨_,_,_,_,_,_,_,_,_,rfl,H⟩:=zV H 12 Z;have H:=aG H;refine XH tH H 11 17 Z am L Z ?_;refine lE d λdp dq d=>?_
     obtain⟨_,_,dr⟩:=jS ((H.im 15 Z));refine XQ (yS (kF u83 dr) (congrArg (Value.int .i64) dq))<|lE d λds dt d=>XQ (bJ (vK (a:=dp) (b:=0) Z Z) dt)<|MxM.XL_splitb (b:=ds) Z Z Z Z (λa1=>?_) (λa1=>?_)
     ·have d:=aAt a1 d;refine XM (.pointer (some ⟨o,o27+l.toNat*18,none⟩))<|Xn Z rC<|XH tH H 11 17 Z am L Z<|XM (.pointer (some ⟨o,o27+l.toNat*18,none⟩))<|Xn Z rC ?_;refine XH tH H 11 17 Z am L Z ?_;refine lE d λdw dx d=>?_
      obtain⟨_,_,dy⟩:=jS ((H.im 15 Z));refine XQ (yS (kF u83 dy) (congrArg (Value.int .i64) dx))<|lE d λ_ dz d=>XQ (pO (a:=dw) (b:=1) Z Z dz)<|bE d λd0 M d=>?_
      obtain⟨_,_,_,a2⟩:=wC (H.im 15 Z) M;refine XQ (xA u83 aId a2 Z (zY M).1 (zY M).2.1 Z Z)<|XQ (aKb Z) ?_;obtain⟨_,_,_,H⟩:=H.fV 15 Z a2 M Z;obtain⟨d1,d2⟩:=trF (H.im 17 Z);subst d1;obtain rfl:=dX d2;have H:=rZ H;refine XH fC H 16 1 Z a2 M Z ?_;refine XQ (mV Z)<|XR fC H 10 0 Z Z<|lE d λd3 d4 d=>XQ (bJ (aRm (a:=d0.n) (b:=p.N) Z Z) d4)<|XQ (qL (v:=vb d3) Z Z)<|nJ bf H λ_ H=>?_
      have H:=rZ H;obtain⟨_,H⟩:=H.u0 16 17 Z Z (by decide) Z Z M;have H:=aG H;obtain⟨_,H⟩:=zN (x:=bg) H 12 13 14 16 Z Z Z Z (H.im 15 Z) (by decide);have H:=aT H;obtain⟨d5,H⟩:=H.u0 11 13 Z Z (by decide) Z Z L;have H:=dL H
      cases d
      exact zF<|mt d5 (H.U (rg [0,10,12,1,10,1]))
     have d:=aBj a1 d;refine XO<|XO<|XO<|MxM.XL_offr oS Z Z Z ?_;refine XO<|XO<|XO<|MxM.XL_offr oS Z Z Z ?_;refine XO<|XO<|XO<|XO<|MxM.XL_offr oS Z Z Z ?_;refine XO<|MxM.XL_offr oS Z Z Z ?_;refine XO<|XQ (rY (v:=vb false) Z Z)<|nJ bf H λ_ H=>?_
     have H:=aG H;obtain⟨_,H⟩:=zN (x:=bg) H 12 13 14 15 Z Z Z Z (H.im 16 Z) (by decide);have H:=aT H;obtain⟨d6,H⟩:=H.u0 11 13 Z Z (by decide) Z Z L;have H:=dL H
     cases d
     exact zF<|mt d6 (H.U (rg [0,10,12,1,10,1]))
    rintro d7 ρ _ H;have H:=dY H;have d:=dn;refine WJ d ?_ ?_<;>intro d
    ·refine WZ<|zJ ?_;have d8:=H;have H:=H.rb;have k8:=H;refine yI H (rg [0,15]) (kz [0,0,0,0,1,0,0,0,1,0,0,0,0,0,3]) mixed ?_;refine XM (.pointer (some ⟨o,o27+l.toNat*18,none⟩))<|XM (.pointer (some ⟨o,o27+l.toNat*18,none⟩))<|Xn Z rC<|bE d λbh an d=>?_
     have ao:=aJ (H.im 10 Z) D;obtain⟨_,_,_,H⟩:=H.fV 10 Z ao an Z;obtain⟨_,_,_,_,_,_,_,_,_,rfl,H⟩:=zV H 12 Z;have H:=aG H;refine XH tH H 11 17 Z ao an Z ?_;refine XM (.pointer (some ⟨o,o27+l.toNat*18,none⟩))<|Xn Z rC<|XH tH H 11 17 Z ao an Z ?_;refine lE d λd9 ea d=>?_
     obtain⟨_,_,eb⟩:=jS ((H.im 15 Z));refine XQ (yS (kF u83 eb) (congrArg (Value.int .i64) ea))<|lE d λ_ ec d=>XQ (pO (a:=d9) (b:=1) Z Z ec)<|bE d λed ee d=>MxM.XL_exP Z Z Z (aKv H 15 Z u83 aId Z Z ee) ?_
     rintro ef H;refine Xn Z rC<|Xu (λk f=>yQ (vs:=[ef]) (off:=17) (H.Z f) 11 Z ao an Z Z sz83 Z Z (sQ (xZ ((H.Z f).V (i:=15) Z))) (yT ⟨(xZ ((H.Z f).V (i:=15) Z)),T1⟩) (by show _<=18;decide)) λk _ f H=>nJ d8 H λ_ H=>?_
     have H:=aG H;obtain⟨_,H⟩:=zN (x:={bh with c:=cE bh.c,high:=ed}) H 12 13 14 15 Z Z Z Z (H.im 16 Z) (by decide);have H:=aT H;refine bE d λ_ eg d=>?_
     obtain⟨eh,H⟩:=H.uf 11 13 Z Z (by decide) Z Z eg;have H:=dL H;exact zO<|zF<|me d eh (H.U (rg [0,10,12,1,10,1]))
    cases d
    exact yA<|zT<|zT<|zW<|zF<|mt d7 (H.U (rg [0,12]))
   rintro _ ρ bi H;have H:=dY H;have d:=dk;refine bE d λP ap d=>?_
   have aq:=aJ (H.im 10 Z) D;obtain⟨_,_,_,H⟩:=H.fV 10 Z aq ap Z;obtain⟨ei,ej,ek,el,em,_,_,en,eo,rfl,H⟩:=zV H 12 Z;have H:=aG H;have ep:=H;have H:=H.rb;have er:=H;have Q:=aT<|H.W [7,8,12,13,14,15] [0,1,2,3,4,5,6,16];have bj:=H.firmH Q [7,8,12,13,14,15] 9 Z aq ap Z aA;have bk:=H.firmB Q (i:=9) Z (aWy [7,8,12,13,14,15] 7 Z);have bl:=H.firmB Q (i:=10) Z (aWy [7,8,12,13,14,15] 8 Z);refine jJ H Q [0,1,2,3,4,5,6,7,8,9,10,11,12,15,16,17,18,19,20,21,22,23,24,25,13] 26 14 [27,28,29] [30,31,32,33] [.pure,.pure,.pure,.pure,.pure,.pure,.pure,.pure,.pure,.pure,.pure,.pure,.pure,.mk (World.heap bi).size,.eff,.pure,.pure,.pure,.pure,.pure,.pure,.pure,.pure,.pure,.pure,.pure,.mk (World.heap bi).size,.eff,.pure,.pure,.eff,.pure,.pure,.eff] ⟨T1,T1,T1,T1,T1,T1,T1,T1,T1,T1,T1,T1,T1,Z,T1,T1,T1,T1,T1,T1,T1,T1,T1,T1,T1,T1,Z,T1,T1,T1,T1,T1,T1,T1,T1⟩ mixed (by kernel_rfl) (by kernel_rfl) (by kernel_rfl) (by kernel_rfl) (by kernel_rfl) (by decide) ?_;have H:=Hd.hm Q;refine XM (.pointer (some ⟨o,o27+l.toNat*18,none⟩))<|XM (.pointer (some ⟨o,o27+l.toNat*18,none⟩))<|XM (.pointer (some ⟨o,o27+l.toNat*18,none⟩))<|Xn Z qC<|XP (λk f=>yB tH Z (Cells.get (bj k f) (i:=16) Z))<|XM (gW E)<|Xn Z aHj<|XP (λk f=>yB fC Z (Cells.get (Blk.cells (bk k f)) (i:=6) Z))<|XQ (mV Z)<|XP (λk f=>yB fC Z (Cells.get (Blk.cells (bl k f)) (i:=0) Z))<|XQ (yX (cs:=[i6 h.frames,i6 p.N]) (aPa _ _))<|XM (.pointer (some ⟨o,o27+l.toNat*18,none⟩))<|Xn Z rC<|XP (λk f=>yB tH Z (Cells.get (bj k f) (i:=17) Z))<|XM (gW E)<|Xn Z aHj<|XP (λk f=>yB fC Z (Cells.get (Blk.cells (bk k f)) (i:=6) Z))<|XQ (mV Z)<|XP (λk f=>yB fC Z (Cells.get (Blk.cells (bl k f)) (i:=0) Z))<|XQ (yX (cs:=[i6 h.frames,i6 p.N]) (aPa _ _))<|lE d λ_ es d=>?_
   subst es;refine H.bs_rule (r:=fM) (xl:=[gV.mk h.frames p.N]) (cs:=[i6 h.frames,i6 p.N]) Z Z Z Z u83 aPz (by decide) (by decide) Z (xP (vs:=[.agg [i6 h.frames,i6 p.N].toArray]) (by decide) Z Z ⟨Z,T1⟩ Z) ⟨[i6 h.frames,i6 p.N],[],Z,(mD (x:=gV.mk h.frames p.N)),Z⟩ ?_;rintro et _ _ H;refine MxM.yZ λ_ hS=>?_
   have H:=H.Z hS;refine lE d λ_ bm d=>bE d λbn bo d=>MxM.XL_join (du:=165) (dv:=153) (λar ag wl=> ∃(au:List Nat),Sm Q wl [.tr eX [G] ad h.moves,.tr eX [I] ae h.rules,.tr eX [ej] ek P.kids,.tr rw_6 [el] em P.ring,.tr aGy [en] eo P.high,fZ U h.r.Phases,aI V h.r.Moves,bY X h.r.Rules,fZ Y h.names,uO v6 h.dens,jR v7 h.told,aH v8 h.phase,dF ei P.c.Kids,.own fM et 250 ([gV.mk h.frames p.N]:List gV),.own fM ar 250 ([gV.mk h.frames p.N]:List gV),.tr aGy [ag] au bn]) ?_ ?_ ?_
   ·subst bm;refine H.bs_rule (r:=fM) (xl:=[gV.mk h.frames p.N]) (cs:=[i6 h.frames,i6 p.N]) Z Z Z Z u83 aPz (by decide) (by decide) Z (xP (vs:=[.agg [i6 h.frames,i6 p.N].toArray]) (by decide) Z Z ⟨Z,T1⟩ Z) ⟨[i6 h.frames,i6 p.N],[],Z,(mD (x:=gV.mk h.frames p.N)),Z⟩ ?_;rintro ar _ _ H;have H:=H.hd;refine Xf (λk f=>aBa (H.Z f) 4 Z u83 aPz Z Z (Sr.xU ((H.Z f).V (i:=14) Z)) bo) λk ag _ f au H=>?_
    have H:=qO H;refine MxM.yZ λ_ hS=>?_
    have H:=H.Z hS;exact⟨ar,ag,Z,H.only,au,H⟩
   ·have H:=H.hd;refine MxM.XL_exA oS Z Z Z (λk f=>aBa (H.Z f) 4 Z u83 aPz Z Z (Sr.xU ((H.Z f).V (i:=14) Z)) bo) ?_;rintro k eu _ f ⟨ew,H⟩;refine⟨H.only,?_⟩;have H:=qZ H;subst bm;refine H.bs_ruleA (r:=fM) (xl:=[gV.mk h.frames p.N]) (cs:=[i6 h.frames,i6 p.N]) Z Z Z u83 aPz (by decide) (by decide) Z (xP (vs:=[.agg [i6 h.frames,i6 p.N].toArray]) (by decide) Z Z ⟨Z,T1⟩ Z) ⟨[i6 h.frames,i6 p.N],[],Z,(mD (x:=gV.mk h.frames p.N)),Z⟩ ?_;rintro _ ex _ H;refine MxM.yZ λ_ hS=>?_
    have H:=H.Z hS;have H:=H.U (rg [0,14,15,1,14,1]);exact⟨ex,eu,MxM.upd_comm _ (by decide) _ _,H.only,ew,H⟩
   rintro M' ar ag _ ⟨au,H⟩;refine bE d λey ez d=>Xf (λk f=>aBa (H.Z f) 4 Z u83 aPz Z Z (Sr.xU ((H.Z f).V (i:=14) Z)) ez) λk e0 _ f _ H=>?_
   have H:=qO H;refine Xn Z qC<|MxM.yZ λ_ hS=>?_
   have H:=H.Z hS;have H:=er.back [7,8,12,13,14,15] [0,1,2,3,4,5,6,16] Z H;have H:=un27 H;have H:=aIp<|H.U (rg [9,1,7,2,11,16]);refine⟨H.only,?_⟩;refine Xu (λk f=>yQ (vs:=[ag]) (off:=16) (H.Z f) 0 Z aq ap Z Z sz83 Z Z (sQ (xZ ((H.Z f).V (i:=17) Z))) (yT ⟨(xZ ((H.Z f).V (i:=17) Z)),T1⟩) (by show _<=18;decide)) λk _ f H=>Xn Z rC<|Xu (λk f=>yQ (vs:=[e0]) (off:=17) (H.Z f) 0 Z aq ap Z Z sz83 Z Z (sQ (xZ ((H.Z f).V (i:=18) Z))) (yT ⟨(xZ ((H.Z f).V (i:=18) Z)),T1⟩) (by show _<=18;decide)) λk _ f H=>nJ ep H λ_ H=>?_
   have H:=aIp H;obtain⟨_,H⟩:=zN (x:={P with c:=cE P.c,low:=bn,high:=ey}) H 5 6 17 18 Z Z Z Z (H.im 14 Z) (by decide);have H:=qO H;refine bE d λ_ e1 d=>?_
   obtain⟨e2,H⟩:=H.uf 0 15 Z Z (by decide) Z Z e1;have H:=qZ H
   cases d
   exact zF<|mt e2 (H.U (rg [4,7,2,2,0,1,14,1]))
  have H:=rZ H;have H:=H.addF (r:=(Rp.int .i8)) (cs:=[.int .i8 0]) (a:=0) Z;refine bE d λe3 e4 d=>?_
  obtain⟨_,H⟩:=H.uf 16 18 Z Z (by decide) Z Z e4;have H:=rZ H;obtain⟨_,H⟩:=zN (x:={af with c:=cE af.c,ring:=e3,known:=ba}) H 12 17 13 14 Z Z Z Z (H.im 15 Z) (by decide);have H:=qZ H;refine bE d λ_ e5 d=>?_
  obtain⟨e6,H⟩:=H.uf 11 14 Z Z (by decide) Z Z e5;have H:=aT H
  cases d
  exact js<|mt e6 (H.U (rg [0,10,13,1]))
 rintro _ ρ _ H;have H:=kD H;have d:=cf;refine SQ ?_;have e7:=H;have H:=H.rb;have m0:=H;refine yI H (rg [0,15]) (kz [0,0,0,0,1,0,0,0,0,1,0,0,0,0,3]) mixed ?_;refine XM (.pointer (some ⟨o,o27+l.toNat*18,none⟩))<|XM (.pointer (some ⟨o,o27+l.toNat*18,none⟩))<|Xn Z aBs<|bE d λt B d=>?_
 have C:=aJ (H.im 10 Z) D;obtain⟨m1,m2,m3,H⟩:=H.fV 10 Z C B Z;obtain⟨e8,e9,fa,fb,fc,fd,fe,ff,fg,rfl,H⟩:=zV H 11 Z;have H:=qO H;refine XH fC H 10 12 Z C B Z ?_;refine lE d λfh fi d=>XQ (uG (a:=t.at_) (b:=1) Z Z fi)<|XM (.pointer (some ⟨o,o27+l.toNat*18,none⟩))<|Xn Z aCk<|XH aKp H 10 11 Z C B Z ?_
 refine lE d λfj fk d=>?_
 obtain⟨m4,m5,fm⟩:=jS ((H.im 12 Z));refine XQ (yS (kF u82 fm) (congrArg (Value.int .i64) fk))<|bE d λa3 fn d=>XQ (aSf (j:=fh) (q:=fj) Z Z fn)<|Xn Z aBs<|Xu (λk f=>yQ (vs:=[i6 a3]) (off:=12) (H.Z f) 10 Z C B Z Z sz3 Z Z Z (yT ⟨Z,T1⟩) (by show _<=18;decide)) λk m6 f H=>nJ e7 H λm7 H=>?_
 refine zF<|KN<|SQ ?_;have fo:=H;have H:=H.rb;have fp:=H;have ah:=aT<|H.W [7,8,11,12,13,14] [0,1,2,3,4,5,6,15];have av:=H.firmH ah [7,8,11,12,13,14] 8 Z C B Z aA;have bp:=H.firmB ah (i:=9) Z (aWy [7,8,11,12,13,14] 7 Z);refine jJ H ah [1,2,6,7,8,9,10,11,12,13,14,15,16,18,19,20,21,22,23,24,25,26,27,28,29,30,31,32] 0 3 [4,5,17,33,34,35] [36,37,38,39] [.pure,.pure,.pure,.pure,.pure,.pure,.pure,.pure,.pure,.pure,.pure,.pure,.pure,.pure,.pure,.pure,.pure,.eff,.pure,.pure,.pure,.pure,.pure,.pure,.pure,.pure,.pure,.pure,.pure,.pure,.pure,.pure,.pure,.eff,.pure,.pure,.eff,.pure,.pure,.eff] ⟨T1,T1,T1,T1,T1,T1,T1,T1,T1,T1,T1,T1,T1,T1,T1,T1,T1,T1,T1,T1,T1,T1,T1,T1,T1,T1,T1,T1,T1,T1,T1,T1,T1,T1,T1,T1,T1,T1,T1,T1,T1⟩ mixed (by kernel_rfl) (by kernel_rfl) (by kernel_rfl) (by kernel_rfl) (by kernel_rfl) (by decide) ?_;have H:=ah;refine XM (.pointer (some ⟨o,o27+l.toNat*18,none⟩))<|XM (.pointer (some ⟨o,o27+l.toNat*18,none⟩))<|XM (gW E)<|Xn Z aHj<|XP (λk f=>yB fC Z (Cells.get (Blk.cells (bp k f)) (i:=6) Z))<|XM (.pointer (some ⟨o,o27+l.toNat*18,none⟩))<|Xn Z rX<|XQ (jT Z)<|XP (λk f=>yB fC Z (Cells.get (av k f) (i:=5) Z))<|lE d λfq fr d=>XQ (pO (a:=h.frames) (b:=t.c.Frames) Z Z fr)<|lE d λm8 fs d=>XQ (uG (a:=fq) (b:=1) Z Z fs)<|XM (.pointer (some ⟨o,o27+l.toNat*18,none⟩))<|Xn Z rC<|XP (λk f=>yB tH Z (Cells.get (av k f) (i:=17) Z))<|XM (gW E)<|Xn Z aHj<|XP (λk f=>yB fC Z (Cells.get (Blk.cells (bp k f)) (i:=6) Z))<|XM (.pointer (some ⟨o,o27+l.toNat*18,none⟩))<|Xn Z rX<|XQ (jT Z)<|XP (λk f=>yB fC Z (Cells.get (av k f) (i:=5) Z))<|lE d λft fu d=>XQ (pO (a:=h.frames) (b:=t.c.Frames) Z Z fu)<|lE d λm9 fv d=>XQ (uG (a:=ft) (b:=1) Z Z fv)<|MxM.yZ λ_ hS=>?_
 have H:=H.Z hS;refine MxM.XL_join (du:=185) (dv:=188) (λg1 g2 wl=> .pointer (some ⟨o,o27+l.toNat*18,none⟩)=g1/\ .pointer (some ⟨o,o27+l.toNat*18,none⟩)=g2/\Sm ah wl [.tr eX [G] ad h.moves,.tr eX [I] ae h.rules,.tr eX [e9] fa t.kids,.tr rw_6 [fb] fc t.ring,.tr aGy [fd] fe t.low,.tr aGy [ff] fg t.high,fZ U h.r.Phases,aI V h.r.Moves,bY X h.r.Rules,fZ Y h.names,uO v6 h.dens,jR v7 h.told,aH v8 h.phase,dF e8 t.c.Kids]) ?_ ?_ ?_
 ·refine XM (.pointer (some ⟨o,o27+l.toNat*18,none⟩))<|XQ (xW Z)<|MxM.yZ λ_ hS=>?_
  have H:=H.Z hS;exact⟨_,_,Z,H.only,Z,Z,H⟩
 ·refine XQ (xW Z)<|XM (.pointer (some ⟨o,o27+l.toNat*18,none⟩))<|MxM.yZ λ_ hS=>?_
  have H:=H.Z hS;exact⟨_,_,MxM.upd_comm _ (by decide) _ _,H.only,Z,Z,H⟩
 rintro M' _ _ _ ⟨rfl,rfl,H⟩;refine XQ (qC Z)<|XP (λk f=>yB tH Z (Cells.get (av k f) (i:=16) Z))<|bE d λbq fy d=>MxM.XL_effC oS Z Z Z (λk f=>yE en167 Z) (λk f=>Fbfw fy ((H.Z f).W [4] [])) ?_
 rintro k _ _ f ⟨f0,_,rfl,f4⟩;have H:=aT<|(H.Z f).back [4] [] Z f4;refine⟨_,Z,H.only,?_⟩;refine bE d λbr f5 d=>MxM.XL_effC oS Z Z Z (λk f=>yE en167 Z) (λk f=>Fbfw f5 ((H.Z f).W [4] [])) ?_
 rintro k _ _ f ⟨f6,_,rfl,f7⟩;have H:=aT<|(H.Z f).back [4] [] Z f7;refine⟨_,Z,H.only,?_⟩;refine Xn Z qC<|MxM.yZ λ_ hS=>?_
 have H:=H.Z hS;have H:=fp.back [7,8,11,12,13,14] [0,1,2,3,4,5,6,15] Z H;have H:=un24 H;have H:=qO<|H.U (rg [8,1,7,1,10,14]);refine⟨H.only,?_⟩;refine Xu (λk f=>yQ (vs:=[f0]) (off:=16) (H.Z f) 0 Z C B Z Z sz83 Z Z (sQ (xZ ((H.Z f).V (i:=14) Z))) (yT ⟨(xZ ((H.Z f).V (i:=14) Z)),T1⟩) (by show _<=18;decide)) λk _ f H=>Xn Z rC<|Xu (λk f=>yQ (vs:=[f6]) (off:=17) (H.Z f) 0 Z C B Z Z sz83 Z Z (sQ (xZ ((H.Z f).V (i:=15) Z))) (yT ⟨(xZ ((H.Z f).V (i:=15) Z)),T1⟩) (by show _<=18;decide)) λk _ f H=>nJ fo H λ_ H=>?_
 refine zF<|KN ?_;have H:=qO H;refine SQ<|bE d λa4 d f8=>jo H (rg [223,29]) (λ(g:(List Nat))=>[(251,vb a4.1)]) (λg=>[.tr cO [s] g a4.2]) (rg [0,1,2,1,7,7,3,2,14,1]) ?_ ?_
 ·have bt:=H;have H:=H.rb;have nn:=H;refine yI H (rg [0,29]) (kz [0,0,0,1,0,0,0,0,0,0,1,0,0,1,0,0,0,1,0,0,1,0,0,0,0,0,1,0,0]) mixed ?_;refine XM (.pointer (some ⟨o,o27+l.toNat*18,none⟩))<|Xn Z qC<|XH tH H 0 16 Z C B Z ?_;refine lE d λf9 ga d=>?_
  obtain⟨_,_,gb⟩:=jS ((H.im 14 Z));refine XQ (yS (kF u83 gb) (congrArg (Value.int .i64) ga))<|lE d λgc gd d=>XQ (bJ (vK (a:=f9) (b:=0) Z Z) gd)<|MxM.XL_splitb (b:=gc) Z Z Z Z (λa5=>?_) (λa5=>?_)
  ·have d:=aAt a5 d;refine XM (.pointer (some ⟨o,o27+l.toNat*18,none⟩))<|Xn Z rC<|XH tH H 0 17 Z C B Z ?_;refine bE d λge R d=>?_
   obtain⟨_,_,_,a6⟩:=wC (H.im 15 Z) R;refine XQ (xA u83 aId a6 Z (zY R).1 (zY R).2.1 Z Z)<|XQ (aKb Z) ?_;obtain⟨_,_,_,H⟩:=H.fV 15 Z a6 R Z;obtain⟨gf,gg⟩:=trF (H.im 16 Z);subst gf;obtain rfl:=dX gg;have H:=aG H;refine XH fC H 15 1 Z a6 R Z ?_;refine XM (.pointer (some ⟨o,o27+l.toNat*18,none⟩))<|Xn Z qC<|XH tH H 0 16 Z C B Z ?_;refine bE d λgh T d=>?_
   obtain⟨_,_,_,a7⟩:=wC (H.im 14 Z) T;refine XQ (xA u83 aId a7 Z (zY T).1 (zY T).2.1 Z Z)<|XQ (aKb Z) ?_;obtain⟨_,_,_,H⟩:=H.fV 14 Z a7 T Z;obtain⟨gj,gl⟩:=trF (H.im 17 Z);subst gj;obtain rfl:=dX gl;have H:=rZ H;refine XH fC H 16 1 Z a7 T Z ?_;refine lE d λgm gn d=>XQ (pO (a:=ge.n) (b:=gh.n) Z Z gn)<|XM (.pointer (some ⟨o,o27+l.toNat*18,none⟩))<|Xn Z rX<|XQ (nH Z)<|XH fC H 0 4 Z C B Z ?_
   refine lE d λgo gp d=>XQ (bJ (vK (a:=gm) (b:=t.c.N) Z Z) gp)<|XQ (qL (v:=vb go) Z Z)<|nJ bt H λ_ H=>?_
   have H:=rZ H;obtain⟨_,H⟩:=H.u0 16 17 Z Z (by decide) Z Z T;have H:=aG H;obtain⟨_,H⟩:=H.u0 14 15 Z Z (by decide) Z Z R;have H:=qO H;obtain⟨_,H⟩:=zN (x:={t with c:=cE t.c,at_:=a3,low:=bq,high:=br}) H 4 5 14 15 Z Z Z Z (H.im 13 Z) (by decide);have H:=dL H;refine bE d λ_ gq d=>?_
   obtain⟨gr,H⟩:=H.uf 0 12 Z Z (by decide) Z Z gq;have H:=dY H
   cases d
   exact zF<|mt gr (H.U [11,0,3,4,5,6,7,8,9,1,2,10])
  have d:=aBj a5 d;refine XO<|XO<|XO<|MxM.XL_offr oS Z Z Z ?_;refine XO<|XO<|MxM.XL_offr oS Z Z Z ?_;refine XO<|XO<|XO<|MxM.XL_offr oS Z Z Z ?_;refine XO<|XO<|MxM.XL_offr oS Z Z Z ?_;refine XO<|XO<|XO<|XO<|XO<|MxM.XL_offr oS Z Z Z ?_;refine XO<|XQ (rY (v:=vb false) Z Z)<|nJ bt H λ_ H=>?_
  have H:=qO H;obtain⟨_,H⟩:=zN (x:={t with c:=cE t.c,at_:=a3,low:=bq,high:=br}) H 4 5 14 15 Z Z Z Z (H.im 13 Z) (by decide);have H:=dL H;refine bE d λ_ gs d=>?_
  obtain⟨gt,H⟩:=H.uf 0 12 Z Z (by decide) Z Z gs;have H:=dY H
  cases d
  exact zF<|mt gt (H.U [11,0,3,4,5,6,7,8,9,1,2,10])
 rintro gu ρ _ H;have H:=dY H;have d:=f8;obtain⟨_,_⟩:=a4;refine WJ d ?_ ?_<;>intro d
 ·refine SR<|zA (i6 1)<|RM ?_
  cases d
  exact zH<|zG<|p1z ⟨gu,ad,ae,Z,H.U [0,9,10,1]⟩
 refine WZ<|SQ<|SQ ?_;have gv:=H;have H:=H.rb;have og:=H;refine yI H (rg [0,10]) (kz [0,0,0,1,0,0,0,0,1,0]) mixed ?_;refine XM (.pointer (some ⟨o,o27+l.toNat*18,none⟩))<|Xn Z aLs<|bE d λaw ai d=>?_
 have a8:=aJ (H.im 0 Z) D;obtain⟨_,_,_,H⟩:=H.fV 0 Z a8 ai Z;obtain⟨_,_,_,_,_,_,_,_,_,rfl,H⟩:=zV H 12 Z;have H:=aG H;refine XH fC H 11 15 Z a8 ai Z ?_;refine XM (.pointer (some ⟨o,o27+l.toNat*18,none⟩))<|Xn Z rX<|XQ (jT Z)<|XH fC H 11 5 Z a8 ai Z ?_;refine lE d λ_ gw d=>XQ (bJ (aGv (a:=aw.known) (b:=aw.c.Frames) Z Z) gw)<|nJ gv H λ_ H=>?_
 refine zF<|KN<|WJ d ?_ ?_<;>intro d
 ·refine SR<|zA (i6 2)<|RM ?_;have H:=aG H;obtain⟨_,H⟩:=zN (x:=aw) H 12 13 14 15 Z Z Z Z (H.im 16 Z) (by decide);have H:=aT H;obtain⟨gx,H⟩:=H.u0 11 13 Z Z (by decide) Z Z ai;have H:=dL H
  cases d
  exact zH<|zG<|p1z ⟨gx,ad,ae,Z,H.U [12,8,9,0]⟩
 refine WZ<|SR<|zA (i6 0)<|RM ?_;have H:=aG H;obtain⟨_,H⟩:=zN (x:=aw) H 12 13 14 15 Z Z Z Z (H.im 16 Z) (by decide);have H:=aT H;obtain⟨gy,H⟩:=H.u0 11 13 Z Z (by decide) Z Z ai;have H:=dL H
 cases d
 exact zH<|p1z ⟨gy,ad,ae,Z,H.U [12,8,9,0]⟩
theorem Fcww {b:gG}{l:Str}{c:Nat}{n o q s t u z d f h:Value}{A B C:List Nat}{r:Int}(a:Fcw b l=some r)(H:Hd O w w S [.tr cO [d] A b.nodes,.tr eX [f] B b.moves,.tr eX [h] C b.rules,.blk c [n,o,q,s,t,u,i6 b.frames,z,d,i6 b.first,f,h] 77,fZ n b.r.Phases,aI o b.r.Moves,bY q b.r.Rules,fZ s b.names,uO t b.dens,jR u b.told,aH z b.phase]):
  Cl 135 [gW c,sb l] w λe j=> ∃J u27 u28,e= .returned (i6 r)/\Hd O w j S [.tr cO [d] J b.nodes,.tr eX [f] u27 b.moves,.tr eX [h] u28 b.rules,.blk c [n,o,q,s,t,u,i6 b.frames,z,d,i6 b.first,f,h] 77]:=by
 refine CW 42 Tryz.func135 ?_;refine SR<|zA (i6 0)<|RM<|SR<|zA (i6 0)<|RM<|bE a λF a K=>sJ H (rg [5,20]) [(5,i6 F)] ?_ ?_;refine SR<|zA (i6 0)<|RM<|zJ<|lo a H (rg [5,20]) (λx (y:Unit)=>[(5,i6 x.1),(6,i6 x.2)]) (λx y=>[]) (rg [0,11]) () (H.U (rg [0,11])) ?_;clear H a;rintro _ ⟨L,D⟩ _ ρ _ H a;have H:=kD H;refine SQ<|SR<|zB (i6 D)<|zB (gW c)<|nf Z aHa<|Ld aBt H 3 7 Z Z<|ln a (H.im 10 Z) u62 λ_ a=>eG a λ_ a=>RM<|WJ a (λa=>WZ<|bE a λM a N=>sJ H (rg [5,1,16,9]) [(5,i6 M)] ?_ ?_) λa=>?_;refine zJ<|SR<|zB (gW c)<|nf Z aHa<|Ld aBt H 3 7 Z Z<|zB (i6 D)<|bE a λP Q a=>rea H (H.im 10 Z) (vb P) Q u62 sz4 pF λ_ _ H=>RM<|WJ a (λa=>zD<|zB (i6 L)<|eH a λR a=>zA (i6 R) ?_) λa=>?_;cases a;exact yP<|zO<|zF<|mt () (H.U (rg [0,11]));cases a;exact yF<|zO<|zF<|mt () (H.U (rg [0,11]));rintro _ ρ _ H;have a:=N;exact zD<|zB (i6 D)<|eH a λT a=>zA (i6 T)<|jn<|me a () (H.U (rg [0,11]));cases a;exact yA<|zT<|zT<|zW<|zF<|mt () (H.U (rg [0,11]));rintro _ ρ _ H;have a:=K;refine SQ<|SQ ?_;have U:=H;have H:=H.rb;have au:=H;refine yI H (rg [0,14]) (kz [0,0,0,1,0,0,0,0,1,0,1,0,1,0]) mixed ?_;refine XM (gW c)<|Xn Z aHa<|XR aBt H 3 7 Z Z<|XM (gW c)<|Xn Z aEg<|XQ (aP Z)<|XR aC H 3 0 Z Z<|XM (sb l) ?_;have V:=H;refine bE a λG X a=>MxM.XL_call oS Z Z Z (v:=i6 G) (λj k=>yE aYb Z) (λj k=>xI (aXt X ((H.Z k).W [] [4]))) ?_;have H:=V
 refine bE a λI E a=>?_;obtain⟨Y,aa,_,ab,ac,ad,ae,af,ag⟩:=xH (H.im 10 Z) E;obtain rfl:ab=[vb I]:=ad;have H:=H.fz (.at Y (aa+G.toNat*1) _) ⟨ae,af,ag⟩;refine XQ (xA u62 sz4 ac Z (zY E).1 (zY E).2.1 Z Z)<|MxM.xC oS Z Z Z (λj k=>yB pF Z (Cells.get ((H.Z k).V (i:=11) Z).2.2 (i:=0) Z)) ?_;refine lE a λ_ ah a=>XQ (bJ (aHe (p:=I) Z) ah)<|nJ U H λ_ H=>?_;refine zF<|KN<|WJ a (λa=>SR<|zA (i6 1)<|RM ?_) λa=>?_;cases a;exact zH<|zG<|p1z ⟨A,B,C,Z,H.U [0,1,2,3]⟩;refine WZ<|SR<|zB (i6 F)<|fG a λ_ a=>bE a λai aj a=>RC aLf (aMw aj (H.W [] [])) H λ_ H=>zA (i6 ai)<|RM ?_;cases a;exact zH<|p1z ⟨A,B,C,Z,H.U [0,1,2,3]⟩
theorem Fadw (f:gG)(o:Int)(k:Nat)(C D E F G I J p:Value)(ag:List Nat)(y:Value)(z:List Nat)(A:Value)(B:List Nat)(q o27 R:Nat)(T:p= .slice (some ⟨q,o27,none⟩) f.nodes.length R)(r:Int×(List gI))(d:Fad f o=some r)(H:Hd O w w S [.tr cO [p] ag f.nodes,.tr eX [y] z f.moves,.tr eX [A] B f.rules,.blk k [C,D,E,F,G,I,i6 f.frames,J,p,i6 f.first,y,A] 77,fZ C f.r.Phases,aI D f.r.Moves,bY E f.r.Rules,fZ F f.names,uO G f.dens,jR I f.told,aH J f.phase]):
  Cl 92 [gW k,.pointer (some ⟨q,o27+o.toNat*18,none⟩)] w λe i=> ∃ah ai aj,e= .returned (i6 r.1)/\Hd O w i S [.tr cO [p] ah r.2,.tr eX [y] ai f.moves,.tr eX [A] aj f.rules,.blk k [C,D,E,F,G,I,i6 f.frames,J,p,i6 f.first,y,A] 77]:=by
 refine CW 101 Tryz.func92 ?_;refine SR<|zA (i6 0)<|RM<|SR<|zB (.pointer (some ⟨q,o27+o.toNat*18,none⟩))<|nf Z rX<|bE d λh l d=>?_
 have M:=aJ (H.im 0 Z) T;obtain⟨_,_,_,H⟩:=H.fV 0 Z M l Z;obtain⟨U,_,_,_,_,_,_,_,_,rfl,H⟩:=zV H 11 Z;have H:=qO H;refine zK (yS (yC (cs:=[i6 h.c.Kind,sb h.c.Name,sb h.c.Other,i6 h.c.Op,i6 h.c.N,i6 h.c.Frames,U]) eQ Z eP Z (Cells.drop (H.holeW 10 Z M l Z aA) 0 7)) Z)<|xb (yK nD H) λ_ _ H=>xu (zZ (vs:=[i6 h.c.Kind,sb h.c.Name,sb h.c.Other,i6 h.c.Op,i6 h.c.N,i6 h.c.Frames,U]) H 16 Z eP Z Z Z ⟨Z,Z,Z,Z,Z,Z,(xM (H.im 15 Z)),T1⟩ Z) λ_ H=>RM<|SQ<|SR<|zK (bP Z)<|Ld fC H 16 0 Z Z<|RM<|zJ<|SR<|fG d λak d=>zA (vb ak)<|RM<|WJ d ?_ ?_<;>intro d
 ·refine SR<|zA (i6 2)<|RM ?_;have H:=aG H;obtain⟨_,H⟩:=zN (x:=h) H 11 12 13 14 Z Z Z Z (H.im 15 Z) (by decide);have H:=aT H;obtain⟨al,H⟩:=H.u0 10 13 Z Z (by decide) Z Z l;have H:=dL H
  cases d
  exact zH<|zL<|zG<|p1z ⟨al,z,B,Z,H.U [12,0,1,2]⟩
 refine SR<|fG d λam d=>zA (vb am)<|RM<|WJ d ?_ ?_<;>intro d
 ·refine SR<|zA (i6 1)<|RM ?_;have H:=aG H;obtain⟨_,H⟩:=zN (x:=h) H 11 12 13 14 Z Z Z Z (H.im 15 Z) (by decide);have H:=aT H;obtain⟨an,H⟩:=H.u0 10 13 Z Z (by decide) Z Z l;have H:=dL H
  cases d
  exact zH<|zL<|zG<|p1z ⟨an,z,B,Z,H.U [12,0,1,2]⟩
 refine SR<|fG d λao d=>zA (vb ao)<|RM<|WJ d ?_ ?_<;>intro d
 ·refine SR<|zB (gW k)<|zK (kR Z)<|Ld dC H 16 1 Z Z ?_;have H:=aG H;obtain⟨_,H⟩:=zN (x:=h) H 11 12 13 14 Z Z Z Z (H.im 15 Z) (by decide);have H:=aT H;obtain⟨_,H⟩:=H.u0 10 13 Z Z (by decide) Z Z l;have H:=dL H;obtain⟨⟨n,P⟩,ap,d⟩:=yD d;refine cAc bAq (Fafw ap (H.W [12,0,1,2] [3,4,5,6,7,8,9])) λV X Y _ aq=>?_
  have H:=dL<|H.back [12,0,1,2] [3,4,5,6,7,8,9] Z aq;refine zB (.tuple #[.agg [i6 n.N,vb n.Known].toArray,i6 P])<|zK (zM (v:= .agg [i6 n.N,vb n.Known].toArray) Z Z)<|zK (zM (v:=i6 P) Z Z)<|xb (yK vM H) λ_ _ H=>xu (zZ (vs:=[i6 n.N,vb n.Known]) H 13 Z rE Z Z Z ⟨Z,Z,T1⟩ Z) λ_ H=>zA (i6 P)<|RM<|SQ<|SR<|zK (wO Z)<|Ld pF H 13 1 Z Z<|bT d λ_ d=>RM<|WJ d ?_ ?_<;>intro d
  ·refine SR<|zA (i6 0)<|RM ?_
   cases d
   exact zH<|zG<|zL<|zG<|p1z ⟨V,X,Y,Z,H.U (rg [9,4])⟩
  refine WZ<|SQ ?_;have ar:=H;have H:=H.rb;have cq:=H;refine yI H (rg [0,11]) (kz [0,1,0,1,0,1,0,4,4,4,0]) mixed ?_;refine XQ (vJ Z)<|XR fC H 8 3 Z Z<|XQ (mV Z)<|XR fC H 13 0 Z Z<|XQ (nH Z)<|XR fC H 8 4 Z Z<|lE d λ_ au d=>XQ (pO (a:=n.N) (b:=h.c.N) Z Z au) ?_
  have av:=H;refine bE d λaw ax d=>MxM.XL_fcall oS Z Z Z (v:=i6 aw) (λi j=>yE aMm Z) (λi j=>xI (aXi ax (Hd.fresh0 i))) ?_
  have H:=av;have ay:=H;refine bE d λaz a0 d=>MxM.XL_fcall oS Z Z Z (v:=vb az) (λi j=>yE en131 Z) (λi j=>xI (Ffew a0 (Hd.fresh0 i))) ?_
  have H:=ay;have a1:=H;refine bE d λaa a2 d=>MxM.XL_fcall oS Z Z Z (v:=i6 aa) (λi j=>yE en130 Z) (λi j=>xI (Fc2w a2 (Hd.fresh0 i))) ?_
  have H:=a1;refine XQ (yL (v:=i6 aa) Z)<|nJ ar H λ_ H=>?_
  refine zF<|KN ?_;have H:=kD<|H.U (rg [0,7,9,4])
  cases d
  exact zH<|zL<|zG<|p1z ⟨V,X,Y,Z,H.U [7,8,9,10]⟩
 refine SR<|fG d λa3 d=>zA (vb a3)<|RM<|WJ d ?_ ?_<;>intro d
 ·refine SR<|zB (gW k)<|zK (kR Z)<|Ld dC H 16 1 Z Z ?_;have H:=aG H;obtain⟨_,H⟩:=zN (x:=h) H 11 12 13 14 Z Z Z Z (H.im 15 Z) (by decide);have H:=aT H;obtain⟨_,H⟩:=H.u0 10 13 Z Z (by decide) Z Z l;have H:=dL H;obtain⟨⟨s,K⟩,a4,d⟩:=yD d;refine cAc bAq (Fafw a4 (H.W [12,0,1,2] [3,4,5,6,7,8,9])) λ_ _ _ _ a5=>?_
  have H:=dL<|H.back [12,0,1,2] [3,4,5,6,7,8,9] Z a5;refine zB (.tuple #[.agg [i6 s.N,vb s.Known].toArray,i6 K])<|zK (zM (v:= .agg [i6 s.N,vb s.Known].toArray) Z Z)<|zK (zM (v:=i6 K) Z Z)<|xb (yK vM H) λc0 _ H=>xu (zZ (vs:=[i6 s.N,vb s.Known]) H 13 Z rE Z Z Z ⟨Z,Z,T1⟩ Z) λc2 H=>zA (i6 K)<|RM<|SR<|zB (gW k)<|zK (aCn Z)<|Ld dC H 8 2 Z Z ?_
  obtain⟨⟨t,L⟩,a6,d⟩:=yD d;refine cAc bAq (Fafw a6 (H.W [9,10,11,12] [0,1,2,3,4,5,6])) λab ac ad c3 a7=>?_
  have H:=aT<|H.back [9,10,11,12] [0,1,2,3,4,5,6] Z a7;refine zB (.tuple #[.agg [i6 t.N,vb t.Known].toArray,i6 L])<|zK (zM (v:= .agg [i6 t.N,vb t.Known].toArray) Z Z)<|zK (zM (v:=i6 L) Z Z)<|xb (yK vM H) λc4 c5 H=>xu (zZ (vs:=[i6 t.N,vb t.Known]) H 14 Z rE Z Z Z ⟨Z,Z,T1⟩ Z) λ_ H=>zA (i6 L)<|RM<|SQ<|bE d λa8 d a9=>sJ H (rg [60,8]) [(67,vb a8)] ?_ ?_
  ·refine zD<|zK (wO Z)<|Ld pF H 9 1 Z Z<|bT d λ_ d=>RJ d ?_ ?_<;>intro d
   ·refine zS<|zS<|zS<|pt (vb true) ?_
    cases d
    exact jn<|mt () (H.U (rg [0,15]))
   refine zK (wO Z)<|Ld pF H 14 1 Z Z<|bT d λba d=>pf (vb ba) ?_
   cases d
   exact jn<|mt () (H.U (rg [0,15]))
  rintro _ _ _ H;have d:=a9;refine WJ d ?_ ?_<;>intro d
  ·refine SR<|zA (i6 0)<|RM ?_;have H:=kD<|H.U (rg [0,7,10,4])
   cases d
   exact zH<|zG<|zL<|zG<|p1z ⟨ab,ac,ad,Z,H.U [7,8,9,10]⟩
  refine WZ<|SQ ?_;have bb:=H;have H:=H.rb;have c9:=H;refine yI H (rg [0,12]) (kz [0,1,0,1,0,0,1,0,4,4,4,0]) mixed ?_;refine XQ (vJ Z)<|XR fC H 8 3 Z Z<|XQ (mV Z)<|XR fC H 9 0 Z Z<|XM (i6 K)<|XQ (mV Z)<|XR fC H 14 0 Z Z<|XM (i6 L) ?_;have bc:=H;refine bE d λbd be d=>MxM.XL_fcall oS Z Z Z (v:=i6 bd) (λi j=>yE (fH Tryz.func133) Z) (λi j=>xI (Fdvw be (Hd.fresh0 i))) ?_
  have H:=bc;have bf:=H;refine bE d λbg bh d=>MxM.XL_fcall oS Z Z Z (v:=vb bg) (λi j=>yE en131 Z) (λi j=>xI (Ffew bh (Hd.fresh0 i))) ?_
  have H:=bf;have bi:=H;refine bE d λae bj d=>MxM.XL_fcall oS Z Z Z (v:=i6 ae) (λi j=>yE en130 Z) (λi j=>xI (Fc2w bj (Hd.fresh0 i))) ?_
  have H:=bi;refine XQ (yL (v:=i6 ae) Z)<|nJ bb H λ_ H=>?_
  refine zF<|KN ?_;have H:=kD<|H.U (rg [0,7,10,4])
  cases d
  exact zH<|zL<|zG<|p1z ⟨ab,ac,ad,Z,H.U [7,8,9,10]⟩
 refine SR<|fG d λbk d=>zA (vb bk)<|RM<|WJ d ?_ ?_<;>intro d
 ·refine SR<|zB (gW k)<|zB (.pointer (some ⟨q,o27+o.toNat*18,none⟩)) ?_;have H:=aG H;obtain⟨_,H⟩:=zN (x:=h) H 11 12 13 14 Z Z Z Z (H.im 15 Z) (by decide);have H:=aT H;obtain⟨bl,H⟩:=H.u0 10 13 Z Z (by decide) Z Z l;have H:=dL H;obtain⟨⟨bm,_⟩,bn,d⟩:=yD d;refine cAc (fH Tryz.func134) (Fdkw (gG.mk (Rules.mk f.r.Phases f.r.Moves f.r.Rules) f.names f.dens f.told f.frames f.phase f.nodes f.first f.moves f.rules) o k C D E F G I J p bl y z A B q o27 R (aJ (H.im 12 Z) T) _ bn (H.W [12,0,1,2] [3,4,5,6,7,8,9])) λbo bp bq _ br=>?_
  have H:=dL<|H.back [12,0,1,2] [3,4,5,6,7,8,9] Z br;refine zA (i6 bm)<|RM ?_
  cases d
  exact zH<|zL<|zG<|p1z ⟨bo,bp,bq,Z,H.U (rg [9,4])⟩
 refine SR<|fG d λbt d=>zA (vb bt)<|RM<|WJ d ?_ ?_<;>intro d
 ·refine SR<|zB (gW k)<|zK (kR Z)<|Ld dC H 16 1 Z Z ?_;have H:=aG H;obtain⟨_,H⟩:=zN (x:=h) H 11 12 13 14 Z Z Z Z (H.im 15 Z) (by decide);have H:=aT H;obtain⟨_,H⟩:=H.u0 10 13 Z Z (by decide) Z Z l;have H:=dL H;refine bE d λbu bv d=>cAc (fH Tryz.func135) (Fcww bv (H.W [12,0,1,2] [3,4,5,6,7,8,9])) λbw bx bz _ b0=>?_
  have H:=dL<|H.back [12,0,1,2] [3,4,5,6,7,8,9] Z b0;refine zA (i6 bu)<|RM ?_
  cases d
  exact zH<|zL<|zG<|p1z ⟨bw,bx,bz,Z,H.U (rg [9,4])⟩
 refine yF<|zO<|zF<|KN<|SQ ?_;have b1:=H;have H:=H.rb;have dh:=H;refine yI H (rg [0,12]) (kz [0,0,0,1,0,0,0,1,0,0,1,0]) mixed ?_;refine XM (gW k)<|Xn Z uA<|XR aCm H 2 8 Z Z<|XM (.pointer (some ⟨q,o27+o.toNat*18,none⟩))<|Xn Z fa85_2<|XH fC H 10 8 Z M l Z ?_;refine bE d λaf u d=>?_
 obtain⟨_,_,_,Q⟩:=wC (H.im 10 Z) u;refine XQ (xA u75 aQu Q Z (zY u).1 (zY u).2.1 Z Z)<|XQ (mO Z) ?_;have H:=aG H;obtain⟨_,H⟩:=zN (x:=h) H 11 12 13 14 Z Z Z Z (H.im 15 Z) (by decide);have H:=aT H;obtain⟨_,H⟩:=H.u0 10 13 Z Z (by decide) Z Z l;have H:=dL H;obtain⟨_,_,_,H⟩:=H.fV 12 Z Q u Z;obtain⟨_,_,_,_,_,_,_,_,_,rfl,H⟩:=zV H 13 Z;have H:=rZ H;refine XH fC H 12 9 Z Q u Z ?_;refine XQ (yL (v:=i6 af.now) Z)<|nJ b1 H λd0 H=>?_
 refine zF<|KN ?_;have H:=rZ H;obtain⟨d1,H⟩:=zN (x:=af) H 13 14 15 16 Z Z Z Z (H.im 17 Z) (by decide);have H:=qZ H;obtain⟨b2,H⟩:=H.u0 12 14 Z Z (by decide) Z Z u;have H:=aT H
 cases d
 exact zH<|p1z ⟨b2,z,B,Z,H.U [13,0,1,2]⟩
theorem Fhlw {b r:Int}(a:Fhl b=some r)(H:Hd O w w S []):
  Rt 93 [i6 b] (i6 r) w O S []:=by
 refine CW 8 Tryz.func93 ?_;refine SR<|zA (i6 0)<|RM<|SQ<|SR<|zB (i6 b)<|fG a λ_ a=>RM<|WJ a (λa=>SR<|zB (i6 b)<|zA (i6 b)<|RM ?_) λa=>?_;cases a;exact zH<|zG<|p1z ⟨Z,H.U []⟩;refine WZ<|SR<|zB (i6 b)<|aIu a λc a=>zA (i6 c)<|RM ?_;cases a;exact zH<|p1z ⟨Z,H.U []⟩
theorem Fdew (b:gG)(f:Int)(l:Nat)(q s t u v z A c:Value)(L:List Nat)(n:Value)(B:List Nat)(o:Value)(C:List Nat)(h o27 T:Nat)(M:c= .slice (some ⟨h,o27,none⟩) b.nodes.length T)(r:Int)(a:Fde b f=some r)(H:Hd O w w S [.tr cO [c] L b.nodes,.tr eX [n] B b.moves,.tr eX [o] C b.rules,.blk l [q,s,t,u,v,z,i6 b.frames,A,c,i6 b.first,n,o] 77,fZ q b.r.Phases,aI s b.r.Moves,bY t b.r.Rules,fZ u b.names,uO v b.dens,jR z b.told,aH A b.phase]):
  Cl 94 [gW l,.pointer (some ⟨h,o27+f.toNat*18,none⟩)] w λe U=> ∃V X Y,e= .returned (i6 r)/\Hd O w U S [.tr cO [c] V b.nodes,.tr eX [n] X b.moves,.tr eX [o] Y b.rules,.blk l [q,s,t,u,v,z,i6 b.frames,A,c,i6 b.first,n,o] 77]:=by
 refine CW 65 Tryz.func94 ?_;refine SR<|zA (i6 0)<|RM<|SR<|zA (i6 0)<|zA (i6 0)<|RM<|bE a λD a aa=>jo H (rg [5,34]) (λ(g:(List Nat))=>[(5,i6 D.1),(6,i6 D.2)]) (λg=>[.tr cO [c] g b.nodes]) (rg [0,1,2,10]) ?_ ?_;refine SR<|zA (i6 0)<|RM<|zJ<|lo a H (rg [5,34]) (λx (y:(List Nat))=>[(5,i6 x.1),(6,i6 x.2.1),(7,i6 x.2.2)]) (λx y=>[.tr cO [c] y b.nodes]) (rg [0,1,2,10]) L (H.U (rg [0,11])) ?_;clear H a;rintro _ ⟨ab,ac,E⟩ a2 ρ a3 H a;have H:=kD H;refine SQ<|SR<|zB (i6 E)<|zB (.pointer (some ⟨h,o27+f.toNat*18,none⟩))<|nf Z aBb<|bE a λN k a=>?_;have F:=aJ (H.im 0 Z) M;obtain⟨a4,a5,_,H⟩:=H.fV 0 Z F k Z;obtain⟨_,_,a9,_,_,_,_,_,_,rfl,H⟩:=zV H 11 Z;have H:=qO H;refine RH kC H 10 7 Z F k Z<|lr a (H.im 11 Z) u38 λ_ a=>eG a λ_ a=>RM<|WJ a (λa=>WZ<|bE a λG a ad=>jo H (rg [5,2,17,22]) (λ(g:(List Nat))=>[(5,i6 G.1),(6,i6 G.2)]) (λg=>[.tr cO [c] g b.nodes]) (rg [1,10,0,1,16,1]) ?_ ?_) λa=>?_;refine zJ<|SQ ?_;have ae:=H;have H:=H.rb;have bi:=H;refine yI H (rg [0,14]) (kz [0,0,0,1,0,0,0,1,0,0,1,0,0,1]) mixed ?_;refine XM (gW l)<|Xn Z uA<|XR aCm H 2 8 Z Z<|XM (.pointer (some ⟨h,o27+f.toNat*18,none⟩))<|Xn Z aBb<|XH kC H 10 7 Z F k Z<|XM (i6 E) ?_;refine bE a λaf i a=>?_;obtain⟨_,_,_,I⟩:=wC (H.im 11 Z) i;refine XQ (xA u38 sz3 I Z (zY i).1 (zY i).2.1 Z Z) ?_;obtain⟨ag,_,_,H⟩:=H.fV 11 Z I i Z;obtain⟨ah,ai⟩:=trF (H.im 16 Z);subst ah;obtain rfl:ag=[i6 af]:=ai
 have H:=aG H;refine XH fC H 15 0 Z I i Z ?_;refine bE a λJ d a=>?_;obtain⟨_,_,_,K⟩:=wC (H.im 10 Z) d;refine XQ (xA u75 aQu K Z (zY d).1 (zY d).2.1 Z Z)<|XQ (mO Z) ?_;have H:=aG H;obtain⟨_,H⟩:=H.u0 15 16 Z Z (by decide) Z Z i;have H:=qO H;obtain⟨_,H⟩:=zN (x:=N) H 15 11 12 13 Z Z Z Z (H.im 14 Z) (by decide);have H:=dL H;obtain⟨_,H⟩:=H.u0 10 12 Z Z (by decide) Z Z k;have H:=dY H;obtain⟨_,_,_,H⟩:=H.fV 11 Z K d Z;obtain⟨_,_,_,_,_,_,_,_,_,rfl,H⟩:=zV H 12 Z;have H:=aG H;refine XH fC H 11 9 Z K d Z ?_;refine nJ ae H λ_ H=>?_;refine zF<|KN<|zJ<|SR<|fG a λaj a=>zA (vb aj)<|RM<|WJ a (λa=>zD<|zB (i6 ab)<|eH a λak a=>zA (i6 ak) ?_) λa=>?_;have H:=aG H;obtain⟨_,H⟩:=zN (x:=J) H 12 13 14 15 Z Z Z Z (H.im 16 Z) (by decide);have H:=aT H;obtain⟨al,H⟩:=H.u0 11 13 Z Z (by decide) Z Z d;have H:=dL H;cases a;exact yP<|zO<|zO<|zF<|mt al (H.U (rg [0,10,12,1,10,1]));refine SR<|fG a λam a=>zA (vb am)<|RM<|WJ a (λa=>zD<|zB (i6 ac)<|eH a λan a=>zA (i6 an) ?_) λa=>?_;have H:=aG H;obtain⟨_,H⟩:=zN (x:=J) H 12 13 14 15 Z Z Z Z (H.im 16 Z) (by decide);have H:=aT H;obtain⟨ao,H⟩:=H.u0 11 13 Z Z (by decide) Z Z d;have H:=dL H;cases a;exact yP<|zO<|zO<|zF<|mt ao (H.U (rg [0,10,12,1,10,1]));have H:=aG H;obtain⟨_,H⟩:=zN (x:=J) H 12 13 14 15 Z Z Z Z (H.im 16 Z) (by decide);have H:=aT H
 obtain⟨ap,H⟩:=H.u0 11 13 Z Z (by decide) Z Z d;have H:=dL H;cases a;exact yF<|zO<|zO<|zF<|mt ap (H.U (rg [0,10,12,1,10,1]));rintro aq ρ _ H;have H:=dY H;have a:=ad;obtain⟨_,_⟩:=G;exact zD<|zB (i6 E)<|eH a λar a=>zA (i6 ar)<|jn<|me a aq (H.U (rg [10,1,0,10]));have H:=qO H;obtain⟨_,H⟩:=zN (x:=N) H 11 12 13 14 Z Z Z Z (H.im 15 Z) (by decide);have H:=dL H;obtain⟨au,H⟩:=H.u0 10 12 Z Z (by decide) Z Z k;have H:=dY H;cases a;exact yA<|zT<|zT<|zW<|zF<|mt au (H.U (rg [11,1,0,10]));rintro _ ρ _ H;have H:=kD H;have a:=aa;obtain⟨P,Q⟩:=D;refine SQ<|SR<|zB (.pointer (some ⟨h,o27+f.toNat*18,none⟩))<|nf Z rX<|zK (bP Z)<|bE a λR j a=>?_;have p:=aJ (H.im 0 Z) M;obtain⟨_,_,_,H⟩:=H.fV 0 Z p j Z;obtain⟨_,_,_,_,_,_,_,_,_,rfl,H⟩:=zV H 11 Z;have H:=qO H;refine RH fC H 10 0 Z p j Z<|fG a λ_ a=>RM<|WJ a (λa=>SR<|zB (i6 P)<|zB (.pointer (some ⟨h,o27+f.toNat*18,none⟩))<|nf Z aBb<|RH kC H 10 7 Z p j Z<|lr a (H.im 11 Z) u38 λ_ a=>fG a λ_ a=>zB (i6 Q)<|pU a λ_ a=>bE a λav aw a=>RC aLf (aMw aw (H.W [] [])) H λ_ H=>zA (i6 av)<|RM ?_) λa=>?_;have H:=qO H;obtain⟨_,H⟩:=zN (x:=R) H 11 12 13 14 Z Z Z Z (H.im 15 Z) (by decide);have H:=dL H;obtain⟨ax,H⟩:=H.u0 10 12 Z Z (by decide) Z Z j;have H:=dY H;cases a;exact zH<|zG<|p1z ⟨ax,B,C,Z,H.U [11,0,1,2]⟩;refine WZ<|SR<|zB (i6 P)<|pU a λc0 a=>zB (i6 Q)<|zB (.pointer (some ⟨h,o27+f.toNat*18,none⟩))<|nf Z aBb<|RH kC H 10 7 Z p j Z<|lr a (H.im 11 Z) u38 λ_ a=>fG a λc2 a=>bE a λay az a=>RC aLf (aMw az (H.W [] [])) H λc3 H=>zA (i6 ay)<|RM ?_
 have H:=qO H;obtain⟨c4,H⟩:=zN (x:=R) H 11 12 13 14 Z Z Z Z (H.im 15 Z) (by decide);have H:=dL H;obtain⟨a0,H⟩:=H.u0 10 12 Z Z (by decide) Z Z j;have H:=dY H;cases a;exact zH<|p1z ⟨a0,B,C,Z,H.U [11,0,1,2]⟩
theorem Fbhw (B:List gI)(f z:Int)(s:Value)(U:List Nat)(h i V:Nat)(A:s= .slice (some ⟨h,i,none⟩) B.length V)(r:(List gI))(d:Fbh B f z=some r)(H:Hd O w w S [.tr cO [s] U B]):
  Cl 95 [.pointer (some ⟨h,i+f.toNat*18,none⟩),i6 z] w λe t=> ∃X,e= .returned (.tuple #[])/\Hd O w t S [.tr cO [s] X r]:=by
 refine CW 77 Tryz.func95 ?_;refine bE d λY d aa=>jo H (rg [4,29]) (λ(g:(List Nat))=>[]) (λg=>[.tr cO [s] g Y]) [0] ?_ ?_
 ·refine SQ ?_;have ab:=H;have H:=H.rb;have bg:=H;refine yI H (rg [0,11]) (kz [0,0,0,1,0,0,0,1,0,1,0]) mixed ?_;refine XM (.pointer (some ⟨h,i+f.toNat*18,none⟩))<|Xn Z aCk<|bE d λu k d=>?_
  have n:=aJ (H.im 0 Z) A;obtain⟨_,_,_,H⟩:=H.fV 0 Z n k Z;obtain⟨_,_,_,_,_,_,_,_,_,rfl,H⟩:=zV H 1 Z;have H:=un6 H;refine XH aKp H 0 11 Z n k Z ?_;refine XM (.pointer (some ⟨h,i+f.toNat*18,none⟩))<|Xn Z aBs<|XH fC H 0 12 Z n k Z ?_;refine bE d λac l d=>?_
  obtain⟨_,_,_,C⟩:=wC (H.im 2 Z) l;refine XQ (xA u82 aIb C Z (zY l).1 (zY l).2.1 Z Z) ?_;obtain⟨ad,_,_,H⟩:=H.fV 2 Z C l Z;obtain⟨ae,af⟩:=trF (H.im 6 Z);subst ae;obtain rfl:ad=[.int .i8 ac]:=af;have H:=un7 H;refine XH one224 H 5 0 Z C l Z ?_;refine lE d λ_ ag d=>XQ (pI u224 u3 Z ag)<|nJ ab H λ_ H=>?_
  refine zF<|KN<|zJ<|SR<|fG d λah d=>zA (vb ah)<|RM<|WJ d ?_ ?_<;>intro d
  ·refine zD<|zB (.pointer (some ⟨h,i+f.toNat*18,none⟩))<|nf Z aEj<|RH fC H 0 13 Z n k Z<|aIu d λL d=>nf Z aEj<|xu (yQ (vs:=[i6 L]) (off:=13) H 0 Z n k Z Z sz3 Z Z Z (yT ⟨Z,T1⟩) (by show _<=18;decide)) λ_ H=>?_
   have H:=un7 H;obtain⟨_,H⟩:=H.u0 5 6 Z Z (by decide) Z Z l;have H:=un6 H;obtain⟨_,H⟩:=zN (x:={u with c:=cE u.c,yes:=L}) H 1 5 2 3 Z Z Z Z (H.im 4 Z) (by decide);have H:=un3 H;refine bE d λ_ ai d=>?_
   obtain⟨aj,H⟩:=H.uf 0 2 Z Z (by decide) Z Z ai;have H:=un2 H
   cases d
   exact yP<|zO<|zF<|mt aj (H.U [1])
  refine SR<|fG d λak d=>zA (vb ak)<|RM<|WJ d ?_ ?_<;>intro d
  ·refine zD<|zB (.pointer (some ⟨h,i+f.toNat*18,none⟩))<|nf Z aEd<|RH fC H 0 14 Z n k Z<|aIu d λM d=>nf Z aEd<|xu (yQ (vs:=[i6 M]) (off:=14) H 0 Z n k Z Z sz3 Z Z Z (yT ⟨Z,T1⟩) (by show _<=18;decide)) λ_ H=>?_
   have H:=un7 H;obtain⟨_,H⟩:=H.u0 5 6 Z Z (by decide) Z Z l;have H:=un6 H;obtain⟨_,H⟩:=zN (x:={u with c:=cE u.c,no:=M}) H 1 5 2 3 Z Z Z Z (H.im 4 Z) (by decide);have H:=un3 H;refine bE d λ_ al d=>?_
   obtain⟨am,H⟩:=H.uf 0 2 Z Z (by decide) Z Z al;have H:=un2 H
   cases d
   exact yP<|zO<|zF<|mt am (H.U [1])
  have H:=un7 H;obtain⟨_,H⟩:=H.u0 5 6 Z Z (by decide) Z Z l;have H:=un6 H;obtain⟨_,H⟩:=zN (x:=u) H 1 5 2 3 Z Z Z Z (H.im 4 Z) (by decide);have H:=un3 H;obtain⟨an,H⟩:=H.u0 0 2 Z Z (by decide) Z Z k;have H:=un2 H
  cases d
  exact yF<|zO<|zF<|mt an (H.U [1])
 rintro ao ρ _ H;have H:=un1 H;have d:=aa;refine bE d λap d aq=>jo H (rg [33,19]) (λ(g:(List Nat))=>[]) (λg=>[.tr cO [s] g ap]) [0] ?_ ?_
 ·refine SR<|zB (i6 z)<|RM<|zJ<|SR<|fG d λar d=>zA (vb ar)<|RM<|WJ d ?_ ?_<;>intro d
  ·refine zD<|zB (.pointer (some ⟨h,i+f.toNat*18,none⟩))<|nf Z aEj<|bE d λN D d=>?_
   have E:=aJ (H.im 0 Z) A;obtain⟨_,_,_,H⟩:=H.fV 0 Z E D Z;obtain⟨_,_,_,_,_,_,_,_,_,rfl,H⟩:=zV H 1 Z;have H:=un6 H;refine RH fC H 0 13 Z E D Z<|eH d λP d=>nf Z aEj<|xu (yQ (vs:=[i6 P]) (off:=13) H 0 Z E D Z Z sz3 Z Z Z (yT ⟨Z,T1⟩) (by show _<=18;decide)) λ_ H=>?_
   have H:=un6 H;obtain⟨_,H⟩:=zN (x:={N with c:=cE N.c,yes:=P}) H 1 2 3 4 Z Z Z Z (H.im 5 Z) (by decide);have H:=un3 H;refine bE d λ_ au d=>?_
   obtain⟨av,H⟩:=H.uf 0 2 Z Z (by decide) Z Z au;have H:=un2 H
   cases d
   exact yP<|zO<|zF<|mt av (H.U [1])
  refine SR<|fG d λaw d=>zA (vb aw)<|RM<|WJ d ?_ ?_<;>intro d
  ·refine zD<|zB (.pointer (some ⟨h,i+f.toNat*18,none⟩))<|nf Z aEd<|bE d λQ F d=>?_
   have G:=aJ (H.im 0 Z) A;obtain⟨_,_,_,H⟩:=H.fV 0 Z G F Z;obtain⟨_,_,_,_,c0,_,c2,c3,c4,rfl,H⟩:=zV H 1 Z;have H:=un6 H;refine RH fC H 0 14 Z G F Z<|eH d λR d=>nf Z aEd<|xu (yQ (vs:=[i6 R]) (off:=14) H 0 Z G F Z Z sz3 Z Z Z (yT ⟨Z,T1⟩) (by show _<=18;decide)) λc5 H=>?_
   have H:=un6 H;obtain⟨_,H⟩:=zN (x:={Q with c:=cE Q.c,no:=R}) H 1 2 3 4 Z Z Z Z (H.im 5 Z) (by decide);have H:=un3 H;refine bE d λ_ ax d=>?_
   obtain⟨ay,H⟩:=H.uf 0 2 Z Z (by decide) Z Z ax;have H:=un2 H
   cases d
   exact yP<|zO<|zF<|mt ay (H.U [1])
  cases d
  exact yF<|zO<|zF<|mt ao (H.U [0])
 rintro _ ρ c9 H;have H:=un1 H;have d:=aq;refine SQ ?_;have az:=H;have H:=H.rb;have da:=H;refine yI H (rg [0,12]) (kz [0,0,0,1,0,0,0,1,0,0,0,3]) mixed ?_;refine XM (.pointer (some ⟨h,i+f.toNat*18,none⟩))<|Xn Z aCk<|bE d λI o d=>?_
 have p:=aJ (H.im 0 Z) A;obtain⟨_,_,_,H⟩:=H.fV 0 Z p o Z;obtain⟨_,_,_,_,_,_,_,_,_,rfl,H⟩:=zV H 1 Z;have H:=un6 H;refine XH aKp H 0 11 Z p o Z ?_;refine XM (.pointer (some ⟨h,i+f.toNat*18,none⟩))<|Xn Z aBs<|XH fC H 0 12 Z p o Z<|XM (i6 z) ?_;refine lE d λJ a0 d=>XQ (pI u3 u224 Z a0)<|bE d λa1 v d=>?_
 obtain⟨_,_,_,K⟩:=wC (H.im 2 Z) v;refine XQ (xA u82 aIb K Z (zY v).1 (zY v).2.1 Z Z) ?_;obtain⟨a2,_,_,H⟩:=H.fV 2 Z K v Z;obtain⟨a3,a4⟩:=trF (H.im 6 Z);subst a3;obtain rfl:a2=[.int .i8 a1]:=a4;have H:=un7 H;refine Xu (λt y=>yQ (vs:=[.int .i8 J]) (off:=0) (H.Z y) 5 Z K v Z Z aIb Z Z Z (yT ⟨Z,T1⟩) (by show _<=1;decide)) λt _ y H=>nJ az H λ_ H=>?_
 refine zF<|KN ?_;have a5:=H;have H:=H.rb;have dv:=H;refine yI H (rg [0,15]) (kz [0,0,0,0,1,0,0,0,0,1,0,0,0,0,3]) mixed ?_;refine XM (.pointer (some ⟨h,i+f.toNat*18,none⟩))<|XM (.pointer (some ⟨h,i+f.toNat*18,none⟩))<|Xn Z aBs<|XH fC H 0 12 Z p o Z ?_;refine lE d λa6 a7 d=>XQ (uG (a:=I.at_) (b:=1) Z Z a7)<|XM (.pointer (some ⟨h,i+f.toNat*18,none⟩))<|Xn Z aCk<|XH aKp H 0 11 Z p o Z ?_
 refine lE d λa8 a9 d=>?_
 obtain⟨_,_,ba⟩:=jS ((H.im 5 Z));refine XQ (yS (kF u82 ba) (congrArg (Value.int .i64) a9))<|bE d λT bb d=>XQ (aSf (j:=a6) (q:=a8) Z Z bb)<|Xn Z aBs<|Xu (λt y=>yQ (vs:=[i6 T]) (off:=12) (H.Z y) 0 Z p o Z Z sz3 Z Z Z (yT ⟨Z,T1⟩) (by show _<=18;decide)) λt _ y H=>nJ a5 H λ_ H=>?_
 have H:=un7 H;have H:=H.addF (r:=(Rp.int .i8)) (cs:=[.int .i8 J]) (a:=J) Z;refine bE d λbc bd d=>?_
 obtain⟨d0,H⟩:=H.uf 5 7 Z Z (by decide) Z Z bd;have H:=un7 H;obtain⟨d1,H⟩:=zN (x:={I with c:=cE I.c,ring:=bc,at_:=T}) H 1 6 2 3 Z Z Z Z (H.im 4 Z) (by decide);have H:=un4 H;refine bE d λd2 be d=>?_
 obtain⟨bf,H⟩:=H.uf 0 3 Z Z (by decide) Z Z be;have H:=un3 H
 cases d
 exact aW Z ⟨bf,Z,H.U [2]⟩
theorem Fabw {f:gG}{i:Int}{y:Nat}{B C D E F G I q z A:Value}{bb s t:List Nat}{r:(List gI)}(d:Fab f i=some r)(H:Hd O w w S [.tr cO [q] bb f.nodes,.tr eX [z] s f.moves,.tr eX [A] t f.rules,.blk y [B,C,D,E,F,G,i6 f.frames,I,q,i6 f.first,z,A] 77,fZ B f.r.Phases,aI C f.r.Moves,bY D f.r.Rules,fZ E f.names,uO F f.dens,jR G f.told,aH I f.phase]):
  Cl 55 [gW y,i6 i] w λe p=> ∃bc bd be,e= .returned (.tuple #[])/\Hd O w p S [.tr cO [q] bc r,.tr eX [z] bd f.moves,.tr eX [A] be f.rules,.blk y [B,C,D,E,F,G,i6 f.frames,I,q,i6 f.first,z,A] 77]:=by
 refine CW 211 Tryz.func55 ?_;refine SR<|zB (gW y)<|nf Z uA<|Ld aCm H 3 8 Z Z<|zB (i6 i)<|bE d λh n d=>?_
 obtain⟨j,k,T,l⟩:=wC (H.im 0 Z) n;refine ix u75 aQu l n<|zA (.pointer (some ⟨j,k+i.toNat*18,none⟩))<|RM<|SQ<|SR<|zB (.pointer (some ⟨j,k+i.toNat*18,none⟩))<|nf Z aBb ?_;obtain⟨d9,_,_,H⟩:=H.fV 0 Z l n Z;obtain⟨_,_,_,_,_,_,_,_,_,rfl,H⟩:=zV H 11 Z;have H:=qO H;refine RH kC H 10 7 Z l n Z<|lr d (H.im 11 Z) u38 λ_ d=>fG d λ_ d=>RM<|WJ d ?_ ?_<;>intro d
 ·refine SR<|zB (.pointer (some ⟨j,k+i.toNat*18,none⟩))<|zB (gW y)<|zB (.pointer (some ⟨j,k+i.toNat*18,none⟩)) ?_;have H:=qO H;obtain⟨_,H⟩:=zN (x:=h) H 11 12 13 14 Z Z Z Z (H.im 15 Z) (by decide);have H:=dL H;obtain⟨bf,H⟩:=H.u0 10 12 Z Z (by decide) Z Z n;have H:=dY H;obtain⟨⟨al,_⟩,bg,d⟩:=yD d;refine cAc (fH Tryz.func92) (Fadw (gG.mk (Rules.mk f.r.Phases f.r.Moves f.r.Rules) f.names f.dens f.told f.frames f.phase f.nodes f.first f.moves f.rules) i y B C D E F G I q bf z s A t j k T (aJ (H.im 11 Z) l) _ bg (H.W [11,0,1,2] [3,4,5,6,7,8,9])) λ_ bh bi _ bj=>?_
  have H:=dY<|H.back [11,0,1,2] [3,4,5,6,7,8,9] Z bj;refine nf Z mO<|bE d λam an d=>?_
  have ao:=aJ (H.im 8 Z) l;obtain⟨_,_,_,H⟩:=H.fV 8 Z ao an Z;obtain⟨_,_,_,_,_,_,_,_,_,rfl,H⟩:=zV H 12 Z;have H:=aG H;refine xu (yQ (vs:=[i6 al]) (off:=9) H 11 Z ao an Z Z sz3 Z Z Z (yT ⟨Z,T1⟩) (by show _<=18;decide)) λ_ H=>RM ?_
  have H:=aG H;obtain⟨_,H⟩:=zN (x:={am with c:=cE am.c,now:=al}) H 12 13 14 15 Z Z Z Z (H.im 16 Z) (by decide);have H:=aT H;refine bE d λ_ bk d=>?_
  obtain⟨bl,H⟩:=H.uf 11 13 Z Z (by decide) Z Z bk;have H:=dL H
  cases d
  exact zH<|zG<|aUr Z ⟨bl,bh,bi,Z,H.U [12,8,9,10]⟩
 refine WZ<|SQ ?_;have bm:=H;have H:=H.rb;have e8:=H;refine yI H (rg [0,14]) (kz [0,0,0,1,0,0,0,1,0,1,0,0,1,0]) mixed ?_;refine XM (gW y)<|Xn Z uA<|XR aCm H 2 8 Z Z<|XM (.pointer (some ⟨j,k+i.toNat*18,none⟩))<|Xn Z aBb<|XH kC H 10 7 Z l n Z ?_;refine bE d λbn M d=>?_
 obtain⟨_,_,_,ae⟩:=wC (H.im 11 Z) M;refine XQ (xA u38 sz3 ae Z (zY M).1 (zY M).2.1 Z Z) ?_;obtain⟨bo,_,_,H⟩:=H.fV 11 Z ae M Z;obtain⟨bp,bq⟩:=trF (H.im 16 Z);subst bp;obtain rfl:bo=[i6 bn]:=bq;have H:=aG H;refine XH fC H 15 0 Z ae M Z ?_;refine bE d λo P d=>?_
 obtain⟨_,_,_,af⟩:=wC (H.im 10 Z) P;refine XQ (xA u75 aQu af Z (zY P).1 (zY P).2.1 Z Z)<|XQ (mO Z) ?_;have H:=aG H;obtain⟨_,H⟩:=H.u0 15 16 Z Z (by decide) Z Z M;have H:=qO H;obtain⟨_,H⟩:=zN (x:=h) H 15 11 12 13 Z Z Z Z (H.im 14 Z) (by decide);have H:=dL H;obtain⟨_,H⟩:=H.u0 10 12 Z Z (by decide) Z Z n;have H:=dY H;obtain⟨_,_,_,H⟩:=H.fV 11 Z af P Z;obtain⟨_,_,_,_,_,_,_,_,_,rfl,H⟩:=zV H 12 Z;have H:=aG H;refine XH fC H 11 9 Z af P Z ?_;refine XQ (yL (v:=i6 o.now) Z)<|nJ bm H λ_ H=>?_
 refine zF<|KN<|SR<|zB (.pointer (some ⟨j,k+i.toNat*18,none⟩))<|nf Z rX<|zK (bP Z) ?_;have H:=aG H;obtain⟨_,H⟩:=zN (x:=o) H 12 13 14 15 Z Z Z Z (H.im 16 Z) (by decide);have H:=aT H;obtain⟨f0,H⟩:=H.u0 11 13 Z Z (by decide) Z Z P;have H:=dL H;obtain⟨f4,f5,f6,H⟩:=H.fV 12 Z l n Z;obtain⟨ap,f7,f8,f9,_,_,_,_,_,rfl,H⟩:=zV H 13 Z;have H:=rZ H;refine RH fC H 12 0 Z l n Z<|RM<|zJ<|SR<|fG d λbr d=>zA (vb br)<|RM<|WJ d ?_ ?_<;>intro d
 ·refine zD<|zB (.pointer (some ⟨j,k+i.toNat*18,none⟩))<|zB (i6 o.now)<|bE d λaq bt d=>RC (fH Tryz.func93) (Fhlw bt (H.W [] [])) H λ_ H=>nf Z mO<|xu (yQ (vs:=[i6 aq]) (off:=9) H 12 Z l n Z Z sz3 Z Z Z (yT ⟨Z,T1⟩) (by show _<=18;decide)) λ_ H=>?_
  have H:=rZ H;obtain⟨_,H⟩:=zN (x:={h with c:=cE h.c,now:=aq}) H 13 14 15 16 Z Z Z Z (H.im 17 Z) (by decide);have H:=qZ H;refine bE d λ_ bu d=>?_
  obtain⟨bv,H⟩:=H.uf 12 14 Z Z (by decide) Z Z bu;have H:=aT H
  cases d
  exact yP<|zO<|aW Z ⟨bv,s,t,Z,H.U [13,0,1,2]⟩
 refine bE d λbw d bx=>jo H [76,77,78] (λ(g:(List Nat))=>[(76,vb bw)]) (λg=>[.tr cO [q] g f.nodes]) (rg [1,10,0,1,18,1]) ?_ ?_
 ·refine SR<|fG d λbz d=>zA (vb bz)<|RM<|WJ d ?_ ?_<;>intro d
  ·have H:=rZ H;obtain⟨_,H⟩:=zN (x:=h) H 13 14 15 16 Z Z Z Z (H.im 17 Z) (by decide);have H:=qZ H;obtain⟨b0,H⟩:=H.u0 12 14 Z Z (by decide) Z Z n;have H:=aT H
   cases d
   exact js<|mt b0 (H.U (rg [0,10,13,1,12,1]))
  refine zD<|fG d λb1 d=>zA (vb b1) ?_
  have H:=rZ H;obtain⟨_,H⟩:=zN (x:=h) H 13 14 15 16 Z Z Z Z (H.im 17 Z) (by decide);have H:=qZ H;obtain⟨b2,H⟩:=H.u0 12 14 Z Z (by decide) Z Z n;have H:=aT H
  cases d
  exact jn<|mt b2 (H.U (rg [0,10,13,1,12,1]))
 rintro ad ρ _ H;have H:=dY H;have d:=bx;refine WJ d ?_ ?_<;>intro d
 ·refine zD<|zB (.pointer (some ⟨j,k+i.toNat*18,none⟩))<|zB (gW y)<|zB (.pointer (some ⟨j,k+i.toNat*18,none⟩))<|bE d λar b3 d=>cAc (fH Tryz.func94) (Fdew (gG.mk (Rules.mk f.r.Phases f.r.Moves f.r.Rules) f.names f.dens f.told f.frames f.phase f.nodes f.first f.moves f.rules) i y B C D E F G I q ad z s A t j k T (aJ (H.im 10 Z) l) _ b3 (H.W [10,0,1,2] [3,4,5,6,7,8,9])) λ_ b4 b5 _ b6=>?_
  have H:=dY<|H.back [10,0,1,2] [3,4,5,6,7,8,9] Z b6;refine nf Z mO ?_;obtain⟨_,_,_,H⟩:=H.fV 8 Z l n Z;obtain⟨_,_,_,_,_,_,_,g0,g1,rfl,H⟩:=zV H 12 Z;have H:=aG H;refine xu (yQ (vs:=[i6 ar]) (off:=9) H 11 Z l n Z Z sz3 Z Z Z (yT ⟨Z,T1⟩) (by show _<=18;decide)) λg2 H=>?_
  have H:=aG H;obtain⟨g3,H⟩:=zN (x:={h with c:=cE h.c,now:=ar}) H 12 13 14 15 Z Z Z Z (H.im 16 Z) (by decide);have H:=aT H;refine bE d λg4 b7 d=>?_
  obtain⟨b8,H⟩:=H.uf 11 13 Z Z (by decide) Z Z b7;have H:=dL H
  cases d
  exact yP<|zO<|aW Z ⟨b8,b4,b5,Z,H.U [12,8,9,10]⟩
 refine SR<|fG d λb9 d=>zA (vb b9)<|RM<|WJ d ?_ ?_<;>intro d
 ·refine SR<|zB (.pointer (some ⟨j,k+i.toNat*18,none⟩))<|zB (i6 o.now)<|bE d λg5 ca d=>cAa en95 (Fbhw f.nodes i o.now q ad j k T (aJ (H.im 10 Z) l) _ ca (H.W [10] [])) λg6 g7 cb=>?_
  have H:=dY<|H.back [10] [] Z cb;refine RM ?_;have cc:=H;have H:=H.rb;have g8:=H;refine yI H (rg [0,20]) (kz [0,0,0,0,1,0,0,0,0,1,0,0,0,0,1,0,4,0,0,3]) mixed ?_;refine XM (.pointer (some ⟨j,k+i.toNat*18,none⟩))<|XM (.pointer (some ⟨j,k+i.toNat*18,none⟩))<|Xn Z aEj<|bE d λU V d=>?_
  have X:=aJ (H.im 11 Z) l;obtain⟨g9,_,_,H⟩:=H.fV 11 Z X V Z;obtain⟨_,_,_,_,_,_,_,_,_,rfl,H⟩:=zV H 12 Z;have H:=aG H;refine XH fC H 11 13 Z X V Z ?_;refine XM (.pointer (some ⟨j,k+i.toNat*18,none⟩))<|Xn Z rX<|XQ (jT Z)<|XH fC H 11 5 Z X V Z ?_;refine lE d λ_ cd d=>XQ (bJ (aGv (a:=U.yes) (b:=U.c.Frames) Z Z) cd)<|XM (.pointer (some ⟨j,k+i.toNat*18,none⟩))<|Xn Z aEd<|XH fC H 11 14 Z X V Z ?_
  refine lE d λ_ ce d=>XQ (bJ (vK (a:=U.no) (b:=0) Z Z) ce) ?_
  have cf:=H;refine bE d λag cg d=>MxM.XL_fcall oS Z Z Z (v:=i6 ag) (λp u=>yE aLf Z) (λp u=>xI (aMw cg (Hd.fresh0 p))) ?_
  have H:=cf;refine Xn Z mO<|Xu (λp u=>yQ (vs:=[i6 ag]) (off:=9) (H.Z u) 11 Z X V Z Z sz3 Z Z Z (yT ⟨Z,T1⟩) (by show _<=18;decide)) λp _ u H=>nJ cc H λ_ H=>?_
  have H:=aG H;obtain⟨_,H⟩:=zN (x:={U with c:=cE U.c,now:=ag}) H 12 13 14 15 Z Z Z Z (H.im 16 Z) (by decide);have H:=aT H;refine bE d λ_ ch d=>?_
  obtain⟨ci,H⟩:=H.uf 11 13 Z Z (by decide) Z Z ch;have H:=dL H
  cases d
  exact zO<|aW Z ⟨ci,s,t,Z,H.U [12,0,1,2]⟩
 refine SR<|fG d λcj d=>zA (vb cj)<|RM<|WJ d ?_ ?_<;>intro d
 ·refine SR<|zB (.pointer (some ⟨j,k+i.toNat*18,none⟩))<|zB (i6 o.now)<|bE d λ_ ck d=>cAa en95 (Fbhw f.nodes i o.now q ad j k T (aJ (H.im 10 Z) l) _ ck (H.W [10] [])) λ_ _ cl=>?_
  have H:=dY<|H.back [10] [] Z cl;refine RM ?_;have cm:=H;have H:=H.rb;have hx:=H;refine yI H (rg [0,20]) (kz [0,0,0,0,1,0,0,0,0,1,0,0,0,0,1,0,4,0,0,3]) mixed ?_;refine XM (.pointer (some ⟨j,k+i.toNat*18,none⟩))<|XM (.pointer (some ⟨j,k+i.toNat*18,none⟩))<|Xn Z aEj<|bE d λY aa d=>?_
  have ab:=aJ (H.im 11 Z) l;obtain⟨_,_,_,H⟩:=H.fV 11 Z ab aa Z;obtain⟨_,_,_,_,_,_,_,_,_,rfl,H⟩:=zV H 12 Z;have H:=aG H;refine XH fC H 11 13 Z ab aa Z ?_;refine lE d λ_ cn d=>XQ (bJ (vK (a:=Y.yes) (b:=0) Z Z) cn)<|XM (.pointer (some ⟨j,k+i.toNat*18,none⟩))<|Xn Z aEd<|XH fC H 11 14 Z ab aa Z<|XM (.pointer (some ⟨j,k+i.toNat*18,none⟩)) ?_
  refine Xn Z rX<|XQ (jT Z)<|XH fC H 11 5 Z ab aa Z ?_;refine lE d λ_ co d=>XQ (bJ (aGv (a:=Y.no) (b:=Y.c.Frames) Z Z) co) ?_
  have cp:=H;refine bE d λah cq d=>MxM.XL_fcall oS Z Z Z (v:=i6 ah) (λp u=>yE aLf Z) (λp u=>xI (aMw cq (Hd.fresh0 p))) ?_
  have H:=cp;refine Xn Z mO<|Xu (λp u=>yQ (vs:=[i6 ah]) (off:=9) (H.Z u) 11 Z ab aa Z Z sz3 Z Z Z (yT ⟨Z,T1⟩) (by show _<=18;decide)) λp id u H=>nJ cm H λ_ H=>?_
  have H:=aG H;obtain⟨_,H⟩:=zN (x:={Y with c:=cE Y.c,now:=ah}) H 12 13 14 15 Z Z Z Z (H.im 16 Z) (by decide);have H:=aT H;refine bE d λ_ cr d=>?_
  obtain⟨cs,H⟩:=H.uf 11 13 Z Z (by decide) Z Z cr;have H:=dL H
  cases d
  exact zO<|aW Z ⟨cs,s,t,Z,H.U [12,0,1,2]⟩
 refine SR<|fG d λct d=>zA (vb ct)<|RM<|WJ d ?_ ?_<;>intro d
 ·refine SR<|zB (.pointer (some ⟨j,k+i.toNat*18,none⟩))<|zB (i6 o.now)<|bE d λ_ cu d=>cAa en95 (Fbhw f.nodes i o.now q ad j k T (aJ (H.im 10 Z) l) _ cu (H.W [10] [])) λ_ _ cv=>?_
  have H:=dY<|H.back [10] [] Z cv;refine RM ?_;have cw:=H;have H:=H.rb;have il:=H;refine yI H (rg [0,31]) (kz [0,0,0,0,1,0,0,0,0,1,0,0,0,0,1,0,0,0,0,1,0,0,0,0,1,0,0,4,0,0,3]) mixed ?_;refine XM (.pointer (some ⟨j,k+i.toNat*18,none⟩))<|XM (.pointer (some ⟨j,k+i.toNat*18,none⟩))<|Xn Z aEj<|bE d λJ K d=>?_
  have L:=aJ (H.im 11 Z) l;obtain⟨_,_,_,H⟩:=H.fV 11 Z L K Z;obtain⟨_,_,_,_,_,_,_,i0,_,rfl,H⟩:=zV H 12 Z;have H:=aG H;refine XH fC H 11 13 Z L K Z ?_;refine XM (.pointer (some ⟨j,k+i.toNat*18,none⟩))<|Xn Z rX<|XQ (nH Z)<|XH fC H 11 4 Z L K Z ?_;refine lE d λi2 cx d=>XQ (bJ (aHl (a:=J.yes) (b:=J.c.N) Z Z) cx)<|XM (.pointer (some ⟨j,k+i.toNat*18,none⟩))<|Xn Z aEd<|XH fC H 11 14 Z L K Z<|XM (.pointer (some ⟨j,k+i.toNat*18,none⟩)) ?_
  refine Xn Z rX<|XQ (jT Z)<|XH fC H 11 5 Z L K Z<|XM (.pointer (some ⟨j,k+i.toNat*18,none⟩))<|Xn Z rX<|XQ (nH Z) ?_;refine XH fC H 11 4 Z L K Z ?_;refine lE d λcy cz d=>XQ (pO (a:=J.c.Frames) (b:=J.c.N) Z Z cz)<|lE d λi3 c0 d=>XQ (bJ (vK (a:=J.no) (b:=cy) Z Z) c0) ?_
  have c1:=H;refine bE d λai c2 d=>MxM.XL_fcall oS Z Z Z (v:=i6 ai) (λp u=>yE aLf Z) (λp u=>xI (aMw c2 (Hd.fresh0 p))) ?_
  have H:=c1;refine Xn Z mO<|Xu (λp u=>yQ (vs:=[i6 ai]) (off:=9) (H.Z u) 11 Z L K Z Z sz3 Z Z Z (yT ⟨Z,T1⟩) (by show _<=18;decide)) λp i4 u H=>nJ cw H λi5 H=>?_
  have H:=aG H;obtain⟨_,H⟩:=zN (x:={J with c:=cE J.c,now:=ai}) H 12 13 14 15 Z Z Z Z (H.im 16 Z) (by decide);have H:=aT H;refine bE d λ_ c3 d=>?_
  obtain⟨c4,H⟩:=H.uf 11 13 Z Z (by decide) Z Z c3;have H:=dL H
  cases d
  exact zO<|aW Z ⟨c4,s,t,Z,H.U [12,0,1,2]⟩
 refine SR<|fG d λc5 d=>zA (vb c5)<|RM<|WJ d ?_ ?_<;>intro d
 ·refine SQ ?_;have c6:=H;have H:=H.rb;have i9:=H;refine yI H (rg [0,19]) (kz [0,0,0,1,0,0,0,1,0,1,0,0,1,0,0,0,1,0,0]) mixed ?_;refine XM (gW y)<|Xn Z uA<|XR aCm H 2 8 Z Z<|XM (.pointer (some ⟨j,k+i.toNat*18,none⟩))<|Xn Z aBb ?_;obtain⟨_,_,_,H⟩:=H.fV 10 Z l n Z;obtain⟨c7,_,_,_,_,_,_,_,_,rfl,H⟩:=zV H 12 Z;have H:=aG H;refine XH kC H 11 7 Z l n Z ?_;refine bE d λc8 Q d=>?_
  obtain⟨_,_,_,aj⟩:=wC (H.im 12 Z) Q;refine XQ (xA u38 sz3 aj Z (zY Q).1 (zY Q).2.1 Z Z) ?_;obtain⟨c9,_,_,H⟩:=H.fV 12 Z aj Q Z;obtain⟨da,db⟩:=trF (H.im 17 Z);subst da;obtain rfl:c9=[i6 c8]:=db;have H:=rZ H;refine XH fC H 16 0 Z aj Q Z ?_;refine bE d λac R d=>?_
  obtain⟨_,_,_,ak⟩:=wC (H.im 11 Z) R;refine XQ (xA u75 aQu ak Z (zY R).1 (zY R).2.1 Z Z)<|XQ (mO Z) ?_;have H:=rZ H;obtain⟨_,H⟩:=H.u0 16 17 Z Z (by decide) Z Z Q;have H:=aG H;obtain⟨_,H⟩:=zN (x:=h) H 16 12 13 14 Z Z Z Z (H.im 15 Z) (by decide);have H:=aT H;obtain⟨_,H⟩:=H.u0 11 13 Z Z (by decide) Z Z n;have H:=dL H;obtain⟨_,_,_,H⟩:=H.fV 12 Z ak R Z;obtain⟨dc,_,_,_,_,_,_,_,_,rfl,H⟩:=zV H 13 Z;have H:=rZ H;refine XH fC H 12 9 Z ak R Z ?_;refine XM (.pointer (some ⟨j,k+i.toNat*18,none⟩))<|Xn Z mO ?_;have H:=rZ H;obtain⟨_,H⟩:=zN (x:=ac) H 13 14 15 16 Z Z Z Z (H.im 17 Z) (by decide);have H:=qZ H;obtain⟨_,H⟩:=H.u0 12 14 Z Z (by decide) Z Z R;have H:=aT H;obtain⟨_,dd,_,H⟩:=H.fV 13 Z l n Z;obtain⟨au,av,de,aw,df,ax,dg,ay,dh,rfl,H⟩:=zV H 14 Z;have H:=aIp H;refine XH fC H 13 9 Z l n Z ?_;refine XQ (yL (v:=i6 ac.now) Z)<|XQ (yL (v:=i6 h.now) Z)<|nJ c6 H λ_ H=>?_
  refine zF<|KN<|zD<|zB (.pointer (some ⟨j,k+i.toNat*18,none⟩))<|zB (i6 ac.now)<|fG d λ_ d=>bE d λdi d dj=>wB 8 [190,191,192,193,194,195,196,197] [(197,vb di)] (λwl=>Hd O w wl S [.tr eX [z] s f.moves,.tr eX [A] t f.rules,.blk y [B,C,D,E,F,G,i6 f.frames,I,q,i6 f.first,z,A] 77,fZ B f.r.Phases,aI C f.r.Moves,bY D f.r.Rules,fZ E f.names,uO F f.dens,jR G f.told,aH I f.phase,dF ap h.c.Kids,dF c7 h.c.Kids,dF dc ac.c.Kids,.tr (Rt.row dD 85 [(i.toNat,[i6 h.c.Kind,sb h.c.Name,sb h.c.Other,i6 h.c.Op,i6 h.c.N,i6 h.c.Frames,au,av,i6 h.rule,i6 h.now,i6 h.kid,aw,i6 h.at_,i6 h.yes,i6 h.no,i6 h.known,ax,ay])]) [q] dd f.nodes,.tr eX [av] de h.kids,.tr rw_6 [aw] df h.ring,.tr aGy [ax] dg h.low,.tr aGy [ay] dh h.high,dF au h.c.Kids]) ?_ ?_
  ·refine RJ d ?_ ?_<;>intro d
   ·refine zS<|zS<|zS<|zS<|zS<|zS<|pt (vb true) ?_
    cases d
    exact jn<|meet ⟨(yJ Z yV),H.U (rg [0,19])⟩
   refine zB (i6 o.now)<|fG d λ_ d=>RJ d ?_ ?_<;>intro d
   ·refine zB (i6 h.now)<|fG d λaz d=>pt (vb az)<|pf (vb az) ?_
    cases d
    exact jn<|meet ⟨(yJ Z yV),H.U (rg [0,19])⟩
   refine zS<|zS<|pf (vb false)<|pf (vb false) ?_
   cases d
   exact jn<|meet ⟨(yJ Z yV),H.U (rg [0,19])⟩
  rintro ρ _ H;have d:=dj;refine zB (i6 ac.now)<|fG d λ_ d=>RJ d ?_ ?_<;>intro d
  ·refine zB (i6 o.now)<|fG d λ_ d=>RJ d ?_ ?_<;>intro d
   ·refine zS<|zS<|pt (vb true)<|pt (vb true)<|bE d λa0 dk d=>RC aLf (aMw dk (H.W [] [])) H λ_ H=>nf Z mO<|xu (yQ (vs:=[i6 a0]) (off:=9) H 13 Z l n Z Z sz3 Z Z Z (yT ⟨Z,T1⟩) (by show _<=18;decide)) λ_ H=>?_
    have H:=aIp H;obtain⟨_,H⟩:=zN (x:={h with c:=cE h.c,now:=a0}) H 14 15 16 17 Z Z Z Z (H.im 18 Z) (by decide);have H:=qO H;refine bE d λ_ dl d=>?_
    obtain⟨dm,H⟩:=H.uf 13 15 Z Z (by decide) Z Z dl;have H:=qZ H
    cases d
    exact yP<|zO<|aW Z ⟨dm,s,t,Z,H.U [14,0,1,2]⟩
   refine zB (i6 h.now)<|fG d λa1 d=>pf (vb a1)<|pt (vb a1)<|bE d λa2 dn d=>RC aLf (aMw dn (H.W [] [])) H λ_ H=>nf Z mO<|xu (yQ (vs:=[i6 a2]) (off:=9) H 13 Z l n Z Z sz3 Z Z Z (yT ⟨Z,T1⟩) (by show _<=18;decide)) λ_ H=>?_
   have H:=aIp H;obtain⟨_,H⟩:=zN (x:={h with c:=cE h.c,now:=a2}) H 14 15 16 17 Z Z Z Z (H.im 18 Z) (by decide);have H:=qO H;refine bE d λ_ dp d=>?_
   obtain⟨dq,H⟩:=H.uf 13 15 Z Z (by decide) Z Z dp;have H:=qZ H
   cases d
   exact yP<|zO<|aW Z ⟨dq,s,t,Z,H.U [14,0,1,2]⟩
  refine zS<|zS<|zS<|zS<|zS<|zS<|pf (vb false)<|bE d λa3 dr d=>RC aLf (aMw dr (H.W [] [])) H λ_ H=>nf Z mO<|xu (yQ (vs:=[i6 a3]) (off:=9) H 13 Z l n Z Z sz3 Z Z Z (yT ⟨Z,T1⟩) (by show _<=18;decide)) λ_ H=>?_
  have H:=aIp H;obtain⟨_,H⟩:=zN (x:={h with c:=cE h.c,now:=a3}) H 14 15 16 17 Z Z Z Z (H.im 18 Z) (by decide);have H:=qO H;refine bE d λ_ ds d=>?_
  obtain⟨dt,H⟩:=H.uf 13 15 Z Z (by decide) Z Z ds;have H:=qZ H
  cases d
  exact yP<|zO<|aW Z ⟨dt,s,t,Z,H.U [14,0,1,2]⟩
 refine SR<|zB (.pointer (some ⟨j,k+i.toNat*18,none⟩))<|nf Z fa85_4 ?_;obtain⟨_,du,_,H⟩:=H.fV 10 Z l n Z;obtain⟨a4,a5,dv,a6,dw,a7,dx,a8,dy,rfl,H⟩:=zV H 12 Z;have H:=aG H;refine RH fC H 11 10 Z l n Z<|zA (i6 h.kid)<|RM<|SR<|zB (.pointer (some ⟨j,k+i.toNat*18,none⟩))<|zB (i6 o.now)<|nf Z fa85_4<|xu (yQ (vs:=[i6 o.now]) (off:=10) H 11 Z l n Z Z sz3 Z Z Z (yT ⟨Z,T1⟩) (by show _<=18;decide)) λ_ H=>RM<|zD<|zB (.pointer (some ⟨j,k+i.toNat*18,none⟩))<|zB (i6 o.now)<|fG d λ_ d=>bE d λdz d d0=>?_
 refine wB 4 [56,57,58,59] [(59,vb dz)] (λwl=>Hd O w wl S [.tr eX [z] s f.moves,.tr eX [A] t f.rules,.blk y [B,C,D,E,F,G,i6 f.frames,I,q,i6 f.first,z,A] 77,fZ B f.r.Phases,aI C f.r.Moves,bY D f.r.Rules,fZ E f.names,uO F f.dens,jR G f.told,aH I f.phase,dF ap h.c.Kids,.tr (Rt.row dD 85 [(i.toNat,[i6 h.c.Kind,sb h.c.Name,sb h.c.Other,i6 h.c.Op,i6 h.c.N,i6 h.c.Frames,a4,a5,i6 h.rule,i6 h.now,i6 o.now,a6,i6 h.at_,i6 h.yes,i6 h.no,i6 h.known,a7,a8])]) [q] du f.nodes,.tr eX [a5] dv h.kids,.tr rw_6 [a6] dw h.ring,.tr aGy [a7] dx h.low,.tr aGy [a8] dy h.high,dF a4 h.c.Kids]) ?_ ?_
 ·refine RJ d ?_ ?_<;>intro d
  ·refine zB (i6 h.kid)<|fG d λd1 d=>pt (vb d1) ?_
   cases d
   exact jn<|meet ⟨(yJ Z yV),H.U (rg [0,17])⟩
  refine zS<|zS<|pf (vb false) ?_
  cases d
  exact jn<|meet ⟨(yJ Z yV),H.U (rg [0,17])⟩
 rintro ρ _ H;have d:=d0;refine zB (i6 o.now)<|fG d λ_ d=>RJ d ?_ ?_<;>intro d
 ·refine zS<|zS<|pt (vb true)<|bE d λa9 d2 d=>RC aLf (aMw d2 (H.W [] [])) H λ_ H=>nf Z mO<|xu (yQ (vs:=[i6 a9]) (off:=9) H 11 Z l n Z Z sz3 Z Z Z (yT ⟨Z,T1⟩) (by show _<=18;decide)) λ_ H=>?_
  have H:=aG H;obtain⟨_,H⟩:=zN (x:={h with c:=cE h.c,now:=a9,kid:=o.now}) H 12 13 14 15 Z Z Z Z (H.im 16 Z) (by decide);have H:=aT H;refine bE d λ_ d3 d=>?_
  obtain⟨d4,H⟩:=H.uf 11 13 Z Z (by decide) Z Z d3;have H:=dL H
  cases d
  exact yP<|zO<|aW Z ⟨d4,s,t,Z,H.U [12,0,1,2]⟩
 refine zB (i6 h.kid)<|fG d λd5 d=>pf (vb d5)<|bE d λba d6 d=>RC aLf (aMw d6 (H.W [] [])) H λ_ H=>nf Z mO<|xu (yQ (vs:=[i6 ba]) (off:=9) H 11 Z l n Z Z sz3 Z Z Z (yT ⟨Z,T1⟩) (by show _<=18;decide)) λ_ H=>?_
 have H:=aG H;obtain⟨_,H⟩:=zN (x:={h with c:=cE h.c,now:=ba,kid:=o.now}) H 12 13 14 15 Z Z Z Z (H.im 16 Z) (by decide);have H:=aT H;refine bE d λ_ d7 d=>?_
 obtain⟨d8,H⟩:=H.uf 11 13 Z Z (by decide) Z Z d7;have H:=dL H
 cases d
 exact yP<|zO<|aW Z ⟨d8,s,t,Z,H.U [12,0,1,2]⟩
theorem Fbaw {b:gG}{U:List Bool}{j:Nat}{z A B C D E F f h u q:Value}{V X Y:List Nat}{r:(List Bool)}(a:Fba b U=some r)(H:Hd O w w S [.tr cO [f] V b.nodes,.tr eX [h] X b.moves,.tr eX [u] Y b.rules,.blk j [z,A,B,C,D,E,i6 b.frames,F,f,i6 b.first,h,u] 77,fZ z b.r.Phases,aI A b.r.Moves,bY B b.r.Rules,fZ C b.names,uO D b.dens,jR E b.told,aH F b.phase,aH q U]):
  Cl 56 [gW j,q] w λe p=> ∃u28 u29 an ao,e= .returned (u28)/\Hd O w p S [.own Rp.bool u28 4 r,.tr cO [f] u29 b.nodes,.tr eX [h] an b.moves,.tr eX [u] ao b.rules,.blk j [z,A,B,C,D,E,i6 b.frames,F,f,i6 b.first,h,u] 77]:=by
 refine CW 96 Tryz.func56 ?_;refine SR<|zA (.slice none 0 0)<|RM<|SR<|zB q<|ln a (H.im 11 Z) u62 λ_ a=>bE a λ_ ap a=>xv (aCz (r:=Rp.bool) (zv:=vb false) u62 el4 Z (λ_ _=>Z) Z Z ap H) λd _ H=>zA d<|RM<|bE a λaq a ar=>jo H (rg [6,5,14,81]) (λ(g:(List Nat)×(List Nat))=>[]) (λg=>[.tr cO [f] g.1 b.nodes,.tr eX [h] g.2 b.moves,.own Rp.bool d 4 aq]) (rg [0,2,5,9,2,1]) ?_ ?_;refine SR<|zA (i6 0)<|RM<|zJ<|lo a H (rg [6,5,14,81]) (λx (y:(List Nat)×(List Nat))=>[(6,i6 x.1)]) (λx y=>[.tr cO [f] y.1 b.nodes,.tr eX [h] y.2 b.moves,.own Rp.bool d 4 x.2]) (rg [0,2,5,10,2,1]) (V,X) (H.U (rg [0,13])) ?_;clear H a;rintro c0 ⟨l,_⟩ ⟨G,I⟩ ρ c2 H a;have H:=dL H;refine SQ<|SR<|zB (i6 l)<|zB q<|ln a (H.im 11 Z) u62 λc3 a=>eG a λc4 a=>RM<|WJ a (λa=>WZ<|bE a λau a av=>jo H (rg [7,4,20,75]) (λ(g:(List Nat)×(List Nat))=>[]) (λg=>[.tr cO [f] g.1 b.nodes,.tr eX [h] g.2 b.moves,.own Rp.bool d 4 au]) (rg [0,2,5,10,2,1]) ?_ ?_) λa=>?_;refine zJ<|SQ<|SR<|zB q<|zB (i6 l)<|bE a λaw ax a=>rea H (H.im 11 Z) (vb aw) ax u62 sz4 pF λc5 _ H=>bT a λ_ a=>RM<|WJ a ?_ ?_<;>intro a;cases a;exact yA<|zT<|zW<|zF<|mt (G,I) (H.U (rg [0,13]));refine WZ<|SR<|zA (vb true)<|RM<|bE a λJ a ay=>jo H (rg [7,4,25,60]) (λ(g:(List Nat)×(List Nat))=>[(7,vb J.1)]) (λg=>[.tr cO [f] g.1 b.nodes,.tr eX [h] g.2 b.moves,.own Rp.bool d 4 J.2]) (rg [0,2,5,10,2,1]) ?_ ?_;refine SR<|zA (i6 0)<|RM<|zJ<|lo a H (rg [7,4,25,60]) (λx (y:(List Nat)×(List Nat))=>[(7,vb x.1),(8,i6 x.2.1)]) (λx y=>[.tr cO [f] y.1 b.nodes,.tr eX [h] y.2 b.moves,.own Rp.bool d 4 x.2.2]) (rg [0,2,5,10,2,1]) (G,I) (H.U (rg [0,13])) ?_
 clear H a;rintro _ ⟨aa,s,c9⟩ ⟨ab,ac⟩ ρ _ H a;have H:=dL H;refine SQ<|bE a λaz a a0=>sJ H (rg [25,11]) [(35,vb az)] ?_ ?_;refine zD<|zB (i6 s)<|zB (gW j)<|nf Z aEg<|zK (pK Z)<|Ld uK H 3 1 Z Z<|ln a (H.im 5 Z) u23 λ_ a=>eG a λ_ a=>RJ a (λa=>zB (vb aa)<|pt (vb aa) ?_) λa=>?_;cases a;exact jn<|mt () (H.U (rg [0,13]));refine zS<|pf (vb false) ?_;cases a;exact jn<|mt () (H.U (rg [0,13]));rintro _ ρ _ H;have a:=a0;refine WJ a (λa=>WZ<|bE a λK a a1=>jo H (rg [7,1,9,2,38,47]) (λ(g:(List Nat)×(List Nat))=>[(7,vb K.1)]) (λg=>[.tr cO [f] g.1 b.nodes,.tr eX [h] g.2 b.moves,.own Rp.bool d 4 K.2]) (rg [0,2,5,10,2,1]) ?_ ?_) λa=>?_;refine zJ<|SR<|zB (gW j)<|nf Z aEg<|zK (pK Z)<|Ld uK H 3 1 Z Z<|zB (i6 s)<|bE a λc ad a=>?_;obtain⟨a2,a3,_,_,a4,a5,a6,a7,a8⟩:=xH (H.im 5 Z) ad;obtain⟨L,rfl,a9⟩:=jO a5;have H:=H.fzs [.at a2 (a3+s.toNat*9) _,.sl dB L c.When.Kids] ⟨⟨a6,a7,a8⟩,a9,T1⟩;refine ix u23 aBc a4 ad<|zK (yS (yC (cs:=[sb c.From,sb c.To,i6 c.When.Kind,sb c.When.Name,sb c.When.Other,i6 c.When.Op,i6 c.When.N,i6 c.When.Frames,L]) aPy Z aBc Z (H.im 13 Z).2.2) Z)<|xb (yK aKq H) λ_ _ H=>xu (zZ (vs:=[sb c.From,sb c.To,i6 c.When.Kind,sb c.When.Name,sb c.When.Other,i6 c.When.Op,i6 c.When.N,i6 c.When.Frames,L]) H 15 Z aBc Z Z Z ⟨Z,Z,Z,Z,Z,Z,Z,Z,(xM (H.im 14 Z)),T1⟩ Z) λ_ H=>RM<|SQ<|SQ ?_;have ba:=H;have H:=H.rb;have dj:=H;refine yI H (rg [0,11]) (kz [0,1,0,0,0,0,1,0,0,1,0]) mixed ?_
 refine XQ (aSo Z)<|XR dC H 15 0 Z Z<|XM (gW j)<|Xn Z aEg<|XQ (aP Z)<|XR aC H 3 0 Z Z<|XM (i6 l)<|bE a λae M a=>?_;obtain⟨bb,bc,_,bd,be,bf,bg,bh,bi⟩:=xH (H.im 4 Z) M;obtain rfl:bd=[sb ae]:=bf;have H:=H.fz (.at bb (bc+l.toNat*1) _) ⟨bg,bh,bi⟩;refine XQ (xA u22 sz9 be Z (zY M).1 (zY M).2.1 Z Z)<|MxM.xC oS Z Z Z (λp k=>yB dC Z (Cells.get ((H.Z k).V (i:=16) Z).2.2 (i:=0) Z)) ?_;refine lE a λ_ bj a=>XQ (bJ (wM (s1:=c.From) (s2:=ae) Z Z) bj)<|nJ ba H λ_ H=>?_;refine zF<|KN<|WJ a ?_ ?_<;>intro a;cases a;exact yA<|zT<|zW<|zF<|mt (ab,ac) (H.U (rg [0,13]));refine WZ<|SQ ?_;have bk:=H;have H:=H.rb;have dn:=H;refine yI H (rg [0,15]) (kz [0,0,0,1,0,0,0,1,0,0,1,0,0,1,0]) mixed ?_;refine XM (gW j)<|Xn Z uA<|XR aCm H 3 8 Z Z<|XM (gW j)<|Xn Z aYn<|XR kC H 3 10 Z Z<|XM (i6 s)<|bE a λbl n a=>?_;obtain⟨_,_,_,P⟩:=wC (H.im 1 Z) n;refine XQ (xA u38 sz3 P Z (zY n).1 (zY n).2.1 Z Z) ?_;obtain⟨bm,_,_,H⟩:=H.fV 1 Z P n Z;obtain⟨bn,bo⟩:=trF (H.im 17 Z);subst bn;obtain rfl:bm=[i6 bl]:=bo;have H:=rZ H;refine XH fC H 16 0 Z P n Z ?_;refine bE a λt o a=>?_;obtain⟨_,_,_,Q⟩:=wC (H.im 0 Z) o;refine XQ (xA u75 aQu Q Z (zY o).1 (zY o).2.1 Z Z)<|XQ (mO Z) ?_;obtain⟨_,_,_,H⟩:=H.fV 0 Z Q o Z;obtain⟨d0,d1,d2,d3,d4,d5,d6,d7,d8,rfl,H⟩:=zV H 18 Z;have H:=un23 H;refine XH fC H 17 9 Z Q o Z ?_;refine XQ (yL (v:=i6 t.now) Z)<|nJ bk H λd9 H=>?_
 refine zF<|KN ?_;have H:=un21<|H.U (rg [0,11,12,2,15,8]);refine bE a λbp a bq=>jo H (rg [71,12]) (λ(g:(List Nat)×(List Nat))=>[]) (λg=>[.tr cO [f] g.1 b.nodes,.tr eX [h] g.2 b.moves,.own Rp.bool d 4 bp]) (rg [3,9,0,2,12,1,2,1,23,1]) ?_ ?_;refine SR<|zB (i6 t.now)<|aS a λ_ a=>RM<|WJ a ?_ ?_<;>intro a;have br:=H;have H:=H.rb;have eb:=H;refine yI H (rg [0,11]) (kz [0,0,0,0,0,1,0,1,1,0,3]) mixed ?_;refine XM d<|XM (gW j)<|Xn Z aEg<|XQ (aP Z)<|XR aC H 1 0 Z Z<|XQ (aQn Z)<|XR dC H 12 1 Z Z ?_;have bt:=H;refine bE a λbu bv a=>MxM.XL_call oS Z Z Z (v:=i6 bu) (λp k=>yE aYb Z) (λp k=>xI (aXt bv ((H.Z k).W [] [2]))) ?_;have H:=bt;refine bE a λbw R a=>?_;obtain⟨_,_,bx,af,bz,b0⟩:=jB (H.im 10 Z) R;obtain rfl:bx=[vb bw]:=bz;refine XQ (xA u62 sz4 af Z (zY R).1 (zY R).2.1 Z Z)<|bE a λ_ b1 a=>Xu (λp k=>kW (vs:=[vb true]) (off:=0) (H.Z k) 10 Z af (b0.Z k) Z sz4 Z Z Z (yT ⟨Z,T1⟩) b1 (by decide) Z Z) λp _ k H=>nJ br H λ_ H=>?_;have H:=un21 H;obtain⟨b2,H⟩:=H.u0 13 14 Z Z (by decide) Z Z n;have H:=un20 H;obtain⟨_,H⟩:=zN (x:=t) H 14 15 16 17 Z Z Z Z (H.im 18 Z) (by decide);have H:=aG H;obtain⟨b3,H⟩:=H.u0 13 16 Z Z (by decide) Z Z o;have H:=qO H;cases a;exact zF<|mt (b3,b2) (H.U (rg [0,9,15,1,14,1,9,2,13,1]));have H:=un21 H;obtain⟨b4,H⟩:=H.u0 13 14 Z Z (by decide) Z Z n;have H:=un20 H;obtain⟨_,H⟩:=zN (x:=t) H 14 15 16 17 Z Z Z Z (H.im 18 Z) (by decide)
 have H:=aG H;obtain⟨b5,H⟩:=H.u0 13 16 Z Z (by decide) Z Z o;have H:=qO H;cases a;exact js<|mt (b5,b4) (H.U (rg [0,9,15,1,14,1,9,2,13,1]));rintro⟨b6,b7⟩ ρ _ H;have H:=aT H;have a:=bq;refine zD<|zB (i6 t.now)<|aS a λb8 a=>zA (vb b8) ?_;cases a;exact yP<|zO<|zF<|mt (b6,b7) (H.U (rg [9,2,0,9,11,2]));rintro⟨b9,ca⟩ ρ _ H;have H:=dL H;have a:=a1;obtain⟨_,_⟩:=K;exact zD<|zB (i6 s)<|eH a λcb a=>zA (i6 cb)<|jn<|me a (b9,ca) (H.U (rg [0,13]));cases a;exact yA<|zT<|zT<|zW<|zF<|mt (ab,ac) (H.U (rg [0,13]));rintro⟨ag,ah⟩ ρ _ H;have H:=dL H;have a:=ay;obtain⟨T,_⟩:=J;refine zD<|zB d<|zB (i6 l)<|zB d<|zB (i6 l)<|bE a λcc ai a=>?_;obtain⟨_,_,cd,ce,cf,cg⟩:=jB (H.im 12 Z) ai;obtain rfl:cd=[vb cc]:=cf;refine ix u62 sz4 ce ai<|zK (yB pF Z (Cells.get cg (i:=0) Z))<|RJ a (λa=>zS<|pt (vb true)<|bE a λch aj a=>?_) λa=>?_;obtain⟨_,_,ci,ak,cj,ck⟩:=jB (H.im 12 Z) aj;obtain rfl:ci=[vb ch]:=cj;refine ix u62 sz4 ak aj<|bE a λ_ cl a=>xu (kW (vs:=[vb true]) (off:=0) H 12 Z ak ck Z sz4 Z Z Z (yT ⟨Z,T1⟩) cl (by decide) Z Z) λ_ H=>?_;cases a;exact yP<|zO<|zF<|mt (ag,ah) (H.U (rg [0,13]));refine zB (vb T)<|pf (vb T)<|bE a λcm al a=>?_;obtain⟨_,_,cn,am,co,cp⟩:=jB (H.im 12 Z) al;obtain rfl:cn=[vb cm]:=co;refine ix u62 sz4 am al<|bE a λ_ cq a=>xu (kW (vs:=[vb T]) (off:=0) H 12 Z am cp Z sz4 Z Z Z (yT ⟨Z,T1⟩) cq (by decide) Z Z) λ_ H=>?_;cases a
 exact yP<|zO<|zF<|mt (ag,ah) (H.U (rg [0,13]));rintro⟨cr,ct⟩ ρ _ H;have H:=dL H;have a:=av;exact zD<|zB (i6 l)<|eH a λcu a=>zA (i6 cu)<|jn<|me a (cr,ct) (H.U (rg [0,13]));cases a;exact yA<|zT<|zT<|zW<|zF<|mt (G,I) (H.U (rg [0,11,12,1]));rintro⟨cv,cw⟩ ρ _ H;have H:=dY H;have a:=ar;refine SR<|zB d<|zA d<|RM ?_;cases a;exact zH<|p1z ⟨d,cv,cw,Y,Z,H.U [11,0,1,2,3]⟩
theorem Fb7w {b r:gG}{z:List fD}{c:Nat}{k l n o p A q d f h j:Value}{B C D:List Nat}(a:Fb7 b z=some r)(H:Hd O w w S [.tr cO [d] B b.nodes,.tr eX [f] C b.moves,.tr eX [h] D b.rules,.blk c [k,l,n,o,p,A,i6 b.frames,q,d,i6 b.first,f,h] 77,fZ k b.r.Phases,aI l b.r.Moves,bY n b.r.Rules,fZ o b.names,uO p b.dens,jR A b.told,aH q b.phase,jR j z]):
  Cl 27 [gW c,j] w λe N=> ∃u28 u29 E F G I J K u38 L P M Q,e= .returned (.tuple #[])/\Hd O w N S [fZ u28 r.r.Phases,aI u29 r.r.Moves,bY E r.r.Rules,fZ F r.names,uO G r.dens,jR I r.told,aH J r.phase,.tr cO [K] u38 r.nodes,.tr eX [L] P r.moves,.tr eX [M] Q r.rules,.blk c [u28,u29,E,F,G,I,i6 r.frames,J,K,i6 r.first,L,M] 77]:=by
 refine CW 53 Tryz.func27 ?_;refine SR<|zB (gW c)<|zB j<|nf Z fa77_3<|xu (yH H 3 Z sz41 Z (v:=j) Z (xM (H.im 11 Z)) Z) λa2 H=>RM<|bE a λR a T=>jo H (rg [4,1,10,11]) (λ(g:(List Nat)×(List Nat)×(List Nat))=>[]) (λg=>[.tr cO [d] g.1 R,.tr eX [f] g.2.1 b.moves,.tr eX [h] g.2.2 b.rules]) (rg [0,3,6,6,14,1,13,1]) ?_ ?_
 ·refine SR<|zA (i6 0)<|RM<|zJ<|lo a H (rg [4,1,10,11]) (λx (y:(List Nat)×(List Nat)×(List Nat))=>[(4,i6 x.1)]) (λx y=>[.tr cO [d] y.1 x.2,.tr eX [f] y.2.1 b.moves,.tr eX [h] y.2.2 b.rules]) (rg [0,3,6,6,14,1,13,1]) (B,C,D) (H.U (rg [0,9,11,1,10,1])) ?_;clear H a;rintro a3 ⟨s,a4⟩ ⟨U,V,X⟩ ρ a5 H a;have H:=kD H;refine SQ<|SR<|zB (i6 s)<|zB (gW c)<|nf Z aWs<|Ld fC H 3 9 Z Z<|eG a λ_ a=>RM<|WJ a ?_ ?_<;>intro a
  ·refine WZ<|SQ<|zJ<|zD<|zB (gW c)<|zB (i6 s)<|bE a λ_ Y a=>cAc en55 (Fabw Y (H.W [0,1,2,3] [4,5,6,7,8,9,10])) λaa ab ac _ ad=>?_
   have H:=kD<|H.back [0,1,2,3] [4,5,6,7,8,9,10] Z ad;exact yP<|zO<|zF<|KN<|zD<|zB (i6 s)<|eH a λae a=>zA (i6 ae)<|jn<|me a (aa,ab,ac) (H.U (rg [7,4,0,7]))
  cases a
  exact yA<|zT<|zT<|zW<|zF<|mt (U,V,X) (H.U (rg [0,11]))
 rintro⟨a9,_,_⟩ ρ _ H;have H:=kD H;have a:=T;refine SR<|zB (gW c)<|zB (gW c)<|zB (gW c)<|nf Z aHa<|Ld aBt H 3 7 Z Z ?_;have H:=H.fz (.sl Rp.bool q b.phase) (H.im 10 Z);refine bE a λaf ag a=>cAd (fH Tryz.func56) (Fbaw ag (H.W [0,1,2,3] [4,5,6,7,8,9,10,11])) λt ah ai aj _ ak=>?_
 have H:=dL<|H.back [0,1,2,3] [4,5,6,7,8,9,10,11] Z ak;refine nf Z aHa<|xu (yH H 12 Z sz62 Z (v:=t) Z (bV (H.im 8 Z)) Z) λ_ H=>RM<|bE a λal a am=>jo H (rg [5,1,30,16]) (λ(g:(List Nat)×(List Nat)×(List Nat))=>[]) (λg=>[aH t af,.tr cO [d] g.1 al,.tr eX [f] g.2.1 b.moves,.tr eX [h] g.2.2 b.rules]) (rg [4,6,0,4,16,1]) ?_ ?_
 ·refine SR<|zB (gW c)<|nf Z aWs<|Ld fC H 12 9 Z Z<|zA (i6 b.first)<|RM<|zJ ?_;have H:=H.freeze (i:=8) Z;refine lo a H (rg [5,1,34,12]) (λx (y:(List Nat)×(List Nat)×(List Nat))=>[(5,i6 x.1)]) (λx y=>[.tr cO [d] y.1 x.2,.tr eX [f] y.2.1 b.moves,.tr eX [h] y.2.2 b.rules]) (rg [3,6,11,1,0,3,15,1]) (ah,ai,aj) (H.U (rg [0,6,8,5])) ?_;clear H a;rintro _ ⟨u,_⟩ ⟨an,ao,ap⟩ ρ _ H a;have H:=kD H;refine SQ<|SR<|zB (i6 u)<|zB (gW c)<|nf Z uA<|Ld aCm H 10 8 Z Z<|lr a (H.im 7 Z) u75 λ_ a=>eG a λ_ a=>RM<|WJ a ?_ ?_<;>intro a
  ·refine WZ<|SQ<|zJ<|zD<|zB (gW c)<|zB (i6 u)<|bE a λ_ aq a=>cAc en55 (Fabw aq (H.W [7,8,9,10] [0,1,2,3,4,5,6])) λar au av _ aw=>?_
   have H:=kD<|H.back [7,8,9,10] [0,1,2,3,4,5,6] Z aw;exact yP<|zO<|zF<|KN<|zD<|zB (i6 u)<|eH a λax a=>zA (i6 ax)<|jn<|me a (ar,au,av) (H.U (rg [0,11]))
  cases a
  exact yA<|zT<|zT<|zW<|zF<|mt (an,ao,ap) (H.U (rg [0,11]))
 rintro⟨ay,az,a0⟩ ρ _ H;have H:=kD H;have a:=am;refine zD<|zB (gW c)<|nf Z aHj<|Ld fC H 10 6 Z Z<|eH a λa1 a=>nf Z aHj<|xu (yH H 10 Z sz3 Z (v:=i6 a1) Z Z Z) λ_ H=>?_
 cases a
 exact yP<|aW Z ⟨k,l,n,o,p,j,t,d,ay,f,az,h,a0,Z,H.U (rg [0,11])⟩
theorem Fa5w {q:gZ}{s:List fD}{h:Nat}{L j:Value}{ai:List Nat}{r:(List Int)×Int×gZ}(a:Fa5 q s=some r)(H:Hd O w w S [.tr (Rt.opt fP 77) [L] ai q.v,.blk h [L] 54,jR j s]):
  Cl 9 [gW h,j] w λe d=> ∃M u9 aj,e= .returned (.tuple #[M,i6 r.2.1])/\Hd O w d S [.own (Rp.int .i64) M 3 r.1,.tr (Rt.opt fP 77) [u9] aj r.2.2.v,.blk h [u9] 54]:=by
 refine CW 89 Tryz.func9 ?_;refine SR<|zA (.slice none 0 0)<|zA (i6 0)<|RM<|SQ<|SR<|zB j<|ln a (H.im 2 Z) u41 λ_ a=>zB (gW h)<|nf Z aEo<|bE a λb n a=>?_
 have H:=H.opt_some 0 Z n;obtain⟨k,_,_,ak,al⟩:=H.opt_open 0 Z;clear H;have am:=a
 cases ak
 have H:=al;have a:=am;obtain⟨u,z,A,B,C,D,E,_,_,_,_,_,_,rfl,H⟩:=jL H 2 Z;have H:=dL H;refine Ld aMi H 0 0 Z Z<|nf Z aRx<|Ld aC H 2 3 Z Z<|ln a (H.im 9 Z) u22 λ_ a=>aS a λ_ a=>RM<|WJ a ?_ ?_<;>intro a
 ·refine SR<|zA (.slice none 0 0)<|zA (i6 2)<|RM ?_;have H:=xX H (Rp.int .i64) 3;have H:=aT H;obtain⟨_,H⟩:=xR (x:=gG.mk (Rules.mk b.r.Phases b.r.Moves b.r.Rules) b.names b.dens b.told b.frames b.phase b.nodes b.first b.moves b.rules) H 3 4 5 Z Z Z (H.im 6 Z) (H.im 7 Z) (H.im 8 Z) (H.im 9 Z) (H.im 10 Z) (H.im 11 Z) (H.im 12 Z) (by decide);have H:=dY H;obtain⟨P,H⟩:=H.opt_mk 11 2 Z Z (by decide);have H:=kD H;have H:=H.eqL (l2:=[.blk h [(gW k)] 54,jR j s,fZ u b.r.Phases,aI z b.r.Moves,bY A b.r.Rules,fZ B b.names,uO C b.dens,jR D b.told,aH E b.phase,.own (Rp.int .i64) (.slice none 0 0) 3 [],.tr (Rt.opt fP 77) [(gW k)] P q.v]) (by first |(rw [n];done)|(rw [n];exact rfl))
  cases a
  exact zH<|zG<|jP Z Z Z ⟨.slice none 0 0,(gW k),P,Z,H.U [9,10,0]⟩
 refine WZ<|jk a H (rg [4,3,20,26]) (λx (y:Unit)=>[]) (λx y=>[]) (rg [0,1,2,1,6,7,3,3,1,1]) (λ_ a=>?_) ?_
 ·refine SR<|zA (i6 0)<|RM<|zJ<|lo a H (rg [4,3,20,26]) (λx (y:Unit)=>[(6,i6 x)]) (λx y=>[]) (rg [0,1,2,1,6,7,3,3,1,1]) () (H.U (rg [0,1,2,1,6,7,3,3,1,1])) ?_;clear H a;rintro _ l _ ρ _ H a;have H:=dL H;refine SQ<|SR<|zB (i6 l)<|zB j<|ln a (H.im 12 Z) u41 λ_ a=>eG a λ_ a=>RM<|WJ a ?_ ?_<;>intro a
  ·refine WZ<|SQ<|zJ<|SQ<|bE a λan a ao=>sJ H (rg [26,14]) [(39,vb an)] ?_ ?_
   ·refine zD<|zB j<|zB (i6 l)<|bE a λ_ Q a=>?_
    obtain⟨ap,aq,_,_,ar,au,av,aw,ax⟩:=xH (H.im 12 Z) Q;obtain rfl:=kK au;have H:=H.fz (.at ap (aq+l.toNat*2) _) ⟨av,aw,ax⟩;refine ix u41 rE ar Q<|zK (wO Z)<|zK (yB pF Z (Cells.get (H.im 13 Z).2.2 (i:=1) Z))<|bT a λ_ a=>RJ a ?_ ?_<;>intro a
    ·refine zB j<|zB (i6 l)<|bE a λ_ R a=>?_
     obtain⟨ay,az,_,_,a0,a1,a2,a3,a4⟩:=xH (H.im 12 Z) R;obtain rfl:=kK a1;have H:=H.fz (.at ay (az+l.toNat*2) _) ⟨a2,a3,a4⟩;refine ix u41 rE a0 R<|zK (mV Z)<|zK (yB fC Z (Cells.get (H.im 14 Z).2.2 (i:=0) Z))<|aS a λa5 a=>pt (vb a5) ?_
     cases a
     exact jn<|mt () (H.U (rg [0,13]))
    refine zS<|zS<|zS<|zS<|zS<|zS<|pf (vb false) ?_
    cases a
    exact jn<|mt () (H.U (rg [0,13]))
   rintro _ ρ _ H;have a:=ao;refine WJ a ?_ ?_<;>intro a
   ·refine SR<|zA (.slice none 0 0)<|zA (i6 2)<|RM ?_;have H:=xX H (Rp.int .i64) 3;have H:=aT H;obtain⟨_,H⟩:=xR (x:=gG.mk (Rules.mk b.r.Phases b.r.Moves b.r.Rules) b.names b.dens b.told b.frames b.phase b.nodes b.first b.moves b.rules) H 9 10 11 Z Z Z (H.im 2 Z) (H.im 3 Z) (H.im 4 Z) (H.im 5 Z) (H.im 6 Z) (H.im 7 Z) (H.im 8 Z) (by decide);have H:=dY H;obtain⟨T,H⟩:=H.opt_mk 11 1 Z Z (by decide);have H:=kD H;have H:=H.eqL (l2:=[.blk h [(gW k)] 54,fZ u b.r.Phases,aI z b.r.Moves,bY A b.r.Rules,fZ B b.names,uO C b.dens,jR D b.told,aH E b.phase,jR j s,.own (Rp.int .i64) (.slice none 0 0) 3 [],.tr (Rt.opt fP 77) [(gW k)] T q.v]) (by first |(rw [n];done)|(rw [n];exact rfl))
    cases a
    exact zH<|zG<|zL<|zG<|zG<|zL<|zG<|jP Z Z Z ⟨.slice none 0 0,(gW k),T,Z,H.U [9,10,0]⟩
   refine WZ<|SR<|zB j<|zB (i6 l)<|bE a λU V a=>?_
   obtain⟨X,Y,_,_,a6,a7,a8,a9,ba⟩:=xH (H.im 12 Z) V;obtain rfl:=kK a7;have H:=H.fz (.at X (Y+l.toNat*2) _) ⟨a8,a9,ba⟩;refine ix u41 rE a6 V<|zK (mV Z)<|zK (yB fC Z (Cells.get (H.im 13 Z).2.2 (i:=0) Z))<|bE a λ_ bb a=>RC aXq (aYk bb (H.W [] [])) H λ_ H=>RM<|WJ a ?_ ?_<;>intro a
   ·refine SR<|zA (.slice none 0 0)<|zA (i6 9)<|RM ?_;have H:=xX H (Rp.int .i64) 3;have H:=qZ H;obtain⟨_,H⟩:=xR (x:=gG.mk (Rules.mk b.r.Phases b.r.Moves b.r.Rules) b.names b.dens b.told b.frames b.phase b.nodes b.first b.moves b.rules) H 9 10 11 Z Z Z (H.im 2 Z) (H.im 3 Z) (H.im 4 Z) (H.im 5 Z) (H.im 6 Z) (H.im 7 Z) (H.im 8 Z) (by decide);have H:=dL H;obtain⟨aa,H⟩:=H.opt_mk 12 1 Z Z (by decide);have H:=dY H;have H:=H.eqL (l2:=[.blk h [(gW k)] 54,fZ u b.r.Phases,aI z b.r.Moves,bY A b.r.Rules,fZ B b.names,uO C b.dens,jR D b.told,aH E b.phase,jR j s,.fz (.at X (Y+l.toNat*2) [i6 U.N,vb U.Known]),.own (Rp.int .i64) (.slice none 0 0) 3 [],.tr (Rt.opt fP 77) [(gW k)] aa q.v]) (by first |(rw [n];done)|(rw [n];exact rfl))
    cases a
    exact zH<|zL<|zG<|zG<|zL<|zG<|jP Z Z Z ⟨.slice none 0 0,(gW k),aa,Z,H.U [10,11,0]⟩
   exact yF<|zO<|zF<|KN<|zD<|zB (i6 l)<|eH a λbc a=>zA (i6 bc)<|jn<|me a () (H.U (rg [0,13]))
  exact yA<|zT<|zT<|zW<|zF<|me a () (H.U (rg [0,13]))
 rintro _ _ ρ _ H a;have H:=dL H;refine SQ ?_;have bd:=H;have H:=H.rb;have be:=H;have ab:=dY<|H.W [1,9,10,11] [2,3,4,5,6,7,8,12];have bf:=H.firmB ab (i:=0) Z (List.mem_append_right _ List.mem_cons_self);have H:=ab;refine yI H (rg [0,7]) (kz [0,0,0,0,0,3,3]) mixed ?_;refine XM (gW h)<|Xn Z aEo<|XP (λd c=>yB aMi Z (Cells.get (Blk.cells (bf d c)) (i:=0) Z))<|XM j ?_;have H:=xX H bH 72;refine bE a λc0 bg a=>Xe (λd c=>bQ (H.Z c) (i:=12) Z u41 el72 Z Z (Sr.of_rd ((H.Z c).V (i:=11) Z)) bg) λd _ c2 c H=>?_
 have H:=H.freeze (i:=12) Z;refine bE a λf bh a=>MxM.XL_effC oS Z Z Z (λd c=>yE (fH Tryz.func27) Z) (λd c=>Fb7w bh ((H.Z c).W [1,2,3,0] [4,5,6,7,8,9,10,12])) ?_
 rintro d _ c3 c ⟨c4,c5,_,_,_,c9,_,ac,bi,_,_,ad,bj,rfl,bk⟩;have H:=un20<|(H.Z c).back [1,2,3,0] [4,5,6,7,8,9,10,12] Z bk;refine⟨_,Z,H.only,?_⟩;refine MxM.yZ λ_ hS=>?_
 have H:=H.Z hS;have H:=be.back [1,9,10,11] [2,3,4,5,6,7,8,12] Z H;have H:=un29 H;have H:=un21<|H.U (rg [0,1,9,20]);have H:=bd.rj H;refine zF<|KN ?_;have H:=dY<|H.U (rg [0,1,10,11]);refine SR<|zA (.slice none 0 0)<|RM<|bE a λbl a bm=>jo H (rg [7,2,53,35]) (λ(g:Value×(List Nat)×(List Nat))=>[(7,g.1)]) (λg=>[.own (Rp.int .i64) g.1 3 bl,.tr cO [ac] g.2.1 f.nodes,.tr eX [ad] g.2.2 f.rules]) [0,3,14,4,5,6,7,8,9,10,1,12,2] ?_ ?_
 ·refine SR<|zA (i6 0)<|RM<|zJ ?_;have H:=xX H (Rp.int .i64) 3;refine lo a H (rg [7,2,53,35]) (λx (y:Value×(List Nat)×(List Nat))=>[(7,y.1),(8,i6 x.2)]) (λx y=>[.own (Rp.int .i64) y.1 3 x.1,.tr cO [ac] y.2.1 f.nodes,.tr eX [ad] y.2.2 f.rules]) [0,3,14,4,5,6,7,8,9,10,1,12,2] (.slice none 0 0,bi,bj) (H.U (rg [12,1,0,1,11,1,1,10])) ?_;clear H a;rintro _ ⟨_,F⟩ ⟨ae,bn,bo⟩ ρ _ H a;have H:=dL H;refine SQ<|SR<|zB (i6 F)<|zB (gW h)<|nf Z aEo<|Ld aMi H 1 0 Z Z<|nf Z aNb<|Ld kC H 2 11 Z Z<|lr a (H.im 12 Z) u38 λ_ a=>eG a λ_ a=>RM<|WJ a ?_ ?_<;>intro a
  ·refine WZ<|SQ<|zJ ?_;have bp:=H;have H:=H.rb;have bq:=H;have G:=kD<|H.W [0,10,11,12] [3,4,5,6,7,8,9];have af:=H.firmB G (i:=1) Z (List.mem_append_right _ List.mem_cons_self);have ag:=H.firmB G (i:=2) Z (List.mem_append_right _ (List.mem_cons_of_mem _ List.mem_cons_self));have H:=G;refine yI H (rg [0,24]) (kz [0,0,0,0,0,0,0,0,0,0,0,0,0,0,0,0,0,1,0,0,1,2,3,0]) mixed ?_;refine XM ae<|XM (gW h)<|Xn Z aEo<|XP (λd c=>yB aMi Z (Cells.get (Blk.cells (af d c)) (i:=0) Z))<|Xn Z uA<|XP (λd c=>yB aCm Z (Cells.get (Blk.cells (ag d c)) (i:=8) Z))<|XM (gW h)<|Xn Z aEo<|XP (λd c=>yB aMi Z (Cells.get (Blk.cells (af d c)) (i:=0) Z))<|Xn Z aNb<|XP (λd c=>yB kC Z (Cells.get (Blk.cells (ag d c)) (i:=11) Z))<|XM (i6 F)<|bE a λbr o a=>?_
   obtain⟨_,_,_,I⟩:=wC (H.im 3 Z) o;refine XQ (xA u38 sz3 I Z (zY o).1 (zY o).2.1 Z Z) ?_;obtain⟨bt,_,_,H⟩:=H.fV 3 Z I o Z;obtain⟨bu,bv⟩:=trF (H.im 11 Z);subst bu;obtain rfl:bt=[i6 br]:=bv;have H:=dY H;refine XH fC H 10 0 Z I o Z ?_;refine bE a λt p a=>?_
   obtain⟨_,_,_,J⟩:=wC (H.im 1 Z) p;refine XQ (xA u75 aQu J Z (zY p).1 (zY p).2.1 Z Z)<|XQ (mO Z) ?_;obtain⟨_,_,_,H⟩:=H.fV 1 Z J p Z;obtain⟨_,_,_,_,_,d0,d1,d2,d3,rfl,H⟩:=zV H 12 Z;have H:=aG H;refine XH fC H 11 9 Z J p Z ?_;refine lE a λd4 bw a=>?_
   subst bw;refine MxM.XL_exN oS Z Z Z (λd c=>mZ (kl aSl [t.now] u38 el3 (H.Z c)) (aAg (cs:=[i6 t.now]) u38 el3 (by decide) (by decide) (xP (vs:=[i6 t.now]) (by decide) Z Z ⟨Z,T1⟩ Z))) ?_;rintro d d5 d6 c H;refine bE a λd7 bx a=>Xe (λd c=>bQ (H.Z c) (i:=0) Z u38 el3 Z Z (Sr.xU ((H.Z c).V (i:=17) Z)) bx) λd ah d8 c H=>XQ (yL (v:=ah) Z)<|MxM.yZ λd9 hS=>?_
   have H:=H.Z hS;have H:=bq.back [0,10,11,12] [3,4,5,6,7,8,9] Z H;have H:=un27 H;have H:=un20<|H.U (rg [0,2,9,18]);have H:=bp.rj H;refine zO (zF (KN ?_));refine zD<|zB (i6 F)<|eH a λbz a=>zA (i6 bz) ?_
   have H:=un20 H;obtain⟨b0,H⟩:=H.u0 11 12 Z Z (by decide) Z Z o;have H:=aIp H;obtain⟨_,H⟩:=zN (x:=t) H 12 13 14 15 Z Z Z Z (H.im 16 Z) (by decide);have H:=qO H;obtain⟨b1,H⟩:=H.u0 11 15 Z Z (by decide) Z Z p;have H:=qZ H;exact jn<|me a (ah,b1,b0) (H.U [2,0,1,4,5,6,7,8,9,10,14,3,13])
  cases a
  exact yA<|zT<|zT<|zW<|zF<|mt (ae,bn,bo) (H.U (rg [0,13]))
 rintro⟨K,_,_⟩ ρ _ H;have H:=dL H;have a:=bm;refine SR<|zB K<|zA K<|zA (i6 0)<|RM ?_;have H:=dL H;obtain⟨_,H⟩:=xR (x:=gG.mk (Rules.mk f.r.Phases f.r.Moves f.r.Rules) f.names f.dens f.told f.frames f.phase f.nodes f.first f.moves f.rules) H 10 11 12 Z Z Z (H.im 3 Z) (H.im 4 Z) (H.im 5 Z) (H.im 6 Z) (H.im 7 Z) (H.im 8 Z) (H.im 9 Z) (by decide);have H:=kD H;obtain⟨b2,H⟩:=H.opt_mk 10 2 Z Z (by decide);have H:=jF H
 cases a
 exact zH<|jP Z Z Z ⟨K,(gW k),b2,Z,H.U [0,9,1]⟩
theorem Fffw {l:List Int}{c d:Int}{h:Value}{r:(List Int)}(b:Fff l c d=some r)(H:Hd O w w S [.own (Rp.int .u8) h 5 l,.fz (.at 2 0 ((Fl.arr 20 (Fl.int .u64)).f zX))]):
  Cl 136 [h,i6 c,i6 d] w λe t=> ∃n,e= .returned (n)/\Hd O w t S [.own (Rp.int .u8) n 5 r]:=by
 refine CW 21 Tryz.func136 ?_;refine SR<|zA (.slice none 0 0)<|RM<|SR<|zB (i6 c)<|lE b λj u b=>zK (pI u2 aSi Z u)<|zA (.int .u64 j)<|RM<|bE b λk b v=>jo H (rg [0,1,7,1,10,7]) (λ(g:Value)=>[(0,g),(7,.int .u64 k.2)]) (λg=>[.own (Rp.int .u8) g 5 k.1]) [0,2] ?_ ?_;refine SR<|zB (i6 c)<|eG b λ_ b=>RM<|WJ b (λb=>SR<|zB h<|lE b λ_ x b=>?_) λb=>?_;subst x;refine xv (kl kByt [45] u87 el5 H) λ_ _ H=>bE b λ_ y b=>xv (bQ H (i:=0) Z u87 el5 Z Z (Sr.xU (H.im 2 Z)) y) λo _ H=>zA o<|RM<|zD<|zB (.int .u64 j)<|lE b λz A b=>zK (aRr (a:=j) Z A)<|zA (.int .u64 z) ?_;cases b;exact jn<|mt o (H.U [0,1]);cases b;exact js<|mt h (H.U [0,1]);rintro p _ _ H;have H:=un2 H;have b:=v;obtain⟨B,q⟩:=k;refine SR<|zB p<|zB (.int .u64 q)<|zB (i6 d)<|bE b λ_ C b=>cAa (fH Tryz.func168) (E.Fdow B q d p _ C _ _ _ (H.W [0] [1])) λs _ D=>?_;have H:=un2<|H.back [0] [1] Z D;refine zA s<|RM ?_;cases b;exact zH<|p1z ⟨s,Z,H.U [1]⟩
end Go.Proofs.YtnccbhdmemheeaaGreatDoor.L
