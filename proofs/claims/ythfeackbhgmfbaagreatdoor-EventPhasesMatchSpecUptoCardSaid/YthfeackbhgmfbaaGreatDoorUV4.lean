/- Walks that the claim stands on; no condition beyond those stated. -/
import Derived.Test.YthfeackbhgmfbaaGreatDoorUV3
namespace Go.Proofs.YthfeackbhgmfbaaGreatDoor.L
open Go.RowKit Go.OB Go.Lf
set_option maxRecDepth 100000
set_option maxHeartbeats 4000000
variable {O S:List Nat}{w:World}
theorem Fcqw (h:gG)(l:Int)(E:Nat)(U V X Y v6 v7 v8 s:Value)(bu:List Nat)(G:Value)(bv:List Nat)(I:Value)(bw:List Nat)(o o27 bx:Nat)(D:s= .slice (some ⟨o,o27,none⟩) h.nodes.length bx)(r:Int×(List gJ))(d:Fcq h l=some r)(H:Hd O w w S [.tr bF [s] bu h.nodes,.tr fV [G] bv h.moves,.tr fV [I] bw h.rules,.blk E [U,V,X,Y,v6,v7,i6 h.frames,v8,s,i6 h.first,G,I] 79,fU U h.r.Phases,dW V h.r.Moves,dQ X h.r.Rules,fU Y h.names,qO v6 h.dens,jM v7 h.told,aU v8 h.phase]):
  Cl 150 [gX E,.pointer (some ⟨o,o27+l.toNat*18,none⟩)] w λe k=> ∃bz b0 b1,e= .returned (i6 r.1)/\Hd O w k S [.tr bF [s] bz r.2,.tr fV [G] b0 h.moves,.tr fV [I] b1 h.rules,.blk E [U,V,X,Y,v6,v7,i6 h.frames,v8,s,i6 h.first,G,I] 79]:=by
 refine CW 262 Tryz.func150 ?_;refine SR<|zB (i6 0)<|RM<|SR<|zA (gX E)<|zA (.pointer (some ⟨o,o27+l.toNat*18,none⟩))<|nf Z rW<|zS (kW Z)<|bE d λb2 ax d=>?_
 have a9:=aV (H.im 0 Z) D;obtain⟨_,g0,_,H⟩:=H.fV 0 Z a9 ax Z;obtain⟨_,g3,g4,g5,g6,g7,g8,g9,_,rfl,H⟩:=zW H 11 Z;have H:=qZ H;refine RH dD H 10 1 Z a9 ax Z ?_;have H:=qZ H;obtain⟨_,H⟩:=zK (x:=b2) H 11 12 13 14 Z Z Z Z (H.im 15 Z) (by decide);have H:=dO H;obtain⟨_,H⟩:=H.u0 10 12 Z Z (by decide) Z Z ax;have H:=aH H;obtain⟨⟨p,ay⟩,b3,d⟩:=yA d;refine cAc bBk (Faew b3 (H.W [11,0,1,2] [3,4,5,6,7,8,9])) λ_ ad ae _ b4=>?_
 have H:=aH<|H.back [11,0,1,2] [3,4,5,6,7,8,9] Z b4;refine zA (.tuple #[.agg [i6 p.N,vb p.Known].toArray,i6 ay])<|zS (yF (v:= .agg [i6 p.N,vb p.Known].toArray) Z Z)<|zS (yF (v:=i6 ay) Z Z)<|xb (yJ sV H) λ_ _ H=>xu (zY (vs:=[i6 p.N,vb p.Known]) H 12 Z nG Z Z Z ⟨Z,Z,T1⟩ Z) λ_ H=>zB (i6 ay)<|RM<|SQ ?_
 have b5:=H;have H:=H.rb;have hk:=H;refine yI H (rg [0,20]) (kz [0,0,0,0,1,0,0,0,1,0,0,0,1,0,1,0,0,0,0,3]) mixed ?_;refine XM (.pointer (some ⟨o,o27+l.toNat*18,none⟩))<|XM (.pointer (some ⟨o,o27+l.toNat*18,none⟩))<|Xn Z aMr<|bE d λaf u d=>?_
 have z:=aV (H.im 8 Z) D;obtain⟨_,_,_,H⟩:=H.fV 8 Z z u Z;obtain⟨_,_,_,_,_,_,_,_,_,rfl,H⟩:=zW H 13 Z;have H:=sK H;refine XH fC H 12 15 Z z u Z ?_;refine XM (.pointer (some ⟨o,o27+l.toNat*18,none⟩))<|Xn Z aBy<|XH aKz H 12 11 Z z u Z<|XM (.pointer (some ⟨o,o27+l.toNat*18,none⟩))<|Xn Z aAm<|XH fC H 12 12 Z z u Z ?_;refine bE d λb6 A d=>?_
 obtain⟨_,_,_,F⟩:=dI (H.im 14 Z) A;refine XQ (yY u85 aHq F Z (zV A).1 (zV A).2.1 Z Z) ?_;obtain⟨b7,_,_,H⟩:=H.fV 14 Z F A Z;obtain⟨b8,b9⟩:=trF (H.im 18 Z);subst b8;obtain rfl:b7=[.int .i8 b6]:=b9;have H:=aUn H;refine XH one243 H 17 0 Z F A Z ?_;refine lE d λca cb d=>XQ (jQ u243 u3 Z cb)<|lE d λba cc d=>XQ (nC (a:=af.known) (b:=ca) Z Z cc)<|Xn Z aMr<|Xu (λk f=>yO (vs:=[i6 ba]) (off:=15) (H.Z f) 12 Z z u Z Z sz3 Z Z Z (yQ ⟨Z,T1⟩) (by show _<=18;decide)) λk _ f H=>nJ b5 H λ_ H=>?_
 refine zF<|KN<|SQ ?_;have cd:=H;have H:=H.rb;have h5:=H;refine yI H (rg [0,10]) (kz [0,0,0,1,0,0,0,1,0,3]) mixed ?_;refine XM (.pointer (some ⟨o,o27+l.toNat*18,none⟩))<|Xn Z aBy<|XH aKz H 12 11 Z z u Z<|XM (.pointer (some ⟨o,o27+l.toNat*18,none⟩))<|Xn Z aAm<|XH fC H 12 12 Z z u Z ?_;refine XQ (yY u85 aHq F Z (zV A).1 (zV A).2.1 Z Z)<|Xu (λk f=>yO (vs:=[.int .i8 0]) (off:=0) (H.Z f) 17 Z F A Z Z aHq Z Z Z (yQ ⟨Z,T1⟩) (by show _<=1;decide)) λk _ f H=>nJ cd H λ_ H=>?_
 refine zF<|KN ?_;have H:=sK<|H.U (rg [0,7,8,11]);refine bE d λce d cf=>jo H (rg [45,126]) (λ(g:(List Nat))=>[]) (λg=>[.tr bF [s] g ce]) (rg [1,10,0,1]) ?_ ?_
 ·refine SR<|zS (wH Z)<|Ld pJ H 10 1 Z Z<|RM<|WJ d ?_ ?_<;>intro d
  ·refine SQ ?_;have cg:=H;have H:=H.rb;have h8:=H;refine yI H (rg [0,10]) (kz [0,0,0,1,0,0,0,1,0,3]) mixed ?_;refine XM (.pointer (some ⟨o,o27+l.toNat*18,none⟩))<|Xn Z aBy<|XH aKz H 11 11 Z z u Z<|XM (.pointer (some ⟨o,o27+l.toNat*18,none⟩))<|Xn Z aAm<|XH fC H 11 12 Z z u Z ?_;refine XQ (yY u85 aHq F Z (zV A).1 (zV A).2.1 Z Z)<|Xu (λk f=>yO (vs:=[.int .i8 1]) (off:=0) (H.Z f) 16 Z F A Z Z aHq Z Z Z (yQ ⟨Z,T1⟩) (by show _<=1;decide)) λk _ f H=>nJ cg H λ_ H=>?_
   refine zF<|KN<|SR<|zA (.pointer (some ⟨o,o27+l.toNat*18,none⟩))<|nf Z aMr<|RH fC H 11 15 Z z u Z<|eF d λbb d=>nf Z aMr<|xu (yO (vs:=[i6 bb]) (off:=15) H 11 Z z u Z Z sz3 Z Z Z (yQ ⟨Z,T1⟩) (by show _<=18;decide)) λ_ H=>RM<|bE d λch d ci=>jo H (rg [63,38]) (λ(g:(List Nat))=>[]) (λg=>[.tr bF [s] g ch]) (rg [1,10,0,1,11,1]) ?_ ?_
   ·refine zJ ?_;have H:=sK H;have H:=H.addF (r:=(Rp.int .i8)) (cs:=[.int .i8 1]) (a:=1) Z;refine bE d λcj ck d=>?_
    obtain⟨id,H⟩:=H.uf 16 18 Z Z (by decide) Z Z ck;have H:=sK H;obtain⟨_,H⟩:=zK (x:={af with c:=cE af.c,ring:=cj,known:=bb}) H 12 17 13 14 Z Z Z Z (H.im 15 Z) (by decide);have H:=uS H;refine bE d λ_ cl d=>?_
    obtain⟨cm,H⟩:=H.uf 11 14 Z Z (by decide) Z Z cl;have H:=kL H;refine lo d H (rg [63,38]) (λx (y:(List Nat))=>[]) (λx y=>[.tr bF [s] y x]) (rg [1,10,0,1,11,1]) cm (H.U (rg [0,10,13,1,10,1])) ?_;clear H d;rintro _ cn _ ρ _ H d;have H:=aH H;refine SQ<|bE d λco d cp=>jo H (rg [63,24]) (λ(g:(List Nat))=>[(86,vb co)]) (λg=>[.tr bF [s] g cn]) (rg [1,10,0,1,12,1]) ?_ ?_
    ·have bc:=H;have H:=H.rb;have ik:=H;refine yI H (rg [0,24]) (kz [0,0,0,1,0,0,0,0,0,0,1,0,0,0,1,0,0,0,0,1,0,1,0,0]) mixed ?_;refine XM (.pointer (some ⟨o,o27+l.toNat*18,none⟩))<|Xn Z qA<|bE d λbd J d=>?_
     have aj:=aV (H.im 10 Z) D;obtain⟨_,_,_,H⟩:=H.fV 10 Z aj J Z;obtain⟨_,_,_,_,_,_,_,_,i0,rfl,H⟩:=zW H 12 Z;have H:=aJ H;refine XH tX H 11 16 Z aj J Z ?_;refine lE d λcq cr d=>?_
     obtain⟨_,i2,ct⟩:=mW ((H.im 14 Z));refine XQ (yU (bW u86 ct) (congrArg (Value.int .i64) cr))<|lE d λcu cv d=>XQ (dS (vI (a:=cq) (b:=0) Z Z) cv)<|MxM.XL_splitb (b:=cu) Z Z Z Z (λaz=>?_) (λaz=>?_)
     ·have d:=rZ az d;refine XM (.pointer (some ⟨o,o27+l.toNat*18,none⟩))<|Xn Z qA<|XH tX H 11 16 Z aj J Z<|XM (.pointer (some ⟨o,o27+l.toNat*18,none⟩))<|Xn Z qA ?_;refine XH tX H 11 16 Z aj J Z ?_;refine lE d λcw cx d=>?_
      obtain⟨i3,i4,cy⟩:=mW ((H.im 14 Z));refine XQ (yU (bW u86 cy) (congrArg (Value.int .i64) cx))<|lE d λi5 cz d=>XQ (nC (a:=cw) (b:=1) Z Z cz)<|bE d λc0 K d=>?_
      obtain⟨_,i9,_,a0⟩:=dI (H.im 14 Z) K;refine XQ (yY u86 aId a0 Z (zV K).1 (zV K).2.1 Z Z)<|XQ (aIp Z) ?_;obtain⟨_,_,_,H⟩:=H.fV 14 Z a0 K Z;obtain⟨c1,c2⟩:=trF (H.im 17 Z);subst c1;obtain rfl:=cO c2;have H:=sK H;refine XH fC H 16 1 Z a0 K Z ?_;refine XQ (mO Z)<|XR fC H 10 0 Z Z<|lE d λc3 c4 d=>XQ (dS (aGx (a:=c0.n) (b:=p.N) Z Z) c4)<|XQ (kY (v:=vb c3) Z Z)<|nJ bc H λ_ H=>?_
      have H:=sK H;obtain⟨_,H⟩:=H.u0 16 17 Z Z (by decide) Z Z K;have H:=aJ H;obtain⟨_,H⟩:=zK (x:=bd) H 12 13 16 14 Z Z Z Z (H.im 15 Z) (by decide);have H:=kL H;obtain⟨c5,H⟩:=H.u0 11 13 Z Z (by decide) Z Z J;have H:=dO H
      cases d
      exact zF<|mt c5 (H.U (rg [0,10,12,1,10,1]))
     have d:=sN az d;refine XO<|XO<|XO<|MxM.xW oS Z Z Z ?_;refine XO<|XO<|XO<|MxM.xW oS Z Z Z ?_;refine XO<|XO<|XO<|XO<|MxM.xW oS Z Z Z ?_;refine XO<|MxM.xW oS Z Z Z ?_;refine XO<|XQ (kC (v:=vb false) Z Z)<|nJ bc H λ_ H=>?_
     have H:=aJ H;obtain⟨_,H⟩:=zK (x:=bd) H 12 13 14 15 Z Z Z Z (H.im 16 Z) (by decide);have H:=kL H;obtain⟨c6,H⟩:=H.u0 11 13 Z Z (by decide) Z Z J;have H:=dO H
     cases d
     exact zF<|mt c6 (H.U (rg [0,10,12,1,10,1]))
    rintro c7 ρ _ H;have H:=aH H;have d:=cp;refine WJ d ?_ ?_<;>intro d
    ·refine WZ<|zJ ?_;have c8:=H;have H:=H.rb;have jl:=H;refine yI H (rg [0,15]) (kz [0,0,0,0,1,0,0,0,1,0,0,0,0,0,3]) mixed ?_;refine XM (.pointer (some ⟨o,o27+l.toNat*18,none⟩))<|XM (.pointer (some ⟨o,o27+l.toNat*18,none⟩))<|Xn Z qA<|bE d λbe ak d=>?_
     have al:=aV (H.im 10 Z) D;obtain⟨_,_,_,H⟩:=H.fV 10 Z al ak Z;obtain⟨_,_,_,_,_,_,_,_,_,rfl,H⟩:=zW H 12 Z;have H:=aJ H;refine XH tX H 11 16 Z al ak Z ?_;refine XM (.pointer (some ⟨o,o27+l.toNat*18,none⟩))<|Xn Z qA<|XH tX H 11 16 Z al ak Z ?_;refine lE d λc9 da d=>?_
     obtain⟨_,_,db⟩:=mW ((H.im 14 Z));refine XQ (yU (bW u86 db) (congrArg (Value.int .i64) da))<|lE d λ_ dc d=>XQ (nC (a:=c9) (b:=1) Z Z dc)<|bE d λdd de d=>MxM.XL_exP Z Z Z (aLe H 14 Z u86 aId Z Z de) ?_
     rintro df H;refine Xn Z qA<|Xu (λk f=>yO (vs:=[df]) (off:=16) (H.Z f) 11 Z al ak Z Z sz86 Z Z (pG (bV ((H.Z f).V (i:=14) Z))) (yQ ⟨(bV ((H.Z f).V (i:=14) Z)),T1⟩) (by show _<=18;decide)) λk _ f H=>nJ c8 H λ_ H=>?_
     have H:=aJ H;obtain⟨_,H⟩:=zK (x:={be with c:=cE be.c,low:=dd}) H 12 13 14 15 Z Z Z Z (H.im 16 Z) (by decide);have H:=kL H;refine bE d λ_ dg d=>?_
     obtain⟨dh,H⟩:=H.uf 11 13 Z Z (by decide) Z Z dg;have H:=dO H;exact zO<|zF<|me d dh (H.U (rg [0,10,12,1,10,1]))
    cases d
    exact zZ<|zQ<|zQ<|zU<|zF<|mt c7 (H.U (rg [0,12]))
   rintro di ρ _ H;have H:=aH H;have d:=ci;refine bE d λdj d dk=>jo H (rg [101,38]) (λ(g:(List Nat))=>[]) (λg=>[.tr bF [s] g dj]) (rg [1,10,0,1,12,1]) ?_ ?_
   ·refine zJ<|lo d H (rg [101,38]) (λx (y:(List Nat))=>[]) (λx y=>[.tr bF [s] y x]) (rg [1,10,0,1,12,1]) di (H.U (rg [0,12])) ?_;clear H d;rintro _ dl _ ρ _ H d;have H:=aH H;refine SQ<|bE d λdm d dn=>jo H (rg [101,24]) (λ(g:(List Nat))=>[(124,vb dm)]) (λg=>[.tr bF [s] g dl]) (rg [1,10,0,1,12,1]) ?_ ?_
    ·have bf:=H;have H:=H.rb;have kc:=H;refine yI H (rg [0,24]) (kz [0,0,0,1,0,0,0,0,0,0,1,0,0,0,1,0,0,0,0,1,0,1,0,0]) mixed ?_;refine XM (.pointer (some ⟨o,o27+l.toNat*18,none⟩))<|Xn Z rC<|bE d λbg L d=>?_
     have am:=aV (H.im 10 Z) D;obtain⟨_,_,_,H⟩:=H.fV 10 Z am L Z;obtain⟨_,_,_,_,_,_,_,_,_,rfl,H⟩:=zW H 12 Z;have H:=aJ H;refine XH tX H 11 17 Z am L Z ?_;refine lE d λdp dq d=>?_
     obtain⟨_,_,dr⟩:=mW ((H.im 15 Z));refine XQ (yU (bW u86 dr) (congrArg (Value.int .i64) dq))<|lE d λds dt d=>XQ (dS (vI (a:=dp) (b:=0) Z Z) dt)<|MxM.XL_splitb (b:=ds) Z Z Z Z (λa1=>?_) (λa1=>?_)
     ·have d:=rZ a1 d;refine XM (.pointer (some ⟨o,o27+l.toNat*18,none⟩))<|Xn Z rC<|XH tX H 11 17 Z am L Z<|XM (.pointer (some ⟨o,o27+l.toNat*18,none⟩))<|Xn Z rC ?_;refine XH tX H 11 17 Z am L Z ?_;refine lE d λdw dx d=>?_
      obtain⟨_,_,dy⟩:=mW ((H.im 15 Z));refine XQ (yU (bW u86 dy) (congrArg (Value.int .i64) dx))<|lE d λ_ dz d=>XQ (nC (a:=dw) (b:=1) Z Z dz)<|bE d λd0 M d=>?_
      obtain⟨_,_,_,a2⟩:=dI (H.im 15 Z) M;refine XQ (yY u86 aId a2 Z (zV M).1 (zV M).2.1 Z Z)<|XQ (aIp Z) ?_;obtain⟨_,_,_,H⟩:=H.fV 15 Z a2 M Z;obtain⟨d1,d2⟩:=trF (H.im 17 Z);subst d1;obtain rfl:=cO d2;have H:=sK H;refine XH fC H 16 1 Z a2 M Z ?_;refine XQ (mO Z)<|XR fC H 10 0 Z Z<|lE d λd3 d4 d=>XQ (dS (aPm (a:=d0.n) (b:=p.N) Z Z) d4)<|XQ (kY (v:=vb d3) Z Z)<|nJ bf H λ_ H=>?_
      have H:=sK H;obtain⟨_,H⟩:=H.u0 16 17 Z Z (by decide) Z Z M;have H:=aJ H;obtain⟨_,H⟩:=zK (x:=bg) H 12 13 14 16 Z Z Z Z (H.im 15 Z) (by decide);have H:=kL H;obtain⟨d5,H⟩:=H.u0 11 13 Z Z (by decide) Z Z L;have H:=dO H
      cases d
      exact zF<|mt d5 (H.U (rg [0,10,12,1,10,1]))
     have d:=sN a1 d;refine XO<|XO<|XO<|MxM.xW oS Z Z Z ?_;refine XO<|XO<|XO<|MxM.xW oS Z Z Z ?_;refine XO<|XO<|XO<|XO<|MxM.xW oS Z Z Z ?_;refine XO<|MxM.xW oS Z Z Z ?_;refine XO<|XQ (kC (v:=vb false) Z Z)<|nJ bf H λ_ H=>?_
     have H:=aJ H;obtain⟨_,H⟩:=zK (x:=bg) H 12 13 14 15 Z Z Z Z (H.im 16 Z) (by decide);have H:=kL H;obtain⟨d6,H⟩:=H.u0 11 13 Z Z (by decide) Z Z L;have H:=dO H
     cases d
     exact zF<|mt d6 (H.U (rg [0,10,12,1,10,1]))
    rintro d7 ρ _ H;have H:=aH H;have d:=dn;refine WJ d ?_ ?_<;>intro d
    ·refine WZ<|zJ ?_;have d8:=H;have H:=H.rb;have k8:=H;refine yI H (rg [0,15]) (kz [0,0,0,0,1,0,0,0,1,0,0,0,0,0,3]) mixed ?_;refine XM (.pointer (some ⟨o,o27+l.toNat*18,none⟩))<|XM (.pointer (some ⟨o,o27+l.toNat*18,none⟩))<|Xn Z rC<|bE d λbh an d=>?_
     have ao:=aV (H.im 10 Z) D;obtain⟨_,_,_,H⟩:=H.fV 10 Z ao an Z;obtain⟨_,_,_,_,_,_,_,_,_,rfl,H⟩:=zW H 12 Z;have H:=aJ H;refine XH tX H 11 17 Z ao an Z ?_;refine XM (.pointer (some ⟨o,o27+l.toNat*18,none⟩))<|Xn Z rC<|XH tX H 11 17 Z ao an Z ?_;refine lE d λd9 ea d=>?_
     obtain⟨_,_,eb⟩:=mW ((H.im 15 Z));refine XQ (yU (bW u86 eb) (congrArg (Value.int .i64) ea))<|lE d λ_ ec d=>XQ (nC (a:=d9) (b:=1) Z Z ec)<|bE d λed ee d=>MxM.XL_exP Z Z Z (aLe H 15 Z u86 aId Z Z ee) ?_
     rintro ef H;refine Xn Z rC<|Xu (λk f=>yO (vs:=[ef]) (off:=17) (H.Z f) 11 Z ao an Z Z sz86 Z Z (pG (bV ((H.Z f).V (i:=15) Z))) (yQ ⟨(bV ((H.Z f).V (i:=15) Z)),T1⟩) (by show _<=18;decide)) λk _ f H=>nJ d8 H λ_ H=>?_
     have H:=aJ H;obtain⟨_,H⟩:=zK (x:={bh with c:=cE bh.c,high:=ed}) H 12 13 14 15 Z Z Z Z (H.im 16 Z) (by decide);have H:=kL H;refine bE d λ_ eg d=>?_
     obtain⟨eh,H⟩:=H.uf 11 13 Z Z (by decide) Z Z eg;have H:=dO H;exact zO<|zF<|me d eh (H.U (rg [0,10,12,1,10,1]))
    cases d
    exact zZ<|zQ<|zQ<|zU<|zF<|mt d7 (H.U (rg [0,12]))
   rintro _ ρ bi H;have H:=aH H;have d:=dk;refine bE d λP ap d=>?_
   have aq:=aV (H.im 10 Z) D;obtain⟨_,_,_,H⟩:=H.fV 10 Z aq ap Z;obtain⟨ei,ej,ek,el,em,_,_,en,eo,rfl,H⟩:=zW H 12 Z;have H:=aJ H;have ep:=H;have H:=H.rb;have er:=H;have Q:=kL<|H.W [7,8,12,13,14,15] [0,1,2,3,4,5,6,16];have bj:=H.firmH Q [7,8,12,13,14,15] 9 Z aq ap Z kU;have bk:=H.firmB Q (i:=9) Z (aYd [7,8,12,13,14,15] 7 Z);have bl:=H.firmB Q (i:=10) Z (aYd [7,8,12,13,14,15] 8 Z);refine jZ H Q [0,1,2,3,4,5,6,7,8,9,10,11,12,15,16,17,18,19,20,21,22,23,24,25,13] 26 14 [27,28,29] [30,31,32,33] [.pure,.pure,.pure,.pure,.pure,.pure,.pure,.pure,.pure,.pure,.pure,.pure,.pure,.mk (World.heap bi).size,.eff,.pure,.pure,.pure,.pure,.pure,.pure,.pure,.pure,.pure,.pure,.pure,.mk (World.heap bi).size,.eff,.pure,.pure,.eff,.pure,.pure,.eff] ⟨T1,T1,T1,T1,T1,T1,T1,T1,T1,T1,T1,T1,T1,Z,T1,T1,T1,T1,T1,T1,T1,T1,T1,T1,T1,T1,Z,T1,T1,T1,T1,T1,T1,T1,T1⟩ mixed (by kernel_rfl) (by kernel_rfl) (by kernel_rfl) (by kernel_rfl) (by kernel_rfl) (by decide) ?_;have H:=Hd.hm Q;refine XM (.pointer (some ⟨o,o27+l.toNat*18,none⟩))<|XM (.pointer (some ⟨o,o27+l.toNat*18,none⟩))<|XM (.pointer (some ⟨o,o27+l.toNat*18,none⟩))<|Xn Z qA<|XP (λk f=>yC tX Z (Cells.get (bj k f) (i:=16) Z))<|XM (gX E)<|Xn Z aGy<|XP (λk f=>yC fC Z (Cells.get (Blk.cells (bk k f)) (i:=6) Z))<|XQ (mO Z)<|XP (λk f=>yC fC Z (Cells.get (Blk.cells (bl k f)) (i:=0) Z))<|XQ (yX (cs:=[i6 h.frames,i6 p.N]) (aNu _ _))<|XM (.pointer (some ⟨o,o27+l.toNat*18,none⟩))<|Xn Z rC<|XP (λk f=>yC tX Z (Cells.get (bj k f) (i:=17) Z))<|XM (gX E)<|Xn Z aGy<|XP (λk f=>yC fC Z (Cells.get (Blk.cells (bk k f)) (i:=6) Z))<|XQ (mO Z)<|XP (λk f=>yC fC Z (Cells.get (Blk.cells (bl k f)) (i:=0) Z))<|XQ (yX (cs:=[i6 h.frames,i6 p.N]) (aNu _ _))<|lE d λ_ es d=>?_
   subst es;refine H.bs_rule (r:=fP) (xl:=[gW.mk h.frames p.N]) (cs:=[i6 h.frames,i6 p.N]) Z Z Z Z u86 aOj (by decide) (by decide) Z (xN (vs:=[.agg [i6 h.frames,i6 p.N].toArray]) (by decide) Z Z ⟨Z,T1⟩ Z) ⟨[i6 h.frames,i6 p.N],[],Z,(jT (x:=gW.mk h.frames p.N)),Z⟩ ?_;rintro et _ _ H;refine MxM.xI λ_ hS=>?_
   have H:=H.Z hS;refine lE d λ_ bm d=>bE d λbn bo d=>MxM.XL_join (du:=165) (dv:=153) (λar ag wl=> ∃(au:List Nat),Sm Q wl [.tr fV [G] ad h.moves,.tr fV [I] ae h.rules,.tr fV [ej] ek P.kids,.tr rw_7 [el] em P.ring,.tr aDt [en] eo P.high,fU U h.r.Phases,dW V h.r.Moves,dQ X h.r.Rules,fU Y h.names,qO v6 h.dens,jM v7 h.told,aU v8 h.phase,dG ei P.c.Kids,.own fP et 269 ([gW.mk h.frames p.N]:List gW),.own fP ar 269 ([gW.mk h.frames p.N]:List gW),.tr aDt [ag] au bn]) ?_ ?_ ?_
   ·subst bm;refine H.bs_rule (r:=fP) (xl:=[gW.mk h.frames p.N]) (cs:=[i6 h.frames,i6 p.N]) Z Z Z Z u86 aOj (by decide) (by decide) Z (xN (vs:=[.agg [i6 h.frames,i6 p.N].toArray]) (by decide) Z Z ⟨Z,T1⟩ Z) ⟨[i6 h.frames,i6 p.N],[],Z,(jT (x:=gW.mk h.frames p.N)),Z⟩ ?_;rintro ar _ _ H;have H:=H.hd;refine Xf (λk f=>qR (H.Z f) 4 Z u86 aOj Z Z (Sr.xH ((H.Z f).V (i:=14) Z)) bo) λk ag _ f au H=>?_
    have H:=qZ H;refine MxM.xI λ_ hS=>?_
    have H:=H.Z hS;exact⟨ar,ag,Z,H.only,au,H⟩
   ·have H:=H.hd;refine MxM.XL_exA oS Z Z Z (λk f=>qR (H.Z f) 4 Z u86 aOj Z Z (Sr.xH ((H.Z f).V (i:=14) Z)) bo) ?_;rintro k eu _ f ⟨ew,H⟩;refine⟨H.only,?_⟩;have H:=uS H;subst bm;refine H.bs_ruleA (r:=fP) (xl:=[gW.mk h.frames p.N]) (cs:=[i6 h.frames,i6 p.N]) Z Z Z u86 aOj (by decide) (by decide) Z (xN (vs:=[.agg [i6 h.frames,i6 p.N].toArray]) (by decide) Z Z ⟨Z,T1⟩ Z) ⟨[i6 h.frames,i6 p.N],[],Z,(jT (x:=gW.mk h.frames p.N)),Z⟩ ?_;rintro _ ex _ H;refine MxM.xI λ_ hS=>?_
    have H:=H.Z hS;have H:=H.U (rg [0,14,15,1,14,1]);exact⟨ex,eu,MxM.upd_comm _ (by decide) _ _,H.only,ew,H⟩
   rintro M' ar ag _ ⟨au,H⟩;refine bE d λey ez d=>Xf (λk f=>qR (H.Z f) 4 Z u86 aOj Z Z (Sr.xH ((H.Z f).V (i:=14) Z)) ez) λk e0 _ f _ H=>?_
   have H:=qZ H;refine Xn Z qA<|MxM.xI λ_ hS=>?_
   have H:=H.Z hS;have H:=er.back [7,8,12,13,14,15] [0,1,2,3,4,5,6,16] Z H;have H:=un27 H;have H:=aUn<|H.U (rg [9,1,7,2,11,16]);refine⟨H.only,?_⟩;refine Xu (λk f=>yO (vs:=[ag]) (off:=16) (H.Z f) 0 Z aq ap Z Z sz86 Z Z (pG (bV ((H.Z f).V (i:=17) Z))) (yQ ⟨(bV ((H.Z f).V (i:=17) Z)),T1⟩) (by show _<=18;decide)) λk _ f H=>Xn Z rC<|Xu (λk f=>yO (vs:=[e0]) (off:=17) (H.Z f) 0 Z aq ap Z Z sz86 Z Z (pG (bV ((H.Z f).V (i:=18) Z))) (yQ ⟨(bV ((H.Z f).V (i:=18) Z)),T1⟩) (by show _<=18;decide)) λk _ f H=>nJ ep H λ_ H=>?_
   have H:=aUn H;obtain⟨_,H⟩:=zK (x:={P with c:=cE P.c,low:=bn,high:=ey}) H 5 6 17 18 Z Z Z Z (H.im 14 Z) (by decide);have H:=qZ H;refine bE d λ_ e1 d=>?_
   obtain⟨e2,H⟩:=H.uf 0 15 Z Z (by decide) Z Z e1;have H:=uS H
   cases d
   exact zF<|mt e2 (H.U (rg [4,7,2,2,0,1,14,1]))
  have H:=sK H;have H:=H.addF (r:=(Rp.int .i8)) (cs:=[.int .i8 0]) (a:=0) Z;refine bE d λe3 e4 d=>?_
  obtain⟨_,H⟩:=H.uf 16 18 Z Z (by decide) Z Z e4;have H:=sK H;obtain⟨_,H⟩:=zK (x:={af with c:=cE af.c,ring:=e3,known:=ba}) H 12 17 13 14 Z Z Z Z (H.im 15 Z) (by decide);have H:=uS H;refine bE d λ_ e5 d=>?_
  obtain⟨e6,H⟩:=H.uf 11 14 Z Z (by decide) Z Z e5;have H:=kL H
  cases d
  exact js<|mt e6 (H.U (rg [0,10,13,1]))
 rintro _ ρ _ H;have H:=nY H;have d:=cf;refine SQ ?_;have e7:=H;have H:=H.rb;have m0:=H;refine yI H (rg [0,15]) (kz [0,0,0,0,1,0,0,0,0,1,0,0,0,0,3]) mixed ?_;refine XM (.pointer (some ⟨o,o27+l.toNat*18,none⟩))<|XM (.pointer (some ⟨o,o27+l.toNat*18,none⟩))<|Xn Z aAm<|bE d λt B d=>?_
 have C:=aV (H.im 10 Z) D;obtain⟨m1,m2,m3,H⟩:=H.fV 10 Z C B Z;obtain⟨e8,e9,fa,fb,fc,fd,fe,ff,fg,rfl,H⟩:=zW H 11 Z;have H:=qZ H;refine XH fC H 10 12 Z C B Z ?_;refine lE d λfh fi d=>XQ (uA (a:=t.at_) (b:=1) Z Z fi)<|XM (.pointer (some ⟨o,o27+l.toNat*18,none⟩))<|Xn Z aBy<|XH aKz H 10 11 Z C B Z ?_
 refine lE d λfj fk d=>?_
 obtain⟨m4,m5,fm⟩:=mW ((H.im 12 Z));refine XQ (yU (bW u85 fm) (congrArg (Value.int .i64) fk))<|bE d λa3 fn d=>XQ (bCc (j:=fh) (q:=fj) Z Z fn)<|Xn Z aAm<|Xu (λk f=>yO (vs:=[i6 a3]) (off:=12) (H.Z f) 10 Z C B Z Z sz3 Z Z Z (yQ ⟨Z,T1⟩) (by show _<=18;decide)) λk m6 f H=>nJ e7 H λm7 H=>?_
 refine zF<|KN<|SQ ?_;have fo:=H;have H:=H.rb;have fp:=H;have ah:=kL<|H.W [7,8,11,12,13,14] [0,1,2,3,4,5,6,15];have av:=H.firmH ah [7,8,11,12,13,14] 8 Z C B Z kU;have bp:=H.firmB ah (i:=9) Z (aYd [7,8,11,12,13,14] 7 Z);refine jZ H ah [1,2,6,7,8,9,10,11,12,13,14,15,16,18,19,20,21,22,23,24,25,26,27,28,29,30,31,32] 0 3 [4,5,17,33,34,35] [36,37,38,39] [.pure,.pure,.pure,.pure,.pure,.pure,.pure,.pure,.pure,.pure,.pure,.pure,.pure,.pure,.pure,.pure,.pure,.eff,.pure,.pure,.pure,.pure,.pure,.pure,.pure,.pure,.pure,.pure,.pure,.pure,.pure,.pure,.pure,.eff,.pure,.pure,.eff,.pure,.pure,.eff] ⟨T1,T1,T1,T1,T1,T1,T1,T1,T1,T1,T1,T1,T1,T1,T1,T1,T1,T1,T1,T1,T1,T1,T1,T1,T1,T1,T1,T1,T1,T1,T1,T1,T1,T1,T1,T1,T1,T1,T1,T1,T1⟩ mixed (by kernel_rfl) (by kernel_rfl) (by kernel_rfl) (by kernel_rfl) (by kernel_rfl) (by decide) ?_;have H:=ah;refine XM (.pointer (some ⟨o,o27+l.toNat*18,none⟩))<|XM (.pointer (some ⟨o,o27+l.toNat*18,none⟩))<|XM (gX E)<|Xn Z aGy<|XP (λk f=>yC fC Z (Cells.get (Blk.cells (bp k f)) (i:=6) Z))<|XM (.pointer (some ⟨o,o27+l.toNat*18,none⟩))<|Xn Z rW<|XQ (mM Z)<|XP (λk f=>yC fC Z (Cells.get (av k f) (i:=5) Z))<|lE d λfq fr d=>XQ (nC (a:=h.frames) (b:=t.c.Frames) Z Z fr)<|lE d λm8 fs d=>XQ (uA (a:=fq) (b:=1) Z Z fs)<|XM (.pointer (some ⟨o,o27+l.toNat*18,none⟩))<|Xn Z rC<|XP (λk f=>yC tX Z (Cells.get (av k f) (i:=17) Z))<|XM (gX E)<|Xn Z aGy<|XP (λk f=>yC fC Z (Cells.get (Blk.cells (bp k f)) (i:=6) Z))<|XM (.pointer (some ⟨o,o27+l.toNat*18,none⟩))<|Xn Z rW<|XQ (mM Z)<|XP (λk f=>yC fC Z (Cells.get (av k f) (i:=5) Z))<|lE d λft fu d=>XQ (nC (a:=h.frames) (b:=t.c.Frames) Z Z fu)<|lE d λm9 fv d=>XQ (uA (a:=ft) (b:=1) Z Z fv)<|MxM.xI λ_ hS=>?_
 have H:=H.Z hS;refine MxM.XL_join (du:=185) (dv:=188) (λg1 g2 wl=> .pointer (some ⟨o,o27+l.toNat*18,none⟩)=g1/\ .pointer (some ⟨o,o27+l.toNat*18,none⟩)=g2/\Sm ah wl [.tr fV [G] ad h.moves,.tr fV [I] ae h.rules,.tr fV [e9] fa t.kids,.tr rw_7 [fb] fc t.ring,.tr aDt [fd] fe t.low,.tr aDt [ff] fg t.high,fU U h.r.Phases,dW V h.r.Moves,dQ X h.r.Rules,fU Y h.names,qO v6 h.dens,jM v7 h.told,aU v8 h.phase,dG e8 t.c.Kids]) ?_ ?_ ?_
 ·refine XM (.pointer (some ⟨o,o27+l.toNat*18,none⟩))<|XQ (dY Z)<|MxM.xI λ_ hS=>?_
  have H:=H.Z hS;exact⟨_,_,Z,H.only,Z,Z,H⟩
 ·refine XQ (dY Z)<|XM (.pointer (some ⟨o,o27+l.toNat*18,none⟩))<|MxM.xI λ_ hS=>?_
  have H:=H.Z hS;exact⟨_,_,MxM.upd_comm _ (by decide) _ _,H.only,Z,Z,H⟩
 rintro M' _ _ _ ⟨rfl,rfl,H⟩;refine XQ (qA Z)<|XP (λk f=>yC tX Z (Cells.get (av k f) (i:=16) Z))<|bE d λbq fy d=>MxM.XL_effC oS Z Z Z (λk f=>yD en189 Z) (λk f=>Fa7w fy ((H.Z f).W [4] [])) ?_
 rintro k _ _ f ⟨f0,_,rfl,f4⟩;have H:=kL<|(H.Z f).back [4] [] Z f4;refine⟨_,Z,H.only,?_⟩;refine bE d λbr f5 d=>MxM.XL_effC oS Z Z Z (λk f=>yD en189 Z) (λk f=>Fa7w f5 ((H.Z f).W [4] [])) ?_
 rintro k _ _ f ⟨f6,_,rfl,f7⟩;have H:=kL<|(H.Z f).back [4] [] Z f7;refine⟨_,Z,H.only,?_⟩;refine Xn Z qA<|MxM.xI λ_ hS=>?_
 have H:=H.Z hS;have H:=fp.back [7,8,11,12,13,14] [0,1,2,3,4,5,6,15] Z H;have H:=un24 H;have H:=qZ<|H.U (rg [8,1,7,1,10,14]);refine⟨H.only,?_⟩;refine Xu (λk f=>yO (vs:=[f0]) (off:=16) (H.Z f) 0 Z C B Z Z sz86 Z Z (pG (bV ((H.Z f).V (i:=14) Z))) (yQ ⟨(bV ((H.Z f).V (i:=14) Z)),T1⟩) (by show _<=18;decide)) λk _ f H=>Xn Z rC<|Xu (λk f=>yO (vs:=[f6]) (off:=17) (H.Z f) 0 Z C B Z Z sz86 Z Z (pG (bV ((H.Z f).V (i:=15) Z))) (yQ ⟨(bV ((H.Z f).V (i:=15) Z)),T1⟩) (by show _<=18;decide)) λk _ f H=>nJ fo H λ_ H=>?_
 refine zF<|KN ?_;have H:=qZ H;refine SQ<|bE d λa4 d f8=>jo H (rg [223,29]) (λ(g:(List Nat))=>[(251,vb a4.1)]) (λg=>[.tr bF [s] g a4.2]) (rg [0,1,2,1,7,7,3,2,14,1]) ?_ ?_
 ·have bt:=H;have H:=H.rb;have nn:=H;refine yI H (rg [0,29]) (kz [0,0,0,1,0,0,0,0,0,0,1,0,0,1,0,0,0,1,0,0,1,0,0,0,0,0,1,0,0]) mixed ?_;refine XM (.pointer (some ⟨o,o27+l.toNat*18,none⟩))<|Xn Z qA<|XH tX H 0 16 Z C B Z ?_;refine lE d λf9 ga d=>?_
  obtain⟨_,_,gb⟩:=mW ((H.im 14 Z));refine XQ (yU (bW u86 gb) (congrArg (Value.int .i64) ga))<|lE d λgc gd d=>XQ (dS (vI (a:=f9) (b:=0) Z Z) gd)<|MxM.XL_splitb (b:=gc) Z Z Z Z (λa5=>?_) (λa5=>?_)
  ·have d:=rZ a5 d;refine XM (.pointer (some ⟨o,o27+l.toNat*18,none⟩))<|Xn Z rC<|XH tX H 0 17 Z C B Z ?_;refine bE d λge R d=>?_
   obtain⟨_,_,_,a6⟩:=dI (H.im 15 Z) R;refine XQ (yY u86 aId a6 Z (zV R).1 (zV R).2.1 Z Z)<|XQ (aIp Z) ?_;obtain⟨_,_,_,H⟩:=H.fV 15 Z a6 R Z;obtain⟨gf,gg⟩:=trF (H.im 16 Z);subst gf;obtain rfl:=cO gg;have H:=aJ H;refine XH fC H 15 1 Z a6 R Z ?_;refine XM (.pointer (some ⟨o,o27+l.toNat*18,none⟩))<|Xn Z qA<|XH tX H 0 16 Z C B Z ?_;refine bE d λgh T d=>?_
   obtain⟨_,_,_,a7⟩:=dI (H.im 14 Z) T;refine XQ (yY u86 aId a7 Z (zV T).1 (zV T).2.1 Z Z)<|XQ (aIp Z) ?_;obtain⟨_,_,_,H⟩:=H.fV 14 Z a7 T Z;obtain⟨gj,gl⟩:=trF (H.im 17 Z);subst gj;obtain rfl:=cO gl;have H:=sK H;refine XH fC H 16 1 Z a7 T Z ?_;refine lE d λgm gn d=>XQ (nC (a:=ge.n) (b:=gh.n) Z Z gn)<|XM (.pointer (some ⟨o,o27+l.toNat*18,none⟩))<|Xn Z rW<|XQ (mZ Z)<|XH fC H 0 4 Z C B Z ?_
   refine lE d λgo gp d=>XQ (dS (vI (a:=gm) (b:=t.c.N) Z Z) gp)<|XQ (kY (v:=vb go) Z Z)<|nJ bt H λ_ H=>?_
   have H:=sK H;obtain⟨_,H⟩:=H.u0 16 17 Z Z (by decide) Z Z T;have H:=aJ H;obtain⟨_,H⟩:=H.u0 14 15 Z Z (by decide) Z Z R;have H:=qZ H;obtain⟨_,H⟩:=zK (x:={t with c:=cE t.c,at_:=a3,low:=bq,high:=br}) H 4 5 14 15 Z Z Z Z (H.im 13 Z) (by decide);have H:=dO H;refine bE d λ_ gq d=>?_
   obtain⟨gr,H⟩:=H.uf 0 12 Z Z (by decide) Z Z gq;have H:=aH H
   cases d
   exact zF<|mt gr (H.U [11,0,3,4,5,6,7,8,9,1,2,10])
  have d:=sN a5 d;refine XO<|XO<|XO<|MxM.xW oS Z Z Z ?_;refine XO<|XO<|MxM.xW oS Z Z Z ?_;refine XO<|XO<|XO<|MxM.xW oS Z Z Z ?_;refine XO<|XO<|MxM.xW oS Z Z Z ?_;refine XO<|XO<|XO<|XO<|XO<|MxM.xW oS Z Z Z ?_;refine XO<|XQ (kC (v:=vb false) Z Z)<|nJ bt H λ_ H=>?_
  have H:=qZ H;obtain⟨_,H⟩:=zK (x:={t with c:=cE t.c,at_:=a3,low:=bq,high:=br}) H 4 5 14 15 Z Z Z Z (H.im 13 Z) (by decide);have H:=dO H;refine bE d λ_ gs d=>?_
  obtain⟨gt,H⟩:=H.uf 0 12 Z Z (by decide) Z Z gs;have H:=aH H
  cases d
  exact zF<|mt gt (H.U [11,0,3,4,5,6,7,8,9,1,2,10])
 rintro gu ρ _ H;have H:=aH H;have d:=f8;obtain⟨_,_⟩:=a4;refine WJ d ?_ ?_<;>intro d
 ·refine SR<|zB (i6 1)<|RM ?_
  cases d
  exact zI<|zH<|p1z ⟨gu,ad,ae,Z,H.U [0,9,10,1]⟩
 refine WZ<|SQ<|SQ ?_;have gv:=H;have H:=H.rb;have og:=H;refine yI H (rg [0,10]) (kz [0,0,0,1,0,0,0,0,1,0]) mixed ?_;refine XM (.pointer (some ⟨o,o27+l.toNat*18,none⟩))<|Xn Z aMr<|bE d λaw ai d=>?_
 have a8:=aV (H.im 0 Z) D;obtain⟨_,_,_,H⟩:=H.fV 0 Z a8 ai Z;obtain⟨_,_,_,_,_,_,_,_,_,rfl,H⟩:=zW H 12 Z;have H:=aJ H;refine XH fC H 11 15 Z a8 ai Z ?_;refine XM (.pointer (some ⟨o,o27+l.toNat*18,none⟩))<|Xn Z rW<|XQ (mM Z)<|XH fC H 11 5 Z a8 ai Z ?_;refine lE d λ_ gw d=>XQ (dS (aBp (a:=aw.known) (b:=aw.c.Frames) Z Z) gw)<|nJ gv H λ_ H=>?_
 refine zF<|KN<|WJ d ?_ ?_<;>intro d
 ·refine SR<|zB (i6 2)<|RM ?_;have H:=aJ H;obtain⟨_,H⟩:=zK (x:=aw) H 12 13 14 15 Z Z Z Z (H.im 16 Z) (by decide);have H:=kL H;obtain⟨gx,H⟩:=H.u0 11 13 Z Z (by decide) Z Z ai;have H:=dO H
  cases d
  exact zI<|zH<|p1z ⟨gx,ad,ae,Z,H.U [12,8,9,0]⟩
 refine WZ<|SR<|zB (i6 0)<|RM ?_;have H:=aJ H;obtain⟨_,H⟩:=zK (x:=aw) H 12 13 14 15 Z Z Z Z (H.im 16 Z) (by decide);have H:=kL H;obtain⟨gy,H⟩:=H.u0 11 13 Z Z (by decide) Z Z ai;have H:=dO H
 cases d
 exact zI<|p1z ⟨gy,ad,ae,Z,H.U [12,8,9,0]⟩
theorem Fb3w {b:gG}{l:Str}{c:Nat}{n o q s t u z d f h:Value}{A B C:List Nat}{r:Int}(a:Fb3 b l=some r)(H:Hd O w w S [.tr bF [d] A b.nodes,.tr fV [f] B b.moves,.tr fV [h] C b.rules,.blk c [n,o,q,s,t,u,i6 b.frames,z,d,i6 b.first,f,h] 79,fU n b.r.Phases,dW o b.r.Moves,dQ q b.r.Rules,fU s b.names,qO t b.dens,jM u b.told,aU z b.phase]):
  Cl 151 [gX c,sb l] w λe j=> ∃J u27 K,e= .returned (i6 r)/\Hd O w j S [.tr bF [d] J b.nodes,.tr fV [f] u27 b.moves,.tr fV [h] K b.rules,.blk c [n,o,q,s,t,u,i6 b.frames,z,d,i6 b.first,f,h] 79]:=by
 refine CW 42 Tryz.func151 ?_;refine SR<|zB (i6 0)<|RM<|SR<|zB (i6 0)<|RM<|bE a λF a L=>sJ H (rg [5,20]) [(5,i6 F)] ?_ ?_;refine SR<|zB (i6 0)<|RM<|zJ<|lo a H (rg [5,20]) (λx (y:Unit)=>[(5,i6 x.1),(6,i6 x.2)]) (λx y=>[]) (rg [0,11]) () (H.U (rg [0,11])) ?_;clear H a;rintro _ ⟨M,D⟩ _ ρ _ H a;have H:=nY H;refine SQ<|SR<|zA (i6 D)<|zA (gX c)<|nf Z aGo<|Ld aBv H 3 7 Z Z<|ln a (H.im 10 Z) u76 λ_ a=>eG a λ_ a=>RM<|WJ a (λa=>WZ<|bE a λN a P=>sJ H (rg [5,1,16,9]) [(5,i6 N)] ?_ ?_) λa=>?_;refine zJ<|SR<|zA (gX c)<|nf Z aGo<|Ld aBv H 3 7 Z Z<|zA (i6 D)<|bE a λQ R a=>rea H (H.im 10 Z) (vb Q) R u76 sz4 pJ λ_ _ H=>RM<|WJ a (λa=>zD<|zA (i6 M)<|eF a λT a=>zB (i6 T) ?_) λa=>?_;cases a;exact yK<|zO<|zF<|mt () (H.U (rg [0,11]));cases a;exact yP<|zO<|zF<|mt () (H.U (rg [0,11]));rintro _ ρ _ H;have a:=P;exact zD<|zA (i6 D)<|eF a λU a=>zB (i6 U)<|jn<|me a () (H.U (rg [0,11]));cases a;exact zZ<|zQ<|zQ<|zU<|zF<|mt () (H.U (rg [0,11]));rintro _ ρ _ H;have a:=L;refine SQ<|SQ ?_;have V:=H;have H:=H.rb;have av:=H;refine yI H (rg [0,14]) (kz [0,0,0,1,0,0,0,0,1,0,1,0,1,0]) mixed ?_;refine XM (gX c)<|Xn Z aGo<|XR aBv H 3 7 Z Z<|XM (gX c)<|Xn Z aEo<|XQ (kG Z)<|XR aY H 3 0 Z Z<|XM (sb l) ?_;have X:=H;refine bE a λG Y a=>MxM.XL_call oS Z Z Z (v:=i6 G) (λj k=>yD aXc Z) (λj k=>xC (aYk Y ((H.Z k).W [] [4]))) ?_;have H:=X
 refine bE a λI E a=>?_;obtain⟨aa,ab,_,ac,ad,ae,af,ag,ah⟩:=xB (H.im 10 Z) E;obtain rfl:ac=[vb I]:=ae;have H:=H.fz (.at aa (ab+G.toNat*1) _) ⟨af,ag,ah⟩;refine XQ (yY u76 sz4 ad Z (zV E).1 (zV E).2.1 Z Z)<|MxM.yZ oS Z Z Z (λj k=>yC pJ Z (Cells.get ((H.Z k).V (i:=11) Z).2.2 (i:=0) Z)) ?_;refine lE a λ_ ai a=>XQ (dS (aGn (p:=I) Z) ai)<|nJ V H λ_ H=>?_;refine zF<|KN<|WJ a (λa=>SR<|zB (i6 1)<|RM ?_) λa=>?_;cases a;exact zI<|zH<|p1z ⟨A,B,C,Z,H.U [0,1,2,3]⟩;refine WZ<|SR<|zA (i6 F)<|fH a λ_ a=>bE a λaj ak a=>RC aBs (aLf ak (H.W [] [])) H λa0 H=>zB (i6 aj)<|RM ?_;cases a;exact zI<|p1z ⟨A,B,C,Z,H.U [0,1,2,3]⟩
theorem Fadw (f:gG)(o:Int)(k:Nat)(C D E F G I J p:Value)(ag:List Nat)(y:Value)(z:List Nat)(A:Value)(B:List Nat)(q o27 R:Nat)(T:p= .slice (some ⟨q,o27,none⟩) f.nodes.length R)(r:Int×(List gJ))(d:Fad f o=some r)(H:Hd O w w S [.tr bF [p] ag f.nodes,.tr fV [y] z f.moves,.tr fV [A] B f.rules,.blk k [C,D,E,F,G,I,i6 f.frames,J,p,i6 f.first,y,A] 79,fU C f.r.Phases,dW D f.r.Moves,dQ E f.r.Rules,fU F f.names,qO G f.dens,jM I f.told,aU J f.phase]):
  Cl 101 [gX k,.pointer (some ⟨q,o27+o.toNat*18,none⟩)] w λe i=> ∃ah ai aj,e= .returned (i6 r.1)/\Hd O w i S [.tr bF [p] ah r.2,.tr fV [y] ai f.moves,.tr fV [A] aj f.rules,.blk k [C,D,E,F,G,I,i6 f.frames,J,p,i6 f.first,y,A] 79]:=by
 refine CW 101 Tryz.func101 ?_;refine SR<|zB (i6 0)<|RM<|SR<|zA (.pointer (some ⟨q,o27+o.toNat*18,none⟩))<|nf Z rW<|bE d λh l d=>?_
 have M:=aV (H.im 0 Z) T;obtain⟨_,_,_,H⟩:=H.fV 0 Z M l Z;obtain⟨U,_,_,_,_,_,_,_,_,rfl,H⟩:=zW H 11 Z;have H:=qZ H;refine zS (yU (yB (cs:=[i6 h.c.Kind,sb h.c.Name,sb h.c.Other,i6 h.c.Op,i6 h.c.N,i6 h.c.Frames,U]) eY Z eX Z (Cells.drop (H.holeW 10 Z M l Z kU) 0 7)) Z)<|xb (yJ nO H) λ_ _ H=>xu (zY (vs:=[i6 h.c.Kind,sb h.c.Name,sb h.c.Other,i6 h.c.Op,i6 h.c.N,i6 h.c.Frames,U]) H 16 Z eX Z Z Z ⟨Z,Z,Z,Z,Z,Z,(xU (H.im 15 Z)),T1⟩ Z) λ_ H=>RM<|SQ<|SR<|zS (aO Z)<|Ld fC H 16 0 Z Z<|RM<|zJ<|SR<|fH d λak d=>zB (vb ak)<|RM<|WJ d ?_ ?_<;>intro d
 ·refine SR<|zB (i6 2)<|RM ?_;have H:=aJ H;obtain⟨_,H⟩:=zK (x:=h) H 11 12 13 14 Z Z Z Z (H.im 15 Z) (by decide);have H:=kL H;obtain⟨al,H⟩:=H.u0 10 13 Z Z (by decide) Z Z l;have H:=dO H
  cases d
  exact zI<|zN<|zH<|p1z ⟨al,z,B,Z,H.U [12,0,1,2]⟩
 refine SR<|fH d λam d=>zB (vb am)<|RM<|WJ d ?_ ?_<;>intro d
 ·refine SR<|zB (i6 1)<|RM ?_;have H:=aJ H;obtain⟨_,H⟩:=zK (x:=h) H 11 12 13 14 Z Z Z Z (H.im 15 Z) (by decide);have H:=kL H;obtain⟨an,H⟩:=H.u0 10 13 Z Z (by decide) Z Z l;have H:=dO H
  cases d
  exact zI<|zN<|zH<|p1z ⟨an,z,B,Z,H.U [12,0,1,2]⟩
 refine SR<|fH d λao d=>zB (vb ao)<|RM<|WJ d ?_ ?_<;>intro d
 ·refine SR<|zA (gX k)<|zS (kW Z)<|Ld dD H 16 1 Z Z ?_;have H:=aJ H;obtain⟨_,H⟩:=zK (x:=h) H 11 12 13 14 Z Z Z Z (H.im 15 Z) (by decide);have H:=kL H;obtain⟨_,H⟩:=H.u0 10 13 Z Z (by decide) Z Z l;have H:=dO H;obtain⟨⟨n,P⟩,ap,d⟩:=yA d;refine cAc bBk (Faew ap (H.W [12,0,1,2] [3,4,5,6,7,8,9])) λV X Y _ aq=>?_
  have H:=dO<|H.back [12,0,1,2] [3,4,5,6,7,8,9] Z aq;refine zA (.tuple #[.agg [i6 n.N,vb n.Known].toArray,i6 P])<|zS (yF (v:= .agg [i6 n.N,vb n.Known].toArray) Z Z)<|zS (yF (v:=i6 P) Z Z)<|xb (yJ sV H) λ_ _ H=>xu (zY (vs:=[i6 n.N,vb n.Known]) H 13 Z nG Z Z Z ⟨Z,Z,T1⟩ Z) λ_ H=>zB (i6 P)<|RM<|SQ<|SR<|zS (wH Z)<|Ld pJ H 13 1 Z Z<|aI d λ_ d=>RM<|WJ d ?_ ?_<;>intro d
  ·refine SR<|zB (i6 0)<|RM ?_
   cases d
   exact zI<|zH<|zN<|zH<|p1z ⟨V,X,Y,Z,H.U (rg [9,4])⟩
  refine WZ<|SQ ?_;have ar:=H;have H:=H.rb;have cq:=H;refine yI H (rg [0,11]) (kz [0,1,0,1,0,1,0,4,4,4,0]) mixed ?_;refine XQ (vO Z)<|XR fC H 8 3 Z Z<|XQ (mO Z)<|XR fC H 13 0 Z Z<|XQ (mZ Z)<|XR fC H 8 4 Z Z<|lE d λ_ au d=>XQ (nC (a:=n.N) (b:=h.c.N) Z Z au) ?_
  have av:=H;refine bE d λaw ax d=>MxM.XL_fcall oS Z Z Z (v:=i6 aw) (λi j=>yD aLv Z) (λi j=>xC (aZq ax (Hd.fresh0 i))) ?_
  have H:=av;have ay:=H;refine bE d λaz a0 d=>MxM.XL_fcall oS Z Z Z (v:=vb az) (λi j=>yD en147 Z) (λi j=>xC (Fdow a0 (Hd.fresh0 i))) ?_
  have H:=ay;have a1:=H;refine bE d λaa a2 d=>MxM.XL_fcall oS Z Z Z (v:=i6 aa) (λi j=>yD en146 Z) (λi j=>xC (Feyw a2 (Hd.fresh0 i))) ?_
  have H:=a1;refine XQ (yN (v:=i6 aa) Z)<|nJ ar H λ_ H=>?_
  refine zF<|KN ?_;have H:=nY<|H.U (rg [0,7,9,4])
  cases d
  exact zI<|zN<|zH<|p1z ⟨V,X,Y,Z,H.U [7,8,9,10]⟩
 refine SR<|fH d λa3 d=>zB (vb a3)<|RM<|WJ d ?_ ?_<;>intro d
 ·refine SR<|zA (gX k)<|zS (kW Z)<|Ld dD H 16 1 Z Z ?_;have H:=aJ H;obtain⟨_,H⟩:=zK (x:=h) H 11 12 13 14 Z Z Z Z (H.im 15 Z) (by decide);have H:=kL H;obtain⟨_,H⟩:=H.u0 10 13 Z Z (by decide) Z Z l;have H:=dO H;obtain⟨⟨s,K⟩,a4,d⟩:=yA d;refine cAc bBk (Faew a4 (H.W [12,0,1,2] [3,4,5,6,7,8,9])) λ_ _ _ _ a5=>?_
  have H:=dO<|H.back [12,0,1,2] [3,4,5,6,7,8,9] Z a5;refine zA (.tuple #[.agg [i6 s.N,vb s.Known].toArray,i6 K])<|zS (yF (v:= .agg [i6 s.N,vb s.Known].toArray) Z Z)<|zS (yF (v:=i6 K) Z Z)<|xb (yJ sV H) λc0 _ H=>xu (zY (vs:=[i6 s.N,vb s.Known]) H 13 Z nG Z Z Z ⟨Z,Z,T1⟩ Z) λc2 H=>zB (i6 K)<|RM<|SR<|zA (gX k)<|zS (aBr Z)<|Ld dD H 8 2 Z Z ?_
  obtain⟨⟨t,L⟩,a6,d⟩:=yA d;refine cAc bBk (Faew a6 (H.W [9,10,11,12] [0,1,2,3,4,5,6])) λab ac ad c3 a7=>?_
  have H:=kL<|H.back [9,10,11,12] [0,1,2,3,4,5,6] Z a7;refine zA (.tuple #[.agg [i6 t.N,vb t.Known].toArray,i6 L])<|zS (yF (v:= .agg [i6 t.N,vb t.Known].toArray) Z Z)<|zS (yF (v:=i6 L) Z Z)<|xb (yJ sV H) λc4 c5 H=>xu (zY (vs:=[i6 t.N,vb t.Known]) H 14 Z nG Z Z Z ⟨Z,Z,T1⟩ Z) λ_ H=>zB (i6 L)<|RM<|SQ<|bE d λa8 d a9=>sJ H (rg [60,8]) [(67,vb a8)] ?_ ?_
  ·refine zD<|zS (wH Z)<|Ld pJ H 9 1 Z Z<|aI d λ_ d=>RJ d ?_ ?_<;>intro d
   ·refine zL<|zL<|zL<|pt (vb true) ?_
    cases d
    exact jn<|mt () (H.U (rg [0,15]))
   refine zS (wH Z)<|Ld pJ H 14 1 Z Z<|aI d λba d=>pf (vb ba) ?_
   cases d
   exact jn<|mt () (H.U (rg [0,15]))
  rintro _ _ _ H;have d:=a9;refine WJ d ?_ ?_<;>intro d
  ·refine SR<|zB (i6 0)<|RM ?_;have H:=nY<|H.U (rg [0,7,10,4])
   cases d
   exact zI<|zH<|zN<|zH<|p1z ⟨ab,ac,ad,Z,H.U [7,8,9,10]⟩
  refine WZ<|SQ ?_;have bb:=H;have H:=H.rb;have c9:=H;refine yI H (rg [0,12]) (kz [0,1,0,1,0,0,1,0,4,4,4,0]) mixed ?_;refine XQ (vO Z)<|XR fC H 8 3 Z Z<|XQ (mO Z)<|XR fC H 9 0 Z Z<|XM (i6 K)<|XQ (mO Z)<|XR fC H 14 0 Z Z<|XM (i6 L) ?_;have bc:=H;refine bE d λbd be d=>MxM.XL_fcall oS Z Z Z (v:=i6 bd) (λi j=>yD (fJ Tryz.func149) Z) (λi j=>xC (Fezw be (Hd.fresh0 i))) ?_
  have H:=bc;have bf:=H;refine bE d λbg bh d=>MxM.XL_fcall oS Z Z Z (v:=vb bg) (λi j=>yD en147 Z) (λi j=>xC (Fdow bh (Hd.fresh0 i))) ?_
  have H:=bf;have bi:=H;refine bE d λae bj d=>MxM.XL_fcall oS Z Z Z (v:=i6 ae) (λi j=>yD en146 Z) (λi j=>xC (Feyw bj (Hd.fresh0 i))) ?_
  have H:=bi;refine XQ (yN (v:=i6 ae) Z)<|nJ bb H λ_ H=>?_
  refine zF<|KN ?_;have H:=nY<|H.U (rg [0,7,10,4])
  cases d
  exact zI<|zN<|zH<|p1z ⟨ab,ac,ad,Z,H.U [7,8,9,10]⟩
 refine SR<|fH d λbk d=>zB (vb bk)<|RM<|WJ d ?_ ?_<;>intro d
 ·refine SR<|zA (gX k)<|zA (.pointer (some ⟨q,o27+o.toNat*18,none⟩)) ?_;have H:=aJ H;obtain⟨_,H⟩:=zK (x:=h) H 11 12 13 14 Z Z Z Z (H.im 15 Z) (by decide);have H:=kL H;obtain⟨bl,H⟩:=H.u0 10 13 Z Z (by decide) Z Z l;have H:=dO H;obtain⟨⟨bm,_⟩,bn,d⟩:=yA d;refine cAc (fJ Tryz.func150) (Fcqw (gG.mk (Rules.mk f.r.Phases f.r.Moves f.r.Rules) f.names f.dens f.told f.frames f.phase f.nodes f.first f.moves f.rules) o k C D E F G I J p bl y z A B q o27 R (aV (H.im 12 Z) T) _ bn (H.W [12,0,1,2] [3,4,5,6,7,8,9])) λbo bp bq _ br=>?_
  have H:=dO<|H.back [12,0,1,2] [3,4,5,6,7,8,9] Z br;refine zB (i6 bm)<|RM ?_
  cases d
  exact zI<|zN<|zH<|p1z ⟨bo,bp,bq,Z,H.U (rg [9,4])⟩
 refine SR<|fH d λbt d=>zB (vb bt)<|RM<|WJ d ?_ ?_<;>intro d
 ·refine SR<|zA (gX k)<|zS (kW Z)<|Ld dD H 16 1 Z Z ?_;have H:=aJ H;obtain⟨_,H⟩:=zK (x:=h) H 11 12 13 14 Z Z Z Z (H.im 15 Z) (by decide);have H:=kL H;obtain⟨_,H⟩:=H.u0 10 13 Z Z (by decide) Z Z l;have H:=dO H;refine bE d λbu bv d=>cAc (fJ Tryz.func151) (Fb3w bv (H.W [12,0,1,2] [3,4,5,6,7,8,9])) λbw bx bz _ b0=>?_
  have H:=dO<|H.back [12,0,1,2] [3,4,5,6,7,8,9] Z b0;refine zB (i6 bu)<|RM ?_
  cases d
  exact zI<|zN<|zH<|p1z ⟨bw,bx,bz,Z,H.U (rg [9,4])⟩
 refine yP<|zO<|zF<|KN<|SQ ?_;have b1:=H;have H:=H.rb;have dh:=H;refine yI H (rg [0,12]) (kz [0,0,0,1,0,0,0,1,0,0,1,0]) mixed ?_;refine XM (gX k)<|Xn Z uI<|XR aCj H 2 8 Z Z<|XM (.pointer (some ⟨q,o27+o.toNat*18,none⟩))<|Xn Z fa88_2<|XH fC H 10 8 Z M l Z ?_;refine bE d λaf u d=>?_
 obtain⟨_,_,_,Q⟩:=dI (H.im 10 Z) u;refine XQ (yY u77 aPn Q Z (zV u).1 (zV u).2.1 Z Z)<|XQ (mG Z) ?_;have H:=aJ H;obtain⟨_,H⟩:=zK (x:=h) H 11 12 13 14 Z Z Z Z (H.im 15 Z) (by decide);have H:=kL H;obtain⟨_,H⟩:=H.u0 10 13 Z Z (by decide) Z Z l;have H:=dO H;obtain⟨_,_,_,H⟩:=H.fV 12 Z Q u Z;obtain⟨_,_,_,_,_,_,_,_,_,rfl,H⟩:=zW H 13 Z;have H:=sK H;refine XH fC H 12 9 Z Q u Z ?_;refine XQ (yN (v:=i6 af.now) Z)<|nJ b1 H λd0 H=>?_
 refine zF<|KN ?_;have H:=sK H;obtain⟨d1,H⟩:=zK (x:=af) H 13 14 15 16 Z Z Z Z (H.im 17 Z) (by decide);have H:=uS H;obtain⟨b2,H⟩:=H.u0 12 14 Z Z (by decide) Z Z u;have H:=kL H
 cases d
 exact zI<|p1z ⟨b2,z,B,Z,H.U [13,0,1,2]⟩
theorem Fgaw {b r:Int}(a:Fga b=some r)(H:Hd O w w S []):
  Rt 102 [i6 b] (i6 r) w O S []:=by
 refine CW 8 Tryz.func102 ?_;refine SR<|zB (i6 0)<|RM<|SQ<|SR<|zA (i6 b)<|fH a λ_ a=>RM<|WJ a (λa=>SR<|zA (i6 b)<|zB (i6 b)<|RM ?_) λa=>?_;cases a;exact zI<|zH<|p1z ⟨Z,H.U []⟩;refine WZ<|SR<|zA (i6 b)<|uP a λc a=>zB (i6 c)<|RM ?_;cases a;exact zI<|p1z ⟨Z,H.U []⟩
theorem Fcow (b:gG)(f:Int)(l:Nat)(q s t u v z A c:Value)(L:List Nat)(n:Value)(B:List Nat)(o:Value)(C:List Nat)(h o27 T:Nat)(M:c= .slice (some ⟨h,o27,none⟩) b.nodes.length T)(r:Int)(a:Fco b f=some r)(H:Hd O w w S [.tr bF [c] L b.nodes,.tr fV [n] B b.moves,.tr fV [o] C b.rules,.blk l [q,s,t,u,v,z,i6 b.frames,A,c,i6 b.first,n,o] 79,fU q b.r.Phases,dW s b.r.Moves,dQ t b.r.Rules,fU u b.names,qO v b.dens,jM z b.told,aU A b.phase]):
  Cl 103 [gX l,.pointer (some ⟨h,o27+f.toNat*18,none⟩)] w λe U=> ∃V X u32,e= .returned (i6 r)/\Hd O w U S [.tr bF [c] V b.nodes,.tr fV [n] X b.moves,.tr fV [o] u32 b.rules,.blk l [q,s,t,u,v,z,i6 b.frames,A,c,i6 b.first,n,o] 79]:=by
 refine CW 65 Tryz.func103 ?_;refine SR<|zB (i6 0)<|RM<|SR<|zB (i6 0)<|zB (i6 0)<|RM<|bE a λD a Y=>jo H (rg [5,34]) (λ(g:(List Nat))=>[(5,i6 D.1),(6,i6 D.2)]) (λg=>[.tr bF [c] g b.nodes]) (rg [0,1,2,10]) ?_ ?_;refine SR<|zB (i6 0)<|RM<|zJ<|lo a H (rg [5,34]) (λx (y:(List Nat))=>[(5,i6 x.1),(6,i6 x.2.1),(7,i6 x.2.2)]) (λx y=>[.tr bF [c] y b.nodes]) (rg [0,1,2,10]) L (H.U (rg [0,11])) ?_;clear H a;rintro a0 ⟨aa,ab,E⟩ _ ρ a2 H a;have H:=nY H;refine SQ<|SR<|zA (i6 E)<|zA (.pointer (some ⟨h,o27+f.toNat*18,none⟩))<|nf Z aAp<|bE a λN k a=>?_;have F:=aV (H.im 0 Z) M;obtain⟨a3,a4,a5,H⟩:=H.fV 0 Z F k Z;obtain⟨_,_,_,a9,_,_,_,_,_,rfl,H⟩:=zW H 11 Z;have H:=qZ H;refine RH aB H 10 7 Z F k Z<|lr a (H.im 11 Z) u46 λ_ a=>eG a λ_ a=>RM<|WJ a (λa=>WZ<|bE a λG a ac=>jo H (rg [5,2,17,22]) (λ(g:(List Nat))=>[(5,i6 G.1),(6,i6 G.2)]) (λg=>[.tr bF [c] g b.nodes]) (rg [1,10,0,1,16,1]) ?_ ?_) λa=>?_;refine zJ<|SQ ?_;have ad:=H;have H:=H.rb;have bh:=H;refine yI H (rg [0,14]) (kz [0,0,0,1,0,0,0,1,0,0,1,0,0,1]) mixed ?_;refine XM (gX l)<|Xn Z uI<|XR aCj H 2 8 Z Z<|XM (.pointer (some ⟨h,o27+f.toNat*18,none⟩))<|Xn Z aAp<|XH aB H 10 7 Z F k Z<|XM (i6 E) ?_;refine bE a λae i a=>?_;obtain⟨_,_,_,I⟩:=dI (H.im 11 Z) i;refine XQ (yY u46 sz3 I Z (zV i).1 (zV i).2.1 Z Z) ?_;obtain⟨af,_,_,H⟩:=H.fV 11 Z I i Z;obtain⟨ag,ah⟩:=trF (H.im 16 Z);subst ag;obtain rfl:af=[i6 ae]:=ah
 have H:=aJ H;refine XH fC H 15 0 Z I i Z ?_;refine bE a λJ d a=>?_;obtain⟨_,_,_,K⟩:=dI (H.im 10 Z) d;refine XQ (yY u77 aPn K Z (zV d).1 (zV d).2.1 Z Z)<|XQ (mG Z) ?_;have H:=aJ H;obtain⟨_,H⟩:=H.u0 15 16 Z Z (by decide) Z Z i;have H:=qZ H;obtain⟨_,H⟩:=zK (x:=N) H 15 11 12 13 Z Z Z Z (H.im 14 Z) (by decide);have H:=dO H;obtain⟨_,H⟩:=H.u0 10 12 Z Z (by decide) Z Z k;have H:=aH H;obtain⟨_,_,_,H⟩:=H.fV 11 Z K d Z;obtain⟨_,_,_,_,_,_,_,_,_,rfl,H⟩:=zW H 12 Z;have H:=aJ H;refine XH fC H 11 9 Z K d Z ?_;refine nJ ad H λ_ H=>?_;refine zF<|KN<|zJ<|SR<|fH a λai a=>zB (vb ai)<|RM<|WJ a (λa=>zD<|zA (i6 aa)<|eF a λaj a=>zB (i6 aj) ?_) λa=>?_;have H:=aJ H;obtain⟨_,H⟩:=zK (x:=J) H 12 13 14 15 Z Z Z Z (H.im 16 Z) (by decide);have H:=kL H;obtain⟨ak,H⟩:=H.u0 11 13 Z Z (by decide) Z Z d;have H:=dO H;cases a;exact yK<|zO<|zO<|zF<|mt ak (H.U (rg [0,10,12,1,10,1]));refine SR<|fH a λal a=>zB (vb al)<|RM<|WJ a (λa=>zD<|zA (i6 ab)<|eF a λam a=>zB (i6 am) ?_) λa=>?_;have H:=aJ H;obtain⟨_,H⟩:=zK (x:=J) H 12 13 14 15 Z Z Z Z (H.im 16 Z) (by decide);have H:=kL H;obtain⟨an,H⟩:=H.u0 11 13 Z Z (by decide) Z Z d;have H:=dO H;cases a;exact yK<|zO<|zO<|zF<|mt an (H.U (rg [0,10,12,1,10,1]));have H:=aJ H;obtain⟨_,H⟩:=zK (x:=J) H 12 13 14 15 Z Z Z Z (H.im 16 Z) (by decide);have H:=kL H
 obtain⟨ao,H⟩:=H.u0 11 13 Z Z (by decide) Z Z d;have H:=dO H;cases a;exact yP<|zO<|zO<|zF<|mt ao (H.U (rg [0,10,12,1,10,1]));rintro ap ρ _ H;have H:=aH H;have a:=ac;obtain⟨_,_⟩:=G;exact zD<|zA (i6 E)<|eF a λaq a=>zB (i6 aq)<|jn<|me a ap (H.U (rg [10,1,0,10]));have H:=qZ H;obtain⟨_,H⟩:=zK (x:=N) H 11 12 13 14 Z Z Z Z (H.im 15 Z) (by decide);have H:=dO H;obtain⟨ar,H⟩:=H.u0 10 12 Z Z (by decide) Z Z k;have H:=aH H;cases a;exact zZ<|zQ<|zQ<|zU<|zF<|mt ar (H.U (rg [11,1,0,10]));rintro _ ρ _ H;have H:=nY H;have a:=Y;obtain⟨P,Q⟩:=D;refine SQ<|SR<|zA (.pointer (some ⟨h,o27+f.toNat*18,none⟩))<|nf Z rW<|zS (aO Z)<|bE a λR j a=>?_;have p:=aV (H.im 0 Z) M;obtain⟨_,_,_,H⟩:=H.fV 0 Z p j Z;obtain⟨_,_,_,_,_,_,_,_,_,rfl,H⟩:=zW H 11 Z;have H:=qZ H;refine RH fC H 10 0 Z p j Z<|fH a λ_ a=>RM<|WJ a (λa=>SR<|zA (i6 P)<|zA (.pointer (some ⟨h,o27+f.toNat*18,none⟩))<|nf Z aAp<|RH aB H 10 7 Z p j Z<|lr a (H.im 11 Z) u46 λ_ a=>fH a λ_ a=>zA (i6 Q)<|jF a λ_ a=>bE a λau av a=>RC aBs (aLf av (H.W [] [])) H λ_ H=>zB (i6 au)<|RM ?_) λa=>?_;have H:=qZ H;obtain⟨_,H⟩:=zK (x:=R) H 11 12 13 14 Z Z Z Z (H.im 15 Z) (by decide);have H:=dO H;obtain⟨aw,H⟩:=H.u0 10 12 Z Z (by decide) Z Z j;have H:=aH H;cases a;exact zI<|zH<|p1z ⟨aw,B,C,Z,H.U [11,0,1,2]⟩;refine WZ<|SR<|zA (i6 P)<|jF a λ_ a=>zA (i6 Q)<|zA (.pointer (some ⟨h,o27+f.toNat*18,none⟩))<|nf Z aAp<|RH aB H 10 7 Z p j Z<|lr a (H.im 11 Z) u46 λc0 a=>fH a λ_ a=>bE a λax ay a=>RC aBs (aLf ay (H.W [] [])) H λc2 H=>zB (i6 ax)<|RM ?_
 have H:=qZ H;obtain⟨c3,H⟩:=zK (x:=R) H 11 12 13 14 Z Z Z Z (H.im 15 Z) (by decide);have H:=dO H;obtain⟨az,H⟩:=H.u0 10 12 Z Z (by decide) Z Z j;have H:=aH H;cases a;exact zI<|p1z ⟨az,B,C,Z,H.U [11,0,1,2]⟩
theorem Fa9w (B:List gJ)(f z:Int)(s:Value)(U:List Nat)(h i V:Nat)(A:s= .slice (some ⟨h,i,none⟩) B.length V)(r:(List gJ))(d:Fa9 B f z=some r)(H:Hd O w w S [.tr bF [s] U B]):
  Cl 104 [.pointer (some ⟨h,i+f.toNat*18,none⟩),i6 z] w λe t=> ∃X,e= .returned (.tuple #[])/\Hd O w t S [.tr bF [s] X r]:=by
 refine CW 77 Tryz.func104 ?_;refine bE d λY d aa=>jo H (rg [4,29]) (λ(g:(List Nat))=>[]) (λg=>[.tr bF [s] g Y]) [0] ?_ ?_
 ·refine SQ ?_;have ab:=H;have H:=H.rb;have bg:=H;refine yI H (rg [0,11]) (kz [0,0,0,1,0,0,0,1,0,1,0]) mixed ?_;refine XM (.pointer (some ⟨h,i+f.toNat*18,none⟩))<|Xn Z aBy<|bE d λu k d=>?_
  have n:=aV (H.im 0 Z) A;obtain⟨_,_,_,H⟩:=H.fV 0 Z n k Z;obtain⟨_,_,_,_,_,_,_,_,_,rfl,H⟩:=zW H 1 Z;have H:=un6 H;refine XH aKz H 0 11 Z n k Z ?_;refine XM (.pointer (some ⟨h,i+f.toNat*18,none⟩))<|Xn Z aAm<|XH fC H 0 12 Z n k Z ?_;refine bE d λac l d=>?_
  obtain⟨_,_,_,C⟩:=dI (H.im 2 Z) l;refine XQ (yY u85 aHq C Z (zV l).1 (zV l).2.1 Z Z) ?_;obtain⟨ad,_,_,H⟩:=H.fV 2 Z C l Z;obtain⟨ae,af⟩:=trF (H.im 6 Z);subst ae;obtain rfl:ad=[.int .i8 ac]:=af;have H:=un7 H;refine XH one243 H 5 0 Z C l Z ?_;refine lE d λ_ ag d=>XQ (jQ u243 u3 Z ag)<|nJ ab H λ_ H=>?_
  refine zF<|KN<|zJ<|SR<|fH d λah d=>zB (vb ah)<|RM<|WJ d ?_ ?_<;>intro d
  ·refine zD<|zA (.pointer (some ⟨h,i+f.toNat*18,none⟩))<|nf Z aEd<|RH fC H 0 13 Z n k Z<|uP d λL d=>nf Z aEd<|xu (yO (vs:=[i6 L]) (off:=13) H 0 Z n k Z Z sz3 Z Z Z (yQ ⟨Z,T1⟩) (by show _<=18;decide)) λ_ H=>?_
   have H:=un7 H;obtain⟨_,H⟩:=H.u0 5 6 Z Z (by decide) Z Z l;have H:=un6 H;obtain⟨_,H⟩:=zK (x:={u with c:=cE u.c,yes:=L}) H 1 5 2 3 Z Z Z Z (H.im 4 Z) (by decide);have H:=un3 H;refine bE d λ_ ai d=>?_
   obtain⟨aj,H⟩:=H.uf 0 2 Z Z (by decide) Z Z ai;have H:=un2 H
   cases d
   exact yK<|zO<|zF<|mt aj (H.U [1])
  refine SR<|fH d λak d=>zB (vb ak)<|RM<|WJ d ?_ ?_<;>intro d
  ·refine zD<|zA (.pointer (some ⟨h,i+f.toNat*18,none⟩))<|nf Z aEb<|RH fC H 0 14 Z n k Z<|uP d λM d=>nf Z aEb<|xu (yO (vs:=[i6 M]) (off:=14) H 0 Z n k Z Z sz3 Z Z Z (yQ ⟨Z,T1⟩) (by show _<=18;decide)) λ_ H=>?_
   have H:=un7 H;obtain⟨_,H⟩:=H.u0 5 6 Z Z (by decide) Z Z l;have H:=un6 H;obtain⟨_,H⟩:=zK (x:={u with c:=cE u.c,no:=M}) H 1 5 2 3 Z Z Z Z (H.im 4 Z) (by decide);have H:=un3 H;refine bE d λ_ al d=>?_
   obtain⟨am,H⟩:=H.uf 0 2 Z Z (by decide) Z Z al;have H:=un2 H
   cases d
   exact yK<|zO<|zF<|mt am (H.U [1])
  have H:=un7 H;obtain⟨_,H⟩:=H.u0 5 6 Z Z (by decide) Z Z l;have H:=un6 H;obtain⟨_,H⟩:=zK (x:=u) H 1 5 2 3 Z Z Z Z (H.im 4 Z) (by decide);have H:=un3 H;obtain⟨an,H⟩:=H.u0 0 2 Z Z (by decide) Z Z k;have H:=un2 H
  cases d
  exact yP<|zO<|zF<|mt an (H.U [1])
 rintro ao ρ _ H;have H:=un1 H;have d:=aa;refine bE d λap d aq=>jo H (rg [33,19]) (λ(g:(List Nat))=>[]) (λg=>[.tr bF [s] g ap]) [0] ?_ ?_
 ·refine SR<|zA (i6 z)<|RM<|zJ<|SR<|fH d λar d=>zB (vb ar)<|RM<|WJ d ?_ ?_<;>intro d
  ·refine zD<|zA (.pointer (some ⟨h,i+f.toNat*18,none⟩))<|nf Z aEd<|bE d λN D d=>?_
   have E:=aV (H.im 0 Z) A;obtain⟨_,_,_,H⟩:=H.fV 0 Z E D Z;obtain⟨_,_,_,_,_,_,_,_,_,rfl,H⟩:=zW H 1 Z;have H:=un6 H;refine RH fC H 0 13 Z E D Z<|eF d λP d=>nf Z aEd<|xu (yO (vs:=[i6 P]) (off:=13) H 0 Z E D Z Z sz3 Z Z Z (yQ ⟨Z,T1⟩) (by show _<=18;decide)) λ_ H=>?_
   have H:=un6 H;obtain⟨_,H⟩:=zK (x:={N with c:=cE N.c,yes:=P}) H 1 2 3 4 Z Z Z Z (H.im 5 Z) (by decide);have H:=un3 H;refine bE d λ_ au d=>?_
   obtain⟨av,H⟩:=H.uf 0 2 Z Z (by decide) Z Z au;have H:=un2 H
   cases d
   exact yK<|zO<|zF<|mt av (H.U [1])
  refine SR<|fH d λaw d=>zB (vb aw)<|RM<|WJ d ?_ ?_<;>intro d
  ·refine zD<|zA (.pointer (some ⟨h,i+f.toNat*18,none⟩))<|nf Z aEb<|bE d λQ F d=>?_
   have G:=aV (H.im 0 Z) A;obtain⟨_,_,_,H⟩:=H.fV 0 Z G F Z;obtain⟨_,_,_,_,c0,_,c2,c3,c4,rfl,H⟩:=zW H 1 Z;have H:=un6 H;refine RH fC H 0 14 Z G F Z<|eF d λR d=>nf Z aEb<|xu (yO (vs:=[i6 R]) (off:=14) H 0 Z G F Z Z sz3 Z Z Z (yQ ⟨Z,T1⟩) (by show _<=18;decide)) λc5 H=>?_
   have H:=un6 H;obtain⟨_,H⟩:=zK (x:={Q with c:=cE Q.c,no:=R}) H 1 2 3 4 Z Z Z Z (H.im 5 Z) (by decide);have H:=un3 H;refine bE d λ_ ax d=>?_
   obtain⟨ay,H⟩:=H.uf 0 2 Z Z (by decide) Z Z ax;have H:=un2 H
   cases d
   exact yK<|zO<|zF<|mt ay (H.U [1])
  cases d
  exact yP<|zO<|zF<|mt ao (H.U [0])
 rintro _ ρ c9 H;have H:=un1 H;have d:=aq;refine SQ ?_;have az:=H;have H:=H.rb;have da:=H;refine yI H (rg [0,12]) (kz [0,0,0,1,0,0,0,1,0,0,0,3]) mixed ?_;refine XM (.pointer (some ⟨h,i+f.toNat*18,none⟩))<|Xn Z aBy<|bE d λI o d=>?_
 have p:=aV (H.im 0 Z) A;obtain⟨_,_,_,H⟩:=H.fV 0 Z p o Z;obtain⟨_,_,_,_,_,_,_,_,_,rfl,H⟩:=zW H 1 Z;have H:=un6 H;refine XH aKz H 0 11 Z p o Z ?_;refine XM (.pointer (some ⟨h,i+f.toNat*18,none⟩))<|Xn Z aAm<|XH fC H 0 12 Z p o Z<|XM (i6 z) ?_;refine lE d λJ a0 d=>XQ (jQ u3 u243 Z a0)<|bE d λa1 v d=>?_
 obtain⟨_,_,_,K⟩:=dI (H.im 2 Z) v;refine XQ (yY u85 aHq K Z (zV v).1 (zV v).2.1 Z Z) ?_;obtain⟨a2,_,_,H⟩:=H.fV 2 Z K v Z;obtain⟨a3,a4⟩:=trF (H.im 6 Z);subst a3;obtain rfl:a2=[.int .i8 a1]:=a4;have H:=un7 H;refine Xu (λt y=>yO (vs:=[.int .i8 J]) (off:=0) (H.Z y) 5 Z K v Z Z aHq Z Z Z (yQ ⟨Z,T1⟩) (by show _<=1;decide)) λt _ y H=>nJ az H λ_ H=>?_
 refine zF<|KN ?_;have a5:=H;have H:=H.rb;have dv:=H;refine yI H (rg [0,15]) (kz [0,0,0,0,1,0,0,0,0,1,0,0,0,0,3]) mixed ?_;refine XM (.pointer (some ⟨h,i+f.toNat*18,none⟩))<|XM (.pointer (some ⟨h,i+f.toNat*18,none⟩))<|Xn Z aAm<|XH fC H 0 12 Z p o Z ?_;refine lE d λa6 a7 d=>XQ (uA (a:=I.at_) (b:=1) Z Z a7)<|XM (.pointer (some ⟨h,i+f.toNat*18,none⟩))<|Xn Z aBy<|XH aKz H 0 11 Z p o Z ?_
 refine lE d λa8 a9 d=>?_
 obtain⟨_,_,ba⟩:=mW ((H.im 5 Z));refine XQ (yU (bW u85 ba) (congrArg (Value.int .i64) a9))<|bE d λT bb d=>XQ (bCc (j:=a6) (q:=a8) Z Z bb)<|Xn Z aAm<|Xu (λt y=>yO (vs:=[i6 T]) (off:=12) (H.Z y) 0 Z p o Z Z sz3 Z Z Z (yQ ⟨Z,T1⟩) (by show _<=18;decide)) λt _ y H=>nJ a5 H λ_ H=>?_
 have H:=un7 H;have H:=H.addF (r:=(Rp.int .i8)) (cs:=[.int .i8 J]) (a:=J) Z;refine bE d λbc bd d=>?_
 obtain⟨d0,H⟩:=H.uf 5 7 Z Z (by decide) Z Z bd;have H:=un7 H;obtain⟨d1,H⟩:=zK (x:={I with c:=cE I.c,ring:=bc,at_:=T}) H 1 6 2 3 Z Z Z Z (H.im 4 Z) (by decide);have H:=un4 H;refine bE d λd2 be d=>?_
 obtain⟨bf,H⟩:=H.uf 0 3 Z Z (by decide) Z Z be;have H:=un3 H
 cases d
 exact bY Z ⟨bf,Z,H.U [2]⟩
theorem Faaw {f:gG}{i:Int}{y:Nat}{B C D E F G I q z A:Value}{bb s t:List Nat}{r:(List gJ)}(d:Faa f i=some r)(H:Hd O w w S [.tr bF [q] bb f.nodes,.tr fV [z] s f.moves,.tr fV [A] t f.rules,.blk y [B,C,D,E,F,G,i6 f.frames,I,q,i6 f.first,z,A] 79,fU B f.r.Phases,dW C f.r.Moves,dQ D f.r.Rules,fU E f.names,qO F f.dens,jM G f.told,aU I f.phase]):
  Cl 62 [gX y,i6 i] w λe p=> ∃u46 bc bd,e= .returned (.tuple #[])/\Hd O w p S [.tr bF [q] u46 r,.tr fV [z] bc f.moves,.tr fV [A] bd f.rules,.blk y [B,C,D,E,F,G,i6 f.frames,I,q,i6 f.first,z,A] 79]:=by
 refine CW 211 Tryz.func62 ?_;refine SR<|zA (gX y)<|nf Z uI<|Ld aCj H 3 8 Z Z<|zA (i6 i)<|bE d λh n d=>?_
 obtain⟨j,k,T,l⟩:=dI (H.im 0 Z) n;refine ix u77 aPn l n<|zB (.pointer (some ⟨j,k+i.toNat*18,none⟩))<|RM<|SQ<|SR<|zA (.pointer (some ⟨j,k+i.toNat*18,none⟩))<|nf Z aAp ?_;obtain⟨d8,d9,_,H⟩:=H.fV 0 Z l n Z;obtain⟨_,_,_,_,_,_,_,_,_,rfl,H⟩:=zW H 11 Z;have H:=qZ H;refine RH aB H 10 7 Z l n Z<|lr d (H.im 11 Z) u46 λ_ d=>fH d λ_ d=>RM<|WJ d ?_ ?_<;>intro d
 ·refine SR<|zA (.pointer (some ⟨j,k+i.toNat*18,none⟩))<|zA (gX y)<|zA (.pointer (some ⟨j,k+i.toNat*18,none⟩)) ?_;have H:=qZ H;obtain⟨_,H⟩:=zK (x:=h) H 11 12 13 14 Z Z Z Z (H.im 15 Z) (by decide);have H:=dO H;obtain⟨be,H⟩:=H.u0 10 12 Z Z (by decide) Z Z n;have H:=aH H;obtain⟨⟨al,_⟩,bf,d⟩:=yA d;refine cAc (fJ Tryz.func101) (Fadw (gG.mk (Rules.mk f.r.Phases f.r.Moves f.r.Rules) f.names f.dens f.told f.frames f.phase f.nodes f.first f.moves f.rules) i y B C D E F G I q be z s A t j k T (aV (H.im 11 Z) l) _ bf (H.W [11,0,1,2] [3,4,5,6,7,8,9])) λ_ bg bh _ bi=>?_
  have H:=aH<|H.back [11,0,1,2] [3,4,5,6,7,8,9] Z bi;refine nf Z mG<|bE d λam an d=>?_
  have ao:=aV (H.im 8 Z) l;obtain⟨_,_,_,H⟩:=H.fV 8 Z ao an Z;obtain⟨_,_,_,_,_,_,_,_,_,rfl,H⟩:=zW H 12 Z;have H:=aJ H;refine xu (yO (vs:=[i6 al]) (off:=9) H 11 Z ao an Z Z sz3 Z Z Z (yQ ⟨Z,T1⟩) (by show _<=18;decide)) λ_ H=>RM ?_
  have H:=aJ H;obtain⟨_,H⟩:=zK (x:={am with c:=cE am.c,now:=al}) H 12 13 14 15 Z Z Z Z (H.im 16 Z) (by decide);have H:=kL H;refine bE d λ_ bj d=>?_
  obtain⟨bk,H⟩:=H.uf 11 13 Z Z (by decide) Z Z bj;have H:=dO H
  cases d
  exact zI<|zH<|aVi Z ⟨bk,bg,bh,Z,H.U [12,8,9,10]⟩
 refine WZ<|SQ ?_;have bl:=H;have H:=H.rb;have e7:=H;refine yI H (rg [0,14]) (kz [0,0,0,1,0,0,0,1,0,1,0,0,1,0]) mixed ?_;refine XM (gX y)<|Xn Z uI<|XR aCj H 2 8 Z Z<|XM (.pointer (some ⟨j,k+i.toNat*18,none⟩))<|Xn Z aAp<|XH aB H 10 7 Z l n Z ?_;refine bE d λbm M d=>?_
 obtain⟨_,_,_,ae⟩:=dI (H.im 11 Z) M;refine XQ (yY u46 sz3 ae Z (zV M).1 (zV M).2.1 Z Z) ?_;obtain⟨bn,_,_,H⟩:=H.fV 11 Z ae M Z;obtain⟨bo,bp⟩:=trF (H.im 16 Z);subst bo;obtain rfl:bn=[i6 bm]:=bp;have H:=aJ H;refine XH fC H 15 0 Z ae M Z ?_;refine bE d λo P d=>?_
 obtain⟨_,_,_,af⟩:=dI (H.im 10 Z) P;refine XQ (yY u77 aPn af Z (zV P).1 (zV P).2.1 Z Z)<|XQ (mG Z) ?_;have H:=aJ H;obtain⟨_,H⟩:=H.u0 15 16 Z Z (by decide) Z Z M;have H:=qZ H;obtain⟨_,H⟩:=zK (x:=h) H 15 11 12 13 Z Z Z Z (H.im 14 Z) (by decide);have H:=dO H;obtain⟨_,H⟩:=H.u0 10 12 Z Z (by decide) Z Z n;have H:=aH H;obtain⟨_,_,_,H⟩:=H.fV 11 Z af P Z;obtain⟨_,_,_,_,_,_,_,_,_,rfl,H⟩:=zW H 12 Z;have H:=aJ H;refine XH fC H 11 9 Z af P Z ?_;refine XQ (yN (v:=i6 o.now) Z)<|nJ bl H λ_ H=>?_
 refine zF<|KN<|SR<|zA (.pointer (some ⟨j,k+i.toNat*18,none⟩))<|nf Z rW<|zS (aO Z) ?_;have H:=aJ H;obtain⟨_,H⟩:=zK (x:=o) H 12 13 14 15 Z Z Z Z (H.im 16 Z) (by decide);have H:=kL H;obtain⟨_,H⟩:=H.u0 11 13 Z Z (by decide) Z Z P;have H:=dO H;obtain⟨f0,f4,f5,H⟩:=H.fV 12 Z l n Z;obtain⟨ap,f6,f7,f8,f9,_,_,_,_,rfl,H⟩:=zW H 13 Z;have H:=sK H;refine RH fC H 12 0 Z l n Z<|RM<|zJ<|SR<|fH d λbq d=>zB (vb bq)<|RM<|WJ d ?_ ?_<;>intro d
 ·refine zD<|zA (.pointer (some ⟨j,k+i.toNat*18,none⟩))<|zA (i6 o.now)<|bE d λaq br d=>RC (fJ Tryz.func102) (Fgaw br (H.W [] [])) H λ_ H=>nf Z mG<|xu (yO (vs:=[i6 aq]) (off:=9) H 12 Z l n Z Z sz3 Z Z Z (yQ ⟨Z,T1⟩) (by show _<=18;decide)) λ_ H=>?_
  have H:=sK H;obtain⟨_,H⟩:=zK (x:={h with c:=cE h.c,now:=aq}) H 13 14 15 16 Z Z Z Z (H.im 17 Z) (by decide);have H:=uS H;refine bE d λ_ bt d=>?_
  obtain⟨bu,H⟩:=H.uf 12 14 Z Z (by decide) Z Z bt;have H:=kL H
  cases d
  exact yK<|zO<|bY Z ⟨bu,s,t,Z,H.U [13,0,1,2]⟩
 refine bE d λbv d bw=>jo H [76,77,78] (λ(g:(List Nat))=>[(76,vb bv)]) (λg=>[.tr bF [q] g f.nodes]) (rg [1,10,0,1,18,1]) ?_ ?_
 ·refine SR<|fH d λbx d=>zB (vb bx)<|RM<|WJ d ?_ ?_<;>intro d
  ·have H:=sK H;obtain⟨_,H⟩:=zK (x:=h) H 13 14 15 16 Z Z Z Z (H.im 17 Z) (by decide);have H:=uS H;obtain⟨bz,H⟩:=H.u0 12 14 Z Z (by decide) Z Z n;have H:=kL H
   cases d
   exact js<|mt bz (H.U (rg [0,10,13,1,12,1]))
  refine zD<|fH d λb0 d=>zB (vb b0) ?_
  have H:=sK H;obtain⟨_,H⟩:=zK (x:=h) H 13 14 15 16 Z Z Z Z (H.im 17 Z) (by decide);have H:=uS H;obtain⟨b1,H⟩:=H.u0 12 14 Z Z (by decide) Z Z n;have H:=kL H
  cases d
  exact jn<|mt b1 (H.U (rg [0,10,13,1,12,1]))
 rintro ad ρ _ H;have H:=aH H;have d:=bw;refine WJ d ?_ ?_<;>intro d
 ·refine zD<|zA (.pointer (some ⟨j,k+i.toNat*18,none⟩))<|zA (gX y)<|zA (.pointer (some ⟨j,k+i.toNat*18,none⟩))<|bE d λar b2 d=>cAc (fJ Tryz.func103) (Fcow (gG.mk (Rules.mk f.r.Phases f.r.Moves f.r.Rules) f.names f.dens f.told f.frames f.phase f.nodes f.first f.moves f.rules) i y B C D E F G I q ad z s A t j k T (aV (H.im 10 Z) l) _ b2 (H.W [10,0,1,2] [3,4,5,6,7,8,9])) λ_ b3 b4 _ b5=>?_
  have H:=aH<|H.back [10,0,1,2] [3,4,5,6,7,8,9] Z b5;refine nf Z mG ?_;obtain⟨_,_,_,H⟩:=H.fV 8 Z l n Z;obtain⟨_,_,_,_,_,_,_,_,g0,rfl,H⟩:=zW H 12 Z;have H:=aJ H;refine xu (yO (vs:=[i6 ar]) (off:=9) H 11 Z l n Z Z sz3 Z Z Z (yQ ⟨Z,T1⟩) (by show _<=18;decide)) λg1 H=>?_
  have H:=aJ H;obtain⟨g2,H⟩:=zK (x:={h with c:=cE h.c,now:=ar}) H 12 13 14 15 Z Z Z Z (H.im 16 Z) (by decide);have H:=kL H;refine bE d λg3 b6 d=>?_
  obtain⟨b7,H⟩:=H.uf 11 13 Z Z (by decide) Z Z b6;have H:=dO H
  cases d
  exact yK<|zO<|bY Z ⟨b7,b3,b4,Z,H.U [12,8,9,10]⟩
 refine SR<|fH d λb8 d=>zB (vb b8)<|RM<|WJ d ?_ ?_<;>intro d
 ·refine SR<|zA (.pointer (some ⟨j,k+i.toNat*18,none⟩))<|zA (i6 o.now)<|bE d λg4 b9 d=>cAa en104 (Fa9w f.nodes i o.now q ad j k T (aV (H.im 10 Z) l) _ b9 (H.W [10] [])) λg5 g6 ca=>?_
  have H:=aH<|H.back [10] [] Z ca;refine RM ?_;have cb:=H;have H:=H.rb;have g7:=H;refine yI H (rg [0,20]) (kz [0,0,0,0,1,0,0,0,0,1,0,0,0,0,1,0,4,0,0,3]) mixed ?_;refine XM (.pointer (some ⟨j,k+i.toNat*18,none⟩))<|XM (.pointer (some ⟨j,k+i.toNat*18,none⟩))<|Xn Z aEd<|bE d λU V d=>?_
  have X:=aV (H.im 11 Z) l;obtain⟨g8,g9,_,H⟩:=H.fV 11 Z X V Z;obtain⟨_,_,_,_,_,_,_,_,_,rfl,H⟩:=zW H 12 Z;have H:=aJ H;refine XH fC H 11 13 Z X V Z ?_;refine XM (.pointer (some ⟨j,k+i.toNat*18,none⟩))<|Xn Z rW<|XQ (mM Z)<|XH fC H 11 5 Z X V Z ?_;refine lE d λ_ cc d=>XQ (dS (aBp (a:=U.yes) (b:=U.c.Frames) Z Z) cc)<|XM (.pointer (some ⟨j,k+i.toNat*18,none⟩))<|Xn Z aEb<|XH fC H 11 14 Z X V Z ?_
  refine lE d λ_ cd d=>XQ (dS (vI (a:=U.no) (b:=0) Z Z) cd) ?_
  have ce:=H;refine bE d λag cf d=>MxM.XL_fcall oS Z Z Z (v:=i6 ag) (λp u=>yD aBs Z) (λp u=>xC (aLf cf (Hd.fresh0 p))) ?_
  have H:=ce;refine Xn Z mG<|Xu (λp u=>yO (vs:=[i6 ag]) (off:=9) (H.Z u) 11 Z X V Z Z sz3 Z Z Z (yQ ⟨Z,T1⟩) (by show _<=18;decide)) λp _ u H=>nJ cb H λ_ H=>?_
  have H:=aJ H;obtain⟨_,H⟩:=zK (x:={U with c:=cE U.c,now:=ag}) H 12 13 14 15 Z Z Z Z (H.im 16 Z) (by decide);have H:=kL H;refine bE d λ_ cg d=>?_
  obtain⟨ch,H⟩:=H.uf 11 13 Z Z (by decide) Z Z cg;have H:=dO H
  cases d
  exact zO<|bY Z ⟨ch,s,t,Z,H.U [12,0,1,2]⟩
 refine SR<|fH d λci d=>zB (vb ci)<|RM<|WJ d ?_ ?_<;>intro d
 ·refine SR<|zA (.pointer (some ⟨j,k+i.toNat*18,none⟩))<|zA (i6 o.now)<|bE d λ_ cj d=>cAa en104 (Fa9w f.nodes i o.now q ad j k T (aV (H.im 10 Z) l) _ cj (H.W [10] [])) λ_ _ ck=>?_
  have H:=aH<|H.back [10] [] Z ck;refine RM ?_;have cl:=H;have H:=H.rb;have hw:=H;refine yI H (rg [0,20]) (kz [0,0,0,0,1,0,0,0,0,1,0,0,0,0,1,0,4,0,0,3]) mixed ?_;refine XM (.pointer (some ⟨j,k+i.toNat*18,none⟩))<|XM (.pointer (some ⟨j,k+i.toNat*18,none⟩))<|Xn Z aEd<|bE d λY aa d=>?_
  have ab:=aV (H.im 11 Z) l;obtain⟨_,_,_,H⟩:=H.fV 11 Z ab aa Z;obtain⟨_,_,_,_,_,_,_,_,_,rfl,H⟩:=zW H 12 Z;have H:=aJ H;refine XH fC H 11 13 Z ab aa Z ?_;refine lE d λ_ cm d=>XQ (dS (vI (a:=Y.yes) (b:=0) Z Z) cm)<|XM (.pointer (some ⟨j,k+i.toNat*18,none⟩))<|Xn Z aEb<|XH fC H 11 14 Z ab aa Z<|XM (.pointer (some ⟨j,k+i.toNat*18,none⟩)) ?_
  refine Xn Z rW<|XQ (mM Z)<|XH fC H 11 5 Z ab aa Z ?_;refine lE d λ_ cn d=>XQ (dS (aBp (a:=Y.no) (b:=Y.c.Frames) Z Z) cn) ?_
  have co:=H;refine bE d λah cp d=>MxM.XL_fcall oS Z Z Z (v:=i6 ah) (λp u=>yD aBs Z) (λp u=>xC (aLf cp (Hd.fresh0 p))) ?_
  have H:=co;refine Xn Z mG<|Xu (λp u=>yO (vs:=[i6 ah]) (off:=9) (H.Z u) 11 Z ab aa Z Z sz3 Z Z Z (yQ ⟨Z,T1⟩) (by show _<=18;decide)) λp _ u H=>nJ cl H λid H=>?_
  have H:=aJ H;obtain⟨_,H⟩:=zK (x:={Y with c:=cE Y.c,now:=ah}) H 12 13 14 15 Z Z Z Z (H.im 16 Z) (by decide);have H:=kL H;refine bE d λ_ cq d=>?_
  obtain⟨cr,H⟩:=H.uf 11 13 Z Z (by decide) Z Z cq;have H:=dO H
  cases d
  exact zO<|bY Z ⟨cr,s,t,Z,H.U [12,0,1,2]⟩
 refine SR<|fH d λcs d=>zB (vb cs)<|RM<|WJ d ?_ ?_<;>intro d
 ·refine SR<|zA (.pointer (some ⟨j,k+i.toNat*18,none⟩))<|zA (i6 o.now)<|bE d λ_ ct d=>cAa en104 (Fa9w f.nodes i o.now q ad j k T (aV (H.im 10 Z) l) _ ct (H.W [10] [])) λ_ _ cu=>?_
  have H:=aH<|H.back [10] [] Z cu;refine RM ?_;have cv:=H;have H:=H.rb;have ik:=H;refine yI H (rg [0,31]) (kz [0,0,0,0,1,0,0,0,0,1,0,0,0,0,1,0,0,0,0,1,0,0,0,0,1,0,0,4,0,0,3]) mixed ?_;refine XM (.pointer (some ⟨j,k+i.toNat*18,none⟩))<|XM (.pointer (some ⟨j,k+i.toNat*18,none⟩))<|Xn Z aEd<|bE d λJ K d=>?_
  have L:=aV (H.im 11 Z) l;obtain⟨_,_,_,H⟩:=H.fV 11 Z L K Z;obtain⟨_,_,_,_,_,_,_,_,i0,rfl,H⟩:=zW H 12 Z;have H:=aJ H;refine XH fC H 11 13 Z L K Z ?_;refine XM (.pointer (some ⟨j,k+i.toNat*18,none⟩))<|Xn Z rW<|XQ (mZ Z)<|XH fC H 11 4 Z L K Z ?_;refine lE d λ_ cw d=>XQ (dS (aGx (a:=J.yes) (b:=J.c.N) Z Z) cw)<|XM (.pointer (some ⟨j,k+i.toNat*18,none⟩))<|Xn Z aEb<|XH fC H 11 14 Z L K Z<|XM (.pointer (some ⟨j,k+i.toNat*18,none⟩)) ?_
  refine Xn Z rW<|XQ (mM Z)<|XH fC H 11 5 Z L K Z<|XM (.pointer (some ⟨j,k+i.toNat*18,none⟩))<|Xn Z rW<|XQ (mZ Z) ?_;refine XH fC H 11 4 Z L K Z ?_;refine lE d λcx cy d=>XQ (nC (a:=J.c.Frames) (b:=J.c.N) Z Z cy)<|lE d λi2 cz d=>XQ (dS (vI (a:=J.no) (b:=cx) Z Z) cz) ?_
  have c0:=H;refine bE d λai c1 d=>MxM.XL_fcall oS Z Z Z (v:=i6 ai) (λp u=>yD aBs Z) (λp u=>xC (aLf c1 (Hd.fresh0 p))) ?_
  have H:=c0;refine Xn Z mG<|Xu (λp u=>yO (vs:=[i6 ai]) (off:=9) (H.Z u) 11 Z L K Z Z sz3 Z Z Z (yQ ⟨Z,T1⟩) (by show _<=18;decide)) λp i3 u H=>nJ cv H λi4 H=>?_
  have H:=aJ H;obtain⟨i5,H⟩:=zK (x:={J with c:=cE J.c,now:=ai}) H 12 13 14 15 Z Z Z Z (H.im 16 Z) (by decide);have H:=kL H;refine bE d λ_ c2 d=>?_
  obtain⟨c3,H⟩:=H.uf 11 13 Z Z (by decide) Z Z c2;have H:=dO H
  cases d
  exact zO<|bY Z ⟨c3,s,t,Z,H.U [12,0,1,2]⟩
 refine SR<|fH d λc4 d=>zB (vb c4)<|RM<|WJ d ?_ ?_<;>intro d
 ·refine SQ ?_;have c5:=H;have H:=H.rb;have i8:=H;refine yI H (rg [0,19]) (kz [0,0,0,1,0,0,0,1,0,1,0,0,1,0,0,0,1,0,0]) mixed ?_;refine XM (gX y)<|Xn Z uI<|XR aCj H 2 8 Z Z<|XM (.pointer (some ⟨j,k+i.toNat*18,none⟩))<|Xn Z aAp ?_;obtain⟨i9,_,_,H⟩:=H.fV 10 Z l n Z;obtain⟨c6,_,_,_,_,_,_,_,_,rfl,H⟩:=zW H 12 Z;have H:=aJ H;refine XH aB H 11 7 Z l n Z ?_;refine bE d λc7 Q d=>?_
  obtain⟨_,_,_,aj⟩:=dI (H.im 12 Z) Q;refine XQ (yY u46 sz3 aj Z (zV Q).1 (zV Q).2.1 Z Z) ?_;obtain⟨c8,_,_,H⟩:=H.fV 12 Z aj Q Z;obtain⟨c9,da⟩:=trF (H.im 17 Z);subst c9;obtain rfl:c8=[i6 c7]:=da;have H:=sK H;refine XH fC H 16 0 Z aj Q Z ?_;refine bE d λac R d=>?_
  obtain⟨_,_,_,ak⟩:=dI (H.im 11 Z) R;refine XQ (yY u77 aPn ak Z (zV R).1 (zV R).2.1 Z Z)<|XQ (mG Z) ?_;have H:=sK H;obtain⟨_,H⟩:=H.u0 16 17 Z Z (by decide) Z Z Q;have H:=aJ H;obtain⟨_,H⟩:=zK (x:=h) H 16 12 13 14 Z Z Z Z (H.im 15 Z) (by decide);have H:=kL H;obtain⟨_,H⟩:=H.u0 11 13 Z Z (by decide) Z Z n;have H:=dO H;obtain⟨_,_,_,H⟩:=H.fV 12 Z ak R Z;obtain⟨db,_,_,_,_,_,_,_,_,rfl,H⟩:=zW H 13 Z;have H:=sK H;refine XH fC H 12 9 Z ak R Z ?_;refine XM (.pointer (some ⟨j,k+i.toNat*18,none⟩))<|Xn Z mG ?_;have H:=sK H;obtain⟨_,H⟩:=zK (x:=ac) H 13 14 15 16 Z Z Z Z (H.im 17 Z) (by decide);have H:=uS H;obtain⟨_,H⟩:=H.u0 12 14 Z Z (by decide) Z Z R;have H:=kL H;obtain⟨_,dc,_,H⟩:=H.fV 13 Z l n Z;obtain⟨au,av,dd,aw,de,ax,df,ay,dg,rfl,H⟩:=zW H 14 Z;have H:=aUn H;refine XH fC H 13 9 Z l n Z ?_;refine XQ (yN (v:=i6 ac.now) Z)<|XQ (yN (v:=i6 h.now) Z)<|nJ c5 H λ_ H=>?_
  refine zF<|KN<|zD<|zA (.pointer (some ⟨j,k+i.toNat*18,none⟩))<|zA (i6 ac.now)<|fH d λ_ d=>bE d λdh d di=>xR 8 [190,191,192,193,194,195,196,197] [(197,vb dh)] (λwl=>Hd O w wl S [.tr fV [z] s f.moves,.tr fV [A] t f.rules,.blk y [B,C,D,E,F,G,i6 f.frames,I,q,i6 f.first,z,A] 79,fU B f.r.Phases,dW C f.r.Moves,dQ D f.r.Rules,fU E f.names,qO F f.dens,jM G f.told,aU I f.phase,dG ap h.c.Kids,dG c6 h.c.Kids,dG db ac.c.Kids,.tr (Rt.row dU 88 [(i.toNat,[i6 h.c.Kind,sb h.c.Name,sb h.c.Other,i6 h.c.Op,i6 h.c.N,i6 h.c.Frames,au,av,i6 h.rule,i6 h.now,i6 h.kid,aw,i6 h.at_,i6 h.yes,i6 h.no,i6 h.known,ax,ay])]) [q] dc f.nodes,.tr fV [av] dd h.kids,.tr rw_7 [aw] de h.ring,.tr aDt [ax] df h.low,.tr aDt [ay] dg h.high,dG au h.c.Kids]) ?_ ?_
  ·refine RJ d ?_ ?_<;>intro d
   ·refine zL<|zL<|zL<|zL<|zL<|zL<|pt (vb true) ?_
    cases d
    exact jn<|meet ⟨(yH Z yV),H.U (rg [0,19])⟩
   refine zA (i6 o.now)<|fH d λ_ d=>RJ d ?_ ?_<;>intro d
   ·refine zA (i6 h.now)<|fH d λaz d=>pt (vb az)<|pf (vb az) ?_
    cases d
    exact jn<|meet ⟨(yH Z yV),H.U (rg [0,19])⟩
   refine zL<|zL<|pf (vb false)<|pf (vb false) ?_
   cases d
   exact jn<|meet ⟨(yH Z yV),H.U (rg [0,19])⟩
  rintro ρ _ H;have d:=di;refine zA (i6 ac.now)<|fH d λ_ d=>RJ d ?_ ?_<;>intro d
  ·refine zA (i6 o.now)<|fH d λ_ d=>RJ d ?_ ?_<;>intro d
   ·refine zL<|zL<|pt (vb true)<|pt (vb true)<|bE d λa0 dj d=>RC aBs (aLf dj (H.W [] [])) H λ_ H=>nf Z mG<|xu (yO (vs:=[i6 a0]) (off:=9) H 13 Z l n Z Z sz3 Z Z Z (yQ ⟨Z,T1⟩) (by show _<=18;decide)) λ_ H=>?_
    have H:=aUn H;obtain⟨_,H⟩:=zK (x:={h with c:=cE h.c,now:=a0}) H 14 15 16 17 Z Z Z Z (H.im 18 Z) (by decide);have H:=qZ H;refine bE d λ_ dk d=>?_
    obtain⟨dl,H⟩:=H.uf 13 15 Z Z (by decide) Z Z dk;have H:=uS H
    cases d
    exact yK<|zO<|bY Z ⟨dl,s,t,Z,H.U [14,0,1,2]⟩
   refine zA (i6 h.now)<|fH d λa1 d=>pf (vb a1)<|pt (vb a1)<|bE d λa2 dm d=>RC aBs (aLf dm (H.W [] [])) H λ_ H=>nf Z mG<|xu (yO (vs:=[i6 a2]) (off:=9) H 13 Z l n Z Z sz3 Z Z Z (yQ ⟨Z,T1⟩) (by show _<=18;decide)) λ_ H=>?_
   have H:=aUn H;obtain⟨_,H⟩:=zK (x:={h with c:=cE h.c,now:=a2}) H 14 15 16 17 Z Z Z Z (H.im 18 Z) (by decide);have H:=qZ H;refine bE d λ_ dn d=>?_
   obtain⟨dp,H⟩:=H.uf 13 15 Z Z (by decide) Z Z dn;have H:=uS H
   cases d
   exact yK<|zO<|bY Z ⟨dp,s,t,Z,H.U [14,0,1,2]⟩
  refine zL<|zL<|zL<|zL<|zL<|zL<|pf (vb false)<|bE d λa3 dq d=>RC aBs (aLf dq (H.W [] [])) H λ_ H=>nf Z mG<|xu (yO (vs:=[i6 a3]) (off:=9) H 13 Z l n Z Z sz3 Z Z Z (yQ ⟨Z,T1⟩) (by show _<=18;decide)) λ_ H=>?_
  have H:=aUn H;obtain⟨_,H⟩:=zK (x:={h with c:=cE h.c,now:=a3}) H 14 15 16 17 Z Z Z Z (H.im 18 Z) (by decide);have H:=qZ H;refine bE d λ_ dr d=>?_
  obtain⟨ds,H⟩:=H.uf 13 15 Z Z (by decide) Z Z dr;have H:=uS H
  cases d
  exact yK<|zO<|bY Z ⟨ds,s,t,Z,H.U [14,0,1,2]⟩
 refine SR<|zA (.pointer (some ⟨j,k+i.toNat*18,none⟩))<|nf Z fa88_4 ?_;obtain⟨_,dt,_,H⟩:=H.fV 10 Z l n Z;obtain⟨a4,a5,du,a6,dv,a7,dw,a8,dx,rfl,H⟩:=zW H 12 Z;have H:=aJ H;refine RH fC H 11 10 Z l n Z<|zB (i6 h.kid)<|RM<|SR<|zA (.pointer (some ⟨j,k+i.toNat*18,none⟩))<|zA (i6 o.now)<|nf Z fa88_4<|xu (yO (vs:=[i6 o.now]) (off:=10) H 11 Z l n Z Z sz3 Z Z Z (yQ ⟨Z,T1⟩) (by show _<=18;decide)) λ_ H=>RM<|zD<|zA (.pointer (some ⟨j,k+i.toNat*18,none⟩))<|zA (i6 o.now)<|fH d λ_ d=>bE d λdy d dz=>?_
 refine xR 4 [56,57,58,59] [(59,vb dy)] (λwl=>Hd O w wl S [.tr fV [z] s f.moves,.tr fV [A] t f.rules,.blk y [B,C,D,E,F,G,i6 f.frames,I,q,i6 f.first,z,A] 79,fU B f.r.Phases,dW C f.r.Moves,dQ D f.r.Rules,fU E f.names,qO F f.dens,jM G f.told,aU I f.phase,dG ap h.c.Kids,.tr (Rt.row dU 88 [(i.toNat,[i6 h.c.Kind,sb h.c.Name,sb h.c.Other,i6 h.c.Op,i6 h.c.N,i6 h.c.Frames,a4,a5,i6 h.rule,i6 h.now,i6 o.now,a6,i6 h.at_,i6 h.yes,i6 h.no,i6 h.known,a7,a8])]) [q] dt f.nodes,.tr fV [a5] du h.kids,.tr rw_7 [a6] dv h.ring,.tr aDt [a7] dw h.low,.tr aDt [a8] dx h.high,dG a4 h.c.Kids]) ?_ ?_
 ·refine RJ d ?_ ?_<;>intro d
  ·refine zA (i6 h.kid)<|fH d λd0 d=>pt (vb d0) ?_
   cases d
   exact jn<|meet ⟨(yH Z yV),H.U (rg [0,17])⟩
  refine zL<|zL<|pf (vb false) ?_
  cases d
  exact jn<|meet ⟨(yH Z yV),H.U (rg [0,17])⟩
 rintro ρ _ H;have d:=dz;refine zA (i6 o.now)<|fH d λ_ d=>RJ d ?_ ?_<;>intro d
 ·refine zL<|zL<|pt (vb true)<|bE d λa9 d1 d=>RC aBs (aLf d1 (H.W [] [])) H λ_ H=>nf Z mG<|xu (yO (vs:=[i6 a9]) (off:=9) H 11 Z l n Z Z sz3 Z Z Z (yQ ⟨Z,T1⟩) (by show _<=18;decide)) λ_ H=>?_
  have H:=aJ H;obtain⟨_,H⟩:=zK (x:={h with c:=cE h.c,now:=a9,kid:=o.now}) H 12 13 14 15 Z Z Z Z (H.im 16 Z) (by decide);have H:=kL H;refine bE d λ_ d2 d=>?_
  obtain⟨d3,H⟩:=H.uf 11 13 Z Z (by decide) Z Z d2;have H:=dO H
  cases d
  exact yK<|zO<|bY Z ⟨d3,s,t,Z,H.U [12,0,1,2]⟩
 refine zA (i6 h.kid)<|fH d λd4 d=>pf (vb d4)<|bE d λba d5 d=>RC aBs (aLf d5 (H.W [] [])) H λ_ H=>nf Z mG<|xu (yO (vs:=[i6 ba]) (off:=9) H 11 Z l n Z Z sz3 Z Z Z (yQ ⟨Z,T1⟩) (by show _<=18;decide)) λ_ H=>?_
 have H:=aJ H;obtain⟨_,H⟩:=zK (x:={h with c:=cE h.c,now:=ba,kid:=o.now}) H 12 13 14 15 Z Z Z Z (H.im 16 Z) (by decide);have H:=kL H;refine bE d λ_ d6 d=>?_
 obtain⟨d7,H⟩:=H.uf 11 13 Z Z (by decide) Z Z d6;have H:=dO H
 cases d
 exact yK<|zO<|bY Z ⟨d7,s,t,Z,H.U [12,0,1,2]⟩
theorem Fbew {b:gG}{U:List Bool}{j:Nat}{z A B C D E F f h u q:Value}{V X Y:List Nat}{r:(List Bool)}(a:Fbe b U=some r)(H:Hd O w w S [.tr bF [f] V b.nodes,.tr fV [h] X b.moves,.tr fV [u] Y b.rules,.blk j [z,A,B,C,D,E,i6 b.frames,F,f,i6 b.first,h,u] 79,fU z b.r.Phases,dW A b.r.Moves,dQ B b.r.Rules,fU C b.names,qO D b.dens,jM E b.told,aU F b.phase,aU q U]):
  Cl 63 [gX j,q] w λe p=> ∃aa u29 ao ap,e= .returned (aa)/\Hd O w p S [.own Rp.bool aa 4 r,.tr bF [f] u29 b.nodes,.tr fV [h] ao b.moves,.tr fV [u] ap b.rules,.blk j [z,A,B,C,D,E,i6 b.frames,F,f,i6 b.first,h,u] 79]:=by
 refine CW 96 Tryz.func63 ?_;refine SR<|zB (.slice none 0 0)<|RM<|SR<|zA q<|ln a (H.im 11 Z) u76 λ_ a=>bE a λ_ aq a=>xv (aCz (r:=Rp.bool) (zv:=vb false) u76 el4 Z (λ_ _=>Z) Z Z aq H) λd c0 H=>zB d<|RM<|bE a λar a au=>jo H (rg [6,5,14,81]) (λ(g:(List Nat)×(List Nat))=>[]) (λg=>[.tr bF [f] g.1 b.nodes,.tr fV [h] g.2 b.moves,.own Rp.bool d 4 ar]) (rg [0,2,5,9,2,1]) ?_ ?_;refine SR<|zB (i6 0)<|RM<|zJ<|lo a H (rg [6,5,14,81]) (λx (y:(List Nat)×(List Nat))=>[(6,i6 x.1)]) (λx y=>[.tr bF [f] y.1 b.nodes,.tr fV [h] y.2 b.moves,.own Rp.bool d 4 x.2]) (rg [0,2,5,10,2,1]) (V,X) (H.U (rg [0,13])) ?_;clear H a;rintro _ ⟨l,c2⟩ ⟨G,I⟩ ρ c3 H a;have H:=dO H;refine SQ<|SR<|zA (i6 l)<|zA q<|ln a (H.im 11 Z) u76 λc4 a=>eG a λc5 a=>RM<|WJ a (λa=>WZ<|bE a λav a aw=>jo H (rg [7,4,20,75]) (λ(g:(List Nat)×(List Nat))=>[]) (λg=>[.tr bF [f] g.1 b.nodes,.tr fV [h] g.2 b.moves,.own Rp.bool d 4 av]) (rg [0,2,5,10,2,1]) ?_ ?_) λa=>?_;refine zJ<|SQ<|SR<|zA q<|zA (i6 l)<|bE a λax ay a=>rea H (H.im 11 Z) (vb ax) ay u76 sz4 pJ λ_ _ H=>aI a λ_ a=>RM<|WJ a ?_ ?_<;>intro a;cases a;exact zZ<|zQ<|zU<|zF<|mt (G,I) (H.U (rg [0,13]));refine WZ<|SR<|zB (vb true)<|RM<|bE a λJ a az=>jo H (rg [7,4,25,60]) (λ(g:(List Nat)×(List Nat))=>[(7,vb J.1)]) (λg=>[.tr bF [f] g.1 b.nodes,.tr fV [h] g.2 b.moves,.own Rp.bool d 4 J.2]) (rg [0,2,5,10,2,1]) ?_ ?_;refine SR<|zB (i6 0)<|RM<|zJ<|lo a H (rg [7,4,25,60]) (λx (y:(List Nat)×(List Nat))=>[(7,vb x.1),(8,i6 x.2.1)]) (λx y=>[.tr bF [f] y.1 b.nodes,.tr fV [h] y.2 b.moves,.own Rp.bool d 4 x.2.2]) (rg [0,2,5,10,2,1]) (G,I) (H.U (rg [0,13])) ?_
 clear H a;rintro c9 ⟨ab,s,_⟩ ⟨ac,ad⟩ ρ _ H a;have H:=dO H;refine SQ<|bE a λa0 a a1=>sJ H (rg [25,11]) [(35,vb a0)] ?_ ?_;refine zD<|zA (i6 s)<|zA (gX j)<|nf Z aEo<|zS (rD Z)<|Ld wG H 3 1 Z Z<|ln a (H.im 5 Z) u23 λ_ a=>eG a λ_ a=>RJ a (λa=>zA (vb ab)<|pt (vb ab) ?_) λa=>?_;cases a;exact jn<|mt () (H.U (rg [0,13]));refine zL<|pf (vb false) ?_;cases a;exact jn<|mt () (H.U (rg [0,13]));rintro _ ρ _ H;have a:=a1;refine WJ a (λa=>WZ<|bE a λK a a2=>jo H (rg [7,1,9,2,38,47]) (λ(g:(List Nat)×(List Nat))=>[(7,vb K.1)]) (λg=>[.tr bF [f] g.1 b.nodes,.tr fV [h] g.2 b.moves,.own Rp.bool d 4 K.2]) (rg [0,2,5,10,2,1]) ?_ ?_) λa=>?_;refine zJ<|SR<|zA (gX j)<|nf Z aEo<|zS (rD Z)<|Ld wG H 3 1 Z Z<|zA (i6 s)<|bE a λc ae a=>?_;obtain⟨a3,a4,_,_,a5,a6,a7,a8,a9⟩:=xB (H.im 5 Z) ae;obtain⟨L,rfl,ba⟩:=nM a6;have H:=H.fzs [.at a3 (a4+s.toNat*9) _,.sl dC L c.When.Kids] ⟨⟨a7,a8,a9⟩,ba,T1⟩;refine ix u23 rQ a5 ae<|zS (yU (yB (cs:=[sb c.From,sb c.To,i6 c.When.Kind,sb c.When.Name,sb c.When.Other,i6 c.When.Op,i6 c.When.N,i6 c.When.Frames,L]) aGz Z rQ Z (H.im 13 Z).2.2) Z)<|xb (yJ aFw H) λ_ _ H=>xu (zY (vs:=[sb c.From,sb c.To,i6 c.When.Kind,sb c.When.Name,sb c.When.Other,i6 c.When.Op,i6 c.When.N,i6 c.When.Frames,L]) H 15 Z rQ Z Z Z ⟨Z,Z,Z,Z,Z,Z,Z,Z,(xU (H.im 14 Z)),T1⟩ Z) λ_ H=>RM<|SQ<|SQ ?_;have bb:=H;have H:=H.rb;have dk:=H;refine yI H (rg [0,11]) (kz [0,1,0,0,0,0,1,0,0,1,0]) mixed ?_
 refine XQ (aJc Z)<|XR dD H 15 0 Z Z<|XM (gX j)<|Xn Z aEo<|XQ (kG Z)<|XR aY H 3 0 Z Z<|XM (i6 l)<|bE a λaf M a=>?_;obtain⟨bc,bd,_,be,bf,bg,bh,bi,bj⟩:=xB (H.im 4 Z) M;obtain rfl:be=[sb af]:=bg;have H:=H.fz (.at bc (bd+l.toNat*1) _) ⟨bh,bi,bj⟩;refine XQ (yY u22 sz9 bf Z (zV M).1 (zV M).2.1 Z Z)<|MxM.yZ oS Z Z Z (λp k=>yC dD Z (Cells.get ((H.Z k).V (i:=16) Z).2.2 (i:=0) Z)) ?_;refine lE a λ_ bk a=>XQ (dS (aCt (s1:=c.From) (s2:=af) Z Z) bk)<|nJ bb H λ_ H=>?_;refine zF<|KN<|WJ a ?_ ?_<;>intro a;cases a;exact zZ<|zQ<|zU<|zF<|mt (ac,ad) (H.U (rg [0,13]));refine WZ<|SQ ?_;have bl:=H;have H:=H.rb;have dp:=H;refine yI H (rg [0,15]) (kz [0,0,0,1,0,0,0,1,0,0,1,0,0,1,0]) mixed ?_;refine XM (gX j)<|Xn Z uI<|XR aCj H 3 8 Z Z<|XM (gX j)<|Xn Z aXs<|XR aB H 3 10 Z Z<|XM (i6 s)<|bE a λbm n a=>?_;obtain⟨_,_,_,P⟩:=dI (H.im 1 Z) n;refine XQ (yY u46 sz3 P Z (zV n).1 (zV n).2.1 Z Z) ?_;obtain⟨bn,_,_,H⟩:=H.fV 1 Z P n Z;obtain⟨bo,bp⟩:=trF (H.im 17 Z);subst bo;obtain rfl:bn=[i6 bm]:=bp;have H:=sK H;refine XH fC H 16 0 Z P n Z ?_;refine bE a λt o a=>?_;obtain⟨_,_,_,Q⟩:=dI (H.im 0 Z) o;refine XQ (yY u77 aPn Q Z (zV o).1 (zV o).2.1 Z Z)<|XQ (mG Z) ?_;obtain⟨_,_,d0,H⟩:=H.fV 0 Z Q o Z;obtain⟨d1,d2,d3,d4,d5,d6,d7,d8,d9,rfl,H⟩:=zW H 18 Z;have H:=un23 H;refine XH fC H 17 9 Z Q o Z ?_;refine XQ (yN (v:=i6 t.now) Z)<|nJ bl H λ_ H=>?_
 refine zF<|KN ?_;have H:=un21<|H.U (rg [0,11,12,2,15,8]);refine bE a λbq a br=>jo H (rg [71,12]) (λ(g:(List Nat)×(List Nat))=>[]) (λg=>[.tr bF [f] g.1 b.nodes,.tr fV [h] g.2 b.moves,.own Rp.bool d 4 bq]) (rg [3,9,0,2,12,1,2,1,23,1]) ?_ ?_;refine SR<|zA (i6 t.now)<|aN a λ_ a=>RM<|WJ a ?_ ?_<;>intro a;have bt:=H;have H:=H.rb;have ec:=H;refine yI H (rg [0,11]) (kz [0,0,0,0,0,1,0,1,1,0,3]) mixed ?_;refine XM d<|XM (gX j)<|Xn Z aEo<|XQ (kG Z)<|XR aY H 1 0 Z Z<|XQ (aJa Z)<|XR dD H 12 1 Z Z ?_;have bu:=H;refine bE a λbv bw a=>MxM.XL_call oS Z Z Z (v:=i6 bv) (λp k=>yD aXc Z) (λp k=>xC (aYk bw ((H.Z k).W [] [2]))) ?_;have H:=bu;refine bE a λbx R a=>?_;obtain⟨_,_,bz,ag,b0,b1⟩:=aZ (H.im 10 Z) R;obtain rfl:bz=[vb bx]:=b0;refine XQ (yY u76 sz4 ag Z (zV R).1 (zV R).2.1 Z Z)<|bE a λ_ b2 a=>Xu (λp k=>bT (vs:=[vb true]) (off:=0) (H.Z k) 10 Z ag (b1.Z k) Z sz4 Z Z Z (yQ ⟨Z,T1⟩) b2 (by decide) Z Z) λp _ k H=>nJ bt H λ_ H=>?_;have H:=un21 H;obtain⟨b3,H⟩:=H.u0 13 14 Z Z (by decide) Z Z n;have H:=un20 H;obtain⟨_,H⟩:=zK (x:=t) H 14 15 16 17 Z Z Z Z (H.im 18 Z) (by decide);have H:=aJ H;obtain⟨b4,H⟩:=H.u0 13 16 Z Z (by decide) Z Z o;have H:=qZ H;cases a;exact zF<|mt (b4,b3) (H.U (rg [0,9,15,1,14,1,9,2,13,1]));have H:=un21 H;obtain⟨b5,H⟩:=H.u0 13 14 Z Z (by decide) Z Z n;have H:=un20 H;obtain⟨_,H⟩:=zK (x:=t) H 14 15 16 17 Z Z Z Z (H.im 18 Z) (by decide)
 have H:=aJ H;obtain⟨b6,H⟩:=H.u0 13 16 Z Z (by decide) Z Z o;have H:=qZ H;cases a;exact js<|mt (b6,b5) (H.U (rg [0,9,15,1,14,1,9,2,13,1]));rintro⟨b7,b8⟩ ρ _ H;have H:=kL H;have a:=br;refine zD<|zA (i6 t.now)<|aN a λb9 a=>zB (vb b9) ?_;cases a;exact yK<|zO<|zF<|mt (b7,b8) (H.U (rg [9,2,0,9,11,2]));rintro⟨ca,cb⟩ ρ _ H;have H:=dO H;have a:=a2;obtain⟨_,_⟩:=K;exact zD<|zA (i6 s)<|eF a λcc a=>zB (i6 cc)<|jn<|me a (ca,cb) (H.U (rg [0,13]));cases a;exact zZ<|zQ<|zQ<|zU<|zF<|mt (ac,ad) (H.U (rg [0,13]));rintro⟨ah,ai⟩ ρ _ H;have H:=dO H;have a:=az;obtain⟨T,_⟩:=J;refine zD<|zA d<|zA (i6 l)<|zA d<|zA (i6 l)<|bE a λcd aj a=>?_;obtain⟨_,_,ce,cf,cg,ch⟩:=aZ (H.im 12 Z) aj;obtain rfl:ce=[vb cd]:=cg;refine ix u76 sz4 cf aj<|zS (yC pJ Z (Cells.get ch (i:=0) Z))<|RJ a (λa=>zL<|pt (vb true)<|bE a λci ak a=>?_) λa=>?_;obtain⟨_,_,cj,al,ck,cl⟩:=aZ (H.im 12 Z) ak;obtain rfl:cj=[vb ci]:=ck;refine ix u76 sz4 al ak<|bE a λ_ cm a=>xu (bT (vs:=[vb true]) (off:=0) H 12 Z al cl Z sz4 Z Z Z (yQ ⟨Z,T1⟩) cm (by decide) Z Z) λ_ H=>?_;cases a;exact yK<|zO<|zF<|mt (ah,ai) (H.U (rg [0,13]));refine zA (vb T)<|pf (vb T)<|bE a λcn am a=>?_;obtain⟨_,_,co,an,cp,cq⟩:=aZ (H.im 12 Z) am;obtain rfl:co=[vb cn]:=cp;refine ix u76 sz4 an am<|bE a λ_ cr a=>xu (bT (vs:=[vb T]) (off:=0) H 12 Z an cq Z sz4 Z Z Z (yQ ⟨Z,T1⟩) cr (by decide) Z Z) λ_ H=>?_;cases a
 exact yK<|zO<|zF<|mt (ah,ai) (H.U (rg [0,13]));rintro⟨ct,cu⟩ ρ _ H;have H:=dO H;have a:=aw;exact zD<|zA (i6 l)<|eF a λcv a=>zB (i6 cv)<|jn<|me a (ct,cu) (H.U (rg [0,13]));cases a;exact zZ<|zQ<|zQ<|zU<|zF<|mt (G,I) (H.U (rg [0,11,12,1]));rintro⟨cw,cx⟩ ρ _ H;have H:=aH H;have a:=au;refine SR<|zA d<|zB d<|RM ?_;cases a;exact zI<|p1z ⟨d,cw,cx,Y,Z,H.U [11,0,1,2,3]⟩
theorem Faqw {b r:gG}{z:List fD}{c:Nat}{k l n o p A q d f h j:Value}{B C D:List Nat}(a:Faq b z=some r)(H:Hd O w w S [.tr bF [d] B b.nodes,.tr fV [f] C b.moves,.tr fV [h] D b.rules,.blk c [k,l,n,o,p,A,i6 b.frames,q,d,i6 b.first,f,h] 79,fU k b.r.Phases,dW l b.r.Moves,dQ n b.r.Rules,fU o b.names,qO p b.dens,jM A b.told,aU q b.phase,jM j z]):
  Cl 33 [gX c,j] w λe N=> ∃E u29 F G u32 I J K P L Q M u40,e= .returned (.tuple #[])/\Hd O w N S [fU E r.r.Phases,dW u29 r.r.Moves,dQ F r.r.Rules,fU G r.names,qO u32 r.dens,jM I r.told,aU J r.phase,.tr bF [K] P r.nodes,.tr fV [L] Q r.moves,.tr fV [M] u40 r.rules,.blk c [E,u29,F,G,u32,I,i6 r.frames,J,K,i6 r.first,L,M] 79]:=by
 refine CW 53 Tryz.func33 ?_;refine SR<|zA (gX c)<|zA j<|nf Z fa79_3<|xu (yL H 3 Z sz69 Z (v:=j) Z (xU (H.im 11 Z)) Z) λa2 H=>RM<|bE a λR a T=>jo H (rg [4,1,10,11]) (λ(g:(List Nat)×(List Nat)×(List Nat))=>[]) (λg=>[.tr bF [d] g.1 R,.tr fV [f] g.2.1 b.moves,.tr fV [h] g.2.2 b.rules]) (rg [0,3,6,6,14,1,13,1]) ?_ ?_
 ·refine SR<|zB (i6 0)<|RM<|zJ<|lo a H (rg [4,1,10,11]) (λx (y:(List Nat)×(List Nat)×(List Nat))=>[(4,i6 x.1)]) (λx y=>[.tr bF [d] y.1 x.2,.tr fV [f] y.2.1 b.moves,.tr fV [h] y.2.2 b.rules]) (rg [0,3,6,6,14,1,13,1]) (B,C,D) (H.U (rg [0,9,11,1,10,1])) ?_;clear H a;rintro a3 ⟨s,a4⟩ ⟨U,V,X⟩ ρ a5 H a;have H:=nY H;refine SQ<|SR<|zA (i6 s)<|zA (gX c)<|nf Z aWi<|Ld fC H 3 9 Z Z<|eG a λ_ a=>RM<|WJ a ?_ ?_<;>intro a
  ·refine WZ<|SQ<|zJ<|zD<|zA (gX c)<|zA (i6 s)<|bE a λ_ Y a=>cAc en62 (Faaw Y (H.W [0,1,2,3] [4,5,6,7,8,9,10])) λaa ab ac _ ad=>?_
   have H:=nY<|H.back [0,1,2,3] [4,5,6,7,8,9,10] Z ad;exact yK<|zO<|zF<|KN<|zD<|zA (i6 s)<|eF a λae a=>zB (i6 ae)<|jn<|me a (aa,ab,ac) (H.U (rg [7,4,0,7]))
  cases a
  exact zZ<|zQ<|zQ<|zU<|zF<|mt (U,V,X) (H.U (rg [0,11]))
 rintro⟨a9,_,_⟩ ρ _ H;have H:=nY H;have a:=T;refine SR<|zA (gX c)<|zA (gX c)<|zA (gX c)<|nf Z aGo<|Ld aBv H 3 7 Z Z ?_;have H:=H.fz (.sl Rp.bool q b.phase) (H.im 10 Z);refine bE a λaf ag a=>cAd (fJ Tryz.func63) (Fbew ag (H.W [0,1,2,3] [4,5,6,7,8,9,10,11])) λt ah ai aj _ ak=>?_
 have H:=dO<|H.back [0,1,2,3] [4,5,6,7,8,9,10,11] Z ak;refine nf Z aGo<|xu (yL H 12 Z sz76 Z (v:=t) Z (aF (H.im 8 Z)) Z) λ_ H=>RM<|bE a λal a am=>jo H (rg [5,1,30,16]) (λ(g:(List Nat)×(List Nat)×(List Nat))=>[]) (λg=>[aU t af,.tr bF [d] g.1 al,.tr fV [f] g.2.1 b.moves,.tr fV [h] g.2.2 b.rules]) (rg [4,6,0,4,16,1]) ?_ ?_
 ·refine SR<|zA (gX c)<|nf Z aWi<|Ld fC H 12 9 Z Z<|zB (i6 b.first)<|RM<|zJ ?_;have H:=H.freeze (i:=8) Z;refine lo a H (rg [5,1,34,12]) (λx (y:(List Nat)×(List Nat)×(List Nat))=>[(5,i6 x.1)]) (λx y=>[.tr bF [d] y.1 x.2,.tr fV [f] y.2.1 b.moves,.tr fV [h] y.2.2 b.rules]) (rg [3,6,11,1,0,3,15,1]) (ah,ai,aj) (H.U (rg [0,6,8,5])) ?_;clear H a;rintro _ ⟨u,_⟩ ⟨an,ao,ap⟩ ρ _ H a;have H:=nY H;refine SQ<|SR<|zA (i6 u)<|zA (gX c)<|nf Z uI<|Ld aCj H 10 8 Z Z<|lr a (H.im 7 Z) u77 λ_ a=>eG a λ_ a=>RM<|WJ a ?_ ?_<;>intro a
  ·refine WZ<|SQ<|zJ<|zD<|zA (gX c)<|zA (i6 u)<|bE a λ_ aq a=>cAc en62 (Faaw aq (H.W [7,8,9,10] [0,1,2,3,4,5,6])) λar au av _ aw=>?_
   have H:=nY<|H.back [7,8,9,10] [0,1,2,3,4,5,6] Z aw;exact yK<|zO<|zF<|KN<|zD<|zA (i6 u)<|eF a λax a=>zB (i6 ax)<|jn<|me a (ar,au,av) (H.U (rg [0,11]))
  cases a
  exact zZ<|zQ<|zQ<|zU<|zF<|mt (an,ao,ap) (H.U (rg [0,11]))
 rintro⟨ay,az,a0⟩ ρ _ H;have H:=nY H;have a:=am;refine zD<|zA (gX c)<|nf Z aGy<|Ld fC H 10 6 Z Z<|eF a λa1 a=>nf Z aGy<|xu (yL H 10 Z sz3 Z (v:=i6 a1) Z Z Z) λ_ H=>?_
 cases a
 exact yK<|bY Z ⟨k,l,n,o,p,j,t,d,ay,f,az,h,a0,Z,H.U (rg [0,11])⟩
theorem Fbww {b:gG}{z:List Bool}{c:Nat}{l n o p q s t d f h j:Value}{A B C:List Nat}{r:(List Str)}(a:Fbw b z=some r)(H:Hd O w w S [.tr bF [d] A b.nodes,.tr fV [f] B b.moves,.tr fV [h] C b.rules,.blk c [l,n,o,p,q,s,i6 b.frames,t,d,i6 b.first,f,h] 79,fU l b.r.Phases,dW n b.r.Moves,dQ o b.r.Rules,fU p b.names,qO q b.dens,jM s b.told,aU t b.phase,aU j z]):
  Cl 35 [gX c,j] w λe G=> ∃D u29 I J,e= .returned (D)/\Hd O w G S [.own Rp.str D 9 r,.tr bF [d] u29 b.nodes,.tr fV [f] I b.moves,.tr fV [h] J b.rules,.blk c [l,n,o,p,q,s,i6 b.frames,t,d,i6 b.first,f,h] 79]:=by
 refine CW 29 Tryz.func35 ?_;refine SR<|zB (.slice none 0 0)<|RM<|SR<|zB (.slice none 0 0)<|RM<|bE a λK a L=>jo H (rg [5,23]) (λ(g:Value)=>[(5,g)]) (λg=>[.own Rp.str g 9 K]) (rg [0,12]) ?_ ?_;refine SR<|zB (i6 0)<|RM<|zJ ?_;have H:=xX H Rp.str 9;refine lo a H (rg [5,23]) (λx (y:Value)=>[(5,y),(6,i6 x.2)]) (λx y=>[.own Rp.str y 9 x.1]) (rg [0,13]) (.slice none 0 0) (H.U (rg [12,1,0,12])) ?_;clear H a;rintro _ ⟨_,k⟩ u ρ _ H a;have H:=dO H;refine SQ<|SR<|zA (i6 k)<|zA j<|ln a (H.im 12 Z) u76 λ_ a=>eG a λ_ a=>RM<|WJ a (λa=>WZ<|bE a λM a N=>jo H (rg [5,1,13,15]) (λ(g:Value)=>[(5,g)]) (λg=>[.own Rp.str g 9 M]) (rg [0,1,2,12]) ?_ ?_) λa=>?_;refine zJ<|SR<|zA j<|zA (i6 k)<|bE a λP Q a=>rea H (H.im 12 Z) (vb P) Q u76 sz4 pJ λ_ _ H=>RM<|WJ a (λa=>zD<|zA u<|zA (gX c)<|nf Z aEo<|zS (kG Z)<|Ld aY H 4 0 Z Z<|zA (i6 k)<|bE a λE R a=>rea H (H.im 5 Z) (sb E) R u22 sz9 dD λ_ _ H=>lE a λ_ T a=>?_) λa=>?_;subst T;refine xv (kl kStr [E] u22 el9 H) λ_ _ H=>bE a λ_ U a=>xv (bM H (i:=0) Z u22 el9 Z Z (Sr.xH (H.im 15 Z)) U) λF _ H=>zB F ?_;cases a;exact yK<|zO<|zF<|mt F (H.U (rg [0,13]));cases a;exact yP<|zO<|zF<|mt u (H.U (rg [0,13]));rintro V ρ _ H;have H:=dO H;have a:=N;exact zD<|zA (i6 k)<|eF a λX a=>zB (i6 X)<|jn<|me a V (H.U (rg [0,13]));cases a;exact zZ<|zQ<|zQ<|zU<|zF<|mt u (H.U (rg [0,12]));rintro v ρ _ H;have H:=aH H
 have a:=L;refine SR<|zA v<|zB v<|RM ?_;cases a;exact zI<|p1z ⟨v,A,B,C,Z,H.U (rg [0,5])⟩
theorem Fe0w {c:Rules}{p:List gZ}{d h:Int}{j k l f:Value}{r:(List (List Str))}(a:Fe0 c p d h=some r)(H:Hd O w w S [fU j c.Phases,dW k c.Moves,dQ l c.Rules,rG f p]):
  Cl 16 [.agg [j,k,l].toArray,f,i6 d,i6 h] w λe v=> ∃u9,e= .returned (u9)/\Hd O w v S [.own (Rp.sl Rp.str) u9 22 r]:=by
 refine CW 36 Tryz.func16 ?_;refine SR<|xb (yT (cs:=[j,k,l]) Z H) λ_ _ H=>zB (.slice none 0 0)<|RM<|SR<|lb H 4 Z aP jX<|zA f<|bE a λ_ z a=>xG Z Z (yD en32 Z) (Fb9w z (H.W [] [0,1,2,3])) ?_;rintro _ _ ⟨b,A,B,C,D,E,F,G,I,J,K,L,M,N,rfl,P⟩;have H:=H.back1 [0,1,2,3] Z P;refine⟨_,Z,?_⟩;refine zB (gX b)<|RM ?_;have H:=aH<|H.U (rg [3,1,5,11]);refine SR<|zB (.slice none 0 0)<|RM<|bE a λQ a R=>jo H (rg [10,2,15,20]) (λ(g:Value)=>[(10,g)]) (λg=>[.own (Rp.sl Rp.str) g 22 Q]) [0] ?_ ?_;refine SR<|zA (i6 d)<|zB (i6 d)<|RM<|zJ ?_;have H:=xX H (Rp.sl Rp.str) 22;refine lo a H (rg [10,2,16,19]) (λx (y:Value×Value×Value×Value×Value×Value×Value×Value×Value×(List Nat)×Value×(List Nat)×Value×(List Nat))=>[(10,y.1),(11,i6 x.2.1)]) (λx y=>[.own (Rp.sl Rp.str) y.1 22 x.1,.blk b [y.2.1,y.2.2.1,y.2.2.2.1,y.2.2.2.2.1,y.2.2.2.2.2.1,y.2.2.2.2.2.2.1,i6 x.2.2.2.2.2.2.2.2.1,y.2.2.2.2.2.2.2.1,y.2.2.2.2.2.2.2.2.1,i6 x.2.2.2.2.2.2.2.2.2.2.2.1,y.2.2.2.2.2.2.2.2.2.2.1,y.2.2.2.2.2.2.2.2.2.2.2.2.1] 79,fU y.2.1 x.2.2.1,dW y.2.2.1 x.2.2.2.1,dQ y.2.2.2.1 x.2.2.2.2.1,fU y.2.2.2.2.1 x.2.2.2.2.2.1,qO y.2.2.2.2.2.1 x.2.2.2.2.2.2.1,jM y.2.2.2.2.2.2.1 x.2.2.2.2.2.2.2.1,aU y.2.2.2.2.2.2.2.1 x.2.2.2.2.2.2.2.2.2.1,.tr bF [y.2.2.2.2.2.2.2.2.1] y.2.2.2.2.2.2.2.2.2.1 x.2.2.2.2.2.2.2.2.2.2.1,.tr fV [y.2.2.2.2.2.2.2.2.2.2.1] y.2.2.2.2.2.2.2.2.2.2.2.1 x.2.2.2.2.2.2.2.2.2.2.2.2.1,.tr fV [y.2.2.2.2.2.2.2.2.2.2.2.2.1] y.2.2.2.2.2.2.2.2.2.2.2.2.2 x.2.2.2.2.2.2.2.2.2.2.2.2.2]) (rg [0,1,12,1,1,11]) (.slice none 0 0,A,B,C,D,E,F,G,I,J,K,L,M,N) (H.U (rg [12,1,0,1,11,1,1,10])) ?_
 clear H a;rintro _ ⟨_,n,a0,_,a2,a3,a4,a5,_,_,_,a9,_,_⟩ ⟨q,_,_,_,_,_,_,_,_,_,_,_,_,_⟩ ρ _ H a;have H:=dO H;refine SQ<|SR<|zA (i6 n)<|zA (i6 h)<|aBm a λ_ a=>RM<|WJ a (λa=>WZ<|SQ<|zJ<|SR<|zA (gX b)<|zA f<|zA (i6 n)<|bE a λ_ T a=>cAa en34 (Fa1w T (H.W [] [1])) λ_ _ U=>?_) λa=>?_;have H:=H.back1 [1] Z U;have H:=H.freeze (i:=13) Z;refine bE a λV X a=>xG Z Z (yD en33 Z) (Faqw X (H.W [10,11,12,2] [3,4,5,6,7,8,9,13])) ?_;rintro _ _ ⟨Y,aa,ab,ac,ad,ae,s,af,_,ag,_,ah,_,rfl,ai⟩;have H:=un21<|H.back [10,11,12,2] [3,4,5,6,7,8,9,13] Z ai;refine⟨_,Z,?_⟩;refine RM<|zD<|zA q<|zA (gX b)<|zA (gX b)<|nf Z aGo<|Ld aBv H 20 7 Z Z ?_;have H:=H.fz (.sl Rp.bool s V.phase) (H.im 16 Z);refine bE a λaj ak a=>cAd (fJ Tryz.func35) (Fbww ak (H.W [17,18,19,20] [10,11,12,13,14,15,16,21])) λt al am an _ ao=>?_;have H:=un23<|H.back [17,18,19,20] [10,11,12,13,14,15,16,21] Z ao;have H:=H.freeze (i:=18) Z;refine lE a λ_ ap a=>?_;subst ap;refine xv (Lx_bs (r:=(Rp.sl Rp.str)) (xl:=[aj]) (cs:=[t]) u32 el22 (by decide) (by decide) Z (aLt Z Z ⟨(xU (H.im 18 Z)),T1⟩) H ⟨[t],[],Z,⟨_,Z,(H.im 18 Z)⟩,Z⟩) λ_ _ H=>bE a λ_ aq a=>xv (bM H (i:=0) Z u32 el22 Z Z (Sr.xH (H.im 23 Z)) aq) λu _ H=>zB u<|(yK (zO (zF (KN ?_))));have H:=un20<|H.U (rg [0,9,10,7,19,4]);exact zD<|zA (i6 n)<|eF a λar a=>zB (i6 ar)<|jn<|me a (u,Y,aa,ab,ac,ad,ae,s,af,al,ag,am,ah,an) (H.U (rg [0,2,19,1,9,10]))
 cases a;exact zZ<|zQ<|zQ<|zU<|zF<|mt q (H.U [0]);rintro o ρ _ H;have H:=un1 H;have a:=R;refine SR<|zA o<|zB o<|RM ?_;cases a;exact zI<|p1z ⟨o,Z,H.U [0]⟩
theorem Feuw {b:Rules}{l:List gZ}{c d:Int}{i j k f:Value}{r:(List (List Str))×Int}(a:Feu b l c d=some r)(H:Hd O w w S [fU i b.Phases,dW j b.Moves,dQ k b.Rules,rG f l]):
  Cl 5 [.agg [i,j,k].toArray,f,i6 c,i6 d] w λe o=> ∃u9,e= .returned (.tuple #[u9,i6 r.2])/\Hd O w o S [.own (Rp.sl Rp.str) u9 22 r.1]:=by
 refine CW 24 Tryz.func5 ?_;refine SR<|xb (yT (cs:=[i,j,k]) Z H) λ_ _ H=>zB (.slice none 0 0)<|zB (i6 0)<|RM<|SQ<|SR<|lb H 4 Z aP jX<|zA f<|zA (i6 c)<|zA (i6 d)<|bE a λh p a=>RC en15 (Fb6w p (H.W [] [0,1,2,3])) H λ_ H=>zB (i6 h)<|RM<|SR<|zA (i6 h)<|aN a λ_ a=>RM<|WJ a (λa=>SR<|zA (i6 h)<|zB (.slice none 0 0)<|zB (i6 h)<|RM ?_) λa=>?_;have H:=xX H (Rp.sl Rp.str) 22;cases a;exact zI<|zH<|jW Z Z Z ⟨.slice none 0 0,Z,H.U [5]⟩;refine WZ<|SR<|lb H 4 Z aP jX<|zA f<|zA (i6 c)<|zA (i6 d)<|bE a λ_ q a=>cAa (fJ Tryz.func16) (Fe0w q (H.W [] [0,1,2,3])) λn _ s=>?_;have H:=H.back1 [0,1,2,3] Z s;refine zB n<|zB (i6 0)<|RM ?_;cases a;exact zI<|jW Z Z Z ⟨n,Z,H.U [5]⟩
theorem Fdkw {l:List Int}{c d:Int}{h:Value}{r:(List Int)}(b:Fdk l c d=some r)(H:Hd O w w S [.own (Rp.int .u8) h 5 l,.fz (.at 1 0 ((Fl.arr 20 (Fl.int .u64)).f zX))]):
  Cl 36 [h,i6 c,i6 d] w λe t=> ∃n,e= .returned (n)/\Hd O w t S [.own (Rp.int .u8) n 5 r]:=by
 refine CW 21 Tryz.func36 ?_;refine SR<|zB (.slice none 0 0)<|RM<|SR<|zA (i6 c)<|lE b λj u b=>zS (jQ u2 aRk Z u)<|zB (.int .u64 j)<|RM<|bE b λk b v=>jo H (rg [0,1,7,1,10,7]) (λ(g:Value)=>[(0,g),(7,.int .u64 k.2)]) (λg=>[.own (Rp.int .u8) g 5 k.1]) [0,2] ?_ ?_;refine SR<|zA (i6 c)<|eG b λ_ b=>RM<|WJ b (λb=>SR<|zA h<|lE b λ_ x b=>?_) λb=>?_;subst x;refine xv (kl kByt [45] u29 el5 H) λ_ _ H=>bE b λ_ y b=>xv (bM H (i:=0) Z u29 el5 Z Z (Sr.xH (H.im 2 Z)) y) λo _ H=>zB o<|RM<|zD<|zA (.int .u64 j)<|lE b λz A b=>zS (aQg (a:=j) Z A)<|zB (.int .u64 z) ?_;cases b;exact jn<|mt o (H.U [0,1]);cases b;exact js<|mt h (H.U [0,1]);rintro p _ _ H;have H:=un2 H;have b:=v;obtain⟨B,q⟩:=k;refine SR<|zA p<|zA (.int .u64 q)<|zA (i6 d)<|bE b λ_ C b=>cAa (fJ Tryz.func65) (E.Fdew B q d p _ C _ _ _ (H.W [0] [1])) λs _ D=>?_;have H:=un2<|H.back [0] [1] Z D;refine zB s<|RM ?_;cases b;exact zI<|p1z ⟨s,Z,H.U [1]⟩
theorem Fc0w {h:List Int}{a b:Int}{c:Value}{r:(List Int)}(d:Fc0 h a b=some r)(H:Hd O w w S [.own (Rp.int .u8) c 5 h,.fz (.at 1 0 ((Fl.arr 20 (Fl.int .u64)).f zX))]):
  Cl 17 [c,i6 a,i6 b] w λe k=> ∃i,e= .returned (i)/\Hd O w k S [.own (Rp.int .u8) i 5 r]:=by
 refine CW 11 Tryz.func17 ?_;refine SR<|zB (.slice none 0 0)<|RM<|SR<|zA c<|zA (i6 a)<|zA (i6 b)<|bE d λ_ l d=>cAa (fJ Tryz.func36) (Fdkw l (H.W [0] [1])) λj _ n=>?_;have H:=un2<|H.back [0] [1] Z n;refine zB j<|RM ?_;cases d;exact zI<|p1z ⟨j,Z,H.U [1]⟩
theorem aRq {d r:gQ}{c:Int}{a:Nat}{h:Value}(b:Faj d c=some r)(H:Hd O w w S [.own (Rp.int .u8) h 5 d.out,.blk a [h] 31,.fz (.at 1 0 ((Fl.arr 20 (Fl.int .u64)).f zX))]):
  Cl 6 [gX a,i6 c] w λe l=> ∃j,e= .returned (.tuple #[])/\Hd O w l S [.own (Rp.int .u8) j 5 r.out,.blk a [j] 31]:=by
 refine CW 22 Tryz.func6 ?_;refine SR<|zA (gX a)<|zA (gX a)<|nf Z aAy<|Ld aKf H 1 0 Z Z<|zA (i6 c)<|bE b λ_ n b=>cAa (fJ Tryz.func17) (Fc0w n (H.W [0] [2])) λo _ p=>?_;have H:=un3<|H.back [0] [2] Z p;refine nf Z aAy<|xu (yL H 0 Z sz29 Z (v:=o) Z (aF (H.im 2 Z)) Z) λ_ H=>RM<|zD<|zA (gX a)<|zA (gX a)<|nf Z aAy<|Ld aKf H 0 0 Z Z<|lE b λ_ q b=>?_;subst q;refine xv (kl kByt [32] u29 el5 H) λ_ _ H=>bE b λ_ s b=>xv (bM H (i:=2) Z u29 el5 Z Z (Sr.xH (H.im 3 Z)) s) λk _ H=>nf Z aAy<|xu (yL H 0 Z sz29 Z (v:=k) Z (aF (H.im 2 Z)) Z) λ_ H=>?_;cases b;exact yK<|bY Z ⟨k,Z,H.U [2,0]⟩
theorem Fexw {d r:gQ}{c:Str}{b:Nat}{h:Value}(a:Fex d c=some r)(H:Hd O w w S [.own (Rp.int .u8) h 5 d.out,.blk b [h] 31,.fz (.at 1 0 ((Fl.arr 20 (Fl.int .u64)).f zX))]):
  Cl 18 [gX b,sb c] w λe l=> ∃j,e= .returned (.tuple #[])/\Hd O w l S [.own (Rp.int .u8) j 5 r.out,.blk b [j] 31]:=by
 refine CW 17 Tryz.func18 ?_;refine SR<|zA (gX b)<|zA (sb c)<|RLi a (jR (s1:=c) u9 Z) λ_ a=>bE a λ_ n a=>cAa en6 (aRq n (H.W [0,1] [2])) λ_ _ o=>?_;have H:=un3<|H.back [0,1] [2] Z o;refine RM<|zD<|zA (gX b)<|zA (gX b)<|nf Z aAy<|Ld aKf H 2 0 Z Z<|zA (sb c)<|bE a λ_ p a=>xv (wV H (i:=1) Z u29 u9 z8_5 Z Z p) λk _ H=>nf Z aAy<|xu (yL H 2 Z sz29 Z (v:=k) Z (aF (H.im 1 Z)) Z) λ_ H=>?_;cases a;exact yK<|bY Z ⟨k,Z,H.U [1,2]⟩
end Go.Proofs.YthfeackbhgmfbaaGreatDoor.L
