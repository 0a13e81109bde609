/- Laws that the claim stands on; no condition beyond those stated. -/
import Derived.Test.YtbjofgmdhbiekaaGreatDoorBOo
import Derived.Test.YtbjofgmdhbiekaaGreatDoorBWw
namespace Go.Lf
open Go.RowKit Go.OB Go.Fr1
def latA (lo:Int)(n:Nat):List gV:=(List.range n).flatMap λ(j:Nat)=>(List.range 64).map λ(k:Nat)=>gV.mk (lo+(j:Int)) (k:Int)
theorem aKu (lo:Int): ∀n,(latA lo n).length=n*64
 |0=>rfl
 |n+1=>by
  have d:=aKu lo n;unfold latA at d⊢;rw [List.range_succ (n:=n),List.flatMap_append,List.flatMap_singleton,List.length_append,d,List.length_map,List.length_range];omega
theorem aSi {lo:Int}{n:Nat}{w:gV}(d:lo<=w.Number)(h1:w.Number<lo+(n:Int))(e:0<=w.Word)(f:w.Word<64):w∈latA lo n:=by
 unfold latA;rw [List.mem_flatMap];refine⟨(w.Number-lo).toNat,List.mem_range.2 (by omega),List.mem_map.2 ⟨w.Word.toNat,List.mem_range.2 (by omega),?_⟩⟩;exact wh_ext (by show lo+((w.Number-lo).toNat:Int)=w.Number;omega) (by show(w.Word.toNat:Int)=w.Word;omega)
theorem memS_near {b:Book} (f:aQ b) {s:fD} (g:aJt b s) {lo hi:Int}{w:gV} (h:MemS b lo hi s w):lo-1024<64*w.Number/\64*w.Number<=hi+960:=by
 obtain⟨m,k,h1,_,c,i,_,_,n⟩:=h;have r:=aOw f m;have t:=aZo f g (k:=k) (by omega) (by omega) i;obtain⟨-,j,-⟩:=jC (jI g.ck) i;obtain⟨x,d,rfl|rfl⟩:=(aS _ _ _).1 n;have e:=j x d;have:=e.f0;have:=e.f1;exact⟨by show _<64*(k*16+x.Frame);omega,by show 64*(k*16+x.Frame)<=_;omega⟩;have e:=j x d;have:=e.f0;have:=e.f1;exact⟨by show _<64*(k*16+x.Frame);omega,by show 64*(k*16+x.Frame)<=_;omega⟩
theorem had_set (x:gV)(l:List gV):aI (aDp l) x false=decide (x∈l):=by
 have:=aYo x l [];rw [show aI ([]:List (gV×Bool)) x false=false from rfl,Bool.or_false]at this;exact this
section
variable {b:Book}{names:List Str}{a c:Int}{l:List gV}
theorem aXp (r:SzB b)(j:aQ b)(t:sN b=false)(e:Ord l)(hm: ∀w,w∈l↔aSv b names a c w)(o:aKb b names a=false)(_:0<=a)(u:c-a<=40):aFs l=0:=by
 have f: ∀w∈l,((0<=w.Number/\w.Number<=4194303)/\0<=w.Word/\w.Word<64)/\a-2017<=w.Number/\w.Number<a-2017+((2100:Nat):Int):=by
  intro w d;obtain⟨_,p,k,h⟩:=(hm w).1 d;obtain⟨_,hi,rfl⟩:=List.mem_iff_getElem.1 p;have q:=src_ok r j t (gE hi);have h1:=memS_near j q h;unfold aKb at o;have n:=(List.any_eq_false.1 o) _ p;rw [k,Bool.true_and]at n;unfold farS at n;rw [decide_eq_true_eq]at n;exact⟨memS_r j q h,by omega,by omega⟩
 have g:=aGi (m:=latA (a-2017) 2100) (ord_nd e) λw d=>aSi (f w d).2.1 (f w d).2.2 (f w d).1.2.1 (f w d).1.2.2
 rw [aKu]at g;unfold aFs;rw [if_neg (by omega),if_neg];intro h;obtain⟨w,d,h⟩:=List.any_eq_true.1 h;have h1:=(f w d).1;unfold aEy at h;rw [show(dH w.Number 0 4194303)=false from pF.2 (by omega),show(dH w.Word 0 63)=false from pF.2 (by omega)]at h
 cases h
theorem all_same (p:SzB b)(e:aQ b)(q:sN b=false)(hm: ∀w,w∈l↔aSv b names a c w){i:Nat}{s:fD}(hi:b.Sources[i]? =some s)(m:inN names s=true)(a0:0<=a)(c1:c<=4194303){n:Int}(h1:a<=n)(B:n<=c):
  inT n (trM b (b.Rests.map (jP (aDp l))) s)=inT n (trM b b.Rests s):=by
 have j:=src_ok p e q hi;have r:=aFx e.rs (jP (aDp l)) (λ_=>rfl) (aDj _);have u:=aFo p e q r;have f:trM b (b.Rests.map (jP (aDp l))) s∈bM b (b.Rests.map (jP (aDp l))):=by
  unfold bM;exact List.mem_map_of_mem (qS hi)
 have o:=u.sr _ f;obtain⟨_,_⟩:=aWu e hi;have g:=tr_rel (P:=λt=>sQ s a<=t/\t<=64*c+63) e.rs j (aDp l) λv k y z d hd h w A=>by
  rw [had_set,decide_eq_true_eq];exact(hm w).2 ⟨s,qS hi,m,v,k,y,z,d,hd,h.1,h.2,A⟩
 unfold inT;rw [show(trM b (b.Rests.map (jP (aDp l))) s).Long=s.Long from rfl,show(trM b b.Rests s).Long=s.Long from rfl];rw [hld_rel g (λx j=>⟨(o.all x j).a0,(o.all x j).a1⟩) o.ord (by omega) (by omega) (by omega) λt t0 t1 _=>by unfold sQ;omega]
end
def aDu {κ ν:Type} [DecidableEq κ] (f:List (κ×ν)->List (κ×ν))(S:κ->Prop):Prop:= ∀m,(jO m).Nodup->(jO (f m)).Nodup/\ ∀w,w∈jO (f m)↔w∈jO m\/S w
section
variable {κ ν α:Type} [DecidableEq κ]
theorem aUp (k:κ)(v:ν):aDu (λm=>kJ m k v) λw=>w=k:=λm h=>⟨keys_nd k v h,λw=>keys_mem k w v m⟩
theorem adds_comp {f g:List (κ×ν)->List (κ×ν)}{S T:κ->Prop}(d:aDu f S)(e:aDu g T):aDu (λm=>g (f m)) λw=>S w\/T w:=λm h=>by
 obtain⟨h1,i⟩:=d m h;obtain⟨j,k⟩:=e _ h1;refine⟨j,λw=>(k w).trans ?_⟩;rw [i,or_assoc]
theorem adds_if {f:List (κ×ν)->List (κ×ν)}{S:κ->Prop}(d:aDu f S)(c:Bool):aDu (λm=>if c=true then f m else m) λw=>c=true/\S w:=λm h=>by
 cases c with
 |true=>
  obtain⟨h1,e⟩:=d m h;exact⟨h1,λw=>(e w).trans ⟨λh=>h.elim .inl λh=> .inr ⟨rfl,h⟩,λh=>h.elim .inl λh=> .inr h.2⟩⟩
 |false=>
  exact⟨h,λw=>⟨.inl,λh=>h.elim id λh=>by cases h.1⟩⟩
theorem wR {g:List (κ×ν)->α->List (κ×ν)}{S:α->κ->Prop}: ∀{l:List α},(∀x∈l,aDu (λm=>g m x) (S x))->aDu (λm=>l.foldl g m) λw=> ∃x∈l,S x w
 | [],_=>λm h=>⟨h,λw=>⟨.inl,λh=>h.elim id λ⟨x,f,_⟩=>absurd f List.not_mem_nil⟩⟩
 |x::l,e=>λm h=>by
  obtain⟨h1,i⟩:=e x (List.mem_cons_self ..) m h;obtain⟨j,k⟩:=wR (l:=l) (λy d=>e y (List.mem_cons_of_mem _ d)) (g m x) h1;refine⟨j,λw=>(k w).trans ?_⟩;show(w∈jO (g m x)\/_)↔_;rw [i];constructor
  ·rintro((h|h)|⟨y,d,h⟩)
   ·exact .inl h
   ·exact .inr ⟨x,List.mem_cons_self ..,h⟩
   ·exact .inr ⟨y,List.mem_cons_of_mem _ d,h⟩
  ·rintro(h|⟨y,d,h⟩)
   ·exact .inl (.inl h)
   ·rcases List.mem_cons.1 d with rfl|d
    ·exact .inl (.inr h)
    ·exact .inr ⟨y,d,h⟩
theorem aFw {f:List (κ×ν)->List (κ×ν)}{S T:κ->Prop}(d:aDu f S)(h: ∀w,S w↔T w):aDu f T:=λm hm=>⟨(d m hm).1,λw=>by rw [(d m hm).2,h]⟩
end
abbrev WM:=List (gV×Bool)
def aUs (base:Int)(m:WM)(x:fG):WM:=kJ (kJ m (gV.mk (base+x.Frame) x.Word) true) (gV.mk (base+x.Frame) 3) true
def aEt (p:Param)(lo hi base:Int)(m:WM)(c:Cell):WM:=if inC p lo hi base c=true then c.Places.foldl (aUs base) m else m
def secA (p:Param)(lo hi:Int)(m:WM)(k:Int):WM:=(gU p 0).foldl (aEt p lo hi (k*16)) m
def aNl (p:Param)(lo hi d:Int)(n:Nat)(m:WM):WM:=(List.range n).foldl (λm (j:Nat)=>secA p lo hi m (d+(j:Int))) m
def kLo (b:Book)(lo:Int):Int:=max (dC b.Rests) (lo/1024)
def kHi (b:Book)(hi:Int):Int:=min (dA b.Rests) (hi/1024)
def aVs (b:Book)(a c:Int)(s:fD)(m:WM):WM:=if b.Rests=[]then m else aNl (bV b s) (sQ s a) (64*c+63) (kLo b (sQ s a)) (kHi b (64*c+63)+1-kLo b (sQ s a)).toNat m
def aHm (b:Book)(a c:Int)(m:WM)(n:Str):WM:=match b.Sources.find? λs=>decide (s.Track=n)with
 |some s=>aVs b a c s m
 |none=>m
def aBq (b:Book)(names:List Str)(a c:Int):WM:=names.foldl (aHm b a c) []
theorem adds_cell (p:Param) (lo hi base:Int) (c:Cell):aDu (λm=>aEt p lo hi base m c) λw=>inC p lo hi base c=true/\w∈dG c.Places base:=by
 unfold aEt;refine adds_if (aFw (wR (S:=λ(x:fG) w=>w=gV.mk (base+x.Frame) x.Word\/w=gV.mk (base+x.Frame) 3) λx _=>?_) λw=>?_) _;exact adds_comp (aUp _ _) (aUp _ _);rw [aS];constructor;rintro⟨x,d,h|h⟩;exact⟨x,d,.inr h⟩;exact⟨x,d,.inl h⟩;rintro⟨x,d,h|h⟩;exact⟨x,d,.inr h⟩;exact⟨x,d,.inl h⟩
theorem adds_sec (p:Param)(lo hi k:Int):aDu (λm=>secA p lo hi m k) λw=> ∃c∈gU p 0,inC p lo hi (k*16) c=true/\w∈dG c.Places (k*16):=by
 unfold secA;exact wR λc _=>adds_cell p lo hi (k*16) c
theorem adds_span (p:Param)(lo hi d:Int)(n:Nat):aDu (aNl p lo hi d n) λw=> ∃j∈List.range n,∃c∈gU p 0,inC p lo hi ((d+(j:Int))*16) c=true/\w∈dG c.Places ((d+(j:Int))*16):=by
 unfold aNl;exact wR λ(j:Nat) _=>adds_sec p lo hi (d+(j:Int))
theorem adds_src {b:Book} (i:aQ b) {s:fD} (n:aJt b s) (a c:Int):aDu (aVs b a c s) (MemS b (sQ s a) (64*c+63) s):=by
 by_cases f:b.Rests=[]
 ·intro m hm;unfold aVs;rw [if_pos f];exact⟨hm,λw=>⟨.inl,λh=>h.elim id λh=>absurd f h.1⟩⟩
 have r:=aOw i f;have e:aVs b a c s=aNl (bV b s) (sQ s a) (64*c+63) (kLo b (sQ s a)) (kHi b (64*c+63)+1-kLo b (sQ s a)).toNat:=by
  funext m
  unfold aVs;rw [if_neg f]
 rw [e];refine aFw (adds_span _ _ _ _ _) λw=>?_
 unfold MemS kLo kHi inC;constructor
 ·rintro⟨_,o,d,hd,h,g⟩;rw [List.mem_range]at o;rw [Bool.and_eq_true,decide_eq_true_eq,decide_eq_true_eq]at h;exact⟨f,_,by omega,by omega,d,hd,h.1,h.2,g⟩
 ·rintro⟨-,k,h1,_,d,hd,p,q,g⟩;have u:=aZo i n (k:=k) (by omega) (by omega) hd;refine⟨(k-max (dC b.Rests) (sQ s a/1024)).toNat,List.mem_range.2 (by omega),d,hd,?_⟩;rw [show max (dC b.Rests) (sQ s a/1024)+((k-max (dC b.Rests) (sQ s a/1024)).toNat:Int)=k by omega];rw [Bool.and_eq_true,decide_eq_true_eq,decide_eq_true_eq];exact⟨⟨p,q⟩,g⟩
theorem adds_name {b:Book}(q:SzB b)(k:aQ b)(r:sN b=false)(a c:Int)(n:Str):aDu (λm=>aHm b a c m n) λw=> ∃s∈b.Sources,s.Track=n/\MemS b (sQ s a) (64*c+63) s w:=by
 unfold aHm
 cases hf:b.Sources.find? λs=>decide (s.Track=n)with
 |none=>
  intro m hm;refine⟨hm,λw=>⟨.inl,λh=>h.elim id ?_⟩⟩;rintro⟨s,g,d,-⟩;have:=List.find?_eq_none.1 hf s g;exact absurd d (by simpa using this)
 |some s=>
  have g:=List.mem_of_find?_eq_some hf;have d:=List.find?_some hf;rw [decide_eq_true_eq]at d;obtain⟨i,hi,e⟩:=List.mem_iff_getElem.1 g;have f:b.Sources[i]? =some s:=by rw [gE hi,e]
  refine aFw (adds_src k (src_ok q k r f) a c) λw=>⟨λh=>⟨s,g,d,h⟩,?_⟩
  rintro⟨_,o,p,h⟩;obtain⟨_,u,rfl⟩:=List.mem_iff_getElem.1 o;rw [aKv k f (gE u) (d.trans p.symm)];exact h
theorem aVf {b:Book} (g:SzB b) (i:aQ b) (j:sN b=false) (names:List Str) (a c:Int):(jO (aBq b names a c)).Nodup/\ ∀w,w∈jO (aBq b names a c)↔aSv b names a c w:=by
 have h:=wR (l:=names) (λn _=>adds_name g i j a c n) ([]:WM) List.nodup_nil;refine⟨h.1,λw=>(h.2 w).trans ?_⟩;unfold aSv inN;constructor;rintro(h|⟨n,d,s,f,k,h⟩);cases h;exact⟨s,f,List.any_eq_true.2 ⟨n,d,dT k.symm⟩,h⟩;rintro⟨s,f,d,h⟩;obtain⟨n,d,e⟩:=List.any_eq_true.1 d;rw [decide_eq_true_eq]at e;exact .inr ⟨n,d,s,f,e.symm,h⟩
theorem aQx {b:Book}(f:SzB b)(e:aQ b)(g:sN b=false)(names:List Str)(a c:Int):(jO (aBq b names a c)).length<=268435456/\ ∃r,Faf gV.Number gV.Word (jO (aBq b names a c))=some r/\Ord r/\ ∀w,w∈r↔aSv b names a c w:=by
 obtain⟨h1,j⟩:=aVf f e g names a c;have d:=aGi (m:=latA 0 4194304) h1 λw k=>by
  obtain⟨_,n,-,h⟩:=(j w).1 k;obtain⟨_,hi,rfl⟩:=List.mem_iff_getElem.1 n;have:=memS_r e (src_ok f e g (gE hi)) h;exact aSi (by omega) (by omega) (by omega) (by omega)
 rw [aKu]at d;refine⟨by omega,?_⟩;obtain⟨r,o,p,q⟩:=sort_ord h1 (by omega);exact⟨r,o,p,λw=>(q w).trans (j w)⟩
theorem TimesS {p:Param}(e:SzP p)(d:pI p=0){k:Int}(f:0<=k)(h1:k<=262143):Fcd p (k*16)=some ((gU p 0).map (bK p (k*16)),0):=by
 unfold Fcd;rw [par_l e,d,zC,zD,show decide ((0:Int)≠0)=false from rfl,zM,swi,zC,dT (by omega),dT (by omega),show(!(true&&true))=false from rfl,zD,zM,aPn (by omega) (by decide),zC,zD,show k*16%16=0 by omega,show decide ((0:Int)≠0)=false from rfl,zM,zD,aQo e d,zC];show gB (Fa1 p (gU p 0) (k*16)) _=_;rw [aRt (jI d) (by omega) (by omega),zC]
theorem wL4 {c:Cell}(j:c.Places.length<=8)(f: ∀x∈c.Places,aGa x){k:Int}(o:0<=k)(h1:k<=262143)(m:WM):Fg3 k c (c.Places.length:Int) (0,m)=some (c.Places.foldl (aUs (k*16)) m):=by
 unfold Fg3;refine yR (λi=>((i:Int),(c.Places.take i).foldl (aUs (k*16)) m)) c.Places.length (by omega) rfl (λg i h=>?_) (λg=>by simp only [zD,yE,zM,List.take_length]);have d:c.Places[i]? =some c.Places[i]:=gE h;have e:=f _ (List.getElem_mem h);have:=e.f0;have:=e.f1;rw [bD d,foldl_snoc];simp only [zD,yD h,zT,yO d,zC,fJ h (show c.Places.length<=9223372036854775807 by omega)];rw [Go.OB.wrap_i64 (n:=k*16) (by omega) (by omega),Go.OB.wrap_i64 (n:=k*16+c.Places[i].Frame) (by omega) (by omega)];rfl
theorem wL3 {p:Param}{cs:List Cell}(o:cs.length<=912)(f: ∀c∈cs,c.Places.length<=8/\ ∀x∈c.Places,aGa x)(lo hi:Int){k:Int}(g:0<=k)(h1:k<=262143)(m:WM):Fcp cs lo hi k (cs.map (bK p (k*16))) (cs.length:Int) (0,m)=some (cs.foldl (aEt p lo hi (k*16)) m):=by
 unfold Fcp;refine yR (λi=>((i:Int),(cs.take i).foldl (aEt p lo hi (k*16)) m)) cs.length (by omega) rfl (λj i h=>?_) (λj=>by simp only [zD,yE,zM,List.take_length]);have d:cs[i]? =some cs[i]:=gE h;have n:(cs.map (bK p (k*16)))[i]? =some (bK p (k*16) cs[i]):=by rw [List.getElem?_map,d];rfl
 have e:=f _ (List.getElem_mem h);rw [bD d,foldl_snoc];simp only [zD,yD h,zT,yO d,yO n,zC,fwi,wL4 e.1 e.2 g h1,fJ h (show cs.length<=9223372036854775807 by omega)];unfold aEt inC
 cases(decide (lo<=bK p (k*16) cs[i])&&decide (bK p (k*16) cs[i]<=hi))with
 |true=>rfl
 |false=>rfl
theorem wL2 {b:Book} (i:aQ b) (k:b.Rests≠[]) {p:Param} (o:SzP p) (g:pI p=0) {lo hi:Int} (_:0<=lo) (_:lo<=4611686018427387904) (d:0<=hi) (e:hi<=4611686018427387904) (m:WM):
    Fb2 (dA b.Rests) true p (gU p 0) lo hi (kLo b lo,m)=some (aNl p lo hi (kLo b lo) (kHi b hi+1-kLo b lo).toNat m):=by
 have v:=aOw i k;have s:0<=kLo b lo:=by unfold kLo;omega
 have t:kHi b hi<=262143:=by unfold kHi;omega
 unfold Fb2 aNl;refine yR (λj=>(kLo b lo+(j:Int),(List.range j).foldl (λm (j:Nat)=>secA p lo hi m (kLo b lo+(j:Int))) m)) (kHi b hi+1-kLo b lo).toNat (by omega) (by simp) (λu j _=>?_) (λu=>?_);rw [List.range_succ,foldl_snoc];simp only [zD];rw [zT,jV d e (by decide),zC,show min (dA b.Rests) (hi/1024)=kHi b hi from rfl,dT (by omega),zC,zT,Go.OB.wrap_i64 (n:=(kLo b lo+(j:Int))*16) (by omega) (by omega),TimesS o g (by omega) (by omega),zC];show gB (Fcp (gU p 0) lo hi (kLo b lo+(j:Int)) ((gU p 0).map (bK p ((kLo b lo+(j:Int))*16))) ((gU p 0).length:Int) (0,_)) _=_;rw [wL3 (bT (jI g).tm 0) (λc f=>⟨(jC (jI g) f).1,(jC (jI g) f).2.1⟩) lo hi (by omega) (by omega),zC,Go.OB.wrap_i64 (n:=kLo b lo+(j:Int)+1) (by omega) (by omega)];congr 2;omega;simp only [zD];rw [zT,jV d e (by decide),zC,show min (dA b.Rests) (hi/1024)=kHi b hi from rfl,qD (by omega),zC,zM]
theorem gath_l {b:Book} (z:SzB b) (d:aQ b) (I:sN b=false) {names:List Str} (J:names.length<=9223372036854775807) (K:aJz b names=false) {a c:Int} (a0:0<=a) (N:a<=4194303) (c0:0<=c) (c1:c<=4194303):
  ∃r,Fdw b names a c=some r/\Ord r/\ ∀w,w∈r↔aSv b names a c w:=by
 have O:=d.sn;have A:b.Sources.length<=9223372036854775807:=by omega
 obtain⟨f,P,o⟩: ∃f:Int×Int×Bool,Fap b=some f/\f=(if b.Rests=[]then(0,0,false)else(dC b.Rests,dA b.Rests,true)):=⟨_,aPr d.rs,rfl⟩;obtain⟨f1,f2,f3⟩:=f;have B:Fgw b names a c f1 f2 f3 (names.length:Int) (0,[])=some (aBq b names a c):=by
  unfold Fgw aBq;refine yR (λi=>((i:Int),(names.take i).foldl (aHm b a c) [])) names.length J rfl (λC i h=>?_) (λC=>by simp only [zD,yE,zM,List.take_length]);have D:names[i]? =some names[i]:=gE h;rw [bD D,foldl_snoc];simp only [zD,yD h,zT,yO D,zC,fJ h J];rcases aDf A names[i]with ⟨s,j,e,u,L⟩|⟨e,E⟩
  ·have q:=src_ok z d I u;obtain⟨p,Q,R⟩:=parOf b z.mp.pl s;have S:p=bV b s:=by
    have h1:=R q.par;rw [(aBz q.par).1]at h1;exact(oI h1).symm
   subst S;have v:=lowM_r d u a0;have n:aHm b a c ((names.take i).foldl (aHm b a c) []) names[i]=aVs b a c s ((names.take i).foldl (aHm b a c) []):=by
    unfold aHm
    cases hf:b.Sources.find? λs=>decide (s.Track=names[i])with
    |none=>
     have:=List.find?_eq_none.1 hf s (qS u);exact absurd L (by simpa using this)
    |some t=>
     have F:=List.mem_of_find?_eq_some hf;have x:=List.find?_some hf;rw [decide_eq_true_eq]at x;obtain⟨k,hk,T⟩:=List.mem_iff_getElem.1 F;have:=aKv d u (t:=t) (j:=k) (by rw [gE hk,T]) (L.trans x.symm);subst this;rfl
   rw [n,e,zC,Q,zC,aQo q.sz q.ck,zC,reach_eq d u a0 N c0 c1,zC,jV v.1 (by omega) (by decide),zC];unfold aVs
   by_cases y:b.Rests=[]
   ·rw [if_pos y]at o;rw [if_pos y];simp only [Prod.mk.injEq]at o;obtain⟨rfl,rfl,rfl⟩:=o;have G: ∀(k:Int) (m:WM),Fb2 0 false (bV b s) (gU (bV b s) 0) (sQ s a) (64*c+63) (k,m)=some m:=by
     intro k m;unfold Fb2;exact yR (λ_=>(k,m)) 0 (by decide) rfl (λC i h=>absurd h (by omega)) (λC=>rfl)
    rw [G,zC]
   ·rw [if_neg y]at o;rw [if_neg y];simp only [Prod.mk.injEq]at o;obtain⟨rfl,rfl,rfl⟩:=o;rw [show max (dC b.Rests) (sQ s a/1024)=kLo b (sQ s a)from rfl,wL2 d y q.sz q.ck v.1 (by omega) (by omega) (by omega),zC]
  ·unfold aJz at K;have M:=(List.any_eq_false.1 K) _ (qS D);have:(b.Sources.any λs=>decide (s.Track=names[i]))=false:=by
    rw [List.any_eq_false];intro s X;rw [decide_eq_true_eq];exact E s X
   rw [this]at M;exact absurd rfl M
 obtain⟨g,r,h1,G,Y⟩:=aQx z d I names a c;have H:aUd 16 (aBq b names a c)=some (jO (aBq b names a c)):=by
  unfold aUd jO;rw [if_pos];have e:maxLen=9223372036854775807:=maxLen_eq;unfold jO at g;rw [List.length_map]at g;omega
 refine⟨r,?_,G,Y⟩;unfold Fdw;rw [P,zC];simp only [zD];rw [B,zC,H,zC,h1,zC]
theorem WordsP_ok {b:Book} (h:SzB b) {names:List Str} (d:names.length<=9223372036854775807) {a c e:Int} (i:Fau b=some e) (j:e=0->aQ b/\sN b=false): ∃r,Fdm b names a c=some r/\vC b names a c e r:=by
 unfold Fdm;rw [i,zC,zD]
 by_cases c1:e≠0
 ·rw [dT c1,zT];exact⟨_,rfl,spE c1⟩
 rw [qD c1,zM];obtain⟨f,k⟩:=j (by omega);rw [reach_ok f d,zC,zD]
 cases hu:aJz b names with
 |true=>exact⟨_,rfl,sp4 c1 hu⟩
 |false=>
  rw [if_neg (by decide)]
  cases r:aGu a c with
  |true=>exact⟨_,rfl,sp9 c1 hu r⟩
  |false=>
   rw [if_neg (by decide)]
   by_cases c2:2000<c-a+1
   ·rw [if_pos c2];exact⟨_,rfl,sp3 c1 hu r c2⟩
   ·rw [if_neg c2]
    cases hf:aKb b names a with
    |true=>exact⟨_,rfl,spF c1 hu r c2 hf⟩
    |false=>
     have g:=r;unfold aGu at g;simp only [Bool.or_eq_false_iff,decide_eq_false_iff_not]at g;obtain⟨l,m,n,o⟩:=gath_l h f k d hu (a:=a) (c:=c) (by omega) (by omega) (by omega) (by omega);rw [if_neg (by decide),show decide ((0:Int)≠0)=false from rfl,zM,m,zC];exact⟨_,rfl,sp0 c1 hu r c2 hf n o⟩
theorem aWc (p:gY) (l:List nK) {b:Nat} (o:l.length<=1000) (e:p.out.length<=b) (h:b<=1000000):Gr (Fbo p l) (b+22+27*l.length):=by
 unfold Fbo;simp only [zD];refine(aYh (gY.mk p.out) _ e (by omega)).bind λ_ f=>?_;unfold Fjm;refine aMw (λ(i:Nat) (s:List Int)=>((i:Int),s)) l (λi s=>s.length<=b+22+27*i) (λ(r:gY)=>r.out.length<=b+22+27*l.length) (by omega) ?_ ?_ _ (by simpa using f);intro g i s x j hi d;obtain⟨r,h1,k⟩:=aYh (gY.mk s) x.N d (by omega);obtain⟨m,n,_⟩:=ink_Bool (gY.mk r.out) x.Known k (by omega);refine⟨m.out,by omega,?_⟩;simp only [zD];rw [yD hi,zT,yO j,zC,h1,zC,zC,n,zC,fJ hi (by omega)];intro g s d;simp only [zD];rw [yE,zM];exact⟨_,rfl,d⟩
theorem names_eq (b:Book)(e:b.Sources.length<=2000000):Fev b ([],0)=some (b.Sources.map λs=>s.Track):=by
 unfold Fev;refine yR (λi=>((b.Sources.take i).map λs=>s.Track,(i:Int))) b.Sources.length (by omega) rfl (λk i h=>?_) (λk=>by simp only [zD,yE,zM,List.take_length]);have d:b.Sources[i]? =some b.Sources[i]:=gE h;simp only [zD,yD h,zT,yO d,zC];rw [aK (by rw [List.length_map,List.length_take,List.length_singleton];omega) (by decide),zC,fJ h (by omega),bD d,List.map_append,List.map_singleton]
theorem run_same {body:(Int->Option Bool)->Int->Option Bool}{a c:Int}{r:Option Bool}(e:0<=a)(h1:c<=4194303)
    (h: ∀k t,a<=t->t<=c->body k t=k (t+1))(d: ∀k t,c<t->body k t=r):gZ body a=r:=by
 refine yR (λi=>a+(i:Int)) (c+1-a).toNat (by omega) (by simp) (λk i _=>?_) (λk=>d k _ (by omega));rw [h k _ (by omega) (by omega)];congr 1;omega
theorem all_law {b:Book}(g:SzB b)(L:b.Sources.length<=2000000)(a c:Int)(j:Fbg=some true):Fcb b a c=some true:=by
 obtain⟨_,y,-,F⟩:=aRp g;have z:(b.Sources.map λs=>s.Track).length<=9223372036854775807:=by rw [List.length_map];omega
 obtain⟨⟨l,q⟩,h1,d⟩:=WordsP_ok g z (a:=a) (c:=c) y F;obtain⟨⟨t1,t2⟩,d1,d2⟩:=tracks_p g;unfold Fcb;rw [names_eq b L,zC,h1,zC];simp only [zD,j,zC,yH]
 by_cases x:q≠0
 ·simp only [dT x,zT,zC]
 simp only [qD x,zM,zC];have x:q=0:=by omega
 subst x;unfold vC at d;split at d
 ·rename_i c1;have:=congrArg Prod.snd d;exact absurd this.symm c1
 rename_i G;split at d
 ·have:=congrArg Prod.snd d;cases this
 split at d
 ·have:=congrArg Prod.snd d;cases this
 rename_i A;split at d
 ·have:=congrArg Prod.snd d;cases this
 rename_i _;split at d
 ·have:=congrArg Prod.snd d;cases this
 rename_i m;obtain⟨-,p,hm⟩:=d;rw [Bool.not_eq_true]at A m;unfold aGu at A;simp only [Bool.or_eq_false_iff,decide_eq_false_iff_not]at A;rw [Go.OB.wrap_i64 (n:=c-a) (by omega) (by omega)]
 by_cases c40:40<c-a
 ·simp only [dT c40,zT]
 simp only [qD c40,zM];obtain⟨f,o⟩:=F (by omega);have u:=aXp g f o p hm m (by omega) (by omega);have v:l.length<=9223372036854775807:=by have h:l.length<=320000:=(words_ok u).n;omega
 have I:=aFx f.rs (jP (aDp l)) (λ_=>rfl) (aDj _);have B:Fa3 b=some (bM b b.Rests,0):=by
  unfold Fa3;rw [y,zC,zD,qD G,zM,all_l g f o (aGg f.rs),zC]
 have C:Fcu b l=some (bM b (b.Rests.map (jP (aDp l))),0):=by
  unfold Fcu;rw [y,zC,zD,qD G,zM,wf_l l v,zC,zD,u,show decide ((0:Int)≠0)=false from rfl,zM,set_l l v,zC,only_l b.Rests _ f.rs.n,zC,all_l g f o I,zC]
 have D:=aFo g f o (aGg f.rs);have J:=aFo g f o I;have w:(bM b (b.Rests.map (jP (aDp l)))).length=(bM b b.Rests).length:=by unfold bM;rw [List.length_map,List.length_map]
 have M:=D.n;rw [B,zC,C,zC];simp only [show decide ((0:Int)≠0)=false from rfl,zC,zM,w,show decide (((bM b b.Rests).length:Int)≠((bM b b.Rests).length:Int))=false from qD (λh=>h rfl),aQr D,aQr J];unfold Fi5;refine run_same (a:=a) (c:=c) (by omega) (by omega) (λk t g1 g2=>?_) (λk t g1=>?_)
 ·have E:(bM b (b.Rests.map (jP (aDp l)))).map (inT t)=(bM b b.Rests).map (inT t):=by
   unfold bM;rw [List.map_map,List.map_map];refine List.map_congr_left λs K=>?_
   obtain⟨_,hi,rfl⟩:=List.mem_iff_getElem.1 K;refine all_same g f o hm (gE hi) ?_ (by omega) (by omega) g1 g2;unfold inN;exact List.any_eq_true.2 ⟨_,List.mem_map_of_mem K,dT rfl⟩
  obtain⟨r,i1,i2⟩:=aWc (b:=0) (gY.mk []) ((bM b b.Rests).map (inT t)) (by rw [List.length_map];omega) (Nat.le_refl _) (by decide);rw [zD,dT g2,zT,aZk D (by omega) (by omega),aZk J (by omega) (by omega)];unfold Fdu;simp only [zC,E,i1,zD,show decide ((str' r.out:Str)≠str' r.out)=false from qD (λh=>h rfl),zM];rw [Go.OB.wrap_i64 (n:=t+1) (by omega) (by omega)]
 ·rw [zD,qD (by omega),zM]
theorem law_All (b:Book)(a c:Int)(d:aPt b)(_:i64 a)(_:i64 c)(e:b.Sources.length<=2000000):Fcb b a c=some true:=all_law (szB d) e a c aWa
end Go.Lf
