/- Laws that the claim stands on; no condition beyond those stated. -/
import Derived.Test.YtbjofgmdhbiekaaGreatDoorBOo
import Derived.Test.YtbjofgmdhbiekaaGreatDoorBWw
namespace Go.Lf
open Go.RowKit Go.OB Go.Fr1
theorem aXn (p:gY) (l:List gK) {b:Nat} (m:l.length<=9600000) (c:p.out.length<=b) (h:b<=1000000):Gr (Fdz p l) (b+22+44*l.length):=by
 unfold Fdz;simp only [zK];refine(aIx (gY.mk p.out) _ c (by omega)).bind λ_ d=>?_;unfold Fhh;refine aOa (λ(i:Nat) (s:List Int)=>((i:Int),s)) l (λi s=>s.length<=b+22+44*i) (λ(r:gY)=>r.out.length<=b+22+44*l.length) (by omega) ?_ ?_ _ (by simpa using d);intro e i s x f hi a;obtain⟨r,h1,g⟩:=aIx (gY.mk s) x.Number a (by omega);obtain⟨j,k,_⟩:=aIx (gY.mk r.out) x.Word g (by omega);refine⟨j.out,by omega,?_⟩;simp only [zK];rw [yH hi,zV,yU f,zC,h1,zC,zC,k,zC,fO hi (by omega)];intro e s a;simp only [zK];rw [yK,zT];exact⟨_,rfl,a⟩
theorem wheres_ex {l:List gK}(a:l.length<=9600000)(e:Int): ∃s,Fb2 l e=some s:=by
 obtain⟨r,h1,c⟩:=aXn (b:=0) (gY.mk []) l a (Nat.le_refl _) (by decide);obtain⟨_,d,_⟩:=aIx (gY.mk r.out) e c (by omega);unfold Fb2 Fer Fgm;rw [h1,zC,d];exact⟨_,rfl⟩
def latA (lo:Int)(n:Nat):List gK:=(List.range n).flatMap λ(j:Nat)=>(List.range 64).map λ(k:Nat)=>gK.mk (lo+(j:Int)) (k:Int)
theorem aRh (lo:Int): ∀n,(latA lo n).length=n*64
 |0=>rfl
 |n+1=>by
  have a:=aRh lo n;unfold latA at a⊢;rw [List.range_succ (n:=n),List.flatMap_append,List.flatMap_singleton,List.length_append,a,List.length_map,List.length_range];omega
theorem latA_mem {lo:Int}{n:Nat}{w:gK}(a:lo<=w.Number)(h1:w.Number<lo+(n:Int))(b:0<=w.Word)(c:w.Word<64):w∈latA lo n:=by
 unfold latA;rw [List.mem_flatMap];refine⟨(w.Number-lo).toNat,List.mem_range.2 (by omega),List.mem_map.2 ⟨w.Word.toNat,List.mem_range.2 (by omega),?_⟩⟩;exact aWo (by show lo+((w.Number-lo).toNat:Int)=w.Number;omega) (by show(w.Word.toNat:Int)=w.Word;omega)
def aEh {κ ν:Type} [DecidableEq κ] (f:List (κ×ν)->List (κ×ν))(S:κ->Prop):Prop:= ∀m,(jT m).Nodup->(jT (f m)).Nodup/\ ∀w,w∈jT (f m)↔w∈jT m\/S w
section
variable {κ ν α:Type} [DecidableEq κ]
theorem aSg (k:κ)(v:ν):aEh (λm=>kF m k v) λw=>w=k:=λm h=>⟨keys_nd k v h,λw=>keys_mem k w v m⟩
theorem adds_comp {f g:List (κ×ν)->List (κ×ν)}{S T:κ->Prop}(a:aEh f S)(b:aEh g T):aEh (λm=>g (f m)) λw=>S w\/T w:=λm h=>by
 obtain⟨h1,c⟩:=a m h;obtain⟨d,e⟩:=b _ h1;refine⟨d,λw=>(e w).trans ?_⟩;rw [c,or_assoc]
theorem adds_if {f:List (κ×ν)->List (κ×ν)}{S:κ->Prop}(a:aEh f S)(c:Bool):aEh (λm=>if c=true then f m else m) λw=>c=true/\S w:=λm h=>by
 cases c with
 |true=>
  obtain⟨h1,b⟩:=a m h;exact⟨h1,λw=>(b w).trans ⟨λh=>h.elim .inl λh=> .inr ⟨rfl,h⟩,λh=>h.elim .inl λh=> .inr h.2⟩⟩
 |false=>
  exact⟨h,λw=>⟨.inl,λh=>h.elim id λh=>by cases h.1⟩⟩
theorem aAa {g:List (κ×ν)->α->List (κ×ν)}{S:α->κ->Prop}: ∀{l:List α},(∀x∈l,aEh (λm=>g m x) (S x))->aEh (λm=>l.foldl g m) λw=> ∃x∈l,S x w
 | [],_=>λm h=>⟨h,λw=>⟨.inl,λh=>h.elim id λ⟨x,c,_⟩=>absurd c List.not_mem_nil⟩⟩
 |x::l,b=>λm h=>by
  obtain⟨h1,d⟩:=b x (List.mem_cons_self ..) m h;obtain⟨e,f⟩:=aAa (l:=l) (λy a=>b y (List.mem_cons_of_mem _ a)) (g m x) h1;refine⟨e,λw=>(f w).trans ?_⟩;show(w∈jT (g m x)\/_)↔_;rw [d];constructor
  ·rintro((h|h)|⟨y,a,h⟩)
   ·exact .inl h
   ·exact .inr ⟨x,List.mem_cons_self ..,h⟩
   ·exact .inr ⟨y,List.mem_cons_of_mem _ a,h⟩
  ·rintro(h|⟨y,a,h⟩)
   ·exact .inl (.inl h)
   ·rcases List.mem_cons.1 a with rfl|a
    ·exact .inl (.inr h)
    ·exact .inr ⟨y,a,h⟩
theorem aGm {f:List (κ×ν)->List (κ×ν)}{S T:κ->Prop}(a:aEh f S)(h: ∀w,S w↔T w):aEh f T:=λm hm=>⟨(a m hm).1,λw=>by rw [(a m hm).2,h]⟩
end
abbrev WM:=List (gK×Bool)
def aXd (base:Int)(m:WM)(x:fG):WM:=kF (kF m (gK.mk (base+x.Frame) x.Word) true) (gK.mk (base+x.Frame) 3) true
def aFk (p:Param)(lo hi base:Int)(m:WM)(c:Cell):WM:=if inC p lo hi base c=true then c.Places.foldl (aXd base) m else m
def secA (p:Param)(lo hi:Int)(m:WM)(k:Int):WM:=(gV p 0).foldl (aFk p lo hi (k*16)) m
def aNq (p:Param)(lo hi a:Int)(n:Nat)(m:WM):WM:=(List.range n).foldl (λm (j:Nat)=>secA p lo hi m (a+(j:Int))) m
def kLo (b:Book)(lo:Int):Int:=max (eX b.Rests) (lo/1024)
def kHi (b:Book)(hi:Int):Int:=min (bY b.Rests) (hi/1024)
def aVk (b:Book)(a c:Int)(s:fC)(m:WM):WM:=if b.Rests=[]then m else aNq (aQ b s) (mO s a) (64*c+63) (kLo b (mO s a)) (kHi b (64*c+63)+1-kLo b (mO s a)).toNat m
def aHn (b:Book)(a c:Int)(m:WM)(n:Str):WM:=match b.Sources.find? λs=>decide (s.Track=n)with
 |some s=>aVk b a c s m
 |none=>m
def aCj (b:Book)(names:List Str)(a c:Int):WM:=names.foldl (aHn b a c) []
theorem adds_cell (p:Param) (lo hi base:Int) (c:Cell):aEh (λm=>aFk p lo hi base m c) λw=>inC p lo hi base c=true/\w∈dJ c.Places base:=by
 unfold aFk;refine adds_if (aGm (aAa (S:=λ(x:fG) w=>w=gK.mk (base+x.Frame) x.Word\/w=gK.mk (base+x.Frame) 3) λx _=>?_) λw=>?_) _;exact adds_comp (aSg _ _) (aSg _ _);rw [nC];constructor;rintro⟨x,a,h|h⟩;exact⟨x,a,.inr h⟩;exact⟨x,a,.inl h⟩;rintro⟨x,a,h|h⟩;exact⟨x,a,.inr h⟩;exact⟨x,a,.inl h⟩
theorem adds_sec (p:Param)(lo hi k:Int):aEh (λm=>secA p lo hi m k) λw=> ∃c∈gV p 0,inC p lo hi (k*16) c=true/\w∈dJ c.Places (k*16):=by
 unfold secA;exact aAa λc _=>adds_cell p lo hi (k*16) c
theorem adds_span (p:Param)(lo hi a:Int)(n:Nat):aEh (aNq p lo hi a n) λw=> ∃j∈List.range n,∃c∈gV p 0,inC p lo hi ((a+(j:Int))*16) c=true/\w∈dJ c.Places ((a+(j:Int))*16):=by
 unfold aNq;exact aAa λ(j:Nat) _=>adds_sec p lo hi (a+(j:Int))
theorem adds_src {b:Book} (i:kQ b) {s:fC} (l:aLx b s) (a c:Int):aEh (aVk b a c s) (aUm b (mO s a) (64*c+63) s):=by
 by_cases f:b.Rests=[]
 ·intro m hm;unfold aVk;rw [if_pos f];exact⟨hm,λw=>⟨.inl,λh=>h.elim id λh=>absurd f h.1⟩⟩
 have q:=aPv i f;have e:aVk b a c s=aNq (aQ b s) (mO s a) (64*c+63) (kLo b (mO s a)) (kHi b (64*c+63)+1-kLo b (mO s a)).toNat:=by
  funext m
  unfold aVk;rw [if_neg f]
 rw [e];refine aGm (adds_span _ _ _ _ _) λw=>?_
 unfold aUm kLo kHi inC;constructor
 ·rintro⟨_,n,d,hd,h,g⟩;rw [List.mem_range]at n;rw [Bool.and_eq_true,decide_eq_true_eq,decide_eq_true_eq]at h;exact⟨f,_,by omega,by omega,d,hd,h.1,h.2,g⟩
 ·rintro⟨-,k,h1,_,d,hd,o,p,g⟩;have t:=aYf i l (k:=k) (by omega) (by omega) hd;refine⟨(k-max (eX b.Rests) (mO s a/1024)).toNat,List.mem_range.2 (by omega),d,hd,?_⟩;rw [show max (eX b.Rests) (mO s a/1024)+((k-max (eX b.Rests) (mO s a/1024)).toNat:Int)=k by omega];rw [Bool.and_eq_true,decide_eq_true_eq,decide_eq_true_eq];exact⟨⟨o,p⟩,g⟩
theorem adds_name {b:Book}(p:SzB b)(k:kQ b)(q:wU b=false)(a c:Int)(n:Str):aEh (λm=>aHn b a c m n) λw=> ∃s∈b.Sources,s.Track=n/\aUm b (mO s a) (64*c+63) s w:=by
 unfold aHn
 cases hf:b.Sources.find? λs=>decide (s.Track=n)with
 |none=>
  intro m hm;refine⟨hm,λw=>⟨.inl,λh=>h.elim id ?_⟩⟩;rintro⟨s,g,d,-⟩;have:=List.find?_eq_none.1 hf s g;exact absurd d (by simpa using this)
 |some s=>
  have g:=List.mem_of_find?_eq_some hf;have d:=List.find?_some hf;rw [decide_eq_true_eq]at d;obtain⟨i,hi,e⟩:=List.mem_iff_getElem.1 g;have f:b.Sources[i]? =some s:=by rw [gE hi,e]
  refine aGm (adds_src k (src_ok p k q f) a c) λw=>⟨λh=>⟨s,g,d,h⟩,?_⟩
  rintro⟨_,l,o,h⟩;obtain⟨_,r,rfl⟩:=List.mem_iff_getElem.1 l;rw [aKo k f (gE r) (d.trans o.symm)];exact h
theorem aWi {b:Book} (g:SzB b) (i:kQ b) (j:wU b=false) (names:List Str) (a c:Int):(jT (aCj b names a c)).Nodup/\ ∀w,w∈jT (aCj b names a c)↔aPx b names a c w:=by
 have h:=aAa (l:=names) (λn _=>adds_name g i j a c n) ([]:WM) List.nodup_nil;refine⟨h.1,λw=>(h.2 w).trans ?_⟩;unfold aPx inN;constructor;rintro(h|⟨n,d,s,f,k,h⟩);cases h;exact⟨s,f,List.any_eq_true.2 ⟨n,d,dT k.symm⟩,h⟩;rintro⟨s,f,d,h⟩;obtain⟨n,d,e⟩:=List.any_eq_true.1 d;rw [decide_eq_true_eq]at e;exact .inr ⟨n,d,s,f,e.symm,h⟩
theorem aQv {b:Book}(f:SzB b)(e:kQ b)(g:wU b=false)(names:List Str)(a c:Int):(jT (aCj b names a c)).length<=268435456/\ ∃r,Fag gK.Number gK.Word (jT (aCj b names a c))=some r/\Ord r/\ ∀w,w∈r↔aPx b names a c w:=by
 obtain⟨h1,j⟩:=aWi f e g names a c;have d:=aDa (m:=latA 0 4194304) h1 λw k=>by
  obtain⟨_,l,-,h⟩:=(j w).1 k;obtain⟨_,hi,rfl⟩:=List.mem_iff_getElem.1 l;have:=memS_r e (src_ok f e g (gE hi)) h;exact latA_mem (by omega) (by omega) (by omega) (by omega)
 rw [aRh]at d;refine⟨by omega,?_⟩;obtain⟨r,n,o,p⟩:=sort_ord h1 (by omega);exact⟨r,n,o,λw=>(p w).trans (j w)⟩
theorem TimesS {p:Param}(b:SzP p)(a:pG p=0){k:Int}(c:0<=k)(h1:k<=262143):Fd4 p (k*16)=some ((gV p 0).map (dW p (k*16)),0):=by
 unfold Fd4;rw [par_l b,a,zC,zK,show decide ((0:Int)≠0)=false from rfl,zT,swi,zC,dT (by omega),dT (by omega),show(!(true&&true))=false from rfl,zK,zT,aJl (by omega) (by decide),zC,zK,show k*16%16=0 by omega,show decide ((0:Int)≠0)=false from rfl,zT,zK,aWt b a,zC];show gB (Fba p (gV p 0) (k*16)) _=_;rw [aTc (jE a) (by omega) (by omega),zC]
theorem wL4 {c:Cell}(f:c.Places.length<=8)(d: ∀x∈c.Places,aEs x){k:Int}(g:0<=k)(h1:k<=262143)(m:WM):Fgh k c (c.Places.length:Int) (0,m)=some (c.Places.foldl (aXd (k*16)) m):=by
 unfold Fgh;refine xE (λi=>((i:Int),(c.Places.take i).foldl (aXd (k*16)) m)) c.Places.length (by omega) rfl (λe i h=>?_) (λe=>by simp only [zK,yK,zT,List.take_length]);have a:c.Places[i]? =some c.Places[i]:=gE h;have b:=d _ (List.getElem_mem h);have:=b.f0;have:=b.f1;rw [cZ a,foldl_snoc];simp only [zK,yH h,zV,yU a,zC,fO h (show c.Places.length<=9223372036854775807 by omega)];rw [Go.OB.wrap_i64 (n:=k*16) (by omega) (by omega),Go.OB.wrap_i64 (n:=k*16+c.Places[i].Frame) (by omega) (by omega)];rfl
theorem wL3 {p:Param}{cs:List Cell}(j:cs.length<=912)(d: ∀c∈cs,c.Places.length<=8/\ ∀x∈c.Places,aEs x)(lo hi:Int){k:Int}(e:0<=k)(h1:k<=262143)(m:WM):Fdd cs lo hi k (cs.map (dW p (k*16))) (cs.length:Int) (0,m)=some (cs.foldl (aFk p lo hi (k*16)) m):=by
 unfold Fdd;refine xE (λi=>((i:Int),(cs.take i).foldl (aFk p lo hi (k*16)) m)) cs.length (by omega) rfl (λf i h=>?_) (λf=>by simp only [zK,yK,zT,List.take_length]);have a:cs[i]? =some cs[i]:=gE h;have g:(cs.map (dW p (k*16)))[i]? =some (dW p (k*16) cs[i]):=by rw [List.getElem?_map,a];rfl
 have b:=d _ (List.getElem_mem h);rw [cZ a,foldl_snoc];simp only [zK,yH h,zV,yU a,yU g,zC,fwi,wL4 b.1 b.2 e h1,fO h (show cs.length<=9223372036854775807 by omega)];unfold aFk inC
 cases(decide (lo<=dW p (k*16) cs[i])&&decide (dW p (k*16) cs[i]<=hi))with
 |true=>rfl
 |false=>rfl
theorem wL2 {b:Book} (g:kQ b) (i:b.Rests≠[]) {p:Param} (k:SzP p) (f:pG p=0) {lo hi:Int} (_:0<=lo) (_:lo<=4611686018427387904) (a:0<=hi) (d:hi<=4611686018427387904) (m:WM):
    Fbj (bY b.Rests) true p (gV p 0) lo hi (kLo b lo,m)=some (aNq p lo hi (kLo b lo) (kHi b hi+1-kLo b lo).toNat m):=by
 have t:=aPv g i;have q:0<=kLo b lo:=by unfold kLo;omega
 have r:kHi b hi<=262143:=by unfold kHi;omega
 unfold Fbj aNq;refine xE (λj=>(kLo b lo+(j:Int),(List.range j).foldl (λm (j:Nat)=>secA p lo hi m (kLo b lo+(j:Int))) m)) (kHi b hi+1-kLo b lo).toNat (by omega) (by simp) (λs j _=>?_) (λs=>?_);rw [List.range_succ,foldl_snoc];simp only [zK];rw [zV,kX a d (by decide),zC,show min (bY b.Rests) (hi/1024)=kHi b hi from rfl,dT (by omega),zC,zV,Go.OB.wrap_i64 (n:=(kLo b lo+(j:Int))*16) (by omega) (by omega),TimesS k f (by omega) (by omega),zC];show gB (Fdd (gV p 0) lo hi (kLo b lo+(j:Int)) ((gV p 0).map (dW p ((kLo b lo+(j:Int))*16))) ((gV p 0).length:Int) (0,_)) _=_;rw [wL3 (bT (jE f).tm 0) (λ_ e=>⟨(jH (jE f) e).1,(jH (jE f) e).2.1⟩) lo hi (by omega) (by omega),zC,Go.OB.wrap_i64 (n:=kLo b lo+(j:Int)+1) (by omega) (by omega)];congr 2;omega;simp only [zK];rw [zV,kX a d (by decide),zC,show min (bY b.Rests) (hi/1024)=kHi b hi from rfl,qD (by omega),zC,zT]
theorem gath_l {b:Book} (y:SzB b) (d:kQ b) (H:wU b=false) {names:List Str} (I:names.length<=9223372036854775807) (J:aFa b names=false) {a c:Int} (a0:0<=a) (M:a<=4194303) (c0:0<=c) (c1:c<=4194303):
  ∃r,Fcu b names a c=some r/\Ord r/\ ∀w,w∈r↔aPx b names a c w:=by
 have N:=d.sn;have z:b.Sources.length<=9223372036854775807:=by omega
 obtain⟨f,O,n⟩: ∃f:Int×Int×Bool,Fbh b=some f/\f=(if b.Rests=[]then(0,0,false)else(eX b.Rests,bY b.Rests,true)):=⟨_,span_eq d.rs,rfl⟩;obtain⟨f1,f2,f3⟩:=f;have A:Ffc b names a c f1 f2 f3 (names.length:Int) (0,[])=some (aCj b names a c):=by
  unfold Ffc aCj;refine xE (λi=>((i:Int),(names.take i).foldl (aHn b a c) [])) names.length I rfl (λB i h=>?_) (λB=>by simp only [zK,yK,zT,List.take_length]);have C:names[i]? =some names[i]:=gE h;rw [cZ C,foldl_snoc];simp only [zK,yH h,zV,yU C,zC,fO h I];rcases aEf z names[i]with ⟨s,j,e,q,K⟩|⟨e,D⟩
  ·have o:=src_ok y d H q;obtain⟨p,P,Q⟩:=parOf b y.mp.pl s;have R:p=aQ b s:=by
    have h1:=Q o.par;rw [(aCu o.par).1]at h1;exact(oI h1).symm
   subst R;have u:=lowM_r d q a0;have l:aHn b a c ((names.take i).foldl (aHn b a c) []) names[i]=aVk b a c s ((names.take i).foldl (aHn b a c) []):=by
    unfold aHn
    cases hf:b.Sources.find? λs=>decide (s.Track=names[i])with
    |none=>
     have:=List.find?_eq_none.1 hf s (qS q);exact absurd K (by simpa using this)
    |some t=>
     have E:=List.mem_of_find?_eq_some hf;have v:=List.find?_some hf;rw [decide_eq_true_eq]at v;obtain⟨k,hk,S⟩:=List.mem_iff_getElem.1 E;have:=aKo d q (t:=t) (j:=k) (by rw [gE hk,S]) (K.trans v.symm);subst this;rfl
   rw [l,e,zC,P,zC,aWt o.sz o.ck,zC,reach_eq d q a0 M c0 c1,zC,kX u.1 (by omega) (by decide),zC];unfold aVk
   by_cases x:b.Rests=[]
   ·rw [if_pos x]at n;rw [if_pos x];simp only [Prod.mk.injEq]at n;obtain⟨rfl,rfl,rfl⟩:=n;have F: ∀(k:Int) (m:WM),Fbj 0 false (aQ b s) (gV (aQ b s) 0) (mO s a) (64*c+63) (k,m)=some m:=by
     intro k m;unfold Fbj;exact xE (λ_=>(k,m)) 0 (by decide) rfl (λB i h=>absurd h (by omega)) (λB=>rfl)
    rw [F,zC]
   ·rw [if_neg x]at n;rw [if_neg x];simp only [Prod.mk.injEq]at n;obtain⟨rfl,rfl,rfl⟩:=n;rw [show max (eX b.Rests) (mO s a/1024)=kLo b (mO s a)from rfl,wL2 d x o.sz o.ck u.1 (by omega) (by omega) (by omega),zC]
  ·unfold aFa at J;have L:=(List.any_eq_false.1 J) _ (qS C);have:(b.Sources.any λs=>decide (s.Track=names[i]))=false:=by
    rw [List.any_eq_false];intro s T;rw [decide_eq_true_eq];exact D s T
   rw [this]at L;exact absurd rfl L
 obtain⟨g,r,h1,F,X⟩:=aQv y d H names a c;have G:aRu 16 (aCj b names a c)=some (jT (aCj b names a c)):=by
  unfold aRu jT;rw [if_pos];have e:maxLen=9223372036854775807:=maxLen_eq;unfold jT at g;rw [List.length_map]at g;omega
 refine⟨r,?_,F,X⟩;unfold Fcu;rw [O,zC];simp only [zK];rw [A,zC,G,zC,h1,zC]
theorem WordsP_ok {b:Book} (h:SzB b) {names:List Str} (d:names.length<=9223372036854775807) {a c e:Int} (i:Fby b=some e) (j:e=0->kQ b/\wU b=false): ∃r,Fc7 b names a c=some r/\sO b names a c e r:=by
 unfold Fc7;rw [i,zC,zK]
 by_cases c1:e≠0
 ·rw [dT c1,zV];exact⟨_,rfl,spE c1⟩
 rw [qD c1,zT];obtain⟨f,k⟩:=j (by omega);rw [reach_ok f d,zC,zK]
 cases hu:aFa b names with
 |true=>exact⟨_,rfl,sp4 c1 hu⟩
 |false=>
  rw [if_neg (by decide)]
  cases r:aEk a c with
  |true=>exact⟨_,rfl,sp9 c1 hu r⟩
  |false=>
   rw [if_neg (by decide)]
   by_cases c2:2000<c-a+1
   ·rw [if_pos c2];exact⟨_,rfl,sp3 c1 hu r c2⟩
   ·rw [if_neg c2]
    cases hf:aCm b names a with
    |true=>exact⟨_,rfl,spF c1 hu r c2 hf⟩
    |false=>
     have g:=r;unfold aEk at g;simp only [Bool.or_eq_false_iff,decide_eq_false_iff_not]at g;obtain⟨_,m,n,o⟩:=gath_l h f k d hu (a:=a) (c:=c) (by omega) (by omega) (by omega) (by omega);rw [if_neg (by decide),show decide ((0:Int)≠0)=false from rfl,zT,m,zC];exact⟨_,rfl,sp0 c1 hu r c2 hf n o⟩
theorem words_law {b:Book}(f:SzB b){names:List Str}(g:names.length<=9223372036854775807)(a c:Int)(d:Fdw=some true):Fdo b names a c=some true:=by
 obtain⟨_,i,j,h⟩:=book_two f;obtain⟨⟨_,q⟩,h1,k⟩:=WordsP_ok f g (a:=a) (c:=c) i h;obtain⟨_,m,n,o⟩:=Words7_ok f g (a:=a) (c:=c) j h;obtain rfl:=specW_one k n;obtain⟨_,p⟩:=wheres_ex o q;unfold Fdo;simp only [h1,m,p,zC,zK,decide_true,zV,d]
theorem law_Words (b:Book)(names:List Str)(a c:Int)(d:aVj b)(e:okL (λx=>okS x) names)(_:i64 a)(_:i64 c):Fdo b names a c=some true:=words_law (szB d) e.1 a c aWc
end Go.Lf
