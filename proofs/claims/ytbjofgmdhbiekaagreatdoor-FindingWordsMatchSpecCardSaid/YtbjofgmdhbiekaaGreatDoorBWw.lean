/- Laws that the claim stands on; no condition beyond those stated. -/
import Derived.Test.YtbjofgmdhbiekaaGreatDoorBKc
namespace Go.Lf
open Go.RowKit Go.OB Go.Fr1
theorem aCa {a b:gK}:aMm a b=true↔a.Number<b.Number\/(a.Number=b.Number/\a.Word<b.Word):=by
 unfold aMm;simp only [Bool.or_eq_true,Bool.and_eq_true,decide_eq_true_eq]
theorem aWo {a b:gK}(h1:a.Number=b.Number)(d:a.Word=b.Word):a=b:=by
 cases a;cases b;simp only at h1 d;rw [h1,d]
def Ord (l:List gK):Prop:=l.Pairwise λa b=>aMm a b=true
theorem aXz: ∀{l m:List gK},Ord l->Ord m->(∀x,x∈l↔x∈m)->l=m
 | [],[],_,_,_=>rfl
 | [],y::m,_,_,h=>by have:=(h y).2 (List.mem_cons_self ..);cases this
 |x::l,[],_,_,h=>by have:=(h x).1 (List.mem_cons_self ..);cases this
 |x::l,y::m,g,hm,h=>by
  obtain⟨l1,l2⟩:=List.pairwise_cons.1 g;obtain⟨m1,m2⟩:=List.pairwise_cons.1 hm;have e:x=y:=by
   rcases List.mem_cons.1 ((h x).1 (List.mem_cons_self ..))with e|i
   ·exact e
   ·rcases List.mem_cons.1 ((h y).2 (List.mem_cons_self ..))with e|j
    ·exact e.symm
    ·have h1:=aCa.1 (m1 x i);have k:=aCa.1 (l1 y j);omega
  subst e;have:l=m:=aXz l2 m2 λz=>by
   constructor
   ·intro d;rcases List.mem_cons.1 ((h z).1 (List.mem_cons_of_mem _ d))with e|f
    ·subst e;have:=aCa.1 (l1 z d);omega
    ·exact f
   ·intro d;rcases List.mem_cons.1 ((h z).2 (List.mem_cons_of_mem _ d))with e|f
    ·subst e;have:=aCa.1 (m1 z d);omega
    ·exact f
  rw [this]
theorem aDa {f:Type} [DecidableEq f]: ∀{l m:List f},l.Nodup->(∀x∈l,x∈m)->l.length<=m.length
 | [],_,_,_=>Nat.zero_le _
 |x::l,m,j,h=>by
  obtain⟨h1,k⟩:=List.nodup_cons.1 j;have g:=h x (List.mem_cons_self ..);have:=aDa (m:=m.erase x) k λy i=>by
   have d:y≠x:=λe=>h1 (by rw [<-e];exact i)
   rw [List.mem_erase_of_ne d];exact h y (List.mem_cons_of_mem _ i)
  rw [List.length_erase_of_mem g]at this;have:=List.length_pos_of_mem g;rw [List.length_cons];omega
section
variable {κ ν:Type} [DecidableEq κ]
def jT (m:List (κ×ν)):List κ:=m.map Prod.fst
theorem aJr (k:κ) (v:ν): ∀m:List (κ×ν),jT (kF m k v)=if k∈jT m then jT m else jT m++[k]
 | []=>rfl
 |(a,b)::m=>by
  have d:=aJr k v m;rw [kF]
  by_cases c:a=k
  ·subst c;rw [if_pos rfl];have:a∈jT ((a,b)::m):=List.mem_cons_self ..;rw [if_pos this];rfl
  ·rw [if_neg c];show a::jT (kF m k v)=_;rw [d]
   by_cases c2:k∈jT m
   ·have c3:k∈jT ((a,b)::m):=List.mem_cons_of_mem _ c2;rw [if_pos c2,if_pos c3];rfl
   ·have c3: ¬k∈jT ((a,b)::m):=λh=>by
     rcases List.mem_cons.1 h with e|h
     ·exact c e.symm
     ·exact c2 h
    rw [if_neg c2,if_neg c3];rfl
theorem keys_mem (k x:κ) (v:ν) (m:List (κ×ν)):x∈jT (kF m k v)↔x∈jT m\/x=k:=by
 rw [aJr];split;rename_i h;exact⟨.inl,λd=>d.elim id λe=>e▸h⟩;rw [mA,mS]
theorem keys_nd (k:κ) (v:ν) {m:List (κ×ν)} (h:(jT m).Nodup):(jT (kF m k v)).Nodup:=by
 rw [aJr];split;exact h;rename_i d;rw [List.nodup_append];exact⟨h,List.pairwise_singleton _ _,λa f b g=>by rw [mS.1 g];exact λe=>d (e▸f)⟩
end
theorem sort_ord {l:List gK} (j:l.Nodup) (k:l.length<4611686018427387904): ∃r,Fag gK.Number gK.Word l=some r/\Ord r/\ ∀x,x∈r↔x∈l:=by
 have i:(l.mergeSort λx y=> !ltP gK.Number gK.Word y x).Perm l:=List.mergeSort_perm _ _;refine⟨_,if_pos k,?_,λx=>i.mem_iff⟩;have h1:=aEg (f:=gK.Number) (g:=gK.Word) l;have m:(l.mergeSort λx y=> !ltP gK.Number gK.Word y x).Nodup:=i.nodup_iff.2 j;refine(List.Pairwise.and h1 m).imp λ {a b} ⟨h,d⟩=>?_;rw [aJs]at h;rw [aCa];by_cases c:a.Number=b.Number;right;refine⟨c,?_⟩;have:a.Word≠b.Word:=λe=>d (aWo c e);omega;left;omega
def mO (s:fC)(a:Int):Int:=max 0 (64*a-s.Long+63)
def inC (p:Param)(lo hi base:Int)(c:Cell):Bool:=decide (lo<=dW p base c)&&decide (dW p base c<=hi)
def aGo (p:Param)(cs:List Cell)(lo hi base:Int):List gK:=cs.flatMap λc=>if inC p lo hi base c=true then dJ c.Places base else []
def aOn (lo hi base:Int):Bool:=decide (64*(base+16)<lo)||decide (hi<64*base)
def aDr (p:Param)(cs:List Cell)(lo hi d:Int)(k:Nat):List gK:=(List.range k).flatMap λ(j:Nat)=>if aOn lo hi ((d+(j:Int))*16)=true then []else aGo p cs lo hi ((d+(j:Int))*16)
def aCl (b:Book)(s:fC)(lo hi:Int):List gK:=if b.Rests=[]then []else aDr (aQ b s) (gV (aQ b s) (aZ b.Map s.Param)) lo hi (eX b.Rests) (mP b.Rests)
theorem bAc (p:Param)(cs:List Cell)(lo hi d:Int)(k:Nat):aDr p cs lo hi d (k+1)=aDr p cs lo hi d k++(if aOn lo hi ((d+(k:Int))*16)=true then []else aGo p cs lo hi ((d+(k:Int))*16)):=by
 unfold aDr;rw [List.range_succ,List.flatMap_append,List.flatMap_singleton]
theorem aYu {p:Param}{cs:List Cell} (d: ∀c∈cs,c.Places.length<=8) (lo hi base:Int):(aGo p cs lo hi base).length<=16*cs.length:=by
 unfold aGo
 induction cs with
 |nil=>simp
 |cons c cs f=>
  rw [List.flatMap_cons,List.length_append,List.length_cons];have h1:=f λx g=>d x (List.mem_cons_of_mem _ g)
  have h:(if inC p lo hi base c=true then dJ c.Places base else []).length<=16:=by
   split
   ·have:=aAx c.Places base;have:=d c (List.mem_cons_self ..);omega
   ·simp
  omega
theorem aLp {p:Param}{cs:List Cell}(f: ∀c∈cs,c.Places.length<=8)(lo hi d:Int): ∀k,(aDr p cs lo hi d k).length<=16*(k*cs.length)
 |0=>by simp [aDr]
 |k+1=>by
  rw [bAc,List.length_append];have h1:=aLp (p:=p) f lo hi d k;have g:(if aOn lo hi ((d+(k:Int))*16)=true then []else aGo p cs lo hi ((d+(k:Int))*16)).length<=16*cs.length:=by
   split
   ·simp
   ·exact aYu f ..
  rw [Nat.add_mul,Nat.one_mul];omega
theorem oneM_ok {p:Param}(d:SzP p)(f:pG p=0):Fap (Map.mk 0 [p])=some (0,0)/\aXx (Map.mk 0 [p]):=by
 obtain⟨_,h1,g,h⟩:=aXq (m:=Map.mk 0 [p]) (aWd rfl d);unfold Fat at h1;rw [aYb rfl rfl d f,zC]at h1;simp only [zK]at h1;have e:=oI h1;subst e;have i:=h rfl;exact⟨by rw [g];rfl,i.2⟩
theorem chk5 {p:Param}(d:SzP p)(f:pG p=0):Fal (Map.mk 0 [p]) 0=some (gV p 0):=by
 obtain⟨h1,g⟩:=oneM_ok d f;exact aEa (aWd rfl d) h1 g (j:=0) rfl
theorem Times5 {p:Param}(f:SzP p)(d:pG p=0){k:Int}(g:0<=k)(h1:k<=262143):Fco p (k*16)=some ((gV p 0).map (dW p (k*16)),0):=by
 unfold Fco;rw [par_2 f,d,zC,zK,show decide ((0:Int)≠0)=false from rfl,zT,out5,zC,qD (by omega),qD (by omega),show(false||false)=false from rfl,zT,aJl (by omega) (by decide),zC,zK,show k*16%16=0 by omega,show decide ((0:Int)≠0)=false from rfl,zT,zK,chk5 f d,zC,aZd (jE d) (by omega) (by omega),zC]
theorem timeC_pi (p:Param)(d base:Int):(gV p d).map (dW p base)=(gV p 0).map (dW p base):=by
 rw [aFm p d,List.map_map];rfl
theorem span_L3 {p:Param}{cs:List Cell} (g: ∀c∈cs,c.Places.length<=8/\ ∀x∈c.Places,aEs x) (s:cs.length<=912) (lo hi:Int) {base:Int} (l:0<=base) (h1:base<=5000000) (pre:List gK) (j:pre.length<=50000000):
  Fc5 lo hi cs base (cs.map (dW p base)) (pre,0)=some (pre++aGo p cs lo hi base):=by
 unfold Fc5;refine xE (λi=>(pre++aGo p (cs.take i) lo hi base,(i:Int))) cs.length (by omega) (by simp [aGo]) (λk i h=>?_) (λk=>by simp only [zK,yK,zT,List.take_length]);have f:cs[i]? =some cs[i]:=gE h;have m:(cs.map (dW p base))[i]? =some (dW p base cs[i]):=by rw [List.getElem?_map,f];rfl
 have d:=g _ (List.getElem_mem h);have n:(aGo p (cs.take i) lo hi base).length<=16*912:=by
  have:=aYu (p:=p) (cs:=cs.take i) (λc d=>(g c (List.mem_of_mem_take d)).1) lo hi base;rw [List.length_take]at this;omega
 have o:aGo p (cs.take (i+1)) lo hi base=aGo p (cs.take i) lo hi base++(if inC p lo hi base cs[i]=true then dJ cs[i].Places base else []):=by
  unfold aGo;rw [cZ f,List.flatMap_append,List.flatMap_singleton]
 have q:=aAx cs[i].Places base;have r:=d.1;rw [o];unfold inC;simp only [zK,yH h,zV,yU f,yU m,zC,aRt _ _ l h1 d.1 d.2,fO h (show cs.length<=9223372036854775807 by omega)]
 by_cases c1:lo<=dW p base cs[i]
 ·by_cases c2:dW p base cs[i]<=hi
  ·rw [qD (by omega),zT,zC,qD (by omega),zT,kS (by rw [List.length_append];omega) (by decide),zC,zC,if_pos (by rw [dT c1,dT c2];rfl),List.append_assoc]
  ·rw [qD (by omega),zT,zC,dT (by omega),zV,zC,if_neg (by rw [qD c2,Bool.and_false];decide),List.append_nil]
 ·rw [dT (by omega),zV,zC,zV,zC,if_neg (by rw [qD c1,Bool.false_and];decide),List.append_nil]
theorem aLi {b:Book} (H:SzB b) (u:kQ b) {x:fC} (m:aLx b x) (lo hi:Int):Fbr b x lo hi=some (aCl b x lo hi)/\(aCl b x lo hi).length<=320000:=by
 have d:=m.fit;unfold aIi at d
 by_cases o:b.Rests=[]
 ·unfold Fbr aCl;rw [if_pos o,o];exact⟨rfl,by decide⟩
 rw [if_neg o]at d;have d:(mP b.Rests:Int)*((gV (aQ b x) 0).length:Int)+1<=20000:=by
  split at d
  ·cases d
  ·omega
 have v:0<=aZ b.Map x.Param:=m.par;obtain⟨s,w⟩:=aCu v;have f:Fal b.Map (aZ b.Map x.Param)=some (gV (aQ b x) (aZ b.Map x.Param)):=by
  obtain⟨j,I⟩: ∃j:Nat,aZ b.Map x.Param=(j:Int):=⟨(aZ b.Map x.Param).toNat,by omega⟩;rw [I,Int.toNat_natCast]at s;rw [I];exact aEa H.mp u.m2 u.mp s
 have g:(gV (aQ b x) (aZ b.Map x.Param)).length=(gV (aQ b x) 0).length:=(vO _ _).2;have q: ∀c∈gV (aQ b x) (aZ b.Map x.Param),c.Places.length<=8/\ ∀y∈c.Places,aEs y:=λc r=>⟨(jH (jE m.ck) r).1,(jH (jE m.ck) r).2.1⟩
 have A:((mP b.Rests*(gV (aQ b x) (aZ b.Map x.Param)).length:Nat):Int)=(mP b.Rests:Int)*((gV (aQ b x) 0).length:Int):=by rw [g];exact Int.natCast_mul _ _
 have M:=aLp (p:=aQ b x) (λc r=>(q c r).1) lo hi (eX b.Rests) (mP b.Rests);have t:(aCl b x lo hi).length<=320000:=by
  unfold aCl;rw [if_neg o];omega
 refine⟨?_,t⟩;have J:b.Rests.length≠0:=λe=>o (List.eq_nil_of_length_eq_zero e)
 obtain⟨a,_,N,O,P,Q,a0,z0,_⟩:=ends u.rs o;unfold Fal at f;obtain⟨⟨cl,_⟩,B,C⟩:=zX f;obtain⟨_,D,E⟩:=zX C;obtain rfl:=oI E;unfold Fbr aCl;rw [if_neg o,zK,zK,qD (by omega),zT,par_5 b.Map H.mp.pl,zC,B,zC];show gB (Fen (aZ b.Map x.Param) cl ([],0)) _=_;rw [D,zC,N,zC,kX a0 (by omega) (by decide),zC,zK,zK,zK,O,zC,kX (by omega) (by omega) (by decide),zC,zK,<-P,<-Q,Go.OB.wrap_i64 (n:=eX b.Rests*16) (by omega) (by omega),Go.OB.wrap_i64 (n:=bY b.Rests*16) (by omega) (by omega)];have X:(mP b.Rests:Int)=bY b.Rests-eX b.Rests+1:=by unfold mP;omega
 have S:Fg4 b lo hi (aZ b.Map x.Param) (gV (aQ b x) (aZ b.Map x.Param)) (bY b.Rests*16) ([],eX b.Rests*16)=some (aDr (aQ b x) (gV (aQ b x) (aZ b.Map x.Param)) lo hi (eX b.Rests) (mP b.Rests)):=by
  unfold Fg4;refine xE (λi=>(aDr (aQ b x) (gV (aQ b x) (aZ b.Map x.Param)) lo hi (eX b.Rests) i,(eX b.Rests+(i:Int))*16)) (mP b.Rests) (by omega) (by simp [aDr]) (λk i _=>?_) (λk=>?_)
  ·have F:0<=(eX b.Rests+(i:Int))*16:=by omega
   have G:(eX b.Rests+(i:Int))*16<=bY b.Rests*16:=by omega
   have K:=aLp (p:=aQ b x) (λc r=>(q c r).1) lo hi (eX b.Rests) i;have L:i*(gV (aQ b x) (aZ b.Map x.Param)).length<=mP b.Rests*(gV (aQ b x) (aZ b.Map x.Param)).length:=Nat.mul_le_mul_right _ (by omega);rw [bAc];simp only [zK];rw [dT G,zV,Go.OB.wrap_i64 (n:=(eX b.Rests+(i:Int))*16+16) (by omega) (by omega),Go.OB.wrap_i64 (n:=64*((eX b.Rests+(i:Int))*16+16)) (by omega) (by omega),Go.OB.wrap_i64 (n:=64*((eX b.Rests+(i:Int))*16)) (by omega) (by omega),xQ,zC];show gB (gJ (aOn lo hi ((eX b.Rests+(i:Int))*16)) _ _) _=_;have l:(eX b.Rests+(i:Int))*16+16=(eX b.Rests+((i+1:Nat):Int))*16:=by omega
   cases hsk:aOn lo hi ((eX b.Rests+(i:Int))*16)with
   |true=>rw [zV,zC,if_pos rfl,List.append_nil,l]
   |false=>
    rw [zT,w,zC,Times5 m.sz m.ck (by omega) (by omega),zC];show gB (Fc5 lo hi (gV (aQ b x) (aZ b.Map x.Param)) ((eX b.Rests+(i:Int))*16) ((gV (aQ b x) 0).map (dW (aQ b x) ((eX b.Rests+(i:Int))*16))) (_,0)) _=_;rw [<-timeC_pi (aQ b x) (aZ b.Map x.Param),span_L3 q (by rw [g];exact bT (jE m.ck).tm 0) lo hi F (by omega) _ (by omega),zC,if_neg (by decide),l]
  ·simp only [zK];rw [qD (by omega),zT]
 rw [S,zC]
def lmF (s:Int×Int)(w:gK):Int×Int:=(if (decide (s.2<0)||decide (w.Number<s.1))=true then w.Number else s.1,max s.2 w.Number)
def lmM (l:List gK):Int×Int:=l.foldl lmF (0,-1)
theorem lm_inv (M:Int): ∀(l:List gK) (s:Int×Int),(∀w∈l,0<=w.Number/\w.Number<=M)->(s=(0,-1)\/(0<=s.1/\s.1<=s.2/\s.2<=M))->
  (l.foldl lmF s=(0,-1)\/(0<=(l.foldl lmF s).1/\(l.foldl lmF s).1<=(l.foldl lmF s).2/\(l.foldl lmF s).2<=M))/\(∀w∈l,(l.foldl lmF s).1<=w.Number/\w.Number<=(l.foldl lmF s).2)/\(0<=s.2->(l.foldl lmF s).1<=s.1/\s.2<=(l.foldl lmF s).2)
 | [],s,_,d=>⟨d,λw g=>(by cases g),λ_=>⟨Int.le_refl _,Int.le_refl _⟩⟩
 |w::l,s,i,d=>by
  have g:=i w (List.mem_cons_self ..);have h1:0<=(lmF s w).1/\(lmF s w).1<=(lmF s w).2/\(lmF s w).2<=M/\(lmF s w).1<=w.Number/\w.Number<=(lmF s w).2/\(0<=s.2->(lmF s w).1<=s.1/\s.2<=(lmF s w).2):=by
   unfold lmF;rcases d with rfl|d
   ·simp only;rw [if_pos (by rw [show decide ((-1:Int)<0)=true from rfl,Bool.true_or])];refine⟨g.1,by omega,by omega,Int.le_refl _,by omega,λh=>absurd h (by decide)⟩
   ·by_cases c:w.Number<s.1
    ·rw [if_pos (by rw [dT c,Bool.or_true])];exact⟨g.1,by simp only;omega,by simp only;omega,Int.le_refl _,by simp only;omega,λ_=>⟨by simp only;omega,by simp only;omega⟩⟩
    ·rw [if_neg (by rw [qD c,qD (by omega: ¬s.2<0)];decide)];exact⟨d.1,by simp only;omega,by simp only;omega,by simp only;omega,by simp only;omega,λ_=>⟨Int.le_refl _,by simp only;omega⟩⟩
  obtain⟨i1,i2,i3⟩:=lm_inv M l (lmF s w) (λx f=>i x (List.mem_cons_of_mem _ f)) (.inr ⟨h1.1,h1.2.1,h1.2.2.1⟩);have i4:=i3 (by omega);rw [List.foldl_cons];refine⟨i1,λx f=>?_,λh=>?_⟩
  ·rcases List.mem_cons.1 f with rfl|f
   ·omega
   ·exact i2 x f
  ·have:=h1.2.2.2.2.2 h;omega
theorem aZt (x:gK): ∀(l:List gK) (m:List (gK×Bool)),kT (l.foldl (λm w=>kF m w true) m) x false=(decide (x∈l)||kT m x false)
 | [],m=>by simp
 |w::l,m=>by
  rw [List.foldl_cons,aZt x l,aFx]
  by_cases c:w=x
  ·subst c;simp
  ·rw [if_neg c];have:(x∈w::l)↔x∈l:=by
    rw [List.mem_cons];exact⟨λh=>h.elim (λe=>absurd e.symm c) id,.inr⟩
   rw [decide_eq_decide.2 this]
def aHb (l:List gK)(f:Int)(i:Nat):List gK:=((List.range i).map λ(k:Nat)=>gK.mk f (k:Int)).filter λx=>decide (x∈l)
def aLu (l:List gK)(a:Int)(i:Nat):List gK:=(List.range i).flatMap λ(j:Nat)=>aHb l (a+(j:Int)) 64
theorem rowW_S (l:List gK)(f:Int)(i:Nat):aHb l f (i+1)=aHb l f i++(if gK.mk f (i:Int)∈l then [gK.mk f (i:Int)]else []):=by
 unfold aHb;rw [List.range_succ,List.map_append,List.filter_append,List.map_singleton];by_cases c:gK.mk f (i:Int)∈l;rw [if_pos c,List.filter_cons,if_pos (by simpa using c)];rfl;rw [if_neg c,List.filter_cons,if_neg (by simpa using c)];rfl
theorem aJz (l:List gK) (f:Int) (i:Nat) (x:gK):x∈aHb l f i↔x∈l/\x.Number=f/\0<=x.Word/\x.Word<(i:Int):=by
 unfold aHb;rw [List.mem_filter,List.mem_map,decide_eq_true_eq];constructor;rintro⟨⟨k,hk,rfl⟩,h⟩;rw [List.mem_range]at hk;exact⟨h,rfl,by show(0:Int)<=(k:Int);omega,by show(k:Int)<(i:Int);omega⟩;rintro⟨h,h1,_,_⟩;refine⟨⟨x.Word.toNat,List.mem_range.2 (by omega),?_⟩,h⟩;exact aWo h1.symm (by show(x.Word.toNat:Int)=x.Word;omega)
theorem aSz (l:List gK) (f:Int): ∀i,Ord (aHb l f i)
 |0=>List.Pairwise.nil
 |i+1=>by
  rw [rowW_S];refine List.pairwise_append.2 ⟨aSz l f i,?_,λx g y d=>?_⟩
  ·split
   ·exact List.pairwise_singleton _ _
   ·exact List.Pairwise.nil
  ·obtain⟨-,h1,j,h⟩:=(aJz l f i x).1 g;split at d
   ·rw [mS.1 d,aCa]
    right
    exact⟨h1,h⟩
   ·cases d
theorem aUv (l:List gK)(a:Int)(i:Nat):aLu l a (i+1)=aLu l a i++aHb l (a+(i:Int)) 64:=by
 unfold aLu;rw [List.range_succ,List.flatMap_append,List.flatMap_singleton]
theorem aGc (l:List gK) (a:Int) (x:gK): ∀i:Nat,x∈aLu l a i↔x∈l/\a<=x.Number/\x.Number<a+(i:Int)/\0<=x.Word/\x.Word<64
 |0=>by
  constructor
  ·intro h;simp [aLu]at h
  ·rintro⟨-,h1,f,-⟩;omega
 |i+1=>by
  rw [aUv,mA,aGc l a x i,aJz];constructor
  ·rintro(⟨h1,f,j,d,g⟩|⟨h1,f,j,d⟩)
   ·exact⟨h1,f,by omega,d,g⟩
   ·exact⟨h1,by omega,by omega,j,d⟩
  ·rintro⟨h1,f,j,d,g⟩
   by_cases c:x.Number=a+(i:Int)
   ·exact .inr ⟨h1,c,d,g⟩
   ·exact .inl ⟨h1,f,by omega,d,g⟩
theorem aKz (l:List gK)(a:Int): ∀i,Ord (aLu l a i)
 |0=>List.Pairwise.nil
 |i+1=>by
  rw [aUv];refine List.pairwise_append.2 ⟨aKz l a i,aSz l _ 64,λx d y f=>?_⟩;have h1:=(aGc l a x i).1 d;have g:=(aJz l _ 64 y).1 f;rw [aCa]
  left;omega
theorem ord_nd {l:List gK}(h:Ord l):l.Nodup:=by
 refine List.Pairwise.imp (λ {a b} d e=>?_) h;subst e;have:=aCa.1 d;omega
theorem latW_le (l:List gK)(a:Int)(i:Nat):(aLu l a i).length<=l.length:=aDa (ord_nd (aKz l a i)) λx d=>((aGc l a x i).1 d).1
theorem aWn {l:List gK} (y:l.length<=20000000) (p: ∀w∈l,(0<=w.Number/\w.Number<=4194303)/\0<=w.Word/\w.Word<64): ∃r,Fan l=some r/\Ord r/\ ∀x,x∈r↔x∈l:=by
 obtain⟨i1,i2,-⟩:=lm_inv 4194303 l (0,-1) (λw s=>(p w s).1) (.inl rfl);have g:Fhb l (0,-1,0,[])=some ((lmM l).1,(lmM l).2,aPh l):=by
  unfold Fhb;refine xE (λi=>((lmM (l.take i)).1,(lmM (l.take i)).2,(i:Int),aPh (l.take i))) l.length (by omega) rfl (λk i h=>?_) (λk=>by simp only [zK,yK,zT,List.take_length]);have j:l[i]? =some l[i]:=gE h;have t:lmM (l.take (i+1))=lmF (lmM (l.take i)) l[i]:=by unfold lmM;rw [cZ j,foldl_snoc]
  have u:aPh (l.take (i+1))=kF (aPh (l.take i)) l[i] true:=by unfold aPh;rw [cZ j,foldl_snoc]
  rw [t,u];simp only [zK,yH h,zV,yU j,zC,xQ,fO h (show l.length<=9223372036854775807 by omega)];unfold lmF
  cases(decide ((lmM (l.take i)).2<0)||decide (l[i].Number<(lmM (l.take i)).1))with
  |true=>rfl
  |false=>rfl
 have d: ∀x,kT (aPh l) x false=decide (x∈l):=λx=>by
  have:=aZt x l [];rw [show kT ([]:List (gK×Bool)) x false=false from rfl,Bool.or_false]at this;exact this
 have m: ∀(f:Int) (pre:List gK),pre.length<=20000000->Fe8 (aPh l) f (pre,0)=some (pre++aHb l f 64):=by
  intro f pre _;unfold Fe8;refine xE (λi=>(pre++aHb l f i,(i:Int))) 64 (by decide) (by simp [aHb]) (λk i h=>?_) (λk=>rfl);have v:(aHb l f i).length<=64:=by
   unfold aHb;have:=List.length_filter_le (λx=>decide (x∈l)) ((List.range i).map λ(k:Nat)=>gK.mk f (k:Int));rw [List.length_map,List.length_range]at this;omega
  rw [rowW_S];simp only [zK];rw [dT (show(i:Int)<64 by omega),zV,d,Go.OB.wrap_i64 (n:=(i:Int)+1) (by omega) (by omega)]
  by_cases c:gK.mk f (i:Int)∈l
  ·rw [dT c,zV,if_pos c,kS (by rw [List.length_append,List.length_singleton];omega) (by decide),zC,zC,List.append_assoc];rfl
  ·rw [qD c,zT,if_neg c,List.append_nil,zC];rfl
 have o:Fcp (lmM l).2 (aPh l) ([],(lmM l).1)=some (aLu l (lmM l).1 ((lmM l).2+1-(lmM l).1).toNat):=by
  have z:(lmM l).1=0/\(lmM l).2= -1\/(0<=(lmM l).1/\(lmM l).1<=(lmM l).2/\(lmM l).2<=4194303):=by
   rcases i1 with e|h
   ·left
    unfold lmM;rw [e];exact⟨rfl,rfl⟩
   ·exact .inr h
  unfold Fcp;refine xE (λi=>(aLu l (lmM l).1 i,(lmM l).1+(i:Int))) ((lmM l).2+1-(lmM l).1).toNat (by omega) (by simp [aLu]) (λk i h=>?_) (λk=>?_)
  ·have:=latW_le l (lmM l).1 i;rw [aUv];simp only [zK];rw [dT (by omega),zV,m _ _ (by omega),zC,Go.OB.wrap_i64 (n:=(lmM l).1+(i:Int)+1) (by omega) (by omega)]
   congr 2
   omega
  ·simp only [zK];rw [qD (by omega),zT]
 refine⟨aLu l (lmM l).1 ((lmM l).2+1-(lmM l).1).toNat,?_,aKz ..,λx=>?_⟩
 ·unfold Fan;rw [g,zC];show gB (Fcp (lmM l).2 (aPh l) ([],(lmM l).1)) _=_;rw [o,zC]
 ·rw [aGc];constructor
  ·exact λh=>h.1
  ·intro h;have h1:=p x h;have A:(lmM l).1<=x.Number/\x.Number<=(lmM l).2:=i2 x h;exact⟨h,by omega,by omega,h1.2.1,h1.2.2⟩
theorem tw_lt {d:Type}{p:d->Bool}: ∀{l:List d}{i:Nat}{x:d},i<(l.takeWhile p).length->l[i]? =some x->p x=true
 | [],i,x,h,_=>by simp at h
 |z::l,i,x,h,f=>by
  rw [List.takeWhile_cons]at h
  by_cases c:p z=true
  ·rw [if_pos c]at h
   cases i with
   |zero=>simp at f;rw [<-f];exact c
   |succ i=>exact tw_lt (l:=l) (by simpa using h) (by simpa using f)
  ·rw [if_neg c]at h;simp at h
theorem tw_at {f:Type}{p:f->Bool}: ∀{l:List f}{x:f},l[(l.takeWhile p).length]? =some x->p x=false
 | [],x,d=>by simp at d
 |z::l,x,d=>by
  rw [List.takeWhile_cons]at d
  by_cases c:p z=true
  ·rw [if_pos c]at d;exact tw_at (l:=l) (by simpa using d)
  ·rw [if_neg c]at d;simp at d;rw [<-d];simpa using c
theorem tw_all {d:Type}{p:d->Bool}{l:List d}(h:(l.takeWhile p).length=l.length): ∀x∈l,p x=true:=by
 intro x f;obtain⟨i,hi,rfl⟩:=List.mem_iff_getElem.1 f;exact tw_lt (i:=i) (by omega) (gE hi)
def aUm (b:Book)(lo hi:Int)(s:fC)(w:gK):Prop:=b.Rests≠[]/\ ∃k,eX b.Rests<=k/\k<=bY b.Rests/\ ∃c∈gV (aQ b s) 0,lo<=dW (aQ b s) (k*16) c/\dW (aQ b s) (k*16) c<=hi/\w∈dJ c.Places (k*16)
theorem aPv {b:Book}(d:kQ b)(f:b.Rests≠[]):0<=eX b.Rests/\eX b.Rests<=bY b.Rests/\bY b.Rests<=262143:=by
 obtain⟨a,_,_,_,g,h,a0,z0,_⟩:=ends d.rs f;rw [g,h];omega
theorem aYf {b:Book}(f:kQ b){s:fC}(d:aLx b s){k:Int}(h:0<=k)(h1:k<=262143){c:Cell}(g:c∈gV (aQ b s) 0):1024*k<=dW (aQ b s) (k*16) c/\dW (aQ b s) (k*16) c<1024*(k+1):=by
 have:=smp_ok (m:=b.Map) d.sz d.ck f.rs (base:=k*16) (by omega) (by omega) g;have i:64*(k*16)<=dW (aQ b s) (k*16) c:=this.2.1;have j:dW (aQ b s) (k*16) c<64*(k*16+16):=this.2.2;omega
theorem aTq {b:Book} (i:kQ b) {s:fC} (m:aLx b s) (lo hi:Int) (w:gK):w∈aCl b s lo hi↔aUm b lo hi s w:=by
 unfold aCl aUm;by_cases g:b.Rests=[];rw [if_pos g];exact⟨λh=>absurd h List.not_mem_nil,λh=>absurd g h.1⟩;rw [if_neg g];have r:=aPv i g;have t:(mP b.Rests:Int)=bY b.Rests-eX b.Rests+1:=by unfold mP;omega
 unfold aDr aGo;rw [List.mem_flatMap];constructor;rintro⟨j,n,h⟩;rw [List.mem_range]at n;split at h;cases h;rw [List.mem_flatMap]at h;obtain⟨c,l,h⟩:=h;rw [aFm]at l;obtain⟨d,hd,rfl⟩:=List.mem_map.1 l;split at h;rename_i f;unfold inC at f;rw [Bool.and_eq_true,decide_eq_true_eq,decide_eq_true_eq]at f;exact⟨g,eX b.Rests+(j:Int),by omega,by omega,d,hd,f.1,f.2,h⟩;cases h;rintro⟨-,k,h1,_,d,hd,o,p,q⟩;have v:=aYf i m (k:=k) (by omega) (by omega) hd;refine⟨(k-eX b.Rests).toNat,List.mem_range.2 (by omega),?_⟩;have e:eX b.Rests+(((k-eX b.Rests).toNat:Nat):Int)=k:=by omega
 rw [e,if_neg];rw [List.mem_flatMap,aFm];refine⟨_,List.mem_map.2 ⟨d,hd,rfl⟩,?_⟩;rw [if_pos];exact q;unfold inC;rw [Bool.and_eq_true,decide_eq_true_eq,decide_eq_true_eq];exact⟨o,p⟩;unfold aOn;rw [Bool.or_eq_true,decide_eq_true_eq,decide_eq_true_eq];omega
theorem memS_r {b:Book} (i:kQ b) {s:fC} (j:aLx b s) {lo hi:Int}{w:gK} (h:aUm b lo hi s w):(0<=w.Number/\w.Number<=4194303)/\0<=w.Word/\w.Word<64:=by
 obtain⟨l,k,h1,_,c,m,-,-,n⟩:=h;have p:=aPv i l;obtain⟨-,g,-⟩:=jH (jE j.ck) m;obtain⟨x,f,rfl|rfl⟩:=(nC _ _ _).1 n;have d:=g x f;have:=d.f0;have:=d.f1;exact⟨⟨by show 0<=k*16+x.Frame;omega,by show k*16+x.Frame<=_;omega⟩,by show(0:Int)<=3;decide,by show(3:Int)<64;decide⟩;have d:=g x f;have:=d.f0;have:=d.f1;have:=d.w0;have:=d.w1;exact⟨⟨by show 0<=k*16+x.Frame;omega,by show k*16+x.Frame<=_;omega⟩,by show 0<=x.Word;omega,by show x.Word<64;omega⟩
def inN (names:List Str)(s:fC):Bool:=names.any λn=>decide (n=s.Track)
def aKv (a:Int)(s:fC):Bool:=decide (128000<64*a-mO s a)
def aCm (b:Book)(names:List Str)(a:Int):Bool:=b.Sources.any λs=>inN names s&&aKv a s
def aPx (b:Book)(names:List Str)(a c:Int)(w:gK):Prop:= ∃s∈b.Sources,inN names s=true/\aUm b (mO s a) (64*c+63) s w
theorem aNn {names:List Str}(d:names.length<=9223372036854775807)(s:fC):Ff7 names s (false,0)=some (inN names s):=by
 unfold Ff7;refine xE (λi=>((names.take i).any λn=>decide (n=s.Track),(i:Int))) names.length d rfl (λk i h=>?_) (λk=>by simp only [zK,yK,zT,List.take_length];rfl);have f:names[i]? =some names[i]:=gE h;simp only [zK,yH h,zV,yU f,zC,fO h d];rw [cZ f,List.any_append,List.any_cons,List.any_nil,Bool.or_false]
 cases(names.take i).any λn=>decide (n=s.Track)with
 |true=>rfl
 |false=>rw [zT,zC,Bool.false_or]
theorem words7_eq {b:Book} (I:SzB b) (t:kQ b) (O:wU b=false) {names:List Str} (M:names.length<=9223372036854775807) {a c:Int} (a0:0<=a) (a1:a<=4194303) (c0:0<=c) (c1:c<=4194303):
  (aCm b names a=true/\Fbi b names a c=some ([],false))\/(aCm b names a=false/\ ∃r,Fbi b names a c=some (r,true)/\Ord r/\(∀w,w∈r↔aPx b names a c w)/\r.length<=9600000):=by
 have P:=t.sn;have f: ∀(i:Nat) (s:fC),b.Sources[i]? =some s->aLx b s/\0<=s.Long/\s.Long<=1099511627776:=by
  intro i s hi;refine⟨src_ok I t O hi,?_⟩;have h:=t.src i s hi;unfold aFo at h;split at h
  ·cases h
  split at h
  ·cases h
  split at h
  ·cases h
  split at h
  ·cases h
  split at h
  ·rename_i c;exact absurd h c
  split at h
  ·cases h
  rename_i c3;exact aCg.1 (by simpa using c3)
 let d:List fC->List gK:=λl=>l.flatMap λs=>if inN names s=true then aCl b s (mO s a) (64*c+63)else []
 have u: ∀i,i<=b.Sources.length->(d (b.Sources.take i)).length<=320000*i:=by
  intro i
  induction i with
  |zero=>intro _;simp [d]
  |succ i Q=>
   intro hi;have m:b.Sources[i]? =some b.Sources[i]:=gE (by omega);have h1:=Q (by omega);simp only [d]at h1⊢;rw [cZ m,List.flatMap_append,List.flatMap_singleton,List.length_append];have B:(if inN names b.Sources[i]=true then aCl b b.Sources[i] (mO b.Sources[i] a) (64*c+63)else []).length<=320000:=by
    split
    ·exact(aLi I t (f i _ m).1 _ _).2
    ·simp
   omega
 have C: ∀(i:Nat) (s:fC),b.Sources[i]? =some s->(inN names s&&aKv a s)=false->d (b.Sources.take (i+1))=d (b.Sources.take i)++(if inN names s=true then aCl b s (mO s a) (64*c+63)else []):=by
  intro i s hi _;simp only [d];rw [cZ hi,List.flatMap_append,List.flatMap_singleton]
 have R:=(List.takeWhile_sublist (l:=b.Sources) λs=> !(inN names s&&aKv a s)).length_le;have v: ∀s:fC,0<=s.Long->s.Long<=1099511627776->IntKind.i64.wrap (IntKind.i64.wrap (IntKind.i64.wrap (IntKind.i64.wrap (64*a)-s.Long)+64)-1)=64*a-s.Long+63:=by
  intro s h1 B;rw [Go.OB.wrap_i64 (n:=64*a) (by omega) (by omega),Go.OB.wrap_i64 (n:=64*a-s.Long) (by omega) (by omega),Go.OB.wrap_i64 (n:=64*a-s.Long+64) (by omega) (by omega),Go.OB.wrap_i64 (by omega) (by omega)];omega
 have E:IntKind.i64.wrap (IntKind.i64.wrap (IntKind.i64.wrap (64*c)+64)-1)=64*c+63:=by
  rw [Go.OB.wrap_i64 (n:=64*c) (by omega) (by omega),Go.OB.wrap_i64 (n:=64*c+64) (by omega) (by omega),Go.OB.wrap_i64 (by omega) (by omega)];omega
 have S:Fbw b names a c (λg=>gB (Fan g) λx=>some (x,true)) ([],0)=if aCm b names a=true then some ([],false)else gB (Fan (d b.Sources)) λx=>some (x,true):=by
  unfold Fbw;refine xE (λi=>(d (b.Sources.take i),(i:Int))) (b.Sources.takeWhile λs=> !(inN names s&&aKv a s)).length (by omega) (by simp [d]) (λk i h=>?_) (λk=>?_)
  ·have hi:i<b.Sources.length:=by omega
   have m:b.Sources[i]? =some b.Sources[i]:=gE hi;have o:=tw_lt h m;rw [Bool.not_eq_true']at o;obtain⟨j,J,l1⟩:=f i _ m;have T:=u i (by omega);rw [C i _ m o];simp only [zK,yH hi,zV,yN,yU m,zC,aNn M,fO hi (show b.Sources.length<=9223372036854775807 by omega),v _ J l1,E]
   cases q:inN names b.Sources[i]with
   |false=>
    rw [Bool.not_false,zV,if_neg (by decide),List.append_nil]
   |true=>
    rw [q,Bool.true_and]at o;unfold aKv at o;have p:=aLi I t j (mO b.Sources[i] a) (64*c+63);have D:max 0 (64*a-b.Sources[i].Long+63)=mO b.Sources[i] a:=rfl;have K:0<=mO b.Sources[i] a/\mO b.Sources[i] a<=64*a+63:=by unfold mO;omega
    rw [Bool.not_true,zT,D,Go.OB.wrap_i64 (n:=64*a) (by omega) (by omega),Go.OB.wrap_i64 (n:=64*a-mO b.Sources[i] a) (by omega) (by omega),o,zT,p.1,zC,kS (by have:=p.2;omega) (by decide),zC,if_pos rfl]
  ·by_cases y:(b.Sources.takeWhile λs=> !(inN names s&&aKv a s)).length=b.Sources.length
   ·have F:=tw_all y;have L:aCm b names a=false:=by
     unfold aCm;rw [List.any_eq_false];intro s j;have h1:=F s j;rw [Bool.not_eq_true']at h1;intro B;rw [h1]at B;cases B
    rw [y,List.take_length,L,if_neg (by decide)];simp only [zK,yK,zT]
   ·have hi:(b.Sources.takeWhile λs=> !(inN names s&&aKv a s)).length<b.Sources.length:=by omega
    have m:=gE hi;have o:=tw_at m;rw [Bool.not_eq_false']at o;have z:aCm b names a=true:=by
     unfold aCm;exact List.any_eq_true.2 ⟨_,List.getElem_mem hi,o⟩
    obtain⟨j,J,l1⟩:=f _ _ m;rw [z,if_pos rfl];rw [Bool.and_eq_true]at o;simp only [zK,yH hi,zV,yN,yU m,zC,aNn M,v _ J l1,E,o.1,Bool.not_true,zT];generalize b.Sources[(b.Sources.takeWhile λs=> !(inN names s&&aKv a s)).length]=s at *
    have G:=o.2;unfold aKv at G;have D:max 0 (64*a-s.Long+63)=mO s a:=rfl;have K:0<=mO s a/\mO s a<=64*a+63:=by unfold mO;omega
    rw [D,Go.OB.wrap_i64 (n:=64*a) (by omega) (by omega),Go.OB.wrap_i64 (n:=64*a-mO s a) (by omega) (by omega),G,zV]
 unfold Fbi;rw [yN];show(_/\Fbw b names a c (λg=>gB (Fan g) λx=>some (x,true)) ([],0)=_)\/(_/\ ∃r,Fbw b names a c (λg=>gB (Fan g) λx=>some (x,true)) ([],0)=_/\_);rw [S]
 cases z:aCm b names a with
 |true=>exact .inl ⟨rfl,if_pos rfl⟩
 |false=>
  right
  refine⟨rfl,?_⟩;rw [if_neg (by decide)];have A: ∀w,w∈d b.Sources↔aPx b names a c w:=by
   intro w;simp only [d];rw [List.mem_flatMap];unfold aPx;constructor
   ·rintro⟨s,j,h⟩;obtain⟨i,hi,rfl⟩:=List.mem_iff_getElem.1 j;split at h
    ·rename_i q;exact⟨_,j,q,(aTq t (f i _ (gE hi)).1 _ _ w).1 h⟩
    ·cases h
   ·rintro⟨s,j,q,h⟩;obtain⟨i,hi,rfl⟩:=List.mem_iff_getElem.1 j;exact⟨_,j,by rw [if_pos q];exact(aTq t (f i _ (gE hi)).1 _ _ w).2 h⟩
  have H:=u b.Sources.length (Nat.le_refl _);rw [List.take_length]at H;obtain⟨r,h1,B,N⟩:=aWn (l:=d b.Sources) (by omega) (λw X=>by
   obtain⟨s,j,-,h⟩:=(A w).1 X;obtain⟨i,hi,rfl⟩:=List.mem_iff_getElem.1 j;exact memS_r t (f i _ (gE hi)).1 h)
  have h4:=aDa (ord_nd B) λx Y=>(N x).1 Y
  exact⟨r,by rw [h1,zC],B,λw=>(N w).trans (A w),by omega⟩
def aFa (b:Book)(names:List Str):Bool:=names.any λn=> !(b.Sources.any λs=>decide (s.Track=n))
def aEk (a c:Int):Bool:=(decide (a<0)||decide (c<a))||decide (4194303<c)
def sO (b:Book)(names:List Str)(a c e:Int)(d:List gK×Int):Prop:=
 if e≠0 then d=([],e)else if aFa b names=true then d=([],4)else if aEk a c=true then d=([],9)else if 2000<c-a+1 then d=([],3)else if aCm b names a=true then d=([],3)else(d.2=0/\Ord d.1/\ ∀w,w∈d.1↔aPx b names a c w)
theorem specW_one {b:Book}{names:List Str}{a c e:Int}{r f:List gK×Int}(h:sO b names a c e r)(d:sO b names a c e f):r=f:=by
 unfold sO at h d;split at h;rename_i c1;rw [if_pos c1]at d;rw [h,d];rename_i c1;rw [if_neg c1]at d;split at h;rename_i c1;rw [if_pos c1]at d;rw [h,d];rename_i c1;rw [if_neg c1]at d;split at h;rename_i c1;rw [if_pos c1]at d;rw [h,d];rename_i c1;rw [if_neg c1]at d;split at h;rename_i c1;rw [if_pos c1]at d;rw [h,d];rename_i c1;rw [if_neg c1]at d;split at h;rename_i c1;rw [if_pos c1]at d;rw [h,d];rename_i c1;rw [if_neg c1]at d;exact Prod.ext (aXz h.2.1 d.2.1 λw=>(h.2.2 w).trans (d.2.2 w).symm) (h.1.trans d.1.symm)
section
variable {b:Book}{names:List Str}{a c e:Int}
theorem spE (h:e≠0):sO b names a c e ([],e):=by unfold sO;rw [if_pos h]
theorem sp4 (h: ¬e≠0)(d:aFa b names=true):sO b names a c e ([],4):=by unfold sO;rw [if_neg h,if_pos d]
theorem sp9 (h: ¬e≠0)(d:aFa b names=false)(f:aEk a c=true):sO b names a c e ([],9):=by unfold sO;rw [if_neg h,if_neg (by rw [d];decide),if_pos f]
theorem sp3 (h: ¬e≠0)(d:aFa b names=false)(f:aEk a c=false)(g:2000<c-a+1):sO b names a c e ([],3):=by unfold sO;rw [if_neg h,if_neg (by rw [d];decide),if_neg (by rw [f];decide),if_pos g]
theorem spF (h: ¬e≠0)(d:aFa b names=false)(f:aEk a c=false)(g: ¬2000<c-a+1)(i:aCm b names a=true):sO b names a c e ([],3):=by unfold sO;rw [if_neg h,if_neg (by rw [d];decide),if_neg (by rw [f];decide),if_neg g,if_pos i]
theorem sp0 (h: ¬e≠0)(d:aFa b names=false)(f:aEk a c=false)(g: ¬2000<c-a+1)(i:aCm b names a=false){r:List gK}(j:Ord r)(hm: ∀w,w∈r↔aPx b names a c w):sO b names a c e (r,0):=by unfold sO;rw [if_neg h,if_neg (by rw [d];decide),if_neg (by rw [f];decide),if_neg g,if_neg (by rw [i];decide)];exact⟨rfl,j,hm⟩
end
theorem Words7_ok {b:Book} (q:SzB b) {names:List Str} (d:names.length<=9223372036854775807) {a c e:Int} (t:Fb0 b=some e) (u:e=0->kQ b/\wU b=false): ∃r,Fcq b names a c=some r/\sO b names a c e r/\r.1.length<=9600000:=by
 unfold Fcq;rw [t,zC,zK]
 by_cases c1:e≠0
 ·rw [dT c1,zV];exact⟨_,rfl,spE c1,Nat.zero_le _⟩
 rw [qD c1,zT,yN];obtain⟨m,v⟩:=u (by omega);have w:=m.sn;have f: ∀(i:Nat) (n:Str),names[i]? =some n->Ffo b names (i:Int) (false,0)=some (b.Sources.any λs=>decide (s.Track=n)):=by
  intro i n hi;unfold Ffo;refine xE (λj=>((b.Sources.take j).any λs=>decide (s.Track=n),(j:Int))) b.Sources.length (by omega) rfl (λk j h=>?_) (λk=>by simp only [zK,yK,zT,List.take_length]);have o:b.Sources[j]? =some b.Sources[j]:=gE h;simp only [zK,yH h,zV,yU o,yU hi,zC,fO h (show b.Sources.length<=9223372036854775807 by omega)];rw [cZ o,List.any_append,List.any_cons,List.any_nil,Bool.or_false]
  cases(b.Sources.take j).any λs=>decide (s.Track=n)with
  |true=>rfl
  |false=>rw [zT,zC,Bool.false_or]
 have g: ∀K:Unit->Option (List gK×Int),Feo b names K 0=gJ (aFa b names) (some ([],4)) (K ()):=by
  intro K;unfold Feo aFa;refine jS names _ _ _ d (λk i n h1 p=>?_) (λk=>by simp only [zK,yK,zT]);simp only [zK,yH p,zV,yN,f i n h1,zC,fO p d]
 rw [g]
 cases hu:aFa b names with
 |true=>exact⟨_,rfl,sp4 c1 hu,Nat.zero_le _⟩
 |false=>
  rw [zT];unfold Ff9;simp only [zK,xQ,zC];show ∃r,gB (gJ (aEk a c) _ _) _=some r/\_
  cases r:aEk a c with
  |true=>
   rw [zV,zC,show decide ((9:Int)≠0)=true from rfl,zV];exact⟨_,rfl,sp9 c1 hu r,Nat.zero_le _⟩
  |false=>
   have l:=r;unfold aEk at r;rw [zT];simp only [Bool.or_eq_false_iff,decide_eq_false_iff_not]at r;rw [Go.OB.wrap_i64 (n:=c-a) (by omega) (by omega),Go.OB.wrap_i64 (n:=c-a+1) (by omega) (by omega)]
   by_cases c2:2000<c-a+1
   ·rw [dT c2,zV,zC,show decide ((3:Int)≠0)=true from rfl,zV];exact⟨_,rfl,sp3 c1 hu l c2,Nat.zero_le _⟩
   ·rw [qD c2,zT,zC,show decide ((0:Int)≠0)=false from rfl,zT];rcases words7_eq q m v d (a:=a) (c:=c) (by omega) (by omega) (by omega) (by omega)with ⟨f1,f2⟩|⟨f1,r,f2,f3,f4,f5⟩
    ·rw [f2,zC];exact⟨_,rfl,spF c1 hu l c2 f1,Nat.zero_le _⟩
    ·rw [f2,zC];exact⟨_,rfl,sp0 c1 hu l c2 f1 f3 f4,f5⟩
theorem aEf {b:Book} (f:b.Sources.length<=9223372036854775807) (n:Str):(∃(s:fC) (i:Nat),Fay b n=some (s,true)/\b.Sources[i]? =some s/\s.Track=n)\/(Fay b n=some (fC.mk [] [] [] 0,false)/\ ∀s∈b.Sources,s.Track≠n):=by
 have g:Fce b.Sources n=some (aLc (λs:fC=>decide (s.Track=n)) b.Sources 0):=by
  unfold Fce Fju;rw [yN,zK];exact nD b.Sources _ f (λk i x h1 d=>by simp only [zK,yH d,zV,yU h1,zC,fO d f,Few]) (λk=>by simp only [zK,yK,zT])
 unfold Fay;rw [g,zC,zK];rcases aEx (λs:fC=>decide (s.Track=n)) b.Sources 0 with ⟨e,h⟩|⟨j,x,e,h1,d,-⟩
 ·right
  rw [e];exact⟨rfl,λs l m=>by have:=h s l;rw [dT m]at this;cases this⟩
 ·left
  rw [e,Nat.zero_add,qD (by omega),zT,yU h1,zC];exact⟨x,j,rfl,h1,by simpa using d⟩
def farN (b:Book)(a:Int)(n:Str):Bool:=b.Sources.any λs=>decide (s.Track=n)&&aKv a s
theorem far_swap (b:Book) (names:List Str) (a:Int):names.any (farN b a)=aCm b names a:=by
 rw [Bool.eq_iff_iff,List.any_eq_true];unfold aCm farN inN;rw [List.any_eq_true];constructor;rintro⟨n,d,h⟩;obtain⟨s,f,h⟩:=List.any_eq_true.1 h;rw [Bool.and_eq_true,decide_eq_true_eq]at h;exact⟨s,f,by rw [Bool.and_eq_true];exact⟨List.any_eq_true.2 ⟨n,d,dT h.1.symm⟩,h.2⟩⟩;rintro⟨s,f,h⟩;rw [Bool.and_eq_true]at h;obtain⟨n,d,e⟩:=List.any_eq_true.1 h.1;rw [decide_eq_true_eq]at e;exact⟨n,d,List.any_eq_true.2 ⟨s,f,by rw [Bool.and_eq_true,decide_eq_true_eq];exact⟨e.symm,h.2⟩⟩⟩
theorem aKo {b:Book}(k:kQ b){i j:Nat}{s t:fC}(hi:b.Sources[i]? =some s)(d:b.Sources[j]? =some t)(h:s.Track=t.Track):s=t:=by
 have f: ∀{i j:Nat}{s t:fC},b.Sources[i]? =some s->b.Sources[j]? =some t->s.Track=t.Track-> ¬i<j:=by
  intro i j s t hi d h _;have g:=k.src j t d;unfold aFo at g;split at g
  ·cases g
  split at g
  ·cases g
  rename_i c;refine c (List.any_eq_true.2 ⟨s,?_,dT h⟩);rw [List.mem_iff_getElem];obtain⟨_,m⟩:=gS.1 hi;exact⟨i,by rw [List.length_take];have:=(gS.1 d).1;omega,by rw [List.getElem_take];exact m⟩
 have h1:=f hi d h;have o:=f d hi h.symm;have:i=j:=by omega
 subst this;rw [hi]at d;exact oI d
theorem long_r {b:Book}(d:kQ b){i:Nat}{s:fC}(hi:b.Sources[i]? =some s):0<=s.Long/\s.Long<=1099511627776:=by
 have h:=d.src i s hi;unfold aFo at h;split at h;cases h;split at h;cases h;split at h;cases h;split at h;cases h;split at h;rename_i c;exact absurd h c;split at h;cases h;rename_i c3;exact aCg.1 (by simpa using c3)
theorem reach_eq {b:Book}(d:kQ b){i:Nat}{s:fC}(hi:b.Sources[i]? =some s){a c:Int}(a0:0<=a)(f:a<=4194303)(c0:0<=c)(c1:c<=4194303):Fcb s a c=some (mO s a,64*c+63):=by
 obtain⟨h1,_⟩:=long_r d hi;unfold Fcb mO;simp only [zK];rw [Go.OB.wrap_i64 (n:=64*a) (by omega) (by omega),Go.OB.wrap_i64 (n:=64*a-s.Long) (by omega) (by omega),Go.OB.wrap_i64 (n:=64*a-s.Long+64) (by omega) (by omega),Go.OB.wrap_i64 (n:=64*a-s.Long+64-1) (by omega) (by omega),Go.OB.wrap_i64 (n:=64*c) (by omega) (by omega),Go.OB.wrap_i64 (n:=64*c+64) (by omega) (by omega),Go.OB.wrap_i64 (n:=64*c+64-1) (by omega) (by omega)];rw [show 64*a-s.Long+64-1=64*a-s.Long+63 by omega,show 64*c+64-1=64*c+63 by omega]
theorem lowM_r {b:Book}(d:kQ b){i:Nat}{s:fC}(hi:b.Sources[i]? =some s){a:Int}(a0:0<=a):0<=mO s a/\mO s a<=64*a+63:=by
 obtain⟨h1,_⟩:=long_r d hi;unfold mO;omega
theorem reach_ok {b:Book} (l:kQ b) {names:List Str} (m:names.length<=9223372036854775807) (a c:Int):Fdv b names a c=some (if aFa b names=true then 4 else if aEk a c=true then 9 else if 2000<c-a+1 then 3 else if aCm b names a=true then 3 else 0):=by
 have x:=l.sn;have f:b.Sources.length<=9223372036854775807:=by omega
 unfold Fdv;rw [yN,zK];unfold Fhi;rw [aNz names (λn=> !(b.Sources.any λs=>decide (s.Track=n))) (some 4) (some (if aEk a c=true then 9 else if 2000<c-a+1 then 3 else if aCm b names a=true then 3 else 0)) m]
 ·unfold aFa
  cases names.any λn=> !(b.Sources.any λs=>decide (s.Track=n))<;>rfl
 ·intro k i n h1 g;simp only [zK,yH g,zV,yU h1,zC,fO g m];rcases aEf f n with ⟨s,j,e,d,o⟩|⟨e,h⟩
  ·have:(b.Sources.any λs=>decide (s.Track=n))=true:=List.any_eq_true.2 ⟨s,qS d,dT o⟩;rw [e,zC,this]
  ·have:(b.Sources.any λs=>decide (s.Track=n))=false:=by
    rw [List.any_eq_false];intro s p;rw [decide_eq_true_eq];exact h s p
   rw [e,zC,this]
 ·intro u k;simp only [zK,yK,zT,xQ,zC,yN];have y:decide (4194304<=c)=decide (4194303<c):=decide_eq_decide.2 (by omega);rw [y]
  by_cases r:aEk a c=true
  ·rw [if_pos r];unfold aEk at r;rw [r,zV]
  ·rw [if_neg r];rw [Bool.not_eq_true]at r;unfold aEk at r;rw [r,zT];simp only [Bool.or_eq_false_iff,decide_eq_false_iff_not]at r;rw [Go.OB.wrap_i64 (n:=c-a) (by omega) (by omega),Go.OB.wrap_i64 (n:=c-a+1) (by omega) (by omega)]
   by_cases c2:2000<c-a+1
   ·rw [dT c2,zV,if_pos c2]
   ·rw [qD c2,zT,if_neg c2];unfold Fjc;rw [jS names (farN b a) (some 3) (some 0) m]
    ·rw [far_swap]
     cases aCm b names a<;>rfl
    ·intro k i n h1 g;simp only [zK,yH g,zV,yU h1,zC,fO g m];rcases aEf f n with ⟨s,j,e,d,o⟩|⟨e,h⟩
     ·have z:=lowM_r l d (a:=a) (by omega);have A:farN b a n=aKv a s:=by
       rw [Bool.eq_iff_iff];unfold farN;rw [List.any_eq_true];constructor
       ·rintro⟨_,v,h⟩;rw [Bool.and_eq_true,decide_eq_true_eq]at h;obtain⟨_,B,rfl⟩:=List.mem_iff_getElem.1 v;rw [aKo l d (gE B) (o.trans h.1.symm)];exact h.2
       ·intro h;exact⟨s,qS d,by rw [Bool.and_eq_true,decide_eq_true_eq];exact⟨o,h⟩⟩
      rw [e,zC,reach_eq l d (by omega) (by omega) (by omega) (by omega),zC,Go.OB.wrap_i64 (n:=64*a) (by omega) (by omega),Go.OB.wrap_i64 (n:=64*a-mO s a) (by omega) (by omega),A];rfl
     ·have w:=(List.any_eq_false.1 u) n (qS h1);have:(b.Sources.any λs=>decide (s.Track=n))=false:=by
       rw [List.any_eq_false];intro s p;rw [decide_eq_true_eq];exact h s p
      rw [this]at w;exact absurd rfl w
    ·intro k;simp only [zK,yK,zT]
end Go.Lf
