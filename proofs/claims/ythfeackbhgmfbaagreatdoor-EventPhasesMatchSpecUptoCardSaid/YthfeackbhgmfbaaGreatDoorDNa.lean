/- Laws that the claim stands on; no condition beyond those stated. -/
import Derived.Test.YthfeackbhgmfbaaGreatDoorUP
import Derived.Test.YthfeackbhgmfbaaGreatDoorPLb
namespace Go.Lf
open Go.OB
def aKl (x:eU):Prop:=i64 x.At/\i64 x.N/\i64 x.Mark
def aVs (x:Series):Prop:=i64 x.Den/\okL (λx=>aKl x) x.Samples
def pI (x:gZ):Prop:=okS x.Name/\aVs x.Series/\i64 x.Long
def kws:List Str:=[[112,104,97,115,101],[109,111,118,101],[114,117,108,101],[105,102],[111,114],[97,110,100],[116,114,117,101],[102,97,108,115,101],[115,116,101,97,100,121],[110,111,116],[102,111,114],[119,105,116,104,105,110],[99,111,117,110,116],[111,102],[114,105,115,101,115],[115,105,110,99,101]]
theorem aQs (a b c:Int):Fan a b c=some (decide (b<=a)&&decide (a<=c)):=by
 unfold Fan;simp only [zG,wZ,zC]
theorem aZr (a b c:Int):Fbd a b c=some (decide (b<=a)&&decide (a<=c)):=by
 unfold Fbd;simp only [zG,wZ,zC]
theorem out5 (a b c:Int):Fbi a b c=some (decide (a<b)||decide (c<a)):=by
 unfold Fbi;simp only [zG,jL,zC]
theorem out6 (a b c:Int):Fas a b c=some (decide (a<b)||decide (c<a)):=by
 unfold Fas;simp only [zG,jL,zC]
def isW (s:Str):Bool:=decide (s∈kws)
theorem isWord_eq (s:Str):Fcr s=some (isW s):=by
 unfold Fcr isW kws;simp only [zG,aJb,zC,iteB_id,List.mem_cons,List.not_mem_nil,or_false,Bool.decide_or]
def nmB (c:Int):Bool:=(decide (97<=c)&&decide (c<=122))||(decide (48<=c)&&decide (c<=57))||decide (c=45)
theorem aTl (c:Int):Fcv c=some (nmB c):=by
 unfold Fcv nmB;simp only [zG];cases decide (97<=c)<;>cases decide (c<=122)<;>cases decide (48<=c)<;>cases decide (c<=57)<;>cases decide (c=45)<;>rfl
def aNm:Nat->UInt8->Bool:=λ_ c=> !nmB (c.toNat:Int)
theorem isName_L1 (s:Str) (a:okS s) (k:Unit->Option Bool):Ffo s k (s.length:Int) 0=if pU aNm s 0=true then some false else k ():=by
 unfold Ffo;rw [xA s (λi c=>if aNm i c=true then some (some false)else none) (k ()) a];exact uV aNm (some false) (k ()) s 0;intro b i c d hi;unfold aNm;simp only [zG];rw [yR hi,zT,aMk d,zC,aTl,zC];cases nmB (c.toNat:Int);rfl;simp only [Bool.not_true,zM];rw [fQ hi a];rfl;intro b;simp only [zG];rw [yS];rfl
def aFs (s:Str):Bool:=match s with
 | []=>false
 |c::_=>decide (97<=(c.toNat:Int))&&decide ((c.toNat:Int)<=122)
def aBh (s:Str):Bool:=decide (s.length<=30)&&aFs s&& !isW s&& !pU aNm s 0
theorem xZ (s:Str)(a:okS s):Fav s=some (aBh s):=by
 unfold Fav aBh;simp only [zG,zC,aQs,xK,isName_L1 s a,isWord_eq]
 cases s with
 |nil=>rfl
 |cons c l=>
  have b:byte' (c::l) 0=some (c.toNat:Int):=aMk (i:=0) rfl;have d:decide ((1:Int)<=((c::l).length:Int))=true:=dT (by simp;omega);have e:decide (((c::l).length:Int)<=30)=decide ((c::l).length<=30):=decide_eq_decide.2 (by omega);have f:decide ((c.toNat:Int)<97)= !decide (97<=(c.toNat:Int)):=by rw [<-decide_not];exact decide_eq_decide.2 (by omega)
  have h:decide (122<(c.toNat:Int))= !decide ((c.toNat:Int)<=122):=by rw [<-decide_not];exact decide_eq_decide.2 (by omega)
  rw [b,d,e];simp only [zC,Bool.true_and,f,h,aFs]
  cases decide ((c::l).length<=30)<;>cases decide (97<=(c.toNat:Int))<;>cases decide ((c.toNat:Int)<=122)<;>cases isW (c::l)<;>cases pU aNm (c::l) 0<;>rfl
theorem aSo (s:Str):Fc6 s=some (isW s):=by
 unfold Fc6 Ff3;simp only [zG,zC,xK];change Ffm s kws (λ_=>some false) 0=_;unfold Ffm;rw [xA kws (λ_ x=>if decide (x=s)=true then some (some true)else none) (some false) (by decide)]
 ·rw [uV (λ_ x=>decide (x=s))];have e:pU (λ_ x=>decide (x=s)) kws 0=isW s:=by
   rw [Bool.eq_iff_iff,aCi];unfold isW;simp only [decide_eq_true_eq];constructor
   ·rintro⟨j,x,h,rfl⟩;exact qS h
   ·intro h;obtain⟨j,a⟩:=List.getElem?_of_mem h;exact⟨j,s,a,rfl⟩
  rw [e];cases isW s<;>rfl
 ·intro b _ c d hi;simp only [zG];rw [yR hi,zT,yM d,zC]
  cases decide (c=s)
  ·simp only [zM];rw [fQ hi (by decide)];rfl
  ·rfl
 ·intro b;simp only [zG];rw [yS];rfl
def badR:Nat->UInt8->Bool:=λi c=> !((decide (97<=(c.toNat:Int))&&decide ((c.toNat:Int)<=122))||(decide (0<(i:Int))&&((decide (48<=(c.toNat:Int))&&decide ((c.toNat:Int)<=57))||decide ((c.toNat:Int)=45))))
theorem aZh (s:Str) (a:okS s) (k:Unit->Option Bool):Fgs s k 0=if pU badR s 0=true then some false else k ():=by
 unfold Fgs;rw [xA s (λi c=>if badR i c=true then some (some false)else none) (k ()) a];exact uV badR (some false) (k ()) s 0;intro b i c d hi;unfold badR;simp only [zG];rw [yR hi,zT,aMk d,zC];rw [fQ hi a];cases decide (97<=(c.toNat:Int))<;>cases decide ((c.toNat:Int)<=122)<;>cases decide (0<(i:Int))<;>cases decide (48<=(c.toNat:Int))<;>cases decide ((c.toNat:Int)<=57)<;>cases decide ((c.toNat:Int)=45)<;>rfl;intro b;simp only [zG];rw [yS];rfl
theorem jS (s:Str)(a:okS s):Fau s=some (aBh s):=by
 unfold Fau aBh;simp only [zG,zC,xK,aZh s a,aSo]
 cases s with
 |nil=>rfl
 |cons c l=>
  have b:decide (((c::l).length:Int)<=30)=decide ((c::l).length<=30):=decide_eq_decide.2 (by omega);have d:decide ((c::l)≠[])=true:=by simp
  have e:pU badR l (0+1)=pU aNm l (0+1):=aJr l (0+1) λj _ _=>by
   have:decide (0<((0+1+j:Nat):Int))=true:=dT (by omega);unfold badR aNm nmB;rw [this];simp only [Bool.true_and,Bool.or_assoc]
  rw [pU,pU,e,b,d];have f:badR 0 c= !(decide (97<=(c.toNat:Int))&&decide ((c.toNat:Int)<=122)):=by unfold badR;simp
  have h:aNm 0 c= !(aFs (c::l)||(decide (48<=(c.toNat:Int))&&decide ((c.toNat:Int)<=57))||decide ((c.toNat:Int)=45)):=rfl;have i:badR 0 c= !aFs (c::l):=f;rw [h,i]
  cases aFs (c::l)<;>cases pU aNm l (0+1)<;>cases decide ((c::l).length<=30)<;>cases isW (c::l)<;>simp [gU,gB]
def aQf (l:List eU)(i:Nat)(x:eU):Int:=
 if !(decide (0<=x.At)&&decide (x.At<=1099511627776))|| !(decide (-1125899906842624<=x.N)&&decide (x.N<=1125899906842624))|| !(decide (0<=x.Mark)&&decide (x.Mark<=4))then 9
 else if decide (x.N≠0)&&decide (x.Mark<=1)then 2
 else match i with
  |0=>0
  |j+1=>match l[j]? with
   |some y=>if decide (x.At<=y.At)then 10 else 0
   |none=>0
def serF (l:List eU)(fin:Option (Int×Int)):Option (Int×Int):=dZ (λi x=>if aQf l i x=0 then none else some (some ((i:Int),aQf l i x))) fin l 0
theorem aUt {l:List eU}{i:Nat}(hi:i<l.length)(b:l.length<=9223372036854775807)(c:0<i): ∃y,l[i-1]? =some y/\at' l (IntKind.i64.wrap ((i:Int)-1))=some y:=by
 have a:i-1<l.length:=by omega
 refine⟨l[i-1],gE a,?_⟩;rw [Go.OB.wrap_i64 (by omega) (by omega),show(i:Int)-1=((i-1:Nat):Int)by omega];exact yM (gE a)
theorem check_L1 (s:Series) (a:s.Samples.length<=9223372036854775807) (k:Unit->Option (Int×Int)):Ffn s k (s.Samples.length:Int) 0=serF s.Samples (k ()):=by
 unfold Ffn serF;refine xA s.Samples _ (k ()) a ?_ ?_
 ·intro c i x d hi;simp only [zG,aZr,zC];rw [yR hi,zT,yM d,zC,fQ hi a];unfold aQf
  cases decide (0<=x.At)<;>cases decide (x.At<=1099511627776)<;>simp only [Bool.and_true,Bool.and_false,Bool.not_true,Bool.not_false,Bool.true_or,Bool.false_or,zT,zM,zC,if_true]<;>try rfl
  cases decide (-1125899906842624<=x.N)<;>cases decide (x.N<=1125899906842624)<;>simp only [Bool.and_true,Bool.and_false,Bool.not_true,Bool.not_false,Bool.true_or,Bool.false_or,zT,zM,zC,if_true]<;>try rfl
  cases decide (0<=x.Mark)<;>cases decide (x.Mark<=4)<;>simp only [Bool.and_true,Bool.and_false,Bool.not_true,Bool.not_false,zT,zM,if_true,Bool.false_eq_true,if_false]<;>try rfl
  cases decide (x.N≠0)<;>cases decide (x.Mark<=1)<;>simp only [Bool.and_true,Bool.and_false,zT,zM,zC,if_true,Bool.false_eq_true,if_false]<;>try rfl
  all_goals
   cases i with
   |zero=>rfl
   |succ j=>
    obtain⟨y,b,e⟩:=aUt hi a (by omega);have f:decide (0<((j+1:Nat):Int))=true:=dT (by omega);rw [e,f];simp only [Nat.add_sub_cancel]at b;simp only [zT,zC,b]
    cases decide (x.At<=y.At)<;>rfl
 ·intro c;simp only [zG];rw [yS];rfl
theorem aFh (a b c:Int):(decide (a<b)||decide (c<a))= !(decide (b<=a)&&decide (a<=c)):=by
 by_cases d:b<=a<;>by_cases e:a<=c<;>simp [d,e]<;>omega
theorem aJy (x:eU):Fee x=some (if !(decide (0<=x.At)&&decide (x.At<=1099511627776))|| !(decide (-1125899906842624<=x.N)&&decide (x.N<=1125899906842624))|| !(decide (0<=x.Mark)&&decide (x.Mark<=4))then 9
    else if decide (x.N≠0)&&decide (x.Mark<=1)then 2 else 0):=by
 unfold Fee Fgx;simp only [zG,zC,out5,aFh,jL,wZ];have h:(!decide (2<=x.Mark))=decide (x.Mark<=1):=by rw [<-decide_not];exact decide_eq_decide.2 (by omega)
 rw [h];cases(!(decide (0<=x.At)&&decide (x.At<=1099511627776)))<;>cases(!(decide (-1125899906842624<=x.N)&&decide (x.N<=1125899906842624)))<;>cases(!(decide (0<=x.Mark)&&decide (x.Mark<=4)))<;>cases decide (x.N≠0)<;>cases decide (x.Mark<=1)<;>rfl
theorem fault_L1 (s:Series) (a:s.Samples.length<=9223372036854775807) (k:Unit->Option (Int×Int)):Fgi s k 0=serF s.Samples (k ()):=by
 unfold Fgi serF;refine xA s.Samples _ (k ()) a ?_ ?_
 ·intro c i x d hi;simp only [zG,aJy,zC];rw [yR hi,zT,yM d,zC,fQ hi a];unfold aQf
  cases(!(decide (0<=x.At)&&decide (x.At<=1099511627776))|| !(decide (-1125899906842624<=x.N)&&decide (x.N<=1125899906842624))|| !(decide (0<=x.Mark)&&decide (x.Mark<=4)))
  ·cases(decide (x.N≠0)&&decide (x.Mark<=1))
   ·cases i with
    |zero=>rfl
    |succ j=>
     obtain⟨y,b,e⟩:=aUt hi a (by omega);have f:decide (0<((j+1:Nat):Int))=true:=dT (by omega);rw [e,f];simp only [Nat.add_sub_cancel]at b;simp only [zT,zC,b,Bool.false_eq_true,if_false]
     cases decide (x.At<=y.At)<;>rfl
   ·rfl
  ·rfl
 ·intro c;simp only [zG];rw [yS];rfl
def aTw (s:Series):Option (Int×Int):=if !(decide (1<=s.Den)&&decide (s.Den<=1000000))then some (-1,9)else if decide (20000<(s.Samples.length:Int))then some (-1,3)else serF s.Samples (some (-1,0))
theorem check_eq (s:Series)(a:s.Samples.length<=9223372036854775807):Fem s=aTw s:=by
 unfold Fem aTw;simp only [zG,zC,aZr,xK,check_L1 s a,nR]
theorem fault_eq (s:Series)(a:s.Samples.length<=9223372036854775807):Fec s=aTw s:=by
 unfold Fec aTw;simp only [zG,zC,out5,aFh,xK,fault_L1 s a,nR]
theorem aEe {a β:Type}{q:Nat->a->Option (Option β)}{fin:Option β}(b: ∃r,fin=some r)(c: ∀i x r,q i x=some r-> ∃y,r=some y): ∀(l:List a) (i:Nat),∃r,dZ q fin l i=some r
 | [],i=>b
 |x::l,i=>by
  rw [dZ]
  cases h:q i x with
  |none=>exact aEe b c l (i+1)
  |some r=>exact c i x r h
theorem aTm {β:Type}{p:Prop} [Decidable p] {y:β}{r:Option β}(h:(if p then none else some (some y))=some r): ∃z,r=some z:=by
 split at h;cases h;cases h;exact⟨_,rfl⟩
theorem aGu (s:Series): ∃r,aTw s=some r:=by
 unfold aTw serF;split;exact⟨_,rfl⟩;split;exact⟨_,rfl⟩;exact aEe ⟨_,rfl⟩ (λ_ _ r h=>aTm h) _ _
def aEm (s:Series):Int:=((aTw s).getD (0,0)).2
theorem sCheck_eq (s:Series)(a:s.Samples.length<=9223372036854775807):Feh s=some (aEm s):=by
 obtain⟨_,b⟩:=aGu s;unfold Feh aEm;rw [check_eq s a,b];rfl
theorem rSer_eq (s:Series)(a:s.Samples.length<=9223372036854775807):Fel s=some (aEm s):=by
 obtain⟨_,b⟩:=aGu s;unfold Fel aEm;rw [fault_eq s a,b];rfl
theorem aQe {a:Type}(p:Nat->a->Bool): ∀(l:List a) (i:Nat),∃n,dZ (λi x=>if p i x=true then some (some (i:Int))else none) (some (-1)) l i=some n/\decide (0<=n)=pU p l i
 | [],i=>⟨-1,rfl,rfl⟩
 |x::l,i=>by
  rw [dZ,pU]
  cases h:p i x with
  |true=>exact⟨i,rfl,by simp⟩
  |false=>simpa using aQe p l (i+1)
theorem contT_eq (l:List gZ) (c:gZ) (a:l.length<=9223372036854775807):Fc9 l c=some (pU (λ_ y=>decide (y.Name=c.Name)) l 0):=by
 obtain⟨n,b,d⟩:=aQe (λ(_:Nat) (y:gZ)=>decide (y.Name=c.Name)) l 0;have e:Fdp l c=some n:=by
  unfold Fdp;simp only [zG,xK];unfold Fic;rw [<-b];refine xA l _ _ a ?_ ?_
  ·intro f _ x h hi;unfold Ffx;simp only [zG,zC];rw [yR hi,zT,yM h,zC,fQ hi a]
   cases decide (x.Name=c.Name)<;>rfl
  ·intro f;simp only [zG];rw [yS];rfl
 unfold Fc9;rw [e];simp only [zG,zC,d]
def aTj (l:List gZ)(i:Nat)(x:gZ):Int:=
 if !aBh x.Name then 8 else if pU (λ_ y=>decide (y.Name=x.Name)) (l.take i) 0 then 5
 else if aEm x.Series≠0 then aEm x.Series else if !(decide (0<=x.Long)&&decide (x.Long<=1099511627776))then 9 else 0
def aQj (l:List gZ):Option Int:=if decide (50<(l.length:Int))then some 3 else dZ (λi x=>if aTj l i x=0 then none else some (some (aTj l i x))) (some 0) l 0
theorem aKo {l:List gZ}(h:okL pI l){i:Nat}{x:gZ}(a:l[i]? =some x):okS x.Name/\x.Series.Samples.length<=9223372036854775807:=by
 have:=h.2 x (qS a);exact⟨this.1,this.2.1.2.1⟩
theorem aKu (l:List gZ) (h:okL pI l):Fdz l=aQj l:=by
 unfold Fdz aQj;simp only [zG,xK,nR];congr 1;unfold Fhg;refine xA l _ _ h.1 ?_ ?_;intro c i x a hi;obtain⟨d,e⟩:=aKo h a;simp only [zG];rw [yR hi,zT,yM a,zC,xZ _ d,zC,bCh l (by omega),fQ hi h.1];simp only [zC,contT_eq (l.take i) x (by have:=h.1;simp;omega),sCheck_eq _ e,aQs];unfold aTj;cases aBh x.Name;rfl;cases pU (λ_ y=>decide (y.Name=x.Name)) (l.take i) 0;simp only [Bool.not_true,Bool.false_eq_true,if_false,nR];by_cases b:aEm x.Series=0;cases(decide (0<=x.Long)&&decide (x.Long<=1099511627776))<;>simp [b];simp [b];rfl;intro c;simp only [zG];rw [yS];rfl
theorem aWm (l:List gZ) (d:l.length<=9223372036854775807) {i:Nat}{x:gZ} (f:l[i]? =some x) (k:Unit->Option Int):Fgq l (i:Int) k 0=if pU (λ_ y=>decide (y.Name=x.Name)) (l.take i) 0=true then some 5 else k ():=by
 have hi:=(gS.1 f).1;have b:(l.take i).length=i:=by rw [List.length_take];exact Nat.min_eq_left (Nat.le_of_lt hi)
 have hm:(l.take i).length<=9223372036854775807:=by rw [b];exact Nat.le_trans (Nat.le_of_lt hi) d
 have e:=uV (λ_ y=>decide (y.Name=x.Name)) (some 5) (k ()) (l.take i) 0;rw [<-e];unfold Fgq;refine xA (l.take i) _ (k ()) hm ?_ ?_;intro o j y h a;rw [b]at a;have c:l[j]? =some y:=by rw [List.getElem?_take,if_pos a]at h;exact h
 simp only [zG];rw [yR a,zT,yM c,zC,yM f,zC,fQ (n:=l.length) (Nat.lt_trans a hi) d];cases decide (y.Name=x.Name);rfl;rfl;intro o;rw [b];simp only [zG,yS,zM]
theorem aIj (l:List gZ) (h:okL pI l):Fc3 l=aQj l:=by
 unfold Fc3 aQj;simp only [zG,xK,nR];congr 1;unfold Fiu;refine xA l _ _ h.1 ?_ ?_;intro c i x a hi;obtain⟨d,e⟩:=aKo h a;simp only [zG,xK];rw [yR hi,zT,yM a,zC,jS _ d,zC,aWm l h.1 a,fQ hi h.1];simp only [zC,rSer_eq _ e,out6,aFh];unfold aTj;cases aBh x.Name;rfl;cases pU (λ_ y=>decide (y.Name=x.Name)) (l.take i) 0;simp only [Bool.not_true,Bool.false_eq_true,if_false,nR];by_cases b:aEm x.Series=0;cases(decide (0<=x.Long)&&decide (x.Long<=1099511627776))<;>simp [b];simp [b];rfl;intro c;simp only [zG];rw [yS];rfl
theorem trkF_some (l:List gZ): ∃r,aQj l=some r:=by
 unfold aQj;split;exact⟨_,rfl⟩;exact aEe ⟨_,rfl⟩ (λ_ _ r h=>aTm h) _ _
def aMv (l:List gZ):Int:=(aQj l).getD 0
theorem aPt (l:List gZ):aQj l=some (aMv l):=by obtain⟨_,h⟩:=trkF_some l;unfold aMv;rw [h];rfl
theorem aKe {b:Type} (e:Nat->b->Int): ∀(l:List b) (i:Nat),dZ (λi x=>if e i x=0 then none else some (some (e i x))) (some 0) l i=some 0↔ ∀j x,l[j]? =some x->e (i+j) x=0
 | [],i=>by simp [dZ]
 |x::l,i=>by
  rw [dZ]
  by_cases h:e i x=0
  ·rw [if_pos h];refine(aKe e l (i+1)).trans ?_;constructor
   ·intro q j y a
    cases j with
    |zero=>simp at a;subst a;simpa using h
    |succ j=>have:=q j y (by simpa using a);rwa [show i+(j+1)=i+1+j by omega]
   ·intro q j y a;have:=q (j+1) y (by simpa using a);rwa [show i+(j+1)=i+1+j by omega]at this
  ·rw [if_neg h];constructor
   ·intro q;exact absurd (oI q) h
   ·intro q;exact absurd (by simpa using q 0 x rfl) h
theorem aRf (l:List gZ):aMv l=0↔l.length<=50/\ ∀i x,l[i]? =some x->aTj l i x=0:=by
 have e:=aPt l;unfold aQj at e;split at e;rename_i h;simp only [decide_eq_true_eq]at h;have:=oI e;constructor;intro a;omega;intro a;omega;rename_i h;simp only [decide_eq_true_eq]at h;have f:=aKe (aTj l) l 0;simp only [Nat.zero_add]at f;rw [e]at f;constructor;intro a;exact⟨by omega,f.1 (by rw [a])⟩;rintro⟨_,a⟩;exact oI (f.2 a)
theorem aTn (l:List gZ) (i:Nat) (x:gZ):aTj l i x=0↔aBh x.Name=true/\pU (λ_ y=>decide (y.Name=x.Name)) (l.take i) 0=false/\aEm x.Series=0/\0<=x.Long/\x.Long<=1099511627776:=by
 unfold aTj;cases aBh x.Name;simp;cases pU (λ_ y=>decide (y.Name=x.Name)) (l.take i) 0;by_cases a:aEm x.Series=0;simp [a];simp [a];simp
theorem aOu (e:Nat->eU->Int): ∀(l:List eU) (i:Nat) (r:Int×Int),dZ (λi x=>if e i x=0 then none else some (some ((i:Int),e i x))) (some (-1,0)) l i=some r->(r.2=0↔ ∀j x,l[j]? =some x->e (i+j) x=0)
 | [],i,r,h=>by cases h;simp
 |x::l,i,r,h=>by
  rw [dZ]at h
  by_cases a:e i x=0
  ·rw [if_pos a]at h;refine(aOu e l (i+1) r h).trans ?_;constructor
   ·intro q j y b
    cases j with
    |zero=>simp at b;subst b;simpa using a
    |succ j=>have:=q j y (by simpa using b);rwa [show i+(j+1)=i+1+j by omega]
   ·intro q j y b;have:=q (j+1) y (by simpa using b);rwa [show i+(j+1)=i+1+j by omega]at this
  ·rw [if_neg a]at h;have c:=oI h;subst c;constructor
   ·intro q;exact absurd q a
   ·intro q;exact absurd (by simpa using q 0 x rfl) a
theorem aZt (s:Series):aEm s=0↔(1<=s.Den/\s.Den<=1000000)/\s.Samples.length<=20000/\ ∀i x,s.Samples[i]? =some x->aQf s.Samples i x=0:=by
 obtain⟨r,a⟩:=aGu s;have e:aEm s=r.2:=by unfold aEm;rw [a];rfl
 rw [e];unfold aTw at a;split at a;rename_i h;cases a;simp only [Bool.not_eq_true',Bool.and_eq_false_iff,decide_eq_false_iff_not]at h;constructor;intro b;cases b;rintro⟨d,_⟩;omega;rename_i h;simp only [Bool.not_eq_true',Bool.and_eq_false_iff,decide_eq_false_iff_not]at h;split at a;rename_i c;simp only [decide_eq_true_eq]at c;cases a;constructor;intro b;cases b;rintro⟨_,d,_⟩;omega;rename_i c;simp only [decide_eq_true_eq]at c;have:=aOu (aQf s.Samples) s.Samples 0 r a;simp only [Nat.zero_add]at this;rw [this];constructor;intro q;exact⟨by omega,by omega,q⟩;intro q;exact q.2.2
theorem names_ne {l:List gZ}(h:aMv l=0){i j:Nat}{x y:gZ}(b:l[i]? =some x)(c:l[j]? =some y)(a:i<j):x.Name≠y.Name:=by
 have:=((aTn l j y).1 (((aRf l).1 h).2 j y c)).2.1;intro e;have t:pU (λ_ z=>decide (z.Name=y.Name)) (l.take j) 0=true:=(aCi _ _ _).2 ⟨i,x,by rw [List.getElem?_take,if_pos a];exact b,by simpa using e⟩;rw [this]at t;cases t
end Go.Lf
