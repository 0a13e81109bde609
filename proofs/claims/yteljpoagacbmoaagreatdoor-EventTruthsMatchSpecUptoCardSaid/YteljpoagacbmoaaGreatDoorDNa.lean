/- Laws that the claim stands on; no condition beyond those stated. -/
import Derived.Test.YteljpoagacbmoaaGreatDoorUP
import Derived.Test.YteljpoagacbmoaaGreatDoorPLb
namespace Go.Lf
open Go.OB
def aJm (x:dC):Prop:=i64 x.At/\i64 x.N/\i64 x.Mark
def aUt (x:Series):Prop:=i64 x.Den/\okL (λx=>aJm x) x.Samples
def rH (x:fA):Prop:=okS x.Name/\aUt x.Series/\i64 x.Long
def kws:List Str:=[[112,104,97,115,101],[109,111,118,101],[114,117,108,101],[105,102],[111,114],[97,110,100],[116,114,117,101],[102,97,108,115,101],[115,116,101,97,100,121],[110,111,116],[102,111,114],[119,105,116,104,105,110],[99,111,117,110,116],[111,102],[114,105,115,101,115],[115,105,110,99,101]]
theorem aQv (a b c:Int):Fan a b c=some (decide (b<=a)&&decide (a<=c)):=by
 unfold Fan;simp only [zI,wY,zC]
theorem bBk (a b c:Int):Fbi a b c=some (decide (b<=a)&&decide (a<=c)):=by
 unfold Fbi;simp only [zI,wY,zC]
theorem out5 (a b c:Int):Fbh a b c=some (decide (a<b)||decide (c<a)):=by
 unfold Fbh;simp only [zI,jK,zC]
theorem out6 (a b c:Int):Fas a b c=some (decide (a<b)||decide (c<a)):=by
 unfold Fas;simp only [zI,jK,zC]
def isW (s:Str):Bool:=decide (s∈kws)
theorem isWord_eq (s:Str):Fbz s=some (isW s):=by
 unfold Fbz isW kws;simp only [zI,aIj,zC,iteB_id,List.mem_cons,List.not_mem_nil,or_false,Bool.decide_or]
def nmB (c:Int):Bool:=(decide (97<=c)&&decide (c<=122))||(decide (48<=c)&&decide (c<=57))||decide (c=45)
theorem aSo (c:Int):Fcd c=some (nmB c):=by
 unfold Fcd nmB;simp only [zI];cases decide (97<=c)<;>cases decide (c<=122)<;>cases decide (48<=c)<;>cases decide (c<=57)<;>cases decide (c=45)<;>rfl
def aNa:Nat->UInt8->Bool:=λ_ c=> !nmB (c.toNat:Int)
theorem isName_L1 (s:Str) (a:okS s) (k:Unit->Option Bool):Fe6 s k (s.length:Int) 0=if pO aNa s 0=true then some false else k ():=by
 unfold Fe6;rw [xJ s (λi c=>if aNa i c=true then some (some false)else none) (k ()) a];exact uM aNa (some false) (k ()) s 0;intro b i c d hi;unfold aNa;simp only [zI];rw [xB hi,zV,aKo d,zC,aSo,zC];cases nmB (c.toNat:Int);rfl;simp only [Bool.not_true,zQ];rw [eY hi a];rfl;intro b;simp only [zI];rw [xC];rfl
def aFq (s:Str):Bool:=match s with
 | []=>false
 |c::_=>decide (97<=(c.toNat:Int))&&decide ((c.toNat:Int)<=122)
def aBe (s:Str):Bool:=decide (s.length<=30)&&aFq s&& !isW s&& !pO aNa s 0
theorem wZ (s:Str)(a:okS s):Fap s=some (aBe s):=by
 unfold Fap aBe;simp only [zI,zC,aQv,xU,isName_L1 s a,isWord_eq]
 cases s with
 |nil=>rfl
 |cons c l=>
  have b:byte' (c::l) 0=some (c.toNat:Int):=aKo (i:=0) rfl;have d:decide ((1:Int)<=((c::l).length:Int))=true:=dT (by simp;omega);have e:decide (((c::l).length:Int)<=30)=decide ((c::l).length<=30):=decide_eq_decide.2 (by omega);have f:decide ((c.toNat:Int)<97)= !decide (97<=(c.toNat:Int)):=by rw [<-decide_not];exact decide_eq_decide.2 (by omega)
  have h:decide (122<(c.toNat:Int))= !decide ((c.toNat:Int)<=122):=by rw [<-decide_not];exact decide_eq_decide.2 (by omega)
  rw [b,d,e];simp only [zC,Bool.true_and,f,h,aFq]
  cases decide ((c::l).length<=30)<;>cases decide (97<=(c.toNat:Int))<;>cases decide ((c.toNat:Int)<=122)<;>cases isW (c::l)<;>cases pO aNa (c::l) 0<;>rfl
theorem aUe (s:Str):Fd3 s=some (isW s):=by
 unfold Fd3 Few;simp only [zI,zC,xU];change Fev s kws (λ_=>some false) 0=_;unfold Fev;rw [xJ kws (λ_ x=>if decide (x=s)=true then some (some true)else none) (some false) (by decide)]
 ·rw [uM (λ_ x=>decide (x=s))];have e:pO (λ_ x=>decide (x=s)) kws 0=isW s:=by
   rw [Bool.eq_iff_iff,aBq];unfold isW;simp only [decide_eq_true_eq];constructor
   ·rintro⟨j,x,h,rfl⟩;exact qS h
   ·intro h;obtain⟨j,a⟩:=List.getElem?_of_mem h;exact⟨j,s,a,rfl⟩
  rw [e];cases isW s<;>rfl
 ·intro b _ c d hi;simp only [zI];rw [xB hi,zV,xG d,zC]
  cases decide (c=s)
  ·simp only [zQ];rw [eY hi (by decide)];rfl
  ·rfl
 ·intro b;simp only [zI];rw [xC];rfl
def badR:Nat->UInt8->Bool:=λi c=> !((decide (97<=(c.toNat:Int))&&decide ((c.toNat:Int)<=122))||(decide (0<(i:Int))&&((decide (48<=(c.toNat:Int))&&decide ((c.toNat:Int)<=57))||decide ((c.toNat:Int)=45))))
theorem aYk (s:Str) (a:okS s) (k:Unit->Option Bool):Ffz s k 0=if pO badR s 0=true then some false else k ():=by
 unfold Ffz;rw [xJ s (λi c=>if badR i c=true then some (some false)else none) (k ()) a];exact uM badR (some false) (k ()) s 0;intro b i c d hi;unfold badR;simp only [zI];rw [xB hi,zV,aKo d,zC];rw [eY hi a];cases decide (97<=(c.toNat:Int))<;>cases decide ((c.toNat:Int)<=122)<;>cases decide (0<(i:Int))<;>cases decide (48<=(c.toNat:Int))<;>cases decide ((c.toNat:Int)<=57)<;>cases decide ((c.toNat:Int)=45)<;>rfl;intro b;simp only [zI];rw [xC];rfl
theorem jP (s:Str)(a:okS s):Fat s=some (aBe s):=by
 unfold Fat aBe;simp only [zI,zC,xU,aYk s a,aUe]
 cases s with
 |nil=>rfl
 |cons c l=>
  have b:decide (((c::l).length:Int)<=30)=decide ((c::l).length<=30):=decide_eq_decide.2 (by omega);have d:decide ((c::l)≠[])=true:=by simp
  have e:pO badR l (0+1)=pO aNa l (0+1):=aJz l (0+1) λj _ _=>by
   have:decide (0<((0+1+j:Nat):Int))=true:=dT (by omega);unfold badR aNa nmB;rw [this];simp only [Bool.true_and,Bool.or_assoc]
  rw [pO,pO,e,b,d];have f:badR 0 c= !(decide (97<=(c.toNat:Int))&&decide ((c.toNat:Int)<=122)):=by unfold badR;simp
  have h:aNa 0 c= !(aFq (c::l)||(decide (48<=(c.toNat:Int))&&decide ((c.toNat:Int)<=57))||decide ((c.toNat:Int)=45)):=rfl;have i:badR 0 c= !aFq (c::l):=f;rw [h,i]
  cases aFq (c::l)<;>cases pO aNa l (0+1)<;>cases decide ((c::l).length<=30)<;>cases isW (c::l)<;>simp [gQ,gB]
def aQg (l:List dC)(i:Nat)(x:dC):Int:=
 if !(decide (0<=x.At)&&decide (x.At<=1099511627776))|| !(decide (-1125899906842624<=x.N)&&decide (x.N<=1125899906842624))|| !(decide (0<=x.Mark)&&decide (x.Mark<=4))then 9
 else if decide (x.N≠0)&&decide (x.Mark<=1)then 2
 else match i with
  |0=>0
  |j+1=>match l[j]? with
   |some y=>if decide (x.At<=y.At)then 10 else 0
   |none=>0
def serF (l:List dC)(fin:Option (Int×Int)):Option (Int×Int):=bC (λi x=>if aQg l i x=0 then none else some (some ((i:Int),aQg l i x))) fin l 0
theorem aVh {l:List dC}{i:Nat}(hi:i<l.length)(b:l.length<=9223372036854775807)(c:0<i): ∃y,l[i-1]? =some y/\at' l (IntKind.i64.wrap ((i:Int)-1))=some y:=by
 have a:i-1<l.length:=by omega
 refine⟨l[i-1],gE a,?_⟩;rw [Go.OB.wrap_i64 (by omega) (by omega),show(i:Int)-1=((i-1:Nat):Int)by omega];exact xG (gE a)
theorem check_L1 (s:Series) (a:s.Samples.length<=9223372036854775807) (k:Unit->Option (Int×Int)):Ffy s k (s.Samples.length:Int) 0=serF s.Samples (k ()):=by
 unfold Ffy serF;refine xJ s.Samples _ (k ()) a ?_ ?_
 ·intro c i x d hi;simp only [zI,bBk,zC];rw [xB hi,zV,xG d,zC,eY hi a];unfold aQg
  cases decide (0<=x.At)<;>cases decide (x.At<=1099511627776)<;>simp only [Bool.and_true,Bool.and_false,Bool.not_true,Bool.not_false,Bool.true_or,Bool.false_or,zV,zQ,zC,if_true]<;>try rfl
  cases decide (-1125899906842624<=x.N)<;>cases decide (x.N<=1125899906842624)<;>simp only [Bool.and_true,Bool.and_false,Bool.not_true,Bool.not_false,Bool.true_or,Bool.false_or,zV,zQ,zC,if_true]<;>try rfl
  cases decide (0<=x.Mark)<;>cases decide (x.Mark<=4)<;>simp only [Bool.and_true,Bool.and_false,Bool.not_true,Bool.not_false,zV,zQ,if_true,Bool.false_eq_true,if_false]<;>try rfl
  cases decide (x.N≠0)<;>cases decide (x.Mark<=1)<;>simp only [Bool.and_true,Bool.and_false,zV,zQ,zC,if_true,Bool.false_eq_true,if_false]<;>try rfl
  all_goals
   cases i with
   |zero=>rfl
   |succ j=>
    obtain⟨y,b,e⟩:=aVh hi a (by omega);have f:decide (0<((j+1:Nat):Int))=true:=dT (by omega);rw [e,f];simp only [Nat.add_sub_cancel]at b;simp only [zV,zC,b]
    cases decide (x.At<=y.At)<;>rfl
 ·intro c;simp only [zI];rw [xC];rfl
theorem aEl (a b c:Int):(decide (a<b)||decide (c<a))= !(decide (b<=a)&&decide (a<=c)):=by
 by_cases d:b<=a<;>by_cases e:a<=c<;>simp [d,e]<;>omega
theorem aKh (x:dC):Fc2 x=some (if !(decide (0<=x.At)&&decide (x.At<=1099511627776))|| !(decide (-1125899906842624<=x.N)&&decide (x.N<=1125899906842624))|| !(decide (0<=x.Mark)&&decide (x.Mark<=4))then 9
    else if decide (x.N≠0)&&decide (x.Mark<=1)then 2 else 0):=by
 unfold Fc2 Fgb;simp only [zI,zC,out5,aEl,jK,wY];have h:(!decide (2<=x.Mark))=decide (x.Mark<=1):=by rw [<-decide_not];exact decide_eq_decide.2 (by omega)
 rw [h];cases(!(decide (0<=x.At)&&decide (x.At<=1099511627776)))<;>cases(!(decide (-1125899906842624<=x.N)&&decide (x.N<=1125899906842624)))<;>cases(!(decide (0<=x.Mark)&&decide (x.Mark<=4)))<;>cases decide (x.N≠0)<;>cases decide (x.Mark<=1)<;>rfl
theorem fault_L1 (s:Series) (a:s.Samples.length<=9223372036854775807) (k:Unit->Option (Int×Int)):Ff1 s k 0=serF s.Samples (k ()):=by
 unfold Ff1 serF;refine xJ s.Samples _ (k ()) a ?_ ?_
 ·intro c i x d hi;simp only [zI,aKh,zC];rw [xB hi,zV,xG d,zC,eY hi a];unfold aQg
  cases(!(decide (0<=x.At)&&decide (x.At<=1099511627776))|| !(decide (-1125899906842624<=x.N)&&decide (x.N<=1125899906842624))|| !(decide (0<=x.Mark)&&decide (x.Mark<=4)))
  ·cases(decide (x.N≠0)&&decide (x.Mark<=1))
   ·cases i with
    |zero=>rfl
    |succ j=>
     obtain⟨y,b,e⟩:=aVh hi a (by omega);have f:decide (0<((j+1:Nat):Int))=true:=dT (by omega);rw [e,f];simp only [Nat.add_sub_cancel]at b;simp only [zV,zC,b,Bool.false_eq_true,if_false]
     cases decide (x.At<=y.At)<;>rfl
   ·rfl
  ·rfl
 ·intro c;simp only [zI];rw [xC];rfl
def aTv (s:Series):Option (Int×Int):=if !(decide (1<=s.Den)&&decide (s.Den<=1000000))then some (-1,9)else if decide (20000<(s.Samples.length:Int))then some (-1,3)else serF s.Samples (some (-1,0))
theorem check_eq (s:Series)(a:s.Samples.length<=9223372036854775807):Fc3 s=aTv s:=by
 unfold Fc3 aTv;simp only [zI,zC,bBk,xU,check_L1 s a,nO]
theorem fault_eq (s:Series)(a:s.Samples.length<=9223372036854775807):Fcw s=aTv s:=by
 unfold Fcw aTv;simp only [zI,zC,out5,aEl,xU,fault_L1 s a,nO]
theorem aDq {a β:Type}{q:Nat->a->Option (Option β)}{fin:Option β}(b: ∃r,fin=some r)(c: ∀i x r,q i x=some r-> ∃y,r=some y): ∀(l:List a) (i:Nat),∃r,bC q fin l i=some r
 | [],i=>b
 |x::l,i=>by
  rw [bC]
  cases h:q i x with
  |none=>exact aDq b c l (i+1)
  |some r=>exact c i x r h
theorem aSi {β:Type}{p:Prop} [Decidable p] {y:β}{r:Option β}(h:(if p then none else some (some y))=some r): ∃z,r=some z:=by
 split at h;cases h;cases h;exact⟨_,rfl⟩
theorem aGq (s:Series): ∃r,aTv s=some r:=by
 unfold aTv serF;split;exact⟨_,rfl⟩;split;exact⟨_,rfl⟩;exact aDq ⟨_,rfl⟩ (λ_ _ r h=>aSi h) _ _
def aDs (s:Series):Int:=((aTv s).getD (0,0)).2
theorem sCheck_eq (s:Series)(a:s.Samples.length<=9223372036854775807):Fcu s=some (aDs s):=by
 obtain⟨_,b⟩:=aGq s;unfold Fcu aDs;rw [check_eq s a,b];rfl
theorem rSer_eq (s:Series)(a:s.Samples.length<=9223372036854775807):Fc6 s=some (aDs s):=by
 obtain⟨_,b⟩:=aGq s;unfold Fc6 aDs;rw [fault_eq s a,b];rfl
theorem aPy {a:Type}(p:Nat->a->Bool): ∀(l:List a) (i:Nat),∃n,bC (λi x=>if p i x=true then some (some (i:Int))else none) (some (-1)) l i=some n/\decide (0<=n)=pO p l i
 | [],i=>⟨-1,rfl,rfl⟩
 |x::l,i=>by
  rw [bC,pO]
  cases h:p i x with
  |true=>exact⟨i,rfl,by simp⟩
  |false=>simpa using aPy p l (i+1)
theorem contT_eq (l:List fA) (c:fA) (a:l.length<=9223372036854775807):Fdy l c=some (pO (λ_ y=>decide (y.Name=c.Name)) l 0):=by
 obtain⟨n,b,d⟩:=aPy (λ(_:Nat) (y:fA)=>decide (y.Name=c.Name)) l 0;have e:Fdc l c=some n:=by
  unfold Fdc;simp only [zI,xU];unfold Fhk;rw [<-b];refine xJ l _ _ a ?_ ?_
  ·intro f _ x h hi;unfold Ffq;simp only [zI,zC];rw [xB hi,zV,xG h,zC,eY hi a]
   cases decide (x.Name=c.Name)<;>rfl
  ·intro f;simp only [zI];rw [xC];rfl
 unfold Fdy;rw [e];simp only [zI,zC,d]
def aVg (l:List fA)(i:Nat)(x:fA):Int:=
 if !aBe x.Name then 8 else if pO (λ_ y=>decide (y.Name=x.Name)) (l.take i) 0 then 5
 else if aDs x.Series≠0 then aDs x.Series else if !(decide (0<=x.Long)&&decide (x.Long<=1099511627776))then 9 else 0
def aRt (l:List fA):Option Int:=if decide (50<(l.length:Int))then some 3 else bC (λi x=>if aVg l i x=0 then none else some (some (aVg l i x))) (some 0) l 0
theorem aJs {l:List fA}(h:okL rH l){i:Nat}{x:fA}(a:l[i]? =some x):okS x.Name/\x.Series.Samples.length<=9223372036854775807:=by
 have:=h.2 x (qS a);exact⟨this.1,this.2.1.2.1⟩
theorem aLt (l:List fA) (h:okL rH l):Fcz l=aRt l:=by
 unfold Fcz aRt;simp only [zI,xU,nO];congr 1;unfold Fgq;refine xJ l _ _ h.1 ?_ ?_;intro c i x a hi;obtain⟨d,e⟩:=aJs h a;simp only [zI];rw [xB hi,zV,xG a,zC,wZ _ d,zC,aYz l (by omega),eY hi h.1];simp only [zC,contT_eq (l.take i) x (by have:=h.1;simp;omega),sCheck_eq _ e,aQv];unfold aVg;cases aBe x.Name;rfl;cases pO (λ_ y=>decide (y.Name=x.Name)) (l.take i) 0;simp only [Bool.not_true,Bool.false_eq_true,if_false,nO];by_cases b:aDs x.Series=0;cases(decide (0<=x.Long)&&decide (x.Long<=1099511627776))<;>simp [b];simp [b];rfl;intro c;simp only [zI];rw [xC];rfl
theorem aXz (l:List fA) (d:l.length<=9223372036854775807) {i:Nat}{x:fA} (f:l[i]? =some x) (k:Unit->Option Int):Ffs l (i:Int) k 0=if pO (λ_ y=>decide (y.Name=x.Name)) (l.take i) 0=true then some 5 else k ():=by
 have hi:=(gS.1 f).1;have b:(l.take i).length=i:=by rw [List.length_take];exact Nat.min_eq_left (Nat.le_of_lt hi)
 have hm:(l.take i).length<=9223372036854775807:=by rw [b];exact Nat.le_trans (Nat.le_of_lt hi) d
 have e:=uM (λ_ y=>decide (y.Name=x.Name)) (some 5) (k ()) (l.take i) 0;rw [<-e];unfold Ffs;refine xJ (l.take i) _ (k ()) hm ?_ ?_;intro o j y h a;rw [b]at a;have c:l[j]? =some y:=by rw [List.getElem?_take,if_pos a]at h;exact h
 simp only [zI];rw [xB a,zV,xG c,zC,xG f,zC,eY (n:=l.length) (Nat.lt_trans a hi) d];cases decide (y.Name=x.Name);rfl;rfl;intro o;rw [b];simp only [zI,xC,zQ]
theorem aHx (l:List fA) (h:okL rH l):Fdm l=aRt l:=by
 unfold Fdm aRt;simp only [zI,xU,nO];congr 1;unfold Fg2;refine xJ l _ _ h.1 ?_ ?_;intro c i x a hi;obtain⟨d,e⟩:=aJs h a;simp only [zI,xU];rw [xB hi,zV,xG a,zC,jP _ d,zC,aXz l h.1 a,eY hi h.1];simp only [zC,rSer_eq _ e,out6,aEl];unfold aVg;cases aBe x.Name;rfl;cases pO (λ_ y=>decide (y.Name=x.Name)) (l.take i) 0;simp only [Bool.not_true,Bool.false_eq_true,if_false,nO];by_cases b:aDs x.Series=0;cases(decide (0<=x.Long)&&decide (x.Long<=1099511627776))<;>simp [b];simp [b];rfl;intro c;simp only [zI];rw [xC];rfl
theorem trkF_some (l:List fA): ∃r,aRt l=some r:=by
 unfold aRt;split;exact⟨_,rfl⟩;exact aDq ⟨_,rfl⟩ (λ_ _ r h=>aSi h) _ _
def aNc (l:List fA):Int:=(aRt l).getD 0
theorem aRe (l:List fA):aRt l=some (aNc l):=by obtain⟨_,h⟩:=trkF_some l;unfold aNc;rw [h];rfl
theorem aKg {b:Type} (e:Nat->b->Int): ∀(l:List b) (i:Nat),bC (λi x=>if e i x=0 then none else some (some (e i x))) (some 0) l i=some 0↔ ∀j x,l[j]? =some x->e (i+j) x=0
 | [],i=>by simp [bC]
 |x::l,i=>by
  rw [bC]
  by_cases h:e i x=0
  ·rw [if_pos h];refine(aKg e l (i+1)).trans ?_;constructor
   ·intro q j y a
    cases j with
    |zero=>simp at a;subst a;simpa using h
    |succ j=>have:=q j y (by simpa using a);rwa [show i+(j+1)=i+1+j by omega]
   ·intro q j y a;have:=q (j+1) y (by simpa using a);rwa [show i+(j+1)=i+1+j by omega]at this
  ·rw [if_neg h];constructor
   ·intro q;exact absurd (oI q) h
   ·intro q;exact absurd (by simpa using q 0 x rfl) h
theorem aPw (l:List fA):aNc l=0↔l.length<=50/\ ∀i x,l[i]? =some x->aVg l i x=0:=by
 have e:=aRe l;unfold aRt at e;split at e;rename_i h;simp only [decide_eq_true_eq]at h;have:=oI e;constructor;intro a;omega;intro a;omega;rename_i h;simp only [decide_eq_true_eq]at h;have f:=aKg (aVg l) l 0;simp only [Nat.zero_add]at f;rw [e]at f;constructor;intro a;exact⟨by omega,f.1 (by rw [a])⟩;rintro⟨_,a⟩;exact oI (f.2 a)
theorem aUh (l:List fA) (i:Nat) (x:fA):aVg l i x=0↔aBe x.Name=true/\pO (λ_ y=>decide (y.Name=x.Name)) (l.take i) 0=false/\aDs x.Series=0/\0<=x.Long/\x.Long<=1099511627776:=by
 unfold aVg;cases aBe x.Name;simp;cases pO (λ_ y=>decide (y.Name=x.Name)) (l.take i) 0;by_cases a:aDs x.Series=0;simp [a];simp [a];simp
theorem aOo (e:Nat->dC->Int): ∀(l:List dC) (i:Nat) (r:Int×Int),bC (λi x=>if e i x=0 then none else some (some ((i:Int),e i x))) (some (-1,0)) l i=some r->(r.2=0↔ ∀j x,l[j]? =some x->e (i+j) x=0)
 | [],i,r,h=>by cases h;simp
 |x::l,i,r,h=>by
  rw [bC]at h
  by_cases a:e i x=0
  ·rw [if_pos a]at h;refine(aOo e l (i+1) r h).trans ?_;constructor
   ·intro q j y b
    cases j with
    |zero=>simp at b;subst b;simpa using a
    |succ j=>have:=q j y (by simpa using b);rwa [show i+(j+1)=i+1+j by omega]
   ·intro q j y b;have:=q (j+1) y (by simpa using b);rwa [show i+(j+1)=i+1+j by omega]at this
  ·rw [if_neg a]at h;have c:=oI h;subst c;constructor
   ·intro q;exact absurd q a
   ·intro q;exact absurd (by simpa using q 0 x rfl) a
theorem bAl (s:Series):aDs s=0↔(1<=s.Den/\s.Den<=1000000)/\s.Samples.length<=20000/\ ∀i x,s.Samples[i]? =some x->aQg s.Samples i x=0:=by
 obtain⟨r,a⟩:=aGq s;have e:aDs s=r.2:=by unfold aDs;rw [a];rfl
 rw [e];unfold aTv at a;split at a;rename_i h;cases a;simp only [Bool.not_eq_true',Bool.and_eq_false_iff,decide_eq_false_iff_not]at h;constructor;intro b;cases b;rintro⟨d,_⟩;omega;rename_i h;simp only [Bool.not_eq_true',Bool.and_eq_false_iff,decide_eq_false_iff_not]at h;split at a;rename_i c;simp only [decide_eq_true_eq]at c;cases a;constructor;intro b;cases b;rintro⟨_,d,_⟩;omega;rename_i c;simp only [decide_eq_true_eq]at c;have:=aOo (aQg s.Samples) s.Samples 0 r a;simp only [Nat.zero_add]at this;rw [this];constructor;intro q;exact⟨by omega,by omega,q⟩;intro q;exact q.2.2
theorem names_ne {l:List fA}(h:aNc l=0){i j:Nat}{x y:fA}(b:l[i]? =some x)(c:l[j]? =some y)(a:i<j):x.Name≠y.Name:=by
 have:=((aUh l j y).1 (((aPw l).1 h).2 j y c)).2.1;intro e;have t:pO (λ_ z=>decide (z.Name=y.Name)) (l.take j) 0=true:=(aBq _ _ _).2 ⟨i,x,by rw [List.getElem?_take,if_pos a];exact b,by simpa using e⟩;rw [this]at t;cases t
end Go.Lf
