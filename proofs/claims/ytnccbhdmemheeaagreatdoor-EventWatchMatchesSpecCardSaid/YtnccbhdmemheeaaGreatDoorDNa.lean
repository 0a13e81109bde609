/- Laws that the claim stands on; no condition beyond those stated. -/
import Derived.Test.YtnccbhdmemheeaaGreatDoorUP
import Derived.Test.YtnccbhdmemheeaaGreatDoorPLb
namespace Go.Lf
open Go.OB
def aLt (x:nP):Prop:=i64 x.At/\i64 x.N/\i64 x.Mark
def aVt (x:Series):Prop:=i64 x.Den/\okL (λx=>aLt x) x.Samples
def sU (x:fF):Prop:=okS x.Name/\aVt x.Series/\i64 x.Long
def kws:List Str:=[[112,104,97,115,101],[109,111,118,101],[114,117,108,101],[105,102],[111,114],[97,110,100],[116,114,117,101],[102,97,108,115,101],[115,116,101,97,100,121],[110,111,116],[102,111,114],[119,105,116,104,105,110],[99,111,117,110,116],[111,102],[114,105,115,101,115],[115,105,110,99,101]]
theorem aJw (a b c:Int):Fak a b c=some (decide (b<=a)&&decide (a<=c)):=by
 unfold Fak;simp only [zI,aAo,zC]
theorem aZy (a b c:Int):Fbi a b c=some (decide (b<=a)&&decide (a<=c)):=by
 unfold Fbi;simp only [zI,aAo,zC]
theorem out5 (a b c:Int):Fbq a b c=some (decide (a<b)||decide (c<a)):=by
 unfold Fbq;simp only [zI,jK,zC]
theorem out6 (a b c:Int):Fan a b c=some (decide (a<b)||decide (c<a)):=by
 unfold Fan;simp only [zI,jK,zC]
def isW (s:Str):Bool:=decide (s∈kws)
theorem isWord_eq (s:Str):Fcs s=some (isW s):=by
 unfold Fcs isW kws;simp only [zI,aJk,zC,iteB_id,List.mem_cons,List.not_mem_nil,or_false,Bool.decide_or]
def nmB (c:Int):Bool:=(decide (97<=c)&&decide (c<=122))||(decide (48<=c)&&decide (c<=57))||decide (c=45)
theorem aWc (c:Int):Fcj c=some (nmB c):=by
 unfold Fcj nmB;simp only [zI];cases decide (97<=c)<;>cases decide (c<=122)<;>cases decide (48<=c)<;>cases decide (c<=57)<;>cases decide (c=45)<;>rfl
def aOb:Nat->UInt8->Bool:=λ_ c=> !nmB (c.toNat:Int)
theorem isName_L1 (s:Str) (a:okS s) (k:Unit->Option Bool):Fft s k (s.length:Int) 0=if pX aOb s 0=true then some false else k ():=by
 unfold Fft;rw [yY s (λi c=>if aOb i c=true then some (some false)else none) (k ()) a];exact uV aOb (some false) (k ()) s 0;intro b i c d hi;unfold aOb;simp only [zI];rw [yM hi,zU,aKx d,zC,aWc,zC];cases nmB (c.toNat:Int);rfl;simp only [Bool.not_true,zQ];rw [fQ hi a];rfl;intro b;simp only [zI];rw [yN];rfl
def aFw (s:Str):Bool:=match s with
 | []=>false
 |c::_=>decide (97<=(c.toNat:Int))&&decide ((c.toNat:Int)<=122)
def aBw (s:Str):Bool:=decide (s.length<=30)&&aFw s&& !isW s&& !pX aOb s 0
theorem aAm (s:Str)(a:okS s):Fav s=some (aBw s):=by
 unfold Fav aBw;simp only [zI,zC,aJw,xB,isName_L1 s a,isWord_eq]
 cases s with
 |nil=>rfl
 |cons c l=>
  have b:byte' (c::l) 0=some (c.toNat:Int):=aKx (i:=0) rfl;have d:decide ((1:Int)<=((c::l).length:Int))=true:=dT (by simp;omega);have e:decide (((c::l).length:Int)<=30)=decide ((c::l).length<=30):=decide_eq_decide.2 (by omega);have f:decide ((c.toNat:Int)<97)= !decide (97<=(c.toNat:Int)):=by rw [<-decide_not];exact decide_eq_decide.2 (by omega)
  have h:decide (122<(c.toNat:Int))= !decide ((c.toNat:Int)<=122):=by rw [<-decide_not];exact decide_eq_decide.2 (by omega)
  rw [b,d,e];simp only [zC,Bool.true_and,f,h,aFw]
  cases decide ((c::l).length<=30)<;>cases decide (97<=(c.toNat:Int))<;>cases decide ((c.toNat:Int)<=122)<;>cases isW (c::l)<;>cases pX aOb (c::l) 0<;>rfl
theorem aTv (s:Str):Fe0 s=some (isW s):=by
 unfold Fe0 Ff2;simp only [zI,zC,xB];change Fh1 s kws (λ_=>some false) 0=_;unfold Fh1;rw [yY kws (λ_ x=>if decide (x=s)=true then some (some true)else none) (some false) (by decide)]
 ·rw [uV (λ_ x=>decide (x=s))];have e:pX (λ_ x=>decide (x=s)) kws 0=isW s:=by
   rw [Bool.eq_iff_iff,aCo];unfold isW;simp only [decide_eq_true_eq];constructor
   ·rintro⟨j,x,h,rfl⟩;exact qS h
   ·intro h;obtain⟨j,a⟩:=List.getElem?_of_mem h;exact⟨j,s,a,rfl⟩
  rw [e];cases isW s<;>rfl
 ·intro b _ c d hi;simp only [zI];rw [yM hi,zU,yR d,zC]
  cases decide (c=s)
  ·simp only [zQ];rw [fQ hi (by decide)];rfl
  ·rfl
 ·intro b;simp only [zI];rw [yN];rfl
def badR:Nat->UInt8->Bool:=λi c=> !((decide (97<=(c.toNat:Int))&&decide ((c.toNat:Int)<=122))||(decide (0<(i:Int))&&((decide (48<=(c.toNat:Int))&&decide ((c.toNat:Int)<=57))||decide ((c.toNat:Int)=45))))
theorem aYx (s:Str) (a:okS s) (k:Unit->Option Bool):Fgk s k 0=if pX badR s 0=true then some false else k ():=by
 unfold Fgk;rw [yY s (λi c=>if badR i c=true then some (some false)else none) (k ()) a];exact uV badR (some false) (k ()) s 0;intro b i c d hi;unfold badR;simp only [zI];rw [yM hi,zU,aKx d,zC];rw [fQ hi a];cases decide (97<=(c.toNat:Int))<;>cases decide ((c.toNat:Int)<=122)<;>cases decide (0<(i:Int))<;>cases decide (48<=(c.toNat:Int))<;>cases decide ((c.toNat:Int)<=57)<;>cases decide ((c.toNat:Int)=45)<;>rfl;intro b;simp only [zI];rw [yN];rfl
theorem jU (s:Str)(a:okS s):Fax s=some (aBw s):=by
 unfold Fax aBw;simp only [zI,zC,xB,aYx s a,aTv]
 cases s with
 |nil=>rfl
 |cons c l=>
  have b:decide (((c::l).length:Int)<=30)=decide ((c::l).length<=30):=decide_eq_decide.2 (by omega);have d:decide ((c::l)≠[])=true:=by simp
  have e:pX badR l (0+1)=pX aOb l (0+1):=aMv l (0+1) λj _ _=>by
   have:decide (0<((0+1+j:Nat):Int))=true:=dT (by omega);unfold badR aOb nmB;rw [this];simp only [Bool.true_and,Bool.or_assoc]
  rw [pX,pX,e,b,d];have f:badR 0 c= !(decide (97<=(c.toNat:Int))&&decide ((c.toNat:Int)<=122)):=by unfold badR;simp
  have h:aOb 0 c= !(aFw (c::l)||(decide (48<=(c.toNat:Int))&&decide ((c.toNat:Int)<=57))||decide ((c.toNat:Int)=45)):=rfl;have i:badR 0 c= !aFw (c::l):=f;rw [h,i]
  cases aFw (c::l)<;>cases pX aOb l (0+1)<;>cases decide ((c::l).length<=30)<;>cases isW (c::l)<;>simp [gQ,gB]
def aUd (l:List nP)(i:Nat)(x:nP):Int:=
 if !(decide (0<=x.At)&&decide (x.At<=1099511627776))|| !(decide (-1125899906842624<=x.N)&&decide (x.N<=1125899906842624))|| !(decide (0<=x.Mark)&&decide (x.Mark<=4))then 9
 else if decide (x.N≠0)&&decide (x.Mark<=1)then 2
 else match i with
  |0=>0
  |j+1=>match l[j]? with
   |some y=>if decide (x.At<=y.At)then 10 else 0
   |none=>0
def serF (l:List nP)(fin:Option (Int×Int)):Option (Int×Int):=dR (λi x=>if aUd l i x=0 then none else some (some ((i:Int),aUd l i x))) fin l 0
theorem aVy {l:List nP}{i:Nat}(hi:i<l.length)(b:l.length<=9223372036854775807)(c:0<i): ∃y,l[i-1]? =some y/\at' l (IntKind.i64.wrap ((i:Int)-1))=some y:=by
 have a:i-1<l.length:=by omega
 refine⟨l[i-1],gE a,?_⟩;rw [Go.OB.wrap_i64 (by omega) (by omega),show(i:Int)-1=((i-1:Nat):Int)by omega];exact yR (gE a)
theorem check_L1 (s:Series) (a:s.Samples.length<=9223372036854775807) (k:Unit->Option (Int×Int)):Fhq s k (s.Samples.length:Int) 0=serF s.Samples (k ()):=by
 unfold Fhq serF;refine yY s.Samples _ (k ()) a ?_ ?_
 ·intro c i x d hi;simp only [zI,aZy,zC];rw [yM hi,zU,yR d,zC,fQ hi a];unfold aUd
  cases decide (0<=x.At)<;>cases decide (x.At<=1099511627776)<;>simp only [Bool.and_true,Bool.and_false,Bool.not_true,Bool.not_false,Bool.true_or,Bool.false_or,zU,zQ,zC,if_true]<;>try rfl
  cases decide (-1125899906842624<=x.N)<;>cases decide (x.N<=1125899906842624)<;>simp only [Bool.and_true,Bool.and_false,Bool.not_true,Bool.not_false,Bool.true_or,Bool.false_or,zU,zQ,zC,if_true]<;>try rfl
  cases decide (0<=x.Mark)<;>cases decide (x.Mark<=4)<;>simp only [Bool.and_true,Bool.and_false,Bool.not_true,Bool.not_false,zU,zQ,if_true,Bool.false_eq_true,if_false]<;>try rfl
  cases decide (x.N≠0)<;>cases decide (x.Mark<=1)<;>simp only [Bool.and_true,Bool.and_false,zU,zQ,zC,if_true,Bool.false_eq_true,if_false]<;>try rfl
  all_goals
   cases i with
   |zero=>rfl
   |succ j=>
    obtain⟨y,b,e⟩:=aVy hi a (by omega);have f:decide (0<((j+1:Nat):Int))=true:=dT (by omega);rw [e,f];simp only [Nat.add_sub_cancel]at b;simp only [zU,zC,b]
    cases decide (x.At<=y.At)<;>rfl
 ·intro c;simp only [zI];rw [yN];rfl
theorem aFk (a b c:Int):(decide (a<b)||decide (c<a))= !(decide (b<=a)&&decide (a<=c)):=by
 by_cases d:b<=a<;>by_cases e:a<=c<;>simp [d,e]<;>omega
theorem aMa (x:nP):Feq x=some (if !(decide (0<=x.At)&&decide (x.At<=1099511627776))|| !(decide (-1125899906842624<=x.N)&&decide (x.N<=1125899906842624))|| !(decide (0<=x.Mark)&&decide (x.Mark<=4))then 9
    else if decide (x.N≠0)&&decide (x.Mark<=1)then 2 else 0):=by
 unfold Feq Fgo;simp only [zI,zC,out5,aFk,jK,aAo];have h:(!decide (2<=x.Mark))=decide (x.Mark<=1):=by rw [<-decide_not];exact decide_eq_decide.2 (by omega)
 rw [h];cases(!(decide (0<=x.At)&&decide (x.At<=1099511627776)))<;>cases(!(decide (-1125899906842624<=x.N)&&decide (x.N<=1125899906842624)))<;>cases(!(decide (0<=x.Mark)&&decide (x.Mark<=4)))<;>cases decide (x.N≠0)<;>cases decide (x.Mark<=1)<;>rfl
theorem fault_L1 (s:Series) (a:s.Samples.length<=9223372036854775807) (k:Unit->Option (Int×Int)):Ff6 s k 0=serF s.Samples (k ()):=by
 unfold Ff6 serF;refine yY s.Samples _ (k ()) a ?_ ?_
 ·intro c i x d hi;simp only [zI,aMa,zC];rw [yM hi,zU,yR d,zC,fQ hi a];unfold aUd
  cases(!(decide (0<=x.At)&&decide (x.At<=1099511627776))|| !(decide (-1125899906842624<=x.N)&&decide (x.N<=1125899906842624))|| !(decide (0<=x.Mark)&&decide (x.Mark<=4)))
  ·cases(decide (x.N≠0)&&decide (x.Mark<=1))
   ·cases i with
    |zero=>rfl
    |succ j=>
     obtain⟨y,b,e⟩:=aVy hi a (by omega);have f:decide (0<((j+1:Nat):Int))=true:=dT (by omega);rw [e,f];simp only [Nat.add_sub_cancel]at b;simp only [zU,zC,b,Bool.false_eq_true,if_false]
     cases decide (x.At<=y.At)<;>rfl
   ·rfl
  ·rfl
 ·intro c;simp only [zI];rw [yN];rfl
def aVo (s:Series):Option (Int×Int):=if !(decide (1<=s.Den)&&decide (s.Den<=1000000))then some (-1,9)else if decide (20000<(s.Samples.length:Int))then some (-1,3)else serF s.Samples (some (-1,0))
theorem check_eq (s:Series)(a:s.Samples.length<=9223372036854775807):Feg s=aVo s:=by
 unfold Feg aVo;simp only [zI,zC,aZy,xB,check_L1 s a,nV]
theorem fault_eq (s:Series)(a:s.Samples.length<=9223372036854775807):Fez s=aVo s:=by
 unfold Fez aVo;simp only [zI,zC,out5,aFk,xB,fault_L1 s a,nV]
theorem aEf {a β:Type}{q:Nat->a->Option (Option β)}{fin:Option β}(b: ∃r,fin=some r)(c: ∀i x r,q i x=some r-> ∃y,r=some y): ∀(l:List a) (i:Nat),∃r,dR q fin l i=some r
 | [],i=>b
 |x::l,i=>by
  rw [dR]
  cases h:q i x with
  |none=>exact aEf b c l (i+1)
  |some r=>exact c i x r h
theorem aVd {β:Type}{p:Prop} [Decidable p] {y:β}{r:Option β}(h:(if p then none else some (some y))=some r): ∃z,r=some z:=by
 split at h;cases h;cases h;exact⟨_,rfl⟩
theorem aHp (s:Series): ∃r,aVo s=some r:=by
 unfold aVo serF;split;exact⟨_,rfl⟩;split;exact⟨_,rfl⟩;exact aEf ⟨_,rfl⟩ (λ_ _ r h=>aVd h) _ _
def aEe (s:Series):Int:=((aVo s).getD (0,0)).2
theorem sCheck_eq (s:Series)(a:s.Samples.length<=9223372036854775807):Feu s=some (aEe s):=by
 obtain⟨_,b⟩:=aHp s;unfold Feu aEe;rw [check_eq s a,b];rfl
theorem rSer_eq (s:Series)(a:s.Samples.length<=9223372036854775807):Fe6 s=some (aEe s):=by
 obtain⟨_,b⟩:=aHp s;unfold Fe6 aEe;rw [fault_eq s a,b];rfl
theorem aRw {a:Type}(p:Nat->a->Bool): ∀(l:List a) (i:Nat),∃n,dR (λi x=>if p i x=true then some (some (i:Int))else none) (some (-1)) l i=some n/\decide (0<=n)=pX p l i
 | [],i=>⟨-1,rfl,rfl⟩
 |x::l,i=>by
  rw [dR,pX]
  cases h:p i x with
  |true=>exact⟨i,rfl,by simp⟩
  |false=>simpa using aRw p l (i+1)
theorem contT_eq (l:List fF) (c:fF) (a:l.length<=9223372036854775807):Fep l c=some (pX (λ_ y=>decide (y.Name=c.Name)) l 0):=by
 obtain⟨n,b,d⟩:=aRw (λ(_:Nat) (y:fF)=>decide (y.Name=c.Name)) l 0;have e:Fed l c=some n:=by
  unfold Fed;simp only [zI,xB];unfold Fiz;rw [<-b];refine yY l _ _ a ?_ ?_
  ·intro f _ x h hi;unfold Ffr;simp only [zI,zC];rw [yM hi,zU,yR h,zC,fQ hi a]
   cases decide (x.Name=c.Name)<;>rfl
  ·intro f;simp only [zI];rw [yN];rfl
 unfold Fep;rw [e];simp only [zI,zC,d]
def aVl (l:List fF)(i:Nat)(x:fF):Int:=
 if !aBw x.Name then 8 else if pX (λ_ y=>decide (y.Name=x.Name)) (l.take i) 0 then 5
 else if aEe x.Series≠0 then aEe x.Series else if !(decide (0<=x.Long)&&decide (x.Long<=1099511627776))then 9 else 0
def aQj (l:List fF):Option Int:=if decide (50<(l.length:Int))then some 3 else dR (λi x=>if aVl l i x=0 then none else some (some (aVl l i x))) (some 0) l 0
theorem aLn {l:List fF}(h:okL sU l){i:Nat}{x:fF}(a:l[i]? =some x):okS x.Name/\x.Series.Samples.length<=9223372036854775807:=by
 have:=h.2 x (qS a);exact⟨this.1,this.2.1.2.1⟩
theorem aLr (l:List fF) (h:okL sU l):Ffl l=aQj l:=by
 unfold Ffl aQj;simp only [zI,xB,nV];congr 1;unfold Fjs;refine yY l _ _ h.1 ?_ ?_;intro c i x a hi;obtain⟨d,e⟩:=aLn h a;simp only [zI];rw [yM hi,zU,yR a,zC,aAm _ d,zC,aZw l (by omega),fQ hi h.1];simp only [zC,contT_eq (l.take i) x (by have:=h.1;simp;omega),sCheck_eq _ e,aJw];unfold aVl;cases aBw x.Name;rfl;cases pX (λ_ y=>decide (y.Name=x.Name)) (l.take i) 0;simp only [Bool.not_true,Bool.false_eq_true,if_false,nV];by_cases b:aEe x.Series=0;cases(decide (0<=x.Long)&&decide (x.Long<=1099511627776))<;>simp [b];simp [b];rfl;intro c;simp only [zI];rw [yN];rfl
theorem aYy (l:List fF) (d:l.length<=9223372036854775807) {i:Nat}{x:fF} (f:l[i]? =some x) (k:Unit->Option Int):Fgi l (i:Int) k 0=if pX (λ_ y=>decide (y.Name=x.Name)) (l.take i) 0=true then some 5 else k ():=by
 have hi:=(gS.1 f).1;have b:(l.take i).length=i:=by rw [List.length_take];exact Nat.min_eq_left (Nat.le_of_lt hi)
 have hm:(l.take i).length<=9223372036854775807:=by rw [b];exact Nat.le_trans (Nat.le_of_lt hi) d
 have e:=uV (λ_ y=>decide (y.Name=x.Name)) (some 5) (k ()) (l.take i) 0;rw [<-e];unfold Fgi;refine yY (l.take i) _ (k ()) hm ?_ ?_;intro o j y h a;rw [b]at a;have c:l[j]? =some y:=by rw [List.getElem?_take,if_pos a]at h;exact h
 simp only [zI];rw [yM a,zU,yR c,zC,yR f,zC,fQ (n:=l.length) (Nat.lt_trans a hi) d];cases decide (y.Name=x.Name);rfl;rfl;intro o;rw [b];simp only [zI,yN,zQ]
theorem aIx (l:List fF) (h:okL sU l):Ffb l=aQj l:=by
 unfold Ffb aQj;simp only [zI,xB,nV];congr 1;unfold Fig;refine yY l _ _ h.1 ?_ ?_;intro c i x a hi;obtain⟨d,e⟩:=aLn h a;simp only [zI,xB];rw [yM hi,zU,yR a,zC,jU _ d,zC,aYy l h.1 a,fQ hi h.1];simp only [zC,rSer_eq _ e,out6,aFk];unfold aVl;cases aBw x.Name;rfl;cases pX (λ_ y=>decide (y.Name=x.Name)) (l.take i) 0;simp only [Bool.not_true,Bool.false_eq_true,if_false,nV];by_cases b:aEe x.Series=0;cases(decide (0<=x.Long)&&decide (x.Long<=1099511627776))<;>simp [b];simp [b];rfl;intro c;simp only [zI];rw [yN];rfl
theorem trkF_some (l:List fF): ∃r,aQj l=some r:=by
 unfold aQj;split;exact⟨_,rfl⟩;exact aEf ⟨_,rfl⟩ (λ_ _ r h=>aVd h) _ _
def aNp (l:List fF):Int:=(aQj l).getD 0
theorem aSg (l:List fF):aQj l=some (aNp l):=by obtain⟨_,h⟩:=trkF_some l;unfold aNp;rw [h];rfl
theorem aMd {b:Type} (e:Nat->b->Int): ∀(l:List b) (i:Nat),dR (λi x=>if e i x=0 then none else some (some (e i x))) (some 0) l i=some 0↔ ∀j x,l[j]? =some x->e (i+j) x=0
 | [],i=>by simp [dR]
 |x::l,i=>by
  rw [dR]
  by_cases h:e i x=0
  ·rw [if_pos h];refine(aMd e l (i+1)).trans ?_;constructor
   ·intro q j y a
    cases j with
    |zero=>simp at a;subst a;simpa using h
    |succ j=>have:=q j y (by simpa using a);rwa [show i+(j+1)=i+1+j by omega]
   ·intro q j y a;have:=q (j+1) y (by simpa using a);rwa [show i+(j+1)=i+1+j by omega]at this
  ·rw [if_neg h];constructor
   ·intro q;exact absurd (oI q) h
   ·intro q;exact absurd (by simpa using q 0 x rfl) h
theorem aQi (l:List fF):aNp l=0↔l.length<=50/\ ∀i x,l[i]? =some x->aVl l i x=0:=by
 have e:=aSg l;unfold aQj at e;split at e;rename_i h;simp only [decide_eq_true_eq]at h;have:=oI e;constructor;intro a;omega;intro a;omega;rename_i h;simp only [decide_eq_true_eq]at h;have f:=aMd (aVl l) l 0;simp only [Nat.zero_add]at f;rw [e]at f;constructor;intro a;exact⟨by omega,f.1 (by rw [a])⟩;rintro⟨_,a⟩;exact oI (f.2 a)
theorem aVc (l:List fF) (i:Nat) (x:fF):aVl l i x=0↔aBw x.Name=true/\pX (λ_ y=>decide (y.Name=x.Name)) (l.take i) 0=false/\aEe x.Series=0/\0<=x.Long/\x.Long<=1099511627776:=by
 unfold aVl;cases aBw x.Name;simp;cases pX (λ_ y=>decide (y.Name=x.Name)) (l.take i) 0;by_cases a:aEe x.Series=0;simp [a];simp [a];simp
theorem aQe (e:Nat->nP->Int): ∀(l:List nP) (i:Nat) (r:Int×Int),dR (λi x=>if e i x=0 then none else some (some ((i:Int),e i x))) (some (-1,0)) l i=some r->(r.2=0↔ ∀j x,l[j]? =some x->e (i+j) x=0)
 | [],i,r,h=>by cases h;simp
 |x::l,i,r,h=>by
  rw [dR]at h
  by_cases a:e i x=0
  ·rw [if_pos a]at h;refine(aQe e l (i+1) r h).trans ?_;constructor
   ·intro q j y b
    cases j with
    |zero=>simp at b;subst b;simpa using a
    |succ j=>have:=q j y (by simpa using b);rwa [show i+(j+1)=i+1+j by omega]
   ·intro q j y b;have:=q (j+1) y (by simpa using b);rwa [show i+(j+1)=i+1+j by omega]at this
  ·rw [if_neg a]at h;have c:=oI h;subst c;constructor
   ·intro q;exact absurd q a
   ·intro q;exact absurd (by simpa using q 0 x rfl) a
theorem ser_iff (s:Series):aEe s=0↔(1<=s.Den/\s.Den<=1000000)/\s.Samples.length<=20000/\ ∀i x,s.Samples[i]? =some x->aUd s.Samples i x=0:=by
 obtain⟨r,a⟩:=aHp s;have e:aEe s=r.2:=by unfold aEe;rw [a];rfl
 rw [e];unfold aVo at a;split at a;rename_i h;cases a;simp only [Bool.not_eq_true',Bool.and_eq_false_iff,decide_eq_false_iff_not]at h;constructor;intro b;cases b;rintro⟨d,_⟩;omega;rename_i h;simp only [Bool.not_eq_true',Bool.and_eq_false_iff,decide_eq_false_iff_not]at h;split at a;rename_i c;simp only [decide_eq_true_eq]at c;cases a;constructor;intro b;cases b;rintro⟨_,d,_⟩;omega;rename_i c;simp only [decide_eq_true_eq]at c;have:=aQe (aUd s.Samples) s.Samples 0 r a;simp only [Nat.zero_add]at this;rw [this];constructor;intro q;exact⟨by omega,by omega,q⟩;intro q;exact q.2.2
theorem names_ne {l:List fF}(h:aNp l=0){i j:Nat}{x y:fF}(b:l[i]? =some x)(c:l[j]? =some y)(a:i<j):x.Name≠y.Name:=by
 have:=((aVc l j y).1 (((aQi l).1 h).2 j y c)).2.1;intro e;have t:pX (λ_ z=>decide (z.Name=y.Name)) (l.take j) 0=true:=(aCo _ _ _).2 ⟨i,x,by rw [List.getElem?_take,if_pos a];exact b,by simpa using e⟩;rw [this]at t;cases t
end Go.Lf
