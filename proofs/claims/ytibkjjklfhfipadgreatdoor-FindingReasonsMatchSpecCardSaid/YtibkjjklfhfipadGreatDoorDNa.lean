/- Laws that the claim stands on; no condition beyond those stated. -/
import Derived.Test.YtibkjjklfhfipadGreatDoorUP
import Derived.Test.YtibkjjklfhfipadGreatDoorPLb
namespace Go.Lf
open Go.OB
def aKv (x:eP):Prop:=i64 x.At/\i64 x.N/\i64 x.Mark
def aWi (x:Series):Prop:=i64 x.Den/\okL (λx=>aKv x) x.Samples
def uK (x:Track):Prop:=okS x.Name/\aWi x.Series/\i64 x.Long
def kws:List Str:=[[112,104,97,115,101],[109,111,118,101],[114,117,108,101],[105,102],[111,114],[97,110,100],[116,114,117,101],[102,97,108,115,101],[115,116,101,97,100,121],[110,111,116],[102,111,114],[119,105,116,104,105,110],[99,111,117,110,116],[111,102],[114,105,115,101,115],[115,105,110,99,101]]
theorem aQu (a b c:Int):Fap a b c=some (decide (b<=a)&&decide (a<=c)):=by
 unfold Fap;simp only [zH,aAk,zC]
theorem bBw (a b c:Int):Fbi a b c=some (decide (b<=a)&&decide (a<=c)):=by
 unfold Fbi;simp only [zH,aAk,zC]
theorem out5 (a b c:Int):Fbj a b c=some (decide (a<b)||decide (c<a)):=by
 unfold Fbj;simp only [zH,jJ,zC]
theorem out6 (a b c:Int):Fal a b c=some (decide (a<b)||decide (c<a)):=by
 unfold Fal;simp only [zH,jJ,zC]
def isW (s:Str):Bool:=decide (s∈kws)
theorem isWord_eq (s:Str):Fdk s=some (isW s):=by
 unfold Fdk isW kws;simp only [zH,aJm,zC,iteB_id,List.mem_cons,List.not_mem_nil,or_false,Bool.decide_or]
def nmB (c:Int):Bool:=(decide (97<=c)&&decide (c<=122))||(decide (48<=c)&&decide (c<=57))||decide (c=45)
theorem aTo (c:Int):Fcu c=some (nmB c):=by
 unfold Fcu nmB;simp only [zH];cases decide (97<=c)<;>cases decide (c<=122)<;>cases decide (48<=c)<;>cases decide (c<=57)<;>cases decide (c=45)<;>rfl
def aNq:Nat->UInt8->Bool:=λ_ c=> !nmB (c.toNat:Int)
theorem isName_L1 (s:Str) (a:okS s) (k:Unit->Option Bool):Fh3 s k (s.length:Int) 0=if pU aNq s 0=true then some false else k ():=by
 unfold Fh3;rw [yZ s (λi c=>if aNq i c=true then some (some false)else none) (k ()) a];exact uU aNq (some false) (k ()) s 0;intro b i c d hi;unfold aNq;simp only [zH];rw [yP hi,zS,aMr d,zC,aTo,zC];cases nmB (c.toNat:Int);rfl;simp only [Bool.not_true,zK];rw [fO hi a];rfl;intro b;simp only [zH];rw [yR];rfl
def aEw (s:Str):Bool:=match s with
 | []=>false
 |c::_=>decide (97<=(c.toNat:Int))&&decide ((c.toNat:Int)<=122)
def aBn (s:Str):Bool:=decide (s.length<=30)&&aEw s&& !isW s&& !pU aNq s 0
theorem wZ (s:Str)(a:okS s):Fas s=some (aBn s):=by
 unfold Fas aBn;simp only [zH,zC,aQu,xE,isName_L1 s a,isWord_eq]
 cases s with
 |nil=>rfl
 |cons c l=>
  have b:byte' (c::l) 0=some (c.toNat:Int):=aMr (i:=0) rfl;have d:decide ((1:Int)<=((c::l).length:Int))=true:=dT (by simp;omega);have e:decide (((c::l).length:Int)<=30)=decide ((c::l).length<=30):=decide_eq_decide.2 (by omega);have f:decide ((c.toNat:Int)<97)= !decide (97<=(c.toNat:Int)):=by rw [<-decide_not];exact decide_eq_decide.2 (by omega)
  have h:decide (122<(c.toNat:Int))= !decide ((c.toNat:Int)<=122):=by rw [<-decide_not];exact decide_eq_decide.2 (by omega)
  rw [b,d,e];simp only [zC,Bool.true_and,f,h,aEw]
  cases decide ((c::l).length<=30)<;>cases decide (97<=(c.toNat:Int))<;>cases decide ((c.toNat:Int)<=122)<;>cases isW (c::l)<;>cases pU aNq (c::l) 0<;>rfl
theorem aWe (s:Str):Fex s=some (isW s):=by
 unfold Fex Ff0;simp only [zH,zC,xE];change Fhd s kws (λ_=>some false) 0=_;unfold Fhd;rw [yZ kws (λ_ x=>if decide (x=s)=true then some (some true)else none) (some false) (by decide)]
 ·rw [uU (λ_ x=>decide (x=s))];have e:pU (λ_ x=>decide (x=s)) kws 0=isW s:=by
   rw [Bool.eq_iff_iff,aBs];unfold isW;simp only [decide_eq_true_eq];constructor
   ·rintro⟨j,x,h,rfl⟩;exact qS h
   ·intro h;obtain⟨j,a⟩:=List.getElem?_of_mem h;exact⟨j,s,a,rfl⟩
  rw [e];cases isW s<;>rfl
 ·intro b _ c d hi;simp only [zH];rw [yP hi,zS,yQ d,zC]
  cases decide (c=s)
  ·simp only [zK];rw [fO hi (by decide)];rfl
  ·rfl
 ·intro b;simp only [zH];rw [yR];rfl
def badR:Nat->UInt8->Bool:=λi c=> !((decide (97<=(c.toNat:Int))&&decide ((c.toNat:Int)<=122))||(decide (0<(i:Int))&&((decide (48<=(c.toNat:Int))&&decide ((c.toNat:Int)<=57))||decide ((c.toNat:Int)=45))))
theorem aYs (s:Str) (a:okS s) (k:Unit->Option Bool):Fhc s k 0=if pU badR s 0=true then some false else k ():=by
 unfold Fhc;rw [yZ s (λi c=>if badR i c=true then some (some false)else none) (k ()) a];exact uU badR (some false) (k ()) s 0;intro b i c d hi;unfold badR;simp only [zH];rw [yP hi,zS,aMr d,zC];rw [fO hi a];cases decide (97<=(c.toNat:Int))<;>cases decide ((c.toNat:Int)<=122)<;>cases decide (0<(i:Int))<;>cases decide (48<=(c.toNat:Int))<;>cases decide ((c.toNat:Int)<=57)<;>cases decide ((c.toNat:Int)=45)<;>rfl;intro b;simp only [zH];rw [yR];rfl
theorem jT (s:Str)(a:okS s):Fat s=some (aBn s):=by
 unfold Fat aBn;simp only [zH,zC,xE,aYs s a,aWe]
 cases s with
 |nil=>rfl
 |cons c l=>
  have b:decide (((c::l).length:Int)<=30)=decide ((c::l).length<=30):=decide_eq_decide.2 (by omega);have d:decide ((c::l)≠[])=true:=by simp
  have e:pU badR l (0+1)=pU aNq l (0+1):=aMb l (0+1) λj _ _=>by
   have:decide (0<((0+1+j:Nat):Int))=true:=dT (by omega);unfold badR aNq nmB;rw [this];simp only [Bool.true_and,Bool.or_assoc]
  rw [pU,pU,e,b,d];have f:badR 0 c= !(decide (97<=(c.toNat:Int))&&decide ((c.toNat:Int)<=122)):=by unfold badR;simp
  have h:aNq 0 c= !(aEw (c::l)||(decide (48<=(c.toNat:Int))&&decide ((c.toNat:Int)<=57))||decide ((c.toNat:Int)=45)):=rfl;have i:badR 0 c= !aEw (c::l):=f;rw [h,i]
  cases aEw (c::l)<;>cases pU aNq l (0+1)<;>cases decide ((c::l).length<=30)<;>cases isW (c::l)<;>simp [gK,gB]
def aQw (l:List eP)(i:Nat)(x:eP):Int:=
 if !(decide (0<=x.At)&&decide (x.At<=1099511627776))|| !(decide (-1125899906842624<=x.N)&&decide (x.N<=1125899906842624))|| !(decide (0<=x.Mark)&&decide (x.Mark<=4))then 9
 else if decide (x.N≠0)&&decide (x.Mark<=1)then 2
 else match i with
  |0=>0
  |j+1=>match l[j]? with
   |some y=>if decide (x.At<=y.At)then 10 else 0
   |none=>0
def serF (l:List eP)(fin:Option (Int×Int)):Option (Int×Int):=dU (λi x=>if aQw l i x=0 then none else some (some ((i:Int),aQw l i x))) fin l 0
theorem aWz {l:List eP}{i:Nat}(hi:i<l.length)(b:l.length<=9223372036854775807)(c:0<i): ∃y,l[i-1]? =some y/\at' l (IntKind.i64.wrap ((i:Int)-1))=some y:=by
 have a:i-1<l.length:=by omega
 refine⟨l[i-1],gE a,?_⟩;rw [Go.OB.wrap_i64 (by omega) (by omega),show(i:Int)-1=((i-1:Nat):Int)by omega];exact yQ (gE a)
theorem check_L1 (s:Series) (a:s.Samples.length<=9223372036854775807) (k:Unit->Option (Int×Int)):Ffo s k (s.Samples.length:Int) 0=serF s.Samples (k ()):=by
 unfold Ffo serF;refine yZ s.Samples _ (k ()) a ?_ ?_
 ·intro c i x d hi;simp only [zH,bBw,zC];rw [yP hi,zS,yQ d,zC,fO hi a];unfold aQw
  cases decide (0<=x.At)<;>cases decide (x.At<=1099511627776)<;>simp only [Bool.and_true,Bool.and_false,Bool.not_true,Bool.not_false,Bool.true_or,Bool.false_or,zS,zK,zC,if_true]<;>try rfl
  cases decide (-1125899906842624<=x.N)<;>cases decide (x.N<=1125899906842624)<;>simp only [Bool.and_true,Bool.and_false,Bool.not_true,Bool.not_false,Bool.true_or,Bool.false_or,zS,zK,zC,if_true]<;>try rfl
  cases decide (0<=x.Mark)<;>cases decide (x.Mark<=4)<;>simp only [Bool.and_true,Bool.and_false,Bool.not_true,Bool.not_false,zS,zK,if_true,Bool.false_eq_true,if_false]<;>try rfl
  cases decide (x.N≠0)<;>cases decide (x.Mark<=1)<;>simp only [Bool.and_true,Bool.and_false,zS,zK,zC,if_true,Bool.false_eq_true,if_false]<;>try rfl
  all_goals
   cases i with
   |zero=>rfl
   |succ j=>
    obtain⟨y,b,e⟩:=aWz hi a (by omega);have f:decide (0<((j+1:Nat):Int))=true:=dT (by omega);rw [e,f];simp only [Nat.add_sub_cancel]at b;simp only [zS,zC,b]
    cases decide (x.At<=y.At)<;>rfl
 ·intro c;simp only [zH];rw [yR];rfl
theorem aFe (a b c:Int):(decide (a<b)||decide (c<a))= !(decide (b<=a)&&decide (a<=c)):=by
 by_cases d:b<=a<;>by_cases e:a<=c<;>simp [d,e]<;>omega
theorem aKi (x:eP):Ffe x=some (if !(decide (0<=x.At)&&decide (x.At<=1099511627776))|| !(decide (-1125899906842624<=x.N)&&decide (x.N<=1125899906842624))|| !(decide (0<=x.Mark)&&decide (x.Mark<=4))then 9
    else if decide (x.N≠0)&&decide (x.Mark<=1)then 2 else 0):=by
 unfold Ffe Fhi;simp only [zH,zC,out5,aFe,jJ,aAk];have h:(!decide (2<=x.Mark))=decide (x.Mark<=1):=by rw [<-decide_not];exact decide_eq_decide.2 (by omega)
 rw [h];cases(!(decide (0<=x.At)&&decide (x.At<=1099511627776)))<;>cases(!(decide (-1125899906842624<=x.N)&&decide (x.N<=1125899906842624)))<;>cases(!(decide (0<=x.Mark)&&decide (x.Mark<=4)))<;>cases decide (x.N≠0)<;>cases decide (x.Mark<=1)<;>rfl
theorem fault_L1 (s:Series) (a:s.Samples.length<=9223372036854775807) (k:Unit->Option (Int×Int)):Fg5 s k 0=serF s.Samples (k ()):=by
 unfold Fg5 serF;refine yZ s.Samples _ (k ()) a ?_ ?_
 ·intro c i x d hi;simp only [zH,aKi,zC];rw [yP hi,zS,yQ d,zC,fO hi a];unfold aQw
  cases(!(decide (0<=x.At)&&decide (x.At<=1099511627776))|| !(decide (-1125899906842624<=x.N)&&decide (x.N<=1125899906842624))|| !(decide (0<=x.Mark)&&decide (x.Mark<=4)))
  ·cases(decide (x.N≠0)&&decide (x.Mark<=1))
   ·cases i with
    |zero=>rfl
    |succ j=>
     obtain⟨y,b,e⟩:=aWz hi a (by omega);have f:decide (0<((j+1:Nat):Int))=true:=dT (by omega);rw [e,f];simp only [Nat.add_sub_cancel]at b;simp only [zS,zC,b,Bool.false_eq_true,if_false]
     cases decide (x.At<=y.At)<;>rfl
   ·rfl
  ·rfl
 ·intro c;simp only [zH];rw [yR];rfl
def aWs (s:Series):Option (Int×Int):=if !(decide (1<=s.Den)&&decide (s.Den<=1000000))then some (-1,9)else if decide (20000<(s.Samples.length:Int))then some (-1,3)else serF s.Samples (some (-1,0))
theorem check_eq (s:Series)(a:s.Samples.length<=9223372036854775807):Fdv s=aWs s:=by
 unfold Fdv aWs;simp only [zH,zC,bBw,xE,check_L1 s a,nR]
theorem fault_eq (s:Series)(a:s.Samples.length<=9223372036854775807):Fe6 s=aWs s:=by
 unfold Fe6 aWs;simp only [zH,zC,out5,aFe,xE,fault_L1 s a,nR]
theorem aEj {a β:Type}{q:Nat->a->Option (Option β)}{fin:Option β}(b: ∃r,fin=some r)(c: ∀i x r,q i x=some r-> ∃y,r=some y): ∀(l:List a) (i:Nat),∃r,dU q fin l i=some r
 | [],i=>b
 |x::l,i=>by
  rw [dU]
  cases h:q i x with
  |none=>exact aEj b c l (i+1)
  |some r=>exact c i x r h
theorem aXe {β:Type}{p:Prop} [Decidable p] {y:β}{r:Option β}(h:(if p then none else some (some y))=some r): ∃z,r=some z:=by
 split at h;cases h;cases h;exact⟨_,rfl⟩
theorem aGq (s:Series): ∃r,aWs s=some r:=by
 unfold aWs serF;split;exact⟨_,rfl⟩;split;exact⟨_,rfl⟩;exact aEj ⟨_,rfl⟩ (λ_ _ r h=>aXe h) _ _
def aEq (s:Series):Int:=((aWs s).getD (0,0)).2
theorem sCheck_eq (s:Series)(a:s.Samples.length<=9223372036854775807):Ffd s=some (aEq s):=by
 obtain⟨_,b⟩:=aGq s;unfold Ffd aEq;rw [check_eq s a,b];rfl
theorem rSer_eq (s:Series)(a:s.Samples.length<=9223372036854775807):Ffa s=some (aEq s):=by
 obtain⟨_,b⟩:=aGq s;unfold Ffa aEq;rw [fault_eq s a,b];rfl
theorem aJc {a:Type}(p:Nat->a->Bool): ∀(l:List a) (i:Nat),∃n,dU (λi x=>if p i x=true then some (some (i:Int))else none) (some (-1)) l i=some n/\decide (0<=n)=pU p l i
 | [],i=>⟨-1,rfl,rfl⟩
 |x::l,i=>by
  rw [dU,pU]
  cases h:p i x with
  |true=>exact⟨i,rfl,by simp⟩
  |false=>simpa using aJc p l (i+1)
theorem contT_eq (l:List Track) (c:Track) (a:l.length<=9223372036854775807):Fet l c=some (pU (λ_ y=>decide (y.Name=c.Name)) l 0):=by
 obtain⟨n,b,d⟩:=aJc (λ(_:Nat) (y:Track)=>decide (y.Name=c.Name)) l 0;have e:Fes l c=some n:=by
  unfold Fes;simp only [zH,xE];unfold Fid;rw [<-b];refine yZ l _ _ a ?_ ?_
  ·intro f _ x h hi;unfold Ffx;simp only [zH,zC];rw [yP hi,zS,yQ h,zC,fO hi a]
   cases decide (x.Name=c.Name)<;>rfl
  ·intro f;simp only [zH];rw [yR];rfl
 unfold Fet;rw [e];simp only [zH,zC,d]
def aUg (l:List Track)(i:Nat)(x:Track):Int:=
 if !aBn x.Name then 8 else if pU (λ_ y=>decide (y.Name=x.Name)) (l.take i) 0 then 5
 else if aEq x.Series≠0 then aEq x.Series else if !(decide (0<=x.Long)&&decide (x.Long<=1099511627776))then 9 else 0
def aIs (l:List Track):Option Int:=if decide (50<(l.length:Int))then some 3 else dU (λi x=>if aUg l i x=0 then none else some (some (aUg l i x))) (some 0) l 0
theorem aMf {l:List Track}(h:okL uK l){i:Nat}{x:Track}(a:l[i]? =some x):okS x.Name/\x.Series.Samples.length<=9223372036854775807:=by
 have:=h.2 x (qS a);exact⟨this.1,this.2.1.2.1⟩
theorem aKs (l:List Track) (h:okL uK l):Fd6 l=aIs l:=by
 unfold Fd6 aIs;simp only [zH,xE,nR];congr 1;unfold Fii;refine yZ l _ _ h.1 ?_ ?_;intro c i x a hi;obtain⟨d,e⟩:=aMf h a;simp only [zH];rw [yP hi,zS,yQ a,zC,wZ _ d,zC,bCo l (by omega),fO hi h.1];simp only [zC,contT_eq (l.take i) x (by have:=h.1;simp;omega),sCheck_eq _ e,aQu];unfold aUg;cases aBn x.Name;rfl;cases pU (λ_ y=>decide (y.Name=x.Name)) (l.take i) 0;simp only [Bool.not_true,Bool.false_eq_true,if_false,nR];by_cases b:aEq x.Series=0;cases(decide (0<=x.Long)&&decide (x.Long<=1099511627776))<;>simp [b];simp [b];rfl;intro c;simp only [zH];rw [yR];rfl
theorem aZi (l:List Track) (d:l.length<=9223372036854775807) {i:Nat}{x:Track} (f:l[i]? =some x) (k:Unit->Option Int):Ffp l (i:Int) k 0=if pU (λ_ y=>decide (y.Name=x.Name)) (l.take i) 0=true then some 5 else k ():=by
 have hi:=(gS.1 f).1;have b:(l.take i).length=i:=by rw [List.length_take];exact Nat.min_eq_left (Nat.le_of_lt hi)
 have hm:(l.take i).length<=9223372036854775807:=by rw [b];exact Nat.le_trans (Nat.le_of_lt hi) d
 have e:=uU (λ_ y=>decide (y.Name=x.Name)) (some 5) (k ()) (l.take i) 0;rw [<-e];unfold Ffp;refine yZ (l.take i) _ (k ()) hm ?_ ?_;intro o j y h a;rw [b]at a;have c:l[j]? =some y:=by rw [List.getElem?_take,if_pos a]at h;exact h
 simp only [zH];rw [yP a,zS,yQ c,zC,yQ f,zC,fO (n:=l.length) (Nat.lt_trans a hi) d];cases decide (y.Name=x.Name);rfl;rfl;intro o;rw [b];simp only [zH,yR,zK]
theorem aBm (l:List Track) (h:okL uK l):Fcn l=aIs l:=by
 unfold Fcn aIs;simp only [zH,xE,nR];congr 1;unfold Fiy;refine yZ l _ _ h.1 ?_ ?_;intro c i x a hi;obtain⟨d,e⟩:=aMf h a;simp only [zH,xE];rw [yP hi,zS,yQ a,zC,jT _ d,zC,aZi l h.1 a,fO hi h.1];simp only [zC,rSer_eq _ e,out6,aFe];unfold aUg;cases aBn x.Name;rfl;cases pU (λ_ y=>decide (y.Name=x.Name)) (l.take i) 0;simp only [Bool.not_true,Bool.false_eq_true,if_false,nR];by_cases b:aEq x.Series=0;cases(decide (0<=x.Long)&&decide (x.Long<=1099511627776))<;>simp [b];simp [b];rfl;intro c;simp only [zH];rw [yR];rfl
theorem trkF_some (l:List Track): ∃r,aIs l=some r:=by
 unfold aIs;split;exact⟨_,rfl⟩;exact aEj ⟨_,rfl⟩ (λ_ _ r h=>aXe h) _ _
def aMk (l:List Track):Int:=(aIs l).getD 0
theorem aRb (l:List Track):aIs l=some (aMk l):=by obtain⟨_,h⟩:=trkF_some l;unfold aMk;rw [h];rfl
theorem aLa {b:Type} (e:Nat->b->Int): ∀(l:List b) (i:Nat),dU (λi x=>if e i x=0 then none else some (some (e i x))) (some 0) l i=some 0↔ ∀j x,l[j]? =some x->e (i+j) x=0
 | [],i=>by simp [dU]
 |x::l,i=>by
  rw [dU]
  by_cases h:e i x=0
  ·rw [if_pos h];refine(aLa e l (i+1)).trans ?_;constructor
   ·intro q j y a
    cases j with
    |zero=>simp at a;subst a;simpa using h
    |succ j=>have:=q j y (by simpa using a);rwa [show i+(j+1)=i+1+j by omega]
   ·intro q j y a;have:=q (j+1) y (by simpa using a);rwa [show i+(j+1)=i+1+j by omega]at this
  ·rw [if_neg h];constructor
   ·intro q;exact absurd (oI q) h
   ·intro q;exact absurd (by simpa using q 0 x rfl) h
theorem aJx (l:List Track):aMk l=0↔l.length<=50/\ ∀i x,l[i]? =some x->aUg l i x=0:=by
 have e:=aRb l;unfold aIs at e;split at e;rename_i h;simp only [decide_eq_true_eq]at h;have:=oI e;constructor;intro a;omega;intro a;omega;rename_i h;simp only [decide_eq_true_eq]at h;have f:=aLa (aUg l) l 0;simp only [Nat.zero_add]at f;rw [e]at f;constructor;intro a;exact⟨by omega,f.1 (by rw [a])⟩;rintro⟨_,a⟩;exact oI (f.2 a)
theorem aLb (l:List Track) (i:Nat) (x:Track):aUg l i x=0↔aBn x.Name=true/\pU (λ_ y=>decide (y.Name=x.Name)) (l.take i) 0=false/\aEq x.Series=0/\0<=x.Long/\x.Long<=1099511627776:=by
 unfold aUg;cases aBn x.Name;simp;cases pU (λ_ y=>decide (y.Name=x.Name)) (l.take i) 0;by_cases a:aEq x.Series=0;simp [a];simp [a];simp
theorem aQh (e:Nat->eP->Int): ∀(l:List eP) (i:Nat) (r:Int×Int),dU (λi x=>if e i x=0 then none else some (some ((i:Int),e i x))) (some (-1,0)) l i=some r->(r.2=0↔ ∀j x,l[j]? =some x->e (i+j) x=0)
 | [],i,r,h=>by cases h;simp
 |x::l,i,r,h=>by
  rw [dU]at h
  by_cases a:e i x=0
  ·rw [if_pos a]at h;refine(aQh e l (i+1) r h).trans ?_;constructor
   ·intro q j y b
    cases j with
    |zero=>simp at b;subst b;simpa using a
    |succ j=>have:=q j y (by simpa using b);rwa [show i+(j+1)=i+1+j by omega]
   ·intro q j y b;have:=q (j+1) y (by simpa using b);rwa [show i+(j+1)=i+1+j by omega]at this
  ·rw [if_neg a]at h;have c:=oI h;subst c;constructor
   ·intro q;exact absurd q a
   ·intro q;exact absurd (by simpa using q 0 x rfl) a
theorem bBj (s:Series):aEq s=0↔(1<=s.Den/\s.Den<=1000000)/\s.Samples.length<=20000/\ ∀i x,s.Samples[i]? =some x->aQw s.Samples i x=0:=by
 obtain⟨r,a⟩:=aGq s;have e:aEq s=r.2:=by unfold aEq;rw [a];rfl
 rw [e];unfold aWs at a;split at a;rename_i h;cases a;simp only [Bool.not_eq_true',Bool.and_eq_false_iff,decide_eq_false_iff_not]at h;constructor;intro b;cases b;rintro⟨d,_⟩;omega;rename_i h;simp only [Bool.not_eq_true',Bool.and_eq_false_iff,decide_eq_false_iff_not]at h;split at a;rename_i c;simp only [decide_eq_true_eq]at c;cases a;constructor;intro b;cases b;rintro⟨_,d,_⟩;omega;rename_i c;simp only [decide_eq_true_eq]at c;have:=aQh (aQw s.Samples) s.Samples 0 r a;simp only [Nat.zero_add]at this;rw [this];constructor;intro q;exact⟨by omega,by omega,q⟩;intro q;exact q.2.2
theorem names_ne {l:List Track}(h:aMk l=0){i j:Nat}{x y:Track}(b:l[i]? =some x)(c:l[j]? =some y)(a:i<j):x.Name≠y.Name:=by
 have:=((aLb l j y).1 (((aJx l).1 h).2 j y c)).2.1;intro e;have t:pU (λ_ z=>decide (z.Name=y.Name)) (l.take j) 0=true:=(aBs _ _ _).2 ⟨i,x,by rw [List.getElem?_take,if_pos a];exact b,by simpa using e⟩;rw [this]at t;cases t
end Go.Lf
