/- Laws that the claim stands on; no condition beyond those stated. -/
import Derived.Test.YtibkjjklfhfipabGreatDoorUP
import Derived.Test.YtibkjjklfhfipabGreatDoorPLb
namespace Go.Lf
open Go.OB
def aJs (x:eH):Prop:=i64 x.At/\i64 x.N/\i64 x.Mark
def aUt (x:Series):Prop:=i64 x.Den/\okL (λx=>aJs x) x.Samples
def aCr (x:gW):Prop:=okS x.Name/\aUt x.Series/\i64 x.Long
def aBs (x:Flight):Prop:=okS x.Tail/\okS x.Route/\i64 x.Day/\i64 x.From/\i64 x.To/\okL (λx=>aCr x) x.Tracks
def kws:List Str:=[[112,104,97,115,101],[109,111,118,101],[114,117,108,101],[105,102],[111,114],[97,110,100],[116,114,117,101],[102,97,108,115,101],[115,116,101,97,100,121],[110,111,116],[102,111,114],[119,105,116,104,105,110],[99,111,117,110,116],[111,102],[114,105,115,101,115],[115,105,110,99,101]]
theorem aRn (a b c:Int):Fan a b c=some (decide (b<=a)&&decide (a<=c)):=by
 unfold Fan;simp only [zG,vH,zA]
theorem fwithin (a b c:Int):Fca a b c=some (decide (b<=a)&&decide (a<=c)):=by
 unfold Fca;simp only [zG,vH,zA]
theorem bAg (a b c:Int):Fa9 a b c=some (decide (b<=a)&&decide (a<=c)):=by
 unfold Fa9;simp only [zG,vH,zA]
theorem out9 (a b c:Int):Fek a b c=some (decide (a<b)||decide (c<a)):=by
 unfold Fek;simp only [zG,aP,zA]
theorem out5 (a b c:Int):Fbi a b c=some (decide (a<b)||decide (c<a)):=by
 unfold Fbi;simp only [zG,aP,zA]
theorem out6 (a b c:Int):Fat a b c=some (decide (a<b)||decide (c<a)):=by
 unfold Fat;simp only [zG,aP,zA]
def isW (s:Str):Bool:=decide (s∈kws)
theorem isWord_eq (s:Str):Fel s=some (isW s):=by
 unfold Fel isW kws;simp only [zG,aJc,zA,iteB_id,List.mem_cons,List.not_mem_nil,or_false,Bool.decide_or]
def nmB (c:Int):Bool:=(decide (97<=c)&&decide (c<=122))||(decide (48<=c)&&decide (c<=57))||decide (c=45)
theorem aUr (c:Int):Fe7 c=some (nmB c):=by
 unfold Fe7 nmB;simp only [zG];cases decide (97<=c)<;>cases decide (c<=122)<;>cases decide (48<=c)<;>cases decide (c<=57)<;>cases decide (c=45)<;>rfl
def aNg:Nat->UInt8->Bool:=λ_ c=> !nmB (c.toNat:Int)
theorem isName_L1 (s:Str) (a:okS s) (k:Unit->Option Bool):Ff3 s k (s.length:Int) 0=if qE aNg s 0=true then some false else k ():=by
 unfold Ff3;rw [xA s (λi c=>if aNg i c=true then some (some false)else none) (k ()) a];exact uH aNg (some false) (k ()) s 0;intro b i c d hi;unfold aNg;simp only [zG];rw [yP hi,zS,aMc d,zA,aUr,zA];cases nmB (c.toNat:Int);rfl;simp only [Bool.not_true,zM];rw [fP hi a];rfl;intro b;simp only [zG];rw [yO];rfl
def aEu (s:Str):Bool:=match s with
 | []=>false
 |c::_=>decide (97<=(c.toNat:Int))&&decide ((c.toNat:Int)<=122)
def rW (s:Str):Bool:=decide (s.length<=30)&&aEu s&& !isW s&& !qE aNg s 0
theorem uG (s:Str)(a:okS s):Fav s=some (rW s):=by
 unfold Fav rW;simp only [zG,zA,aRn,xG,isName_L1 s a,isWord_eq]
 cases s with
 |nil=>rfl
 |cons c l=>
  have b:byte' (c::l) 0=some (c.toNat:Int):=aMc (i:=0) rfl;have d:decide ((1:Int)<=((c::l).length:Int))=true:=dT (by simp;omega);have e:decide (((c::l).length:Int)<=30)=decide ((c::l).length<=30):=decide_eq_decide.2 (by omega);have f:decide ((c.toNat:Int)<97)= !decide (97<=(c.toNat:Int)):=by rw [<-decide_not];exact decide_eq_decide.2 (by omega)
  have h:decide (122<(c.toNat:Int))= !decide ((c.toNat:Int)<=122):=by rw [<-decide_not];exact decide_eq_decide.2 (by omega)
  rw [b,d,e];simp only [zA,Bool.true_and,f,h,aEu]
  cases decide ((c::l).length<=30)<;>cases decide (97<=(c.toNat:Int))<;>cases decide ((c.toNat:Int)<=122)<;>cases isW (c::l)<;>cases qE aNg (c::l) 0<;>rfl
theorem aOx (s:Str)(a:okS s):Fb5 s=some (rW s):=by
 unfold Fb5;rw [uG s a];rfl
theorem aVo (s:Str):Fdn s=some (isW s):=by
 unfold Fdn Fg4;simp only [zG,zA,xG];change Fg6 s kws (λ_=>some false) 0=_;unfold Fg6;rw [xA kws (λ_ x=>if decide (x=s)=true then some (some true)else none) (some false) (by decide)]
 ·rw [uH (λ_ x=>decide (x=s))];have e:qE (λ_ x=>decide (x=s)) kws 0=isW s:=by
   rw [Bool.eq_iff_iff,aBb];unfold isW;simp only [decide_eq_true_eq];constructor
   ·rintro⟨j,x,h,rfl⟩;exact qS h
   ·intro h;obtain⟨j,a⟩:=List.getElem?_of_mem h;exact⟨j,s,a,rfl⟩
  rw [e];cases isW s<;>rfl
 ·intro b _ c d hi;simp only [zG];rw [yP hi,zS,yH d,zA]
  cases decide (c=s)
  ·simp only [zM];rw [fP hi (by decide)];rfl
  ·rfl
 ·intro b;simp only [zG];rw [yO];rfl
def badR:Nat->UInt8->Bool:=λi c=> !((decide (97<=(c.toNat:Int))&&decide ((c.toNat:Int)<=122))||(decide (0<(i:Int))&&((decide (48<=(c.toNat:Int))&&decide ((c.toNat:Int)<=57))||decide ((c.toNat:Int)=45))))
theorem aYp (s:Str) (a:okS s) (k:Unit->Option Bool):Ffr s k 0=if qE badR s 0=true then some false else k ():=by
 unfold Ffr;rw [xA s (λi c=>if badR i c=true then some (some false)else none) (k ()) a];exact uH badR (some false) (k ()) s 0;intro b i c d hi;unfold badR;simp only [zG];rw [yP hi,zS,aMc d,zA];rw [fP hi a];cases decide (97<=(c.toNat:Int))<;>cases decide ((c.toNat:Int)<=122)<;>cases decide (0<(i:Int))<;>cases decide (48<=(c.toNat:Int))<;>cases decide ((c.toNat:Int)<=57)<;>cases decide ((c.toNat:Int)=45)<;>rfl;intro b;simp only [zG];rw [yO];rfl
theorem aZ (s:Str)(a:okS s):Fam s=some (rW s):=by
 unfold Fam rW;simp only [zG,zA,xG,aYp s a,aVo]
 cases s with
 |nil=>rfl
 |cons c l=>
  have b:decide (((c::l).length:Int)<=30)=decide ((c::l).length<=30):=decide_eq_decide.2 (by omega);have d:decide ((c::l)≠[])=true:=by simp
  have e:qE badR l (0+1)=qE aNg l (0+1):=aJu l (0+1) λj _ _=>by
   have:decide (0<((0+1+j:Nat):Int))=true:=dT (by omega);unfold badR aNg nmB;rw [this];simp only [Bool.true_and,Bool.or_assoc]
  rw [qE,qE,e,b,d];have f:badR 0 c= !(decide (97<=(c.toNat:Int))&&decide ((c.toNat:Int)<=122)):=by unfold badR;simp
  have h:aNg 0 c= !(aEu (c::l)||(decide (48<=(c.toNat:Int))&&decide ((c.toNat:Int)<=57))||decide ((c.toNat:Int)=45)):=rfl;have i:badR 0 c= !aEu (c::l):=f;rw [h,i]
  cases aEu (c::l)<;>cases qE aNg l (0+1)<;>cases decide ((c::l).length<=30)<;>cases isW (c::l)<;>simp [gQ,gB]
def aQz (l:List eH)(i:Nat)(x:eH):Int:=
 if !(decide (0<=x.At)&&decide (x.At<=1099511627776))|| !(decide (-1125899906842624<=x.N)&&decide (x.N<=1125899906842624))|| !(decide (0<=x.Mark)&&decide (x.Mark<=4))then 9
 else if decide (x.N≠0)&&decide (x.Mark<=1)then 2
 else match i with
  |0=>0
  |j+1=>match l[j]? with
   |some y=>if decide (x.At<=y.At)then 10 else 0
   |none=>0
def serF (l:List eH)(fin:Option (Int×Int)):Option (Int×Int):=cZ (λi x=>if aQz l i x=0 then none else some (some ((i:Int),aQz l i x))) fin l 0
theorem aSd {l:List eH}{i:Nat}(hi:i<l.length)(b:l.length<=9223372036854775807)(c:0<i): ∃y,l[i-1]? =some y/\at' l (IntKind.i64.wrap ((i:Int)-1))=some y:=by
 have a:i-1<l.length:=by omega
 refine⟨l[i-1],gE a,?_⟩;rw [Go.OB.wrap_i64 (by omega) (by omega),show(i:Int)-1=((i-1:Nat):Int)by omega];exact yH (gE a)
theorem check_L1 (s:Series) (a:s.Samples.length<=9223372036854775807) (k:Unit->Option (Int×Int)):Ffh s k (s.Samples.length:Int) 0=serF s.Samples (k ()):=by
 unfold Ffh serF;refine xA s.Samples _ (k ()) a ?_ ?_
 ·intro c i x d hi;simp only [zG,bAg,zA];rw [yP hi,zS,yH d,zA,fP hi a];unfold aQz
  cases decide (0<=x.At)<;>cases decide (x.At<=1099511627776)<;>simp only [Bool.and_true,Bool.and_false,Bool.not_true,Bool.not_false,Bool.true_or,Bool.false_or,zS,zM,zA,if_true]<;>try rfl
  cases decide (-1125899906842624<=x.N)<;>cases decide (x.N<=1125899906842624)<;>simp only [Bool.and_true,Bool.and_false,Bool.not_true,Bool.not_false,Bool.true_or,Bool.false_or,zS,zM,zA,if_true]<;>try rfl
  cases decide (0<=x.Mark)<;>cases decide (x.Mark<=4)<;>simp only [Bool.and_true,Bool.and_false,Bool.not_true,Bool.not_false,zS,zM,if_true,Bool.false_eq_true,if_false]<;>try rfl
  cases decide (x.N≠0)<;>cases decide (x.Mark<=1)<;>simp only [Bool.and_true,Bool.and_false,zS,zM,zA,if_true,Bool.false_eq_true,if_false]<;>try rfl
  all_goals
   cases i with
   |zero=>rfl
   |succ j=>
    obtain⟨y,b,e⟩:=aSd hi a (by omega);have f:decide (0<((j+1:Nat):Int))=true:=dT (by omega);rw [e,f];simp only [Nat.add_sub_cancel]at b;simp only [zS,zA,b]
    cases decide (x.At<=y.At)<;>rfl
 ·intro c;simp only [zG];rw [yO];rfl
theorem aCn (a b c:Int):(decide (a<b)||decide (c<a))= !(decide (b<=a)&&decide (a<=c)):=by
 by_cases d:b<=a<;>by_cases e:a<=c<;>simp [d,e]<;>omega
theorem aLc (x:eH):Fey x=some (if !(decide (0<=x.At)&&decide (x.At<=1099511627776))|| !(decide (-1125899906842624<=x.N)&&decide (x.N<=1125899906842624))|| !(decide (0<=x.Mark)&&decide (x.Mark<=4))then 9
    else if decide (x.N≠0)&&decide (x.Mark<=1)then 2 else 0):=by
 unfold Fey Fhb;simp only [zG,zA,out5,aCn,aP,vH];have h:(!decide (2<=x.Mark))=decide (x.Mark<=1):=by rw [<-decide_not];exact decide_eq_decide.2 (by omega)
 rw [h];cases(!(decide (0<=x.At)&&decide (x.At<=1099511627776)))<;>cases(!(decide (-1125899906842624<=x.N)&&decide (x.N<=1125899906842624)))<;>cases(!(decide (0<=x.Mark)&&decide (x.Mark<=4)))<;>cases decide (x.N≠0)<;>cases decide (x.Mark<=1)<;>rfl
theorem fault_L1 (s:Series) (a:s.Samples.length<=9223372036854775807) (k:Unit->Option (Int×Int)):Fgt s k 0=serF s.Samples (k ()):=by
 unfold Fgt serF;refine xA s.Samples _ (k ()) a ?_ ?_
 ·intro c i x d hi;simp only [zG,aLc,zA];rw [yP hi,zS,yH d,zA,fP hi a];unfold aQz
  cases(!(decide (0<=x.At)&&decide (x.At<=1099511627776))|| !(decide (-1125899906842624<=x.N)&&decide (x.N<=1125899906842624))|| !(decide (0<=x.Mark)&&decide (x.Mark<=4)))
  ·cases(decide (x.N≠0)&&decide (x.Mark<=1))
   ·cases i with
    |zero=>rfl
    |succ j=>
     obtain⟨y,b,e⟩:=aSd hi a (by omega);have f:decide (0<((j+1:Nat):Int))=true:=dT (by omega);rw [e,f];simp only [Nat.add_sub_cancel]at b;simp only [zS,zA,b,Bool.false_eq_true,if_false]
     cases decide (x.At<=y.At)<;>rfl
   ·rfl
  ·rfl
 ·intro c;simp only [zG];rw [yO];rfl
def aSb (s:Series):Option (Int×Int):=if !(decide (1<=s.Den)&&decide (s.Den<=1000000))then some (-1,9)else if decide (20000<(s.Samples.length:Int))then some (-1,3)else serF s.Samples (some (-1,0))
theorem check_eq (s:Series)(a:s.Samples.length<=9223372036854775807):Fd4 s=aSb s:=by
 unfold Fd4 aSb;simp only [zG,zA,bAg,xG,check_L1 s a,kS]
theorem fault_eq (s:Series)(a:s.Samples.length<=9223372036854775807):Fe8 s=aSb s:=by
 unfold Fe8 aSb;simp only [zG,zA,out5,aCn,xG,fault_L1 s a,kS]
theorem aDt {a β:Type}{q:Nat->a->Option (Option β)}{fin:Option β}(b: ∃r,fin=some r)(c: ∀i x r,q i x=some r-> ∃y,r=some y): ∀(l:List a) (i:Nat),∃r,cZ q fin l i=some r
 | [],i=>b
 |x::l,i=>by
  rw [cZ]
  cases h:q i x with
  |none=>exact aDt b c l (i+1)
  |some r=>exact c i x r h
theorem aTp {β:Type}{p:Prop} [Decidable p] {y:β}{r:Option β}(h:(if p then none else some (some y))=some r): ∃z,r=some z:=by
 split at h;cases h;cases h;exact⟨_,rfl⟩
theorem aGu (s:Series): ∃r,aSb s=some r:=by
 unfold aSb serF;split;exact⟨_,rfl⟩;split;exact⟨_,rfl⟩;exact aDt ⟨_,rfl⟩ (λ_ _ r h=>aTp h) _ _
def aCw (s:Series):Int:=((aSb s).getD (0,0)).2
theorem sCheck_eq (s:Series)(a:s.Samples.length<=9223372036854775807):Fes s=some (aCw s):=by
 obtain⟨_,b⟩:=aGu s;unfold Fes aCw;rw [check_eq s a,b];rfl
theorem rSer_eq (s:Series)(a:s.Samples.length<=9223372036854775807):Fdk s=some (aCw s):=by
 obtain⟨_,b⟩:=aGu s;unfold Fdk aCw;rw [fault_eq s a,b];rfl
theorem bAx {a:Type}(p:Nat->a->Bool): ∀(l:List a) (i:Nat),∃n,cZ (λi x=>if p i x=true then some (some (i:Int))else none) (some (-1)) l i=some n/\decide (0<=n)=qE p l i
 | [],i=>⟨-1,rfl,rfl⟩
 |x::l,i=>by
  rw [cZ,qE]
  cases h:p i x with
  |true=>exact⟨i,rfl,by simp⟩
  |false=>simpa using bAx p l (i+1)
theorem contT_eq (l:List gW) (c:gW) (a:l.length<=9223372036854775807):Fe6 l c=some (qE (λ_ y=>decide (y.Name=c.Name)) l 0):=by
 obtain⟨n,b,d⟩:=bAx (λ(_:Nat) (y:gW)=>decide (y.Name=c.Name)) l 0;have e:Fet l c=some n:=by
  unfold Fet;simp only [zG,xG];unfold Fhx;rw [<-b];refine xA l _ _ a ?_ ?_
  ·intro f _ x h hi;unfold Ff1;simp only [zG,zA];rw [yP hi,zS,yH h,zA,fP hi a]
   cases decide (x.Name=c.Name)<;>rfl
  ·intro f;simp only [zG];rw [yO];rfl
 unfold Fe6;rw [e];simp only [zG,zA,d]
def aVe (l:List gW)(i:Nat)(x:gW):Int:=
 if !rW x.Name then 8 else if qE (λ_ y=>decide (y.Name=x.Name)) (l.take i) 0 then 5
 else if aCw x.Series≠0 then aCw x.Series else if !(decide (0<=x.Long)&&decide (x.Long<=1099511627776))then 9 else 0
def aPv (l:List gW):Option Int:=if decide (50<(l.length:Int))then some 3 else cZ (λi x=>if aVe l i x=0 then none else some (some (aVe l i x))) (some 0) l 0
theorem aLp {l:List gW}(h:okL aCr l){i:Nat}{x:gW}(a:l[i]? =some x):okS x.Name/\x.Series.Samples.length<=9223372036854775807:=by
 have:=h.2 x (qS a);exact⟨this.1,this.2.1.2.1⟩
theorem aLx (l:List gW) (h:okL aCr l):Fdl l=aPv l:=by
 unfold Fdl aPv;simp only [zG,xG,kS];congr 1;unfold Fht;refine xA l _ _ h.1 ?_ ?_;intro c i x a hi;obtain⟨d,e⟩:=aLp h a;simp only [zG];rw [yP hi,zS,yH a,zA,uG _ d,zA,bBi l (by omega),fP hi h.1];simp only [zA,contT_eq (l.take i) x (by have:=h.1;simp;omega),sCheck_eq _ e,aRn];unfold aVe;cases rW x.Name;rfl;cases qE (λ_ y=>decide (y.Name=x.Name)) (l.take i) 0;simp only [Bool.not_true,Bool.false_eq_true,if_false,kS];by_cases b:aCw x.Series=0;cases(decide (0<=x.Long)&&decide (x.Long<=1099511627776))<;>simp [b];simp [b];rfl;intro c;simp only [zG];rw [yO];rfl
theorem aXt (l:List gW) (d:l.length<=9223372036854775807) {i:Nat}{x:gW} (f:l[i]? =some x) (k:Unit->Option Int):Fgh l (i:Int) k 0=if qE (λ_ y=>decide (y.Name=x.Name)) (l.take i) 0=true then some 5 else k ():=by
 have hi:=(gS.1 f).1;have b:(l.take i).length=i:=by rw [List.length_take];exact Nat.min_eq_left (Nat.le_of_lt hi)
 have hm:(l.take i).length<=9223372036854775807:=by rw [b];exact Nat.le_trans (Nat.le_of_lt hi) d
 have e:=uH (λ_ y=>decide (y.Name=x.Name)) (some 5) (k ()) (l.take i) 0;rw [<-e];unfold Fgh;refine xA (l.take i) _ (k ()) hm ?_ ?_;intro o j y h a;rw [b]at a;have c:l[j]? =some y:=by rw [List.getElem?_take,if_pos a]at h;exact h
 simp only [zG];rw [yP a,zS,yH c,zA,yH f,zA,fP (n:=l.length) (Nat.lt_trans a hi) d];cases decide (y.Name=x.Name);rfl;rfl;intro o;rw [b];simp only [zG,yO,zM]
theorem aId (l:List gW) (h:okL aCr l):Fdw l=aPv l:=by
 unfold Fdw aPv;simp only [zG,xG,kS];congr 1;unfold Fh8;refine xA l _ _ h.1 ?_ ?_;intro c i x a hi;obtain⟨d,e⟩:=aLp h a;simp only [zG,xG];rw [yP hi,zS,yH a,zA,aZ _ d,zA,aXt l h.1 a,fP hi h.1];simp only [zA,rSer_eq _ e,out6,aCn];unfold aVe;cases rW x.Name;rfl;cases qE (λ_ y=>decide (y.Name=x.Name)) (l.take i) 0;simp only [Bool.not_true,Bool.false_eq_true,if_false,kS];by_cases b:aCw x.Series=0;cases(decide (0<=x.Long)&&decide (x.Long<=1099511627776))<;>simp [b];simp [b];rfl;intro c;simp only [zG];rw [yO];rfl
theorem trkF_some (l:List gW): ∃r,aPv l=some r:=by
 unfold aPv;split;exact⟨_,rfl⟩;exact aDt ⟨_,rfl⟩ (λ_ _ r h=>aTp h) _ _
def aNf (l:List gW):Int:=(aPv l).getD 0
theorem aPu (l:List gW):aPv l=some (aNf l):=by obtain⟨_,h⟩:=trkF_some l;unfold aNf;rw [h];rfl
def aUu (f:Flight):Int:=
 if (decide (f.Tail≠[])&& !rW f.Tail)|| !rW f.Route then 8
 else if !(decide (0<=f.Day)&&decide (f.Day<=1000000))||decide (f.From<0)||decide (f.To<f.From)||decide (4194304<=f.To)then 9
 else if decide (20000<IntKind.i64.wrap (IntKind.i64.wrap (f.To-f.From)+1))||decide (30<(f.Tracks.length:Int))then 3
 else aNf f.Tracks
theorem aLe (f:Flight)(h:aBs f):Fdp f=some (aUu f):=by
 unfold Fdp aUu;simp only [zG,aOx _ h.1,aOx _ h.2.1,fwithin,aLx _ h.2.2.2.2.2,aPu,zA,aP];cases decide (f.Tail≠[])<;>cases rW f.Tail<;>cases rW f.Route<;>simp only [zA,Bool.not_true,Bool.not_false,Bool.and_true,Bool.and_false,Bool.or_true,Bool.or_false,if_true,Bool.false_eq_true,if_false,kS,Bool.or_assoc]<;>(repeat' split)<;>rfl
theorem aHy (f:Flight)(h:aBs f):Fe0 f=some (aUu f):=by
 have e:decide (4194303<f.To)=decide (4194304<=f.To):=decide_eq_decide.2 (by omega);unfold Fe0 aUu;simp only [zG,aZ _ h.1,aZ _ h.2.1,out9,aCn,aId _ h.2.2.2.2.2,aPu,zA,aP,e];cases decide (f.Tail≠[])<;>cases rW f.Tail<;>cases rW f.Route<;>simp only [zA,Bool.not_true,Bool.not_false,Bool.and_true,Bool.and_false,Bool.or_true,Bool.or_false,if_true,Bool.false_eq_true,if_false,kS,Bool.or_assoc]<;>(repeat' split)<;>rfl
structure Good (f:Flight):Prop where
 tail:f.Tail=[]\/rW f.Tail=true
 route:rW f.Route=true
 day:0<=f.Day/\f.Day<=1000000
 frm:0<=f.From/\f.From<=f.To/\f.To<4194304
 span:f.To-f.From+1<=20000
 many:f.Tracks.length<=30
 trk:aNf f.Tracks=0
theorem good_of {f:Flight} (h:aUu f=0):Good f:=by
 unfold aUu at h;split at h;cases h;split at h;cases h;split at h;cases h;rename_i a b c;simp only [Bool.or_eq_true,Bool.and_eq_true,Bool.not_eq_true',decide_eq_true_eq,not_or,not_and,Bool.not_eq_false,Bool.and_eq_false_iff,decide_eq_false_iff_not]at a b c;obtain⟨⟨⟨_,e⟩,_⟩,_⟩:=b;have e:0<=f.From:=by omega
 have i:IntKind.i64.wrap (f.To-f.From)=f.To-f.From:=Go.OB.wrap_i64 (by omega) (by omega);rw [i,Go.OB.wrap_i64 (by omega) (by omega)]at c;refine⟨?_,a.2,⟨by omega,by omega⟩,⟨by omega,by omega,by omega⟩,by omega,by omega,h⟩;by_cases d:f.Tail=[];exact .inl d;exact .inr (a.1 d)
theorem aKr {b:Type} (e:Nat->b->Int): ∀(l:List b) (i:Nat),cZ (λi x=>if e i x=0 then none else some (some (e i x))) (some 0) l i=some 0↔ ∀j x,l[j]? =some x->e (i+j) x=0
 | [],i=>by simp [cZ]
 |x::l,i=>by
  rw [cZ]
  by_cases h:e i x=0
  ·rw [if_pos h];refine(aKr e l (i+1)).trans ?_;constructor
   ·intro q j y a
    cases j with
    |zero=>simp at a;subst a;simpa using h
    |succ j=>have:=q j y (by simpa using a);rwa [show i+(j+1)=i+1+j by omega]
   ·intro q j y a;have:=q (j+1) y (by simpa using a);rwa [show i+(j+1)=i+1+j by omega]at this
  ·rw [if_neg h];constructor
   ·intro q;exact absurd (oI q) h
   ·intro q;exact absurd (by simpa using q 0 x rfl) h
theorem aJi (l:List gW):aNf l=0↔l.length<=50/\ ∀i x,l[i]? =some x->aVe l i x=0:=by
 have e:=aPu l;unfold aPv at e;split at e;rename_i h;simp only [decide_eq_true_eq]at h;have:=oI e;constructor;intro a;omega;intro a;omega;rename_i h;simp only [decide_eq_true_eq]at h;have f:=aKr (aVe l) l 0;simp only [Nat.zero_add]at f;rw [e]at f;constructor;intro a;exact⟨by omega,f.1 (by rw [a])⟩;rintro⟨_,a⟩;exact oI (f.2 a)
theorem aKg (l:List gW) (i:Nat) (x:gW):aVe l i x=0↔rW x.Name=true/\qE (λ_ y=>decide (y.Name=x.Name)) (l.take i) 0=false/\aCw x.Series=0/\0<=x.Long/\x.Long<=1099511627776:=by
 unfold aVe;cases rW x.Name;simp;cases qE (λ_ y=>decide (y.Name=x.Name)) (l.take i) 0;by_cases a:aCw x.Series=0;simp [a];simp [a];simp
theorem aOe (e:Nat->eH->Int): ∀(l:List eH) (i:Nat) (r:Int×Int),cZ (λi x=>if e i x=0 then none else some (some ((i:Int),e i x))) (some (-1,0)) l i=some r->(r.2=0↔ ∀j x,l[j]? =some x->e (i+j) x=0)
 | [],i,r,h=>by cases h;simp
 |x::l,i,r,h=>by
  rw [cZ]at h
  by_cases a:e i x=0
  ·rw [if_pos a]at h;refine(aOe e l (i+1) r h).trans ?_;constructor
   ·intro q j y b
    cases j with
    |zero=>simp at b;subst b;simpa using a
    |succ j=>have:=q j y (by simpa using b);rwa [show i+(j+1)=i+1+j by omega]
   ·intro q j y b;have:=q (j+1) y (by simpa using b);rwa [show i+(j+1)=i+1+j by omega]at this
  ·rw [if_neg a]at h;have c:=oI h;subst c;constructor
   ·intro q;exact absurd q a
   ·intro q;exact absurd (by simpa using q 0 x rfl) a
theorem aZe (s:Series):aCw s=0↔(1<=s.Den/\s.Den<=1000000)/\s.Samples.length<=20000/\ ∀i x,s.Samples[i]? =some x->aQz s.Samples i x=0:=by
 obtain⟨r,a⟩:=aGu s;have e:aCw s=r.2:=by unfold aCw;rw [a];rfl
 rw [e];unfold aSb at a;split at a;rename_i h;cases a;simp only [Bool.not_eq_true',Bool.and_eq_false_iff,decide_eq_false_iff_not]at h;constructor;intro b;cases b;rintro⟨d,_⟩;omega;rename_i h;simp only [Bool.not_eq_true',Bool.and_eq_false_iff,decide_eq_false_iff_not]at h;split at a;rename_i c;simp only [decide_eq_true_eq]at c;cases a;constructor;intro b;cases b;rintro⟨_,d,_⟩;omega;rename_i c;simp only [decide_eq_true_eq]at c;have:=aOe (aQz s.Samples) s.Samples 0 r a;simp only [Nat.zero_add]at this;rw [this];constructor;intro q;exact⟨by omega,by omega,q⟩;intro q;exact q.2.2
theorem aUx {l:List gW}(h:aNf l=0){i j:Nat}{x y:gW}(b:l[i]? =some x)(c:l[j]? =some y)(a:i<j):x.Name≠y.Name:=by
 have:=((aKg l j y).1 (((aJi l).1 h).2 j y c)).2.1;intro e;have t:qE (λ_ z=>decide (z.Name=y.Name)) (l.take j) 0=true:=(aBb _ _ _).2 ⟨i,x,by rw [List.getElem?_take,if_pos a];exact b,by simpa using e⟩;rw [this]at t;cases t
theorem names_pw {l:List gW}(h:aNf l=0):l.Pairwise λa b=>a.Name≠b.Name:=by
 rw [List.pairwise_iff_getElem];intro _ _ hi d c;exact aUx h (gE hi) (gE d) c
end Go.Lf
