/- Laws that the claim stands on; no condition beyond those stated. -/
import Derived.Test.YtibkjjklfhfipacGreatDoorUP
import Derived.Test.YtibkjjklfhfipacGreatDoorPLb
namespace Go.Lf
open Go.OB
def aPb (x:fD):Prop:=i64 x.At/\i64 x.N/\i64 x.Mark
def bAx (x:Series):Prop:=i64 x.Den/\okL (λx=>aPb x) x.Samples
def aFy (x:Track):Prop:=okS x.Name/\bAx x.Series/\i64 x.Long
def kZ (x:Flight):Prop:=okS x.Tail/\okS x.Route/\i64 x.Day/\i64 x.From/\i64 x.To/\okL (λx=>aFy x) x.Tracks
def aVm (x:dS):Prop:=okS x.Track/\i64 x.N
def kws:List Str:=[[112,104,97,115,101],[109,111,118,101],[114,117,108,101],[105,102],[111,114],[97,110,100],[116,114,117,101],[102,97,108,115,101],[115,116,101,97,100,121],[110,111,116],[102,111,114],[119,105,116,104,105,110],[99,111,117,110,116],[111,102],[114,105,115,101,115],[115,105,110,99,101]]
theorem aVt (a b c:Int):Fat a b c=some (decide (b<=a)&&decide (a<=c)):=by
 unfold Fat;simp only [zD,wW,zA]
theorem aJl (a b c:Int):Fa1 a b c=some (decide (b<=a)&&decide (a<=c)):=by
 unfold Fa1;simp only [zD,wW,zA]
theorem bFq (a b c:Int):Fbk a b c=some (decide (b<=a)&&decide (a<=c)):=by
 unfold Fbk;simp only [zD,wW,zA]
theorem out9 (a b c:Int):Fa8 a b c=some (decide (a<b)||decide (c<a)):=by
 unfold Fa8;simp only [zD,aC,zA]
theorem out5 (a b c:Int):Fbs a b c=some (decide (a<b)||decide (c<a)):=by
 unfold Fbs;simp only [zD,aC,zA]
theorem out6 (a b c:Int):Fa0 a b c=some (decide (a<b)||decide (c<a)):=by
 unfold Fa0;simp only [zD,aC,zA]
def isW (s:Str):Bool:=decide (s∈kws)
theorem isWord_eq (s:Str):Ffe s=some (isW s):=by
 unfold Ffe isW kws;simp only [zD,aNv,zA,iteB_id,List.mem_cons,List.not_mem_nil,or_false,Bool.decide_or]
def nmB (c:Int):Bool:=(decide (97<=c)&&decide (c<=122))||(decide (48<=c)&&decide (c<=57))||decide (c=45)
theorem aYs (c:Int):Fer c=some (nmB c):=by
 unfold Fer nmB;simp only [zD];cases decide (97<=c)<;>cases decide (c<=122)<;>cases decide (48<=c)<;>cases decide (c<=57)<;>cases decide (c=45)<;>rfl
def aSh:Nat->UInt8->Bool:=λ_ c=> !nmB (c.toNat:Int)
theorem isName_L1 (s:Str) (a:okS s) (k:Unit->Option Bool):Fgs s k (s.length:Int) 0=if kK aSh s 0=true then some false else k ():=by
 unfold Fgs;rw [yS s (λi c=>if aSh i c=true then some (some false)else none) (k ()) a];exact uB aSh (some false) (k ()) s 0;intro b i c d hi;unfold aSh;simp only [zD];rw [yA hi,zL,aQm d,zA,aYs,zA];cases nmB (c.toNat:Int);rfl;simp only [Bool.not_true,zK];rw [fC hi a];rfl;intro b;simp only [zD];rw [yC];rfl
def aIv (s:Str):Bool:=match s with
 | []=>false
 |c::_=>decide (97<=(c.toNat:Int))&&decide ((c.toNat:Int)<=122)
def pI (s:Str):Bool:=decide (s.length<=30)&&aIv s&& !isW s&& !kK aSh s 0
theorem wH (s:Str)(a:okS s):Faw s=some (pI s):=by
 unfold Faw pI;simp only [zD,zA,aVt,xE,isName_L1 s a,isWord_eq]
 cases s with
 |nil=>rfl
 |cons c l=>
  have b:byte' (c::l) 0=some (c.toNat:Int):=aQm (i:=0) rfl;have d:decide ((1:Int)<=((c::l).length:Int))=true:=dT (by simp;omega);have e:decide (((c::l).length:Int)<=30)=decide ((c::l).length<=30):=decide_eq_decide.2 (by omega);have f:decide ((c.toNat:Int)<97)= !decide (97<=(c.toNat:Int)):=by rw [<-decide_not];exact decide_eq_decide.2 (by omega)
  have h:decide (122<(c.toNat:Int))= !decide ((c.toNat:Int)<=122):=by rw [<-decide_not];exact decide_eq_decide.2 (by omega)
  rw [b,d,e];simp only [zA,Bool.true_and,f,h,aIv]
  cases decide ((c::l).length<=30)<;>cases decide (97<=(c.toNat:Int))<;>cases decide ((c.toNat:Int)<=122)<;>cases isW (c::l)<;>cases kK aSh (c::l) 0<;>rfl
theorem aFz (s:Str)(a:okS s):Fbh s=some (pI s):=by
 unfold Fbh;rw [wH s a];rfl
theorem aZf (s:Str):Ffc s=some (isW s):=by
 unfold Ffc Fhp;simp only [zD,zA,xE];change Ff6 s kws (λ_=>some false) 0=_;unfold Ff6;rw [yS kws (λ_ x=>if decide (x=s)=true then some (some true)else none) (some false) (by decide)]
 ·rw [uB (λ_ x=>decide (x=s))];have e:kK (λ_ x=>decide (x=s)) kws 0=isW s:=by
   rw [Bool.eq_iff_iff,wL];unfold isW;simp only [decide_eq_true_eq];constructor
   ·rintro⟨j,x,h,rfl⟩;exact qS h
   ·intro h;obtain⟨j,a⟩:=List.getElem?_of_mem h;exact⟨j,s,a,rfl⟩
  rw [e];cases isW s<;>rfl
 ·intro b _ c d hi;simp only [zD];rw [yA hi,zL,yB d,zA]
  cases decide (c=s)
  ·simp only [zK];rw [fC hi (by decide)];rfl
  ·rfl
 ·intro b;simp only [zD];rw [yC];rfl
def badR:Nat->UInt8->Bool:=λi c=> !((decide (97<=(c.toNat:Int))&&decide ((c.toNat:Int)<=122))||(decide (0<(i:Int))&&((decide (48<=(c.toNat:Int))&&decide ((c.toNat:Int)<=57))||decide ((c.toNat:Int)=45))))
theorem bBz (s:Str) (a:okS s) (k:Unit->Option Bool):Fgd s k 0=if kK badR s 0=true then some false else k ():=by
 unfold Fgd;rw [yS s (λi c=>if badR i c=true then some (some false)else none) (k ()) a];exact uB badR (some false) (k ()) s 0;intro b i c d hi;unfold badR;simp only [zD];rw [yA hi,zL,aQm d,zA];rw [fC hi a];cases decide (97<=(c.toNat:Int))<;>cases decide ((c.toNat:Int)<=122)<;>cases decide (0<(i:Int))<;>cases decide (48<=(c.toNat:Int))<;>cases decide ((c.toNat:Int)<=57)<;>cases decide ((c.toNat:Int)=45)<;>rfl;intro b;simp only [zD];rw [yC];rfl
theorem aI (s:Str)(a:okS s):Faj s=some (pI s):=by
 unfold Faj pI;simp only [zD,zA,xE,bBz s a,aZf]
 cases s with
 |nil=>rfl
 |cons c l=>
  have b:decide (((c::l).length:Int)<=30)=decide ((c::l).length<=30):=decide_eq_decide.2 (by omega);have d:decide ((c::l)≠[])=true:=by simp
  have e:kK badR l (0+1)=kK aSh l (0+1):=aRj l (0+1) λj _ _=>by
   have:decide (0<((0+1+j:Nat):Int))=true:=dT (by omega);unfold badR aSh nmB;rw [this];simp only [Bool.true_and,Bool.or_assoc]
  rw [kK,kK,e,b,d];have f:badR 0 c= !(decide (97<=(c.toNat:Int))&&decide ((c.toNat:Int)<=122)):=by unfold badR;simp
  have h:aSh 0 c= !(aIv (c::l)||(decide (48<=(c.toNat:Int))&&decide ((c.toNat:Int)<=57))||decide ((c.toNat:Int)=45)):=rfl;have i:badR 0 c= !aIv (c::l):=f;rw [h,i]
  cases aIv (c::l)<;>cases kK aSh l (0+1)<;>cases decide ((c::l).length<=30)<;>cases isW (c::l)<;>simp [gQ,gB]
def aRm (l:List fD)(i:Nat)(x:fD):Int:=
 if !(decide (0<=x.At)&&decide (x.At<=1099511627776))|| !(decide (-1125899906842624<=x.N)&&decide (x.N<=1125899906842624))|| !(decide (0<=x.Mark)&&decide (x.Mark<=4))then 9
 else if decide (x.N≠0)&&decide (x.Mark<=1)then 2
 else match i with
  |0=>0
  |j+1=>match l[j]? with
   |some y=>if decide (x.At<=y.At)then 10 else 0
   |none=>0
def serF (l:List fD)(fin:Option (Int×Int)):Option (Int×Int):=eU (λi x=>if aRm l i x=0 then none else some (some ((i:Int),aRm l i x))) fin l 0
theorem aYc {l:List fD}{i:Nat}(hi:i<l.length)(b:l.length<=9223372036854775807)(c:0<i): ∃y,l[i-1]? =some y/\at' l (IntKind.i64.wrap ((i:Int)-1))=some y:=by
 have a:i-1<l.length:=by omega
 refine⟨l[i-1],gE a,?_⟩;rw [Go.OB.wrap_i64 (by omega) (by omega),show(i:Int)-1=((i-1:Nat):Int)by omega];exact yB (gE a)
theorem check_L1 (s:Series) (a:s.Samples.length<=9223372036854775807) (k:Unit->Option (Int×Int)):Fh4 s k (s.Samples.length:Int) 0=serF s.Samples (k ()):=by
 unfold Fh4 serF;refine yS s.Samples _ (k ()) a ?_ ?_
 ·intro c i x d hi;simp only [zD,bFq,zA];rw [yA hi,zL,yB d,zA,fC hi a];unfold aRm
  cases decide (0<=x.At)<;>cases decide (x.At<=1099511627776)<;>simp only [Bool.and_true,Bool.and_false,Bool.not_true,Bool.not_false,Bool.true_or,Bool.false_or,zL,zK,zA,if_true]<;>try rfl
  cases decide (-1125899906842624<=x.N)<;>cases decide (x.N<=1125899906842624)<;>simp only [Bool.and_true,Bool.and_false,Bool.not_true,Bool.not_false,Bool.true_or,Bool.false_or,zL,zK,zA,if_true]<;>try rfl
  cases decide (0<=x.Mark)<;>cases decide (x.Mark<=4)<;>simp only [Bool.and_true,Bool.and_false,Bool.not_true,Bool.not_false,zL,zK,if_true,Bool.false_eq_true,if_false]<;>try rfl
  cases decide (x.N≠0)<;>cases decide (x.Mark<=1)<;>simp only [Bool.and_true,Bool.and_false,zL,zK,zA,if_true,Bool.false_eq_true,if_false]<;>try rfl
  all_goals
   cases i with
   |zero=>rfl
   |succ j=>
    obtain⟨y,b,e⟩:=aYc hi a (by omega);have f:decide (0<((j+1:Nat):Int))=true:=dT (by omega);rw [e,f];simp only [Nat.add_sub_cancel]at b;simp only [zL,zA,b]
    cases decide (x.At<=y.At)<;>rfl
 ·intro c;simp only [zD];rw [yC];rfl
theorem aAu (a b c:Int):(decide (a<b)||decide (c<a))= !(decide (b<=a)&&decide (a<=c)):=by
 by_cases d:b<=a<;>by_cases e:a<=c<;>simp [d,e]<;>omega
theorem aOh (x:fD):Ffw x=some (if !(decide (0<=x.At)&&decide (x.At<=1099511627776))|| !(decide (-1125899906842624<=x.N)&&decide (x.N<=1125899906842624))|| !(decide (0<=x.Mark)&&decide (x.Mark<=4))then 9
    else if decide (x.N≠0)&&decide (x.Mark<=1)then 2 else 0):=by
 unfold Ffw Fgf;simp only [zD,zA,out5,aAu,aC,wW];have h:(!decide (2<=x.Mark))=decide (x.Mark<=1):=by rw [<-decide_not];exact decide_eq_decide.2 (by omega)
 rw [h];cases(!(decide (0<=x.At)&&decide (x.At<=1099511627776)))<;>cases(!(decide (-1125899906842624<=x.N)&&decide (x.N<=1125899906842624)))<;>cases(!(decide (0<=x.Mark)&&decide (x.Mark<=4)))<;>cases decide (x.N≠0)<;>cases decide (x.Mark<=1)<;>rfl
theorem fault_L1 (s:Series) (a:s.Samples.length<=9223372036854775807) (k:Unit->Option (Int×Int)):Fid s k 0=serF s.Samples (k ()):=by
 unfold Fid serF;refine yS s.Samples _ (k ()) a ?_ ?_
 ·intro c i x d hi;simp only [zD,aOh,zA];rw [yA hi,zL,yB d,zA,fC hi a];unfold aRm
  cases(!(decide (0<=x.At)&&decide (x.At<=1099511627776))|| !(decide (-1125899906842624<=x.N)&&decide (x.N<=1125899906842624))|| !(decide (0<=x.Mark)&&decide (x.Mark<=4)))
  ·cases(decide (x.N≠0)&&decide (x.Mark<=1))
   ·cases i with
    |zero=>rfl
    |succ j=>
     obtain⟨y,b,e⟩:=aYc hi a (by omega);have f:decide (0<((j+1:Nat):Int))=true:=dT (by omega);rw [e,f];simp only [Nat.add_sub_cancel]at b;simp only [zL,zA,b,Bool.false_eq_true,if_false]
     cases decide (x.At<=y.At)<;>rfl
   ·rfl
  ·rfl
 ·intro c;simp only [zD];rw [yC];rfl
def bBf (s:Series):Option (Int×Int):=if !(decide (1<=s.Den)&&decide (s.Den<=1000000))then some (-1,9)else if decide (20000<(s.Samples.length:Int))then some (-1,3)else serF s.Samples (some (-1,0))
theorem check_eq (s:Series)(a:s.Samples.length<=9223372036854775807):Fea s=bBf s:=by
 unfold Fea bBf;simp only [zD,zA,bFq,xE,check_L1 s a,dZ]
theorem fault_eq (s:Series)(a:s.Samples.length<=9223372036854775807):Fdz s=bBf s:=by
 unfold Fdz bBf;simp only [zD,zA,out5,aAu,xE,fault_L1 s a,dZ]
theorem wK {a β:Type}{q:Nat->a->Option (Option β)}{fin:Option β}(b: ∃r,fin=some r)(c: ∀i x r,q i x=some r-> ∃y,r=some y): ∀(l:List a) (i:Nat),∃r,eU q fin l i=some r
 | [],i=>b
 |x::l,i=>by
  rw [eU]
  cases h:q i x with
  |none=>exact wK b c l (i+1)
  |some r=>exact c i x r h
theorem aKa {β:Type}{p:Prop} [Decidable p] {y:β}{r:Option β}(h:(if p then none else some (some y))=some r): ∃z,r=some z:=by
 split at h;cases h;cases h;exact⟨_,rfl⟩
theorem aLi (s:Series): ∃r,bBf s=some r:=by
 unfold bBf serF;split;exact⟨_,rfl⟩;split;exact⟨_,rfl⟩;exact wK ⟨_,rfl⟩ (λ_ _ r h=>aKa h) _ _
def aAn (s:Series):Int:=((bBf s).getD (0,0)).2
theorem sCheck_eq (s:Series)(a:s.Samples.length<=9223372036854775807):Ffk s=some (aAn s):=by
 obtain⟨_,b⟩:=aLi s;unfold Ffk aAn;rw [check_eq s a,b];rfl
theorem rSer_eq (s:Series)(a:s.Samples.length<=9223372036854775807):Ffb s=some (aAn s):=by
 obtain⟨_,b⟩:=aLi s;unfold Ffb aAn;rw [fault_eq s a,b];rfl
theorem aMx {a:Type}(p:Nat->a->Bool): ∀(l:List a) (i:Nat),∃n,eU (λi x=>if p i x=true then some (some (i:Int))else none) (some (-1)) l i=some n/\decide (0<=n)=kK p l i
 | [],i=>⟨-1,rfl,rfl⟩
 |x::l,i=>by
  rw [eU,kK]
  cases h:p i x with
  |true=>exact⟨i,rfl,by simp⟩
  |false=>simpa using aMx p l (i+1)
theorem contT_eq (l:List Track) (c:Track) (a:l.length<=9223372036854775807):Ffm l c=some (kK (λ_ y=>decide (y.Name=c.Name)) l 0):=by
 obtain⟨n,b,d⟩:=aMx (λ(_:Nat) (y:Track)=>decide (y.Name=c.Name)) l 0;have e:Feh l c=some n:=by
  unfold Feh;simp only [zD,xE];unfold Fiy;rw [<-b];refine yS l _ _ a ?_ ?_
  ·intro f _ x h hi;unfold Fgp;simp only [zD,zA];rw [yA hi,zL,yB h,zA,fC hi a]
   cases decide (x.Name=c.Name)<;>rfl
  ·intro f;simp only [zD];rw [yC];rfl
 unfold Ffm;rw [e];simp only [zD,zA,d]
def aXv (l:List Track)(i:Nat)(x:Track):Int:=
 if !pI x.Name then 8 else if kK (λ_ y=>decide (y.Name=x.Name)) (l.take i) 0 then 5
 else if aAn x.Series≠0 then aAn x.Series else if !(decide (0<=x.Long)&&decide (x.Long<=1099511627776))then 9 else 0
def aXc (l:List Track):Option Int:=if decide (50<(l.length:Int))then some 3 else eU (λi x=>if aXv l i x=0 then none else some (some (aXv l i x))) (some 0) l 0
theorem aOj {l:List Track}(h:okL aFy l){i:Nat}{x:Track}(a:l[i]? =some x):okS x.Name/\x.Series.Samples.length<=9223372036854775807:=by
 have:=h.2 x (qS a);exact⟨this.1,this.2.1.2.1⟩
theorem aPe (l:List Track) (h:okL aFy l):Fep l=aXc l:=by
 unfold Fep aXc;simp only [zD,xE,dZ];congr 1;unfold Fi9;refine yS l _ _ h.1 ?_ ?_;intro c i x a hi;obtain⟨d,e⟩:=aOj h a;simp only [zD];rw [yA hi,zL,yB a,zA,wH _ d,zA,aNg l (by omega),fC hi h.1];simp only [zA,contT_eq (l.take i) x (by have:=h.1;simp;omega),sCheck_eq _ e,aVt];unfold aXv;cases pI x.Name;rfl;cases kK (λ_ y=>decide (y.Name=x.Name)) (l.take i) 0;simp only [Bool.not_true,Bool.false_eq_true,if_false,dZ];by_cases b:aAn x.Series=0;cases(decide (0<=x.Long)&&decide (x.Long<=1099511627776))<;>simp [b];simp [b];rfl;intro c;simp only [zD];rw [yC];rfl
theorem bCu (l:List Track) (d:l.length<=9223372036854775807) {i:Nat}{x:Track} (f:l[i]? =some x) (k:Unit->Option Int):Fhq l (i:Int) k 0=if kK (λ_ y=>decide (y.Name=x.Name)) (l.take i) 0=true then some 5 else k ():=by
 have hi:=(gS.1 f).1;have b:(l.take i).length=i:=by rw [List.length_take];exact Nat.min_eq_left (Nat.le_of_lt hi)
 have hm:(l.take i).length<=9223372036854775807:=by rw [b];exact Nat.le_trans (Nat.le_of_lt hi) d
 have e:=uB (λ_ y=>decide (y.Name=x.Name)) (some 5) (k ()) (l.take i) 0;rw [<-e];unfold Fhq;refine yS (l.take i) _ (k ()) hm ?_ ?_;intro o j y h a;rw [b]at a;have c:l[j]? =some y:=by rw [List.getElem?_take,if_pos a]at h;exact h
 simp only [zD];rw [yA a,zL,yB c,zA,yB f,zA,fC (n:=l.length) (Nat.lt_trans a hi) d];cases decide (y.Name=x.Name);rfl;rfl;intro o;rw [b];simp only [zD,yC,zK]
theorem aMp (l:List Track) (h:okL aFy l):Ffx l=aXc l:=by
 unfold Ffx aXc;simp only [zD,xE,dZ];congr 1;unfold Fiu;refine yS l _ _ h.1 ?_ ?_;intro c i x a hi;obtain⟨d,e⟩:=aOj h a;simp only [zD,xE];rw [yA hi,zL,yB a,zA,aI _ d,zA,bCu l h.1 a,fC hi h.1];simp only [zA,rSer_eq _ e,out6,aAu];unfold aXv;cases pI x.Name;rfl;cases kK (λ_ y=>decide (y.Name=x.Name)) (l.take i) 0;simp only [Bool.not_true,Bool.false_eq_true,if_false,dZ];by_cases b:aAn x.Series=0;cases(decide (0<=x.Long)&&decide (x.Long<=1099511627776))<;>simp [b];simp [b];rfl;intro c;simp only [zD];rw [yC];rfl
theorem trkF_some (l:List Track): ∃r,aXc l=some r:=by
 unfold aXc;split;exact⟨_,rfl⟩;exact wK ⟨_,rfl⟩ (λ_ _ r h=>aKa h) _ _
def aGu (l:List Track):Int:=(aXc l).getD 0
theorem aVg (l:List Track):aXc l=some (aGu l):=by obtain⟨_,h⟩:=trkF_some l;unfold aGu;rw [h];rfl
def rF (f:Flight):Int:=
 if (decide (f.Tail≠[])&& !pI f.Tail)|| !pI f.Route then 8
 else if !(decide (0<=f.Day)&&decide (f.Day<=1000000))||decide (f.From<0)||decide (f.To<f.From)||decide (4194304<=f.To)then 9
 else if decide (20000<IntKind.i64.wrap (IntKind.i64.wrap (f.To-f.From)+1))||decide (30<(f.Tracks.length:Int))then 3
 else aGu f.Tracks
theorem aDx (f:Flight)(h:kZ f):Fd9 f=some (rF f):=by
 unfold Fd9 rF;simp only [zD,aFz _ h.1,aFz _ h.2.1,aJl,aPe _ h.2.2.2.2.2,aVg,zA,aC];cases decide (f.Tail≠[])<;>cases pI f.Tail<;>cases pI f.Route<;>simp only [zA,Bool.not_true,Bool.not_false,Bool.and_true,Bool.and_false,Bool.or_true,Bool.or_false,if_true,Bool.false_eq_true,if_false,dZ,Bool.or_assoc]<;>(repeat' split)<;>rfl
theorem aDo (f:Flight)(h:kZ f):Feo f=some (rF f):=by
 have e:decide (4194303<f.To)=decide (4194304<=f.To):=decide_eq_decide.2 (by omega);unfold Feo rF;simp only [zD,aI _ h.1,aI _ h.2.1,out9,aAu,aMp _ h.2.2.2.2.2,aVg,zA,aC,e];cases decide (f.Tail≠[])<;>cases pI f.Tail<;>cases pI f.Route<;>simp only [zA,Bool.not_true,Bool.not_false,Bool.and_true,Bool.and_false,Bool.or_true,Bool.or_false,if_true,Bool.false_eq_true,if_false,dZ,Bool.or_assoc]<;>(repeat' split)<;>rfl
structure Good (f:Flight):Prop where
 tail:f.Tail=[]\/pI f.Tail=true
 route:pI f.Route=true
 day:0<=f.Day/\f.Day<=1000000
 frm:0<=f.From/\f.From<=f.To/\f.To<4194304
 span:f.To-f.From+1<=20000
 many:f.Tracks.length<=30
 trk:aGu f.Tracks=0
theorem good_of {f:Flight} (h:rF f=0):Good f:=by
 unfold rF at h;split at h;cases h;split at h;cases h;split at h;cases h;rename_i a b c;simp only [Bool.or_eq_true,Bool.and_eq_true,Bool.not_eq_true',decide_eq_true_eq,not_or,not_and,Bool.not_eq_false,Bool.and_eq_false_iff,decide_eq_false_iff_not]at a b c;obtain⟨⟨⟨_,e⟩,_⟩,_⟩:=b;have e:0<=f.From:=by omega
 have i:IntKind.i64.wrap (f.To-f.From)=f.To-f.From:=Go.OB.wrap_i64 (by omega) (by omega);rw [i,Go.OB.wrap_i64 (by omega) (by omega)]at c;refine⟨?_,a.2,⟨by omega,by omega⟩,⟨by omega,by omega,by omega⟩,by omega,by omega,h⟩;by_cases d:f.Tail=[];exact .inl d;exact .inr (a.1 d)
theorem aOr {b:Type} (e:Nat->b->Int): ∀(l:List b) (i:Nat),eU (λi x=>if e i x=0 then none else some (some (e i x))) (some 0) l i=some 0↔ ∀j x,l[j]? =some x->e (i+j) x=0
 | [],i=>by simp [eU]
 |x::l,i=>by
  rw [eU]
  by_cases h:e i x=0
  ·rw [if_pos h];refine(aOr e l (i+1)).trans ?_;constructor
   ·intro q j y a
    cases j with
    |zero=>simp at a;subst a;simpa using h
    |succ j=>have:=q j y (by simpa using a);rwa [show i+(j+1)=i+1+j by omega]
   ·intro q j y a;have:=q (j+1) y (by simpa using a);rwa [show i+(j+1)=i+1+j by omega]at this
  ·rw [if_neg h];constructor
   ·intro q;exact absurd (oI q) h
   ·intro q;exact absurd (by simpa using q 0 x rfl) h
theorem aCg (l:List Track):aGu l=0↔l.length<=50/\ ∀i x,l[i]? =some x->aXv l i x=0:=by
 have e:=aVg l;unfold aXc at e;split at e;rename_i h;simp only [decide_eq_true_eq]at h;have:=oI e;constructor;intro a;omega;intro a;omega;rename_i h;simp only [decide_eq_true_eq]at h;have f:=aOr (aXv l) l 0;simp only [Nat.zero_add]at f;rw [e]at f;constructor;intro a;exact⟨by omega,f.1 (by rw [a])⟩;rintro⟨_,a⟩;exact oI (f.2 a)
theorem aAj (l:List Track) (i:Nat) (x:Track):aXv l i x=0↔pI x.Name=true/\kK (λ_ y=>decide (y.Name=x.Name)) (l.take i) 0=false/\aAn x.Series=0/\0<=x.Long/\x.Long<=1099511627776:=by
 unfold aXv;cases pI x.Name;simp;cases kK (λ_ y=>decide (y.Name=x.Name)) (l.take i) 0;by_cases a:aAn x.Series=0;simp [a];simp [a];simp
theorem aTr (e:Nat->fD->Int): ∀(l:List fD) (i:Nat) (r:Int×Int),eU (λi x=>if e i x=0 then none else some (some ((i:Int),e i x))) (some (-1,0)) l i=some r->(r.2=0↔ ∀j x,l[j]? =some x->e (i+j) x=0)
 | [],i,r,h=>by cases h;simp
 |x::l,i,r,h=>by
  rw [eU]at h
  by_cases a:e i x=0
  ·rw [if_pos a]at h;refine(aTr e l (i+1) r h).trans ?_;constructor
   ·intro q j y b
    cases j with
    |zero=>simp at b;subst b;simpa using a
    |succ j=>have:=q j y (by simpa using b);rwa [show i+(j+1)=i+1+j by omega]
   ·intro q j y b;have:=q (j+1) y (by simpa using b);rwa [show i+(j+1)=i+1+j by omega]at this
  ·rw [if_neg a]at h;have c:=oI h;subst c;constructor
   ·intro q;exact absurd q a
   ·intro q;exact absurd (by simpa using q 0 x rfl) a
theorem aNk (s:Series):aAn s=0↔(1<=s.Den/\s.Den<=1000000)/\s.Samples.length<=20000/\ ∀i x,s.Samples[i]? =some x->aRm s.Samples i x=0:=by
 obtain⟨r,a⟩:=aLi s;have e:aAn s=r.2:=by unfold aAn;rw [a];rfl
 rw [e];unfold bBf at a;split at a;rename_i h;cases a;simp only [Bool.not_eq_true',Bool.and_eq_false_iff,decide_eq_false_iff_not]at h;constructor;intro b;cases b;rintro⟨d,_⟩;omega;rename_i h;simp only [Bool.not_eq_true',Bool.and_eq_false_iff,decide_eq_false_iff_not]at h;split at a;rename_i c;simp only [decide_eq_true_eq]at c;cases a;constructor;intro b;cases b;rintro⟨_,d,_⟩;omega;rename_i c;simp only [decide_eq_true_eq]at c;have:=aTr (aRm s.Samples) s.Samples 0 r a;simp only [Nat.zero_add]at this;rw [this];constructor;intro q;exact⟨by omega,by omega,q⟩;intro q;exact q.2.2
theorem bBa {l:List Track}(h:aGu l=0){i j:Nat}{x y:Track}(b:l[i]? =some x)(c:l[j]? =some y)(a:i<j):x.Name≠y.Name:=by
 have:=((aAj l j y).1 (((aCg l).1 h).2 j y c)).2.1;intro e;have t:kK (λ_ z=>decide (z.Name=y.Name)) (l.take j) 0=true:=(wL _ _ _).2 ⟨i,x,by rw [List.getElem?_take,if_pos a];exact b,by simpa using e⟩;rw [this]at t;cases t
theorem aPa {l:List Track}(h:aGu l=0):l.Pairwise λa b=>a.Name≠b.Name:=by
 rw [List.pairwise_iff_getElem];intro _ _ hi d c;exact bBa h (gE hi) (gE d) c
def aDe (x:Mask):Prop:=True/\i64 x.Days/\okL (λx=>okS x) x.Hide/\okL (λx=>aVm x) x.Grains/\i64 x.Least
def namE (l:List Str)(i:Nat)(x:Str):Int:=if !pI x then 8 else if kK (λ_ y=>decide (x=y)) (l.take i) 0 then 5 else 0
def namF (l:List Str)(fin:Option Int):Option Int:=eU (λi x=>if namE l i x=0 then none else some (some (namE l i x))) fin l 0
theorem bBh (l:List Str) (c:Str) (a:l.length<=9223372036854775807):Fau l c=some (kK (λ_ y=>decide (c=y)) l 0):=by
 obtain⟨n,b,d⟩:=aMx (λ(_:Nat) (y:Str)=>decide (c=y)) l 0;have e:Fai l c=some n:=by
  unfold Fai;simp only [zD,xE];unfold Fdq;rw [<-b];refine yS l _ _ a ?_ ?_
  ·intro f _ x h hi;simp only [zD];rw [yA hi,zL,yB h,zA,fC hi a]
   cases decide (c=x)<;>rfl
  ·intro f;simp only [zD];rw [yC];rfl
 unfold Fau;rw [e];simp only [zD,zA,d]
theorem aSd (l:List Str) (h:okL okS l):Fe0 l=if decide (30<(l.length:Int))=true then some 3 else namF l (some 0):=by
 unfold Fe0 namF;simp only [zD,xE,dZ];congr 1;unfold Fjh;refine yS l _ _ h.1 ?_ ?_;intro b i x a hi;have c:=h.2 x (qS a);simp only [zD];rw [yA hi,zL,yB a,zA,aFz _ c,zA,aNg l (by omega),fC hi h.1];simp only [zA,bBh (l.take i) x (by have:=h.1;simp;omega)];unfold namE;cases pI x;rfl;cases kK (λ_ y=>decide (x=y)) (l.take i) 0<;>rfl;intro b;simp only [zD];rw [yC];rfl
theorem contG_eq (l:List dS) (c:dS) (a:l.length<=9223372036854775807):Ffi l c=some (kK (λ_ y=>decide (y.Track=c.Track)) l 0):=by
 obtain⟨n,b,d⟩:=aMx (λ(_:Nat) (y:dS)=>decide (y.Track=c.Track)) l 0;have e:Fem l c=some n:=by
  unfold Fem;simp only [zD,xE];unfold Fi4;rw [<-b];refine yS l _ _ a ?_ ?_
  ·intro f _ x h hi;unfold Fg1;simp only [zD,zA];rw [yA hi,zL,yB h,zA,fC hi a]
   cases decide (x.Track=c.Track)<;>rfl
  ·intro f;simp only [zD];rw [yC];rfl
 unfold Ffi;rw [e];simp only [zD,zA,d]
def aRu (l:List dS)(i:Nat)(x:dS):Int:=
 if !pI x.Track then 8 else if kK (λ_ y=>decide (y.Track=x.Track)) (l.take i) 0 then 5 else if !(decide (1<=x.N)&&decide (x.N<=1125899906842624))then 9 else 0
def graF (l:List dS)(fin:Option Int):Option Int:=eU (λi x=>if aRu l i x=0 then none else some (some (aRu l i x))) fin l 0
def bDu (m:Mask):Option Int:=if !(decide (1<=m.Least)&&decide (m.Least<=1000))then some 9 else some 0
def bBq (m:Mask):Option Int:=if decide (30<(m.Grains.length:Int))=true then some 3 else graF m.Grains (bDu m)
def aHc (m:Mask):Option Int:=
 if !(decide (1<=m.Days)&&decide (m.Days<=1000000))then some 9 else if decide (30<(m.Hide.length:Int))=true then some 3 else namF m.Hide (bBq m)
theorem aUh (e:Nat->Str->Int): ∀(l:List Str) (i:Nat) (fin:Option Int),eU (λi x=>if e i x=0 then none else some (some (e i x))) fin l i=
  gB (eU (λi x=>if e i x=0 then none else some (some (e i x))) (some 0) l i) λr=>if r=0 then fin else some r
 | [],i,fin=>by simp [eU,zA]
 |x::l,i,fin=>by
  rw [eU,eU]
  by_cases h:e i x=0
  ·simp only [h,if_true];exact aUh e l (i+1) fin
  ·simp only [h,if_false,zA]
theorem aJn (m:Mask) (h:aDe m):Fft m=aHc m:=by
 unfold Fft aHc;simp only [zD,xE,aJl,zA,aSd _ h.2.2.1];have g:Fg6 m (λ_=>gQ (!(decide (1<=m.Least)&&decide (m.Least<=1000))) (some 9) (some 0)) (m.Grains.length:Int) 0=graF m.Grains (bDu m):=by
  unfold Fg6 graF;refine yS m.Grains _ _ h.2.2.2.1.1 ?_ ?_
  ·intro d i x a hi;have e:=(h.2.2.2.1.2 x (qS a)).1;simp only [zD];rw [yA hi,zL,yB a,zA,aFz _ e,zA,aNg m.Grains (by omega),fC hi h.2.2.2.1.1];simp only [zA,contG_eq (m.Grains.take i) x (by have:=h.2.2.2.1.1;simp;omega),aJl];unfold aRu
   cases pI x.Track
   ·rfl
   ·cases kK (λ_ y=>decide (y.Track=x.Track)) (m.Grains.take i) 0
    ·cases(decide (1<=x.N)&&decide (x.N<=1125899906842624))<;>rfl
    ·rfl
  ·intro d;simp only [zD];rw [yC,zK];unfold bDu;rw [dZ]
 rw [g];simp only [dZ]
 congr 1
 by_cases c:decide (30<(m.Hide.length:Int))=true
 ·rw [if_pos c,if_pos c];simp [zA]
 ·rw [if_neg c,if_neg c];unfold namF;rw [aUh _ _ _ (bBq m)]
  congr 1
  funext r
  by_cases b:r=0
  ·simp [b,bBq]
  ·simp [b]
theorem aZk (l:List Str) (d:l.length<=9223372036854775807) {i:Nat}{x:Str} (f:l[i]? =some x):Fc5 l (i:Int)=some (kK (λ_ y=>decide (x=y)) (l.take i) 0):=by
 have hi:=(gS.1 f).1;have b:(l.take i).length=i:=by rw [List.length_take];exact Nat.min_eq_left (Nat.le_of_lt hi)
 have hm:(l.take i).length<=9223372036854775807:=by rw [b];exact Nat.le_trans (Nat.le_of_lt hi) d
 have e:=uB (λ_ y=>decide (x=y)) (some true) (some false) (l.take i) 0;unfold Fc5;rw [xE];have q:Fgz l (i:Int) (λ_=>some false) 0=eU (λi y=>if decide (x=y)=true then some (some true)else none) (some false) (l.take i) 0:=by
  unfold Fgz;refine yS (l.take i) _ (some false) hm ?_ ?_
  ·intro k j y h a;rw [b]at a;have c:l[j]? =some y:=by rw [List.getElem?_take,if_pos a]at h;exact h
   simp only [zD];rw [yA a,zL,yB c,zA,yB f,zA,fC (n:=l.length) (Nat.lt_trans a hi) d,show decide (y=x)=decide (x=y)from decide_eq_decide.2 ⟨Eq.symm,Eq.symm⟩]
   cases decide (x=y)
   ·rfl
   ·rfl
  ·intro k;rw [b];simp only [zD,yC,zK]
 rw [q,e]
 cases kK (λ_ y=>decide (x=y)) (l.take i) 0<;>rfl
theorem bAd (x:Str): ∀(l:List dS) (i:Nat),kK (λ_ y=>decide (x=y)) (l.map dS.Track) i=kK (λ_ y=>decide (y.Track=x)) l i
 | [],_=>rfl
 |y::l,i=>by
  rw [List.map_cons,kK,kK,bAd x l (i+1),show decide (x=y.Track)=decide (y.Track=x)from decide_eq_decide.2 ⟨Eq.symm,Eq.symm⟩]
theorem aSi (m:Mask) (h:aDe m) (l:m.Grains.length<=9223372036854775807):Ffh m=aHc m:=by
 unfold Ffh aHc;simp only [zD,xE,out9,aAu,zA,dZ]
 congr 1
 congr 1
 have g: ¬decide (30<(m.Grains.length:Int))=true->Fec m (λ_=>if (!(decide (1<=m.Least)&&decide (m.Least<=1000)))=true then some 9 else some 0) ([],0)=graF m.Grains (bDu m):=by
  intro d;have d:m.Grains.length<=30:=by simp at d;omega
  unfold Fec graF;rw [<-aLl (f:=λi x _=>match (if aRu m.Grains i x=0 then none else some (some (aRu m.Grains i x)):Option (Option Int))with |some r=> .inr r|none=> .inl ()) (fin:=λ_=>bDu m) _ (λi x=>by cases(if aRu m.Grains i x=0 then(none:Option (Option Int))else some (some (aRu m.Grains i x)))<;>rfl)];refine sQ (λ(i:Nat) (_:Unit)=>((m.Grains.take i).map dS.Track,(i:Int))) m.Grains _ _ l (λe i _ x a=>?_) (λe _=>?_) ()
  ·have hi:=(gS.1 a).1;have j:=(h.2.2.2.1.2 x (qS a)).1;have n:m.Grains.take (i+1)=m.Grains.take i++[x]:=by rw [List.take_add_one,a];rfl
   have p:app' 16 ((m.Grains.take i).map dS.Track) [x.Track]=some ((m.Grains.take (i+1)).map dS.Track):=by
    unfold app';rw [if_pos,n]
    ·simp
    ·simp [maxLen];omega
   have o:((m.Grains.take (i+1)).map dS.Track).length=i+1:=by simp;omega
   have b:((m.Grains.take (i+1)).map dS.Track)[i]? =some x.Track:=by
    rw [n,List.map_append,List.getElem?_append_right (by simp;omega)];simp;rw [show i-min i m.Grains.length=0 by omega];rfl
   have k:((m.Grains.take (i+1)).map dS.Track).take i=(m.Grains.take i).map dS.Track:=by
    rw [<-List.map_take,List.take_take,Nat.min_eq_left (by omega)]
   simp only [zD];rw [yA hi,zL,yB a,zA,p,zA,yB b,zA,aI _ j,zA,aZk _ (by omega) b,zA,zA,k,bAd,fC hi l];simp only [out9,aAu,zA];unfold aRu
   cases pI x.Track
   ·rfl
   ·cases kK (λ_ y=>decide (y.Track=x.Track)) (m.Grains.take i) 0
    ·cases(decide (1<=x.N)&&decide (x.N<=1125899906842624))<;>rfl
    ·rfl
  ·simp only [zD,List.take_length];rw [yC,zK];rfl
 have q:(if decide (30<(m.Grains.length:Int))=true then some 3 else Fec m (λ_=>if (!(decide (1<=m.Least)&&decide (m.Least<=1000)))=true then some 9 else some 0) ([],0))=bBq m:=by
  unfold bBq;split
  ·rfl
  ·rename_i c;rw [g c]
 rw [q];unfold Fjj namF;refine yS m.Hide _ _ h.2.2.1.1 ?_ ?_
 ·intro e i x a hi;have j:=h.2.2.1.2 x (qS a);simp only [zD];rw [yA hi,zL,yB a,zA,aI _ j,zA,aZk _ h.2.2.1.1 a,zA,fC hi h.2.2.1.1];unfold namE
  cases pI x
  ·rfl
  ·cases kK (λ_ y=>decide (x=y)) (m.Hide.take i) 0<;>rfl
 ·intro e;simp only [zD];rw [yC];rfl
def co (n N:Int):Int:=max (N-N%n) (-1125899906842624)
theorem tm_neg (N n:Int) (a:1<=n):(if N.tmod n<0 then N.tmod n+n else N.tmod n)=N%n:=by
 have c:=Int.emod_nonneg N (b:=n) (by omega);have d:=Int.emod_lt_of_pos N (b:=n) (by omega);rw [Int.tmod_eq_emod];have e:(n.natAbs:Int)=n:=Int.natAbs_of_nonneg (by omega)
 by_cases h:0<=N\/n ∣ N
 ·rw [if_pos h];split<;>omega
 ·rw [if_neg h];have:N%n≠0:=by
   intro q;exact h (.inr (Int.dvd_of_emod_eq_zero q))
  split<;>omega
theorem coarse_eq (N n:Int) (e: -1125899906842624<=N/\N<=1125899906842624) (a:1<=n/\n<=1125899906842624):Fd0 N n=some (co n N):=by
 have f:=Int.emod_nonneg N (b:=n) (by omega);have h:=Int.emod_lt_of_pos N (b:=n) (by omega);have t:=tm_neg N n a.1;unfold Fd0 aEr co;rw [if_neg (by omega),zA];simp only [zD,xC];have d:(if N.tmod n<0 then some (IntKind.i64.wrap (N.tmod n+n))else some (N.tmod n))=some (N%n):=by
  by_cases c:N.tmod n<0
  ·rw [if_pos c]at t⊢;rw [Go.OB.wrap_i64 (by omega) (by omega),t]
  ·rw [if_neg c]at t⊢;rw [t]
 rw [d,zA,Go.OB.wrap_i64 (by omega) (by omega)]
theorem co_rng {n N:Int}(a: -1125899906842624<=N/\N<=1125899906842624)(c:1<=n): -1125899906842624<=co n N/\co n N<=1125899906842624:=by
 have d:=Int.emod_nonneg N (b:=n) (by omega);unfold co;omega
def cs (n:Int)(x:fD):fD:=if decide (2<=x.Mark)then⟨x.At,co n x.N,x.Mark⟩else x
theorem clone_eq (l:List fD) (h:l.length<=20000):Fdn l=some l:=by
 have e:app' 24 ([]:List fD) l=some l:=by
  unfold app';rw [if_pos]
  ·rfl
  ·constructor
   ·simp [maxLen];omega
   ·simp;omega
 unfold Fdn nilO;rw [e];simp only [zA,zL,zK]
 cases l<;>simp

theorem masked_L3 (g:dS) (f:1<=g.N/\g.N<=1125899906842624) (l:List fD) (n:l.length<=20000) (h: ∀x∈l,-1125899906842624<=x.N/\x.N<=1125899906842624):
  Fhz g (l.length:Int) (0,l)=some (l.map (cs g.N)):=by
 unfold Fhz;refine xB (λi=>((i:Int),(l.take i).map (cs g.N)++l.drop i)) l (some (l.map (cs g.N))) (by omega) ?_ ?_
 ·intro j i x b hi;have a:((l.take i).map (cs g.N)).length=i:=by simp;omega
  have d:at' ((l.take i).map (cs g.N)++l.drop i) (i:Int)=some x:=by
   rw [kU,List.getElem?_append_right (by omega),a,Nat.sub_self,List.getElem?_drop,Nat.add_zero,b]
  have hd:l.drop i=x::l.drop (i+1):=by rw [List.drop_eq_getElem_cons hi];congr 1;rw [gE hi]at b;exact oI b
  have k:l.take (i+1)=l.take i++[x]:=by rw [List.take_add_one,b];rfl
  simp only [zD];rw [yA hi,zL,d];simp only [zA];rw [fC hi (by omega),k,List.map_append,List.append_assoc];have e:cs g.N x=if decide (2<=x.Mark)then⟨x.At,co g.N x.N,x.Mark⟩else x:=rfl;have c:set' ((l.take i).map (cs g.N)++l.drop i) (i:Int) (fD.mk x.At (co g.N x.N) x.Mark)=some ((l.take i).map (cs g.N)++fD.mk x.At (co g.N x.N) x.Mark::l.drop (i+1)):=by
   unfold set';rw [if_pos (by simp;omega),Int.toNat_natCast,hd,List.set_append_right _ _ (by omega),a,Nat.sub_self];rfl
  rw [coarse_eq x.N g.N (h x (qS b)) f];simp only [zA];rw [c]
  cases hq:decide (2<=x.Mark)
  ·rw [zK,zA,hd];have:cs g.N x=x:=by rw [e,hq];rfl
   simp [this]
  ·rw [zL,zA,zA];have:cs g.N x=⟨x.At,co g.N x.N,x.Mark⟩:=by rw [e,hq];rfl
   simp [this]
 ·intro j;simp only [zD];rw [yC];simp [gQ]

theorem cs_rng {n:Int}{l:List fD}(c:1<=n)(a: ∀x∈l,-1125899906842624<=x.N/\x.N<=1125899906842624): ∀x∈l.map (cs n),-1125899906842624<=x.N/\x.N<=1125899906842624:=by
 intro x d;obtain⟨y,b,rfl⟩:=List.mem_map.1 d;unfold cs;split;exact co_rng (a y b) c;exact a y b
def grs (s:Str)(gs:List dS)(l:List fD):List fD:=gs.foldl (λl g=>if g.Track=s then l.map (cs g.N)else l) l
theorem aIp {s:Str}: ∀{gs:List dS}{l:List fD},(∀g∈gs,1<=g.N)->(∀x∈l,-1125899906842624<=x.N/\x.N<=1125899906842624)->(grs s gs l).length=l.length/\ ∀x∈grs s gs l,-1125899906842624<=x.N/\x.N<=1125899906842624
 | [],l,_,h=>⟨rfl,h⟩
 |g::gs,l,a,h=>by
  have b: ∀g∈gs,1<=g.N:=λx d=>a x (List.mem_cons_of_mem _ d)
  show(grs s gs (if g.Track=s then l.map (cs g.N)else l)).length=_/\_
  by_cases c:g.Track=s
  ·have q:=aIp (s:=s) b (cs_rng (a g List.mem_cons_self) h);rw [List.length_map]at q;unfold grs;simp only [List.foldl_cons,if_pos c];exact q
  ·have q:=aIp (s:=s) b h;unfold grs;simp only [List.foldl_cons,if_neg c];exact q
theorem aRs (s:Str)(gs:List dS)(g:dS)(l:List fD):grs s (gs++[g]) l=if g.Track=s then(grs s gs l).map (cs g.N)else grs s gs l:=by
 unfold grs;rw [List.foldl_append];rfl
structure Gm (m:Mask):Prop where
 days:1<=m.Days/\m.Days<=1000000
 many:m.Grains.length<=30
 gr: ∀g∈m.Grains,1<=g.N/\g.N<=1125899906842624
theorem masked_L2 (m:Mask) (a:Gm m) (t:Track) (l:t.Series.Samples.length<=20000) (e: ∀x∈t.Series.Samples,-1125899906842624<=x.N/\x.N<=1125899906842624):
    Fhn m t (m.Grains.length:Int) (0,t.Series.Samples)=some (grs t.Name m.Grains t.Series.Samples):=by
 unfold Fhn;have hm:=a.many;refine xB (λ(i:Nat)=>((i:Int),grs t.Name (m.Grains.take i) t.Series.Samples)) m.Grains (some (grs t.Name m.Grains t.Series.Samples)) (by omega) ?_ ?_;intro f i x b hi;have j:m.Grains.take (i+1)=m.Grains.take i++[x]:=by rw [List.take_add_one,b];rfl
 have d:=a.gr x (qS b);obtain⟨_,k⟩:=aIp (s:=t.Name) (gs:=m.Grains.take i) (λg d=>(a.gr g (List.mem_of_mem_take d)).1) e;simp only [zD];rw [yA hi,zL,yB b,zA,fC hi (by omega),j,aRs];by_cases c:x.Track=t.Name;rw [qD (λh=>h c),zK,masked_L3 x d _ (by omega) k,zA,if_pos c];rw [dT c,zL,zA,if_neg c];intro f;simp only [zD,List.take_length];rw [yC,zK]
def hid (m:Mask)(s:Str):Bool:=m.Hide.any λy=>decide (s=y)
theorem aYt (s:Str): ∀(l:List Str) (i:Nat),kK (λ_ y=>decide (s=y)) l i=l.any λy=>decide (s=y)
 | [],_=>rfl
 |x::l,i=>by rw [kK,List.any_cons,aYt s l (i+1)]
def mtk (m:Mask)(t:Track):Track:=⟨t.Name,⟨t.Series.Den,grs t.Name m.Grains t.Series.Samples⟩,t.Long⟩
def mts (m:Mask)(l:List Track):List Track:=(l.filter λt=> !hid m t.Name).map (mtk m)
theorem aOs (m:Mask)(l:List Track)(x:Track):mts m (l++[x])=if hid m x.Name=true then mts m l else mts m l++[mtk m x]:=by
 unfold mts;rw [List.filter_append,List.map_append];cases h:hid m x.Name<;>simp [h]
theorem aJk (m:Mask)(l:List Track):(mts m l).length<=l.length:=by unfold mts;rw [List.length_map];exact List.length_filter_le _ _
def mfl (m:Mask)(f:Flight):Flight:=⟨if m.Tails=true then []else f.Tail,f.Route,f.Day-f.Day.tmod m.Days,f.From,f.To,mts m f.Tracks⟩
structure Okt (f:Flight):Prop where
 day:0<=f.Day/\f.Day<=1000000
 many:f.Tracks.length<=30
 trk: ∀t∈f.Tracks,t.Series.Samples.length<=20000/\ ∀x∈t.Series.Samples,-1125899906842624<=x.N/\x.N<=1125899906842624
theorem masked_eq (f:Flight) (m:Mask) (c:Gm m) (o:Okt f) (hh:m.Hide.length<=9223372036854775807):Fev f m=some (mfl m f):=by
 have q:=o.many;have e:Fh1 f m (f.Tracks.length:Int) ([],0)=some (mts m f.Tracks):=by
  unfold Fh1;refine xB (λ(i:Nat)=>(mts m (f.Tracks.take i),(i:Int))) f.Tracks (some (mts m f.Tracks)) (by omega) ?_ ?_
  ·intro j i x a hi;obtain⟨h,k⟩:=o.trk x (qS a);have l:f.Tracks.take (i+1)=f.Tracks.take i++[x]:=by rw [List.take_add_one,a];rfl
   have b:=aJk m (f.Tracks.take i);rw [List.length_take]at b;have n:app' 56 (mts m (f.Tracks.take i)) [Track.mk x.Name (Series.mk x.Series.Den (grs x.Name m.Grains x.Series.Samples)) x.Long]=some (mts m (f.Tracks.take i)++[mtk m x]):=by
    unfold app';rw [if_pos]
    ·rfl
    ·simp [maxLen];omega
   simp only [zD];rw [yA hi,zL,yB a,zA,bBh _ _ hh,zA,aYt,l,aOs,fC hi (by omega)];show gB (gQ (hid m x.Name) _ _) _=_
   cases hid m x.Name
   ·rw [zK,clone_eq _ h,zA,masked_L2 m c x h k,zA,n,zA,zA];rfl
   ·rw [zL,zA];rfl
  ·intro j;simp only [zD,List.take_length];rw [yC,zK]
 have d:=c.days;have p:=o.day;have t1:=Int.tmod_nonneg m.Days p.1;have t2:=Int.tmod_lt_of_pos f.Day (show 0<m.Days by omega);unfold Fev;simp only [zD];unfold aEr;rw [e,if_neg (by omega)];simp only [zA];rw [Go.OB.wrap_i64 (by omega) (by omega)];unfold mfl
 cases m.Tails<;>rfl
theorem cs_at (n:Int)(x:fD):(cs n x).At=x.At/\(cs n x).Mark=x.Mark:=by unfold cs;split<;>exact⟨rfl,rfl⟩
theorem cs_n (n:Int)(x:fD):(cs n x).N=if 2<=x.Mark then co n x.N else x.N:=by unfold cs;by_cases h:2<=x.Mark<;>simp [h]
theorem aOg (l:List fD) (i:Nat) (x:fD):aRm l i x=0↔(0<=x.At/\x.At<=1099511627776)/\(-1125899906842624<=x.N/\x.N<=1125899906842624)/\(0<=x.Mark/\x.Mark<=4)/\(x.N=0\/2<=x.Mark)/\(∀j y,i=j+1->l[j]? =some y->y.At<x.At):=by
 unfold aRm;split
 ·rename_i h;simp only [Bool.or_eq_true,Bool.not_eq_true',Bool.and_eq_false_iff,decide_eq_false_iff_not]at h;constructor
  ·intro q;cases q
  ·intro q;omega
 ·rename_i h;simp only [Bool.or_eq_true,Bool.not_eq_true',Bool.and_eq_false_iff,decide_eq_false_iff_not]at h;split
  ·rename_i a;simp only [Bool.and_eq_true,decide_eq_true_eq]at a;constructor
   ·intro q;cases q
   ·intro q;omega
  ·rename_i a;simp only [Bool.and_eq_true,decide_eq_true_eq]at a
   cases i with
   |zero=>
    simp only [true_iff];exact⟨by omega,by omega,by omega,by omega,λj y d=>by omega⟩
   |succ j=>
    cases e:l[j]? with
    |none=>
     simp only [e,true_iff];refine⟨by omega,by omega,by omega,by omega,?_⟩;intro b y d f;obtain rfl:b=j:=by omega
     rw [e]at f;cases f
    |some y=>
     simp only [e,decide_eq_true_eq];constructor
     ·intro q
      by_cases c:x.At<=y.At
      ·rw [if_pos c]at q;cases q
      ·refine⟨by omega,by omega,by omega,by omega,?_⟩;intro b _ d k;obtain rfl:b=j:=by omega
       rw [e]at k;cases k;omega
     ·rintro⟨_,_,_,_,q⟩;have:=q j y rfl e;rw [if_neg (by omega)]
theorem ser_mask {d:Int}{l:List fD}{n:Int} (k:1<=n) (h:aAn ⟨d,l⟩=0):aAn ⟨d,l.map (cs n)⟩=0:=by
 rw [aNk]at h⊢;obtain⟨o,p,q⟩:=h;refine⟨o,by simpa using p,?_⟩;intro i _ b;simp only [List.getElem?_map,Option.map_eq_some_iff]at b;obtain⟨y,s,rfl⟩:=b;have:=(aOg _ _ _).1 (q i y s);obtain⟨t,u,v,_,w⟩:=this;obtain⟨A,c2⟩:=cs_at n y;rw [aOg,A,c2,cs_n];have r:=co_rng u k;refine⟨t,?_,v,?_,?_⟩;split<;>omega;by_cases c:2<=y.Mark;exact .inr c;rw [if_neg c];omega;intro j _ B e;simp only [List.getElem?_map,Option.map_eq_some_iff]at e;obtain⟨f,a,rfl⟩:=e;rw [(cs_at n f).1];exact w j f B a
theorem trk_facts {l:List Track}(h:aGu l=0){t:Track}(a:t∈l):t.Series.Samples.length<=20000/\ ∀x∈t.Series.Samples,-1125899906842624<=x.N/\x.N<=1125899906842624:=by
 obtain⟨i,hi⟩:=List.getElem?_of_mem a;have q:=((aAj l i t).1 (((aCg l).1 h).2 i t hi)).2.2.1;rw [aNk]at q;refine⟨q.2.1,λx b=>?_⟩;obtain⟨j,c⟩:=List.getElem?_of_mem b;exact((aOg _ _ _).1 (q.2.2 j x c)).2.1

structure Good2 (m:Mask):Prop extends Gm m where
 pw:m.Grains.Pairwise λa b=>a.Track≠b.Track
theorem mts_mem {m:Mask}{l:List Track}{t:Track}(h:t∈mts m l): ∃u∈l,t=mtk m u:=by
 unfold mts at h;obtain⟨u,a,rfl⟩:=List.mem_map.1 h;exact⟨u,(List.mem_filter.1 a).1,rfl⟩
theorem bGk {d:Int}{s:Str}: ∀(gs:List dS) (l:List fD),(∀g∈gs,1<=g.N)->aAn ⟨d,l⟩=0->aAn ⟨d,grs s gs l⟩=0
 | [],_,_,h=>h
 |g::gs,l,a,h=>by
  show aAn ⟨d,grs s gs (if g.Track=s then l.map (cs g.N)else l)⟩=0;refine bGk gs _ (λx b=>a x (List.mem_cons_of_mem _ b)) ?_;split
  ·exact ser_mask (a g List.mem_cons_self) h
  ·exact h
theorem mts_pw {m:Mask}{l:List Track}(h:l.Pairwise λa b=>a.Name≠b.Name):(mts m l).Pairwise λa b=>a.Name≠b.Name:=by
 unfold mts;rw [List.pairwise_map];exact(List.Pairwise.filter _ h).imp λh=>h
theorem trk_mts {m:Mask} (g:Gm m) {l:List Track} (h:aGu l=0):aGu (mts m l)=0:=by
 have c:=mts_pw (m:=m) (aPa h);rw [aCg]at h⊢;refine⟨Nat.le_trans (aJk m l) h.1,?_⟩;intro i x a;obtain⟨u,f,rfl⟩:=mts_mem (qS a);obtain⟨j,n⟩:=List.getElem?_of_mem f;obtain⟨o,_,p,q⟩:=(aAj l j u).1 (h.2 j u n);rw [aAj];refine⟨o,?_,bGk _ _ (λx a=>(g.gr x a).1) p,q⟩;rw [Bool.eq_false_iff];intro r;obtain⟨k,_,b,s⟩:=(wL _ _ _).1 r;rw [List.getElem?_take]at b;split at b;rename_i t;rw [List.pairwise_iff_getElem]at c;have d:=gS.1 b;have e:=gS.1 a;have:=c k i d.1 e.1 t;rw [d.2,e.2]at this;exact this (by simpa using s);cases b
theorem aOn {m:Mask}(a:Gm m){f:Flight}(g:Good f):Good (mfl m f):=by
 have d:=a.days;have b:=g.day;have t1:=Int.tmod_nonneg m.Days b.1;have t2:f.Day.tmod m.Days<=f.Day:=by
  have e:=Int.mul_tdiv_add_tmod f.Day m.Days;have:=Int.mul_nonneg (show 0<=m.Days by omega) (Int.tdiv_nonneg b.1 (show 0<=m.Days by omega));omega
 refine⟨?_,g.route,⟨by show 0<=f.Day-_;omega,by show f.Day-_<=_;omega⟩,g.frm,g.span,Nat.le_trans (aJk m f.Tracks) g.many,trk_mts a g.trk⟩;show(if m.Tails=true then []else f.Tail)=[]\/pI (if m.Tails=true then []else f.Tail)=true;split
 ·exact .inl rfl
 ·exact g.tail
theorem okt_of {f:Flight}(g:Good f):Okt f:=⟨g.day,g.many,λ_ a=>trk_facts g.trk a⟩
theorem aLg {b:Type} (e:Nat->b->Int): ∀(l:List b) (i:Nat) (fin:Option Int),eU (λi x=>if e i x=0 then none else some (some (e i x))) fin l i=some 0->(∀j x,l[j]? =some x->e (i+j) x=0)/\fin=some 0
 | [],i,fin,h=>⟨λj x d=>by simp at d,h⟩
 |x::l,i,fin,h=>by
  rw [eU]at h
  by_cases c:e i x=0
  ·simp only [c,if_true]at h;obtain⟨f,k⟩:=aLg e l (i+1) fin h;refine⟨λj y a=>?_,k⟩
   cases j with
   |zero=>simp at a;subst a;simpa using c
   |succ j=>have:=f j y (by simpa using a);rwa [show i+(j+1)=i+1+j by omega]
  ·simp only [c,if_false]at h;exact absurd (oI h) c
theorem aKm (m:Mask): ∃c,aHc m=some c:=by
 have a: ∃r,bDu m=some r:=by unfold bDu;split<;>exact⟨_,rfl⟩
 have b: ∃r,bBq m=some r:=by
  unfold bBq;split
  ·exact⟨_,rfl⟩
  ·exact wK a (λi x r h=>aKa h) _ _
 unfold aHc;split
 ·exact⟨_,rfl⟩
 ·split
  ·exact⟨_,rfl⟩
  ·exact wK b (λi x r h=>aKa h) _ _
theorem aYy {l:List dS}{i:Nat}{x:dS} (h:aRu l i x=0):kK (λ_ y=>decide (y.Track=x.Track)) (l.take i) 0=false/\1<=x.N/\x.N<=1125899906842624:=by
 unfold aRu at h;split at h;cases h;split at h;cases h;split at h;cases h;rename_i _ a b;simp only [Bool.not_eq_true',Bool.and_eq_false_iff,decide_eq_false_iff_not]at b;exact⟨by simpa using a,by omega,by omega⟩
theorem good2_of {m:Mask} (h:aHc m=some 0):Good2 m:=by
 unfold aHc at h;split at h;cases h;rename_i k;split at h;cases h;have a:=(aLg _ _ _ _ h).2;unfold bBq at a;split at a;cases a;rename_i b;have f:=(aLg _ _ _ _ a).1;simp only [Bool.not_eq_true',Bool.and_eq_false_iff,decide_eq_false_iff_not]at k;have b:m.Grains.length<=30:=by simp at b;omega
 refine⟨⟨by omega,b,λg l=>?_⟩,?_⟩;obtain⟨j,c⟩:=List.getElem?_of_mem l;have:=f j g c;rw [Nat.zero_add]at this;exact(aYy this).2;rw [List.pairwise_iff_getElem];intro i j hi c d e;have q:=f j _ (gE c);rw [Nat.zero_add]at q;have t:kK (λ_ z=>decide (z.Track=m.Grains[j].Track)) (m.Grains.take j) 0=true:=(wL _ _ _).2 ⟨i,m.Grains[i],by rw [List.getElem?_take,if_pos d];exact gE hi,by simpa using e⟩;rw [(aYy q).1]at t;cases t
end Go.Lf
