/- Laws that the claim stands on; no condition beyond those stated. -/
import Derived.Test.YthgccglopkgghaaGreatDoorUP
import Derived.Test.YthgccglopkgghaaGreatDoorPLb
namespace Go.Lf
def kws:List Str:=[[112,104,97,115,101],[109,111,118,101],[114,117,108,101],[105,102],[111,114],[97,110,100],[116,114,117,101],[102,97,108,115,101],[115,116,101,97,100,121],[110,111,116],[102,111,114],[119,105,116,104,105,110],[99,111,117,110,116],[111,102],[114,105,115,101,115],[115,105,110,99,101]]
theorem aJw (a b c:Int):Faw a b c=some (decide (b<=a)&&decide (a<=c)):=by
 unfold Faw;simp only [zS,aCa,zA]
theorem out6 (a b c:Int):Fa0 a b c=some (decide (a<b)||decide (c<a)):=by
 unfold Fa0;simp only [zS,kH,zA]
def isW (s:Str):Bool:=decide (s∈kws)
theorem aDn (s:Str):Fb3 s=some (isW s):=by
 unfold Fb3 isW kws;simp only [zS,aAm,zA,aJi,List.mem_cons,List.not_mem_nil,or_false,Bool.decide_or]
def nmB (c:Int):Bool:=(decide (97<=c)&&decide (c<=122))||(decide (48<=c)&&decide (c<=57))||decide (c=45)
theorem xU (c:Int):Fcd c=some (nmB c):=by
 unfold Fcd nmB;simp only [zS];cases decide (97<=c)<;>cases decide (c<=122)<;>cases decide (48<=c)<;>cases decide (c<=57)<;>cases decide (c=45)<;>rfl
def aCc:Nat->UInt8->Bool:=λ_ c=> !nmB (c.toNat:Int)
theorem isName_L1 (s:Str) (a:okS s) (k:Unit->Option Bool):Fel s k (s.length:Int) 0=if qI aCc s 0=true then some false else k ():=by
 unfold Fel;rw [yZ s (λi c=>if aCc i c=true then some (some false)else none) (k ()) a];exact pM aCc (some false) (k ()) s 0;intro b i c d hi;unfold aCc;simp only [zS];rw [xJ hi,zI,aA d,zA,xU,zA];cases nmB (c.toNat:Int);rfl;simp only [Bool.not_true,zH];rw [dM hi a];rfl;intro b;simp only [zS];rw [xI];rfl
def vV (s:Str):Bool:=match s with
 | []=>false
 |c::_=>decide (97<=(c.toNat:Int))&&decide ((c.toNat:Int)<=122)
def nV (s:Str):Bool:=decide (s.length<=30)&&vV s&& !isW s&& !qI aCc s 0
theorem pV (s:Str)(a:okS s):Fa1 s=some (nV s):=by
 unfold Fa1 nV;simp only [zS,zA,aJw,yU,isName_L1 s a,aDn]
 cases s with
 |nil=>rfl
 |cons c l=>
  have b:byte' (c::l) 0=some (c.toNat:Int):=aA (i:=0) rfl;have d:decide ((1:Int)<=((c::l).length:Int))=true:=dT (by simp;omega);have e:decide (((c::l).length:Int)<=30)=decide ((c::l).length<=30):=decide_eq_decide.2 (by omega);have f:decide ((c.toNat:Int)<97)= !decide (97<=(c.toNat:Int)):=by rw [<-decide_not];exact decide_eq_decide.2 (by omega)
  have g:decide (122<(c.toNat:Int))= !decide ((c.toNat:Int)<=122):=by rw [<-decide_not];exact decide_eq_decide.2 (by omega)
  rw [b,d,e];simp only [zA,Bool.true_and,f,g,vV]
  cases decide ((c::l).length<=30)<;>cases decide (97<=(c.toNat:Int))<;>cases decide ((c.toNat:Int)<=122)<;>cases isW (c::l)<;>cases qI aCc (c::l) 0<;>rfl
theorem xW (s:Str):Fbz s=some (isW s):=by
 unfold Fbz Fef;simp only [zS,zA,yU];change Fdy s kws (λ_=>some false) 0=_;unfold Fdy;rw [yZ kws (λ_ x=>if decide (x=s)=true then some (some true)else none) (some false) (by decide)]
 ·rw [pM (λ_ x=>decide (x=s))];have e:qI (λ_ x=>decide (x=s)) kws 0=isW s:=by
   rw [Bool.eq_iff_iff,vO];unfold isW;simp only [decide_eq_true_eq];constructor
   ·rintro⟨j,x,h,rfl⟩;exact mG h
   ·intro h;obtain⟨j,a⟩:=List.getElem?_of_mem h;exact⟨j,s,a,rfl⟩
  rw [e];cases isW s<;>rfl
 ·intro b _ c d hi;simp only [zS];rw [xJ hi,zI,bD d,zA]
  cases decide (c=s)
  ·simp only [zH];rw [dM hi (by decide)];rfl
  ·rfl
 ·intro b;simp only [zS];rw [xI];rfl
def badR:Nat->UInt8->Bool:=λi c=> !((decide (97<=(c.toNat:Int))&&decide ((c.toNat:Int)<=122))||(decide (0<(i:Int))&&((decide (48<=(c.toNat:Int))&&decide ((c.toNat:Int)<=57))||decide ((c.toNat:Int)=45))))
theorem aIj (s:Str) (a:okS s) (k:Unit->Option Bool):Fff s k 0=if qI badR s 0=true then some false else k ():=by
 unfold Fff;rw [yZ s (λi c=>if badR i c=true then some (some false)else none) (k ()) a];exact pM badR (some false) (k ()) s 0;intro b i c d hi;unfold badR;simp only [zS];rw [xJ hi,zI,aA d,zA];rw [dM hi a];cases decide (97<=(c.toNat:Int))<;>cases decide ((c.toNat:Int)<=122)<;>cases decide (0<(i:Int))<;>cases decide (48<=(c.toNat:Int))<;>cases decide ((c.toNat:Int)<=57)<;>cases decide ((c.toNat:Int)=45)<;>rfl;intro b;simp only [zS];rw [xI];rfl
theorem kS (s:Str)(a:okS s):Fax s=some (nV s):=by
 unfold Fax nV;simp only [zS,zA,yU,aIj s a,xW]
 cases s with
 |nil=>rfl
 |cons c l=>
  have b:decide (((c::l).length:Int)<=30)=decide ((c::l).length<=30):=decide_eq_decide.2 (by omega);have d:decide ((c::l)≠[])=true:=by simp
  have e:qI badR l (0+1)=qI aCc l (0+1):=aAw l (0+1) λj _ _=>by
   have:decide (0<((0+1+j:Nat):Int))=true:=dT (by omega);unfold badR aCc nmB;rw [this];simp only [Bool.true_and,Bool.or_assoc]
  rw [qI,qI,e,b,d];have f:badR 0 c= !(decide (97<=(c.toNat:Int))&&decide ((c.toNat:Int)<=122)):=by unfold badR;simp
  have g:aCc 0 c= !(vV (c::l)||(decide (48<=(c.toNat:Int))&&decide ((c.toNat:Int)<=57))||decide ((c.toNat:Int)=45)):=rfl;have h:badR 0 c= !vV (c::l):=f;rw [g,h]
  cases vV (c::l)<;>cases qI aCc l (0+1)<;>cases decide ((c::l).length<=30)<;>cases isW (c::l)<;>simp [gV,gI]
theorem aJm (a b c:Int):(decide (a<b)||decide (c<a))= !(decide (b<=a)&&decide (a<=c)):=by
 by_cases d:b<=a<;>by_cases e:a<=c<;>simp [d,e]<;>omega
end Go.Lf
