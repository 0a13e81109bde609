/- Laws that the claim stands on; no condition beyond those stated. -/
import Derived.Test.YtbjofgmdhbiekaaGreatDoorBKa
import Derived.Test.YtbjofgmdhbiekaaGreatDoorBAa
namespace Go.Lf
open Go.RowKit Go.OB Go.Fr1
def goF {a b σ:Type}(q:Nat->a->Option (Option b))(u:σ->a->σ):Nat->a->σ->σ ⊕ Option b:=λi x s=>match q i x with
 |some r=> .inr r
 |none=> .inl (u s x)
theorem aDz {a b σ:Type}(q:Nat->a->Option (Option b))(u:σ->a->σ)(fin:σ->Option b): ∀(l:List a) (i:Nat) (s:σ),
  aX (goF q u) fin l i s=dI q (fin (l.foldl u s)) l i
 | [],i,s=>rfl
 |x::l,i,s=>by
  rw [aX,dI,List.foldl_cons,goF]
  cases q i x with
  |some r=>rfl
  |none=>exact aDz q u fin l (i+1) _
def stF (f:List Int):Nat->Int->Option (Option Int):=λi s=>if dH s 0 3=true then some (some 9)else if ((decide (s=0)&&decide (f.getD i 0≠0))||decide (4095<f.getD i 0))=true then some (some 2)else none
def aHy:Int×Int×Int×Int->Int->Int×Int×Int×Int:=λc s=>if s=3 then(IntKind.i64.wrap (c.1+1),c.2.1,c.2.2.1,c.2.2.2)else if s=2 then(c.1,c.2.1,IntKind.i64.wrap (c.2.2.1+1),c.2.2.2)else if s=1 then(c.1,IntKind.i64.wrap (c.2.1+1),c.2.2.1,c.2.2.2)else(c.1,c.2.1,c.2.2.1,IntKind.i64.wrap (c.2.2.2+1))
theorem aEu: ∀(l:List Int) (a b c d:Nat),a+b+c+d+l.length<=1000->l.foldl aHy ((a:Int),(b:Int),(c:Int),(d:Int))=(((a+l.countP (λs=>decide (s=3)):Nat):Int),((b+l.countP (λs=>decide (s=1)):Nat):Int),((c+l.countP (λs=>decide (s=2)):Nat):Int),((d+l.countP (λs=> !(decide (s=3)||decide (s=2)||decide (s=1))):Nat):Int))
 | [],a,b,c,d,_=>by simp
 |s::l,a,b,c,d,h=>by
  rw [List.length_cons]at h;rw [List.foldl_cons];unfold aHy;simp only [List.countP_cons]
  by_cases e:s=3
  ·subst e;rw [if_pos rfl,wrap_i64 (by omega) (by omega)];have:=aEu l (a+1) b c d (by omega);rw [Int.natCast_add,Int.natCast_one]at this;rw [show(λc s=>if s=3 then(IntKind.i64.wrap (c.1+1),c.2.1,c.2.2.1,c.2.2.2)else if s=2 then(c.1,c.2.1,IntKind.i64.wrap (c.2.2.1+1),c.2.2.2)else if s=1 then(c.1,IntKind.i64.wrap (c.2.1+1),c.2.2.1,c.2.2.2)else(c.1,c.2.1,c.2.2.1,IntKind.i64.wrap (c.2.2.2+1)):Int×Int×Int×Int->Int->Int×Int×Int×Int)=aHy from rfl,this];simp;omega
  ·rw [if_neg e]
   by_cases f:s=2
   ·subst f;rw [if_pos rfl,wrap_i64 (by omega) (by omega)];have:=aEu l a b (c+1) d (by omega);rw [Int.natCast_add c,Int.natCast_one]at this;rw [show(λc s=>if s=3 then(IntKind.i64.wrap (c.1+1),c.2.1,c.2.2.1,c.2.2.2)else if s=2 then(c.1,c.2.1,IntKind.i64.wrap (c.2.2.1+1),c.2.2.2)else if s=1 then(c.1,IntKind.i64.wrap (c.2.1+1),c.2.2.1,c.2.2.2)else(c.1,c.2.1,c.2.2.1,IntKind.i64.wrap (c.2.2.2+1)):Int×Int×Int×Int->Int->Int×Int×Int×Int)=aHy from rfl,this];simp;omega
   ·rw [if_neg f]
    by_cases h1:s=1
    ·subst h1;rw [if_pos rfl,wrap_i64 (by omega) (by omega)];have:=aEu l a (b+1) c d (by omega);rw [Int.natCast_add b,Int.natCast_one]at this;rw [show(λc s=>if s=3 then(IntKind.i64.wrap (c.1+1),c.2.1,c.2.2.1,c.2.2.2)else if s=2 then(c.1,c.2.1,IntKind.i64.wrap (c.2.2.1+1),c.2.2.2)else if s=1 then(c.1,IntKind.i64.wrap (c.2.1+1),c.2.2.1,c.2.2.2)else(c.1,c.2.1,c.2.2.1,IntKind.i64.wrap (c.2.2.2+1)):Int×Int×Int×Int->Int->Int×Int×Int×Int)=aHy from rfl,this];simp;omega
    ·rw [if_neg h1,wrap_i64 (by omega) (by omega)];have:=aEu l a b c (d+1) (by omega);rw [Int.natCast_add d,Int.natCast_one]at this;rw [show(λc s=>if s=3 then(IntKind.i64.wrap (c.1+1),c.2.1,c.2.2.1,c.2.2.2)else if s=2 then(c.1,c.2.1,IntKind.i64.wrap (c.2.2.1+1),c.2.2.2)else if s=1 then(c.1,IntKind.i64.wrap (c.2.1+1),c.2.2.1,c.2.2.2)else(c.1,c.2.1,c.2.2.1,IntKind.i64.wrap (c.2.2.2+1)):Int×Int×Int×Int->Int->Int×Int×Int×Int)=aHy from rfl,this];simp [h1,f,e];omega
theorem wX {a:Type}(p:a->Bool)(l:List a):decide (0<l.countP p)=l.any p:=by
 rw [Bool.eq_iff_iff,decide_eq_true_eq,List.countP_pos_iff,List.any_eq_true]
theorem aQz {a:Type}(p q:a->Bool): ∀l:List a,(l.any p||l.any q)=l.any λx=>p x||q x
 | []=>rfl
 |x::l=>by
  rw [List.any_cons,List.any_cons,List.any_cons,<-aQz p q l]
  cases p x<;>cases q x<;>cases l.any p<;>cases l.any q<;>rfl
theorem someS_eq (l:List Int)(a b:Int)(c:l.length<=9223372036854775807):Fdr l a b=some (l.any λy=>decide (y=a)||decide (y=b)):=by
 unfold Fdr Ffp Fkp;rw [yH,zD,jY l (λy=>decide (y=a)||decide (y=b)) c (λk _ _ h1 d=>by simp only [zD,yD d,zT,yO h1,zC,fJ d c,Ff4,xM]) (λk=>by simp only [zD,yE,zM]),zC,zD,rP]
theorem allS_eq (l:List Int)(a:Int)(b:l.length<=9223372036854775807):Fd0 l a=some (l.any λy=>decide (y≠a)):=by
 unfold Fd0 Ffw Fi7;rw [yH,zD,jY l (λy=>decide (y≠a)) b (λk _ _ h1 c=>by simp only [zD,yD c,zT,yO h1,zC,fJ c b,Fep]) (λk=>by simp only [zD,yE,zM]),zC,zD,rP]
def SzR (r:gW):Prop:= ∃(g:List Nat) (h:g.length=64),Small g/\r.Frame=en g h
def sndM (r:gW)(g:List Nat):Bool:=r.Sound&&(!(decide (qI g)&&decide ((aKh g).1=r.Number))||(r.States.l.any λy=>decide (y=0)||decide (y=1)))
def aTz (r:gW)(g:List Nat):Int:=if sndM r g=true then 2 else if (!r.Sound&&(r.States.l.any λy=>decide (y=3)||decide (y=2)))=true then 2 else if (decide (r.Copies<0)||((decide (r.Copies=0)&&r.Sound)&& !(r.States.l.any λy=>decide (y≠3))))=true then 9 else if (r.Conflict&&r.Sound)=true then 2 else 0
theorem bAx (f:List Int) (n:Int): ∀(l:List Int) (i:Nat),∃v,dI (stF f) (some n) l i=some v
 | [],i=>⟨n,rfl⟩
 |s::l,i=>by
  rw [dI];have b:=bAx f n l (i+1);unfold stF
  by_cases h1:dH s 0 3=true
  ·rw [if_pos h1];exact⟨9,rfl⟩
  ·rw [if_neg h1]
   by_cases a:((decide (s=0)&&decide (f.getD i 0≠0))||decide (4095<f.getD i 0))=true
   ·rw [if_pos a];exact⟨2,rfl⟩
   ·rw [if_neg a];exact b
def aUc (r:gW)(g:List Nat):Int:=if dH r.Number 0 4194303=true then 9 else(dI (stF r.Frame.l) (some (aTz r g)) r.States.l 0).getD 0
theorem aPj (r:gW)(g:List Nat)(h:dH r.Number 0 4194303=false):dI (stF r.Frame.l) (some (aTz r g)) r.States.l 0=some (aUc r g):=by
 unfold aUc;rw [h,if_neg (by decide)];obtain⟨_,a⟩:=bAx r.Frame.l (aTz r g) r.States.l 0;rw [a];rfl
theorem fr_at (r:gW){i:Nat}(hi:i<64):at' r.Frame.l (i:Int)=some (r.Frame.l.getD i 0):=by
 rw [aAb,List.getD_eq_getElem?_getD,gE (by rw [r.Frame.h];exact hi)];rfl
theorem rest_l (r:gW) (g:List Nat) (h:g.length=64) (c:Small g) (e:r.Frame=en g h):Fa6 r=some (aUc r g):=by
 have a:r.States.l.length<=9223372036854775807:=by rw [r.States.h];decide
 unfold Fa6;simp only [vwi,zC,zD,yH,nwi];show gJ (dH r.Number 0 4194303) _ _=_
 cases hv:dH r.Number 0 4194303 with
 |true=>unfold aUc;rw [hv];rfl
 |false=>
  rw [zM,<-aPj r g hv];unfold Fj7;refine xQ r.States.l _ _ a (λk i s h1 d=>?_) (λk=>?_)
  ·have hi:i<64:=by rw [<-r.States.h];exact d
   have b:decide ((i:Int)<64)=true:=dT (by omega);simp only [zD,b,zT,yO h1,zC,fJ d a,vwi,nwi,fr_at r hi,dY,xM];show gJ (dH s 0 3) _ _=_;unfold stF
   cases dH s 0 3 with
   |true=>rfl
   |false=>
    rw [zM,if_neg (by decide)]
    cases((decide (s=0)&&decide (r.Frame.l.getD i 0≠0))||decide (4095<r.Frame.l.getD i 0))<;>rfl
  ·have b:decide (((r.States.l.length:Nat):Int)<64)=false:=qD (by rw [r.States.h];omega);simp only [zD,b,zM,Fe7,Ffo,Fb7,Ffk,e,Number_eq c,sound_eq c,zC,someS_eq _ _ _ a,allS_eq _ _ a,dY,xM];show gJ (sndM r g) _ _=_;unfold aTz
   cases sndM r g with
   |true=>rfl
   |false=>
    rw [zM,if_neg (by decide)]
    cases(!r.Sound&&(r.States.l.any λy=>decide (y=3)||decide (y=2)))with
    |true=>rfl
    |false=>
     rw [zM,if_neg (by decide)]
     cases(decide (r.Copies<0)||((decide (r.Copies=0)&&r.Sound)&& !(r.States.l.any λy=>decide (y≠3))))with
     |true=>rfl
     |false=>
      rw [zM,if_neg (by decide)]
      cases(r.Conflict&&r.Sound)<;>rfl
theorem aZa {f:List Int}{i:Nat}{s:Int} (h:stF f i s=none):0<=s/\s<=3:=by
 unfold stF at h;split at h;cases h;rename_i c;exact pF.1 (by simpa using c)
theorem rest_4 (r:gW) (g:List Nat) (h:g.length=64) (t:Small g) (A:r.Frame=en g h):Fb8 r=some (aUc r g):=by
 have u:r.States.l.length<=9223372036854775807:=by rw [r.States.h];decide
 unfold Fb8;have B:decide (4194304<=r.Number)=decide (4194303<r.Number):=decide_eq_decide.2 (by omega);simp only [zC,zD,yH,xM,B];show gJ (dH r.Number 0 4194303) _ _=_
 cases hv:dH r.Number 0 4194303 with
 |true=>unfold aUc;rw [hv];rfl
 |false=>
  rw [zM,<-aPj r g hv];unfold Fkf;have C:=r.States.h;refine(nX (λ(i:Nat) (c:Int×Int×Int×Int)=>(c.1,c.2.1,c.2.2.1,c.2.2.2,(i:Int))) r.States.l (goF (stF r.Frame.l) aHy)
   (λc=>some (if (r.Sound&&((!decide (qI g)||decide ((aKh g).1≠r.Number))||decide (0<IntKind.i64.wrap (c.2.2.2+c.2.1))))=true then 2 else if (!r.Sound&&decide (0<IntKind.i64.wrap (c.1+c.2.2.1)))=true then 2 else if (decide (r.Copies<0)||((decide (r.Copies=0)&&r.Sound)&&decide (c.1=64)))=true then 9 else if (r.Conflict&&r.Sound)=true then 2 else 0)) u (λk i c s h1=>?_) (λk c=>?_) (0,0,0,0)).trans ?_
  ·have w:=(gS.1 h1).1;have hi:i<64:=by rw [<-r.States.h];exact w
   have o:decide ((i:Int)<64)=true:=dT (by omega);simp only [zD,yH,o,zT,yO h1,zC,fJ w u,fr_at r hi,dY,xM];show gJ (dH s 0 3) _ _=_;unfold goF stF
   cases dH s 0 3 with
   |true=>rfl
   |false=>
    rw [zM,if_neg (by decide)]
    cases((decide (s=0)&&decide (r.Frame.l.getD i 0≠0))||decide (4095<r.Frame.l.getD i 0))with
    |true=>rfl
    |false=>
     rw [zM,if_neg (by decide)];show _=k ((aHy c s).1,(aHy c s).2.1,(aHy c s).2.2.1,(aHy c s).2.2.2,_);unfold aHy
     by_cases b:s=3
     ·rw [dT b,zT,if_pos b]
     ·rw [qD b,zM,if_neg b]
      by_cases f:s=2
      ·rw [dT f,zT,if_pos f]
      ·rw [qD f,zM,if_neg f]
       by_cases m:s=1
       ·rw [dT m,zT,if_pos m]
       ·rw [qD m,zM,if_neg m]
  ·have o:decide (((r.States.l.length:Nat):Int)<64)=false:=qD (by rw [r.States.h];omega);simp only [zD,o,zM,Fj5,A,aVo t,rSound_eq t,zC,dY,xM,Bool.or_assoc]
   cases(r.Sound&&(!decide (qI g)||(decide ((aKh g).1≠r.Number)||decide (0<IntKind.i64.wrap (c.2.2.2+c.2.1)))))with
   |true=>rfl
   |false=>
    rw [zM,if_neg (by decide)]
    cases(!r.Sound&&decide (0<IntKind.i64.wrap (c.1+c.2.2.1)))with
    |true=>rfl
    |false=>
     rw [zM,if_neg (by decide)]
     cases(decide (r.Copies<0)||((decide (r.Copies=0)&&r.Sound)&&decide (c.1=64)))with
     |true=>rfl
     |false=>
      rw [zM,if_neg (by decide)]
      cases(r.Conflict&&r.Sound)<;>rfl
  ·rw [aDz];rcases aO (stF r.Frame.l) r.States.l 0 with ⟨j,x,_,-,-,b⟩|⟨h1,b⟩
   ·rw [b,b]
   rw [b,b];have e: ∀x∈r.States.l,0<=x/\x<=3:=by
    intro x d;obtain⟨j,D,rfl⟩:=List.mem_iff_getElem.1 d;exact aZa (h1 j _ (gE D))
   have z:=aEu r.States.l 0 0 0 0 (by omega);simp only [Nat.zero_add,Int.natCast_zero]at z;rw [z];have c1:=List.countP_le_length (p:=λs:Int=>decide (s=3)) (l:=r.States.l);have c2:=List.countP_le_length (p:=λs:Int=>decide (s=1)) (l:=r.States.l);have c3:=List.countP_le_length (p:=λs:Int=>decide (s=2)) (l:=r.States.l);have c4:=List.countP_le_length (p:=λs:Int=> !(decide (s=3)||decide (s=2)||decide (s=1))) (l:=r.States.l);simp only;rw [wrap_i64 (n:=((r.States.l.countP (λs:Int=> !(decide (s=3)||decide (s=2)||decide (s=1))):Nat):Int)+_) (by omega) (by omega),wrap_i64 (n:=((r.States.l.countP (λs:Int=>decide (s=3)):Nat):Int)+_) (by omega) (by omega)];have E:decide (0<((r.States.l.countP (λs:Int=> !(decide (s=3)||decide (s=2)||decide (s=1))):Nat):Int)+((r.States.l.countP (λs:Int=>decide (s=1)):Nat):Int))=r.States.l.any λy=>decide (y=0)||decide (y=1):=by
    have a:decide (0<((r.States.l.countP (λs:Int=> !(decide (s=3)||decide (s=2)||decide (s=1))):Nat):Int)+((r.States.l.countP (λs:Int=>decide (s=1)):Nat):Int))=(decide (0<r.States.l.countP (λs:Int=> !(decide (s=3)||decide (s=2)||decide (s=1))))||decide (0<r.States.l.countP (λs:Int=>decide (s=1)))):=by
     rw [Bool.eq_iff_iff,Bool.or_eq_true];simp only [decide_eq_true_eq];omega
    rw [a,wX,wX,aQz];refine aGj λx d=>?_
    have:=e x d;rw [Bool.eq_iff_iff];simp only [Bool.or_eq_true,Bool.not_eq_true',Bool.or_eq_false_iff,decide_eq_true_eq,decide_eq_false_iff_not];omega
   have F:decide (0<((r.States.l.countP (λs:Int=>decide (s=3)):Nat):Int)+((r.States.l.countP (λs:Int=>decide (s=2)):Nat):Int))=r.States.l.any λy=>decide (y=3)||decide (y=2):=by
    have a:decide (0<((r.States.l.countP (λs:Int=>decide (s=3)):Nat):Int)+((r.States.l.countP (λs:Int=>decide (s=2)):Nat):Int))=(decide (0<r.States.l.countP (λs:Int=>decide (s=3)))||decide (0<r.States.l.countP (λs:Int=>decide (s=2)))):=by
     rw [Bool.eq_iff_iff,Bool.or_eq_true];simp only [decide_eq_true_eq];omega
    rw [a,wX,wX,aQz]
   have G:decide (((r.States.l.countP (λs:Int=>decide (s=3)):Nat):Int)=64)= !(r.States.l.any λy=>decide (y≠3)):=by
    have a:decide (((r.States.l.countP (λs:Int=>decide (s=3)):Nat):Int)=64)=decide (r.States.l.countP (λs:Int=>decide (s=3))=r.States.l.length):=decide_eq_decide.2 (by omega);rw [a,Bool.eq_iff_iff,decide_eq_true_eq,List.countP_eq_length,Bool.not_eq_true',List.any_eq_false];constructor
    ·intro q x d;have:=q x d;simpa using this
    ·intro q x d;have:=q x d;simpa using this
   rw [E,F,G];unfold aTz sndM;have H:(!decide (qI g)||decide ((aKh g).1≠r.Number))= !(decide (qI g)&&decide ((aKh g).1=r.Number)):=by
    rw [Bool.not_and,decide_not]
   rw [H]
def uU (x:Line):Bool:=((((dH x.From (-1099511627776) 1099511627776||dH x.To (-1099511627776) 1099511627776)||decide (x.To<x.From))||dH x.A (-1048576) 1048576)||dH x.B (-1125899906842624) 1125899906842624)
def aCy (l:List Line):Nat->Line->Option (Option Int):=λi x=>if uU x=true then some (some 9)else if (decide (0<i)&&decide (x.From<=((l[i-1]?).getD x).To))=true then some (some 10)else none
def aBv (x:Line)(n:Int):Int:=IntKind.i64.wrap (IntKind.i64.wrap (x.A*n)+x.B)
def endBad (x:Line):Bool:=dH (aBv x x.From) (-1125899906842624) 1125899906842624||dH (aBv x x.To) (-1125899906842624) 1125899906842624
def qG (c:fB):Bool:=(dH c.Low (-1125899906842624) 1125899906842624||dH c.High (-1125899906842624) 1125899906842624)||decide (c.High<c.Low)
def calR (c:fB):Option Int:=if c.Lines.any endBad=true then some 9 else if qG c=true then some 9 else some 0
def aOv (c:fB):Option Int:=if dH c.Den 1 1000000=true then some 9 else if c.Lines.length=0 then some 13 else if 50<c.Lines.length then some 3 else dI (aCy c.Lines) (calR c) c.Lines 0
theorem aIv {a:Type}{l:List a}{i:Nat}{x:a}(h:l[i]? =some x)(b:l.length<=9223372036854775807)(c:0<i):at' l (IntKind.i64.wrap ((i:Int)-1))=some ((l[i-1]?).getD x):=by
 have d:=(gS.1 h).1;rw [wrap_i64 (by omega) (by omega),show(i:Int)-1=((i-1:Nat):Int)by omega,aAb,gE (by omega:i-1<l.length)];rfl
theorem cal_s (c:fB) (a:c.Lines.length<=9223372036854775807):Fbp c=aOv c:=by
 unfold Fbp aOv;simp only [swi,zC,zD,yH,nwi,xM];show gJ (dH c.Den 1 1000000) _ _=_
 cases dH c.Den 1 1000000 with
 |true=>rfl
 |false=>
  rw [zM,if_neg (by decide),yS]
  by_cases d:c.Lines.length=0
  ·rw [if_pos d,if_pos (by omega)]
  rw [if_neg d,if_neg (by omega),yS]
  by_cases e:50<c.Lines.length
  ·rw [if_pos e,if_pos (by omega)]
  rw [if_neg e,if_neg (by omega)];unfold Fh4;refine xQ c.Lines (aCy c.Lines) _ a (λk i x h1 b=>?_) (λk=>?_)
  ·simp only [zD,yD b,zT,yO h1,zC,fJ b a,swi,nwi,xM];show gJ (uU x) _ _=_;unfold aCy
   cases uU x with
   |true=>rfl
   |false=>
    rw [zM,if_neg (by decide)]
    by_cases c0:0<i
    ·rw [dT (show(0:Int)<(i:Int)by omega),dT c0,zT,aIv h1 a c0,zC,zC,Bool.true_and]
     cases decide (x.From<=((c.Lines[i-1]?).getD x).To)<;>rfl
    ·rw [qD (show¬(0:Int)<(i:Int)by omega),qD c0];rfl
  ·simp only [zD,yE,zM];unfold Fh7;rw [jL c.Lines endBad (some 9) (if qG c=true then some 9 else some 0) a]
   ·unfold calR
    cases c.Lines.any endBad<;>rfl
   ·intro k i x h1 b;simp only [zD,yD b,zT,yO h1,zC,fJ b a,swi,nwi,xM,Fa5];rfl
   ·intro k;simp only [zD,yE,zM];show gJ (qG c) _ _=_
    cases qG c<;>rfl
theorem cal_5 (c:fB) (a:c.Lines.length<=9223372036854775807):Fd3 c=aOv c:=by
 unfold Fd3 aOv;simp only [aYc,zC,zD,yH,xM];show gJ (dH c.Den 1 1000000) _ _=_
 cases dH c.Den 1 1000000 with
 |true=>rfl
 |false=>
  rw [zM,if_neg (by decide),yS]
  by_cases d:c.Lines.length=0
  ·rw [if_pos d,if_pos (by omega)]
  rw [if_neg d,if_neg (by omega),yS]
  by_cases e:50<c.Lines.length
  ·rw [if_pos e,if_pos (by omega)]
  rw [if_neg e,if_neg (by omega)];unfold Fkg;refine xQ c.Lines (aCy c.Lines) _ a (λk i x h1 b=>?_) (λk=>?_)
  ·simp only [zD,yD b,zT,yO h1,zC,fJ b a,aYc,xM];show gJ (uU x) _ _=_;unfold aCy
   cases uU x with
   |true=>rfl
   |false=>
    rw [zM,if_neg (by decide)]
    by_cases c0:0<i
    ·rw [dT (show(0:Int)<(i:Int)by omega),dT c0,zT,aIv h1 a c0,zC,zC,Bool.true_and]
     cases decide (x.From<=((c.Lines[i-1]?).getD x).To)<;>rfl
    ·rw [qD (show¬(0:Int)<(i:Int)by omega),qD c0];rfl
  ·simp only [zD,yE,zM];unfold Fkd;rw [jL c.Lines endBad (some 9) (if qG c=true then some 9 else some 0) a]
   ·unfold calR
    cases c.Lines.any endBad<;>rfl
   ·intro k i x h1 b;simp only [zD,yD b,zT,yO h1,zC,fJ b a,aYc,xM];rfl
   ·intro k;simp only [zD,yE,zM];show gJ (qG c) _ _=_
    cases qG c<;>rfl
theorem calR_some (c:fB): ∃v,calR c=some v:=by
 unfold calR;split;exact⟨_,rfl⟩;split<;>exact⟨_,rfl⟩
theorem calO_some (c:fB): ∃v,aOv c=some v:=by
 unfold aOv;split
 ·exact⟨_,rfl⟩
 split
 ·exact⟨_,rfl⟩
 split
 ·exact⟨_,rfl⟩
 rcases aO (aCy c.Lines) c.Lines 0 with ⟨_,_,v,h1,a,b⟩|⟨h1,b⟩
 ·rw [b];unfold aCy at a;split at a
  ·exact⟨9,by cases a;rfl⟩
  ·split at a
   ·exact⟨10,by cases a;rfl⟩
   ·cases a
 ·rw [b];exact calR_some c
def aGp (c:fB):Int:=(aOv c).getD 0
theorem aIw (c:fB):aOv c=some (aGp c):=by
 obtain⟨_,a⟩:=calO_some c;unfold aGp;rw [a];rfl
structure aNr (c:fB):Prop where
 d1:1<=c.Den
 d2:c.Den<=1000000
 n1:c.Lines.length≠0
 n2:c.Lines.length<=50
 lb: ∀x∈c.Lines,uU x=false
 eb: ∀x∈c.Lines,endBad x=false
 ord: ∀(j:Nat) (x y:Line),c.Lines[j]? =some y->c.Lines[j+1]? =some x->y.To<x.From
 rg:qG c=false
theorem cal_ok {c:fB} (h:aGp c=0):aNr c:=by
 have a:=aIw c;rw [h]at a;unfold aOv at a;split at a
 ·cases a
 rename_i hd;split at a
 ·cases a
 split at a
 ·cases a
 rename_i i _;have hd:=pF.1 (by simpa using hd:dH c.Den 1 1000000=false);rcases aO (aCy c.Lines) c.Lines 0 with ⟨j,x,_,h1,b,e⟩|⟨h1,e⟩
 ·rw [e]at a;subst a;unfold aCy at b;split at b
  ·cases b
  ·split at b<;>cases b
 ·rw [e]at a;unfold calR at a;split at a
  ·cases a
  rename_i k;split at a
  ·cases a
  rename_i l;have g: ∀(j:Nat) (x:Line),c.Lines[j]? =some x->uU x=false/\(decide (0<j)&&decide (x.From<=((c.Lines[j-1]?).getD x).To))=false:=by
   intro j x f;have:=h1 j x f;rw [Nat.zero_add]at this;unfold aCy at this;split at this
   ·cases this
   ·split at this
    ·cases this
    ·rename_i m n;exact⟨by simpa using m,by simpa using n⟩
  refine⟨hd.1,hd.2,i,by omega,?_,?_,?_,by simpa using l⟩
  ·intro x d;obtain⟨j,f,rfl⟩:=List.mem_iff_getElem.1 d;exact(g j _ (gE f)).1
  ·intro x d
   cases hb:endBad x with
   |false=>rfl
   |true=>exact absurd (List.any_eq_true.2 ⟨x,d,hb⟩) k
  ·intro j x _ o d;have:=(g (j+1) x d).2;rw [show j+1-1=j by omega,o]at this;simp at this;omega
structure SzS (x:fD):Prop where
 tr:okS x.Track
 ml:x.Meaning.length<=9223372036854775807
 ms: ∀c∈x.Meaning,c.Lines.length<=9223372036854775807
structure SzB (b:Book):Prop where
 mp:SzM b.Map
 sl:b.Sources.length<=9223372036854775807
 ss: ∀x∈b.Sources,SzS x
 rl:b.Rests.length<=9223372036854775807
 rs: ∀r∈b.Rests,SzR r
def rsM (r:gW):Int:=aUc r (r.Frame.l.map Int.toNat)
theorem aWd {g:List Nat}{h:g.length=64}:(en g h).l.map Int.toNat=g:=by
 unfold en;simp only [List.map_map];have:(Int.toNat∘λn:Nat=>(n:Int))=id:=by funext n;simp
 rw [this,List.map_id]
theorem bAq {r:gW}(h:SzR r):Fa6 r=some (rsM r):=by
 obtain⟨g,b,c,a⟩:=h;rw [rest_l r g b c a];unfold rsM;rw [a,aWd]
theorem crest_4 {r:gW}(h:SzR r):Fb8 r=some (rsM r):=by
 obtain⟨g,b,c,a⟩:=h;rw [rest_4 r g b c a];unfold rsM;rw [a,aWd]
def uK {a:Type}(l:List a):List (a×a):=l.zip l.tail
theorem pairs_at {a:Type}{l:List a}{i:Nat}{p:a×a}(h:(uK l)[i]? =some p):l[i]? =some p.1/\l[i+1]? =some p.2:=by
 unfold uK at h;rw [List.getElem?_zip_eq_some,List.getElem?_tail]at h;exact h
theorem pairs_len {a:Type}(l:List a):(uK l).length=l.length-1:=by
 unfold uK;rw [List.length_zip,List.length_tail];omega
theorem aGs {a b:Type}{body:(Int->Option b)->Int->Option b} (l:List a) (q:a×a->Bool) (r fin:Option b) (o:l.length<=9223372036854775807)
  (h: ∀k (i:Nat) x y,l[i]? =some x->l[i+1]? =some y->i+1<l.length->body k ((i+1:Nat):Int)=gJ (q (x,y)) r (k ((i+1+1:Nat):Int))) (f: ∀k (n:Nat),l.length<=n->body k (n:Int)=fin):gZ body 1=gJ ((uK l).any q) r fin:=by
 have c:=pairs_len l;have e:gZ body 1=aX (λ_ x _=>if q x=true then .inr r else .inl ()) (λ_=>fin) (uK l) 0 ():=by
  refine nX (λ(i:Nat) (_:Unit)=>((i+1:Nat):Int)) (uK l) _ _ (by omega) (λk i s x h1=>?_) (λk s=>?_) ()
  ·obtain⟨g,d⟩:=pairs_at h1;have j:=(gS.1 d).1;rw [h k i x.1 x.2 g d j]
   cases q x<;>rfl
  ·exact f k _ (by omega)
 rw [e];have: ∀(l:List (a×a)) (i:Nat),aX (λ_ x _=>if q x=true then .inr r else .inl ()) (λ_:Unit=>fin) l i ()=gJ (l.any q) r fin:=by
  intro l
  induction l with
  |nil=>intro i;rfl
  |cons x l m=>
   intro i;rw [aX,List.any_cons]
   cases q x with
   |true=>rfl
   |false=>exact m (i+1)
 exact this _ 0
def aPs (l:List gW):Bool:=(uK l).any λp=>decide (p.2.Number<=p.1.Number)
def rsF:Nat->gW->Option (Option Int):=λ_ x=>if rsM x=0 then none else some (some (rsM x))
def aGn (l:List gW):Option Int:=if 5000<l.length then some 3 else dI rsF (if aPs l=true then some 10 else some 0) l 0
theorem aVg {i:Nat}(h:i<=9223372036854775806):IntKind.i64.wrap (((i+1:Nat):Int)-1)=(i:Int):=by rw [wrap_i64 (by omega) (by omega)];omega
theorem fault_l (l:List gW) (a:l.length<=9223372036854775807) (f: ∀r∈l,SzR r):Faq l=aGn l:=by
 unfold Faq aGn
 repeat (first |rw [zD]|rw [yH]|rw [zC])
 rw [yS]
 by_cases c:5000<l.length
 ·rw [if_pos c,if_pos (by omega)]
 rw [if_neg c,if_neg (by omega)];unfold Fiw;refine xQ l rsF _ a (λk i x h1 b=>?_) (λk=>?_)
 ·have g:=f x (qS h1);simp only [zD,yD b,zT,yO h1,zC,fJ b a,bAq g];rw [yS];unfold rsF
  by_cases e:rsM x=0
  ·rw [if_neg (by simpa using e),if_pos e]
  ·rw [if_pos e,if_neg e]
 ·simp only [zD,yE,zM];unfold Fkq;rw [aGs l (λp=>decide (p.2.Number<=p.1.Number)) (some 10) (some 0) a]
  ·unfold aPs
   cases(uK l).any λp=>decide (p.2.Number<=p.1.Number)<;>rfl
  ·intro k i x _ h1 b d;simp only [zD,yD d,zT,yO b,zC,aVg (show i<=9223372036854775806 by omega),yO h1,fJ d a]
  ·intro k _ _;simp only [zD];rw [qD (by omega),zM]
theorem fault_5 (l:List gW) (a:l.length<=9223372036854775807) (f: ∀r∈l,SzR r):Fhr l=aGn l:=by
 unfold Fhr aGn
 repeat (first |rw [zD]|rw [yH]|rw [zC])
 rw [yS]
 by_cases c:5000<l.length
 ·rw [if_pos c,if_pos (by omega)]
 rw [if_neg c,if_neg (by omega)];unfold Fjh;refine xQ l rsF _ a (λk i x h1 b=>?_) (λk=>?_)
 ·have g:=f x (qS h1);simp only [zD,yD b,zT,yO h1,zC,fJ b a,crest_4 g];rw [yS];unfold rsF
  by_cases e:rsM x=0
  ·rw [if_neg (by simpa using e),if_pos e]
  ·rw [if_pos e,if_neg e]
 ·simp only [zD,yE,zM];unfold Fjs;rw [aGs l (λp=>decide (p.2.Number<=p.1.Number)) (some 10) (some 0) a]
  ·unfold aPs
   cases(uK l).any λp=>decide (p.2.Number<=p.1.Number)<;>rfl
  ·intro k i x _ h1 b d;simp only [zD,yD d,zT,yO b,zC,aVg (show i<=9223372036854775806 by omega),yO h1,fJ d a]
  ·intro k _ _;simp only [zD];rw [qD (by omega),zM]
structure bAa (l:List gW):Prop where
 n:l.length<=5000
 all: ∀r∈l,rsM r=0
 ord:aPs l=false
theorem aEp {f:Type} (p:f->Bool): ∀(l:List f) (i:Nat),(aLx p l i= -1/\ ∀x∈l,p x=false)\/ ∃j x,aLx p l i=((i+j:Nat):Int)/\l[j]? =some x/\p x=true/\ ∀a c,a<j->l[a]? =some c->p c=false
 | [],i=> .inl ⟨rfl,λx h=>by cases h⟩
 |x::l,i=>by
  rw [aLx]
  by_cases h:p x=true
  ·rw [if_pos h];exact .inr ⟨0,x,rfl,rfl,h,λa c h=>by omega⟩
  ·rw [if_neg h];rcases aEp p l (i+1)with ⟨h1,d⟩|⟨j,y,h1,d,g,k⟩
   ·refine .inl ⟨h1,λy e=>?_⟩;rcases List.mem_cons.1 e with rfl|e
    ·simpa using h
    ·exact d y e
   ·refine .inr ⟨j+1,y,by rw [h1];congr 1;omega,by simpa using d,g,λa c m b=>?_⟩
    cases a with
    |zero=>simp at b;subst b;simpa using h
    |succ a=>exact k a c (by omega) (by simpa using b)
def qK (b:Map)(s:Str):Int:=aLx (λy:Param=>decide (y.Name=s)) b.Params 0
theorem par_idx (b:Map)(a:b.Params.length<=9223372036854775807)(x:fD):Fc1 b.Params x=some (qK b x.Param):=by
 unfold Fc1 Fkm
 repeat (first |rw [zD]|rw [yH]|rw [zC])
 exact jY b.Params (λy=>decide (y.Name=x.Param)) a (λk _ y h1 c=>by simp only [zD,yD c,zT,yO h1,zC,fJ c a,Fgj]) (λk=>by simp only [zD,yE,zM])
theorem par_idxR (b:Map)(a:b.Params.length<=9223372036854775807)(s:Str):Fch b.Params s=some (qK b s):=by
 unfold Fch Fiz
 repeat (first |rw [zD]|rw [yH]|rw [zC])
 exact jY b.Params (λy=>decide (y.Name=s)) a (λk _ y h1 c=>by simp only [zD,yD c,zT,yO h1,zC,fJ c a,Fej]) (λk=>by simp only [zD,yE,zM])
theorem par_5 (b:Map)(a:b.Params.length<=9223372036854775807)(s:Str):Fby b s=some (qK b s):=by
 unfold Fby Fkw
 repeat (first |rw [zD]|rw [yH]|rw [zC])
 exact jY b.Params (λy=>decide (y.Name=s)) a (λk _ y h1 c=>by simp only [zD,yD c,zT,yO h1,zC,fJ c a]) (λk=>by simp only [zD,yE,zM])
theorem contT_eq (l:List fD)(c:fD)(a:l.length<=9223372036854775807):Fdk l c=some (l.any λy=>decide (y.Track=c.Track)):=by
 unfold Fdk Ff9 Fjy
 repeat (first |rw [zD]|rw [yH]|rw [zC])
 rw [jY l (λy=>decide (y.Track=c.Track)) a (λk _ _ h1 b=>by simp only [zD,yD b,zT,yO h1,zC,fJ b a,Fff]) (λk=>by simp only [zD,yE,zM]),zC,zD,rP]
def aKr (x:fD):Int:=match x.Meaning with
 | [c]=>aGp c
 |_=>0
def aDe (b:Book)(i:Nat)(x:fD):Int:=
 if aGl x.Track=false then 8 else if (b.Sources.take i).any (λy=>decide (y.Track=x.Track))=true then 5 else if qK b.Map x.Param<0 then 4
 else if 1<x.Meaning.length then 2 else if aKr x≠0 then aKr x else if dH x.Long 0 1099511627776=true then 9 else 0
theorem parOf (b:Book) (c:b.Map.Params.length<=9223372036854775807) (x:fD): ∃p,Fa2 b x=some (p,decide (0<=qK b.Map x.Param))/\(0<=qK b.Map x.Param->b.Map.Params[(qK b.Map x.Param).toNat]? =some p):=by
 unfold Fa2;rw [par_idx b.Map c x,zC,zD,yS];rcases aEp (λy:Param=>decide (y.Name=x.Param)) b.Map.Params 0 with ⟨h1,a⟩|⟨j,y,h1,a,_,_⟩
 ·have h1:qK b.Map x.Param= -1:=h1;rw [h1,if_pos (by decide)];exact⟨_,rfl,λh=>absurd h (by decide)⟩
 ·rw [Nat.zero_add]at h1;have h1:qK b.Map x.Param=(j:Int):=h1;rw [h1,if_neg (by omega),yO a,zC];refine⟨y,?_,λ_=>by rw [Int.toNat_natCast];exact a⟩;rw [dT (by omega:(0:Int)<=(j:Int))]
theorem src_l {b:Book} (g:SzB b) {i:Nat}{x:fD} (hi:b.Sources[i]? =some x):Fcv b (i:Int)=some (aDe b i x):=by
 have m:=(gS.1 hi).1;have f:=g.ss x (qS hi);obtain⟨_,j,-⟩:=parOf b g.mp.pl x;unfold Fcv aDe;simp only [yO hi,zC,j,IsName_eq x.Track f.tr,zD,yH,fwi,nwi,aCb b.Sources (by omega:i<=b.Sources.length)];rw [contT_eq _ _ (by rw [List.length_take];have:=g.sl;omega),zC]
 cases aGl x.Track with
 |false=>rfl
 |true=>
  simp only [Bool.not_true,zM,Bool.true_eq_false,if_false]
  cases((b.Sources.take i).any λy=>decide (y.Track=x.Track))with
  |true=>rfl
  |false=>
   simp only [zM,Bool.false_eq_true,if_false]
   by_cases c4:qK b.Map x.Param<0
   ·rw [if_pos c4,qD (by omega: ¬0<=qK b.Map x.Param)];rfl
   rw [if_neg c4,dT (by omega:0<=qK b.Map x.Param)];simp only [Bool.not_true,zM,yS]
   by_cases c2:1<x.Meaning.length
   ·rw [if_pos c2,if_pos (by omega)]
   rw [if_neg c2,if_neg (by omega)];unfold Fkj;have a:gJ (decide (x.Long<0)||decide (1099511627776<x.Long)) (some (9:Int)) (some 0)=some (if dH x.Long 0 1099511627776=true then 9 else 0):=by
    show gJ (dH x.Long 0 1099511627776) _ _=_
    cases dH x.Long 0 1099511627776<;>rfl
   rw [a];rw [xQ x.Meaning (λ_ c=>if aGp c=0 then none else some (some (aGp c))) (some (if dH x.Long 0 1099511627776=true then 9 else 0)) f.ml]
   ·have hm:dI (λ_ c=>if aGp c=0 then none else some (some (aGp c))) (some (if dH x.Long 0 1099511627776=true then 9 else 0)) x.Meaning 0=some (if aKr x≠0 then aKr x else if dH x.Long 0 1099511627776=true then 9 else 0):=by
     unfold aKr;rcases hm:x.Meaning with _|⟨c,_|⟨_,_⟩⟩
     ·rfl
     ·rw [dI]
      by_cases e:aGp c=0
      ·simp only [e,ne_eq,not_true,if_false,if_true];rfl
      ·simp only [e,ne_eq,not_false_eq_true,if_true,if_false]
     ·rw [hm]at c2;simp at c2
    exact hm
   ·intro k i c h1 h;simp only [zD,yD h,zT,yO h1,zC,fJ h f.ml,cal_s c (f.ms c (qS h1)),aIw];rw [yS]
    by_cases e:aGp c=0
    ·rw [if_neg (by simpa using e),if_pos e]
    ·rw [if_pos e,if_neg e]
   ·intro k;simp only [zD,yE,zM]
theorem uB (b:Nat):(2:Int)^b=((2^b:Nat):Int):=by exact_mod_cast rfl
theorem aCn {b c:Nat}(h:b<=c):(2:Nat)^b<=2^c:=Nat.pow_le_pow_right (by decide) h
theorem aIh {a b:Nat}(c:b<=64)(h:a*2^b<4611686018427387904):jS .i64 (a:Int) (b:Int)=some ((a*2^b:Nat):Int):=by
 unfold jS;have e:(IntKind.i64.bits:Int)=64:=rfl;rw [if_pos ⟨by omega,by rw [e];omega⟩,Int.toNat_natCast,uB,<-Int.natCast_mul,Go.OB.wrap_i64 (by omega) (by omega)]
theorem aEi {a b:Nat}(c:b<=62)(h:a<4611686018427387904):bits .and .i64 (a:Int) (((2^b:Nat):Int)-1)=((a%2^b:Nat):Int):=by
 rw [aFi (m:=((2^b:Nat):Int)) b c (uB b) (by omega) (by omega) (by omega)]
 exact_mod_cast rfl
theorem aTh {a b c:Nat}(f:a*2^b<4611686018427387904)(g:c<2^b)(d:b<=60):bits .or .i64 ((a*2^b:Nat):Int) (c:Int)=((a*2^b+c:Nat):Int):=by
 have e:(2:Nat)^b<=2^60:=aCn d;rw [aJg (m:=((2^b:Nat):Int)) b (uB b) (by omega) (by omega) (by rw [Int.natCast_mul];exact Int.mul_emod_left _ _) (by omega) (by omega) (by omega)];omega
theorem part_bits {w a b:Nat}(h:a+b<=11):w%2048/2^a%2^b=w/2^a%2^b:=by
 have e:(2048:Nat)=2^a*2^(11-a):=by rw [<-Nat.pow_add,show a+(11-a)=11 by omega]
 rw [e,Nat.mod_mul_right_div_self];exact Nat.mod_mod_of_dvd _ ⟨2^(11-a-b),by rw [<-Nat.pow_add,show b+(11-a-b)=11-a by omega]⟩
def nib (r i:Nat):Nat:=r/2^(4*i)%16
def kY (r m:Nat):Nat->Nat×Bool
 |0=>(0,true)
 |i+1=>((kY r m i).1*10+nib r (m-1-i),(kY r m i).2&&decide (nib r (m-1-i)<10))
theorem aXz (r i:Nat):nib r i<16:=Nat.mod_lt _ (by decide)
theorem aZi (r m:Nat): ∀i,9*(kY r m i).1+15<=15*10^i
 |0=>by show 9*0+15<=15*10^0;decide
 |i+1=>by
  have:=aZi r m i;have a:=aXz r (m-1-i);show 9*((kY r m i).1*10+nib r (m-1-i))+15<=_;rw [Nat.pow_succ];omega
theorem aQa (r m i:Nat):(kY r m i).1<2*10^i:=by have:=aZi r m i;omega
theorem aLm {r m:Nat}(hm:m<=16)(a:r<2^(4*m)): ∀i,kY r 16 (16-m+i)=kY r m i
 |0=>by
  have: ∀j,j<=16-m->kY r 16 j=(0,true):=by
   intro j
   induction j with
   |zero=>intro _;rfl
   |succ j b=>
    intro _;rw [kY,b (by omega)];have:nib r (16-1-j)=0:=by
     unfold nib;rw [Nat.div_eq_of_lt];exact Nat.lt_of_lt_of_le a (aCn (by omega))
    rw [this];rfl
  exact this (16-m) (Nat.le_refl _)
 |i+1=>by
  rw [show 16-m+(i+1)=(16-m+i)+1 by omega,kY,kY,aLm hm a i]
  by_cases c:i<m
  ·rw [show 16-1-(16-m+i)=m-1-i by omega]
  ·rw [show 16-1-(16-m+i)=0 by omega,show m-1-i=0 by omega]
theorem aUi {i:Nat}(h:i<=16):2*10^i<=20000000000000000:=by
 have:(10:Nat)^i<=10^16:=Nat.pow_le_pow_right (by decide) h;omega
theorem decimal_l (r:Nat) (g:r<4611686018427387904):Fbm (r:Int)=some (((kY r 16 16).1:Int),(kY r 16 16).2):=by
 unfold Fbm Fke;rw [yR (r:=some (((kY r 16 16).1:Int),(kY r 16 16).2)) (λi=>(((kY r 16 i).1:Int),(kY r 16 i).2,60-4*(i:Int))) 16 (by decide)]
 ·rfl
 ·rfl
 ·intro k i _;have h1:=aQa r 16 i;have h:=aUi (show i<=16 by omega);have j:=aXz r (15-i);have a:bits .and .i64 ((r/2^(4*(15-i)):Nat):Int) 15=((nib r (15-i):Nat):Int):=by
   have:r/2^(4*(15-i))<=r:=Nat.div_le_self _ _;exact aEi (b:=4) (by decide) (by omega)
  simp only [zD];rw [dT (by omega:(0:Int)<=60-4*(i:Int)),zT,show(60:Int)-4*(i:Int)=((4*(15-i):Nat):Int)by omega,aAp (by show 4*(15-i)<=64;omega),zC,a,
   Go.OB.wrap_i64 (n:=((kY r 16 i).1:Int)*10) (by omega) (by omega),Go.OB.wrap_i64 (n:=((kY r 16 i).1:Int)*10+_) (by omega) (by omega),Go.OB.wrap_i64 (n:=((4*(15-i):Nat):Int)-4) (by omega) (by omega)]
  have c:decide (((nib r (15-i):Nat):Int)<10)=decide (nib r (15-i)<10):=decide_eq_decide.2 (by omega);have d:kY r 16 (i+1)=((kY r 16 i).1*10+nib r (15-i),(kY r 16 i).2&&decide (nib r (15-i)<10)):=rfl;have e:((4*(15-i):Nat):Int)-4=60-4*((i+1:Nat):Int):=by omega
  have f:((kY r 16 i).1:Int)*10+((nib r (15-i):Nat):Int)=(((kY r 16 i).1*10+nib r (15-i):Nat):Int):=by omega
  rw [c,d,e,f]
  cases(kY r 16 i).2<;>rfl
 ·intro k;rfl
theorem decimal_2 (r m:Nat) (hm:m<=16) (w:r<4611686018427387904) (k:Int->Option (Int×Bool)):Ffe (r:Int) k (0,4*(m:Int)-4)=if (kY r m m).2=true then k ((kY r m m).1:Int)else some (0,false):=by
 unfold Ffe;have f: ∀B:(Int×Int->Option (Int×Bool))->Int×Int->Option (Int×Bool),(∀g (v s:Int),B g (v,s)=gJ (decide (0<=s)) (gB (aAe .i64 (r:Int) s) λx=>gJ (decide (9<bits .and .i64 x 15)) (some (0,false)) (g (IntKind.i64.wrap (IntKind.i64.wrap (10*v)+bits .and .i64 x 15),IntKind.i64.wrap (s-4)))) (k v))->
   ∀(d i a:Nat),i+d=m->d<a->(kY r m i).2=true->kC B a (((kY r m i).1:Int),4*((m-i:Nat):Int)-4)=if (kY r m m).2=true then k ((kY r m m).1:Int)else some (0,false):=by
  intro B q d
  induction d with
  |zero=>
   intro i a h1 t l;obtain⟨a,rfl⟩: ∃k,a=k+1:=⟨a-1,by omega⟩;obtain rfl:i=m:=by omega
   rw [kC,q,qD (by omega),zM,if_pos l]
  |succ d o=>
   intro i a h1 t l;obtain⟨a,rfl⟩: ∃k,a=k+1:=⟨a-1,by omega⟩;have l1:=aQa r m i;have l2:=aUi (show i<=16 by omega);have y:=aXz r (m-1-i);have u:bits .and .i64 ((r/2^(4*(m-1-i)):Nat):Int) 15=((nib r (m-1-i):Nat):Int):=by
    have:r/2^(4*(m-1-i))<=r:=Nat.div_le_self _ _;exact aEi (b:=4) (by decide) (by omega)
   rw [kC,q,dT (by omega),zT,show(4:Int)*((m-i:Nat):Int)-4=((4*(m-1-i):Nat):Int)by omega,aAp (by show 4*(m-1-i)<=64;omega),zC,u];have p:kY r m (i+1)=((kY r m i).1*10+nib r (m-1-i),(kY r m i).2&&decide (nib r (m-1-i)<10)):=rfl
   by_cases c:nib r (m-1-i)<10
   ·rw [qD (by omega),zM,Go.OB.wrap_i64 (n:=10*((kY r m i).1:Int)) (by omega) (by omega),Go.OB.wrap_i64 (n:=10*((kY r m i).1:Int)+_) (by omega) (by omega),Go.OB.wrap_i64 (by omega) (by omega)];have:=o (i+1) a (by omega) (by omega) (by rw [p];simp [l,c]);rw [p]at this;rw [<-this]
    congr 2
    ·omega
    ·omega
   ·rw [dT (by omega),zT,if_neg];have: ∀d j,(kY r m j).2=false->(kY r m (j+d)).2=false:=by
     intro d
     induction d with
     |zero=>intro j h;exact h
     |succ d o=>intro j h;rw [Nat.add_succ,kY,o j h];rfl
    have:=this d (i+1) (by rw [p];simp [c]);rw [show i+1+d=m by omega]at this;rw [this];decide
 have e: ∀B:(Int×Int->Option (Int×Bool))->Int×Int->Option (Int×Bool),gZ B (0,4*(m:Int)-4)=kC B FU (0,4*(m:Int)-4):=λB=>rfl
 rw [e];exact f _ (λg v s=>rfl) m 0 FU (by omega) (by unfold FU;omega) rfl
theorem aQw {p:Param} (g:SzP p) (s:pI p=0) (r:Nat) (l:(r:Int)<2^(nD p.Parts).toNat): ∃v h,Fa0 p (r:Int)=some (v,h)/\Fd7 p (r:Int)=some (v,h,0)/\ -1125899906842624<=v/\v<=1125899906842624:=by
 have o:=jI s;obtain⟨_,_⟩:=pF.1 o.kd;have w:=aLt o.pt;have y:=o.pt.sum;obtain⟨n,i⟩: ∃n:Nat,nD p.Parts=(n:Int):=⟨(nD p.Parts).toNat,by omega⟩;have z:1<=n:=by omega
 have j:n<=40:=by omega
 rw [i,Int.toNat_natCast,uB]at l;have l:r<2^n:=by omega
 have A:(2:Nat)^n<=2^40:=aCn j;have I:(2:Nat)^n=2*2^(n-1):=by
  have:=Nat.pow_succ' (n:=n-1) (m:=2);rw [show(n-1).succ=n by omega]at this;exact this
 have q:jS .i64 1 (IntKind.i64.wrap ((n:Int)-1))=some ((2^(n-1):Nat):Int):=by
  rw [Go.OB.wrap_i64 (by omega) (by omega),show(n:Int)-1=((n-1:Nat):Int)by omega];have:=aIh (a:=1) (b:=n-1) (by omega) (by omega);rw [Nat.one_mul]at this;exact this
 have t:jS .i64 1 (n:Int)=some ((2^n:Nat):Int):=by
  have:=aIh (a:=1) (b:=n) (by omega) (by omega);rw [Nat.one_mul]at this;exact this
 have d:kcM p.Kind n=false:=by
  have:=o.kf;unfold kfM at this;split at this
  ·cases this
  ·rename_i c;rw [<-i];simpa using c
 have B:Fd7 p (r:Int)=gB (Fgf p (r:Int)) λx=>some (x.1,x.2,0):=by
  unfold Fd7;rw [par_2 g,zC,zD,s,show decide ((0:Int)≠0)=false from rfl,zM,aQt p g.pl,zC,i,t,zC,zD,out2,zC,Go.OB.wrap_i64 (by omega) (by omega)];have:(decide ((r:Int)<0)||decide (((2^n:Nat):Int)-1<(r:Int)))=false:=by
   rw [Bool.or_eq_false_iff,decide_eq_false_iff_not,decide_eq_false_iff_not];omega
  rw [this,zM]
 have C:Fa0 p (r:Int)=gB (decK p n ((2^(n-1):Nat):Int) (r:Int)) λx=>some (if x.2=true then(x.1,true)else(0,false)):=by
  unfold Fa0 Fgp;rw [aQq p g.pl,zC,i,q,zC]
  cases decK p n ((2^(n-1):Nat):Int) (r:Int)<;>rfl
 rw [B,C];unfold decK Fgf;rw [aQt p g.pl,zC,i];simp only [yH,zD,yS];have J:IntKind.i64.wrap ((n:Int)-1)=((n-1:Nat):Int):=by rw [Go.OB.wrap_i64 (by omega) (by omega)];omega
 have u:IntKind.i64.wrap (2*((2^(n-1):Nat):Int))=((2^n:Nat):Int):=by rw [Go.OB.wrap_i64 (by omega) (by omega)];omega
 have hk:p.Kind=1\/p.Kind=2\/p.Kind=3\/p.Kind=4\/p.Kind=5\/p.Kind=6:=by omega
 rcases hk with hk|hk|hk|hk|hk|hk
 ·rw [hk];simp only [Fah,zD];refine⟨(r:Int),true,?_,rfl,by omega,by omega⟩;show gB (some ((r:Int),decide ((r:Int)<=_))) _=_;rw [u,Go.OB.wrap_i64 (by omega) (by omega),dT (by omega:(r:Int)<=((2^n:Nat):Int)-1)];rfl
 ·rw [hk];simp only [Fdg,zD];show ∃v h,gB (gB (gJ (decide (((2^(n-1):Nat):Int)<=(r:Int))) (some (IntKind.i64.wrap ((r:Int)-IntKind.i64.wrap (2*((2^(n-1):Nat):Int))))) (some (r:Int))) _) _=_/\gB (gB (jS .i64 1 (IntKind.i64.wrap ((n:Int)-1))) _) _=_/\_;rw [q,zC,u]
  by_cases c:2^(n-1)<=r
  ·rw [dT (by omega:((2^(n-1):Nat):Int)<=(r:Int)),zT,zC];have f:IntKind.i64.wrap ((r:Int)-((2^n:Nat):Int))=(r:Int)-((2^n:Nat):Int):=Go.OB.wrap_i64 (by omega) (by omega);refine⟨_,true,rfl,?_,by rw [f];omega,by rw [f];omega⟩;rw [if_pos (by omega),t];rfl
  ·rw [qD (by omega: ¬((2^(n-1):Nat):Int)<=(r:Int)),zM,zC];refine⟨_,true,rfl,?_,by omega,by omega⟩;rw [if_neg (by omega)];rfl
 ·rw [hk];simp only [Fb6,zD];show ∃v h,gB (gJ (decide (((2^(n-1):Nat):Int)<=(r:Int))) (some (IntKind.i64.wrap (((2^(n-1):Nat):Int)-(r:Int)),decide (((2^(n-1):Nat):Int)<(r:Int)))) (some ((r:Int),true))) _=_/\gB (gB (jS .i64 1 (IntKind.i64.wrap ((n:Int)-1))) _) _=_/\_;rw [q,zC]
  by_cases c:2^(n-1)<=r
  ·rw [dT (by omega:((2^(n-1):Nat):Int)<=(r:Int)),zT,zC]
   by_cases c2:r=2^(n-1)
   ·refine⟨0,false,?_,?_,by omega,by omega⟩
    ·rw [qD (by omega: ¬((2^(n-1):Nat):Int)<(r:Int))];rfl
    ·rw [if_pos (by omega)];rfl
   ·have f:IntKind.i64.wrap (((2^(n-1):Nat):Int)-(r:Int))=((2^(n-1):Nat):Int)-(r:Int):=Go.OB.wrap_i64 (by omega) (by omega);refine⟨IntKind.i64.wrap (((2^(n-1):Nat):Int)-(r:Int)),true,?_,?_,by rw [f];omega,by rw [f];omega⟩
    ·rw [dT (by omega:((2^(n-1):Nat):Int)<(r:Int))];rfl
    ·rw [if_neg (by omega),zC,if_pos (by omega),zC];rfl
  ·rw [qD (by omega: ¬((2^(n-1):Nat):Int)<=(r:Int)),zM,zC];refine⟨_,true,rfl,?_,by omega,by omega⟩;rw [if_neg (by omega),zC,if_neg (by omega)];rfl
 ·rw [hk]at d⊢;have K:n%4=0:=by
   unfold kcM at d;simp only [decide_true,Bool.true_and,Bool.or_eq_false_iff,decide_eq_false_iff_not]at d;have:=d.1.1;have e:((n:Int)).tmod 4=((n%4:Nat):Int):=by rw [Int.tmod_eq_emod_of_nonneg (by omega)];simp
   rw [e]at this;omega
  obtain⟨m,hm⟩: ∃m,n=4*m:=⟨n/4,by omega⟩;have hd:=decimal_l r (by omega);have k:=aLm (r:=r) (m:=m) (by omega) (by rw [<-hm];exact l) m;rw [show 16-m+m=16 by omega]at k;have D:IntKind.i64.wrap ((n:Int)-4)=4*(m:Int)-4:=by rw [Go.OB.wrap_i64 (by omega) (by omega)];omega
  simp only [Int.reduceEq,reduceIte];rw [hd,zC,D,decimal_2 r m (by omega) (by omega),k];have E:=aQa r m m;have F:(10:Nat)^m<=10^10:=Nat.pow_le_pow_right (by decide) (by omega)
  cases hb:(kY r m m).2 with
  |true=>exact⟨_,true,rfl,rfl,by omega,by omega⟩
  |false=>exact⟨0,false,rfl,rfl,by omega,by omega⟩
 ·rw [hk]at d⊢;have h1:n=1:=by
   unfold kcM at d;simp only [decide_true,Bool.true_and,Bool.or_eq_false_iff,decide_eq_false_iff_not]at d;have:=d.1.2;omega
  simp only [Fah,zD];refine⟨(r:Int),true,?_,rfl,by omega,by omega⟩;show gB (some ((r:Int),decide ((r:Int)<=1))) _=_;rw [h1]at l;rw [dT (by omega:(r:Int)<=1)];rfl
 ·rw [hk];simp only [Fah,zD];show ∃v h,gB (some ((r:Int),decide ((r:Int)<=IntKind.i64.wrap ((p.Names.length:Int)-1)))) _=_/\gB (if (p.Names.length:Int)<=(r:Int)then some ((0:Int),false)else some ((r:Int),true)) _=_/\_;rw [Go.OB.wrap_i64 (by omega) (by have:=g.nl;omega)]
  by_cases c:(p.Names.length:Int)<=(r:Int)
  ·rw [if_pos c,qD (by omega: ¬(r:Int)<=(p.Names.length:Int)-1)];exact⟨0,false,rfl,rfl,by omega,by omega⟩
  ·rw [if_neg c,dT (by omega:(r:Int)<=(p.Names.length:Int)-1)];exact⟨_,true,rfl,rfl,by omega,by omega⟩
def aMq (a b:gV):Bool:=decide (a.Number<b.Number)||(decide (a.Number=b.Number)&&decide (a.Word<b.Word))
theorem bef_eq (a b:gV):Fe1 a b=some (aMq a b):=by
 unfold Fe1 aMq;simp only [zD,dY,xM,zC]
def nS (l:List gV)(y:gV):Nat:=(l.takeWhile λx=>aMq x y).length
def aBc (l:List gV)(y:gV):List gV:=if l[nS l y]? =some y then l else l.take (nS l y)++[y]++l.drop (nS l y)
theorem aYt (l:List gV)(y:gV):nS l y<=l.length:=by
 unfold nS;exact(List.takeWhile_sublist _).length_le
theorem putI_lt {l:List gV}{y:gV}: ∀{i:Nat}{x:gV},i<nS l y->l[i]? =some x->aMq x y=true:=by
 unfold nS
 induction l with
 |nil=>intro i x h;simp at h
 |cons z l b=>
  intro i x h a;rw [List.takeWhile_cons]at h
  by_cases c:aMq z y=true
  ·rw [if_pos c]at h
   cases i with
   |zero=>simp at a;rw [<-a];exact c
   |succ i=>exact b (by simpa using h) (by simpa using a)
  ·rw [if_neg c]at h;simp at h
theorem putI_at {l:List gV}{y x:gV}(a:l[nS l y]? =some x):aMq x y=false:=by
 unfold nS at a
 induction l with
 |nil=>simp at a
 |cons z l b=>
  rw [List.takeWhile_cons]at a
  by_cases c:aMq z y=true
  ·rw [if_pos c]at a;exact b (by simpa using a)
  ·rw [if_neg c]at a;simp at a;rw [<-a];simpa using c
theorem putL (l:List gV) (y:gV) (d:l.length<=9223372036854775807):Fgl l y 0=some (nS l y:Int):=by
 have e:=aYt l y;unfold Fgl;refine yR (λi=>(i:Int)) (nS l y) (by omega) rfl (λk i hi=>?_) (λk=>?_);have b:i<l.length:=by omega
 have a:l[i]? =some l[i]:=gE b;simp only [zD,yD b,zT,yO a,zC,bef_eq,fJ b d,putI_lt hi a];by_cases c:nS l y<l.length;have a:l[nS l y]? =some l[nS l y]:=gE c;simp only [zD,yD c,zT,yO a,zC,bef_eq,putI_at a,zM];have:nS l y=l.length:=by omega
 simp only [zD,this,yE,zM,zC]
theorem aZb (l:List gV) (y:gV) (g:l.length<=1000000):Fe2 l y=some (aBc l y):=by
 have b:=aYt l y;unfold Fe2 aBc;rw [putL l y (by omega),zC];have a:sub' l (nS l y:Int) (l.length:Int)=some (l.drop (nS l y)):=by
  unfold sub';rw [if_pos (by omega)]
  congr 1
  rw [List.take_of_length_le]
  ·rw [Int.toNat_natCast]
  ·rw [List.length_drop,Int.toNat_natCast];omega
 have f:app' 16 ([]:List gV) (l.take (nS l y))=some (l.take (nS l y)):=by
  rw [aK (by rw [List.length_nil,List.length_take];omega) (by decide)];rfl
 have a2:app' 16 (l.take (nS l y)) [y]=some (l.take (nS l y)++[y]):=aK (by rw [List.length_take,List.length_singleton];omega) (by decide);have a3:app' 16 (l.take (nS l y)++[y]) (l.drop (nS l y))=some (l.take (nS l y)++[y]++l.drop (nS l y)):=aK (by rw [List.length_append,List.length_take,List.length_singleton,List.length_drop];omega) (by decide);simp only [zD,aCb l b,zC,f,a,a2,a3]
 by_cases c:nS l y<l.length
 ·have d:l[nS l y]? =some l[nS l y]:=gE c;rw [yD c,zT,yO d,zC,zC,d,yS]
  by_cases e:l[nS l y]=y
  ·rw [if_pos e,if_pos (by rw [e])]
  ·rw [if_neg e,if_neg (by simpa using e)]
 ·have:nS l y=l.length:=by omega
  rw [this,yE,zM,zC,zM,if_neg];rw [List.getElem?_eq_none (Nat.le_refl _)];simp
theorem aSd (l:List gV) (y z:gV):z∈aBc l y↔z∈l\/z=y:=by
 unfold aBc;split
 ·rename_i h;constructor
  ·exact .inl
  ·rintro(a|rfl)
   ·exact a
   ·exact qS h
 ·rw [mA,mA,mS];constructor
  ·rintro((h|h)|h)
   ·exact .inl (List.mem_of_mem_take h)
   ·exact .inr h
   ·exact .inl (List.mem_of_mem_drop h)
  ·rintro(h|h)
   ·rw [<-List.take_append_drop (nS l y) l]at h;rcases mA.1 h with h|h
    ·exact .inl (.inl h)
    ·exact .inr h
   ·exact .inl (.inr h)
theorem aLd (l:List gV)(y:gV):(aBc l y).length<=l.length+1:=by
 unfold aBc;split;omega;rw [List.length_append,List.length_append,List.length_take,List.length_singleton,List.length_drop];omega
def dG (l:List fG)(base:Int):List gV:=l.foldl (λs x=>aBc (aBc s (gV.mk (base+x.Frame) 3)) (gV.mk (base+x.Frame) x.Word)) []
theorem aUq (l:List fG)(x:fG)(base:Int):dG (l++[x]) base=aBc (aBc (dG l base) (gV.mk (base+x.Frame) 3)) (gV.mk (base+x.Frame) x.Word):=by
 unfold dG;rw [List.foldl_append,List.foldl_cons,List.foldl_nil]
theorem aS (l:List fG) (base:Int) (z:gV):z∈dG l base↔ ∃x∈l,z=gV.mk (base+x.Frame) 3\/z=gV.mk (base+x.Frame) x.Word:=by
 have: ∀(l:List fG) (s:List gV),z∈l.foldl (λs x=>aBc (aBc s (gV.mk (base+x.Frame) 3)) (gV.mk (base+x.Frame) x.Word)) s↔z∈s\/ ∃x∈l,z=gV.mk (base+x.Frame) 3\/z=gV.mk (base+x.Frame) x.Word:=by
  intro l
  induction l with
  |nil=>intro s;simp
  |cons x l b=>
   intro s;rw [List.foldl_cons,b,aSd,aSd];constructor
   ·rintro(((h|h)|h)|⟨y,h1,a⟩)
    ·exact .inl h
    ·exact .inr ⟨x,List.mem_cons_self ..,.inl h⟩
    ·exact .inr ⟨x,List.mem_cons_self ..,.inr h⟩
    ·exact .inr ⟨y,List.mem_cons_of_mem _ h1,a⟩
   ·rintro(h|⟨y,h1,a⟩)
    ·exact .inl (.inl (.inl h))
    ·rcases List.mem_cons.1 h1 with rfl|h1
     ·rcases a with a|a
      ·exact .inl (.inl (.inr a))
      ·exact .inl (.inr a)
     ·exact .inr ⟨y,h1,a⟩
 have:=this l [];unfold dG;rw [this];simp
theorem aKt (l:List fG)(base:Int):(dG l base).length<=2*l.length:=by
 have: ∀(l:List fG) (s:List gV),(l.foldl (λs x=>aBc (aBc s (gV.mk (base+x.Frame) 3)) (gV.mk (base+x.Frame) x.Word)) s).length<=s.length+2*l.length:=by
  intro l
  induction l with
  |nil=>intro s;simp
  |cons x l a=>
   intro s;rw [List.foldl_cons];have h1:=a (aBc (aBc s (gV.mk (base+x.Frame) 3)) (gV.mk (base+x.Frame) x.Word));have b:=aLd (aBc s (gV.mk (base+x.Frame) 3)) (gV.mk (base+x.Frame) x.Word);have c:=aLd s (gV.mk (base+x.Frame) 3);rw [List.length_cons];omega
 have:=this l [];unfold dG;simpa using this
structure aGa (x:fG):Prop where
 f0:0<=x.Frame
 f1:x.Frame<=15
 w0:4<=x.Word
 w1:x.Word<=60
 l0:0<=x.Low
 b1:1<=x.Bits
 lb:x.Low+x.Bits<=11
theorem words_eq (c:Cell) (base:Int) (l:0<=base) (h1:base<=5000000) (m:c.Places.length<=8) (e: ∀x∈c.Places,aGa x):Fhn c base=some (dG c.Places base):=by
 unfold Fhn Fj2;rw [yR (r:=some (dG c.Places base)) (λi=>(dG (c.Places.take i) base,(i:Int))) c.Places.length (by omega)]
 ·rfl
 ·rfl
 ·intro k i hi;have b:c.Places[i]? =some c.Places[i]:=gE hi;have d:=e _ (List.getElem_mem hi);have f0:=d.f0;have f1:=d.f1;have f:=aKt (c.Places.take i) base;rw [List.length_take]at f;have g:=aLd (dG (c.Places.take i) base) (gV.mk (base+c.Places[i].Frame) 3);simp only [zD,yD hi,zT,yO b,zC];rw [Go.OB.wrap_i64 (n:=base+c.Places[i].Frame) (by omega) (by omega)];have h:Feg (base+c.Places[i].Frame) c.Places[i] (dG (c.Places.take i) base,0)=some (dG (c.Places.take (i+1)) base):=by
   unfold Feg;refine yR (λj=>match j with
    |0=>(dG (c.Places.take i) base,0)
    |1=>(aBc (dG (c.Places.take i) base) (gV.mk (base+c.Places[i].Frame) 3),1)
    |_=>(dG (c.Places.take (i+1)) base,2)) 2 (by decide) rfl (λk j _=>?_) (λk=>rfl)
   have a:j=0\/j=1:=by omega
   rcases a with rfl|rfl
   ·simp only [zD];rw [show decide ((0:Int)<2)=true from rfl,zT,show at' ([3,c.Places[i].Word]:List Int) 0=some 3 from rfl,zC,aZb _ _ (by omega),zC];rfl
   ·simp only [zD];rw [show decide ((1:Int)<2)=true from rfl,zT,show at' ([3,c.Places[i].Word]:List Int) 1=some c.Places[i].Word from rfl,zC,aZb _ _ (by omega),zC,bD b,aUq];rfl
  rw [h,zC,fJ hi (by omega)]
 ·intro k;simp only [zD,yE,zM,List.take_length]
def rO:gW:=gW.mk 0 (Arr.rep 64 0) (Arr.rep 64 0) false 0 false
def dW (rs:List gW)(n:Int):gW:=(rs.find? λr=>decide (r.Number=n)).getD rO
def frN (r:gW)(k:Int):Nat:=(r.Frame.l.getD k.toNat 0).toNat
def stN (r:gW)(k:Int):Int:=r.States.l.getD k.toNat 0
structure qP (r:gW):Prop where
 fr: ∀x∈r.Frame.l,0<=x/\x<65536
 st: ∀x∈r.States.l,0<=x/\x<=3
theorem aYa:qP rO:=by
 refine⟨λx a=>?_,λx a=>?_⟩;have:x=0:=(List.mem_replicate.1 a).2;subst this;decide;have:x=0:=(List.mem_replicate.1 a).2;subst this;decide
theorem bAp {r:gW}(h:qP r){k:Int}(a:0<=k)(h1:k<64):at' r.Frame.l k=some ((frN r k:Nat):Int)/\frN r k<65536:=by
 obtain⟨i,rfl⟩: ∃i:Nat,k=(i:Int):=⟨k.toNat,by omega⟩;have hi:i<r.Frame.l.length:=by rw [r.Frame.h];omega
 have:=h.fr _ (List.getElem_mem hi);have e:r.Frame.l.getD (i:Int).toNat 0=r.Frame.l[i]:=by rw [Int.toNat_natCast,List.getD_eq_getElem?_getD,gE hi];rfl
 unfold frN;rw [e,yO (gE hi)];exact⟨by congr 1;omega,by omega⟩
theorem aUf {r:gW}(h:qP r){k:Int}(a:0<=k)(h1:k<64):at' r.States.l k=some (stN r k)/\0<=stN r k/\stN r k<=3:=by
 obtain⟨i,rfl⟩: ∃i:Nat,k=(i:Int):=⟨k.toNat,by omega⟩;have hi:i<r.States.l.length:=by rw [r.States.h];omega
 have:=h.st _ (List.getElem_mem hi);have e:r.States.l.getD (i:Int).toNat 0=r.States.l[i]:=by rw [Int.toNat_natCast,List.getD_eq_getElem?_getD,gE hi];rfl
 unfold stN;rw [e,yO (gE hi)];exact⟨rfl,this⟩
def loM (R:Int->gW)(base:Int)(l:List fG):Int:=l.foldl (λm x=>min (min m (stN (R (base+x.Frame)) x.Word)) (stN (R (base+x.Frame)) 3)) 3
def badM (a:Int)(R:Int->gW)(base:Int)(l:List fG):Bool:=l.any λx=>decide (((frN (R (base+x.Frame)) 3%2048:Nat):Int)≠a)
def vst (R:Int->gW)(base:Int)(v:Nat)(x:fG):Nat:=v*2^x.Bits.toNat+frN (R (base+x.Frame)) x.Word/2^x.Low.toNat%2^x.Bits.toNat
def uP (R:Int->gW)(base:Int)(l:List fG):Nat:=l.foldl (vst R base) 0
def sF (l:List fG):Nat:=(l.map λx=>x.Bits.toNat).sum
theorem foldl_snoc {a σ:Type}(f:σ->a->σ)(s:σ)(l:List a)(x:a):(l++[x]).foldl f s=f (l.foldl f s) x:=by rw [List.foldl_append,List.foldl_cons,List.foldl_nil]
theorem aMx (l:List fG)(x:fG):sF (l++[x])=sF l+x.Bits.toNat:=by unfold sF;rw [List.map_append,List.map_singleton,List.sum_append];simp
theorem aNz (l:List fG)(i:Nat):sF (l.take i)<=sF l:=by
 have h:sF l=sF (l.take i++l.drop i):=by rw [List.take_append_drop]
 rw [h];unfold sF;rw [List.map_append,List.sum_append];omega
theorem aEj (R:Int->gW)(base:Int)(l:List fG):uP R base l<2^sF l:=by
 have: ∀(l:List fG) (v s:Nat),v<2^s->l.foldl (vst R base) v<2^(s+sF l):=by
  intro l
  induction l with
  |nil=>intro v s h;simpa [sF]using h
  |cons x l a=>
   intro v s h;rw [List.foldl_cons];have h1:vst R base v x<2^(s+x.Bits.toNat):=by
    unfold vst;have b:frN (R (base+x.Frame)) x.Word/2^x.Low.toNat%2^x.Bits.toNat<2^x.Bits.toNat:=Nat.mod_lt _ (Nat.two_pow_pos _);have hm:(v+1)*2^x.Bits.toNat<=2^s*2^x.Bits.toNat:=Nat.mul_le_mul_right _ h;rw [Nat.pow_add];rw [Nat.add_mul,Nat.one_mul]at hm;omega
   have:=a _ _ h1;have e:sF (x::l)=x.Bits.toNat+sF l:=by unfold sF;rw [List.map_cons,List.sum_cons]
   rw [e,<-Nat.add_assoc];exact this
 have:=this l 0 0 (by decide);rw [Nat.zero_add]at this;exact this
theorem aZp {R:Int->gW}{base:Int}{x:fG}{v:Nat}(d:aGa x)(g:frN (R (base+x.Frame)) x.Word<65536)(c:v*2^x.Bits.toNat<4611686018427387904):
  jS .i64 (v:Int) x.Bits=some ((v*2^x.Bits.toNat:Nat):Int)/\jS .i64 1 x.Bits=some ((2^x.Bits.toNat:Nat):Int)/\IntKind.i64.wrap (((2^x.Bits.toNat:Nat):Int)-1)=((2^x.Bits.toNat:Nat):Int)-1/\
  aAe .i64 ((frN (R (base+x.Frame)) x.Word:Nat):Int) x.Low=some ((frN (R (base+x.Frame)) x.Word/2^x.Low.toNat:Nat):Int)/\
  aAe .i64 ((frN (R (base+x.Frame)) x.Word%2048:Nat):Int) x.Low=some ((frN (R (base+x.Frame)) x.Word%2048/2^x.Low.toNat:Nat):Int)/\
  (bits .or .i64 ((v*2^x.Bits.toNat:Nat):Int) (bits .and .i64 ((frN (R (base+x.Frame)) x.Word/2^x.Low.toNat:Nat):Int) (((2^x.Bits.toNat:Nat):Int)-1))=((vst R base v x:Nat):Int))/\
  (bits .or .i64 ((v*2^x.Bits.toNat:Nat):Int) (bits .and .i64 ((frN (R (base+x.Frame)) x.Word%2048/2^x.Low.toNat:Nat):Int) (((2^x.Bits.toNat:Nat):Int)-1))=((vst R base v x:Nat):Int)):=by
 have l0:=d.l0;have b1:=d.b1;have lb:=d.lb;obtain⟨b,h⟩: ∃b:Nat,x.Bits=(b:Int):=⟨x.Bits.toNat,by omega⟩;obtain⟨lo,e⟩: ∃lo:Nat,x.Low=(lo:Int):=⟨x.Low.toNat,by omega⟩;unfold vst;generalize frN (R (base+x.Frame)) x.Word=w at g⊢;rw [h]at c b1 lb⊢;rw [e]at l0 lb⊢;simp only [Int.toNat_natCast]at c⊢;have f:b<=11:=by omega
 have i:(2:Nat)^b<=2^11:=aCn f;have k:1<=(2:Nat)^b:=Nat.one_le_two_pow;have j:jS .i64 1 (b:Int)=some ((2^b:Nat):Int):=by
  have:=aIh (a:=1) (b:=b) (by omega) (by omega);rw [Nat.one_mul]at this;exact this
 have l:w/2^lo<=w:=Nat.div_le_self _ _;have m:w%2048/2^lo<=w%2048:=Nat.div_le_self _ _;have n:w%2048<2048:=Nat.mod_lt _ (by decide);have hm: ∀z:Nat,z%2^b<2^b:=λz=>Nat.mod_lt _ (Nat.two_pow_pos _)
 refine⟨aIh (by omega) c,j,Go.OB.wrap_i64 (by omega) (by omega),aAp (by show lo<=64;omega),aAp (by show lo<=64;omega),?_,?_⟩
 ·rw [aEi (by omega) (by omega),aTh c (hm _) (by omega)]
 ·rw [aEi (by omega) (by omega),part_bits (by omega),aTh c (hm _) (by omega)]
def aTf (p:Param)(v:Nat):Int×Bool:=(Fa0 p (v:Int)).getD (0,false)
def aLf (m:Map)(p:Param)(R:Int->gW)(base:Int)(l:List fG):Int×Int:=if (decide (loM R base l=0)||badM m.Version R base l)=true then(0,0)else if (aTf p (uP R base l)).2=true then((aTf p (uP R base l)).1,loM R base l+1)else(0,1)
theorem aYz {R:Int->gW}{base:Int}: ∀{l:List fG},(∀x∈l,aGa x/\qP (R (base+x.Frame)))->0<=loM R base l/\loM R base l<=3:=by
 intro l;have: ∀(l:List fG) (m:Int),(∀x∈l,aGa x/\qP (R (base+x.Frame)))->0<=m->m<=3->0<=l.foldl (λm x=>min (min m (stN (R (base+x.Frame)) x.Word)) (stN (R (base+x.Frame)) 3)) m/\l.foldl (λm x=>min (min m (stN (R (base+x.Frame)) x.Word)) (stN (R (base+x.Frame)) 3)) m<=3:=by
  intro l
  induction l with
  |nil=>intro m _ h1 c;exact⟨h1,c⟩
  |cons x l f=>
   intro m h h1 c;obtain⟨d,e⟩:=h x (List.mem_cons_self ..);have a:=(aUf e (show 0<=x.Word by have:=d.w0;omega) (by have:=d.w1;omega)).2;have b:=(aUf e (show(0:Int)<=3 by decide) (by decide)).2;rw [List.foldl_cons];exact f _ (λy g=>h y (List.mem_cons_of_mem _ g)) (by omega) (by omega)
 intro h;exact this l 3 h (by decide) (by decide)
theorem mark_get {n:Int}(a:0<=n)(h1:n<=3)(h:n≠0):aI ([(3,4),(2,3),(1,2)]:List (Int×Int)) n 0=n+1:=by
 have:n=1\/n=2\/n=3:=by omega
 rcases this with rfl|rfl|rfl<;>rfl
theorem read_eq (m:Map) (p:Param) (c:Cell) (A:Arr 16 gW) (R:Int->gW) (base:Int) (q:SzP p) (j:pI p=0) (I:c.Places.length<=8) (f: ∀x∈c.Places,aGa x/\qP (R (base+x.Frame))/\at' A.l x.Frame=some (R (base+x.Frame))) (r:sF c.Places=(nD p.Parts).toNat):
  Fcf m p c A=some (aLf m p R base c.Places):=by
 have s:=jI j;have t:=s.pt.sum;have a:Ffu m c A (c.Places.length:Int) (3,0,false,0)=some (loM R base c.Places,((uP R base c.Places:Nat):Int),badM m.Version R base c.Places):=by
  unfold Ffu;refine yR (λi=>(loM R base (c.Places.take i),((uP R base (c.Places.take i):Nat):Int),badM m.Version R base (c.Places.take i),(i:Int))) c.Places.length (by omega) rfl (λk i hi=>?_) (λk=>?_)
  ·have g:c.Places[i]? =some c.Places[i]:=gE hi;obtain⟨b,e,u⟩:=f _ (List.getElem_mem hi);have w0:=b.w0;have w1:=b.w1;obtain⟨s1,-⟩:=aUf e (show 0<=c.Places[i].Word by omega) (by omega);obtain⟨s2,-⟩:=aUf e (show(0:Int)<=3 by decide) (by decide);obtain⟨f1,h⟩:=bAp e (show 0<=c.Places[i].Word by omega) (by omega);obtain⟨f2,_⟩:=bAp e (show(0:Int)<=3 by decide) (by decide);have y:uP R base (c.Places.take i)*2^c.Places[i].Bits.toNat<4611686018427387904:=by
    have h1:=aEj R base (c.Places.take i);have z:sF (c.Places.take i)+c.Places[i].Bits.toNat<=40:=by
     have:=aNz c.Places (i+1);rw [bD g,aMx]at this;omega
    have B:uP R base (c.Places.take i)*2^c.Places[i].Bits.toNat<=2^sF (c.Places.take i)*2^c.Places[i].Bits.toNat:=Nat.mul_le_mul_right _ (by omega);rw [<-Nat.pow_add]at B;have J:(2:Nat)^(sF (c.Places.take i)+c.Places[i].Bits.toNat)<=2^40:=aCn z;omega
   obtain⟨C,D,E,F,-,G,-⟩:=aZp (R:=R) (base:=base) b h y;have m1:bits .and .u16 ((frN (R (base+c.Places[i].Frame)) 3:Nat):Int) 2047=((frN (R (base+c.Places[i].Frame)) 3%2048:Nat):Int):=by
    rw [aEo (m:=2048) 11 (by decide) (by decide) (by omega) (by omega)];omega
   simp only [zD,yD hi,zT,yO g,zC,u,s1,s2,f1,f2,m1];rw [Go.OB.wrap_i64 (n:=((frN (R (base+c.Places[i].Frame)) 3%2048:Nat):Int)) (by omega) (by omega),xM,zC,C,zC,Go.OB.wrap_i64 (n:=((frN (R (base+c.Places[i].Frame)) c.Places[i].Word:Nat):Int)) (by omega) (by omega),F,zC,D,zC,E,G,fJ hi (by omega),bD g];unfold loM uP badM;rw [foldl_snoc,foldl_snoc,List.any_append,List.any_cons,List.any_nil,Bool.or_false]
  ·simp only [zD,yE,zM,List.take_length]
 obtain⟨v,o,d1,-,-⟩:=aQw q j (uP R base c.Places) (by have:=aEj R base c.Places;rw [r]at this;rw [uB];omega);have d:=aYz (R:=R) (base:=base) (l:=c.Places) λx b=>⟨(f x b).1,(f x b).2.1⟩
 unfold Fcf aLf;rw [zD,a,zC];simp only [zD,xM,zC,d1];have hd:aTf p (uP R base c.Places)=(v,o):=by unfold aTf;rw [d1];rfl
 rw [hd]
 cases hq:(decide (loM R base c.Places=0)||badM m.Version R base c.Places)with
 |true=>rfl
 |false=>
  have H:loM R base c.Places≠0:=by
   rw [Bool.or_eq_false_iff,decide_eq_false_iff_not]at hq;exact hq.1
  rw [zM,if_neg (by decide),mark_get d.1 d.2 H]
  cases o<;>rfl
theorem aLe {a:Type}(n:Int)(f:gW->a)(fin:Option a): ∀(l:List gW) (i:Nat),dI (λ_ r=>if decide (r.Number=n)=true then some (some (f r))else none) fin l i=match l.find? λr=>decide (r.Number=n)with
  |some r=>some (f r)
  |none=>fin
 | [],_=>rfl
 |r::l,i=>by
  rw [dI]
  by_cases h:decide (r.Number=n)=true
  ·rw [if_pos h,List.find?_cons,h]
  ·rw [if_neg h,List.find?_cons,(by simpa using h:decide (r.Number=n)=false)];exact aLe n f fin l (i+1)
theorem aRd {l:List gW}{n k:Int} (b:0<=k) (h1:k<64) (c:l.length<=9223372036854775807) (e: ∀r∈l,qP r):Fb4 l (gV.mk n k)=some (((frN (dW l n) k%2048:Nat):Int),stN (dW l n) k):=by
 unfold Fb4 Fju
 repeat (first |rw [zD]|rw [yH]|rw [zC])
 rw [xQ l (λ_ r=>if decide (r.Number=n)=true then some (some (((frN r k%2048:Nat):Int),stN r k))else none) (some (0,0)) c]
 ·rw [aLe n (λr=>(((frN r k%2048:Nat):Int),stN r k))];unfold dW
  cases l.find? λr=>decide (r.Number=n)with
  |some r=>rfl
  |none=>
   obtain⟨i,rfl⟩: ∃i:Nat,k=(i:Int):=⟨k.toNat,by omega⟩;have f:frN rO (i:Int)=0:=by
    unfold frN rO;rw [Int.toNat_natCast,List.getD_eq_getElem?_getD];show((List.replicate 64 (0:Int))[i]?.getD 0).toNat=0;rw [List.getElem?_replicate];split<;>rfl
   have g:stN rO (i:Int)=0:=by
    unfold stN rO;rw [Int.toNat_natCast,List.getD_eq_getElem?_getD];show(List.replicate 64 (0:Int))[i]?.getD 0=0;rw [List.getElem?_replicate];split<;>rfl
   show some ((0:Int),(0:Int))=some (((frN rO (i:Int)%2048:Nat):Int),stN rO (i:Int));rw [f,g];rfl
 ·intro h i r d hi;have a:=e r (qS d);obtain⟨f1,f2⟩:=bAp a b h1;obtain⟨s1,-⟩:=aUf a b h1;have m1:bits .and .i64 ((frN r k:Nat):Int) 2047=((frN r k%2048:Nat):Int):=by
   rw [aFi (m:=2048) 11 (by decide) (by decide) (by omega) (by omega)];omega
  simp only [zD,yD hi,zT,yO d,zC,fJ hi c,f1,s1];rw [Go.OB.wrap_i64 (n:=((frN r k:Nat):Int)) (by omega) (by omega),m1]
  cases decide (r.Number=n)<;>rfl
 ·intro h;simp only [zD,yE,zM]
theorem aWs {e:Type} (a b:e->Int) (z:Int): ∀(l:List e) (m:Int),z<=l.foldl (λm x=>min (min m (a x)) (b x)) m↔z<=m/\ ∀x∈l,z<=a x/\z<=b x
 | [],m=>by simp
 |x::l,m=>by
  rw [List.foldl_cons,aWs a b z l];constructor
  ·rintro⟨h1,d⟩;refine⟨by omega,λy c=>?_⟩;rcases List.mem_cons.1 c with rfl|c
   ·omega
   ·exact d y c
  ·rintro⟨h1,d⟩;have:=d x (List.mem_cons_self ..);exact⟨by omega,λy c=>d y (List.mem_cons_of_mem _ c)⟩
theorem le_lo1 {d:Type} (a:d->Int) (z:Int): ∀(l:List d) (m:Int),z<=l.foldl (λm x=>min m (a x)) m↔z<=m/\ ∀x∈l,z<=a x
 | [],m=>by simp
 |x::l,m=>by
  rw [List.foldl_cons,le_lo1 a z l];constructor
  ·rintro⟨h1,c⟩;refine⟨by omega,λy b=>?_⟩;rcases List.mem_cons.1 b with rfl|b
   ·omega
   ·exact c y b
  ·rintro⟨h1,c⟩;have:=c x (List.mem_cons_self ..);exact⟨by omega,λy b=>c y (List.mem_cons_of_mem _ b)⟩
def loW (R:Int->gW)(a:List gV):Int:=a.foldl (λm w=>min m (stN (R w.Number) w.Word)) 3
def aHw (a:Int)(R:Int->gW)(w:gV):Bool:=(decide (stN (R w.Number) w.Word≠0)&&decide (w.Word=3))&&decide (((frN (R w.Number) w.Word%2048:Nat):Int)≠a)
theorem lo_same (R:Int->gW) (base:Int) (l:List fG):loW R (dG l base)=loM R base l:=by
 have c: ∀z,z<=loW R (dG l base)↔z<=loM R base l:=by
  intro z;unfold loW loM;rw [le_lo1 (λw:gV=>stN (R w.Number) w.Word),aWs (λx:fG=>stN (R (base+x.Frame)) x.Word) (λx:fG=>stN (R (base+x.Frame)) 3)];constructor
  ·rintro⟨h1,d⟩;refine⟨h1,λx e=>⟨?_,?_⟩⟩
   ·exact d (gV.mk (base+x.Frame) x.Word) ((aS l base _).2 ⟨x,e,.inr rfl⟩)
   ·exact d (gV.mk (base+x.Frame) 3) ((aS l base _).2 ⟨x,e,.inl rfl⟩)
  ·rintro⟨h1,d⟩;refine⟨h1,λw f=>?_⟩;obtain⟨x,e,rfl|rfl⟩:=(aS l base w).1 f
   ·exact(d x e).2
   ·exact(d x e).1
 have a:=(c (loM R base l)).2 (Int.le_refl _);have b:=(c (loW R (dG l base))).1 (Int.le_refl _);omega
theorem bad_same {b:Int}{R:Int->gW}{base:Int}{l:List fG} (e: ∀x∈l,aGa x/\qP (R (base+x.Frame))) (g:loM R base l≠0):(dG l base).any (aHw b R)=badM b R base l:=by
 have h1:=(aYz e).1;have d:=(aWs (λx:fG=>stN (R (base+x.Frame)) x.Word) (λx:fG=>stN (R (base+x.Frame)) 3) (loM R base l) l 3).1 (Int.le_refl _);rw [Bool.eq_iff_iff,List.any_eq_true];unfold badM;rw [List.any_eq_true];constructor;rintro⟨w,f,a⟩;obtain⟨x,c,rfl|rfl⟩:=(aS l base w).1 f;unfold aHw at a;rw [Bool.and_eq_true]at a;exact⟨x,c,a.2⟩;unfold aHw at a;simp only [Bool.and_eq_true,decide_eq_true_eq]at a;have:=(e x c).1.w0;omega;rintro⟨x,c,a⟩;refine⟨gV.mk (base+x.Frame) 3,(aS l base _).2 ⟨x,c,.inl rfl⟩,?_⟩;unfold aHw;have:=(d.2 x c).2;rw [Bool.and_eq_true,Bool.and_eq_true];refine⟨⟨dT ?_,rfl⟩,a⟩;show stN (R (base+x.Frame)) 3≠0;omega
theorem sample_eq (m:Map) (p:Param) (c:Cell) (g:List gW) (R:Int->gW) (base:Int) (C:SzP p) (B:pI p=0) (D:c.Places.length<=8) (E:0<=base) (h1:base<=5000000) (d:g.length<=9223372036854775807) (e: ∀r∈g,qP r)
  (b: ∀x∈c.Places,aGa x/\qP (R (base+x.Frame))/\dW g (base+x.Frame)=R (base+x.Frame)) (F:sF c.Places=(nD p.Parts).toNat) (G:at' m.Params c.Param=some p):
  Fhf m c base g=some (aLf m p R base c.Places):=by
 have H:=jI B;have I:=H.pt.sum;have j: ∀x∈c.Places,aGa x/\qP (R (base+x.Frame)):=λx a=>⟨(b x a).1,(b x a).2.1⟩
 have J:=aYz j;have K:=aKt c.Places base;have o:(dG c.Places base).length<=9223372036854775807:=by omega
 obtain⟨v,q,d1,d2,-⟩:=aQw C B (uP R base c.Places) (by have:=aEj R base c.Places;rw [F]at this;rw [uB];omega);have hd:aTf p (uP R base c.Places)=(v,q):=by unfold aTf;rw [d1];rfl
 have t:Fho c base g (0,0)=some ((uP R base c.Places:Nat):Int):=by
  unfold Fho;refine yR (λi=>(((uP R base (c.Places.take i):Nat):Int),(i:Int))) c.Places.length (by omega) rfl (λk i hi=>?_) (λk=>?_)
  ·have z:c.Places[i]? =some c.Places[i]:=gE hi;obtain⟨a,L,M⟩:=b _ (List.getElem_mem hi);have w0:=a.w0;have w1:=a.w1;have f0:=a.f0;have f1:=a.f1;obtain⟨g1,A⟩:=bAp L (show 0<=c.Places[i].Word by omega) (by omega);have N:uP R base (c.Places.take i)*2^c.Places[i].Bits.toNat<4611686018427387904:=by
    have h1:=aEj R base (c.Places.take i);have O:sF (c.Places.take i)+c.Places[i].Bits.toNat<=40:=by
     have:=aNz c.Places (i+1);rw [bD z,aMx]at this;omega
    have P:uP R base (c.Places.take i)*2^c.Places[i].Bits.toNat<=2^sF (c.Places.take i)*2^c.Places[i].Bits.toNat:=Nat.mul_le_mul_right _ (by omega);rw [<-Nat.pow_add]at P;have h4:(2:Nat)^(sF (c.Places.take i)+c.Places[i].Bits.toNat)<=2^40:=aCn O;omega
   obtain⟨Q,S,T,-,X,-,Y⟩:=aZp (R:=R) (base:=base) a A N;simp only [zD,yD hi,zT,yO z,zC];rw [Go.OB.wrap_i64 (n:=base+c.Places[i].Frame) (by omega) (by omega),aRd (by omega) (by omega) d e,zC,M];simp only;rw [Q,zC,X,zC,S,zC,T,Y,fJ hi (by omega),bD z];unfold uP;rw [foldl_snoc]
  ·simp only [zD,yE,zM,List.take_length]
 have f: ∀w∈dG c.Places base,Fb4 g w=some (((frN (R w.Number) w.Word%2048:Nat):Int),stN (R w.Number) w.Word):=by
  intro w u;obtain⟨x,a,rfl|rfl⟩:=(aS c.Places base w).1 u
  ·rw [aRd (by decide) (by decide) d e,(b x a).2.2]
  ·have:=(b x a).1.w0;have:=(b x a).1.w1;rw [aRd (by omega) (by omega) d e,(b x a).2.2]
 unfold Fhf;rw [words_eq c base E h1 D (λx a=>(b x a).1),zC,yH];unfold Fh5;refine(nX (λ(i:Nat) (s:Int)=>(s,(i:Int))) (dG c.Places base) (goF (λ_ w=>if aHw m.Version R w=true then some (some (0,0))else none) (λs w=>min s (stN (R w.Number) w.Word)))
  (λs=>if s=0 then some (0,0)else some (if q=true then(v,IntKind.i64.wrap (s+1))else(0,1))) o (λk i s w u=>?_) (λk s=>?_) 3).trans ?_
 rotate_left 2
 ·rw [aDz,tJ (λ_ w=>aHw m.Version R w)];show(if _ then _ else(if loW R (dG c.Places base)=0 then _ else some (if q=true then(v,IntKind.i64.wrap (loW R (dG c.Places base)+1))else(0,1))))=_;rw [lo_same];have y:rC (λ_ w=>aHw m.Version R w) (dG c.Places base) 0=(dG c.Places base).any (aHw m.Version R):=by
   have: ∀(l:List gV) (i:Nat),rC (λ_ w=>aHw m.Version R w) l i=l.any (aHw m.Version R):=by
    intro l
    induction l with
    |nil=>intro i;rfl
    |cons w l ih=>intro i;rw [rC,List.any_cons,ih]
   exact this _ 0
  rw [y];unfold aLf;rw [hd]
  by_cases c0:loM R base c.Places=0
  ·rw [dT c0,Bool.true_or,if_pos rfl,if_pos c0];split<;>rfl
  ·rw [qD c0,Bool.false_or,if_neg c0,bad_same j c0]
   cases badM m.Version R base c.Places with
   |true=>rfl
   |false=>
    rw [Go.OB.wrap_i64 (by omega) (by omega)]
    cases q<;>rfl
 ·have hi:=(gS.1 u).1;simp only [zD,yD hi,zT,yO u,zC,fJ hi o,f w (qS u),dY];unfold goF;show gJ (aHw m.Version R w) _ _=_
  cases h:aHw m.Version R w<;>simp only [h]<;>rfl
 ·simp only [zD,yE,zM];rw [yS]
  by_cases c0:s=0
  ·rw [if_pos c0,if_pos c0]
  ·rw [if_neg c0,if_neg c0,t,zC,G,zC,d2,zC];simp only
   cases q<;>rfl
theorem aJl {p:Param}(a:bP p){s:Int}(h:s∈dM p):0<=s/\s<=15/\ ∀y∈p.Parts,¬16<=IntKind.i64.wrap (s+y.Frame):=by
 unfold dM at h;obtain⟨h1,b⟩:=List.mem_filter.1 h;obtain⟨i,hi,c⟩:=List.mem_iff_getElem.1 h1;have d:=aWi (gE hi);have e:=(wK a).2.1 i hi;have f:=aIq a;have:(0:Int)<=(i:Int)*p.Every:=Int.mul_nonneg (by omega) (by omega);have k:=a.f0;rw [c]at d;refine⟨by omega,by omega,λy g j=>?_⟩;unfold aCv at b;rw [Bool.not_eq_true',List.any_eq_false]at b;exact b y g (dT j)
theorem place_ok {p:Param}(d:qR p){s:Int}(j:s∈dM p){t:Nat}(m:t<p.Times.toNat){x:fG}(i:x∈dS p s t):aGa x:=by
 obtain⟨s0,_,s2⟩:=aJl d.tm j;unfold dS at i;obtain⟨y,e,rfl⟩:=List.mem_map.1 i;have f:=aMc (d.pt.all y e);have g:=s2 y e;rw [Go.OB.wrap_i64 (by omega) (by omega)]at g;have a:=d.tf;unfold tfM at a;split at a
 ·cases a
 split at a
 ·cases a
 rename_i k;have b:rF p y=false:=by
  cases h:rF p y with
  |false=>rfl
  |true=>exact absurd (List.any_eq_true.2 ⟨y,e,h⟩) k
 unfold rF at b;rw [Bool.or_eq_false_iff,decide_eq_false_iff_not,decide_eq_false_iff_not]at b;have c:=d.tm.s0;have l:(t:Int)*p.Step<=(p.Times-1)*p.Step:=Int.mul_le_mul_of_nonneg_right (by omega) c;have o:0<=(t:Int)*p.Step:=Int.mul_nonneg (by omega) c;unfold vP;rw [Go.OB.wrap_i64 (n:=s+y.Frame) (by omega) (by omega),Go.OB.wrap_i64 (n:=(t:Int)*p.Step) (by omega) (by omega),Go.OB.wrap_i64 (by omega) (by omega)];exact⟨by show 0<=s+y.Frame;omega,by show s+y.Frame<=15;omega,by show 4<=y.Word+(t:Int)*p.Step;omega,by show y.Word+(t:Int)*p.Step<=60;omega,f.2.2.2.2.1,f.2.2.2.2.2.2.1,f.2.2.2.2.2.2.2⟩
theorem aUm {p:Param}(a:qR p)(s t:Int):sF (dS p s t)=(nD p.Parts).toNat/\(dS p s t).length<=8:=by
 have c:=a.pt.n8;refine⟨?_,by unfold dS;rw [List.length_map];exact c⟩;have h:=aIx p.Parts 0 a.pt.all (by omega) (by omega);have e:nD p.Parts=(p.Parts.map Part.Bits).sum:=by unfold nD;rw [h.1];omega
 rw [e];unfold sF dS;rw [List.map_map];have: ∀l:List Part,(∀y∈l,kM y=false)->((l.map ((λx:fG=>x.Bits.toNat)∘vP p s t)).sum:Int)=(l.map Part.Bits).sum:=by
  intro l
  induction l with
  |nil=>intro _;rfl
  |cons y l d=>
   intro b;have g:=aMc (b y (List.mem_cons_self ..));rw [List.map_cons,List.sum_cons,List.map_cons,List.sum_cons,Int.natCast_add,d λz f=>b z (List.mem_cons_of_mem _ f)];have:(((λx:fG=>x.Bits.toNat)∘vP p s t) y:Int)=y.Bits:=by
    show((y.Bits.toNat:Nat):Int)=y.Bits;omega
   omega
 have:=this p.Parts a.pt.all;omega
theorem aCe {p:Param}{a:Int}{i:Nat}{c:Cell} (l:List Int) (h:(cellsS p a l)[i]? =some c): ∃s,l[i/p.Times.toNat]? =some s/\c=Cell.mk a (i:Int) s (dS p s ((i%p.Times.toNat:Nat):Int))/\i%p.Times.toNat<p.Times.toNat:=by
 have: ∀(l:List Int) (cs:List Cell),(l.foldl (λcs s=>cs++aU p a s cs.length p.Times.toNat) cs)[i]? =some c->cs.length<=i->
   ∃s,l[(i-cs.length)/p.Times.toNat]? =some s/\c=Cell.mk a (i:Int) s (dS p s (((i-cs.length)%p.Times.toNat:Nat):Int))/\(i-cs.length)%p.Times.toNat<p.Times.toNat:=by
  intro l
  induction l with
  |nil=>intro cs h1 d;rw [List.foldl_nil,List.getElem?_eq_none d]at h1;cases h1
  |cons s l f=>
   intro cs h1 d;rw [List.foldl_cons]at h1
   by_cases c2:i<cs.length+p.Times.toNat
   ·have j:0<p.Times.toNat:=by omega
    have k:(i-cs.length)/p.Times.toNat=0:=Nat.div_eq_of_lt (by omega);have m:(i-cs.length)%p.Times.toNat=i-cs.length:=Nat.mod_eq_of_lt (by omega);rw [k,m];refine⟨s,rfl,?_,by omega⟩;have b: ∀(l:List Int) (cs:List Cell),i<cs.length->(l.foldl (λcs s=>cs++aU p a s cs.length p.Times.toNat) cs)[i]? =cs[i]? :=by
     intro l
     induction l with
     |nil=>intro cs _;rfl
     |cons s l f=>
      intro cs g;rw [List.foldl_cons,f _ (by rw [List.length_append];omega),List.getElem?_append_left g]
    rw [b l _ (by rw [List.length_append,mG];omega),List.getElem?_append_right d]at h1;unfold aU at h1;rw [List.getElem?_map,List.getElem?_range (by omega)]at h1;simp only [Option.map_some,Option.some.injEq]at h1;rw [<-h1]
    congr 1
    omega
   ·have:=f _ h1 (by rw [List.length_append,mG];omega);rw [List.length_append,mG]at this;obtain⟨n,g1,g2,g3⟩:=this;have j:0<p.Times.toNat:=by omega
    have e:i-cs.length=(i-(cs.length+p.Times.toNat))+p.Times.toNat:=by omega
    refine⟨n,?_,?_,?_⟩
    ·rw [e,Nat.add_div_right _ j];simpa using g1
    ·rw [e,Nat.add_mod_right];exact g2
    ·rw [e,Nat.add_mod_right];exact g3
 have:=this l [] h (Nat.zero_le _);simpa using this
def bK (p:Param)(base:Int)(c:Cell):Int:=64*(base+c.Frame)+64*(c.Index%p.Times)/p.Times
theorem aWv {p:Param}(b:qR p){base:Int}(_:0<=base)(_:base<=5000000){a:Int}{c:Cell}(g:c∈gU p a):
    0<=c.Frame/\c.Frame<=15/\0<=c.Index/\c.Index<912/\0<=c.Index%p.Times/\c.Index%p.Times<=56/\0<=64*(c.Index%p.Times)/p.Times/\64*(c.Index%p.Times)/p.Times<=3584:=by
 obtain⟨i,hi,rfl⟩:=List.mem_iff_getElem.1 g;obtain⟨s,g1,g2,g3⟩:=aCe (dM p) (gE hi);have t1:=b.tm.t1;have t2:=b.tm.t2;have d:=aJl b.tm (qS g1);have f:(gU p a).length<=912:=bT b.tm a;have e:(gU p a)[i]=Cell.mk a (i:Int) s (dS p s ((i%p.Times.toNat:Nat):Int)):=g2;rw [e];show 0<=s/\s<=15/\0<=(i:Int)/\(i:Int)<912/\0<=(i:Int)%p.Times/\(i:Int)%p.Times<=56/\0<=64*((i:Int)%p.Times)/p.Times/\64*((i:Int)%p.Times)/p.Times<=3584;have m0:0<=(i:Int)%p.Times:=Int.emod_nonneg _ (by omega);have m1:(i:Int)%p.Times<p.Times:=Int.emod_lt_of_pos _ (by omega);have d0:0<=64*((i:Int)%p.Times)/p.Times:=Int.ediv_nonneg (by omega) (by omega);have d1:64*((i:Int)%p.Times)/p.Times<=64*((i:Int)%p.Times):=Int.ediv_le_self _ (by omega);exact⟨d.1,d.2.1,by omega,by omega,m0,by omega,d0,by omega⟩
theorem aPn {a b:Int}(c:0<=a)(d:1<=b):kW a b=some (a%b):=by
 unfold kW;rw [if_neg (by omega),Int.tmod_eq_emod_of_nonneg c]
theorem jV {a b:Int}(c:0<=a)(d:a<=4611686018427387904)(e:1<=b):pX .i64 a b=some (a/b):=by
 unfold pX;have h1:0<=a/b:=Int.ediv_nonneg c (by omega);have f:a/b<=a:=Int.ediv_le_self _ c;rw [if_neg (by omega),Int.tdiv_eq_ediv_of_nonneg c,Go.OB.wrap_i64 (by omega) (by omega)]
theorem aRt {p:Param} (b:qR p) {base:Int} (e:0<=base) (h1:base<=5000000) (a:Int):Fa1 p (gU p a) base=some ((gU p a).map (bK p base)):=by
 have c:(gU p a).length<=912:=bT b.tm a;have t1:=b.tm.t1;unfold Fa1 Fj3
 repeat (first |rw [zD]|rw [yH]|rw [zC])
 rw [yR (r:=some ((gU p a).map (bK p base))) (λi=>(((gU p a).take i).map (bK p base),(i:Int))) (gU p a).length (by omega)]
 ·rfl
 ·rfl
 ·intro k i hi;have d:(gU p a)[i]? =some (gU p a)[i]:=gE hi;obtain⟨_,_,f,_,_,_,_,_⟩:=aWv b e h1 (List.getElem_mem hi);simp only [zD,yD hi,zT,yO d,zC];rw [aPn f t1,zC,Go.OB.wrap_i64 (n:=64*((gU p a)[i].Index%p.Times)) (by omega) (by omega),jV (by omega) (by omega) t1,zC,
   Go.OB.wrap_i64 (n:=base+(gU p a)[i].Frame) (by omega) (by omega),Go.OB.wrap_i64 (n:=64*(base+(gU p a)[i].Frame)) (by omega) (by omega),Go.OB.wrap_i64 (n:=64*(base+(gU p a)[i].Frame)+_) (by omega) (by omega),
   aK (by rw [List.length_map,List.length_take,List.length_singleton];omega) (by decide),zC,fJ hi (by omega),bD d,List.map_append,List.map_singleton]
  rfl
 ·intro k;simp only [zD,yE,zM,List.take_length]
theorem stL_nodup {p:Param}(c:bP p):(stL p).Nodup:=by
 unfold stL;have d:=aIq c;refine List.Pairwise.map _ (λa b h=>?_) List.nodup_range;intro _;apply h;have:(a:Int)*p.Every=(b:Int)*p.Every:=by omega
 have:=Int.eq_of_mul_eq_mul_right (by omega:p.Every≠0) this;omega
theorem aPw {p:Param}(a:bP p):(dM p).Nodup:=List.Pairwise.filter _ (stL_nodup a)
theorem aOg {d:Type}: ∀{l:List d},l.Nodup-> ∀{i j:Nat}{x:d},l[i]? =some x->l[j]? =some x->i=j
 | [],_,i,j,x,h,_=>by simp at h
 |y::l,e,i,j,x,h1,c=>by
  obtain⟨a,b⟩:=List.nodup_cons.1 e
  cases i with
  |zero=>
   cases j with
   |zero=>rfl
   |succ j=>
    simp at h1 c;subst h1;exact absurd (qS c) a
  |succ i=>
   cases j with
   |zero=>
    simp at h1 c;subst c;exact absurd (qS h1) a
   |succ j=>simp at h1 c;rw [aOg b h1 c]
def aWq (T i j:Nat):Nat:=if j<i/T then T else if j=i/T then i%T else 0
theorem div_step {T i:Nat} (b:0<T):(i%T+1=T/\(i+1)/T=i/T+1/\(i+1)%T=0)\/(i%T+1<T/\(i+1)/T=i/T/\(i+1)%T=i%T+1):=by
 have h1:=Nat.div_add_mod i T;have d:=Nat.mod_lt i b;by_cases c:i%T+1=T;left;have e:i+1=T*(i/T+1):=by rw [Nat.mul_add,Nat.mul_one];omega
 refine⟨c,?_,?_⟩;rw [e,Nat.mul_div_cancel_left _ b];rw [e];exact Nat.mul_mod_right _ _;right;have e:i+1=T*(i/T)+(i%T+1):=by omega
 have a:i%T+1<T:=by omega
 refine⟨a,?_,?_⟩;rw [e,Nat.mul_add_div b,Nat.div_eq_of_lt a,Nat.add_zero];rw [e,Nat.mul_add_mod,Nat.mod_eq_of_lt a]
theorem cnt_step {T i j:Nat} (d:0<T):aWq T (i+1) j=if i/T=j then i%T+1 else aWq T i j:=by
 unfold aWq;rcases div_step (i:=i) d with ⟨h1,a,b⟩|⟨h1,a,b⟩
 ·rw [a,b]
  by_cases c:i/T=j
  ·rw [if_pos c,if_pos (by omega)];omega
  ·rw [if_neg c]
   by_cases c2:j<i/T
   ·rw [if_pos c2,if_pos (by omega)]
   ·rw [if_neg c2,if_neg (show¬j<i/T+1 by omega),if_neg (show¬j=i/T by omega)];split<;>rfl
 ·rw [a,b]
  by_cases c:i/T=j
  ·rw [if_pos c,if_neg (by omega),if_pos (by omega)]
  ·rw [if_neg c]
   by_cases c2:j<i/T
   ·rw [if_pos c2,if_pos c2]
   ·rw [if_neg c2,if_neg c2,if_neg (show¬j=i/T by omega),if_neg (show¬j=i/T by omega)]
theorem times_5 {p:Param} (h:qR p) {base:Int} (B:0<=base) (h1:base<=5000000) (a:Int):Fgm p (gU p a) base=some ((gU p a).map (bK p base)):=by
 have A:(gU p a).length<=912:=bT h.tm a;have t1:=h.tm.t1;have t2:=h.tm.t2;have C:0<p.Times.toNat:=by omega
 have q: ∃r,Fex p (gU p a) base ([],0,[])=some r/\r=(gU p a).map (bK p base):=by
  unfold Fex;refine aMw (λ(i:Nat) (s:List Int×List (Int×Int))=>(s.1,(i:Int),s.2)) (gU p a)
   (λi s=>s.1=((gU p a).take i).map (bK p base)/\ ∀(j:Nat) (x:Int),(dM p)[j]? =some x->aI s.2 x 0=((aWq p.Times.toNat i j:Nat):Int)) (λr=>r=(gU p a).map (bK p base)) (by omega)
   (λk i s c m hi t=>?_) (λk s t=>?_) ([],[]) ⟨rfl,λj x u=>?_⟩
  ·obtain⟨s1,s2⟩:=s;obtain⟨d,f⟩:=t;simp only at d f;obtain⟨D,E,_,_,_,_,_,_⟩:=aWv h B h1 (qS m);obtain⟨x,g1,g2,g3⟩:=aCe (dM p) m;have u:=f _ x g1;have g:c.Frame=x:=by rw [g2]
   have v:c.Index=(i:Int):=by rw [g2]
   have l:aWq p.Times.toNat i (i/p.Times.toNat)=i%p.Times.toNat:=by unfold aWq;rw [if_neg (by omega),if_pos rfl]
   rw [l]at u;have b:((i%p.Times.toNat:Nat):Int)=c.Index%p.Times:=by
    rw [v,Int.natCast_emod]
    congr 1;omega
   have w:c.Index%p.Times+1=((i%p.Times.toNat+1:Nat):Int):=by rw [<-b];omega
   have F:0<=x/\x<=15:=by rw [<-g];exact⟨D,E⟩
   refine⟨(s1++[bK p base c],kJ s2 x ((i%p.Times.toNat+1:Nat):Int)),⟨?_,?_⟩,?_⟩
   ·show s1++[bK p base c]=_;rw [d,bD m,List.map_append,List.map_singleton]
   ·intro j y o;show aI (kJ s2 x _) y 0=_;rw [aEn,cnt_step C]
    by_cases e:x=y
    ·subst e;rw [if_pos rfl,if_pos (aOg (aPw h.tm) g1 o)]
    ·rw [if_neg e,if_neg,f j y o];intro G;rw [G]at g1;rw [g1]at o;exact e (by simpa using o)
   ·simp only [zD,yD hi,zT,yO m,zC,g,u];rw [b,Go.OB.wrap_i64 (n:=64*(c.Index%p.Times)) (by omega) (by omega),jV (by omega) (by omega) t1,zC];rw [Go.OB.wrap_i64 (n:=base+x) (by omega) (by omega),Go.OB.wrap_i64 (n:=64*(base+x)) (by omega) (by omega),Go.OB.wrap_i64 (n:=64*(base+x)+_) (by omega) (by omega)];rw [aK (by rw [d,List.length_map,List.length_take,List.length_singleton];omega) (by decide),zC,fJ hi (by omega),Go.OB.wrap_i64 (n:=c.Index%p.Times+1) (by omega) (by omega),w,<-g];rfl
  ·refine⟨s.1,?_,?_⟩
   ·simp only [zD,yE,zM]
   ·rw [t.1,List.take_length]
  ·show(0:Int)=_;unfold aWq;rw [Nat.zero_div,Nat.zero_mod,if_neg (by omega)];split<;>rfl
 obtain⟨r,H,z⟩:=q;unfold Fgm;rw [H,zC,z]
end Go.Lf
