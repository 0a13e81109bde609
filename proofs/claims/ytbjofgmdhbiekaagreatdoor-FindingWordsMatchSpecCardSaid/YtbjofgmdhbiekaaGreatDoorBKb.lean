/- Laws that the claim stands on; no condition beyond those stated. -/
import Derived.Test.YtbjofgmdhbiekaaGreatDoorBKa
import Derived.Test.YtbjofgmdhbiekaaGreatDoorBAa
namespace Go.Lf
open Go.RowKit Go.OB Go.Fr1
def goF {a b σ:Type}(q:Nat->a->Option (Option b))(u:σ->a->σ):Nat->a->σ->σ ⊕ Option b:=λi x s=>match q i x with
 |some r=> .inr r
 |none=> .inl (u s x)
theorem aEc {a b σ:Type}(q:Nat->a->Option (Option b))(u:σ->a->σ)(fin:σ->Option b): ∀(l:List a) (i:Nat) (s:σ),
  kH (goF q u) fin l i s=bW q (fin (l.foldl u s)) l i
 | [],i,s=>rfl
 |x::l,i,s=>by
  rw [kH,bW,List.foldl_cons,goF]
  cases q i x with
  |some r=>rfl
  |none=>exact aEc q u fin l (i+1) _
def stF (f:List Int):Nat->Int->Option (Option Int):=λi s=>if bV s 0 3=true then some (some 9)else if ((decide (s=0)&&decide (f.getD i 0≠0))||decide (4095<f.getD i 0))=true then some (some 2)else none
def aIf:Int×Int×Int×Int->Int->Int×Int×Int×Int:=λc s=>if s=3 then(IntKind.i64.wrap (c.1+1),c.2.1,c.2.2.1,c.2.2.2)else if s=2 then(c.1,c.2.1,IntKind.i64.wrap (c.2.2.1+1),c.2.2.2)else if s=1 then(c.1,IntKind.i64.wrap (c.2.1+1),c.2.2.1,c.2.2.2)else(c.1,c.2.1,c.2.2.1,IntKind.i64.wrap (c.2.2.2+1))
theorem aFj: ∀(l:List Int) (a b c d:Nat),a+b+c+d+l.length<=1000->l.foldl aIf ((a:Int),(b:Int),(c:Int),(d:Int))=(((a+l.countP (λs=>decide (s=3)):Nat):Int),((b+l.countP (λs=>decide (s=1)):Nat):Int),((c+l.countP (λs=>decide (s=2)):Nat):Int),((d+l.countP (λs=> !(decide (s=3)||decide (s=2)||decide (s=1))):Nat):Int))
 | [],a,b,c,d,_=>by simp
 |s::l,a,b,c,d,h=>by
  rw [List.length_cons]at h;rw [List.foldl_cons];unfold aIf;simp only [List.countP_cons]
  by_cases e:s=3
  ·subst e;rw [if_pos rfl,wrap_i64 (by omega) (by omega)];have:=aFj l (a+1) b c d (by omega);rw [Int.natCast_add,Int.natCast_one]at this;rw [show(λc s=>if s=3 then(IntKind.i64.wrap (c.1+1),c.2.1,c.2.2.1,c.2.2.2)else if s=2 then(c.1,c.2.1,IntKind.i64.wrap (c.2.2.1+1),c.2.2.2)else if s=1 then(c.1,IntKind.i64.wrap (c.2.1+1),c.2.2.1,c.2.2.2)else(c.1,c.2.1,c.2.2.1,IntKind.i64.wrap (c.2.2.2+1)):Int×Int×Int×Int->Int->Int×Int×Int×Int)=aIf from rfl,this];simp;omega
  ·rw [if_neg e]
   by_cases f:s=2
   ·subst f;rw [if_pos rfl,wrap_i64 (by omega) (by omega)];have:=aFj l a b (c+1) d (by omega);rw [Int.natCast_add c,Int.natCast_one]at this;rw [show(λc s=>if s=3 then(IntKind.i64.wrap (c.1+1),c.2.1,c.2.2.1,c.2.2.2)else if s=2 then(c.1,c.2.1,IntKind.i64.wrap (c.2.2.1+1),c.2.2.2)else if s=1 then(c.1,IntKind.i64.wrap (c.2.1+1),c.2.2.1,c.2.2.2)else(c.1,c.2.1,c.2.2.1,IntKind.i64.wrap (c.2.2.2+1)):Int×Int×Int×Int->Int->Int×Int×Int×Int)=aIf from rfl,this];simp;omega
   ·rw [if_neg f]
    by_cases h1:s=1
    ·subst h1;rw [if_pos rfl,wrap_i64 (by omega) (by omega)];have:=aFj l a (b+1) c d (by omega);rw [Int.natCast_add b,Int.natCast_one]at this;rw [show(λc s=>if s=3 then(IntKind.i64.wrap (c.1+1),c.2.1,c.2.2.1,c.2.2.2)else if s=2 then(c.1,c.2.1,IntKind.i64.wrap (c.2.2.1+1),c.2.2.2)else if s=1 then(c.1,IntKind.i64.wrap (c.2.1+1),c.2.2.1,c.2.2.2)else(c.1,c.2.1,c.2.2.1,IntKind.i64.wrap (c.2.2.2+1)):Int×Int×Int×Int->Int->Int×Int×Int×Int)=aIf from rfl,this];simp;omega
    ·rw [if_neg h1,wrap_i64 (by omega) (by omega)];have:=aFj l a b c (d+1) (by omega);rw [Int.natCast_add d,Int.natCast_one]at this;rw [show(λc s=>if s=3 then(IntKind.i64.wrap (c.1+1),c.2.1,c.2.2.1,c.2.2.2)else if s=2 then(c.1,c.2.1,IntKind.i64.wrap (c.2.2.1+1),c.2.2.2)else if s=1 then(c.1,IntKind.i64.wrap (c.2.1+1),c.2.2.1,c.2.2.2)else(c.1,c.2.1,c.2.2.1,IntKind.i64.wrap (c.2.2.2+1)):Int×Int×Int×Int->Int->Int×Int×Int×Int)=aIf from rfl,this];simp [h1,f,e];omega
theorem aAr {a:Type}(p:a->Bool)(l:List a):decide (0<l.countP p)=l.any p:=by
 rw [Bool.eq_iff_iff,decide_eq_true_eq,List.countP_pos_iff,List.any_eq_true]
theorem aOt {a:Type}(p q:a->Bool): ∀l:List a,(l.any p||l.any q)=l.any λx=>p x||q x
 | []=>rfl
 |x::l=>by
  rw [List.any_cons,List.any_cons,List.any_cons,<-aOt p q l]
  cases p x<;>cases q x<;>cases l.any p<;>cases l.any q<;>rfl
theorem someS_eq (l:List Int)(a b:Int)(c:l.length<=9223372036854775807):Fcl l a b=some (l.any λy=>decide (y=a)||decide (y=b)):=by
 unfold Fcl Fg7 Fib;rw [yN,zK,nD l (λy=>decide (y=a)||decide (y=b)) c (λk _ _ h1 d=>by simp only [zK,yH d,zV,yU h1,zC,fO d c,Ffu,xQ]) (λk=>by simp only [zK,yK,zT]),zC,zK,sH]
theorem allS_eq (l:List Int)(a:Int)(b:l.length<=9223372036854775807):Fct l a=some (l.any λy=>decide (y≠a)):=by
 unfold Fct Fgx Fhr;rw [yN,zK,nD l (λy=>decide (y≠a)) b (λk _ _ h1 c=>by simp only [zK,yH c,zV,yU h1,zC,fO c b,Ffi]) (λk=>by simp only [zK,yK,zT]),zC,zK,sH]
def SzR (r:gW):Prop:= ∃(g:List Nat) (h:g.length=64),Small g/\r.Frame=en g h
def sndM (r:gW)(g:List Nat):Bool:=r.Sound&&(!(decide (qM g)&&decide ((aLt g).1=r.Number))||(r.States.l.any λy=>decide (y=0)||decide (y=1)))
def aTw (r:gW)(g:List Nat):Int:=if sndM r g=true then 2 else if (!r.Sound&&(r.States.l.any λy=>decide (y=3)||decide (y=2)))=true then 2 else if (decide (r.Copies<0)||((decide (r.Copies=0)&&r.Sound)&& !(r.States.l.any λy=>decide (y≠3))))=true then 9 else if (r.Conflict&&r.Sound)=true then 2 else 0
theorem aXs (f:List Int) (n:Int): ∀(l:List Int) (i:Nat),∃v,bW (stF f) (some n) l i=some v
 | [],i=>⟨n,rfl⟩
 |s::l,i=>by
  rw [bW];have b:=aXs f n l (i+1);unfold stF
  by_cases h1:bV s 0 3=true
  ·rw [if_pos h1];exact⟨9,rfl⟩
  ·rw [if_neg h1]
   by_cases a:((decide (s=0)&&decide (f.getD i 0≠0))||decide (4095<f.getD i 0))=true
   ·rw [if_pos a];exact⟨2,rfl⟩
   ·rw [if_neg a];exact b
def aUk (r:gW)(g:List Nat):Int:=if bV r.Number 0 4194303=true then 9 else(bW (stF r.Frame.l) (some (aTw r g)) r.States.l 0).getD 0
theorem aQz (r:gW)(g:List Nat)(h:bV r.Number 0 4194303=false):bW (stF r.Frame.l) (some (aTw r g)) r.States.l 0=some (aUk r g):=by
 unfold aUk;rw [h,if_neg (by decide)];obtain⟨_,a⟩:=aXs r.Frame.l (aTw r g) r.States.l 0;rw [a];rfl
theorem fr_at (r:gW){i:Nat}(hi:i<64):at' r.Frame.l (i:Int)=some (r.Frame.l.getD i 0):=by
 rw [aGx,List.getD_eq_getElem?_getD,gE (by rw [r.Frame.h];exact hi)];rfl
theorem rest_l (r:gW) (g:List Nat) (h:g.length=64) (c:Small g) (e:r.Frame=en g h):Fa7 r=some (aUk r g):=by
 have a:r.States.l.length<=9223372036854775807:=by rw [r.States.h];decide
 unfold Fa7;simp only [vwi,zC,zK,yN,nwi];show gJ (bV r.Number 0 4194303) _ _=_
 cases hv:bV r.Number 0 4194303 with
 |true=>unfold aUk;rw [hv];rfl
 |false=>
  rw [zT,<-aQz r g hv];unfold Fio;refine xY r.States.l _ _ a (λk i s h1 d=>?_) (λk=>?_)
  ·have hi:i<64:=by rw [<-r.States.h];exact d
   have b:decide ((i:Int)<64)=true:=dT (by omega);simp only [zK,b,zV,yU h1,zC,fO d a,vwi,nwi,fr_at r hi,bZ,xQ];show gJ (bV s 0 3) _ _=_;unfold stF
   cases bV s 0 3 with
   |true=>rfl
   |false=>
    rw [zT,if_neg (by decide)]
    cases((decide (s=0)&&decide (r.Frame.l.getD i 0≠0))||decide (4095<r.Frame.l.getD i 0))<;>rfl
  ·have b:decide (((r.States.l.length:Nat):Int)<64)=false:=qD (by rw [r.States.h];omega);simp only [zK,b,zT,Fg8,Fft,Fcc,Fgo,e,Number_eq c,sound_eq c,zC,someS_eq _ _ _ a,allS_eq _ _ a,bZ,xQ];show gJ (sndM r g) _ _=_;unfold aTw
   cases sndM r g with
   |true=>rfl
   |false=>
    rw [zT,if_neg (by decide)]
    cases(!r.Sound&&(r.States.l.any λy=>decide (y=3)||decide (y=2)))with
    |true=>rfl
    |false=>
     rw [zT,if_neg (by decide)]
     cases(decide (r.Copies<0)||((decide (r.Copies=0)&&r.Sound)&& !(r.States.l.any λy=>decide (y≠3))))with
     |true=>rfl
     |false=>
      rw [zT,if_neg (by decide)]
      cases(r.Conflict&&r.Sound)<;>rfl
theorem aZl {f:List Int}{i:Nat}{s:Int} (h:stF f i s=none):0<=s/\s<=3:=by
 unfold stF at h;split at h;cases h;rename_i c;exact aCg.1 (by simpa using c)
theorem rest_4 (r:gW) (g:List Nat) (h:g.length=64) (t:Small g) (A:r.Frame=en g h):Fb1 r=some (aUk r g):=by
 have u:r.States.l.length<=9223372036854775807:=by rw [r.States.h];decide
 unfold Fb1;have B:decide (4194304<=r.Number)=decide (4194303<r.Number):=decide_eq_decide.2 (by omega);simp only [zC,zK,yN,xQ,B];show gJ (bV r.Number 0 4194303) _ _=_
 cases hv:bV r.Number 0 4194303 with
 |true=>unfold aUk;rw [hv];rfl
 |false=>
  rw [zT,<-aQz r g hv];unfold Fji;have C:=r.States.h;refine(pU (λ(i:Nat) (c:Int×Int×Int×Int)=>(c.1,c.2.1,c.2.2.1,c.2.2.2,(i:Int))) r.States.l (goF (stF r.Frame.l) aIf)
   (λc=>some (if (r.Sound&&((!decide (qM g)||decide ((aLt g).1≠r.Number))||decide (0<IntKind.i64.wrap (c.2.2.2+c.2.1))))=true then 2 else if (!r.Sound&&decide (0<IntKind.i64.wrap (c.1+c.2.2.1)))=true then 2 else if (decide (r.Copies<0)||((decide (r.Copies=0)&&r.Sound)&&decide (c.1=64)))=true then 9 else if (r.Conflict&&r.Sound)=true then 2 else 0)) u (λk i c s h1=>?_) (λk c=>?_) (0,0,0,0)).trans ?_
  ·have w:=(gS.1 h1).1;have hi:i<64:=by rw [<-r.States.h];exact w
   have o:decide ((i:Int)<64)=true:=dT (by omega);simp only [zK,yN,o,zV,yU h1,zC,fO w u,fr_at r hi,bZ,xQ];show gJ (bV s 0 3) _ _=_;unfold goF stF
   cases bV s 0 3 with
   |true=>rfl
   |false=>
    rw [zT,if_neg (by decide)]
    cases((decide (s=0)&&decide (r.Frame.l.getD i 0≠0))||decide (4095<r.Frame.l.getD i 0))with
    |true=>rfl
    |false=>
     rw [zT,if_neg (by decide)];show _=k ((aIf c s).1,(aIf c s).2.1,(aIf c s).2.2.1,(aIf c s).2.2.2,_);unfold aIf
     by_cases b:s=3
     ·rw [dT b,zV,if_pos b]
     ·rw [qD b,zT,if_neg b]
      by_cases f:s=2
      ·rw [dT f,zV,if_pos f]
      ·rw [qD f,zT,if_neg f]
       by_cases m:s=1
       ·rw [dT m,zV,if_pos m]
       ·rw [qD m,zT,if_neg m]
  ·have o:decide (((r.States.l.length:Nat):Int)<64)=false:=qD (by rw [r.States.h];omega);simp only [zK,o,zT,Fgr,A,aXf t,rSound_eq t,zC,bZ,xQ,Bool.or_assoc]
   cases(r.Sound&&(!decide (qM g)||(decide ((aLt g).1≠r.Number)||decide (0<IntKind.i64.wrap (c.2.2.2+c.2.1)))))with
   |true=>rfl
   |false=>
    rw [zT,if_neg (by decide)]
    cases(!r.Sound&&decide (0<IntKind.i64.wrap (c.1+c.2.2.1)))with
    |true=>rfl
    |false=>
     rw [zT,if_neg (by decide)]
     cases(decide (r.Copies<0)||((decide (r.Copies=0)&&r.Sound)&&decide (c.1=64)))with
     |true=>rfl
     |false=>
      rw [zT,if_neg (by decide)]
      cases(r.Conflict&&r.Sound)<;>rfl
  ·rw [aEc];rcases nN (stF r.Frame.l) r.States.l 0 with ⟨j,x,_,-,-,b⟩|⟨h1,b⟩
   ·rw [b,b]
   rw [b,b];have e: ∀x∈r.States.l,0<=x/\x<=3:=by
    intro x d;obtain⟨j,D,rfl⟩:=List.mem_iff_getElem.1 d;exact aZl (h1 j _ (gE D))
   have z:=aFj r.States.l 0 0 0 0 (by omega);simp only [Nat.zero_add,Int.natCast_zero]at z;rw [z];have c1:=List.countP_le_length (p:=λs:Int=>decide (s=3)) (l:=r.States.l);have c2:=List.countP_le_length (p:=λs:Int=>decide (s=1)) (l:=r.States.l);have c3:=List.countP_le_length (p:=λs:Int=>decide (s=2)) (l:=r.States.l);have c4:=List.countP_le_length (p:=λs:Int=> !(decide (s=3)||decide (s=2)||decide (s=1))) (l:=r.States.l);simp only;rw [wrap_i64 (n:=((r.States.l.countP (λs:Int=> !(decide (s=3)||decide (s=2)||decide (s=1))):Nat):Int)+_) (by omega) (by omega),wrap_i64 (n:=((r.States.l.countP (λs:Int=>decide (s=3)):Nat):Int)+_) (by omega) (by omega)];have E:decide (0<((r.States.l.countP (λs:Int=> !(decide (s=3)||decide (s=2)||decide (s=1))):Nat):Int)+((r.States.l.countP (λs:Int=>decide (s=1)):Nat):Int))=r.States.l.any λy=>decide (y=0)||decide (y=1):=by
    have a:decide (0<((r.States.l.countP (λs:Int=> !(decide (s=3)||decide (s=2)||decide (s=1))):Nat):Int)+((r.States.l.countP (λs:Int=>decide (s=1)):Nat):Int))=(decide (0<r.States.l.countP (λs:Int=> !(decide (s=3)||decide (s=2)||decide (s=1))))||decide (0<r.States.l.countP (λs:Int=>decide (s=1)))):=by
     rw [Bool.eq_iff_iff,Bool.or_eq_true];simp only [decide_eq_true_eq];omega
    rw [a,aAr,aAr,aOt];refine aHe λx d=>?_
    have:=e x d;rw [Bool.eq_iff_iff];simp only [Bool.or_eq_true,Bool.not_eq_true',Bool.or_eq_false_iff,decide_eq_true_eq,decide_eq_false_iff_not];omega
   have F:decide (0<((r.States.l.countP (λs:Int=>decide (s=3)):Nat):Int)+((r.States.l.countP (λs:Int=>decide (s=2)):Nat):Int))=r.States.l.any λy=>decide (y=3)||decide (y=2):=by
    have a:decide (0<((r.States.l.countP (λs:Int=>decide (s=3)):Nat):Int)+((r.States.l.countP (λs:Int=>decide (s=2)):Nat):Int))=(decide (0<r.States.l.countP (λs:Int=>decide (s=3)))||decide (0<r.States.l.countP (λs:Int=>decide (s=2)))):=by
     rw [Bool.eq_iff_iff,Bool.or_eq_true];simp only [decide_eq_true_eq];omega
    rw [a,aAr,aAr,aOt]
   have G:decide (((r.States.l.countP (λs:Int=>decide (s=3)):Nat):Int)=64)= !(r.States.l.any λy=>decide (y≠3)):=by
    have a:decide (((r.States.l.countP (λs:Int=>decide (s=3)):Nat):Int)=64)=decide (r.States.l.countP (λs:Int=>decide (s=3))=r.States.l.length):=decide_eq_decide.2 (by omega);rw [a,Bool.eq_iff_iff,decide_eq_true_eq,List.countP_eq_length,Bool.not_eq_true',List.any_eq_false];constructor
    ·intro q x d;have:=q x d;simpa using this
    ·intro q x d;have:=q x d;simpa using this
   rw [E,F,G];unfold aTw sndM;have H:(!decide (qM g)||decide ((aLt g).1≠r.Number))= !(decide (qM g)&&decide ((aLt g).1=r.Number)):=by
    rw [Bool.not_and,decide_not]
   rw [H]
def aGb (x:Line):Bool:=((((bV x.From (-1099511627776) 1099511627776||bV x.To (-1099511627776) 1099511627776)||decide (x.To<x.From))||bV x.A (-1048576) 1048576)||bV x.B (-1125899906842624) 1125899906842624)
def aLe (l:List Line):Nat->Line->Option (Option Int):=λi x=>if aGb x=true then some (some 9)else if (decide (0<i)&&decide (x.From<=((l[i-1]?).getD x).To))=true then some (some 10)else none
def lnum (x:Line)(n:Int):Int:=IntKind.i64.wrap (IntKind.i64.wrap (x.A*n)+x.B)
def endBad (x:Line):Bool:=bV (lnum x x.From) (-1125899906842624) 1125899906842624||bV (lnum x x.To) (-1125899906842624) 1125899906842624
def uT (c:eU):Bool:=(bV c.Low (-1125899906842624) 1125899906842624||bV c.High (-1125899906842624) 1125899906842624)||decide (c.High<c.Low)
def calR (c:eU):Option Int:=if c.Lines.any endBad=true then some 9 else if uT c=true then some 9 else some 0
def aUc (c:eU):Option Int:=if bV c.Den 1 1000000=true then some 9 else if c.Lines.length=0 then some 13 else if 50<c.Lines.length then some 3 else bW (aLe c.Lines) (calR c) c.Lines 0
theorem aZa {a:Type}{l:List a}{i:Nat}{x:a}(h:l[i]? =some x)(b:l.length<=9223372036854775807)(c:0<i):at' l (IntKind.i64.wrap ((i:Int)-1))=some ((l[i-1]?).getD x):=by
 have d:=(gS.1 h).1;rw [wrap_i64 (by omega) (by omega),show(i:Int)-1=((i-1:Nat):Int)by omega,aGx,gE (by omega:i-1<l.length)];rfl
theorem cal_s (c:eU) (a:c.Lines.length<=9223372036854775807):Fdn c=aUc c:=by
 unfold Fdn aUc;simp only [swi,zC,zK,yN,nwi,xQ];show gJ (bV c.Den 1 1000000) _ _=_
 cases bV c.Den 1 1000000 with
 |true=>rfl
 |false=>
  rw [zT,if_neg (by decide),xA]
  by_cases d:c.Lines.length=0
  ·rw [if_pos d,if_pos (by omega)]
  rw [if_neg d,if_neg (by omega),xA]
  by_cases e:50<c.Lines.length
  ·rw [if_pos e,if_pos (by omega)]
  rw [if_neg e,if_neg (by omega)];unfold Fj5;refine xY c.Lines (aLe c.Lines) _ a (λk i x h1 b=>?_) (λk=>?_)
  ·simp only [zK,yH b,zV,yU h1,zC,fO b a,swi,nwi,xQ];show gJ (aGb x) _ _=_;unfold aLe
   cases aGb x with
   |true=>rfl
   |false=>
    rw [zT,if_neg (by decide)]
    by_cases c0:0<i
    ·rw [dT (show(0:Int)<(i:Int)by omega),dT c0,zV,aZa h1 a c0,zC,zC,Bool.true_and]
     cases decide (x.From<=((c.Lines[i-1]?).getD x).To)<;>rfl
    ·rw [qD (show¬(0:Int)<(i:Int)by omega),qD c0];rfl
  ·simp only [zK,yK,zT];unfold Fhq;rw [jS c.Lines endBad (some 9) (if uT c=true then some 9 else some 0) a]
   ·unfold calR
    cases c.Lines.any endBad<;>rfl
   ·intro k i x h1 b;simp only [zK,yH b,zV,yU h1,zC,fO b a,swi,nwi,xQ,Fc2];rfl
   ·intro k;simp only [zK,yK,zT];show gJ (uT c) _ _=_
    cases uT c<;>rfl
theorem cal_5 (c:eU) (a:c.Lines.length<=9223372036854775807):Fbo c=aUc c:=by
 unfold Fbo aUc;simp only [out5,zC,zK,yN,xQ];show gJ (bV c.Den 1 1000000) _ _=_
 cases bV c.Den 1 1000000 with
 |true=>rfl
 |false=>
  rw [zT,if_neg (by decide),xA]
  by_cases d:c.Lines.length=0
  ·rw [if_pos d,if_pos (by omega)]
  rw [if_neg d,if_neg (by omega),xA]
  by_cases e:50<c.Lines.length
  ·rw [if_pos e,if_pos (by omega)]
  rw [if_neg e,if_neg (by omega)];unfold Fi8;refine xY c.Lines (aLe c.Lines) _ a (λk i x h1 b=>?_) (λk=>?_)
  ·simp only [zK,yH b,zV,yU h1,zC,fO b a,out5,xQ];show gJ (aGb x) _ _=_;unfold aLe
   cases aGb x with
   |true=>rfl
   |false=>
    rw [zT,if_neg (by decide)]
    by_cases c0:0<i
    ·rw [dT (show(0:Int)<(i:Int)by omega),dT c0,zV,aZa h1 a c0,zC,zC,Bool.true_and]
     cases decide (x.From<=((c.Lines[i-1]?).getD x).To)<;>rfl
    ·rw [qD (show¬(0:Int)<(i:Int)by omega),qD c0];rfl
  ·simp only [zK,yK,zT];unfold Fjn;rw [jS c.Lines endBad (some 9) (if uT c=true then some 9 else some 0) a]
   ·unfold calR
    cases c.Lines.any endBad<;>rfl
   ·intro k i x h1 b;simp only [zK,yH b,zV,yU h1,zC,fO b a,out5,xQ];rfl
   ·intro k;simp only [zK,yK,zT];show gJ (uT c) _ _=_
    cases uT c<;>rfl
theorem calR_some (c:eU): ∃v,calR c=some v:=by
 unfold calR;split;exact⟨_,rfl⟩;split<;>exact⟨_,rfl⟩
theorem calO_some (c:eU): ∃v,aUc c=some v:=by
 unfold aUc;split
 ·exact⟨_,rfl⟩
 split
 ·exact⟨_,rfl⟩
 split
 ·exact⟨_,rfl⟩
 rcases nN (aLe c.Lines) c.Lines 0 with ⟨_,_,v,h1,a,b⟩|⟨h1,b⟩
 ·rw [b];unfold aLe at a;split at a
  ·exact⟨9,by cases a;rfl⟩
  ·split at a
   ·exact⟨10,by cases a;rfl⟩
   ·cases a
 ·rw [b];exact calR_some c
def aLw (c:eU):Int:=(aUc c).getD 0
theorem aZk (c:eU):aUc c=some (aLw c):=by
 obtain⟨_,a⟩:=calO_some c;unfold aLw;rw [a];rfl
structure SzS (x:fC):Prop where
 tr:okS x.Track
 ml:x.Meaning.length<=9223372036854775807
 ms: ∀c∈x.Meaning,c.Lines.length<=9223372036854775807
structure SzB (b:Book):Prop where
 mp:SzM b.Map
 sl:b.Sources.length<=9223372036854775807
 ss: ∀x∈b.Sources,SzS x
 rl:b.Rests.length<=9223372036854775807
 rs: ∀r∈b.Rests,SzR r
def rsM (r:gW):Int:=aUk r (r.Frame.l.map Int.toNat)
theorem aWk {g:List Nat}{h:g.length=64}:(en g h).l.map Int.toNat=g:=by
 unfold en;simp only [List.map_map];have:(Int.toNat∘λn:Nat=>(n:Int))=id:=by funext n;simp
 rw [this,List.map_id]
theorem aZs {r:gW}(h:SzR r):Fa7 r=some (rsM r):=by
 obtain⟨g,b,c,a⟩:=h;rw [rest_l r g b c a];unfold rsM;rw [a,aWk]
theorem crest_4 {r:gW}(h:SzR r):Fb1 r=some (rsM r):=by
 obtain⟨g,b,c,a⟩:=h;rw [rest_4 r g b c a];unfold rsM;rw [a,aWk]
def vH {a:Type}(l:List a):List (a×a):=l.zip l.tail
theorem pairs_at {a:Type}{l:List a}{i:Nat}{p:a×a}(h:(vH l)[i]? =some p):l[i]? =some p.1/\l[i+1]? =some p.2:=by
 unfold vH at h;rw [List.getElem?_zip_eq_some,List.getElem?_tail]at h;exact h
theorem pairs_len {a:Type}(l:List a):(vH l).length=l.length-1:=by
 unfold vH;rw [List.length_zip,List.length_tail];omega
theorem aHf {a b:Type}{body:(Int->Option b)->Int->Option b} (l:List a) (q:a×a->Bool) (r fin:Option b) (o:l.length<=9223372036854775807)
  (h: ∀k (i:Nat) x y,l[i]? =some x->l[i+1]? =some y->i+1<l.length->body k ((i+1:Nat):Int)=gJ (q (x,y)) r (k ((i+1+1:Nat):Int))) (f: ∀k (n:Nat),l.length<=n->body k (n:Int)=fin):fA body 1=gJ ((vH l).any q) r fin:=by
 have c:=pairs_len l;have e:fA body 1=kH (λ_ x _=>if q x=true then .inr r else .inl ()) (λ_=>fin) (vH l) 0 ():=by
  refine pU (λ(i:Nat) (_:Unit)=>((i+1:Nat):Int)) (vH l) _ _ (by omega) (λk i s x h1=>?_) (λk s=>?_) ()
  ·obtain⟨g,d⟩:=pairs_at h1;have j:=(gS.1 d).1;rw [h k i x.1 x.2 g d j]
   cases q x<;>rfl
  ·exact f k _ (by omega)
 rw [e];have: ∀(l:List (a×a)) (i:Nat),kH (λ_ x _=>if q x=true then .inr r else .inl ()) (λ_:Unit=>fin) l i ()=gJ (l.any q) r fin:=by
  intro l
  induction l with
  |nil=>intro i;rfl
  |cons x l m=>
   intro i;rw [kH,List.any_cons]
   cases q x with
   |true=>rfl
   |false=>exact m (i+1)
 exact this _ 0
def aRe (l:List gW):Bool:=(vH l).any λp=>decide (p.2.Number<=p.1.Number)
def rsF:Nat->gW->Option (Option Int):=λ_ x=>if rsM x=0 then none else some (some (rsM x))
def aHg (l:List gW):Option Int:=if 5000<l.length then some 3 else bW rsF (if aRe l=true then some 10 else some 0) l 0
theorem aWe {i:Nat}(h:i<=9223372036854775806):IntKind.i64.wrap (((i+1:Nat):Int)-1)=(i:Int):=by rw [wrap_i64 (by omega) (by omega)];omega
theorem fault_l (l:List gW) (a:l.length<=9223372036854775807) (f: ∀r∈l,SzR r):Fav l=aHg l:=by
 unfold Fav aHg
 repeat (first |rw [zK]|rw [yN]|rw [zC])
 rw [xA]
 by_cases c:5000<l.length
 ·rw [if_pos c,if_pos (by omega)]
 rw [if_neg c,if_neg (by omega)];unfold Fj2;refine xY l rsF _ a (λk i x h1 b=>?_) (λk=>?_)
 ·have g:=f x (qS h1);simp only [zK,yH b,zV,yU h1,zC,fO b a,aZs g];rw [xA];unfold rsF
  by_cases e:rsM x=0
  ·rw [if_neg (by simpa using e),if_pos e]
  ·rw [if_pos e,if_neg e]
 ·simp only [zK,yK,zT];unfold Fie;rw [aHf l (λp=>decide (p.2.Number<=p.1.Number)) (some 10) (some 0) a]
  ·unfold aRe
   cases(vH l).any λp=>decide (p.2.Number<=p.1.Number)<;>rfl
  ·intro k i x _ h1 b d;simp only [zK,yH d,zV,yU b,zC,aWe (show i<=9223372036854775806 by omega),yU h1,fO d a]
  ·intro k _ _;simp only [zK];rw [qD (by omega),zT]
theorem fault_5 (l:List gW) (a:l.length<=9223372036854775807) (f: ∀r∈l,SzR r):Fcr l=aHg l:=by
 unfold Fcr aHg
 repeat (first |rw [zK]|rw [yN]|rw [zC])
 rw [xA]
 by_cases c:5000<l.length
 ·rw [if_pos c,if_pos (by omega)]
 rw [if_neg c,if_neg (by omega)];unfold Fjd;refine xY l rsF _ a (λk i x h1 b=>?_) (λk=>?_)
 ·have g:=f x (qS h1);simp only [zK,yH b,zV,yU h1,zC,fO b a,crest_4 g];rw [xA];unfold rsF
  by_cases e:rsM x=0
  ·rw [if_neg (by simpa using e),if_pos e]
  ·rw [if_pos e,if_neg e]
 ·simp only [zK,yK,zT];unfold Fhj;rw [aHf l (λp=>decide (p.2.Number<=p.1.Number)) (some 10) (some 0) a]
  ·unfold aRe
   cases(vH l).any λp=>decide (p.2.Number<=p.1.Number)<;>rfl
  ·intro k i x _ h1 b d;simp only [zK,yH d,zV,yU b,zC,aWe (show i<=9223372036854775806 by omega),yU h1,fO d a]
  ·intro k _ _;simp only [zK];rw [qD (by omega),zT]
structure aYl (l:List gW):Prop where
 n:l.length<=5000
 all: ∀r∈l,rsM r=0
 ord:aRe l=false
theorem aEx {f:Type} (p:f->Bool): ∀(l:List f) (i:Nat),(aLc p l i= -1/\ ∀x∈l,p x=false)\/ ∃j x,aLc p l i=((i+j:Nat):Int)/\l[j]? =some x/\p x=true/\ ∀a c,a<j->l[a]? =some c->p c=false
 | [],i=> .inl ⟨rfl,λx h=>by cases h⟩
 |x::l,i=>by
  rw [aLc]
  by_cases h:p x=true
  ·rw [if_pos h];exact .inr ⟨0,x,rfl,rfl,h,λa c h=>by omega⟩
  ·rw [if_neg h];rcases aEx p l (i+1)with ⟨h1,d⟩|⟨j,y,h1,d,g,k⟩
   ·refine .inl ⟨h1,λy e=>?_⟩;rcases List.mem_cons.1 e with rfl|e
    ·simpa using h
    ·exact d y e
   ·refine .inr ⟨j+1,y,by rw [h1];congr 1;omega,by simpa using d,g,λa c m b=>?_⟩
    cases a with
    |zero=>simp at b;subst b;simpa using h
    |succ a=>exact k a c (by omega) (by simpa using b)
def aZ (b:Map)(s:Str):Int:=aLc (λy:Param=>decide (y.Name=s)) b.Params 0
theorem par_idx (b:Map)(a:b.Params.length<=9223372036854775807)(x:fC):Fc4 b.Params x=some (aZ b x.Param):=by
 unfold Fc4 Fje
 repeat (first |rw [zK]|rw [yN]|rw [zC])
 exact nD b.Params (λy=>decide (y.Name=x.Param)) a (λk _ y h1 c=>by simp only [zK,yH c,zV,yU h1,zC,fO c a,Ffy]) (λk=>by simp only [zK,yK,zT])
theorem par_idxR (b:Map)(a:b.Params.length<=9223372036854775807)(s:Str):Fdx b.Params s=some (aZ b s):=by
 unfold Fdx Fiz
 repeat (first |rw [zK]|rw [yN]|rw [zC])
 exact nD b.Params (λy=>decide (y.Name=s)) a (λk _ y h1 c=>by simp only [zK,yH c,zV,yU h1,zC,fO c a,Feu]) (λk=>by simp only [zK,yK,zT])
theorem par_5 (b:Map)(a:b.Params.length<=9223372036854775807)(s:Str):Faz b s=some (aZ b s):=by
 unfold Faz Fhp
 repeat (first |rw [zK]|rw [yN]|rw [zC])
 exact nD b.Params (λy=>decide (y.Name=s)) a (λk _ y h1 c=>by simp only [zK,yH c,zV,yU h1,zC,fO c a]) (λk=>by simp only [zK,yK,zT])
theorem contT_eq (l:List fC)(c:fC)(a:l.length<=9223372036854775807):Fcv l c=some (l.any λy=>decide (y.Track=c.Track)):=by
 unfold Fcv Ffs Fjx
 repeat (first |rw [zK]|rw [yN]|rw [zC])
 rw [nD l (λy=>decide (y.Track=c.Track)) a (λk _ _ h1 b=>by simp only [zK,yH b,zV,yU h1,zC,fO b a,Fe1]) (λk=>by simp only [zK,yK,zT]),zC,zK,sH]
def aKf (x:fC):Int:=match x.Meaning with
 | [c]=>aLw c
 |_=>0
def aFo (b:Book)(i:Nat)(x:fC):Int:=
 if aTs x.Track=false then 8 else if (b.Sources.take i).any (λy=>decide (y.Track=x.Track))=true then 5 else if aZ b.Map x.Param<0 then 4
 else if 1<x.Meaning.length then 2 else if aKf x≠0 then aKf x else if bV x.Long 0 1099511627776=true then 9 else 0
theorem parOf (b:Book) (c:b.Map.Params.length<=9223372036854775807) (x:fC): ∃p,Fbx b x=some (p,decide (0<=aZ b.Map x.Param))/\(0<=aZ b.Map x.Param->b.Map.Params[(aZ b.Map x.Param).toNat]? =some p):=by
 unfold Fbx;rw [par_idx b.Map c x,zC,zK,xA];rcases aEx (λy:Param=>decide (y.Name=x.Param)) b.Map.Params 0 with ⟨h1,a⟩|⟨j,y,h1,a,_,_⟩
 ·have h1:aZ b.Map x.Param= -1:=h1;rw [h1,if_pos (by decide)];exact⟨_,rfl,λh=>absurd h (by decide)⟩
 ·rw [Nat.zero_add]at h1;have h1:aZ b.Map x.Param=(j:Int):=h1;rw [h1,if_neg (by omega),yU a,zC];refine⟨y,?_,λ_=>by rw [Int.toNat_natCast];exact a⟩;rw [dT (by omega:(0:Int)<=(j:Int))]
theorem src_l {b:Book} (g:SzB b) {i:Nat}{x:fC} (hi:b.Sources[i]? =some x):Fcd b (i:Int)=some (aFo b i x):=by
 have m:=(gS.1 hi).1;have f:=g.ss x (qS hi);obtain⟨_,j,-⟩:=parOf b g.mp.pl x;unfold Fcd aFo;simp only [yU hi,zC,j,IsName_eq x.Track f.tr,zK,yN,fwi,nwi,aDc b.Sources (by omega:i<=b.Sources.length)];rw [contT_eq _ _ (by rw [List.length_take];have:=g.sl;omega),zC]
 cases aTs x.Track with
 |false=>rfl
 |true=>
  simp only [Bool.not_true,zT,Bool.true_eq_false,if_false]
  cases((b.Sources.take i).any λy=>decide (y.Track=x.Track))with
  |true=>rfl
  |false=>
   simp only [zT,Bool.false_eq_true,if_false]
   by_cases c4:aZ b.Map x.Param<0
   ·rw [if_pos c4,qD (by omega: ¬0<=aZ b.Map x.Param)];rfl
   rw [if_neg c4,dT (by omega:0<=aZ b.Map x.Param)];simp only [Bool.not_true,zT,xA]
   by_cases c2:1<x.Meaning.length
   ·rw [if_pos c2,if_pos (by omega)]
   rw [if_neg c2,if_neg (by omega)];unfold Fjs;have a:gJ (decide (x.Long<0)||decide (1099511627776<x.Long)) (some (9:Int)) (some 0)=some (if bV x.Long 0 1099511627776=true then 9 else 0):=by
    show gJ (bV x.Long 0 1099511627776) _ _=_
    cases bV x.Long 0 1099511627776<;>rfl
   rw [a];rw [xY x.Meaning (λ_ c=>if aLw c=0 then none else some (some (aLw c))) (some (if bV x.Long 0 1099511627776=true then 9 else 0)) f.ml]
   ·have hm:bW (λ_ c=>if aLw c=0 then none else some (some (aLw c))) (some (if bV x.Long 0 1099511627776=true then 9 else 0)) x.Meaning 0=some (if aKf x≠0 then aKf x else if bV x.Long 0 1099511627776=true then 9 else 0):=by
     unfold aKf;rcases hm:x.Meaning with _|⟨c,_|⟨_,_⟩⟩
     ·rfl
     ·rw [bW]
      by_cases e:aLw c=0
      ·simp only [e,ne_eq,not_true,if_false,if_true];rfl
      ·simp only [e,ne_eq,not_false_eq_true,if_true,if_false]
     ·rw [hm]at c2;simp at c2
    exact hm
   ·intro k i c h1 h;simp only [zK,yH h,zV,yU h1,zC,fO h f.ml,cal_s c (f.ms c (qS h1)),aZk];rw [xA]
    by_cases e:aLw c=0
    ·rw [if_neg (by simpa using e),if_pos e]
    ·rw [if_pos e,if_neg e]
   ·intro k;simp only [zK,yK,zT]
theorem uO (b:Nat):(2:Int)^b=((2^b:Nat):Int):=by exact_mod_cast rfl
theorem aDe {b c:Nat}(h:b<=c):(2:Nat)^b<=2^c:=Nat.pow_le_pow_right (by decide) h
theorem aIz {a b:Nat}(c:b<=64)(h:a*2^b<4611686018427387904):jV .i64 (a:Int) (b:Int)=some ((a*2^b:Nat):Int):=by
 unfold jV;have e:(IntKind.i64.bits:Int)=64:=rfl;rw [if_pos ⟨by omega,by rw [e];omega⟩,Int.toNat_natCast,uO,<-Int.natCast_mul,Go.OB.wrap_i64 (by omega) (by omega)]
theorem aFy {a b:Nat}(c:b<=62)(h:a<4611686018427387904):bits .and .i64 (a:Int) (((2^b:Nat):Int)-1)=((a%2^b:Nat):Int):=by
 rw [aGd (m:=((2^b:Nat):Int)) b c (uO b) (by omega) (by omega) (by omega)]
 exact_mod_cast rfl
theorem aRz {a b c:Nat}(f:a*2^b<4611686018427387904)(g:c<2^b)(d:b<=60):bits .or .i64 ((a*2^b:Nat):Int) (c:Int)=((a*2^b+c:Nat):Int):=by
 have e:(2:Nat)^b<=2^60:=aDe d;rw [aLy (m:=((2^b:Nat):Int)) b (uO b) (by omega) (by omega) (by rw [Int.natCast_mul];exact Int.mul_emod_left _ _) (by omega) (by omega) (by omega)];omega
theorem part_bits {w a b:Nat}(h:a+b<=11):w%2048/2^a%2^b=w/2^a%2^b:=by
 have e:(2048:Nat)=2^a*2^(11-a):=by rw [<-Nat.pow_add,show a+(11-a)=11 by omega]
 rw [e,Nat.mod_mul_right_div_self];exact Nat.mod_mod_of_dvd _ ⟨2^(11-a-b),by rw [<-Nat.pow_add,show b+(11-a-b)=11-a by omega]⟩
def nib (r i:Nat):Nat:=r/2^(4*i)%16
def jG (r m:Nat):Nat->Nat×Bool
 |0=>(0,true)
 |i+1=>((jG r m i).1*10+nib r (m-1-i),(jG r m i).2&&decide (nib r (m-1-i)<10))
theorem aVl (r i:Nat):nib r i<16:=Nat.mod_lt _ (by decide)
theorem aYw (r m:Nat): ∀i,9*(jG r m i).1+15<=15*10^i
 |0=>by show 9*0+15<=15*10^0;decide
 |i+1=>by
  have:=aYw r m i;have a:=aVl r (m-1-i);show 9*((jG r m i).1*10+nib r (m-1-i))+15<=_;rw [Nat.pow_succ];omega
theorem aQk (r m i:Nat):(jG r m i).1<2*10^i:=by have:=aYw r m i;omega
theorem aKg {r m:Nat}(hm:m<=16)(a:r<2^(4*m)): ∀i,jG r 16 (16-m+i)=jG r m i
 |0=>by
  have: ∀j,j<=16-m->jG r 16 j=(0,true):=by
   intro j
   induction j with
   |zero=>intro _;rfl
   |succ j b=>
    intro _;rw [jG,b (by omega)];have:nib r (16-1-j)=0:=by
     unfold nib;rw [Nat.div_eq_of_lt];exact Nat.lt_of_lt_of_le a (aDe (by omega))
    rw [this];rfl
  exact this (16-m) (Nat.le_refl _)
 |i+1=>by
  rw [show 16-m+(i+1)=(16-m+i)+1 by omega,jG,jG,aKg hm a i]
  by_cases c:i<m
  ·rw [show 16-1-(16-m+i)=m-1-i by omega]
  ·rw [show 16-1-(16-m+i)=0 by omega,show m-1-i=0 by omega]
theorem aTj {i:Nat}(h:i<=16):2*10^i<=20000000000000000:=by
 have:(10:Nat)^i<=10^16:=Nat.pow_le_pow_right (by decide) h;omega
theorem decimal_l (r:Nat) (g:r<4611686018427387904):Fb9 (r:Int)=some (((jG r 16 16).1:Int),(jG r 16 16).2):=by
 unfold Fb9 Fia;rw [xE (r:=some (((jG r 16 16).1:Int),(jG r 16 16).2)) (λi=>(((jG r 16 i).1:Int),(jG r 16 i).2,60-4*(i:Int))) 16 (by decide)]
 ·rfl
 ·rfl
 ·intro k i _;have h1:=aQk r 16 i;have h:=aTj (show i<=16 by omega);have j:=aVl r (15-i);have a:bits .and .i64 ((r/2^(4*(15-i)):Nat):Int) 15=((nib r (15-i):Nat):Int):=by
   have:r/2^(4*(15-i))<=r:=Nat.div_le_self _ _;exact aFy (b:=4) (by decide) (by omega)
  simp only [zK];rw [dT (by omega:(0:Int)<=60-4*(i:Int)),zV,show(60:Int)-4*(i:Int)=((4*(15-i):Nat):Int)by omega,aBd (by show 4*(15-i)<=64;omega),zC,a,
   Go.OB.wrap_i64 (n:=((jG r 16 i).1:Int)*10) (by omega) (by omega),Go.OB.wrap_i64 (n:=((jG r 16 i).1:Int)*10+_) (by omega) (by omega),Go.OB.wrap_i64 (n:=((4*(15-i):Nat):Int)-4) (by omega) (by omega)]
  have c:decide (((nib r (15-i):Nat):Int)<10)=decide (nib r (15-i)<10):=decide_eq_decide.2 (by omega);have d:jG r 16 (i+1)=((jG r 16 i).1*10+nib r (15-i),(jG r 16 i).2&&decide (nib r (15-i)<10)):=rfl;have e:((4*(15-i):Nat):Int)-4=60-4*((i+1:Nat):Int):=by omega
  have f:((jG r 16 i).1:Int)*10+((nib r (15-i):Nat):Int)=(((jG r 16 i).1*10+nib r (15-i):Nat):Int):=by omega
  rw [c,d,e,f]
  cases(jG r 16 i).2<;>rfl
 ·intro k;rfl
theorem decimal_2 (r m:Nat) (hm:m<=16) (w:r<4611686018427387904) (k:Int->Option (Int×Bool)):Fgc (r:Int) k (0,4*(m:Int)-4)=if (jG r m m).2=true then k ((jG r m m).1:Int)else some (0,false):=by
 unfold Fgc;have f: ∀B:(Int×Int->Option (Int×Bool))->Int×Int->Option (Int×Bool),(∀g (v s:Int),B g (v,s)=gJ (decide (0<=s)) (gB (aAo .i64 (r:Int) s) λx=>gJ (decide (9<bits .and .i64 x 15)) (some (0,false)) (g (IntKind.i64.wrap (IntKind.i64.wrap (10*v)+bits .and .i64 x 15),IntKind.i64.wrap (s-4)))) (k v))->
   ∀(d i a:Nat),i+d=m->d<a->(jG r m i).2=true->jC B a (((jG r m i).1:Int),4*((m-i:Nat):Int)-4)=if (jG r m m).2=true then k ((jG r m m).1:Int)else some (0,false):=by
  intro B q d
  induction d with
  |zero=>
   intro i a h1 t l;obtain⟨a,rfl⟩: ∃k,a=k+1:=⟨a-1,by omega⟩;obtain rfl:i=m:=by omega
   rw [jC,q,qD (by omega),zT,if_pos l]
  |succ d o=>
   intro i a h1 t l;obtain⟨a,rfl⟩: ∃k,a=k+1:=⟨a-1,by omega⟩;have l1:=aQk r m i;have l2:=aTj (show i<=16 by omega);have y:=aVl r (m-1-i);have u:bits .and .i64 ((r/2^(4*(m-1-i)):Nat):Int) 15=((nib r (m-1-i):Nat):Int):=by
    have:r/2^(4*(m-1-i))<=r:=Nat.div_le_self _ _;exact aFy (b:=4) (by decide) (by omega)
   rw [jC,q,dT (by omega),zV,show(4:Int)*((m-i:Nat):Int)-4=((4*(m-1-i):Nat):Int)by omega,aBd (by show 4*(m-1-i)<=64;omega),zC,u];have p:jG r m (i+1)=((jG r m i).1*10+nib r (m-1-i),(jG r m i).2&&decide (nib r (m-1-i)<10)):=rfl
   by_cases c:nib r (m-1-i)<10
   ·rw [qD (by omega),zT,Go.OB.wrap_i64 (n:=10*((jG r m i).1:Int)) (by omega) (by omega),Go.OB.wrap_i64 (n:=10*((jG r m i).1:Int)+_) (by omega) (by omega),Go.OB.wrap_i64 (by omega) (by omega)];have:=o (i+1) a (by omega) (by omega) (by rw [p];simp [l,c]);rw [p]at this;rw [<-this]
    congr 2
    ·omega
    ·omega
   ·rw [dT (by omega),zV,if_neg];have: ∀d j,(jG r m j).2=false->(jG r m (j+d)).2=false:=by
     intro d
     induction d with
     |zero=>intro j h;exact h
     |succ d o=>intro j h;rw [Nat.add_succ,jG,o j h];rfl
    have:=this d (i+1) (by rw [p];simp [c]);rw [show i+1+d=m by omega]at this;rw [this];decide
 have e: ∀B:(Int×Int->Option (Int×Bool))->Int×Int->Option (Int×Bool),fA B (0,4*(m:Int)-4)=jC B FU (0,4*(m:Int)-4):=λB=>rfl
 rw [e];exact f _ (λg v s=>rfl) m 0 FU (by omega) (by unfold FU;omega) rfl
theorem aOw {p:Param} (g:SzP p) (s:pG p=0) (r:Nat) (l:(r:Int)<2^(nY p.Parts).toNat): ∃v h,Fa9 p (r:Int)=some (v,h)/\Fb7 p (r:Int)=some (v,h,0)/\ -1125899906842624<=v/\v<=1125899906842624:=by
 have o:=jE s;obtain⟨_,_⟩:=aCg.1 o.kd;have w:=aJu o.pt;have y:=o.pt.sum;obtain⟨n,i⟩: ∃n:Nat,nY p.Parts=(n:Int):=⟨(nY p.Parts).toNat,by omega⟩;have z:1<=n:=by omega
 have j:n<=40:=by omega
 rw [i,Int.toNat_natCast,uO]at l;have l:r<2^n:=by omega
 have A:(2:Nat)^n<=2^40:=aDe j;have I:(2:Nat)^n=2*2^(n-1):=by
  have:=Nat.pow_succ' (n:=n-1) (m:=2);rw [show(n-1).succ=n by omega]at this;exact this
 have q:jV .i64 1 (IntKind.i64.wrap ((n:Int)-1))=some ((2^(n-1):Nat):Int):=by
  rw [Go.OB.wrap_i64 (by omega) (by omega),show(n:Int)-1=((n-1:Nat):Int)by omega];have:=aIz (a:=1) (b:=n-1) (by omega) (by omega);rw [Nat.one_mul]at this;exact this
 have t:jV .i64 1 (n:Int)=some ((2^n:Nat):Int):=by
  have:=aIz (a:=1) (b:=n) (by omega) (by omega);rw [Nat.one_mul]at this;exact this
 have d:kcM p.Kind n=false:=by
  have:=o.kf;unfold kfM at this;split at this
  ·cases this
  ·rename_i c;rw [<-i];simpa using c
 have B:Fb7 p (r:Int)=gB (Fcy p (r:Int)) λx=>some (x.1,x.2,0):=by
  unfold Fb7;rw [par_2 g,zC,zK,s,show decide ((0:Int)≠0)=false from rfl,zT,aOx p g.pl,zC,i,t,zC,zK,out2,zC,Go.OB.wrap_i64 (by omega) (by omega)];have:(decide ((r:Int)<0)||decide (((2^n:Nat):Int)-1<(r:Int)))=false:=by
   rw [Bool.or_eq_false_iff,decide_eq_false_iff_not,decide_eq_false_iff_not];omega
  rw [this,zT]
 have C:Fa9 p (r:Int)=gB (decK p n ((2^(n-1):Nat):Int) (r:Int)) λx=>some (if x.2=true then(x.1,true)else(0,false)):=by
  unfold Fa9 Fek;rw [aRc p g.pl,zC,i,q,zC]
  cases decK p n ((2^(n-1):Nat):Int) (r:Int)<;>rfl
 rw [B,C];unfold decK Fcy;rw [aOx p g.pl,zC,i];simp only [yN,zK,xA];have J:IntKind.i64.wrap ((n:Int)-1)=((n-1:Nat):Int):=by rw [Go.OB.wrap_i64 (by omega) (by omega)];omega
 have u:IntKind.i64.wrap (2*((2^(n-1):Nat):Int))=((2^n:Nat):Int):=by rw [Go.OB.wrap_i64 (by omega) (by omega)];omega
 have hk:p.Kind=1\/p.Kind=2\/p.Kind=3\/p.Kind=4\/p.Kind=5\/p.Kind=6:=by omega
 rcases hk with hk|hk|hk|hk|hk|hk
 ·rw [hk];simp only [Fah,zK];refine⟨(r:Int),true,?_,rfl,by omega,by omega⟩;show gB (some ((r:Int),decide ((r:Int)<=_))) _=_;rw [u,Go.OB.wrap_i64 (by omega) (by omega),dT (by omega:(r:Int)<=((2^n:Nat):Int)-1)];rfl
 ·rw [hk];simp only [Fcm,zK];show ∃v h,gB (gB (gJ (decide (((2^(n-1):Nat):Int)<=(r:Int))) (some (IntKind.i64.wrap ((r:Int)-IntKind.i64.wrap (2*((2^(n-1):Nat):Int))))) (some (r:Int))) _) _=_/\gB (gB (jV .i64 1 (IntKind.i64.wrap ((n:Int)-1))) _) _=_/\_;rw [q,zC,u]
  by_cases c:2^(n-1)<=r
  ·rw [dT (by omega:((2^(n-1):Nat):Int)<=(r:Int)),zV,zC];have f:IntKind.i64.wrap ((r:Int)-((2^n:Nat):Int))=(r:Int)-((2^n:Nat):Int):=Go.OB.wrap_i64 (by omega) (by omega);refine⟨_,true,rfl,?_,by rw [f];omega,by rw [f];omega⟩;rw [if_pos (by omega),t];rfl
  ·rw [qD (by omega: ¬((2^(n-1):Nat):Int)<=(r:Int)),zT,zC];refine⟨_,true,rfl,?_,by omega,by omega⟩;rw [if_neg (by omega)];rfl
 ·rw [hk];simp only [Fc9,zK];show ∃v h,gB (gJ (decide (((2^(n-1):Nat):Int)<=(r:Int))) (some (IntKind.i64.wrap (((2^(n-1):Nat):Int)-(r:Int)),decide (((2^(n-1):Nat):Int)<(r:Int)))) (some ((r:Int),true))) _=_/\gB (gB (jV .i64 1 (IntKind.i64.wrap ((n:Int)-1))) _) _=_/\_;rw [q,zC]
  by_cases c:2^(n-1)<=r
  ·rw [dT (by omega:((2^(n-1):Nat):Int)<=(r:Int)),zV,zC]
   by_cases c2:r=2^(n-1)
   ·refine⟨0,false,?_,?_,by omega,by omega⟩
    ·rw [qD (by omega: ¬((2^(n-1):Nat):Int)<(r:Int))];rfl
    ·rw [if_pos (by omega)];rfl
   ·have f:IntKind.i64.wrap (((2^(n-1):Nat):Int)-(r:Int))=((2^(n-1):Nat):Int)-(r:Int):=Go.OB.wrap_i64 (by omega) (by omega);refine⟨IntKind.i64.wrap (((2^(n-1):Nat):Int)-(r:Int)),true,?_,?_,by rw [f];omega,by rw [f];omega⟩
    ·rw [dT (by omega:((2^(n-1):Nat):Int)<(r:Int))];rfl
    ·rw [if_neg (by omega),zC,if_pos (by omega),zC];rfl
  ·rw [qD (by omega: ¬((2^(n-1):Nat):Int)<=(r:Int)),zT,zC];refine⟨_,true,rfl,?_,by omega,by omega⟩;rw [if_neg (by omega),zC,if_neg (by omega)];rfl
 ·rw [hk]at d⊢;have K:n%4=0:=by
   unfold kcM at d;simp only [decide_true,Bool.true_and,Bool.or_eq_false_iff,decide_eq_false_iff_not]at d;have:=d.1.1;have e:((n:Int)).tmod 4=((n%4:Nat):Int):=by rw [Int.tmod_eq_emod_of_nonneg (by omega)];simp
   rw [e]at this;omega
  obtain⟨m,hm⟩: ∃m,n=4*m:=⟨n/4,by omega⟩;have hd:=decimal_l r (by omega);have k:=aKg (r:=r) (m:=m) (by omega) (by rw [<-hm];exact l) m;rw [show 16-m+m=16 by omega]at k;have D:IntKind.i64.wrap ((n:Int)-4)=4*(m:Int)-4:=by rw [Go.OB.wrap_i64 (by omega) (by omega)];omega
  simp only [Int.reduceEq,reduceIte];rw [hd,zC,D,decimal_2 r m (by omega) (by omega),k];have E:=aQk r m m;have F:(10:Nat)^m<=10^10:=Nat.pow_le_pow_right (by decide) (by omega)
  cases hb:(jG r m m).2 with
  |true=>exact⟨_,true,rfl,rfl,by omega,by omega⟩
  |false=>exact⟨0,false,rfl,rfl,by omega,by omega⟩
 ·rw [hk]at d⊢;have h1:n=1:=by
   unfold kcM at d;simp only [decide_true,Bool.true_and,Bool.or_eq_false_iff,decide_eq_false_iff_not]at d;have:=d.1.2;omega
  simp only [Fah,zK];refine⟨(r:Int),true,?_,rfl,by omega,by omega⟩;show gB (some ((r:Int),decide ((r:Int)<=1))) _=_;rw [h1]at l;rw [dT (by omega:(r:Int)<=1)];rfl
 ·rw [hk];simp only [Fah,zK];show ∃v h,gB (some ((r:Int),decide ((r:Int)<=IntKind.i64.wrap ((p.Names.length:Int)-1)))) _=_/\gB (if (p.Names.length:Int)<=(r:Int)then some ((0:Int),false)else some ((r:Int),true)) _=_/\_;rw [Go.OB.wrap_i64 (by omega) (by have:=g.nl;omega)]
  by_cases c:(p.Names.length:Int)<=(r:Int)
  ·rw [if_pos c,qD (by omega: ¬(r:Int)<=(p.Names.length:Int)-1)];exact⟨0,false,rfl,rfl,by omega,by omega⟩
  ·rw [if_neg c,dT (by omega:(r:Int)<=(p.Names.length:Int)-1)];exact⟨_,true,rfl,rfl,by omega,by omega⟩
def aMm (a b:gK):Bool:=decide (a.Number<b.Number)||(decide (a.Number=b.Number)&&decide (a.Word<b.Word))
theorem bef_eq (a b:gK):Fdy a b=some (aMm a b):=by
 unfold Fdy aMm;simp only [zK,bZ,xQ,zC]
def pY (l:List gK)(y:gK):Nat:=(l.takeWhile λx=>aMm x y).length
def aBq (l:List gK)(y:gK):List gK:=if l[pY l y]? =some y then l else l.take (pY l y)++[y]++l.drop (pY l y)
theorem aZm (l:List gK)(y:gK):pY l y<=l.length:=by
 unfold pY;exact(List.takeWhile_sublist _).length_le
theorem putI_lt {l:List gK}{y:gK}: ∀{i:Nat}{x:gK},i<pY l y->l[i]? =some x->aMm x y=true:=by
 unfold pY
 induction l with
 |nil=>intro i x h;simp at h
 |cons z l b=>
  intro i x h a;rw [List.takeWhile_cons]at h
  by_cases c:aMm z y=true
  ·rw [if_pos c]at h
   cases i with
   |zero=>simp at a;rw [<-a];exact c
   |succ i=>exact b (by simpa using h) (by simpa using a)
  ·rw [if_neg c]at h;simp at h
theorem putI_at {l:List gK}{y x:gK}(a:l[pY l y]? =some x):aMm x y=false:=by
 unfold pY at a
 induction l with
 |nil=>simp at a
 |cons z l b=>
  rw [List.takeWhile_cons]at a
  by_cases c:aMm z y=true
  ·rw [if_pos c]at a;exact b (by simpa using a)
  ·rw [if_neg c]at a;simp at a;rw [<-a];simpa using c
theorem putL (l:List gK) (y:gK) (d:l.length<=9223372036854775807):Fgn l y 0=some (pY l y:Int):=by
 have e:=aZm l y;unfold Fgn;refine xE (λi=>(i:Int)) (pY l y) (by omega) rfl (λk i hi=>?_) (λk=>?_);have b:i<l.length:=by omega
 have a:l[i]? =some l[i]:=gE b;simp only [zK,yH b,zV,yU a,zC,bef_eq,fO b d,putI_lt hi a];by_cases c:pY l y<l.length;have a:l[pY l y]? =some l[pY l y]:=gE c;simp only [zK,yH c,zV,yU a,zC,bef_eq,putI_at a,zT];have:pY l y=l.length:=by omega
 simp only [zK,this,yK,zT,zC]
theorem bAf (l:List gK) (y:gK) (g:l.length<=1000000):Fd9 l y=some (aBq l y):=by
 have b:=aZm l y;unfold Fd9 aBq;rw [putL l y (by omega),zC];have a:sub' l (pY l y:Int) (l.length:Int)=some (l.drop (pY l y)):=by
  unfold sub';rw [if_pos (by omega)]
  congr 1
  rw [List.take_of_length_le]
  ·rw [Int.toNat_natCast]
  ·rw [List.length_drop,Int.toNat_natCast];omega
 have f:app' 16 ([]:List gK) (l.take (pY l y))=some (l.take (pY l y)):=by
  rw [kS (by rw [List.length_nil,List.length_take];omega) (by decide)];rfl
 have a2:app' 16 (l.take (pY l y)) [y]=some (l.take (pY l y)++[y]):=kS (by rw [List.length_take,List.length_singleton];omega) (by decide);have a3:app' 16 (l.take (pY l y)++[y]) (l.drop (pY l y))=some (l.take (pY l y)++[y]++l.drop (pY l y)):=kS (by rw [List.length_append,List.length_take,List.length_singleton,List.length_drop];omega) (by decide);simp only [zK,aDc l b,zC,f,a,a2,a3]
 by_cases c:pY l y<l.length
 ·have d:l[pY l y]? =some l[pY l y]:=gE c;rw [yH c,zV,yU d,zC,zC,d,xA]
  by_cases e:l[pY l y]=y
  ·rw [if_pos e,if_pos (by rw [e])]
  ·rw [if_neg e,if_neg (by simpa using e)]
 ·have:pY l y=l.length:=by omega
  rw [this,yK,zT,zC,zT,if_neg];rw [List.getElem?_eq_none (Nat.le_refl _)];simp
theorem aRl (l:List gK) (y z:gK):z∈aBq l y↔z∈l\/z=y:=by
 unfold aBq;split
 ·rename_i h;constructor
  ·exact .inl
  ·rintro(a|rfl)
   ·exact a
   ·exact qS h
 ·rw [mA,mA,mS];constructor
  ·rintro((h|h)|h)
   ·exact .inl (List.mem_of_mem_take h)
   ·exact .inr h
   ·exact .inl (List.mem_of_mem_drop h)
  ·rintro(h|h)
   ·rw [<-List.take_append_drop (pY l y) l]at h;rcases mA.1 h with h|h
    ·exact .inl (.inl h)
    ·exact .inr h
   ·exact .inl (.inr h)
theorem aLo (l:List gK)(y:gK):(aBq l y).length<=l.length+1:=by
 unfold aBq;split;omega;rw [List.length_append,List.length_append,List.length_take,List.length_singleton,List.length_drop];omega
def dJ (l:List fG)(base:Int):List gK:=l.foldl (λs x=>aBq (aBq s (gK.mk (base+x.Frame) 3)) (gK.mk (base+x.Frame) x.Word)) []
theorem aSi (l:List fG)(x:fG)(base:Int):dJ (l++[x]) base=aBq (aBq (dJ l base) (gK.mk (base+x.Frame) 3)) (gK.mk (base+x.Frame) x.Word):=by
 unfold dJ;rw [List.foldl_append,List.foldl_cons,List.foldl_nil]
theorem nC (l:List fG) (base:Int) (z:gK):z∈dJ l base↔ ∃x∈l,z=gK.mk (base+x.Frame) 3\/z=gK.mk (base+x.Frame) x.Word:=by
 have: ∀(l:List fG) (s:List gK),z∈l.foldl (λs x=>aBq (aBq s (gK.mk (base+x.Frame) 3)) (gK.mk (base+x.Frame) x.Word)) s↔z∈s\/ ∃x∈l,z=gK.mk (base+x.Frame) 3\/z=gK.mk (base+x.Frame) x.Word:=by
  intro l
  induction l with
  |nil=>intro s;simp
  |cons x l b=>
   intro s;rw [List.foldl_cons,b,aRl,aRl];constructor
   ·rintro(((h|h)|h)|⟨y,h1,a⟩)
    ·exact .inl h
    ·exact .inr ⟨x,List.mem_cons_self ..,.inl h⟩
    ·exact .inr ⟨x,List.mem_cons_self ..,.inr h⟩
    ·exact .inr ⟨y,List.mem_cons_of_mem _ h1,a⟩
   ·rintro(h|⟨y,h1,a⟩)
    ·exact .inl (.inl (.inl h))
    ·rcases List.mem_cons.1 h1 with rfl|h1
     ·rcases a with a|a
      ·exact .inl (.inl (.inr a))
      ·exact .inl (.inr a)
     ·exact .inr ⟨y,h1,a⟩
 have:=this l [];unfold dJ;rw [this];simp
theorem aAx (l:List fG)(base:Int):(dJ l base).length<=2*l.length:=by
 have: ∀(l:List fG) (s:List gK),(l.foldl (λs x=>aBq (aBq s (gK.mk (base+x.Frame) 3)) (gK.mk (base+x.Frame) x.Word)) s).length<=s.length+2*l.length:=by
  intro l
  induction l with
  |nil=>intro s;simp
  |cons x l a=>
   intro s;rw [List.foldl_cons];have h1:=a (aBq (aBq s (gK.mk (base+x.Frame) 3)) (gK.mk (base+x.Frame) x.Word));have b:=aLo (aBq s (gK.mk (base+x.Frame) 3)) (gK.mk (base+x.Frame) x.Word);have c:=aLo s (gK.mk (base+x.Frame) 3);rw [List.length_cons];omega
 have:=this l [];unfold dJ;simpa using this
structure aEs (x:fG):Prop where
 f0:0<=x.Frame
 f1:x.Frame<=15
 w0:4<=x.Word
 w1:x.Word<=60
 l0:0<=x.Low
 b1:1<=x.Bits
 lb:x.Low+x.Bits<=11
theorem aRt (c:Cell) (base:Int) (l:0<=base) (h1:base<=5000000) (m:c.Places.length<=8) (e: ∀x∈c.Places,aEs x):Fb5 c base=some (dJ c.Places base):=by
 unfold Fb5 Fi3;rw [xE (r:=some (dJ c.Places base)) (λi=>(dJ (c.Places.take i) base,(i:Int))) c.Places.length (by omega)]
 ·rfl
 ·rfl
 ·intro k i hi;have b:c.Places[i]? =some c.Places[i]:=gE hi;have d:=e _ (List.getElem_mem hi);have f0:=d.f0;have f1:=d.f1;have f:=aAx (c.Places.take i) base;rw [List.length_take]at f;have g:=aLo (dJ (c.Places.take i) base) (gK.mk (base+c.Places[i].Frame) 3);simp only [zK,yH hi,zV,yU b,zC];rw [Go.OB.wrap_i64 (n:=base+c.Places[i].Frame) (by omega) (by omega)];have h:Fg3 (base+c.Places[i].Frame) c.Places[i] (dJ (c.Places.take i) base,0)=some (dJ (c.Places.take (i+1)) base):=by
   unfold Fg3;refine xE (λj=>match j with
    |0=>(dJ (c.Places.take i) base,0)
    |1=>(aBq (dJ (c.Places.take i) base) (gK.mk (base+c.Places[i].Frame) 3),1)
    |_=>(dJ (c.Places.take (i+1)) base,2)) 2 (by decide) rfl (λk j _=>?_) (λk=>rfl)
   have a:j=0\/j=1:=by omega
   rcases a with rfl|rfl
   ·simp only [zK];rw [show decide ((0:Int)<2)=true from rfl,zV,show at' ([3,c.Places[i].Word]:List Int) 0=some 3 from rfl,zC,bAf _ _ (by omega),zC];rfl
   ·simp only [zK];rw [show decide ((1:Int)<2)=true from rfl,zV,show at' ([3,c.Places[i].Word]:List Int) 1=some c.Places[i].Word from rfl,zC,bAf _ _ (by omega),zC,cZ b,aSi];rfl
  rw [h,zC,fO hi (by omega)]
 ·intro k;simp only [zK,yK,zT,List.take_length]
def vF:gW:=gW.mk 0 (Arr.rep 64 0) (Arr.rep 64 0) false 0 false
def kP (rs:List gW)(n:Int):gW:=(rs.find? λr=>decide (r.Number=n)).getD vF
def frN (r:gW)(k:Int):Nat:=(r.Frame.l.getD k.toNat 0).toNat
def stN (r:gW)(k:Int):Int:=r.States.l.getD k.toNat 0
structure vU (r:gW):Prop where
 fr: ∀x∈r.Frame.l,0<=x/\x<65536
 st: ∀x∈r.States.l,0<=x/\x<=3
theorem aVh:vU vF:=by
 refine⟨λx a=>?_,λx a=>?_⟩;have:x=0:=(List.mem_replicate.1 a).2;subst this;decide;have:x=0:=(List.mem_replicate.1 a).2;subst this;decide
theorem aYv {r:gW}(h:vU r){k:Int}(a:0<=k)(h1:k<64):at' r.Frame.l k=some ((frN r k:Nat):Int)/\frN r k<65536:=by
 obtain⟨i,rfl⟩: ∃i:Nat,k=(i:Int):=⟨k.toNat,by omega⟩;have hi:i<r.Frame.l.length:=by rw [r.Frame.h];omega
 have:=h.fr _ (List.getElem_mem hi);have e:r.Frame.l.getD (i:Int).toNat 0=r.Frame.l[i]:=by rw [Int.toNat_natCast,List.getD_eq_getElem?_getD,gE hi];rfl
 unfold frN;rw [e,yU (gE hi)];exact⟨by congr 1;omega,by omega⟩
theorem aTl {r:gW}(h:vU r){k:Int}(a:0<=k)(h1:k<64):at' r.States.l k=some (stN r k)/\0<=stN r k/\stN r k<=3:=by
 obtain⟨i,rfl⟩: ∃i:Nat,k=(i:Int):=⟨k.toNat,by omega⟩;have hi:i<r.States.l.length:=by rw [r.States.h];omega
 have:=h.st _ (List.getElem_mem hi);have e:r.States.l.getD (i:Int).toNat 0=r.States.l[i]:=by rw [Int.toNat_natCast,List.getD_eq_getElem?_getD,gE hi];rfl
 unfold stN;rw [e,yU (gE hi)];exact⟨rfl,this⟩
def loM (R:Int->gW)(base:Int)(l:List fG):Int:=l.foldl (λm x=>min (min m (stN (R (base+x.Frame)) x.Word)) (stN (R (base+x.Frame)) 3)) 3
def badM (a:Int)(R:Int->gW)(base:Int)(l:List fG):Bool:=l.any λx=>decide (((frN (R (base+x.Frame)) 3%2048:Nat):Int)≠a)
def vst (R:Int->gW)(base:Int)(v:Nat)(x:fG):Nat:=v*2^x.Bits.toNat+frN (R (base+x.Frame)) x.Word/2^x.Low.toNat%2^x.Bits.toNat
def aBi (R:Int->gW)(base:Int)(l:List fG):Nat:=l.foldl (vst R base) 0
def sW (l:List fG):Nat:=(l.map λx=>x.Bits.toNat).sum
theorem foldl_snoc {a σ:Type}(f:σ->a->σ)(s:σ)(l:List a)(x:a):(l++[x]).foldl f s=f (l.foldl f s) x:=by rw [List.foldl_append,List.foldl_cons,List.foldl_nil]
theorem aOd (l:List fG)(x:fG):sW (l++[x])=sW l+x.Bits.toNat:=by unfold sW;rw [List.map_append,List.map_singleton,List.sum_append];simp
theorem aOe (l:List fG)(i:Nat):sW (l.take i)<=sW l:=by
 have h:sW l=sW (l.take i++l.drop i):=by rw [List.take_append_drop]
 rw [h];unfold sW;rw [List.map_append,List.sum_append];omega
theorem aEz (R:Int->gW)(base:Int)(l:List fG):aBi R base l<2^sW l:=by
 have: ∀(l:List fG) (v s:Nat),v<2^s->l.foldl (vst R base) v<2^(s+sW l):=by
  intro l
  induction l with
  |nil=>intro v s h;simpa [sW]using h
  |cons x l a=>
   intro v s h;rw [List.foldl_cons];have h1:vst R base v x<2^(s+x.Bits.toNat):=by
    unfold vst;have b:frN (R (base+x.Frame)) x.Word/2^x.Low.toNat%2^x.Bits.toNat<2^x.Bits.toNat:=Nat.mod_lt _ (Nat.two_pow_pos _);have hm:(v+1)*2^x.Bits.toNat<=2^s*2^x.Bits.toNat:=Nat.mul_le_mul_right _ h;rw [Nat.pow_add];rw [Nat.add_mul,Nat.one_mul]at hm;omega
   have:=a _ _ h1;have e:sW (x::l)=x.Bits.toNat+sW l:=by unfold sW;rw [List.map_cons,List.sum_cons]
   rw [e,<-Nat.add_assoc];exact this
 have:=this l 0 0 (by decide);rw [Nat.zero_add]at this;exact this
theorem aZj {R:Int->gW}{base:Int}{x:fG}{v:Nat}(d:aEs x)(g:frN (R (base+x.Frame)) x.Word<65536)(c:v*2^x.Bits.toNat<4611686018427387904):
  jV .i64 (v:Int) x.Bits=some ((v*2^x.Bits.toNat:Nat):Int)/\jV .i64 1 x.Bits=some ((2^x.Bits.toNat:Nat):Int)/\IntKind.i64.wrap (((2^x.Bits.toNat:Nat):Int)-1)=((2^x.Bits.toNat:Nat):Int)-1/\
  aAo .i64 ((frN (R (base+x.Frame)) x.Word:Nat):Int) x.Low=some ((frN (R (base+x.Frame)) x.Word/2^x.Low.toNat:Nat):Int)/\
  aAo .i64 ((frN (R (base+x.Frame)) x.Word%2048:Nat):Int) x.Low=some ((frN (R (base+x.Frame)) x.Word%2048/2^x.Low.toNat:Nat):Int)/\
  (bits .or .i64 ((v*2^x.Bits.toNat:Nat):Int) (bits .and .i64 ((frN (R (base+x.Frame)) x.Word/2^x.Low.toNat:Nat):Int) (((2^x.Bits.toNat:Nat):Int)-1))=((vst R base v x:Nat):Int))/\
  (bits .or .i64 ((v*2^x.Bits.toNat:Nat):Int) (bits .and .i64 ((frN (R (base+x.Frame)) x.Word%2048/2^x.Low.toNat:Nat):Int) (((2^x.Bits.toNat:Nat):Int)-1))=((vst R base v x:Nat):Int)):=by
 have l0:=d.l0;have b1:=d.b1;have lb:=d.lb;obtain⟨b,h⟩: ∃b:Nat,x.Bits=(b:Int):=⟨x.Bits.toNat,by omega⟩;obtain⟨lo,e⟩: ∃lo:Nat,x.Low=(lo:Int):=⟨x.Low.toNat,by omega⟩;unfold vst;generalize frN (R (base+x.Frame)) x.Word=w at g⊢;rw [h]at c b1 lb⊢;rw [e]at l0 lb⊢;simp only [Int.toNat_natCast]at c⊢;have f:b<=11:=by omega
 have i:(2:Nat)^b<=2^11:=aDe f;have k:1<=(2:Nat)^b:=Nat.one_le_two_pow;have j:jV .i64 1 (b:Int)=some ((2^b:Nat):Int):=by
  have:=aIz (a:=1) (b:=b) (by omega) (by omega);rw [Nat.one_mul]at this;exact this
 have l:w/2^lo<=w:=Nat.div_le_self _ _;have m:w%2048/2^lo<=w%2048:=Nat.div_le_self _ _;have n:w%2048<2048:=Nat.mod_lt _ (by decide);have hm: ∀z:Nat,z%2^b<2^b:=λz=>Nat.mod_lt _ (Nat.two_pow_pos _)
 refine⟨aIz (by omega) c,j,Go.OB.wrap_i64 (by omega) (by omega),aBd (by show lo<=64;omega),aBd (by show lo<=64;omega),?_,?_⟩
 ·rw [aFy (by omega) (by omega),aRz c (hm _) (by omega)]
 ·rw [aFy (by omega) (by omega),part_bits (by omega),aRz c (hm _) (by omega)]
def aSf (p:Param)(v:Nat):Int×Bool:=(Fa9 p (v:Int)).getD (0,false)
def aRs (m:Map)(p:Param)(R:Int->gW)(base:Int)(l:List fG):Int×Int:=if (decide (loM R base l=0)||badM m.Version R base l)=true then(0,0)else if (aSf p (aBi R base l)).2=true then((aSf p (aBi R base l)).1,loM R base l+1)else(0,1)
theorem aYj {R:Int->gW}{base:Int}: ∀{l:List fG},(∀x∈l,aEs x/\vU (R (base+x.Frame)))->0<=loM R base l/\loM R base l<=3:=by
 intro l;have: ∀(l:List fG) (m:Int),(∀x∈l,aEs x/\vU (R (base+x.Frame)))->0<=m->m<=3->0<=l.foldl (λm x=>min (min m (stN (R (base+x.Frame)) x.Word)) (stN (R (base+x.Frame)) 3)) m/\l.foldl (λm x=>min (min m (stN (R (base+x.Frame)) x.Word)) (stN (R (base+x.Frame)) 3)) m<=3:=by
  intro l
  induction l with
  |nil=>intro m _ h1 c;exact⟨h1,c⟩
  |cons x l f=>
   intro m h h1 c;obtain⟨d,e⟩:=h x (List.mem_cons_self ..);have a:=(aTl e (show 0<=x.Word by have:=d.w0;omega) (by have:=d.w1;omega)).2;have b:=(aTl e (show(0:Int)<=3 by decide) (by decide)).2;rw [List.foldl_cons];exact f _ (λy g=>h y (List.mem_cons_of_mem _ g)) (by omega) (by omega)
 intro h;exact this l 3 h (by decide) (by decide)
theorem mark_get {n:Int}(a:0<=n)(h1:n<=3)(h:n≠0):kT ([(3,4),(2,3),(1,2)]:List (Int×Int)) n 0=n+1:=by
 have:n=1\/n=2\/n=3:=by omega
 rcases this with rfl|rfl|rfl<;>rfl
theorem read_eq (m:Map) (p:Param) (c:Cell) (A:Arr 16 gW) (R:Int->gW) (base:Int) (q:SzP p) (j:pG p=0) (I:c.Places.length<=8) (f: ∀x∈c.Places,aEs x/\vU (R (base+x.Frame))/\at' A.l x.Frame=some (R (base+x.Frame))) (r:sW c.Places=(nY p.Parts).toNat):
  Feb m p c A=some (aRs m p R base c.Places):=by
 have s:=jE j;have t:=s.pt.sum;have a:Ff4 m c A (c.Places.length:Int) (3,0,false,0)=some (loM R base c.Places,((aBi R base c.Places:Nat):Int),badM m.Version R base c.Places):=by
  unfold Ff4;refine xE (λi=>(loM R base (c.Places.take i),((aBi R base (c.Places.take i):Nat):Int),badM m.Version R base (c.Places.take i),(i:Int))) c.Places.length (by omega) rfl (λk i hi=>?_) (λk=>?_)
  ·have g:c.Places[i]? =some c.Places[i]:=gE hi;obtain⟨b,e,u⟩:=f _ (List.getElem_mem hi);have w0:=b.w0;have w1:=b.w1;obtain⟨s1,-⟩:=aTl e (show 0<=c.Places[i].Word by omega) (by omega);obtain⟨s2,-⟩:=aTl e (show(0:Int)<=3 by decide) (by decide);obtain⟨f1,h⟩:=aYv e (show 0<=c.Places[i].Word by omega) (by omega);obtain⟨f2,_⟩:=aYv e (show(0:Int)<=3 by decide) (by decide);have y:aBi R base (c.Places.take i)*2^c.Places[i].Bits.toNat<4611686018427387904:=by
    have h1:=aEz R base (c.Places.take i);have z:sW (c.Places.take i)+c.Places[i].Bits.toNat<=40:=by
     have:=aOe c.Places (i+1);rw [cZ g,aOd]at this;omega
    have B:aBi R base (c.Places.take i)*2^c.Places[i].Bits.toNat<=2^sW (c.Places.take i)*2^c.Places[i].Bits.toNat:=Nat.mul_le_mul_right _ (by omega);rw [<-Nat.pow_add]at B;have J:(2:Nat)^(sW (c.Places.take i)+c.Places[i].Bits.toNat)<=2^40:=aDe z;omega
   obtain⟨C,D,E,F,-,G,-⟩:=aZj (R:=R) (base:=base) b h y;have m1:bits .and .u16 ((frN (R (base+c.Places[i].Frame)) 3:Nat):Int) 2047=((frN (R (base+c.Places[i].Frame)) 3%2048:Nat):Int):=by
    rw [aFr (m:=2048) 11 (by decide) (by decide) (by omega) (by omega)];omega
   simp only [zK,yH hi,zV,yU g,zC,u,s1,s2,f1,f2,m1];rw [Go.OB.wrap_i64 (n:=((frN (R (base+c.Places[i].Frame)) 3%2048:Nat):Int)) (by omega) (by omega),xQ,zC,C,zC,Go.OB.wrap_i64 (n:=((frN (R (base+c.Places[i].Frame)) c.Places[i].Word:Nat):Int)) (by omega) (by omega),F,zC,D,zC,E,G,fO hi (by omega),cZ g];unfold loM aBi badM;rw [foldl_snoc,foldl_snoc,List.any_append,List.any_cons,List.any_nil,Bool.or_false]
  ·simp only [zK,yK,zT,List.take_length]
 obtain⟨v,o,d1,-,-⟩:=aOw q j (aBi R base c.Places) (by have:=aEz R base c.Places;rw [r]at this;rw [uO];omega);have d:=aYj (R:=R) (base:=base) (l:=c.Places) λx b=>⟨(f x b).1,(f x b).2.1⟩
 unfold Feb aRs;rw [zK,a,zC];simp only [zK,xQ,zC,d1];have hd:aSf p (aBi R base c.Places)=(v,o):=by unfold aSf;rw [d1];rfl
 rw [hd]
 cases hq:(decide (loM R base c.Places=0)||badM m.Version R base c.Places)with
 |true=>rfl
 |false=>
  have H:loM R base c.Places≠0:=by
   rw [Bool.or_eq_false_iff,decide_eq_false_iff_not]at hq;exact hq.1
  rw [zT,if_neg (by decide),mark_get d.1 d.2 H]
  cases o<;>rfl
theorem aKl {a:Type}(n:Int)(f:gW->a)(fin:Option a): ∀(l:List gW) (i:Nat),bW (λ_ r=>if decide (r.Number=n)=true then some (some (f r))else none) fin l i=match l.find? λr=>decide (r.Number=n)with
  |some r=>some (f r)
  |none=>fin
 | [],_=>rfl
 |r::l,i=>by
  rw [bW]
  by_cases h:decide (r.Number=n)=true
  ·rw [if_pos h,List.find?_cons,h]
  ·rw [if_neg h,List.find?_cons,(by simpa using h:decide (r.Number=n)=false)];exact aKl n f fin l (i+1)
theorem aPw {l:List gW}{n k:Int} (b:0<=k) (h1:k<64) (c:l.length<=9223372036854775807) (e: ∀r∈l,vU r):Fa3 l (gK.mk n k)=some (((frN (kP l n) k%2048:Nat):Int),stN (kP l n) k):=by
 unfold Fa3 Fho
 repeat (first |rw [zK]|rw [yN]|rw [zC])
 rw [xY l (λ_ r=>if decide (r.Number=n)=true then some (some (((frN r k%2048:Nat):Int),stN r k))else none) (some (0,0)) c]
 ·rw [aKl n (λr=>(((frN r k%2048:Nat):Int),stN r k))];unfold kP
  cases l.find? λr=>decide (r.Number=n)with
  |some r=>rfl
  |none=>
   obtain⟨i,rfl⟩: ∃i:Nat,k=(i:Int):=⟨k.toNat,by omega⟩;have f:frN vF (i:Int)=0:=by
    unfold frN vF;rw [Int.toNat_natCast,List.getD_eq_getElem?_getD];show((List.replicate 64 (0:Int))[i]?.getD 0).toNat=0;rw [List.getElem?_replicate];split<;>rfl
   have g:stN vF (i:Int)=0:=by
    unfold stN vF;rw [Int.toNat_natCast,List.getD_eq_getElem?_getD];show(List.replicate 64 (0:Int))[i]?.getD 0=0;rw [List.getElem?_replicate];split<;>rfl
   show some ((0:Int),(0:Int))=some (((frN vF (i:Int)%2048:Nat):Int),stN vF (i:Int));rw [f,g];rfl
 ·intro h i r d hi;have a:=e r (qS d);obtain⟨f1,f2⟩:=aYv a b h1;obtain⟨s1,-⟩:=aTl a b h1;have m1:bits .and .i64 ((frN r k:Nat):Int) 2047=((frN r k%2048:Nat):Int):=by
   rw [aGd (m:=2048) 11 (by decide) (by decide) (by omega) (by omega)];omega
  simp only [zK,yH hi,zV,yU d,zC,fO hi c,f1,s1];rw [Go.OB.wrap_i64 (n:=((frN r k:Nat):Int)) (by omega) (by omega),m1]
  cases decide (r.Number=n)<;>rfl
 ·intro h;simp only [zK,yK,zT]
theorem aUz {e:Type} (a b:e->Int) (z:Int): ∀(l:List e) (m:Int),z<=l.foldl (λm x=>min (min m (a x)) (b x)) m↔z<=m/\ ∀x∈l,z<=a x/\z<=b x
 | [],m=>by simp
 |x::l,m=>by
  rw [List.foldl_cons,aUz a b z l];constructor
  ·rintro⟨h1,d⟩;refine⟨by omega,λy c=>?_⟩;rcases List.mem_cons.1 c with rfl|c
   ·omega
   ·exact d y c
  ·rintro⟨h1,d⟩;have:=d x (List.mem_cons_self ..);exact⟨by omega,λy c=>d y (List.mem_cons_of_mem _ c)⟩
theorem le_lo1 {d:Type} (a:d->Int) (z:Int): ∀(l:List d) (m:Int),z<=l.foldl (λm x=>min m (a x)) m↔z<=m/\ ∀x∈l,z<=a x
 | [],m=>by simp
 |x::l,m=>by
  rw [List.foldl_cons,le_lo1 a z l];constructor
  ·rintro⟨h1,c⟩;refine⟨by omega,λy b=>?_⟩;rcases List.mem_cons.1 b with rfl|b
   ·omega
   ·exact c y b
  ·rintro⟨h1,c⟩;have:=c x (List.mem_cons_self ..);exact⟨by omega,λy b=>c y (List.mem_cons_of_mem _ b)⟩
def loW (R:Int->gW)(a:List gK):Int:=a.foldl (λm w=>min m (stN (R w.Number) w.Word)) 3
def aIg (a:Int)(R:Int->gW)(w:gK):Bool:=(decide (stN (R w.Number) w.Word≠0)&&decide (w.Word=3))&&decide (((frN (R w.Number) w.Word%2048:Nat):Int)≠a)
theorem lo_same (R:Int->gW) (base:Int) (l:List fG):loW R (dJ l base)=loM R base l:=by
 have c: ∀z,z<=loW R (dJ l base)↔z<=loM R base l:=by
  intro z;unfold loW loM;rw [le_lo1 (λw:gK=>stN (R w.Number) w.Word),aUz (λx:fG=>stN (R (base+x.Frame)) x.Word) (λx:fG=>stN (R (base+x.Frame)) 3)];constructor
  ·rintro⟨h1,d⟩;refine⟨h1,λx e=>⟨?_,?_⟩⟩
   ·exact d (gK.mk (base+x.Frame) x.Word) ((nC l base _).2 ⟨x,e,.inr rfl⟩)
   ·exact d (gK.mk (base+x.Frame) 3) ((nC l base _).2 ⟨x,e,.inl rfl⟩)
  ·rintro⟨h1,d⟩;refine⟨h1,λw f=>?_⟩;obtain⟨x,e,rfl|rfl⟩:=(nC l base w).1 f
   ·exact(d x e).2
   ·exact(d x e).1
 have a:=(c (loM R base l)).2 (Int.le_refl _);have b:=(c (loW R (dJ l base))).1 (Int.le_refl _);omega
theorem bad_same {b:Int}{R:Int->gW}{base:Int}{l:List fG} (e: ∀x∈l,aEs x/\vU (R (base+x.Frame))) (g:loM R base l≠0):(dJ l base).any (aIg b R)=badM b R base l:=by
 have h1:=(aYj e).1;have d:=(aUz (λx:fG=>stN (R (base+x.Frame)) x.Word) (λx:fG=>stN (R (base+x.Frame)) 3) (loM R base l) l 3).1 (Int.le_refl _);rw [Bool.eq_iff_iff,List.any_eq_true];unfold badM;rw [List.any_eq_true];constructor;rintro⟨w,f,a⟩;obtain⟨x,c,rfl|rfl⟩:=(nC l base w).1 f;unfold aIg at a;rw [Bool.and_eq_true]at a;exact⟨x,c,a.2⟩;unfold aIg at a;simp only [Bool.and_eq_true,decide_eq_true_eq]at a;have:=(e x c).1.w0;omega;rintro⟨x,c,a⟩;refine⟨gK.mk (base+x.Frame) 3,(nC l base _).2 ⟨x,c,.inl rfl⟩,?_⟩;unfold aIg;have:=(d.2 x c).2;rw [Bool.and_eq_true,Bool.and_eq_true];refine⟨⟨dT ?_,rfl⟩,a⟩;show stN (R (base+x.Frame)) 3≠0;omega
theorem sample_eq (m:Map) (p:Param) (c:Cell) (g:List gW) (R:Int->gW) (base:Int) (C:SzP p) (B:pG p=0) (D:c.Places.length<=8) (E:0<=base) (h1:base<=5000000) (d:g.length<=9223372036854775807) (e: ∀r∈g,vU r)
  (b: ∀x∈c.Places,aEs x/\vU (R (base+x.Frame))/\kP g (base+x.Frame)=R (base+x.Frame)) (F:sW c.Places=(nY p.Parts).toNat) (G:at' m.Params c.Param=some p):
  Fd3 m c base g=some (aRs m p R base c.Places):=by
 have H:=jE B;have I:=H.pt.sum;have j: ∀x∈c.Places,aEs x/\vU (R (base+x.Frame)):=λx a=>⟨(b x a).1,(b x a).2.1⟩
 have J:=aYj j;have K:=aAx c.Places base;have o:(dJ c.Places base).length<=9223372036854775807:=by omega
 obtain⟨v,q,d1,d2,-⟩:=aOw C B (aBi R base c.Places) (by have:=aEz R base c.Places;rw [F]at this;rw [uO];omega);have hd:aSf p (aBi R base c.Places)=(v,q):=by unfold aSf;rw [d1];rfl
 have t:Fez c base g (0,0)=some ((aBi R base c.Places:Nat):Int):=by
  unfold Fez;refine xE (λi=>(((aBi R base (c.Places.take i):Nat):Int),(i:Int))) c.Places.length (by omega) rfl (λk i hi=>?_) (λk=>?_)
  ·have z:c.Places[i]? =some c.Places[i]:=gE hi;obtain⟨a,L,M⟩:=b _ (List.getElem_mem hi);have w0:=a.w0;have w1:=a.w1;have f0:=a.f0;have f1:=a.f1;obtain⟨g1,A⟩:=aYv L (show 0<=c.Places[i].Word by omega) (by omega);have N:aBi R base (c.Places.take i)*2^c.Places[i].Bits.toNat<4611686018427387904:=by
    have h1:=aEz R base (c.Places.take i);have O:sW (c.Places.take i)+c.Places[i].Bits.toNat<=40:=by
     have:=aOe c.Places (i+1);rw [cZ z,aOd]at this;omega
    have P:aBi R base (c.Places.take i)*2^c.Places[i].Bits.toNat<=2^sW (c.Places.take i)*2^c.Places[i].Bits.toNat:=Nat.mul_le_mul_right _ (by omega);rw [<-Nat.pow_add]at P;have h4:(2:Nat)^(sW (c.Places.take i)+c.Places[i].Bits.toNat)<=2^40:=aDe O;omega
   obtain⟨Q,S,T,-,X,-,Y⟩:=aZj (R:=R) (base:=base) a A N;simp only [zK,yH hi,zV,yU z,zC];rw [Go.OB.wrap_i64 (n:=base+c.Places[i].Frame) (by omega) (by omega),aPw (by omega) (by omega) d e,zC,M];simp only;rw [Q,zC,X,zC,S,zC,T,Y,fO hi (by omega),cZ z];unfold aBi;rw [foldl_snoc]
  ·simp only [zK,yK,zT,List.take_length]
 have f: ∀w∈dJ c.Places base,Fa3 g w=some (((frN (R w.Number) w.Word%2048:Nat):Int),stN (R w.Number) w.Word):=by
  intro w u;obtain⟨x,a,rfl|rfl⟩:=(nC c.Places base w).1 u
  ·rw [aPw (by decide) (by decide) d e,(b x a).2.2]
  ·have:=(b x a).1.w0;have:=(b x a).1.w1;rw [aPw (by omega) (by omega) d e,(b x a).2.2]
 unfold Fd3;rw [aRt c base E h1 D (λx a=>(b x a).1),zC,yN];unfold Fi1;refine(pU (λ(i:Nat) (s:Int)=>(s,(i:Int))) (dJ c.Places base) (goF (λ_ w=>if aIg m.Version R w=true then some (some (0,0))else none) (λs w=>min s (stN (R w.Number) w.Word)))
  (λs=>if s=0 then some (0,0)else some (if q=true then(v,IntKind.i64.wrap (s+1))else(0,1))) o (λk i s w u=>?_) (λk s=>?_) 3).trans ?_
 rotate_left 2
 ·rw [aEc,uI (λ_ w=>aIg m.Version R w)];show(if _ then _ else(if loW R (dJ c.Places base)=0 then _ else some (if q=true then(v,IntKind.i64.wrap (loW R (dJ c.Places base)+1))else(0,1))))=_;rw [lo_same];have y:rH (λ_ w=>aIg m.Version R w) (dJ c.Places base) 0=(dJ c.Places base).any (aIg m.Version R):=by
   have: ∀(l:List gK) (i:Nat),rH (λ_ w=>aIg m.Version R w) l i=l.any (aIg m.Version R):=by
    intro l
    induction l with
    |nil=>intro i;rfl
    |cons w l ih=>intro i;rw [rH,List.any_cons,ih]
   exact this _ 0
  rw [y];unfold aRs;rw [hd]
  by_cases c0:loM R base c.Places=0
  ·rw [dT c0,Bool.true_or,if_pos rfl,if_pos c0];split<;>rfl
  ·rw [qD c0,Bool.false_or,if_neg c0,bad_same j c0]
   cases badM m.Version R base c.Places with
   |true=>rfl
   |false=>
    rw [Go.OB.wrap_i64 (by omega) (by omega)]
    cases q<;>rfl
 ·have hi:=(gS.1 u).1;simp only [zK,yH hi,zV,yU u,zC,fO hi o,f w (qS u),bZ];unfold goF;show gJ (aIg m.Version R w) _ _=_
  cases h:aIg m.Version R w<;>simp only [h]<;>rfl
 ·simp only [zK,yK,zT];rw [xA]
  by_cases c0:s=0
  ·rw [if_pos c0,if_pos c0]
  ·rw [if_neg c0,if_neg c0,t,zC,G,zC,d2,zC];simp only
   cases q<;>rfl
theorem aKt {p:Param}(a:aI p){s:Int}(h:s∈aC p):0<=s/\s<=15/\ ∀y∈p.Parts,¬16<=IntKind.i64.wrap (s+y.Frame):=by
 unfold aC at h;obtain⟨h1,b⟩:=List.mem_filter.1 h;obtain⟨i,hi,c⟩:=List.mem_iff_getElem.1 h1;have d:=aVa (gE hi);have e:=(wZ a).2.1 i hi;have f:=aQs a;have:(0:Int)<=(i:Int)*p.Every:=Int.mul_nonneg (by omega) (by omega);have k:=a.f0;rw [c]at d;refine⟨by omega,by omega,λy g j=>?_⟩;unfold aDh at b;rw [Bool.not_eq_true',List.any_eq_false]at b;exact b y g (dT j)
theorem place_ok {p:Param}(d:tX p){s:Int}(j:s∈aC p){t:Nat}(m:t<p.Times.toNat){x:fG}(i:x∈bM p s t):aEs x:=by
 obtain⟨s0,_,s2⟩:=aKt d.tm j;unfold bM at i;obtain⟨y,e,rfl⟩:=List.mem_map.1 i;have f:=aLv (d.pt.all y e);have g:=s2 y e;rw [Go.OB.wrap_i64 (by omega) (by omega)]at g;have a:=d.tf;unfold tfM at a;split at a
 ·cases a
 split at a
 ·cases a
 rename_i k;have b:rQ p y=false:=by
  cases h:rQ p y with
  |false=>rfl
  |true=>exact absurd (List.any_eq_true.2 ⟨y,e,h⟩) k
 unfold rQ at b;rw [Bool.or_eq_false_iff,decide_eq_false_iff_not,decide_eq_false_iff_not]at b;have c:=d.tm.s0;have l:(t:Int)*p.Step<=(p.Times-1)*p.Step:=Int.mul_le_mul_of_nonneg_right (by omega) c;have o:0<=(t:Int)*p.Step:=Int.mul_nonneg (by omega) c;unfold wM;rw [Go.OB.wrap_i64 (n:=s+y.Frame) (by omega) (by omega),Go.OB.wrap_i64 (n:=(t:Int)*p.Step) (by omega) (by omega),Go.OB.wrap_i64 (by omega) (by omega)];exact⟨by show 0<=s+y.Frame;omega,by show s+y.Frame<=15;omega,by show 4<=y.Word+(t:Int)*p.Step;omega,by show y.Word+(t:Int)*p.Step<=60;omega,f.2.2.2.2.1,f.2.2.2.2.2.2.1,f.2.2.2.2.2.2.2⟩
theorem aTp {p:Param}(a:tX p)(s t:Int):sW (bM p s t)=(nY p.Parts).toNat/\(bM p s t).length<=8:=by
 have c:=a.pt.n8;refine⟨?_,by unfold bM;rw [List.length_map];exact c⟩;have h:=aJi p.Parts 0 a.pt.all (by omega) (by omega);have e:nY p.Parts=(p.Parts.map Part.Bits).sum:=by unfold nY;rw [h.1];omega
 rw [e];unfold sW bM;rw [List.map_map];have: ∀l:List Part,(∀y∈l,kW y=false)->((l.map ((λx:fG=>x.Bits.toNat)∘wM p s t)).sum:Int)=(l.map Part.Bits).sum:=by
  intro l
  induction l with
  |nil=>intro _;rfl
  |cons y l d=>
   intro b;have g:=aLv (b y (List.mem_cons_self ..));rw [List.map_cons,List.sum_cons,List.map_cons,List.sum_cons,Int.natCast_add,d λz f=>b z (List.mem_cons_of_mem _ f)];have:(((λx:fG=>x.Bits.toNat)∘wM p s t) y:Int)=y.Bits:=by
    show((y.Bits.toNat:Nat):Int)=y.Bits;omega
   omega
 have:=this p.Parts a.pt.all;omega
theorem aIs {p:Param}{a:Int}{i:Nat}{c:Cell} (l:List Int) (h:(cellsS p a l)[i]? =some c): ∃s,l[i/p.Times.toNat]? =some s/\c=Cell.mk a (i:Int) s (bM p s ((i%p.Times.toNat:Nat):Int))/\i%p.Times.toNat<p.Times.toNat:=by
 have: ∀(l:List Int) (cs:List Cell),(l.foldl (λcs s=>cs++aV p a s cs.length p.Times.toNat) cs)[i]? =some c->cs.length<=i->
   ∃s,l[(i-cs.length)/p.Times.toNat]? =some s/\c=Cell.mk a (i:Int) s (bM p s (((i-cs.length)%p.Times.toNat:Nat):Int))/\(i-cs.length)%p.Times.toNat<p.Times.toNat:=by
  intro l
  induction l with
  |nil=>intro cs h1 d;rw [List.foldl_nil,List.getElem?_eq_none d]at h1;cases h1
  |cons s l f=>
   intro cs h1 d;rw [List.foldl_cons]at h1
   by_cases c2:i<cs.length+p.Times.toNat
   ·have j:0<p.Times.toNat:=by omega
    have k:(i-cs.length)/p.Times.toNat=0:=Nat.div_eq_of_lt (by omega);have m:(i-cs.length)%p.Times.toNat=i-cs.length:=Nat.mod_eq_of_lt (by omega);rw [k,m];refine⟨s,rfl,?_,by omega⟩;have b: ∀(l:List Int) (cs:List Cell),i<cs.length->(l.foldl (λcs s=>cs++aV p a s cs.length p.Times.toNat) cs)[i]? =cs[i]? :=by
     intro l
     induction l with
     |nil=>intro cs _;rfl
     |cons s l f=>
      intro cs g;rw [List.foldl_cons,f _ (by rw [List.length_append];omega),List.getElem?_append_left g]
    rw [b l _ (by rw [List.length_append,mV];omega),List.getElem?_append_right d]at h1;unfold aV at h1;rw [List.getElem?_map,List.getElem?_range (by omega)]at h1;simp only [Option.map_some,Option.some.injEq]at h1;rw [<-h1]
    congr 1
    omega
   ·have:=f _ h1 (by rw [List.length_append,mV];omega);rw [List.length_append,mV]at this;obtain⟨n,g1,g2,g3⟩:=this;have j:0<p.Times.toNat:=by omega
    have e:i-cs.length=(i-(cs.length+p.Times.toNat))+p.Times.toNat:=by omega
    refine⟨n,?_,?_,?_⟩
    ·rw [e,Nat.add_div_right _ j];simpa using g1
    ·rw [e,Nat.add_mod_right];exact g2
    ·rw [e,Nat.add_mod_right];exact g3
 have:=this l [] h (Nat.zero_le _);simpa using this
def dW (p:Param)(base:Int)(c:Cell):Int:=64*(base+c.Frame)+64*(c.Index%p.Times)/p.Times
theorem aVu {p:Param}(b:tX p){base:Int}(_:0<=base)(_:base<=5000000){a:Int}{c:Cell}(g:c∈gV p a):
    0<=c.Frame/\c.Frame<=15/\0<=c.Index/\c.Index<912/\0<=c.Index%p.Times/\c.Index%p.Times<=56/\0<=64*(c.Index%p.Times)/p.Times/\64*(c.Index%p.Times)/p.Times<=3584:=by
 obtain⟨i,hi,rfl⟩:=List.mem_iff_getElem.1 g;obtain⟨s,g1,g2,g3⟩:=aIs (aC p) (gE hi);have t1:=b.tm.t1;have t2:=b.tm.t2;have d:=aKt b.tm (qS g1);have f:(gV p a).length<=912:=bT b.tm a;have e:(gV p a)[i]=Cell.mk a (i:Int) s (bM p s ((i%p.Times.toNat:Nat):Int)):=g2;rw [e];show 0<=s/\s<=15/\0<=(i:Int)/\(i:Int)<912/\0<=(i:Int)%p.Times/\(i:Int)%p.Times<=56/\0<=64*((i:Int)%p.Times)/p.Times/\64*((i:Int)%p.Times)/p.Times<=3584;have m0:0<=(i:Int)%p.Times:=Int.emod_nonneg _ (by omega);have m1:(i:Int)%p.Times<p.Times:=Int.emod_lt_of_pos _ (by omega);have d0:0<=64*((i:Int)%p.Times)/p.Times:=Int.ediv_nonneg (by omega) (by omega);have d1:64*((i:Int)%p.Times)/p.Times<=64*((i:Int)%p.Times):=Int.ediv_le_self _ (by omega);exact⟨d.1,d.2.1,by omega,by omega,m0,by omega,d0,by omega⟩
theorem aJl {a b:Int}(c:0<=a)(d:1<=b):jF a b=some (a%b):=by
 unfold jF;rw [if_neg (by omega),Int.tmod_eq_emod_of_nonneg c]
theorem kX {a b:Int}(c:0<=a)(d:a<=4611686018427387904)(e:1<=b):qR .i64 a b=some (a/b):=by
 unfold qR;have h1:0<=a/b:=Int.ediv_nonneg c (by omega);have f:a/b<=a:=Int.ediv_le_self _ c;rw [if_neg (by omega),Int.tdiv_eq_ediv_of_nonneg c,Go.OB.wrap_i64 (by omega) (by omega)]
theorem aTc {p:Param} (b:tX p) {base:Int} (e:0<=base) (h1:base<=5000000) (a:Int):Fba p (gV p a) base=some ((gV p a).map (dW p base)):=by
 have c:(gV p a).length<=912:=bT b.tm a;have t1:=b.tm.t1;unfold Fba Fhe
 repeat (first |rw [zK]|rw [yN]|rw [zC])
 rw [xE (r:=some ((gV p a).map (dW p base))) (λi=>(((gV p a).take i).map (dW p base),(i:Int))) (gV p a).length (by omega)]
 ·rfl
 ·rfl
 ·intro k i hi;have d:(gV p a)[i]? =some (gV p a)[i]:=gE hi;obtain⟨_,_,f,_,_,_,_,_⟩:=aVu b e h1 (List.getElem_mem hi);simp only [zK,yH hi,zV,yU d,zC];rw [aJl f t1,zC,Go.OB.wrap_i64 (n:=64*((gV p a)[i].Index%p.Times)) (by omega) (by omega),kX (by omega) (by omega) t1,zC,
   Go.OB.wrap_i64 (n:=base+(gV p a)[i].Frame) (by omega) (by omega),Go.OB.wrap_i64 (n:=64*(base+(gV p a)[i].Frame)) (by omega) (by omega),Go.OB.wrap_i64 (n:=64*(base+(gV p a)[i].Frame)+_) (by omega) (by omega),
   kS (by rw [List.length_map,List.length_take,List.length_singleton];omega) (by decide),zC,fO hi (by omega),cZ d,List.map_append,List.map_singleton]
  rfl
 ·intro k;simp only [zK,yK,zT,List.take_length]
theorem stL_nodup {p:Param}(c:aI p):(stL p).Nodup:=by
 unfold stL;have d:=aQs c;refine List.Pairwise.map _ (λa b h=>?_) List.nodup_range;intro _;apply h;have:(a:Int)*p.Every=(b:Int)*p.Every:=by omega
 have:=Int.eq_of_mul_eq_mul_right (by omega:p.Every≠0) this;omega
theorem aQm {p:Param}(a:aI p):(aC p).Nodup:=List.Pairwise.filter _ (stL_nodup a)
theorem aNm {d:Type}: ∀{l:List d},l.Nodup-> ∀{i j:Nat}{x:d},l[i]? =some x->l[j]? =some x->i=j
 | [],_,i,j,x,h,_=>by simp at h
 |y::l,e,i,j,x,h1,c=>by
  obtain⟨a,b⟩:=List.nodup_cons.1 e
  cases i with
  |zero=>
   cases j with
   |zero=>rfl
   |succ j=>
    simp at h1 c;subst h1;exact absurd (qS c) a
  |succ i=>
   cases j with
   |zero=>
    simp at h1 c;subst c;exact absurd (qS h1) a
   |succ j=>simp at h1 c;rw [aNm b h1 c]
def aVn (T i j:Nat):Nat:=if j<i/T then T else if j=i/T then i%T else 0
theorem div_step {T i:Nat} (b:0<T):(i%T+1=T/\(i+1)/T=i/T+1/\(i+1)%T=0)\/(i%T+1<T/\(i+1)/T=i/T/\(i+1)%T=i%T+1):=by
 have h1:=Nat.div_add_mod i T;have d:=Nat.mod_lt i b;by_cases c:i%T+1=T;left;have e:i+1=T*(i/T+1):=by rw [Nat.mul_add,Nat.mul_one];omega
 refine⟨c,?_,?_⟩;rw [e,Nat.mul_div_cancel_left _ b];rw [e];exact Nat.mul_mod_right _ _;right;have e:i+1=T*(i/T)+(i%T+1):=by omega
 have a:i%T+1<T:=by omega
 refine⟨a,?_,?_⟩;rw [e,Nat.mul_add_div b,Nat.div_eq_of_lt a,Nat.add_zero];rw [e,Nat.mul_add_mod,Nat.mod_eq_of_lt a]
theorem cnt_step {T i j:Nat} (d:0<T):aVn T (i+1) j=if i/T=j then i%T+1 else aVn T i j:=by
 unfold aVn;rcases div_step (i:=i) d with ⟨h1,a,b⟩|⟨h1,a,b⟩
 ·rw [a,b]
  by_cases c:i/T=j
  ·rw [if_pos c,if_pos (by omega)];omega
  ·rw [if_neg c]
   by_cases c2:j<i/T
   ·rw [if_pos c2,if_pos (by omega)]
   ·rw [if_neg c2,if_neg (show¬j<i/T+1 by omega),if_neg (show¬j=i/T by omega)];split<;>rfl
 ·rw [a,b]
  by_cases c:i/T=j
  ·rw [if_pos c,if_neg (by omega),if_pos (by omega)]
  ·rw [if_neg c]
   by_cases c2:j<i/T
   ·rw [if_pos c2,if_pos c2]
   ·rw [if_neg c2,if_neg c2,if_neg (show¬j=i/T by omega),if_neg (show¬j=i/T by omega)]
theorem aZd {p:Param} (h:tX p) {base:Int} (B:0<=base) (h1:base<=5000000) (a:Int):Fbt p (gV p a) base=some ((gV p a).map (dW p base)):=by
 have A:(gV p a).length<=912:=bT h.tm a;have t1:=h.tm.t1;have t2:=h.tm.t2;have C:0<p.Times.toNat:=by omega
 have q: ∃r,Fgs p (gV p a) base ([],0,[])=some r/\r=(gV p a).map (dW p base):=by
  unfold Fgs;refine aOa (λ(i:Nat) (s:List Int×List (Int×Int))=>(s.1,(i:Int),s.2)) (gV p a)
   (λi s=>s.1=((gV p a).take i).map (dW p base)/\ ∀(j:Nat) (x:Int),(aC p)[j]? =some x->kT s.2 x 0=((aVn p.Times.toNat i j:Nat):Int)) (λr=>r=(gV p a).map (dW p base)) (by omega)
   (λk i s c m hi t=>?_) (λk s t=>?_) ([],[]) ⟨rfl,λj x u=>?_⟩
  ·obtain⟨s1,s2⟩:=s;obtain⟨d,f⟩:=t;simp only at d f;obtain⟨D,E,_,_,_,_,_,_⟩:=aVu h B h1 (qS m);obtain⟨x,g1,g2,g3⟩:=aIs (aC p) m;have u:=f _ x g1;have g:c.Frame=x:=by rw [g2]
   have v:c.Index=(i:Int):=by rw [g2]
   have l:aVn p.Times.toNat i (i/p.Times.toNat)=i%p.Times.toNat:=by unfold aVn;rw [if_neg (by omega),if_pos rfl]
   rw [l]at u;have b:((i%p.Times.toNat:Nat):Int)=c.Index%p.Times:=by
    rw [v,Int.natCast_emod]
    congr 1;omega
   have w:c.Index%p.Times+1=((i%p.Times.toNat+1:Nat):Int):=by rw [<-b];omega
   have F:0<=x/\x<=15:=by rw [<-g];exact⟨D,E⟩
   refine⟨(s1++[dW p base c],kF s2 x ((i%p.Times.toNat+1:Nat):Int)),⟨?_,?_⟩,?_⟩
   ·show s1++[dW p base c]=_;rw [d,cZ m,List.map_append,List.map_singleton]
   ·intro j y o;show kT (kF s2 x _) y 0=_;rw [aFx,cnt_step C]
    by_cases e:x=y
    ·subst e;rw [if_pos rfl,if_pos (aNm (aQm h.tm) g1 o)]
    ·rw [if_neg e,if_neg,f j y o];intro G;rw [G]at g1;rw [g1]at o;exact e (by simpa using o)
   ·simp only [zK,yH hi,zV,yU m,zC,g,u];rw [b,Go.OB.wrap_i64 (n:=64*(c.Index%p.Times)) (by omega) (by omega),kX (by omega) (by omega) t1,zC];rw [Go.OB.wrap_i64 (n:=base+x) (by omega) (by omega),Go.OB.wrap_i64 (n:=64*(base+x)) (by omega) (by omega),Go.OB.wrap_i64 (n:=64*(base+x)+_) (by omega) (by omega)];rw [kS (by rw [d,List.length_map,List.length_take,List.length_singleton];omega) (by decide),zC,fO hi (by omega),Go.OB.wrap_i64 (n:=c.Index%p.Times+1) (by omega) (by omega),w,<-g];rfl
  ·refine⟨s.1,?_,?_⟩
   ·simp only [zK,yK,zT]
   ·rw [t.1,List.take_length]
  ·show(0:Int)=_;unfold aVn;rw [Nat.zero_div,Nat.zero_mod,if_neg (by omega)];split<;>rfl
 obtain⟨r,H,z⟩:=q;unfold Fbt;rw [H,zC,z]
end Go.Lf
