/- Laws that the claim stands on; no condition beyond those stated. -/
import Derived.Test.YtbjofgmdhbiekaaGreatDoorBKa
import Derived.Test.YtbjofgmdhbiekaaGreatDoorBAa
namespace Go.Lf
open Go.RowKit Go.OB Go.Fr1
def goF {a b σ:Type}(q:Nat->a->Option (Option b))(u:σ->a->σ):Nat->a->σ->σ ⊕ Option b:=λi x s=>match q i x with
 |some r=> .inr r
 |none=> .inl (u s x)
theorem aBs {a b σ:Type}(q:Nat->a->Option (Option b))(u:σ->a->σ)(fin:σ->Option b): ∀(l:List a) (i:Nat) (s:σ),
  aO (goF q u) fin l i s=eU q (fin (l.foldl u s)) l i
 | [],i,s=>rfl
 |x::l,i,s=>by
  rw [aO,eU,List.foldl_cons,goF]
  cases q i x with
  |some r=>rfl
  |none=>exact aBs q u fin l (i+1) _
def stF (f:List Int):Nat->Int->Option (Option Int):=λi s=>if dC s 0 3=true then some (some 9)else if ((decide (s=0)&&decide (f.getD i 0≠0))||decide (4095<f.getD i 0))=true then some (some 2)else none
def aFk:Int×Int×Int×Int->Int->Int×Int×Int×Int:=λc s=>if s=3 then(IntKind.i64.wrap (c.1+1),c.2.1,c.2.2.1,c.2.2.2)else if s=2 then(c.1,c.2.1,IntKind.i64.wrap (c.2.2.1+1),c.2.2.2)else if s=1 then(c.1,IntKind.i64.wrap (c.2.1+1),c.2.2.1,c.2.2.2)else(c.1,c.2.1,c.2.2.1,IntKind.i64.wrap (c.2.2.2+1))
theorem aDk: ∀(l:List Int) (a b c d:Nat),a+b+c+d+l.length<=1000->l.foldl aFk ((a:Int),(b:Int),(c:Int),(d:Int))=(((a+l.countP (λs=>decide (s=3)):Nat):Int),((b+l.countP (λs=>decide (s=1)):Nat):Int),((c+l.countP (λs=>decide (s=2)):Nat):Int),((d+l.countP (λs=> !(decide (s=3)||decide (s=2)||decide (s=1))):Nat):Int))
 | [],a,b,c,d,_=>by simp
 |s::l,a,b,c,d,h=>by
  rw [List.length_cons]at h;rw [List.foldl_cons];unfold aFk;simp only [List.countP_cons]
  by_cases e:s=3
  ·subst e;rw [if_pos rfl,wrap_i64 (by omega) (by omega)];have:=aDk l (a+1) b c d (by omega);rw [Int.natCast_add,Int.natCast_one]at this;rw [show(λc s=>if s=3 then(IntKind.i64.wrap (c.1+1),c.2.1,c.2.2.1,c.2.2.2)else if s=2 then(c.1,c.2.1,IntKind.i64.wrap (c.2.2.1+1),c.2.2.2)else if s=1 then(c.1,IntKind.i64.wrap (c.2.1+1),c.2.2.1,c.2.2.2)else(c.1,c.2.1,c.2.2.1,IntKind.i64.wrap (c.2.2.2+1)):Int×Int×Int×Int->Int->Int×Int×Int×Int)=aFk from rfl,this];simp;omega
  ·rw [if_neg e]
   by_cases f:s=2
   ·subst f;rw [if_pos rfl,wrap_i64 (by omega) (by omega)];have:=aDk l a b (c+1) d (by omega);rw [Int.natCast_add c,Int.natCast_one]at this;rw [show(λc s=>if s=3 then(IntKind.i64.wrap (c.1+1),c.2.1,c.2.2.1,c.2.2.2)else if s=2 then(c.1,c.2.1,IntKind.i64.wrap (c.2.2.1+1),c.2.2.2)else if s=1 then(c.1,IntKind.i64.wrap (c.2.1+1),c.2.2.1,c.2.2.2)else(c.1,c.2.1,c.2.2.1,IntKind.i64.wrap (c.2.2.2+1)):Int×Int×Int×Int->Int->Int×Int×Int×Int)=aFk from rfl,this];simp;omega
   ·rw [if_neg f]
    by_cases g:s=1
    ·subst g;rw [if_pos rfl,wrap_i64 (by omega) (by omega)];have:=aDk l a (b+1) c d (by omega);rw [Int.natCast_add b,Int.natCast_one]at this;rw [show(λc s=>if s=3 then(IntKind.i64.wrap (c.1+1),c.2.1,c.2.2.1,c.2.2.2)else if s=2 then(c.1,c.2.1,IntKind.i64.wrap (c.2.2.1+1),c.2.2.2)else if s=1 then(c.1,IntKind.i64.wrap (c.2.1+1),c.2.2.1,c.2.2.2)else(c.1,c.2.1,c.2.2.1,IntKind.i64.wrap (c.2.2.2+1)):Int×Int×Int×Int->Int->Int×Int×Int×Int)=aFk from rfl,this];simp;omega
    ·rw [if_neg g,wrap_i64 (by omega) (by omega)];have:=aDk l a b c (d+1) (by omega);rw [Int.natCast_add d,Int.natCast_one]at this;rw [show(λc s=>if s=3 then(IntKind.i64.wrap (c.1+1),c.2.1,c.2.2.1,c.2.2.2)else if s=2 then(c.1,c.2.1,IntKind.i64.wrap (c.2.2.1+1),c.2.2.2)else if s=1 then(c.1,IntKind.i64.wrap (c.2.1+1),c.2.2.1,c.2.2.2)else(c.1,c.2.1,c.2.2.1,IntKind.i64.wrap (c.2.2.2+1)):Int×Int×Int×Int->Int->Int×Int×Int×Int)=aFk from rfl,this];simp [g,f,e];omega
theorem vW {a:Type}(p:a->Bool)(l:List a):decide (0<l.countP p)=l.any p:=by
 rw [Bool.eq_iff_iff,decide_eq_true_eq,List.countP_pos_iff,List.any_eq_true]
theorem aLd {a:Type}(p q:a->Bool): ∀l:List a,(l.any p||l.any q)=l.any λx=>p x||q x
 | []=>rfl
 |x::l=>by
  rw [List.any_cons,List.any_cons,List.any_cons,<-aLd p q l]
  cases p x<;>cases q x<;>cases l.any p<;>cases l.any q<;>rfl
theorem someS_eq (l:List Int)(a b:Int)(c:l.length<=9223372036854775807):Fce l a b=some (l.any λy=>decide (y=a)||decide (y=b)):=by
 unfold Fce Fei Ff6;rw [yC,zD,jT l (λy=>decide (y=a)||decide (y=b)) c (λk _ _ e d=>by simp only [zD,yB d,zO,yK e,zA,fH d c,Fd8,xC]) (λk=>by simp only [zD,yE,zL]),zA,zD,qK]
theorem allS_eq (l:List Int)(a:Int)(b:l.length<=9223372036854775807):Fb7 l a=some (l.any λy=>decide (y≠a)):=by
 unfold Fb7 Fda Ff7;rw [yC,zD,jT l (λy=>decide (y≠a)) b (λk _ _ d c=>by simp only [zD,yB c,zO,yK d,zA,fH c b,Fea]) (λk=>by simp only [zD,yE,zL]),zA,zD,qK]
def SzR (r:gU):Prop:= ∃(g:List Nat) (h:g.length=64),Small g/\r.Frame=en g h
def sndM (r:gU)(g:List Nat):Bool:=r.Sound&&(!(decide (nO g)&&decide ((aHv g).1=r.Number))||(r.States.l.any λy=>decide (y=0)||decide (y=1)))
def aOh (r:gU)(g:List Nat):Int:=if sndM r g=true then 2 else if (!r.Sound&&(r.States.l.any λy=>decide (y=3)||decide (y=2)))=true then 2 else if (decide (r.Copies<0)||((decide (r.Copies=0)&&r.Sound)&& !(r.States.l.any λy=>decide (y≠3))))=true then 9 else if (r.Conflict&&r.Sound)=true then 2 else 0
theorem aUb (f:List Int) (n:Int): ∀(l:List Int) (i:Nat),∃v,eU (stF f) (some n) l i=some v
 | [],i=>⟨n,rfl⟩
 |s::l,i=>by
  rw [eU];have c:=aUb f n l (i+1);unfold stF
  by_cases a:dC s 0 3=true
  ·rw [if_pos a];exact⟨9,rfl⟩
  ·rw [if_neg a]
   by_cases b:((decide (s=0)&&decide (f.getD i 0≠0))||decide (4095<f.getD i 0))=true
   ·rw [if_pos b];exact⟨2,rfl⟩
   ·rw [if_neg b];exact c
def aPz (r:gU)(g:List Nat):Int:=if dC r.Number 0 4194303=true then 9 else(eU (stF r.Frame.l) (some (aOh r g)) r.States.l 0).getD 0
theorem aMw (r:gU)(g:List Nat)(h:dC r.Number 0 4194303=false):eU (stF r.Frame.l) (some (aOh r g)) r.States.l 0=some (aPz r g):=by
 unfold aPz;rw [h,if_neg (by decide)];obtain⟨_,a⟩:=aUb r.Frame.l (aOh r g) r.States.l 0;rw [a];rfl
theorem fr_at (r:gU){i:Nat}(hi:i<64):at' r.Frame.l (i:Int)=some (r.Frame.l.getD i 0):=by
 rw [vU,List.getD_eq_getElem?_getD,gE (by rw [r.Frame.h];exact hi)];rfl
theorem rest_l (r:gU) (g:List Nat) (h:g.length=64) (c:Small g) (e:r.Frame=en g h):Fat r=some (aPz r g):=by
 have a:r.States.l.length<=9223372036854775807:=by rw [r.States.h];decide
 unfold Fat;simp only [vwi,zA,zD,yC,nwi];show gI (dC r.Number 0 4194303) _ _=_
 cases hv:dC r.Number 0 4194303 with
 |true=>unfold aPz;rw [hv];rfl
 |false=>
  rw [zL,<-aMw r g hv];unfold Fid;refine xG r.States.l _ _ a (λk i s f d=>?_) (λk=>?_)
  ·have hi:i<64:=by rw [<-r.States.h];exact d
   have b:decide ((i:Int)<64)=true:=dT (by omega);simp only [zD,b,zO,yK f,zA,fH d a,vwi,nwi,fr_at r hi,dM,xC];show gI (dC s 0 3) _ _=_;unfold stF
   cases dC s 0 3 with
   |true=>rfl
   |false=>
    rw [zL,if_neg (by decide)]
    cases((decide (s=0)&&decide (r.Frame.l.getD i 0≠0))||decide (4095<r.Frame.l.getD i 0))<;>rfl
  ·have b:decide (((r.States.l.length:Nat):Int)<64)=false:=qD (by rw [r.States.h];omega);simp only [zD,b,zL,Fdy,Fek,Fcp,Fe7,e,Number_eq c,sound_eq c,zA,someS_eq _ _ _ a,allS_eq _ _ a,dM,xC];show gI (sndM r g) _ _=_;unfold aOh
   cases sndM r g with
   |true=>rfl
   |false=>
    rw [zL,if_neg (by decide)]
    cases(!r.Sound&&(r.States.l.any λy=>decide (y=3)||decide (y=2)))with
    |true=>rfl
    |false=>
     rw [zL,if_neg (by decide)]
     cases(decide (r.Copies<0)||((decide (r.Copies=0)&&r.Sound)&& !(r.States.l.any λy=>decide (y≠3))))with
     |true=>rfl
     |false=>
      rw [zL,if_neg (by decide)]
      cases(r.Conflict&&r.Sound)<;>rfl
theorem aUq {f:List Int}{i:Nat}{s:Int} (h:stF f i s=none):0<=s/\s<=3:=by
 unfold stF at h;split at h;cases h;rename_i c;exact tZ.1 (by simpa using c)
theorem rest_4 (r:gU) (g:List Nat) (h:g.length=64) (u:Small g) (B:r.Frame=en g h):Fbo r=some (aPz r g):=by
 have w:r.States.l.length<=9223372036854775807:=by rw [r.States.h];decide
 unfold Fbo;have C:decide (4194304<=r.Number)=decide (4194303<r.Number):=decide_eq_decide.2 (by omega);simp only [zA,zD,yC,xC,C];show gI (dC r.Number 0 4194303) _ _=_
 cases hv:dC r.Number 0 4194303 with
 |true=>unfold aPz;rw [hv];rfl
 |false=>
  rw [zL,<-aMw r g hv];unfold Fhs;have D:=r.States.h;refine(mV (λ(i:Nat) (c:Int×Int×Int×Int)=>(c.1,c.2.1,c.2.2.1,c.2.2.2,(i:Int))) r.States.l (goF (stF r.Frame.l) aFk)
   (λc=>some (if (r.Sound&&((!decide (nO g)||decide ((aHv g).1≠r.Number))||decide (0<IntKind.i64.wrap (c.2.2.2+c.2.1))))=true then 2 else if (!r.Sound&&decide (0<IntKind.i64.wrap (c.1+c.2.2.1)))=true then 2 else if (decide (r.Copies<0)||((decide (r.Copies=0)&&r.Sound)&&decide (c.1=64)))=true then 9 else if (r.Conflict&&r.Sound)=true then 2 else 0)) w (λk i c s f=>?_) (λk c=>?_) (0,0,0,0)).trans ?_
  ·have z:=(gS.1 f).1;have hi:i<64:=by rw [<-r.States.h];exact z
   have t:decide ((i:Int)<64)=true:=dT (by omega);simp only [zD,yC,t,zO,yK f,zA,fH z w,fr_at r hi,dM,xC];show gI (dC s 0 3) _ _=_;unfold goF stF
   cases dC s 0 3 with
   |true=>rfl
   |false=>
    rw [zL,if_neg (by decide)]
    cases((decide (s=0)&&decide (r.Frame.l.getD i 0≠0))||decide (4095<r.Frame.l.getD i 0))with
    |true=>rfl
    |false=>
     rw [zL,if_neg (by decide)];show _=k ((aFk c s).1,(aFk c s).2.1,(aFk c s).2.2.1,(aFk c s).2.2.2,_);unfold aFk
     by_cases b:s=3
     ·rw [dT b,zO,if_pos b]
     ·rw [qD b,zL,if_neg b]
      by_cases m:s=2
      ·rw [dT m,zO,if_pos m]
      ·rw [qD m,zL,if_neg m]
       by_cases o:s=1
       ·rw [dT o,zO,if_pos o]
       ·rw [qD o,zL,if_neg o]
  ·have t:decide (((r.States.l.length:Nat):Int)<64)=false:=qD (by rw [r.States.h];omega);simp only [zD,t,zL,Fip,B,aSs u,rSound_eq u,zA,dM,xC,Bool.or_assoc]
   cases(r.Sound&&(!decide (nO g)||(decide ((aHv g).1≠r.Number)||decide (0<IntKind.i64.wrap (c.2.2.2+c.2.1)))))with
   |true=>rfl
   |false=>
    rw [zL,if_neg (by decide)]
    cases(!r.Sound&&decide (0<IntKind.i64.wrap (c.1+c.2.2.1)))with
    |true=>rfl
    |false=>
     rw [zL,if_neg (by decide)]
     cases(decide (r.Copies<0)||((decide (r.Copies=0)&&r.Sound)&&decide (c.1=64)))with
     |true=>rfl
     |false=>
      rw [zL,if_neg (by decide)]
      cases(r.Conflict&&r.Sound)<;>rfl
  ·rw [aBs];rcases bV (stF r.Frame.l) r.States.l 0 with ⟨j,x,_,-,-,b⟩|⟨f,b⟩
   ·rw [b,b]
   rw [b,b];have e: ∀x∈r.States.l,0<=x/\x<=3:=by
    intro x d;obtain⟨j,E,rfl⟩:=List.mem_iff_getElem.1 d;exact aUq (f j _ (gE E))
   have A:=aDk r.States.l 0 0 0 0 (by omega);simp only [Nat.zero_add,Int.natCast_zero]at A;rw [A];have J:=List.countP_le_length (p:=λs:Int=>decide (s=3)) (l:=r.States.l);have c2:=List.countP_le_length (p:=λs:Int=>decide (s=1)) (l:=r.States.l);have c3:=List.countP_le_length (p:=λs:Int=>decide (s=2)) (l:=r.States.l);have c4:=List.countP_le_length (p:=λs:Int=> !(decide (s=3)||decide (s=2)||decide (s=1))) (l:=r.States.l);simp only;rw [wrap_i64 (n:=((r.States.l.countP (λs:Int=> !(decide (s=3)||decide (s=2)||decide (s=1))):Nat):Int)+_) (by omega) (by omega),wrap_i64 (n:=((r.States.l.countP (λs:Int=>decide (s=3)):Nat):Int)+_) (by omega) (by omega)];have F:decide (0<((r.States.l.countP (λs:Int=> !(decide (s=3)||decide (s=2)||decide (s=1))):Nat):Int)+((r.States.l.countP (λs:Int=>decide (s=1)):Nat):Int))=r.States.l.any λy=>decide (y=0)||decide (y=1):=by
    have a:decide (0<((r.States.l.countP (λs:Int=> !(decide (s=3)||decide (s=2)||decide (s=1))):Nat):Int)+((r.States.l.countP (λs:Int=>decide (s=1)):Nat):Int))=(decide (0<r.States.l.countP (λs:Int=> !(decide (s=3)||decide (s=2)||decide (s=1))))||decide (0<r.States.l.countP (λs:Int=>decide (s=1)))):=by
     rw [Bool.eq_iff_iff,Bool.or_eq_true];simp only [decide_eq_true_eq];omega
    rw [a,vW,vW,aLd];refine aEs λx d=>?_
    have:=e x d;rw [Bool.eq_iff_iff];simp only [Bool.or_eq_true,Bool.not_eq_true',Bool.or_eq_false_iff,decide_eq_true_eq,decide_eq_false_iff_not];omega
   have G:decide (0<((r.States.l.countP (λs:Int=>decide (s=3)):Nat):Int)+((r.States.l.countP (λs:Int=>decide (s=2)):Nat):Int))=r.States.l.any λy=>decide (y=3)||decide (y=2):=by
    have a:decide (0<((r.States.l.countP (λs:Int=>decide (s=3)):Nat):Int)+((r.States.l.countP (λs:Int=>decide (s=2)):Nat):Int))=(decide (0<r.States.l.countP (λs:Int=>decide (s=3)))||decide (0<r.States.l.countP (λs:Int=>decide (s=2)))):=by
     rw [Bool.eq_iff_iff,Bool.or_eq_true];simp only [decide_eq_true_eq];omega
    rw [a,vW,vW,aLd]
   have H:decide (((r.States.l.countP (λs:Int=>decide (s=3)):Nat):Int)=64)= !(r.States.l.any λy=>decide (y≠3)):=by
    have a:decide (((r.States.l.countP (λs:Int=>decide (s=3)):Nat):Int)=64)=decide (r.States.l.countP (λs:Int=>decide (s=3))=r.States.l.length):=decide_eq_decide.2 (by omega);rw [a,Bool.eq_iff_iff,decide_eq_true_eq,List.countP_eq_length,Bool.not_eq_true',List.any_eq_false];constructor
    ·intro q x d;have:=q x d;simpa using this
    ·intro q x d;have:=q x d;simpa using this
   rw [F,G,H];unfold aOh sndM;have I:(!decide (nO g)||decide ((aHv g).1≠r.Number))= !(decide (nO g)&&decide ((aHv g).1=r.Number)):=by
    rw [Bool.not_and,decide_not]
   rw [I]
def sW (x:Line):Bool:=((((dC x.From (-1099511627776) 1099511627776||dC x.To (-1099511627776) 1099511627776)||decide (x.To<x.From))||dC x.A (-1048576) 1048576)||dC x.B (-1125899906842624) 1125899906842624)
def aBf (l:List Line):Nat->Line->Option (Option Int):=λi x=>if sW x=true then some (some 9)else if (decide (0<i)&&decide (x.From<=((l[i-1]?).getD x).To))=true then some (some 10)else none
def aAf (x:Line)(n:Int):Int:=IntKind.i64.wrap (IntKind.i64.wrap (x.A*n)+x.B)
def endBad (x:Line):Bool:=dC (aAf x x.From) (-1125899906842624) 1125899906842624||dC (aAf x x.To) (-1125899906842624) 1125899906842624
def pF (c:gZ):Bool:=(dC c.Low (-1125899906842624) 1125899906842624||dC c.High (-1125899906842624) 1125899906842624)||decide (c.High<c.Low)
def calR (c:gZ):Option Int:=if c.Lines.any endBad=true then some 9 else if pF c=true then some 9 else some 0
def aMt (c:gZ):Option Int:=if dC c.Den 1 1000000=true then some 9 else if c.Lines.length=0 then some 13 else if 50<c.Lines.length then some 3 else eU (aBf c.Lines) (calR c) c.Lines 0
theorem aFu {a:Type}{l:List a}{i:Nat}{x:a}(h:l[i]? =some x)(b:l.length<=9223372036854775807)(c:0<i):at' l (IntKind.i64.wrap ((i:Int)-1))=some ((l[i-1]?).getD x):=by
 have d:=(gS.1 h).1;rw [wrap_i64 (by omega) (by omega),show(i:Int)-1=((i-1:Nat):Int)by omega,vU,gE (by omega:i-1<l.length)];rfl
theorem cal_s (c:gZ) (a:c.Lines.length<=9223372036854775807):Fa7 c=aMt c:=by
 unfold Fa7 aMt;simp only [swi,zA,zD,yC,nwi,xC];show gI (dC c.Den 1 1000000) _ _=_
 cases dC c.Den 1 1000000 with
 |true=>rfl
 |false=>
  rw [zL,if_neg (by decide),yN]
  by_cases e:c.Lines.length=0
  ·rw [if_pos e,if_pos (by omega)]
  rw [if_neg e,if_neg (by omega),yN]
  by_cases f:50<c.Lines.length
  ·rw [if_pos f,if_pos (by omega)]
  rw [if_neg f,if_neg (by omega)];unfold Ff5;refine xG c.Lines (aBf c.Lines) _ a (λk i x d b=>?_) (λk=>?_)
  ·simp only [zD,yB b,zO,yK d,zA,fH b a,swi,nwi,xC];show gI (sW x) _ _=_;unfold aBf
   cases sW x with
   |true=>rfl
   |false=>
    rw [zL,if_neg (by decide)]
    by_cases c0:0<i
    ·rw [dT (show(0:Int)<(i:Int)by omega),dT c0,zO,aFu d a c0,zA,zA,Bool.true_and]
     cases decide (x.From<=((c.Lines[i-1]?).getD x).To)<;>rfl
    ·rw [qD (show¬(0:Int)<(i:Int)by omega),qD c0];rfl
  ·simp only [zD,yE,zL];unfold Fgu;rw [jJ c.Lines endBad (some 9) (if pF c=true then some 9 else some 0) a]
   ·unfold calR
    cases c.Lines.any endBad<;>rfl
   ·intro k i x d b;simp only [zD,yB b,zO,yK d,zA,fH b a,swi,nwi,xC,Fax];rfl
   ·intro k;simp only [zD,yE,zL];show gI (pF c) _ _=_
    cases pF c<;>rfl
theorem cal_5 (c:gZ) (a:c.Lines.length<=9223372036854775807):Fcj c=aMt c:=by
 unfold Fcj aMt;simp only [aQm,zA,zD,yC,xC];show gI (dC c.Den 1 1000000) _ _=_
 cases dC c.Den 1 1000000 with
 |true=>rfl
 |false=>
  rw [zL,if_neg (by decide),yN]
  by_cases e:c.Lines.length=0
  ·rw [if_pos e,if_pos (by omega)]
  rw [if_neg e,if_neg (by omega),yN]
  by_cases f:50<c.Lines.length
  ·rw [if_pos f,if_pos (by omega)]
  rw [if_neg f,if_neg (by omega)];unfold Fg5;refine xG c.Lines (aBf c.Lines) _ a (λk i x d b=>?_) (λk=>?_)
  ·simp only [zD,yB b,zO,yK d,zA,fH b a,aQm,xC];show gI (sW x) _ _=_;unfold aBf
   cases sW x with
   |true=>rfl
   |false=>
    rw [zL,if_neg (by decide)]
    by_cases c0:0<i
    ·rw [dT (show(0:Int)<(i:Int)by omega),dT c0,zO,aFu d a c0,zA,zA,Bool.true_and]
     cases decide (x.From<=((c.Lines[i-1]?).getD x).To)<;>rfl
    ·rw [qD (show¬(0:Int)<(i:Int)by omega),qD c0];rfl
  ·simp only [zD,yE,zL];unfold Fh9;rw [jJ c.Lines endBad (some 9) (if pF c=true then some 9 else some 0) a]
   ·unfold calR
    cases c.Lines.any endBad<;>rfl
   ·intro k i x d b;simp only [zD,yB b,zO,yK d,zA,fH b a,aQm,xC];rfl
   ·intro k;simp only [zD,yE,zL];show gI (pF c) _ _=_
    cases pF c<;>rfl
theorem calR_some (c:gZ): ∃v,calR c=some v:=by
 unfold calR;split;exact⟨_,rfl⟩;split<;>exact⟨_,rfl⟩
theorem calO_some (c:gZ): ∃v,aMt c=some v:=by
 unfold aMt;split
 ·exact⟨_,rfl⟩
 split
 ·exact⟨_,rfl⟩
 split
 ·exact⟨_,rfl⟩
 rcases bV (aBf c.Lines) c.Lines 0 with ⟨_,_,v,d,a,b⟩|⟨d,b⟩
 ·rw [b];unfold aBf at a;split at a
  ·exact⟨9,by cases a;rfl⟩
  ·split at a
   ·exact⟨10,by cases a;rfl⟩
   ·cases a
 ·rw [b];exact calR_some c
def aEp (c:gZ):Int:=(aMt c).getD 0
theorem aGb (c:gZ):aMt c=some (aEp c):=by
 obtain⟨_,a⟩:=calO_some c;unfold aEp;rw [a];rfl
structure aJp (c:gZ):Prop where
 d1:1<=c.Den
 d2:c.Den<=1000000
 n1:c.Lines.length≠0
 n2:c.Lines.length<=50
 lb: ∀x∈c.Lines,sW x=false
 eb: ∀x∈c.Lines,endBad x=false
 ord: ∀(j:Nat) (x y:Line),c.Lines[j]? =some y->c.Lines[j+1]? =some x->y.To<x.From
 rg:pF c=false
theorem cal_ok {c:gZ} (h:aEp c=0):aJp c:=by
 have a:=aGb c;rw [h]at a;unfold aMt at a;split at a
 ·cases a
 rename_i hd;split at a
 ·cases a
 split at a
 ·cases a
 rename_i k _;have hd:=tZ.1 (by simpa using hd:dC c.Den 1 1000000=false);rcases bV (aBf c.Lines) c.Lines 0 with ⟨j,x,_,g,b,e⟩|⟨g,e⟩
 ·rw [e]at a;subst a;unfold aBf at b;split at b
  ·cases b
  ·split at b<;>cases b
 ·rw [e]at a;unfold calR at a;split at a
  ·cases a
  rename_i l;split at a
  ·cases a
  rename_i m;have i: ∀(j:Nat) (x:Line),c.Lines[j]? =some x->sW x=false/\(decide (0<j)&&decide (x.From<=((c.Lines[j-1]?).getD x).To))=false:=by
   intro j x f;have:=g j x f;rw [Nat.zero_add]at this;unfold aBf at this;split at this
   ·cases this
   ·split at this
    ·cases this
    ·rename_i n o;exact⟨by simpa using n,by simpa using o⟩
  refine⟨hd.1,hd.2,k,by omega,?_,?_,?_,by simpa using m⟩
  ·intro x d;obtain⟨j,f,rfl⟩:=List.mem_iff_getElem.1 d;exact(i j _ (gE f)).1
  ·intro x d
   cases hb:endBad x with
   |false=>rfl
   |true=>exact absurd (List.any_eq_true.2 ⟨x,d,hb⟩) l
  ·intro j x _ p d;have:=(i (j+1) x d).2;rw [show j+1-1=j by omega,p]at this;simp at this;omega
structure SzS (x:fG):Prop where
 tr:okS x.Track
 ml:x.Meaning.length<=9223372036854775807
 ms: ∀c∈x.Meaning,c.Lines.length<=9223372036854775807
structure SzB (b:Book):Prop where
 mp:SzM b.Map
 sl:b.Sources.length<=9223372036854775807
 ss: ∀x∈b.Sources,SzS x
 rl:b.Rests.length<=9223372036854775807
 rs: ∀r∈b.Rests,SzR r
def rsM (r:gU):Int:=aPz r (r.Frame.l.map Int.toNat)
theorem aRy {g:List Nat}{h:g.length=64}:(en g h).l.map Int.toNat=g:=by
 unfold en;simp only [List.map_map];have:(Int.toNat∘λn:Nat=>(n:Int))=id:=by funext n;simp
 rw [this,List.map_id]
theorem aVv {r:gU}(h:SzR r):Fat r=some (rsM r):=by
 obtain⟨g,b,c,a⟩:=h;rw [rest_l r g b c a];unfold rsM;rw [a,aRy]
theorem crest_4 {r:gU}(h:SzR r):Fbo r=some (rsM r):=by
 obtain⟨g,b,c,a⟩:=h;rw [rest_4 r g b c a];unfold rsM;rw [a,aRy]
def rP {a:Type}(l:List a):List (a×a):=l.zip l.tail
theorem pairs_at {a:Type}{l:List a}{i:Nat}{p:a×a}(h:(rP l)[i]? =some p):l[i]? =some p.1/\l[i+1]? =some p.2:=by
 unfold rP at h;rw [List.getElem?_zip_eq_some,List.getElem?_tail]at h;exact h
theorem pairs_len {a:Type}(l:List a):(rP l).length=l.length-1:=by
 unfold rP;rw [List.length_zip,List.length_tail];omega
theorem aDy {a b:Type}{body:(Int->Option b)->Int->Option b} (l:List a) (q:a×a->Bool) (r fin:Option b) (p:l.length<=9223372036854775807)
  (h: ∀k (i:Nat) x y,l[i]? =some x->l[i+1]? =some y->i+1<l.length->body k ((i+1:Nat):Int)=gI (q (x,y)) r (k ((i+1+1:Nat):Int))) (f: ∀k (n:Nat),l.length<=n->body k (n:Int)=fin):gY body 1=gI ((rP l).any q) r fin:=by
 have c:=pairs_len l;have e:gY body 1=aO (λ_ x _=>if q x=true then .inr r else .inl ()) (λ_=>fin) (rP l) 0 ():=by
  refine mV (λ(i:Nat) (_:Unit)=>((i+1:Nat):Int)) (rP l) _ _ (by omega) (λk i s x g=>?_) (λk s=>?_) ()
  ·obtain⟨j,d⟩:=pairs_at g;have m:=(gS.1 d).1;rw [h k i x.1 x.2 j d m]
   cases q x<;>rfl
  ·exact f k _ (by omega)
 rw [e];have: ∀(l:List (a×a)) (i:Nat),aO (λ_ x _=>if q x=true then .inr r else .inl ()) (λ_:Unit=>fin) l i ()=gI (l.any q) r fin:=by
  intro l
  induction l with
  |nil=>intro i;rfl
  |cons x l o=>
   intro i;rw [aO,List.any_cons]
   cases q x with
   |true=>rfl
   |false=>exact o (i+1)
 exact this _ 0
def aLt (l:List gU):Bool:=(rP l).any λp=>decide (p.2.Number<=p.1.Number)
def rsF:Nat->gU->Option (Option Int):=λ_ x=>if rsM x=0 then none else some (some (rsM x))
def aDx (l:List gU):Option Int:=if 5000<l.length then some 3 else eU rsF (if aLt l=true then some 10 else some 0) l 0
theorem aSy {i:Nat}(h:i<=9223372036854775806):IntKind.i64.wrap (((i+1:Nat):Int)-1)=(i:Int):=by rw [wrap_i64 (by omega) (by omega)];omega
theorem fault_l (l:List gU) (a:l.length<=9223372036854775807) (g: ∀r∈l,SzR r):Fah l=aDx l:=by
 unfold Fah aDx
 repeat (first |rw [zD]|rw [yC]|rw [zA])
 rw [yN]
 by_cases c:5000<l.length
 ·rw [if_pos c,if_pos (by omega)]
 rw [if_neg c,if_neg (by omega)];unfold Fh3;refine xG l rsF _ a (λk i x b d=>?_) (λk=>?_)
 ·have h:=g x (qS b);simp only [zD,yB d,zO,yK b,zA,fH d a,aVv h];rw [yN];unfold rsF
  by_cases e:rsM x=0
  ·rw [if_neg (by simpa using e),if_pos e]
  ·rw [if_pos e,if_neg e]
 ·simp only [zD,yE,zL];unfold Fg4;rw [aDy l (λp=>decide (p.2.Number<=p.1.Number)) (some 10) (some 0) a]
  ·unfold aLt
   cases(rP l).any λp=>decide (p.2.Number<=p.1.Number)<;>rfl
  ·intro k i x _ b d f;simp only [zD,yB f,zO,yK d,zA,aSy (show i<=9223372036854775806 by omega),yK b,fH f a]
  ·intro k _ _;simp only [zD];rw [qD (by omega),zL]
theorem fault_5 (l:List gU) (a:l.length<=9223372036854775807) (g: ∀r∈l,SzR r):Fft l=aDx l:=by
 unfold Fft aDx
 repeat (first |rw [zD]|rw [yC]|rw [zA])
 rw [yN]
 by_cases c:5000<l.length
 ·rw [if_pos c,if_pos (by omega)]
 rw [if_neg c,if_neg (by omega)];unfold Fgt;refine xG l rsF _ a (λk i x b d=>?_) (λk=>?_)
 ·have h:=g x (qS b);simp only [zD,yB d,zO,yK b,zA,fH d a,crest_4 h];rw [yN];unfold rsF
  by_cases e:rsM x=0
  ·rw [if_neg (by simpa using e),if_pos e]
  ·rw [if_pos e,if_neg e]
 ·simp only [zD,yE,zL];unfold Fhc;rw [aDy l (λp=>decide (p.2.Number<=p.1.Number)) (some 10) (some 0) a]
  ·unfold aLt
   cases(rP l).any λp=>decide (p.2.Number<=p.1.Number)<;>rfl
  ·intro k i x _ b d f;simp only [zD,yB f,zO,yK d,zA,aSy (show i<=9223372036854775806 by omega),yK b,fH f a]
  ·intro k _ _;simp only [zD];rw [qD (by omega),zL]
structure aTt (l:List gU):Prop where
 n:l.length<=5000
 all: ∀r∈l,rsM r=0
 ord:aLt l=false
theorem aHn {g:Type} (p:g->Bool): ∀(l:List g) (i:Nat),(aIz p l i= -1/\ ∀x∈l,p x=false)\/ ∃j x,aIz p l i=((i+j:Nat):Int)/\l[j]? =some x/\p x=true/\ ∀a c,a<j->l[a]? =some c->p c=false
 | [],i=> .inl ⟨rfl,λx h=>by cases h⟩
 |x::l,i=>by
  rw [aIz]
  by_cases h:p x=true
  ·rw [if_pos h];exact .inr ⟨0,x,rfl,rfl,h,λa c h=>by omega⟩
  ·rw [if_neg h];rcases aHn p l (i+1)with ⟨d,e⟩|⟨j,y,d,e,k,m⟩
   ·refine .inl ⟨d,λy f=>?_⟩;rcases List.mem_cons.1 f with rfl|f
    ·simpa using h
    ·exact e y f
   ·refine .inr ⟨j+1,y,by rw [d];congr 1;omega,by simpa using e,k,λa c n b=>?_⟩
    cases a with
    |zero=>simp at b;subst b;simpa using h
    |succ a=>exact m a c (by omega) (by simpa using b)
def nN (b:Map)(s:Str):Int:=aIz (λy:Param=>decide (y.Name=s)) b.Params 0
theorem par_idx (b:Map)(a:b.Params.length<=9223372036854775807)(x:fG):Fbp b.Params x=some (nN b x.Param):=by
 unfold Fbp Fiv
 repeat (first |rw [zD]|rw [yC]|rw [zA])
 exact jT b.Params (λy=>decide (y.Name=x.Param)) a (λk _ y d c=>by simp only [zD,yB c,zO,yK d,zA,fH c a,Fd5]) (λk=>by simp only [zD,yE,zL])
theorem par_idxR (b:Map)(a:b.Params.length<=9223372036854775807)(s:Str):Fcl b.Params s=some (nN b s):=by
 unfold Fcl Fg9
 repeat (first |rw [zD]|rw [yC]|rw [zA])
 exact jT b.Params (λy=>decide (y.Name=s)) a (λk _ y d c=>by simp only [zD,yB c,zO,yK d,zA,fH c a,Fe1]) (λk=>by simp only [zD,yE,zL])
theorem par_5 (b:Map)(a:b.Params.length<=9223372036854775807)(s:Str):Fbi b s=some (nN b s):=by
 unfold Fbi Fhk
 repeat (first |rw [zD]|rw [yC]|rw [zA])
 exact jT b.Params (λy=>decide (y.Name=s)) a (λk _ y d c=>by simp only [zD,yB c,zO,yK d,zA,fH c a]) (λk=>by simp only [zD,yE,zL])
theorem contT_eq (l:List fG)(c:fG)(a:l.length<=9223372036854775807):Fc2 l c=some (l.any λy=>decide (y.Track=c.Track)):=by
 unfold Fc2 Fdd Fgr
 repeat (first |rw [zD]|rw [yC]|rw [zA])
 rw [jT l (λy=>decide (y.Track=c.Track)) a (λk _ _ d b=>by simp only [zD,yB b,zO,yK d,zA,fH b a,Fdg]) (λk=>by simp only [zD,yE,zL]),zA,zD,qK]
def aIh (x:fG):Int:=match x.Meaning with
 | [c]=>aEp c
 |_=>0
def aEc (b:Book)(i:Nat)(x:fG):Int:=
 if aEf x.Track=false then 8 else if (b.Sources.take i).any (λy=>decide (y.Track=x.Track))=true then 5 else if nN b.Map x.Param<0 then 4
 else if 1<x.Meaning.length then 2 else if aIh x≠0 then aIh x else if dC x.Long 0 1099511627776=true then 9 else 0
theorem parOf (b:Book) (d:b.Map.Params.length<=9223372036854775807) (x:fG): ∃p,Fbd b x=some (p,decide (0<=nN b.Map x.Param))/\(0<=nN b.Map x.Param->b.Map.Params[(nN b.Map x.Param).toNat]? =some p):=by
 unfold Fbd;rw [par_idx b.Map d x,zA,zD,yN];rcases aHn (λy:Param=>decide (y.Name=x.Param)) b.Map.Params 0 with ⟨a,c⟩|⟨j,y,a,c,_,_⟩
 ·have a:nN b.Map x.Param= -1:=a;rw [a,if_pos (by decide)];exact⟨_,rfl,λh=>absurd h (by decide)⟩
 ·rw [Nat.zero_add]at a;have a:nN b.Map x.Param=(j:Int):=a;rw [a,if_neg (by omega),yK c,zA];refine⟨y,?_,λ_=>by rw [Int.toNat_natCast];exact c⟩;rw [dT (by omega:(0:Int)<=(j:Int))]
theorem src_l {b:Book} (g:SzB b) {i:Nat}{x:fG} (hi:b.Sources[i]? =some x):Fcd b (i:Int)=some (aEc b i x):=by
 have n:=(gS.1 hi).1;have f:=g.ss x (qS hi);obtain⟨_,m,-⟩:=parOf b g.mp.pl x;unfold Fcd aEc;simp only [yK hi,zA,m,IsName_eq x.Track f.tr,zD,yC,fwi,nwi,aAk b.Sources (by omega:i<=b.Sources.length)];rw [contT_eq _ _ (by rw [List.length_take];have:=g.sl;omega),zA]
 cases aEf x.Track with
 |false=>rfl
 |true=>
  simp only [Bool.not_true,zL,Bool.true_eq_false,if_false]
  cases((b.Sources.take i).any λy=>decide (y.Track=x.Track))with
  |true=>rfl
  |false=>
   simp only [zL,Bool.false_eq_true,if_false]
   by_cases c4:nN b.Map x.Param<0
   ·rw [if_pos c4,qD (by omega: ¬0<=nN b.Map x.Param)];rfl
   rw [if_neg c4,dT (by omega:0<=nN b.Map x.Param)];simp only [Bool.not_true,zL,yN]
   by_cases c2:1<x.Meaning.length
   ·rw [if_pos c2,if_pos (by omega)]
   rw [if_neg c2,if_neg (by omega)];unfold Fho;have a:gI (decide (x.Long<0)||decide (1099511627776<x.Long)) (some (9:Int)) (some 0)=some (if dC x.Long 0 1099511627776=true then 9 else 0):=by
    show gI (dC x.Long 0 1099511627776) _ _=_
    cases dC x.Long 0 1099511627776<;>rfl
   rw [a];rw [xG x.Meaning (λ_ c=>if aEp c=0 then none else some (some (aEp c))) (some (if dC x.Long 0 1099511627776=true then 9 else 0)) f.ml]
   ·have hm:eU (λ_ c=>if aEp c=0 then none else some (some (aEp c))) (some (if dC x.Long 0 1099511627776=true then 9 else 0)) x.Meaning 0=some (if aIh x≠0 then aIh x else if dC x.Long 0 1099511627776=true then 9 else 0):=by
     unfold aIh;rcases hm:x.Meaning with _|⟨c,_|⟨_,_⟩⟩
     ·rfl
     ·rw [eU]
      by_cases e:aEp c=0
      ·simp only [e,ne_eq,not_true,if_false,if_true];rfl
      ·simp only [e,ne_eq,not_false_eq_true,if_true,if_false]
     ·rw [hm]at c2;simp at c2
    exact hm
   ·intro k i c h j;simp only [zD,yB j,zO,yK h,zA,fH j f.ml,cal_s c (f.ms c (qS h)),aGb];rw [yN]
    by_cases e:aEp c=0
    ·rw [if_neg (by simpa using e),if_pos e]
    ·rw [if_pos e,if_neg e]
   ·intro k;simp only [zD,yE,zL]
theorem sF (b:Nat):(2:Int)^b=((2^b:Nat):Int):=by exact_mod_cast rfl
theorem aAv {b c:Nat}(h:b<=c):(2:Nat)^b<=2^c:=Nat.pow_le_pow_right (by decide) h
theorem aFx {a b:Nat}(c:b<=64)(h:a*2^b<4611686018427387904):kU .i64 (a:Int) (b:Int)=some ((a*2^b:Nat):Int):=by
 unfold kU;have e:(IntKind.i64.bits:Int)=64:=rfl;rw [if_pos ⟨by omega,by rw [e];omega⟩,Int.toNat_natCast,sF,<-Int.natCast_mul,Go.OB.wrap_i64 (by omega) (by omega)]
theorem aDb {a b:Nat}(c:b<=62)(h:a<4611686018427387904):bits .and .i64 (a:Int) (((2^b:Nat):Int)-1)=((a%2^b:Nat):Int):=by
 rw [aDa (m:=((2^b:Nat):Int)) b c (sF b) (by omega) (by omega) (by omega)]
 exact_mod_cast rfl
theorem aOl {a b c:Nat}(f:a*2^b<4611686018427387904)(g:c<2^b)(d:b<=60):bits .or .i64 ((a*2^b:Nat):Int) (c:Int)=((a*2^b+c:Nat):Int):=by
 have e:(2:Nat)^b<=2^60:=aAv d;rw [aIc (m:=((2^b:Nat):Int)) b (sF b) (by omega) (by omega) (by rw [Int.natCast_mul];exact Int.mul_emod_left _ _) (by omega) (by omega) (by omega)];omega
theorem part_bits {w a b:Nat}(h:a+b<=11):w%2048/2^a%2^b=w/2^a%2^b:=by
 have e:(2048:Nat)=2^a*2^(11-a):=by rw [<-Nat.pow_add,show a+(11-a)=11 by omega]
 rw [e,Nat.mod_mul_right_div_self];exact Nat.mod_mod_of_dvd _ ⟨2^(11-a-b),by rw [<-Nat.pow_add,show b+(11-a-b)=11-a by omega]⟩
def nib (r i:Nat):Nat:=r/2^(4*i)%16
def kD (r m:Nat):Nat->Nat×Bool
 |0=>(0,true)
 |i+1=>((kD r m i).1*10+nib r (m-1-i),(kD r m i).2&&decide (nib r (m-1-i)<10))
theorem aRu (r i:Nat):nib r i<16:=Nat.mod_lt _ (by decide)
theorem aVr (r m:Nat): ∀i,9*(kD r m i).1+15<=15*10^i
 |0=>by show 9*0+15<=15*10^0;decide
 |i+1=>by
  have:=aVr r m i;have a:=aRu r (m-1-i);show 9*((kD r m i).1*10+nib r (m-1-i))+15<=_;rw [Nat.pow_succ];omega
theorem aLp (r m i:Nat):(kD r m i).1<2*10^i:=by have:=aVr r m i;omega
theorem aGx {r m:Nat}(hm:m<=16)(a:r<2^(4*m)): ∀i,kD r 16 (16-m+i)=kD r m i
 |0=>by
  have: ∀j,j<=16-m->kD r 16 j=(0,true):=by
   intro j
   induction j with
   |zero=>intro _;rfl
   |succ j b=>
    intro _;rw [kD,b (by omega)];have:nib r (16-1-j)=0:=by
     unfold nib;rw [Nat.div_eq_of_lt];exact Nat.lt_of_lt_of_le a (aAv (by omega))
    rw [this];rfl
  exact this (16-m) (Nat.le_refl _)
 |i+1=>by
  rw [show 16-m+(i+1)=(16-m+i)+1 by omega,kD,kD,aGx hm a i]
  by_cases c:i<m
  ·rw [show 16-1-(16-m+i)=m-1-i by omega]
  ·rw [show 16-1-(16-m+i)=0 by omega,show m-1-i=0 by omega]
theorem aOr {i:Nat}(h:i<=16):2*10^i<=20000000000000000:=by
 have:(10:Nat)^i<=10^16:=Nat.pow_le_pow_right (by decide) h;omega
theorem decimal_l (r:Nat) (g:r<4611686018427387904):Fbg (r:Int)=some (((kD r 16 16).1:Int),(kD r 16 16).2):=by
 unfold Fbg Fg0;rw [yP (r:=some (((kD r 16 16).1:Int),(kD r 16 16).2)) (λi=>(((kD r 16 i).1:Int),(kD r 16 i).2,60-4*(i:Int))) 16 (by decide)]
 ·rfl
 ·rfl
 ·intro k i _;have h:=aLp r 16 i;have j:=aOr (show i<=16 by omega);have l:=aRu r (15-i);have a:bits .and .i64 ((r/2^(4*(15-i)):Nat):Int) 15=((nib r (15-i):Nat):Int):=by
   have:r/2^(4*(15-i))<=r:=Nat.div_le_self _ _;exact aDb (b:=4) (by decide) (by omega)
  simp only [zD];rw [dT (by omega:(0:Int)<=60-4*(i:Int)),zO,show(60:Int)-4*(i:Int)=((4*(15-i):Nat):Int)by omega,wK (by show 4*(15-i)<=64;omega),zA,a,
   Go.OB.wrap_i64 (n:=((kD r 16 i).1:Int)*10) (by omega) (by omega),Go.OB.wrap_i64 (n:=((kD r 16 i).1:Int)*10+_) (by omega) (by omega),Go.OB.wrap_i64 (n:=((4*(15-i):Nat):Int)-4) (by omega) (by omega)]
  have c:decide (((nib r (15-i):Nat):Int)<10)=decide (nib r (15-i)<10):=decide_eq_decide.2 (by omega);have d:kD r 16 (i+1)=((kD r 16 i).1*10+nib r (15-i),(kD r 16 i).2&&decide (nib r (15-i)<10)):=rfl;have e:((4*(15-i):Nat):Int)-4=60-4*((i+1:Nat):Int):=by omega
  have f:((kD r 16 i).1:Int)*10+((nib r (15-i):Nat):Int)=(((kD r 16 i).1*10+nib r (15-i):Nat):Int):=by omega
  rw [c,d,e,f]
  cases(kD r 16 i).2<;>rfl
 ·intro k;rfl
theorem decimal_2 (r m:Nat) (hm:m<=16) (y:r<4611686018427387904) (k:Int->Option (Int×Bool)):Fd7 (r:Int) k (0,4*(m:Int)-4)=if (kD r m m).2=true then k ((kD r m m).1:Int)else some (0,false):=by
 unfold Fd7;have f: ∀B:(Int×Int->Option (Int×Bool))->Int×Int->Option (Int×Bool),(∀g (v s:Int),B g (v,s)=gI (decide (0<=s)) (gB (aAg .i64 (r:Int) s) λx=>gI (decide (9<bits .and .i64 x 15)) (some (0,false)) (g (IntKind.i64.wrap (IntKind.i64.wrap (10*v)+bits .and .i64 x 15),IntKind.i64.wrap (s-4)))) (k v))->
   ∀(d i a:Nat),i+d=m->d<a->(kD r m i).2=true->aN B a (((kD r m i).1:Int),4*((m-i:Nat):Int)-4)=if (kD r m m).2=true then k ((kD r m m).1:Int)else some (0,false):=by
  intro B q d
  induction d with
  |zero=>
   intro i a t u l;obtain⟨a,rfl⟩: ∃k,a=k+1:=⟨a-1,by omega⟩;obtain rfl:i=m:=by omega
   rw [aN,q,qD (by omega),zL,if_pos l]
  |succ d o=>
   intro i a t u l;obtain⟨a,rfl⟩: ∃k,a=k+1:=⟨a-1,by omega⟩;have l1:=aLp r m i;have l2:=aOr (show i<=16 by omega);have z:=aRu r (m-1-i);have w:bits .and .i64 ((r/2^(4*(m-1-i)):Nat):Int) 15=((nib r (m-1-i):Nat):Int):=by
    have:r/2^(4*(m-1-i))<=r:=Nat.div_le_self _ _;exact aDb (b:=4) (by decide) (by omega)
   rw [aN,q,dT (by omega),zO,show(4:Int)*((m-i:Nat):Int)-4=((4*(m-1-i):Nat):Int)by omega,wK (by show 4*(m-1-i)<=64;omega),zA,w];have p:kD r m (i+1)=((kD r m i).1*10+nib r (m-1-i),(kD r m i).2&&decide (nib r (m-1-i)<10)):=rfl
   by_cases c:nib r (m-1-i)<10
   ·rw [qD (by omega),zL,Go.OB.wrap_i64 (n:=10*((kD r m i).1:Int)) (by omega) (by omega),Go.OB.wrap_i64 (n:=10*((kD r m i).1:Int)+_) (by omega) (by omega),Go.OB.wrap_i64 (by omega) (by omega)];have:=o (i+1) a (by omega) (by omega) (by rw [p];simp [l,c]);rw [p]at this;rw [<-this]
    congr 2
    ·omega
    ·omega
   ·rw [dT (by omega),zO,if_neg];have: ∀d j,(kD r m j).2=false->(kD r m (j+d)).2=false:=by
     intro d
     induction d with
     |zero=>intro j h;exact h
     |succ d o=>intro j h;rw [Nat.add_succ,kD,o j h];rfl
    have:=this d (i+1) (by rw [p];simp [c]);rw [show i+1+d=m by omega]at this;rw [this];decide
 have e: ∀B:(Int×Int->Option (Int×Bool))->Int×Int->Option (Int×Bool),gY B (0,4*(m:Int)-4)=aN B FU (0,4*(m:Int)-4):=λB=>rfl
 rw [e];exact f _ (λg v s=>rfl) m 0 FU (by omega) (by unfold FU;omega) rfl
theorem aLh {p:Param} (h:SzP p) (t:nV p=0) (r:Nat) (o:(r:Int)<2^(jR p.Parts).toNat): ∃v i,Faw p (r:Int)=some (v,i)/\Fck p (r:Int)=some (v,i,0)/\ -1125899906842624<=v/\v<=1125899906842624:=by
 have q:=qE t;obtain⟨_,_⟩:=tZ.1 q.kd;have y:=aHw q.pt;have z:=q.pt.sum;obtain⟨n,j⟩: ∃n:Nat,jR p.Parts=(n:Int):=⟨(jR p.Parts).toNat,by omega⟩;have A:1<=n:=by omega
 have k:n<=40:=by omega
 rw [j,Int.toNat_natCast,sF]at o;have o:r<2^n:=by omega
 have B:(2:Nat)^n<=2^40:=aAv k;have K:(2:Nat)^n=2*2^(n-1):=by
  have:=Nat.pow_succ' (n:=n-1) (m:=2);rw [show(n-1).succ=n by omega]at this;exact this
 have s:kU .i64 1 (IntKind.i64.wrap ((n:Int)-1))=some ((2^(n-1):Nat):Int):=by
  rw [Go.OB.wrap_i64 (by omega) (by omega),show(n:Int)-1=((n-1:Nat):Int)by omega];have:=aFx (a:=1) (b:=n-1) (by omega) (by omega);rw [Nat.one_mul]at this;exact this
 have u:kU .i64 1 (n:Int)=some ((2^n:Nat):Int):=by
  have:=aFx (a:=1) (b:=n) (by omega) (by omega);rw [Nat.one_mul]at this;exact this
 have d:kcM p.Kind n=false:=by
  have:=q.kf;unfold kfM at this;split at this
  ·cases this
  ·rename_i c;rw [<-j];simpa using c
 have C:Fck p (r:Int)=gB (Feh p (r:Int)) λx=>some (x.1,x.2,0):=by
  unfold Fck;rw [par_2 h,zA,zD,t,show decide ((0:Int)≠0)=false from rfl,zL,aLx p h.pl,zA,j,u,zA,zD,out2,zA,Go.OB.wrap_i64 (by omega) (by omega)];have:(decide ((r:Int)<0)||decide (((2^n:Nat):Int)-1<(r:Int)))=false:=by
   rw [Bool.or_eq_false_iff,decide_eq_false_iff_not,decide_eq_false_iff_not];omega
  rw [this,zL]
 have D:Faw p (r:Int)=gB (decK p n ((2^(n-1):Nat):Int) (r:Int)) λx=>some (if x.2=true then(x.1,true)else(0,false)):=by
  unfold Faw Fe6;rw [aLc p h.pl,zA,j,s,zA]
  cases decK p n ((2^(n-1):Nat):Int) (r:Int)<;>rfl
 rw [C,D];unfold decK Feh;rw [aLx p h.pl,zA,j];simp only [yC,zD,yN];have L:IntKind.i64.wrap ((n:Int)-1)=((n-1:Nat):Int):=by rw [Go.OB.wrap_i64 (by omega) (by omega)];omega
 have w:IntKind.i64.wrap (2*((2^(n-1):Nat):Int))=((2^n:Nat):Int):=by rw [Go.OB.wrap_i64 (by omega) (by omega)];omega
 have f:p.Kind=1\/p.Kind=2\/p.Kind=3\/p.Kind=4\/p.Kind=5\/p.Kind=6:=by omega
 rcases f with f|f|f|f|f|f
 ·rw [f];simp only [Fae,zD];refine⟨(r:Int),true,?_,rfl,by omega,by omega⟩;show gB (some ((r:Int),decide ((r:Int)<=_))) _=_;rw [w,Go.OB.wrap_i64 (by omega) (by omega),dT (by omega:(r:Int)<=((2^n:Nat):Int)-1)];rfl
 ·rw [f];simp only [Fbt,zD];show ∃v i,gB (gB (gI (decide (((2^(n-1):Nat):Int)<=(r:Int))) (some (IntKind.i64.wrap ((r:Int)-IntKind.i64.wrap (2*((2^(n-1):Nat):Int))))) (some (r:Int))) _) _=_/\gB (gB (kU .i64 1 (IntKind.i64.wrap ((n:Int)-1))) _) _=_/\_;rw [s,zA,w]
  by_cases c:2^(n-1)<=r
  ·rw [dT (by omega:((2^(n-1):Nat):Int)<=(r:Int)),zO,zA];have g:IntKind.i64.wrap ((r:Int)-((2^n:Nat):Int))=(r:Int)-((2^n:Nat):Int):=Go.OB.wrap_i64 (by omega) (by omega);refine⟨_,true,rfl,?_,by rw [g];omega,by rw [g];omega⟩;rw [if_pos (by omega),u];rfl
  ·rw [qD (by omega: ¬((2^(n-1):Nat):Int)<=(r:Int)),zL,zA];refine⟨_,true,rfl,?_,by omega,by omega⟩;rw [if_neg (by omega)];rfl
 ·rw [f];simp only [Fb9,zD];show ∃v i,gB (gI (decide (((2^(n-1):Nat):Int)<=(r:Int))) (some (IntKind.i64.wrap (((2^(n-1):Nat):Int)-(r:Int)),decide (((2^(n-1):Nat):Int)<(r:Int)))) (some ((r:Int),true))) _=_/\gB (gB (kU .i64 1 (IntKind.i64.wrap ((n:Int)-1))) _) _=_/\_;rw [s,zA]
  by_cases c:2^(n-1)<=r
  ·rw [dT (by omega:((2^(n-1):Nat):Int)<=(r:Int)),zO,zA]
   by_cases c2:r=2^(n-1)
   ·refine⟨0,false,?_,?_,by omega,by omega⟩
    ·rw [qD (by omega: ¬((2^(n-1):Nat):Int)<(r:Int))];rfl
    ·rw [if_pos (by omega)];rfl
   ·have g:IntKind.i64.wrap (((2^(n-1):Nat):Int)-(r:Int))=((2^(n-1):Nat):Int)-(r:Int):=Go.OB.wrap_i64 (by omega) (by omega);refine⟨IntKind.i64.wrap (((2^(n-1):Nat):Int)-(r:Int)),true,?_,?_,by rw [g];omega,by rw [g];omega⟩
    ·rw [dT (by omega:((2^(n-1):Nat):Int)<(r:Int))];rfl
    ·rw [if_neg (by omega),zA,if_pos (by omega),zA];rfl
  ·rw [qD (by omega: ¬((2^(n-1):Nat):Int)<=(r:Int)),zL,zA];refine⟨_,true,rfl,?_,by omega,by omega⟩;rw [if_neg (by omega),zA,if_neg (by omega)];rfl
 ·rw [f]at d⊢;have M:n%4=0:=by
   unfold kcM at d;simp only [decide_true,Bool.true_and,Bool.or_eq_false_iff,decide_eq_false_iff_not]at d;have:=d.1.1;have e:((n:Int)).tmod 4=((n%4:Nat):Int):=by rw [Int.tmod_eq_emod_of_nonneg (by omega)];simp
   rw [e]at this;omega
  obtain⟨m,hm⟩: ∃m,n=4*m:=⟨n/4,by omega⟩;have hd:=decimal_l r (by omega);have l:=aGx (r:=r) (m:=m) (by omega) (by rw [<-hm];exact o) m;rw [show 16-m+m=16 by omega]at l;have E:IntKind.i64.wrap ((n:Int)-4)=4*(m:Int)-4:=by rw [Go.OB.wrap_i64 (by omega) (by omega)];omega
  simp only [Int.reduceEq,reduceIte];rw [hd,zA,E,decimal_2 r m (by omega) (by omega),l];have F:=aLp r m m;have G:(10:Nat)^m<=10^10:=Nat.pow_le_pow_right (by decide) (by omega)
  cases hb:(kD r m m).2 with
  |true=>exact⟨_,true,rfl,rfl,by omega,by omega⟩
  |false=>exact⟨0,false,rfl,rfl,by omega,by omega⟩
 ·rw [f]at d⊢;have H:n=1:=by
   unfold kcM at d;simp only [decide_true,Bool.true_and,Bool.or_eq_false_iff,decide_eq_false_iff_not]at d;have:=d.1.2;omega
  simp only [Fae,zD];refine⟨(r:Int),true,?_,rfl,by omega,by omega⟩;show gB (some ((r:Int),decide ((r:Int)<=1))) _=_;rw [H]at o;rw [dT (by omega:(r:Int)<=1)];rfl
 ·rw [f];simp only [Fae,zD];show ∃v i,gB (some ((r:Int),decide ((r:Int)<=IntKind.i64.wrap ((p.Names.length:Int)-1)))) _=_/\gB (if (p.Names.length:Int)<=(r:Int)then some ((0:Int),false)else some ((r:Int),true)) _=_/\_;rw [Go.OB.wrap_i64 (by omega) (by have:=h.nl;omega)]
  by_cases c:(p.Names.length:Int)<=(r:Int)
  ·rw [if_pos c,qD (by omega: ¬(r:Int)<=(p.Names.length:Int)-1)];exact⟨0,false,rfl,rfl,by omega,by omega⟩
  ·rw [if_neg c,dT (by omega:(r:Int)<=(p.Names.length:Int)-1)];exact⟨_,true,rfl,rfl,by omega,by omega⟩
def aSi (a b:gW):Bool:=decide (a.Number<b.Number)||(decide (a.Number=b.Number)&&decide (a.Word<b.Word))
theorem bef_eq (a b:gW):Fc7 a b=some (aSi a b):=by
 unfold Fc7 aSi;simp only [zD,dM,xC,zA]
def mX (l:List gW)(y:gW):Nat:=(l.takeWhile λx=>aSi x y).length
def wV (l:List gW)(y:gW):List gW:=if l[mX l y]? =some y then l else l.take (mX l y)++[y]++l.drop (mX l y)
theorem aUf (l:List gW)(y:gW):mX l y<=l.length:=by
 unfold mX;exact(List.takeWhile_sublist _).length_le
theorem putI_lt {l:List gW}{y:gW}: ∀{i:Nat}{x:gW},i<mX l y->l[i]? =some x->aSi x y=true:=by
 unfold mX
 induction l with
 |nil=>intro i x h;simp at h
 |cons z l b=>
  intro i x h a;rw [List.takeWhile_cons]at h
  by_cases c:aSi z y=true
  ·rw [if_pos c]at h
   cases i with
   |zero=>simp at a;rw [<-a];exact c
   |succ i=>exact b (by simpa using h) (by simpa using a)
  ·rw [if_neg c]at h;simp at h
theorem putI_at {l:List gW}{y x:gW}(a:l[mX l y]? =some x):aSi x y=false:=by
 unfold mX at a
 induction l with
 |nil=>simp at a
 |cons z l b=>
  rw [List.takeWhile_cons]at a
  by_cases c:aSi z y=true
  ·rw [if_pos c]at a;exact b (by simpa using a)
  ·rw [if_neg c]at a;simp at a;rw [<-a];simpa using c
theorem putL (l:List gW) (y:gW) (d:l.length<=9223372036854775807):Fey l y 0=some (mX l y:Int):=by
 have e:=aUf l y;unfold Fey;refine yP (λi=>(i:Int)) (mX l y) (by omega) rfl (λk i hi=>?_) (λk=>?_);have b:i<l.length:=by omega
 have a:l[i]? =some l[i]:=gE b;simp only [zD,yB b,zO,yK a,zA,bef_eq,fH b d,putI_lt hi a];by_cases c:mX l y<l.length;have a:l[mX l y]? =some l[mX l y]:=gE c;simp only [zD,yB c,zO,yK a,zA,bef_eq,putI_at a,zL];have:mX l y=l.length:=by omega
 simp only [zD,this,yE,zL,zA]
theorem aTi (l:List gW) (y:gW) (g:l.length<=1000000):Fes l y=some (wV l y):=by
 have b:=aUf l y;unfold Fes wV;rw [putL l y (by omega),zA];have a:sub' l (mX l y:Int) (l.length:Int)=some (l.drop (mX l y)):=by
  unfold sub';rw [if_pos (by omega)]
  congr 1
  rw [List.take_of_length_le]
  ·rw [Int.toNat_natCast]
  ·rw [List.length_drop,Int.toNat_natCast];omega
 have f:app' 16 ([]:List gW) (l.take (mX l y))=some (l.take (mX l y)):=by
  rw [aG (by rw [List.length_nil,List.length_take];omega) (by decide)];rfl
 have a2:app' 16 (l.take (mX l y)) [y]=some (l.take (mX l y)++[y]):=aG (by rw [List.length_take,List.length_singleton];omega) (by decide);have a3:app' 16 (l.take (mX l y)++[y]) (l.drop (mX l y))=some (l.take (mX l y)++[y]++l.drop (mX l y)):=aG (by rw [List.length_append,List.length_take,List.length_singleton,List.length_drop];omega) (by decide);simp only [zD,aAk l b,zA,f,a,a2,a3]
 by_cases c:mX l y<l.length
 ·have d:l[mX l y]? =some l[mX l y]:=gE c;rw [yB c,zO,yK d,zA,zA,d,yN]
  by_cases e:l[mX l y]=y
  ·rw [if_pos e,if_pos (by rw [e])]
  ·rw [if_neg e,if_neg (by simpa using e)]
 ·have:mX l y=l.length:=by omega
  rw [this,yE,zL,zA,zL,if_neg];rw [List.getElem?_eq_none (Nat.le_refl _)];simp
theorem aPy (l:List gW) (y z:gW):z∈wV l y↔z∈l\/z=y:=by
 unfold wV;split
 ·rename_i h;constructor
  ·exact .inl
  ·rintro(a|rfl)
   ·exact a
   ·exact qS h
 ·rw [mA,mA,mS];constructor
  ·rintro((h|h)|h)
   ·exact .inl (List.mem_of_mem_take h)
   ·exact .inr h
   ·exact .inl (List.mem_of_mem_drop h)
  ·rintro(h|h)
   ·rw [<-List.take_append_drop (mX l y) l]at h;rcases mA.1 h with h|h
    ·exact .inl (.inl h)
    ·exact .inr h
   ·exact .inl (.inr h)
theorem aGu (l:List gW)(y:gW):(wV l y).length<=l.length+1:=by
 unfold wV;split;omega;rw [List.length_append,List.length_append,List.length_take,List.length_singleton,List.length_drop];omega
def dU (l:List fE)(base:Int):List gW:=l.foldl (λs x=>wV (wV s (gW.mk (base+x.Frame) 3)) (gW.mk (base+x.Frame) x.Word)) []
theorem aQd (l:List fE)(x:fE)(base:Int):dU (l++[x]) base=wV (wV (dU l base) (gW.mk (base+x.Frame) 3)) (gW.mk (base+x.Frame) x.Word):=by
 unfold dU;rw [List.foldl_append,List.foldl_cons,List.foldl_nil]
theorem qA (l:List fE) (base:Int) (z:gW):z∈dU l base↔ ∃x∈l,z=gW.mk (base+x.Frame) 3\/z=gW.mk (base+x.Frame) x.Word:=by
 have: ∀(l:List fE) (s:List gW),z∈l.foldl (λs x=>wV (wV s (gW.mk (base+x.Frame) 3)) (gW.mk (base+x.Frame) x.Word)) s↔z∈s\/ ∃x∈l,z=gW.mk (base+x.Frame) 3\/z=gW.mk (base+x.Frame) x.Word:=by
  intro l
  induction l with
  |nil=>intro s;simp
  |cons x l c=>
   intro s;rw [List.foldl_cons,c,aPy,aPy];constructor
   ·rintro(((h|h)|h)|⟨y,b,a⟩)
    ·exact .inl h
    ·exact .inr ⟨x,List.mem_cons_self ..,.inl h⟩
    ·exact .inr ⟨x,List.mem_cons_self ..,.inr h⟩
    ·exact .inr ⟨y,List.mem_cons_of_mem _ b,a⟩
   ·rintro(h|⟨y,b,a⟩)
    ·exact .inl (.inl (.inl h))
    ·rcases List.mem_cons.1 b with rfl|b
     ·rcases a with a|a
      ·exact .inl (.inl (.inr a))
      ·exact .inl (.inr a)
     ·exact .inr ⟨y,b,a⟩
 have:=this l [];unfold dU;rw [this];simp
theorem aHe (l:List fE)(base:Int):(dU l base).length<=2*l.length:=by
 have: ∀(l:List fE) (s:List gW),(l.foldl (λs x=>wV (wV s (gW.mk (base+x.Frame) 3)) (gW.mk (base+x.Frame) x.Word)) s).length<=s.length+2*l.length:=by
  intro l
  induction l with
  |nil=>intro s;simp
  |cons x l a=>
   intro s;rw [List.foldl_cons];have b:=a (wV (wV s (gW.mk (base+x.Frame) 3)) (gW.mk (base+x.Frame) x.Word));have c:=aGu (wV s (gW.mk (base+x.Frame) 3)) (gW.mk (base+x.Frame) x.Word);have d:=aGu s (gW.mk (base+x.Frame) 3);rw [List.length_cons];omega
 have:=this l [];unfold dU;simpa using this
structure aId (x:fE):Prop where
 f0:0<=x.Frame
 f1:x.Frame<=15
 w0:4<=x.Word
 w1:x.Word<=60
 l0:0<=x.Low
 b1:1<=x.Bits
 lb:x.Low+x.Bits<=11
theorem words_eq (c:Cell) (base:Int) (l:0<=base) (m:base<=5000000) (o:c.Places.length<=8) (e: ∀x∈c.Places,aId x):Fc9 c base=some (dU c.Places base):=by
 unfold Fc9 Fgz;rw [yP (r:=some (dU c.Places base)) (λi=>(dU (c.Places.take i) base,(i:Int))) c.Places.length (by omega)]
 ·rfl
 ·rfl
 ·intro k i hi;have b:c.Places[i]? =some c.Places[i]:=gE hi;have d:=e _ (List.getElem_mem hi);have f0:=d.f0;have f1:=d.f1;have f:=aHe (c.Places.take i) base;rw [List.length_take]at f;have g:=aGu (dU (c.Places.take i) base) (gW.mk (base+c.Places[i].Frame) 3);simp only [zD,yB hi,zO,yK b,zA];rw [Go.OB.wrap_i64 (n:=base+c.Places[i].Frame) (by omega) (by omega)];have h:Fet (base+c.Places[i].Frame) c.Places[i] (dU (c.Places.take i) base,0)=some (dU (c.Places.take (i+1)) base):=by
   unfold Fet;refine yP (λj=>match j with
    |0=>(dU (c.Places.take i) base,0)
    |1=>(wV (dU (c.Places.take i) base) (gW.mk (base+c.Places[i].Frame) 3),1)
    |_=>(dU (c.Places.take (i+1)) base,2)) 2 (by decide) rfl (λk j _=>?_) (λk=>rfl)
   have a:j=0\/j=1:=by omega
   rcases a with rfl|rfl
   ·simp only [zD];rw [show decide ((0:Int)<2)=true from rfl,zO,show at' ([3,c.Places[i].Word]:List Int) 0=some 3 from rfl,zA,aTi _ _ (by omega),zA];rfl
   ·simp only [zD];rw [show decide ((1:Int)<2)=true from rfl,zO,show at' ([3,c.Places[i].Word]:List Int) 1=some c.Places[i].Word from rfl,zA,aTi _ _ (by omega),zA,bU b,aQd];rfl
  rw [h,zA,fH hi (by omega)]
 ·intro k;simp only [zD,yE,zL,List.take_length]
def qO:gU:=gU.mk 0 (Arr.rep 64 0) (Arr.rep 64 0) false 0 false
def eF (a:List gU)(n:Int):gU:=(a.find? λr=>decide (r.Number=n)).getD qO
def frN (r:gU)(k:Int):Nat:=(r.Frame.l.getD k.toNat 0).toNat
def stN (r:gU)(k:Int):Int:=r.States.l.getD k.toNat 0
structure pO (r:gU):Prop where
 fr: ∀x∈r.Frame.l,0<=x/\x<65536
 st: ∀x∈r.States.l,0<=x/\x<=3
theorem aSf:pO qO:=by
 refine⟨λx a=>?_,λx a=>?_⟩;have:x=0:=(List.mem_replicate.1 a).2;subst this;decide;have:x=0:=(List.mem_replicate.1 a).2;subst this;decide
theorem aUr {r:gU}(h:pO r){k:Int}(a:0<=k)(b:k<64):at' r.Frame.l k=some ((frN r k:Nat):Int)/\frN r k<65536:=by
 obtain⟨i,rfl⟩: ∃i:Nat,k=(i:Int):=⟨k.toNat,by omega⟩;have hi:i<r.Frame.l.length:=by rw [r.Frame.h];omega
 have:=h.fr _ (List.getElem_mem hi);have e:r.Frame.l.getD (i:Int).toNat 0=r.Frame.l[i]:=by rw [Int.toNat_natCast,List.getD_eq_getElem?_getD,gE hi];rfl
 unfold frN;rw [e,yK (gE hi)];exact⟨by congr 1;omega,by omega⟩
theorem aOd {r:gU}(h:pO r){k:Int}(a:0<=k)(b:k<64):at' r.States.l k=some (stN r k)/\0<=stN r k/\stN r k<=3:=by
 obtain⟨i,rfl⟩: ∃i:Nat,k=(i:Int):=⟨k.toNat,by omega⟩;have hi:i<r.States.l.length:=by rw [r.States.h];omega
 have:=h.st _ (List.getElem_mem hi);have e:r.States.l.getD (i:Int).toNat 0=r.States.l[i]:=by rw [Int.toNat_natCast,List.getD_eq_getElem?_getD,gE hi];rfl
 unfold stN;rw [e,yK (gE hi)];exact⟨rfl,this⟩
def loM (R:Int->gU)(base:Int)(l:List fE):Int:=l.foldl (λm x=>min (min m (stN (R (base+x.Frame)) x.Word)) (stN (R (base+x.Frame)) 3)) 3
def badM (a:Int)(R:Int->gU)(base:Int)(l:List fE):Bool:=l.any λx=>decide (((frN (R (base+x.Frame)) 3%2048:Nat):Int)≠a)
def vst (R:Int->gU)(base:Int)(v:Nat)(x:fE):Nat:=v*2^x.Bits.toNat+frN (R (base+x.Frame)) x.Word/2^x.Low.toNat%2^x.Bits.toNat
def sQ (R:Int->gU)(base:Int)(l:List fE):Nat:=l.foldl (vst R base) 0
def qV (l:List fE):Nat:=(l.map λx=>x.Bits.toNat).sum
theorem foldl_snoc {a σ:Type}(f:σ->a->σ)(s:σ)(l:List a)(x:a):(l++[x]).foldl f s=f (l.foldl f s) x:=by rw [List.foldl_append,List.foldl_cons,List.foldl_nil]
theorem aJv (l:List fE)(x:fE):qV (l++[x])=qV l+x.Bits.toNat:=by unfold qV;rw [List.map_append,List.map_singleton,List.sum_append];simp
theorem aJw (l:List fE)(i:Nat):qV (l.take i)<=qV l:=by
 have h:qV l=qV (l.take i++l.drop i):=by rw [List.take_append_drop]
 rw [h];unfold qV;rw [List.map_append,List.sum_append];omega
theorem aDc (R:Int->gU)(base:Int)(l:List fE):sQ R base l<2^qV l:=by
 have: ∀(l:List fE) (v s:Nat),v<2^s->l.foldl (vst R base) v<2^(s+qV l):=by
  intro l
  induction l with
  |nil=>intro v s h;simpa [qV]using h
  |cons x l a=>
   intro v s h;rw [List.foldl_cons];have b:vst R base v x<2^(s+x.Bits.toNat):=by
    unfold vst;have c:frN (R (base+x.Frame)) x.Word/2^x.Low.toNat%2^x.Bits.toNat<2^x.Bits.toNat:=Nat.mod_lt _ (Nat.two_pow_pos _);have hm:(v+1)*2^x.Bits.toNat<=2^s*2^x.Bits.toNat:=Nat.mul_le_mul_right _ h;rw [Nat.pow_add];rw [Nat.add_mul,Nat.one_mul]at hm;omega
   have:=a _ _ b;have e:qV (x::l)=x.Bits.toNat+qV l:=by unfold qV;rw [List.map_cons,List.sum_cons]
   rw [e,<-Nat.add_assoc];exact this
 have:=this l 0 0 (by decide);rw [Nat.zero_add]at this;exact this
theorem aUk {R:Int->gU}{base:Int}{x:fE}{v:Nat}(d:aId x)(g:frN (R (base+x.Frame)) x.Word<65536)(c:v*2^x.Bits.toNat<4611686018427387904):
  kU .i64 (v:Int) x.Bits=some ((v*2^x.Bits.toNat:Nat):Int)/\kU .i64 1 x.Bits=some ((2^x.Bits.toNat:Nat):Int)/\IntKind.i64.wrap (((2^x.Bits.toNat:Nat):Int)-1)=((2^x.Bits.toNat:Nat):Int)-1/\
  aAg .i64 ((frN (R (base+x.Frame)) x.Word:Nat):Int) x.Low=some ((frN (R (base+x.Frame)) x.Word/2^x.Low.toNat:Nat):Int)/\
  aAg .i64 ((frN (R (base+x.Frame)) x.Word%2048:Nat):Int) x.Low=some ((frN (R (base+x.Frame)) x.Word%2048/2^x.Low.toNat:Nat):Int)/\
  (bits .or .i64 ((v*2^x.Bits.toNat:Nat):Int) (bits .and .i64 ((frN (R (base+x.Frame)) x.Word/2^x.Low.toNat:Nat):Int) (((2^x.Bits.toNat:Nat):Int)-1))=((vst R base v x:Nat):Int))/\
  (bits .or .i64 ((v*2^x.Bits.toNat:Nat):Int) (bits .and .i64 ((frN (R (base+x.Frame)) x.Word%2048/2^x.Low.toNat:Nat):Int) (((2^x.Bits.toNat:Nat):Int)-1))=((vst R base v x:Nat):Int)):=by
 have l0:=d.l0;have b1:=d.b1;have lb:=d.lb;obtain⟨b,h⟩: ∃b:Nat,x.Bits=(b:Int):=⟨x.Bits.toNat,by omega⟩;obtain⟨lo,e⟩: ∃lo:Nat,x.Low=(lo:Int):=⟨x.Low.toNat,by omega⟩;unfold vst;generalize frN (R (base+x.Frame)) x.Word=w at g⊢;rw [h]at c b1 lb⊢;rw [e]at l0 lb⊢;simp only [Int.toNat_natCast]at c⊢;have f:b<=11:=by omega
 have i:(2:Nat)^b<=2^11:=aAv f;have k:1<=(2:Nat)^b:=Nat.one_le_two_pow;have j:kU .i64 1 (b:Int)=some ((2^b:Nat):Int):=by
  have:=aFx (a:=1) (b:=b) (by omega) (by omega);rw [Nat.one_mul]at this;exact this
 have l:w/2^lo<=w:=Nat.div_le_self _ _;have m:w%2048/2^lo<=w%2048:=Nat.div_le_self _ _;have n:w%2048<2048:=Nat.mod_lt _ (by decide);have hm: ∀z:Nat,z%2^b<2^b:=λz=>Nat.mod_lt _ (Nat.two_pow_pos _)
 refine⟨aFx (by omega) c,j,Go.OB.wrap_i64 (by omega) (by omega),wK (by show lo<=64;omega),wK (by show lo<=64;omega),?_,?_⟩
 ·rw [aDb (by omega) (by omega),aOl c (hm _) (by omega)]
 ·rw [aDb (by omega) (by omega),part_bits (by omega),aOl c (hm _) (by omega)]
def aOp (p:Param)(v:Nat):Int×Bool:=(Faw p (v:Int)).getD (0,false)
def aEk (m:Map)(p:Param)(R:Int->gU)(base:Int)(l:List fE):Int×Int:=if (decide (loM R base l=0)||badM m.Version R base l)=true then(0,0)else if (aOp p (sQ R base l)).2=true then((aOp p (sQ R base l)).1,loM R base l+1)else(0,1)
theorem aQe {R:Int->gU}{base:Int}: ∀{l:List fE},(∀x∈l,aId x/\pO (R (base+x.Frame)))->0<=loM R base l/\loM R base l<=3:=by
 intro l;have: ∀(l:List fE) (m:Int),(∀x∈l,aId x/\pO (R (base+x.Frame)))->0<=m->m<=3->0<=l.foldl (λm x=>min (min m (stN (R (base+x.Frame)) x.Word)) (stN (R (base+x.Frame)) 3)) m/\l.foldl (λm x=>min (min m (stN (R (base+x.Frame)) x.Word)) (stN (R (base+x.Frame)) 3)) m<=3:=by
  intro l
  induction l with
  |nil=>intro m _ c d;exact⟨c,d⟩
  |cons x l g=>
   intro m h c d;obtain⟨e,f⟩:=h x (List.mem_cons_self ..);have a:=(aOd f (show 0<=x.Word by have:=e.w0;omega) (by have:=e.w1;omega)).2;have b:=(aOd f (show(0:Int)<=3 by decide) (by decide)).2;rw [List.foldl_cons];exact g _ (λy i=>h y (List.mem_cons_of_mem _ i)) (by omega) (by omega)
 intro h;exact this l 3 h (by decide) (by decide)
theorem mark_get {n:Int}(a:0<=n)(b:n<=3)(h:n≠0):aX ([(3,4),(2,3),(1,2)]:List (Int×Int)) n 0=n+1:=by
 have:n=1\/n=2\/n=3:=by omega
 rcases this with rfl|rfl|rfl<;>rfl
theorem read_eq (m:Map) (p:Param) (c:Cell) (A:Arr 16 gU) (R:Int->gU) (base:Int) (q:SzP p) (j:nV p=0) (I:c.Places.length<=8) (f: ∀x∈c.Places,aId x/\pO (R (base+x.Frame))/\at' A.l x.Frame=some (R (base+x.Frame))) (r:qV c.Places=(jR p.Parts).toNat):
  Fco m p c A=some (aEk m p R base c.Places):=by
 have s:=qE j;have t:=s.pt.sum;have a:Fdb m c A (c.Places.length:Int) (3,0,false,0)=some (loM R base c.Places,((sQ R base c.Places:Nat):Int),badM m.Version R base c.Places):=by
  unfold Fdb;refine yP (λi=>(loM R base (c.Places.take i),((sQ R base (c.Places.take i):Nat):Int),badM m.Version R base (c.Places.take i),(i:Int))) c.Places.length (by omega) rfl (λk i hi=>?_) (λk=>?_)
  ·have g:c.Places[i]? =some c.Places[i]:=gE hi;obtain⟨b,e,u⟩:=f _ (List.getElem_mem hi);have w0:=b.w0;have w1:=b.w1;obtain⟨s1,-⟩:=aOd e (show 0<=c.Places[i].Word by omega) (by omega);obtain⟨s2,-⟩:=aOd e (show(0:Int)<=3 by decide) (by decide);obtain⟨f1,h⟩:=aUr e (show 0<=c.Places[i].Word by omega) (by omega);obtain⟨f2,_⟩:=aUr e (show(0:Int)<=3 by decide) (by decide);have y:sQ R base (c.Places.take i)*2^c.Places[i].Bits.toNat<4611686018427387904:=by
    have J:=aDc R base (c.Places.take i);have z:qV (c.Places.take i)+c.Places[i].Bits.toNat<=40:=by
     have:=aJw c.Places (i+1);rw [bU g,aJv]at this;omega
    have B:sQ R base (c.Places.take i)*2^c.Places[i].Bits.toNat<=2^qV (c.Places.take i)*2^c.Places[i].Bits.toNat:=Nat.mul_le_mul_right _ (by omega);rw [<-Nat.pow_add]at B;have K:(2:Nat)^(qV (c.Places.take i)+c.Places[i].Bits.toNat)<=2^40:=aAv z;omega
   obtain⟨C,D,E,F,-,G,-⟩:=aUk (R:=R) (base:=base) b h y;have m1:bits .and .u16 ((frN (R (base+c.Places[i].Frame)) 3:Nat):Int) 2047=((frN (R (base+c.Places[i].Frame)) 3%2048:Nat):Int):=by
    rw [aCv (m:=2048) 11 (by decide) (by decide) (by omega) (by omega)];omega
   simp only [zD,yB hi,zO,yK g,zA,u,s1,s2,f1,f2,m1];rw [Go.OB.wrap_i64 (n:=((frN (R (base+c.Places[i].Frame)) 3%2048:Nat):Int)) (by omega) (by omega),xC,zA,C,zA,Go.OB.wrap_i64 (n:=((frN (R (base+c.Places[i].Frame)) c.Places[i].Word:Nat):Int)) (by omega) (by omega),F,zA,D,zA,E,G,fH hi (by omega),bU g];unfold loM sQ badM;rw [foldl_snoc,foldl_snoc,List.any_append,List.any_cons,List.any_nil,Bool.or_false]
  ·simp only [zD,yE,zL,List.take_length]
 obtain⟨v,o,d1,-,-⟩:=aLh q j (sQ R base c.Places) (by have:=aDc R base c.Places;rw [r]at this;rw [sF];omega);have d:=aQe (R:=R) (base:=base) (l:=c.Places) λx b=>⟨(f x b).1,(f x b).2.1⟩
 unfold Fco aEk;rw [zD,a,zA];simp only [zD,xC,zA,d1];have hd:aOp p (sQ R base c.Places)=(v,o):=by unfold aOp;rw [d1];rfl
 rw [hd]
 cases hq:(decide (loM R base c.Places=0)||badM m.Version R base c.Places)with
 |true=>rfl
 |false=>
  have H:loM R base c.Places≠0:=by
   rw [Bool.or_eq_false_iff,decide_eq_false_iff_not]at hq;exact hq.1
  rw [zL,if_neg (by decide),mark_get d.1 d.2 H]
  cases o<;>rfl
theorem aHu {a:Type}(n:Int)(f:gU->a)(fin:Option a): ∀(l:List gU) (i:Nat),eU (λ_ r=>if decide (r.Number=n)=true then some (some (f r))else none) fin l i=match l.find? λr=>decide (r.Number=n)with
  |some r=>some (f r)
  |none=>fin
 | [],_=>rfl
 |r::l,i=>by
  rw [eU]
  by_cases h:decide (r.Number=n)=true
  ·rw [if_pos h,List.find?_cons,h]
  ·rw [if_neg h,List.find?_cons,(by simpa using h:decide (r.Number=n)=false)];exact aHu n f fin l (i+1)
theorem aKy {l:List gU}{n k:Int} (b:0<=k) (c:k<64) (d:l.length<=9223372036854775807) (f: ∀r∈l,pO r):Fa6 l (gW.mk n k)=some (((frN (eF l n) k%2048:Nat):Int),stN (eF l n) k):=by
 unfold Fa6 Fgl
 repeat (first |rw [zD]|rw [yC]|rw [zA])
 rw [xG l (λ_ r=>if decide (r.Number=n)=true then some (some (((frN r k%2048:Nat):Int),stN r k))else none) (some (0,0)) d]
 ·rw [aHu n (λr=>(((frN r k%2048:Nat):Int),stN r k))];unfold eF
  cases l.find? λr=>decide (r.Number=n)with
  |some r=>rfl
  |none=>
   obtain⟨i,rfl⟩: ∃i:Nat,k=(i:Int):=⟨k.toNat,by omega⟩;have g:frN qO (i:Int)=0:=by
    unfold frN qO;rw [Int.toNat_natCast,List.getD_eq_getElem?_getD];show((List.replicate 64 (0:Int))[i]?.getD 0).toNat=0;rw [List.getElem?_replicate];split<;>rfl
   have h:stN qO (i:Int)=0:=by
    unfold stN qO;rw [Int.toNat_natCast,List.getD_eq_getElem?_getD];show(List.replicate 64 (0:Int))[i]?.getD 0=0;rw [List.getElem?_replicate];split<;>rfl
   show some ((0:Int),(0:Int))=some (((frN qO (i:Int)%2048:Nat):Int),stN qO (i:Int));rw [g,h];rfl
 ·intro j i r e hi;have a:=f r (qS e);obtain⟨f1,f2⟩:=aUr a b c;obtain⟨s1,-⟩:=aOd a b c;have m1:bits .and .i64 ((frN r k:Nat):Int) 2047=((frN r k%2048:Nat):Int):=by
   rw [aDa (m:=2048) 11 (by decide) (by decide) (by omega) (by omega)];omega
  simp only [zD,yB hi,zO,yK e,zA,fH hi d,f1,s1];rw [Go.OB.wrap_i64 (n:=((frN r k:Nat):Int)) (by omega) (by omega),m1]
  cases decide (r.Number=n)<;>rfl
 ·intro j;simp only [zD,yE,zL]
theorem aLe {e:Type} (a b:e->Int) (z:Int): ∀(l:List e) (m:Int),z<=l.foldl (λm x=>min (min m (a x)) (b x)) m↔z<=m/\ ∀x∈l,z<=a x/\z<=b x
 | [],m=>by simp
 |x::l,m=>by
  rw [List.foldl_cons,aLe a b z l];constructor
  ·rintro⟨f,d⟩;refine⟨by omega,λy c=>?_⟩;rcases List.mem_cons.1 c with rfl|c
   ·omega
   ·exact d y c
  ·rintro⟨f,d⟩;have:=d x (List.mem_cons_self ..);exact⟨by omega,λy c=>d y (List.mem_cons_of_mem _ c)⟩
theorem le_lo1 {d:Type} (a:d->Int) (z:Int): ∀(l:List d) (m:Int),z<=l.foldl (λm x=>min m (a x)) m↔z<=m/\ ∀x∈l,z<=a x
 | [],m=>by simp
 |x::l,m=>by
  rw [List.foldl_cons,le_lo1 a z l];constructor
  ·rintro⟨e,c⟩;refine⟨by omega,λy b=>?_⟩;rcases List.mem_cons.1 b with rfl|b
   ·omega
   ·exact c y b
  ·rintro⟨e,c⟩;have:=c x (List.mem_cons_self ..);exact⟨by omega,λy b=>c y (List.mem_cons_of_mem _ b)⟩
def loW (R:Int->gU)(a:List gW):Int:=a.foldl (λm w=>min m (stN (R w.Number) w.Word)) 3
def aFi (a:Int)(R:Int->gU)(w:gW):Bool:=(decide (stN (R w.Number) w.Word≠0)&&decide (w.Word=3))&&decide (((frN (R w.Number) w.Word%2048:Nat):Int)≠a)
theorem lo_same (R:Int->gU) (base:Int) (l:List fE):loW R (dU l base)=loM R base l:=by
 have c: ∀z,z<=loW R (dU l base)↔z<=loM R base l:=by
  intro z;unfold loW loM;rw [le_lo1 (λw:gW=>stN (R w.Number) w.Word),aLe (λx:fE=>stN (R (base+x.Frame)) x.Word) (λx:fE=>stN (R (base+x.Frame)) 3)];constructor
  ·rintro⟨f,d⟩;refine⟨f,λx e=>⟨?_,?_⟩⟩
   ·exact d (gW.mk (base+x.Frame) x.Word) ((qA l base _).2 ⟨x,e,.inr rfl⟩)
   ·exact d (gW.mk (base+x.Frame) 3) ((qA l base _).2 ⟨x,e,.inl rfl⟩)
  ·rintro⟨f,d⟩;refine⟨f,λw g=>?_⟩;obtain⟨x,e,rfl|rfl⟩:=(qA l base w).1 g
   ·exact(d x e).2
   ·exact(d x e).1
 have a:=(c (loM R base l)).2 (Int.le_refl _);have b:=(c (loW R (dU l base))).1 (Int.le_refl _);omega
theorem bad_same {b:Int}{R:Int->gU}{base:Int}{l:List fE} (e: ∀x∈l,aId x/\pO (R (base+x.Frame))) (g:loM R base l≠0):(dU l base).any (aFi b R)=badM b R base l:=by
 have h:=(aQe e).1;have d:=(aLe (λx:fE=>stN (R (base+x.Frame)) x.Word) (λx:fE=>stN (R (base+x.Frame)) 3) (loM R base l) l 3).1 (Int.le_refl _);rw [Bool.eq_iff_iff,List.any_eq_true];unfold badM;rw [List.any_eq_true];constructor;rintro⟨w,f,a⟩;obtain⟨x,c,rfl|rfl⟩:=(qA l base w).1 f;unfold aFi at a;rw [Bool.and_eq_true]at a;exact⟨x,c,a.2⟩;unfold aFi at a;simp only [Bool.and_eq_true,decide_eq_true_eq]at a;have:=(e x c).1.w0;omega;rintro⟨x,c,a⟩;refine⟨gW.mk (base+x.Frame) 3,(qA l base _).2 ⟨x,c,.inl rfl⟩,?_⟩;unfold aFi;have:=(d.2 x c).2;rw [Bool.and_eq_true,Bool.and_eq_true];refine⟨⟨dT ?_,rfl⟩,a⟩;show stN (R (base+x.Frame)) 3≠0;omega
theorem sample_eq (m:Map) (p:Param) (c:Cell) (g:List gU) (R:Int->gU) (base:Int) (D:SzP p) (B:nV p=0) (E:c.Places.length<=8) (F:0<=base) (C:base<=5000000) (d:g.length<=9223372036854775807) (e: ∀r∈g,pO r)
  (b: ∀x∈c.Places,aId x/\pO (R (base+x.Frame))/\eF g (base+x.Frame)=R (base+x.Frame)) (G:qV c.Places=(jR p.Parts).toNat) (H:at' m.Params c.Param=some p):
  Ffn m c base g=some (aEk m p R base c.Places):=by
 have I:=qE B;have J:=I.pt.sum;have j: ∀x∈c.Places,aId x/\pO (R (base+x.Frame)):=λx a=>⟨(b x a).1,(b x a).2.1⟩
 have K:=aQe j;have L:=aHe c.Places base;have o:(dU c.Places base).length<=9223372036854775807:=by omega
 obtain⟨v,q,d1,d2,-⟩:=aLh D B (sQ R base c.Places) (by have:=aDc R base c.Places;rw [G]at this;rw [sF];omega);have hd:aOp p (sQ R base c.Places)=(v,q):=by unfold aOp;rw [d1];rfl
 have t:Ffw c base g (0,0)=some ((sQ R base c.Places:Nat):Int):=by
  unfold Ffw;refine yP (λi=>(((sQ R base (c.Places.take i):Nat):Int),(i:Int))) c.Places.length (by omega) rfl (λk i hi=>?_) (λk=>?_)
  ·have z:c.Places[i]? =some c.Places[i]:=gE hi;obtain⟨a,M,N⟩:=b _ (List.getElem_mem hi);have w0:=a.w0;have w1:=a.w1;have f0:=a.f0;have f1:=a.f1;obtain⟨g1,A⟩:=aUr M (show 0<=c.Places[i].Word by omega) (by omega);have O:sQ R base (c.Places.take i)*2^c.Places[i].Bits.toNat<4611686018427387904:=by
    have C:=aDc R base (c.Places.take i);have P:qV (c.Places.take i)+c.Places[i].Bits.toNat<=40:=by
     have:=aJw c.Places (i+1);rw [bU z,aJv]at this;omega
    have Q:sQ R base (c.Places.take i)*2^c.Places[i].Bits.toNat<=2^qV (c.Places.take i)*2^c.Places[i].Bits.toNat:=Nat.mul_le_mul_right _ (by omega);rw [<-Nat.pow_add]at Q;have h4:(2:Nat)^(qV (c.Places.take i)+c.Places[i].Bits.toNat)<=2^40:=aAv P;omega
   obtain⟨S,T,X,-,Y,-,e5⟩:=aUk (R:=R) (base:=base) a A O;simp only [zD,yB hi,zO,yK z,zA];rw [Go.OB.wrap_i64 (n:=base+c.Places[i].Frame) (by omega) (by omega),aKy (by omega) (by omega) d e,zA,N];simp only;rw [S,zA,Y,zA,T,zA,X,e5,fH hi (by omega),bU z];unfold sQ;rw [foldl_snoc]
  ·simp only [zD,yE,zL,List.take_length]
 have f: ∀w∈dU c.Places base,Fa6 g w=some (((frN (R w.Number) w.Word%2048:Nat):Int),stN (R w.Number) w.Word):=by
  intro w u;obtain⟨x,a,rfl|rfl⟩:=(qA c.Places base w).1 u
  ·rw [aKy (by decide) (by decide) d e,(b x a).2.2]
  ·have:=(b x a).1.w0;have:=(b x a).1.w1;rw [aKy (by omega) (by omega) d e,(b x a).2.2]
 unfold Ffn;rw [words_eq c base F C E (λx a=>(b x a).1),zA,yC];unfold Fgc;refine(mV (λ(i:Nat) (s:Int)=>(s,(i:Int))) (dU c.Places base) (goF (λ_ w=>if aFi m.Version R w=true then some (some (0,0))else none) (λs w=>min s (stN (R w.Number) w.Word)))
  (λs=>if s=0 then some (0,0)else some (if q=true then(v,IntKind.i64.wrap (s+1))else(0,1))) o (λk i s w u=>?_) (λk s=>?_) 3).trans ?_
 rotate_left 2
 ·rw [aBs,rJ (λ_ w=>aFi m.Version R w)];show(if _ then _ else(if loW R (dU c.Places base)=0 then _ else some (if q=true then(v,IntKind.i64.wrap (loW R (dU c.Places base)+1))else(0,1))))=_;rw [lo_same];have y:pV (λ_ w=>aFi m.Version R w) (dU c.Places base) 0=(dU c.Places base).any (aFi m.Version R):=by
   have: ∀(l:List gW) (i:Nat),pV (λ_ w=>aFi m.Version R w) l i=l.any (aFi m.Version R):=by
    intro l
    induction l with
    |nil=>intro i;rfl
    |cons w l ih=>intro i;rw [pV,List.any_cons,ih]
   exact this _ 0
  rw [y];unfold aEk;rw [hd]
  by_cases c0:loM R base c.Places=0
  ·rw [dT c0,Bool.true_or,if_pos rfl,if_pos c0];split<;>rfl
  ·rw [qD c0,Bool.false_or,if_neg c0,bad_same j c0]
   cases badM m.Version R base c.Places with
   |true=>rfl
   |false=>
    rw [Go.OB.wrap_i64 (by omega) (by omega)]
    cases q<;>rfl
 ·have hi:=(gS.1 u).1;simp only [zD,yB hi,zO,yK u,zA,fH hi o,f w (qS u),dM];unfold goF;show gI (aFi m.Version R w) _ _=_
  cases h:aFi m.Version R w<;>simp only [h]<;>rfl
 ·simp only [zD,yE,zL];rw [yN]
  by_cases c0:s=0
  ·rw [if_pos c0,if_pos c0]
  ·rw [if_neg c0,if_neg c0,t,zA,H,zA,d2,zA];simp only
   cases q<;>rfl
theorem aHb {p:Param}(a:dW p){s:Int}(h:s∈dE p):0<=s/\s<=15/\ ∀y∈p.Parts,¬16<=IntKind.i64.wrap (s+y.Frame):=by
 unfold dE at h;obtain⟨c,b⟩:=List.mem_filter.1 h;obtain⟨i,hi,d⟩:=List.mem_iff_getElem.1 c;have e:=aQu (gE hi);have f:=(uT a).2.1 i hi;have g:=aGa a;have:(0:Int)<=(i:Int)*p.Every:=Int.mul_nonneg (by omega) (by omega);have l:=a.f0;rw [d]at e;refine⟨by omega,by omega,λy j k=>?_⟩;unfold aBj at b;rw [Bool.not_eq_true',List.any_eq_false]at b;exact b y j (dT k)
theorem place_ok {p:Param}(d:pM p){s:Int}(j:s∈dE p){t:Nat}(m:t<p.Times.toNat){x:fE}(i:x∈dI p s t):aId x:=by
 obtain⟨s0,_,s2⟩:=aHb d.tm j;unfold dI at i;obtain⟨y,e,rfl⟩:=List.mem_map.1 i;have f:=aHq (d.pt.all y e);have g:=s2 y e;rw [Go.OB.wrap_i64 (by omega) (by omega)]at g;have a:=d.tf;unfold tfM at a;split at a
 ·cases a
 split at a
 ·cases a
 rename_i k;have b:qG p y=false:=by
  cases h:qG p y with
  |false=>rfl
  |true=>exact absurd (List.any_eq_true.2 ⟨y,e,h⟩) k
 unfold qG at b;rw [Bool.or_eq_false_iff,decide_eq_false_iff_not,decide_eq_false_iff_not]at b;have c:=d.tm.s0;have l:(t:Int)*p.Step<=(p.Times-1)*p.Step:=Int.mul_le_mul_of_nonneg_right (by omega) c;have o:0<=(t:Int)*p.Step:=Int.mul_nonneg (by omega) c;unfold uH;rw [Go.OB.wrap_i64 (n:=s+y.Frame) (by omega) (by omega),Go.OB.wrap_i64 (n:=(t:Int)*p.Step) (by omega) (by omega),Go.OB.wrap_i64 (by omega) (by omega)];exact⟨by show 0<=s+y.Frame;omega,by show s+y.Frame<=15;omega,by show 4<=y.Word+(t:Int)*p.Step;omega,by show y.Word+(t:Int)*p.Step<=60;omega,f.2.2.2.2.1,f.2.2.2.2.2.2.1,f.2.2.2.2.2.2.2⟩
theorem aOw {p:Param}(a:pM p)(s t:Int):qV (dI p s t)=(jR p.Parts).toNat/\(dI p s t).length<=8:=by
 have c:=a.pt.n8;refine⟨?_,by unfold dI;rw [List.length_map];exact c⟩;have h:=aGn p.Parts 0 a.pt.all (by omega) (by omega);have e:jR p.Parts=(p.Parts.map Part.Bits).sum:=by unfold jR;rw [h.1];omega
 rw [e];unfold qV dI;rw [List.map_map];have: ∀l:List Part,(∀y∈l,aU y=false)->((l.map ((λx:fE=>x.Bits.toNat)∘uH p s t)).sum:Int)=(l.map Part.Bits).sum:=by
  intro l
  induction l with
  |nil=>intro _;rfl
  |cons y l d=>
   intro b;have g:=aHq (b y (List.mem_cons_self ..));rw [List.map_cons,List.sum_cons,List.map_cons,List.sum_cons,Int.natCast_add,d λz f=>b z (List.mem_cons_of_mem _ f)];have:(((λx:fE=>x.Bits.toNat)∘uH p s t) y:Int)=y.Bits:=by
    show((y.Bits.toNat:Nat):Int)=y.Bits;omega
   omega
 have:=this p.Parts a.pt.all;omega
theorem aAn {p:Param}{b:Int}{i:Nat}{c:Cell} (l:List Int) (h:(cellsS p b l)[i]? =some c): ∃s,l[i/p.Times.toNat]? =some s/\c=Cell.mk b (i:Int) s (dI p s ((i%p.Times.toNat:Nat):Int))/\i%p.Times.toNat<p.Times.toNat:=by
 have: ∀(l:List Int) (cs:List Cell),(l.foldl (λcs s=>cs++aB p b s cs.length p.Times.toNat) cs)[i]? =some c->cs.length<=i->
   ∃s,l[(i-cs.length)/p.Times.toNat]? =some s/\c=Cell.mk b (i:Int) s (dI p s (((i-cs.length)%p.Times.toNat:Nat):Int))/\(i-cs.length)%p.Times.toNat<p.Times.toNat:=by
  intro l
  induction l with
  |nil=>intro cs a f;rw [List.foldl_nil,List.getElem?_eq_none f]at a;cases a
  |cons s l g=>
   intro cs a f;rw [List.foldl_cons]at a
   by_cases c2:i<cs.length+p.Times.toNat
   ·have k:0<p.Times.toNat:=by omega
    have m:(i-cs.length)/p.Times.toNat=0:=Nat.div_eq_of_lt (by omega);have n:(i-cs.length)%p.Times.toNat=i-cs.length:=Nat.mod_eq_of_lt (by omega);rw [m,n];refine⟨s,rfl,?_,by omega⟩;have d: ∀(l:List Int) (cs:List Cell),i<cs.length->(l.foldl (λcs s=>cs++aB p b s cs.length p.Times.toNat) cs)[i]? =cs[i]? :=by
     intro l
     induction l with
     |nil=>intro cs _;rfl
     |cons s l g=>
      intro cs j;rw [List.foldl_cons,g _ (by rw [List.length_append];omega),List.getElem?_append_left j]
    rw [d l _ (by rw [List.length_append,jF];omega),List.getElem?_append_right f]at a;unfold aB at a;rw [List.getElem?_map,List.getElem?_range (by omega)]at a;simp only [Option.map_some,Option.some.injEq]at a;rw [<-a]
    congr 1
    omega
   ·have:=g _ a (by rw [List.length_append,jF];omega);rw [List.length_append,jF]at this;obtain⟨o,g1,g2,g3⟩:=this;have k:0<p.Times.toNat:=by omega
    have e:i-cs.length=(i-(cs.length+p.Times.toNat))+p.Times.toNat:=by omega
    refine⟨o,?_,?_,?_⟩
    ·rw [e,Nat.add_div_right _ k];simpa using g1
    ·rw [e,Nat.add_mod_right];exact g2
    ·rw [e,Nat.add_mod_right];exact g3
 have:=this l [] h (Nat.zero_le _);simpa using this
def nU (p:Param)(base:Int)(c:Cell):Int:=64*(base+c.Frame)+64*(c.Index%p.Times)/p.Times
theorem aQp {p:Param}(b:pM p){base:Int}(_:0<=base)(_:base<=5000000){a:Int}{c:Cell}(g:c∈gK p a):
    0<=c.Frame/\c.Frame<=15/\0<=c.Index/\c.Index<912/\0<=c.Index%p.Times/\c.Index%p.Times<=56/\0<=64*(c.Index%p.Times)/p.Times/\64*(c.Index%p.Times)/p.Times<=3584:=by
 obtain⟨i,hi,rfl⟩:=List.mem_iff_getElem.1 g;obtain⟨s,g1,g2,g3⟩:=aAn (dE p) (gE hi);have t1:=b.tm.t1;have t2:=b.tm.t2;have d:=aHb b.tm (qS g1);have f:(gK p a).length<=912:=bG b.tm a;have e:(gK p a)[i]=Cell.mk a (i:Int) s (dI p s ((i%p.Times.toNat:Nat):Int)):=g2;rw [e];show 0<=s/\s<=15/\0<=(i:Int)/\(i:Int)<912/\0<=(i:Int)%p.Times/\(i:Int)%p.Times<=56/\0<=64*((i:Int)%p.Times)/p.Times/\64*((i:Int)%p.Times)/p.Times<=3584;have m0:0<=(i:Int)%p.Times:=Int.emod_nonneg _ (by omega);have m1:(i:Int)%p.Times<p.Times:=Int.emod_lt_of_pos _ (by omega);have d0:0<=64*((i:Int)%p.Times)/p.Times:=Int.ediv_nonneg (by omega) (by omega);have d1:64*((i:Int)%p.Times)/p.Times<=64*((i:Int)%p.Times):=Int.ediv_le_self _ (by omega);exact⟨d.1,d.2.1,by omega,by omega,m0,by omega,d0,by omega⟩
theorem aVm {a b:Int}(c:0<=a)(d:1<=b):kP a b=some (a%b):=by
 unfold kP;rw [if_neg (by omega),Int.tmod_eq_emod_of_nonneg c]
theorem nM {a b:Int}(c:0<=a)(d:a<=4611686018427387904)(e:1<=b):pJ .i64 a b=some (a/b):=by
 unfold pJ;have f:0<=a/b:=Int.ediv_nonneg c (by omega);have g:a/b<=a:=Int.ediv_le_self _ c;rw [if_neg (by omega),Int.tdiv_eq_ediv_of_nonneg c,Go.OB.wrap_i64 (by omega) (by omega)]
theorem times_l' {p:Param} (b:pM p) {base:Int} (e:0<=base) (f:base<=5000000) (a:Int):Fcm p (gK p a) base=some ((gK p a).map (nU p base)):=by
 have c:(gK p a).length<=912:=bG b.tm a;have t1:=b.tm.t1;unfold Fcm Fgd
 repeat (first |rw [zD]|rw [yC]|rw [zA])
 rw [yP (r:=some ((gK p a).map (nU p base))) (λi=>(((gK p a).take i).map (nU p base),(i:Int))) (gK p a).length (by omega)]
 ·rfl
 ·rfl
 ·intro k i hi;have d:(gK p a)[i]? =some (gK p a)[i]:=gE hi;obtain⟨_,_,g,_,_,_,_,_⟩:=aQp b e f (List.getElem_mem hi);simp only [zD,yB hi,zO,yK d,zA];rw [aVm g t1,zA,Go.OB.wrap_i64 (n:=64*((gK p a)[i].Index%p.Times)) (by omega) (by omega),nM (by omega) (by omega) t1,zA,
   Go.OB.wrap_i64 (n:=base+(gK p a)[i].Frame) (by omega) (by omega),Go.OB.wrap_i64 (n:=64*(base+(gK p a)[i].Frame)) (by omega) (by omega),Go.OB.wrap_i64 (n:=64*(base+(gK p a)[i].Frame)+_) (by omega) (by omega),
   aG (by rw [List.length_map,List.length_take,List.length_singleton];omega) (by decide),zA,fH hi (by omega),bU d,List.map_append,List.map_singleton]
  rfl
 ·intro k;simp only [zD,yE,zL,List.take_length]
theorem stL_nodup {p:Param}(c:dW p):(stL p).Nodup:=by
 unfold stL;have d:=aGa c;refine List.Pairwise.map _ (λa b h=>?_) List.nodup_range;intro _;apply h;have:(a:Int)*p.Every=(b:Int)*p.Every:=by omega
 have:=Int.eq_of_mul_eq_mul_right (by omega:p.Every≠0) this;omega
theorem aLk {p:Param}(a:dW p):(dE p).Nodup:=List.Pairwise.filter _ (stL_nodup a)
theorem aKh {e:Type}: ∀{l:List e},l.Nodup-> ∀{i j:Nat}{x:e},l[i]? =some x->l[j]? =some x->i=j
 | [],_,i,j,x,h,_=>by simp at h
 |y::l,f,i,j,x,c,d=>by
  obtain⟨a,b⟩:=List.nodup_cons.1 f
  cases i with
  |zero=>
   cases j with
   |zero=>rfl
   |succ j=>
    simp at c d;subst c;exact absurd (qS d) a
  |succ i=>
   cases j with
   |zero=>
    simp at c d;subst d;exact absurd (qS c) a
   |succ j=>simp at c d;rw [aKh b c d]
def aRd (T i j:Nat):Nat:=if j<i/T then T else if j=i/T then i%T else 0
theorem div_step {T i:Nat} (b:0<T):(i%T+1=T/\(i+1)/T=i/T+1/\(i+1)%T=0)\/(i%T+1<T/\(i+1)/T=i/T/\(i+1)%T=i%T+1):=by
 have d:=Nat.div_add_mod i T;have f:=Nat.mod_lt i b;by_cases c:i%T+1=T;left;have e:i+1=T*(i/T+1):=by rw [Nat.mul_add,Nat.mul_one];omega
 refine⟨c,?_,?_⟩;rw [e,Nat.mul_div_cancel_left _ b];rw [e];exact Nat.mul_mod_right _ _;right;have e:i+1=T*(i/T)+(i%T+1):=by omega
 have a:i%T+1<T:=by omega
 refine⟨a,?_,?_⟩;rw [e,Nat.mul_add_div b,Nat.div_eq_of_lt a,Nat.add_zero];rw [e,Nat.mul_add_mod,Nat.mod_eq_of_lt a]
theorem cnt_step {T i j:Nat} (d:0<T):aRd T (i+1) j=if i/T=j then i%T+1 else aRd T i j:=by
 unfold aRd;rcases div_step (i:=i) d with ⟨e,a,b⟩|⟨e,a,b⟩
 ·rw [a,b]
  by_cases c:i/T=j
  ·rw [if_pos c,if_pos (by omega)];omega
  ·rw [if_neg c]
   by_cases c2:j<i/T
   ·rw [if_pos c2,if_pos (by omega)]
   ·rw [if_neg c2,if_neg (show¬j<i/T+1 by omega),if_neg (show¬j=i/T by omega)];split<;>rfl
 ·rw [a,b]
  by_cases c:i/T=j
  ·rw [if_pos c,if_neg (by omega),if_pos (by omega)]
  ·rw [if_neg c]
   by_cases c2:j<i/T
   ·rw [if_pos c2,if_pos c2]
   ·rw [if_neg c2,if_neg c2,if_neg (show¬j=i/T by omega),if_neg (show¬j=i/T by omega)]
theorem times_5 {p:Param} (h:pM p) {base:Int} (B:0<=base) (C:base<=5000000) (a:Int):Feb p (gK p a) base=some ((gK p a).map (nU p base)):=by
 have A:(gK p a).length<=912:=bG h.tm a;have t1:=h.tm.t1;have t2:=h.tm.t2;have D:0<p.Times.toNat:=by omega
 have q: ∃r,Fdh p (gK p a) base ([],0,[])=some r/\r=(gK p a).map (nU p base):=by
  unfold Fdh;refine loopO_inv (λ(i:Nat) (s:List Int×List (Int×Int))=>(s.1,(i:Int),s.2)) (gK p a)
   (λi s=>s.1=((gK p a).take i).map (nU p base)/\ ∀(j:Nat) (x:Int),(dE p)[j]? =some x->aX s.2 x 0=((aRd p.Times.toNat i j:Nat):Int)) (λr=>r=(gK p a).map (nU p base)) (by omega)
   (λk i s c m hi t=>?_) (λk s t=>?_) ([],[]) ⟨rfl,λj x u=>?_⟩
  ·obtain⟨s1,s2⟩:=s;obtain⟨d,f⟩:=t;simp only at d f;obtain⟨E,F,_,_,_,_,_,_⟩:=aQp h B C (qS m);obtain⟨x,g1,g2,g3⟩:=aAn (dE p) m;have u:=f _ x g1;have g:c.Frame=x:=by rw [g2]
   have v:c.Index=(i:Int):=by rw [g2]
   have l:aRd p.Times.toNat i (i/p.Times.toNat)=i%p.Times.toNat:=by unfold aRd;rw [if_neg (by omega),if_pos rfl]
   rw [l]at u;have b:((i%p.Times.toNat:Nat):Int)=c.Index%p.Times:=by
    rw [v,Int.natCast_emod]
    congr 1;omega
   have w:c.Index%p.Times+1=((i%p.Times.toNat+1:Nat):Int):=by rw [<-b];omega
   have G:0<=x/\x<=15:=by rw [<-g];exact⟨E,F⟩
   refine⟨(s1++[nU p base c],pU s2 x ((i%p.Times.toNat+1:Nat):Int)),⟨?_,?_⟩,?_⟩
   ·show s1++[nU p base c]=_;rw [d,bU m,List.map_append,List.map_singleton]
   ·intro j y o;show aX (pU s2 x _) y 0=_;rw [aIg,cnt_step D]
    by_cases e:x=y
    ·subst e;rw [if_pos rfl,if_pos (aKh (aLk h.tm) g1 o)]
    ·rw [if_neg e,if_neg,f j y o];intro H;rw [H]at g1;rw [g1]at o;exact e (by simpa using o)
   ·simp only [zD,yB hi,zO,yK m,zA,g,u];rw [b,Go.OB.wrap_i64 (n:=64*(c.Index%p.Times)) (by omega) (by omega),nM (by omega) (by omega) t1,zA];rw [Go.OB.wrap_i64 (n:=base+x) (by omega) (by omega),Go.OB.wrap_i64 (n:=64*(base+x)) (by omega) (by omega),Go.OB.wrap_i64 (n:=64*(base+x)+_) (by omega) (by omega)];rw [aG (by rw [d,List.length_map,List.length_take,List.length_singleton];omega) (by decide),zA,fH hi (by omega),Go.OB.wrap_i64 (n:=c.Index%p.Times+1) (by omega) (by omega),w,<-g];rfl
  ·refine⟨s.1,?_,?_⟩
   ·simp only [zD,yE,zL]
   ·rw [t.1,List.take_length]
  ·show(0:Int)=_;unfold aRd;rw [Nat.zero_div,Nat.zero_mod,if_neg (by omega)];split<;>rfl
 obtain⟨r,I,z⟩:=q;unfold Feb;rw [I,zA,z]
end Go.Lf
