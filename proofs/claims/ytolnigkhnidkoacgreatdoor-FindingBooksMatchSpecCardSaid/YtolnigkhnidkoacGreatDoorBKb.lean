/- Laws that the claim stands on; no condition beyond those stated. -/
import Derived.Test.YtolnigkhnidkoacGreatDoorBKa
import Derived.Test.YtolnigkhnidkoacGreatDoorBAa
namespace Go.Lf
open Go.RowKit Go.OB Go.Fr1
def goF {a b σ:Type}(q:Nat->a->Option (Option b))(u:σ->a->σ):Nat->a->σ->σ ⊕ Option b:=λi x s=>match q i x with
 |some r=> .inr r
 |none=> .inl (u s x)
theorem aEr {a b σ:Type}(q:Nat->a->Option (Option b))(u:σ->a->σ)(fin:σ->Option b): ∀(l:List a) (i:Nat) (s:σ),
  kH (goF q u) fin l i s=dB q (fin (l.foldl u s)) l i
 | [],i,s=>rfl
 |x::l,i,s=>by
  rw [kH,dB,List.foldl_cons,goF]
  cases q i x with
  |some r=>rfl
  |none=>exact aEr q u fin l (i+1) _
def stF (f:List Int):Nat->Int->Option (Option Int):=λi s=>if dC s 0 3=true then some (some 9)else if ((decide (s=0)&&decide (f.getD i 0≠0))||decide (4095<f.getD i 0))=true then some (some 2)else none
def aIq:Int×Int×Int×Int->Int->Int×Int×Int×Int:=λc s=>if s=3 then(IntKind.i64.wrap (c.1+1),c.2.1,c.2.2.1,c.2.2.2)else if s=2 then(c.1,c.2.1,IntKind.i64.wrap (c.2.2.1+1),c.2.2.2)else if s=1 then(c.1,IntKind.i64.wrap (c.2.1+1),c.2.2.1,c.2.2.2)else(c.1,c.2.1,c.2.2.1,IntKind.i64.wrap (c.2.2.2+1))
theorem aGg: ∀(l:List Int) (a b c d:Nat),a+b+c+d+l.length<=1000->l.foldl aIq ((a:Int),(b:Int),(c:Int),(d:Int))=(((a+l.countP (λs=>decide (s=3)):Nat):Int),((b+l.countP (λs=>decide (s=1)):Nat):Int),((c+l.countP (λs=>decide (s=2)):Nat):Int),((d+l.countP (λs=> !(decide (s=3)||decide (s=2)||decide (s=1))):Nat):Int))
 | [],a,b,c,d,_=>by simp
 |s::l,a,b,c,d,h=>by
  rw [List.length_cons]at h;rw [List.foldl_cons];unfold aIq;simp only [List.countP_cons]
  by_cases e:s=3
  ·subst e;rw [if_pos rfl,wrap_i64 (by omega) (by omega)];have:=aGg l (a+1) b c d (by omega);rw [Int.natCast_add,Int.natCast_one]at this;rw [show(λc s=>if s=3 then(IntKind.i64.wrap (c.1+1),c.2.1,c.2.2.1,c.2.2.2)else if s=2 then(c.1,c.2.1,IntKind.i64.wrap (c.2.2.1+1),c.2.2.2)else if s=1 then(c.1,IntKind.i64.wrap (c.2.1+1),c.2.2.1,c.2.2.2)else(c.1,c.2.1,c.2.2.1,IntKind.i64.wrap (c.2.2.2+1)):Int×Int×Int×Int->Int->Int×Int×Int×Int)=aIq from rfl,this];simp;omega
  ·rw [if_neg e]
   by_cases f:s=2
   ·subst f;rw [if_pos rfl,wrap_i64 (by omega) (by omega)];have:=aGg l a b (c+1) d (by omega);rw [Int.natCast_add c,Int.natCast_one]at this;rw [show(λc s=>if s=3 then(IntKind.i64.wrap (c.1+1),c.2.1,c.2.2.1,c.2.2.2)else if s=2 then(c.1,c.2.1,IntKind.i64.wrap (c.2.2.1+1),c.2.2.2)else if s=1 then(c.1,IntKind.i64.wrap (c.2.1+1),c.2.2.1,c.2.2.2)else(c.1,c.2.1,c.2.2.1,IntKind.i64.wrap (c.2.2.2+1)):Int×Int×Int×Int->Int->Int×Int×Int×Int)=aIq from rfl,this];simp;omega
   ·rw [if_neg f]
    by_cases g:s=1
    ·subst g;rw [if_pos rfl,wrap_i64 (by omega) (by omega)];have:=aGg l a (b+1) c d (by omega);rw [Int.natCast_add b,Int.natCast_one]at this;rw [show(λc s=>if s=3 then(IntKind.i64.wrap (c.1+1),c.2.1,c.2.2.1,c.2.2.2)else if s=2 then(c.1,c.2.1,IntKind.i64.wrap (c.2.2.1+1),c.2.2.2)else if s=1 then(c.1,IntKind.i64.wrap (c.2.1+1),c.2.2.1,c.2.2.2)else(c.1,c.2.1,c.2.2.1,IntKind.i64.wrap (c.2.2.2+1)):Int×Int×Int×Int->Int->Int×Int×Int×Int)=aIq from rfl,this];simp;omega
    ·rw [if_neg g,wrap_i64 (by omega) (by omega)];have:=aGg l a b c (d+1) (by omega);rw [Int.natCast_add d,Int.natCast_one]at this;rw [show(λc s=>if s=3 then(IntKind.i64.wrap (c.1+1),c.2.1,c.2.2.1,c.2.2.2)else if s=2 then(c.1,c.2.1,IntKind.i64.wrap (c.2.2.1+1),c.2.2.2)else if s=1 then(c.1,IntKind.i64.wrap (c.2.1+1),c.2.2.1,c.2.2.2)else(c.1,c.2.1,c.2.2.1,IntKind.i64.wrap (c.2.2.2+1)):Int×Int×Int×Int->Int->Int×Int×Int×Int)=aIq from rfl,this];simp [g,f,e];omega
theorem aBg {a:Type}(p:a->Bool)(l:List a):decide (0<l.countP p)=l.any p:=by
 rw [Bool.eq_iff_iff,decide_eq_true_eq,List.countP_pos_iff,List.any_eq_true]
theorem aQr {a:Type}(p q:a->Bool): ∀l:List a,(l.any p||l.any q)=l.any λx=>p x||q x
 | []=>rfl
 |x::l=>by
  rw [List.any_cons,List.any_cons,List.any_cons,<-aQr p q l]
  cases p x<;>cases q x<;>cases l.any p<;>cases l.any q<;>rfl
theorem someS_eq (l:List Int)(a b:Int)(c:l.length<=9223372036854775807):Fc8 l a b=some (l.any λy=>decide (y=a)||decide (y=b)):=by
 unfold Fc8 Fgd Fhu;rw [xJ,zK,pF l (λy=>decide (y=a)||decide (y=b)) c (λk _ _ e d=>by simp only [zK,yF d,zU,yS e,zC,fJ d c,Ffi,xY]) (λk=>by simp only [zK,yH,zQ]),zC,zK,sO]
theorem allS_eq (l:List Int)(a:Int)(b:l.length<=9223372036854775807):Fcu l a=some (l.any λy=>decide (y≠a)):=by
 unfold Fcu Fgu Fhc;rw [xJ,zK,pF l (λy=>decide (y≠a)) b (λk _ _ d c=>by simp only [zK,yF c,zU,yS d,zC,fJ c b,Fen]) (λk=>by simp only [zK,yH,zQ]),zC,zK,sO]
def SzR (r:gU):Prop:= ∃(g:List Nat) (h:g.length=64),Small g/\r.Frame=en g h
def sndM (r:gU)(g:List Nat):Bool:=r.Sound&&(!(decide (qW g)&&decide ((aLq g).1=r.Number))||(r.States.l.any λy=>decide (y=0)||decide (y=1)))
def aTk (r:gU)(g:List Nat):Int:=if sndM r g=true then 2 else if (!r.Sound&&(r.States.l.any λy=>decide (y=3)||decide (y=2)))=true then 2 else if (decide (r.Copies<0)||((decide (r.Copies=0)&&r.Sound)&& !(r.States.l.any λy=>decide (y≠3))))=true then 9 else if (r.Conflict&&r.Sound)=true then 2 else 0
theorem aWo (f:List Int) (n:Int): ∀(l:List Int) (i:Nat),∃v,dB (stF f) (some n) l i=some v
 | [],i=>⟨n,rfl⟩
 |s::l,i=>by
  rw [dB];have c:=aWo f n l (i+1);unfold stF
  by_cases a:dC s 0 3=true
  ·rw [if_pos a];exact⟨9,rfl⟩
  ·rw [if_neg a]
   by_cases b:((decide (s=0)&&decide (f.getD i 0≠0))||decide (4095<f.getD i 0))=true
   ·rw [if_pos b];exact⟨2,rfl⟩
   ·rw [if_neg b];exact c
def aSs (r:gU)(g:List Nat):Int:=if dC r.Number 0 4194303=true then 9 else(dB (stF r.Frame.l) (some (aTk r g)) r.States.l 0).getD 0
theorem aPn (r:gU)(g:List Nat)(h:dC r.Number 0 4194303=false):dB (stF r.Frame.l) (some (aTk r g)) r.States.l 0=some (aSs r g):=by
 unfold aSs;rw [h,if_neg (by decide)];obtain⟨_,a⟩:=aWo r.Frame.l (aTk r g) r.States.l 0;rw [a];rfl
theorem fr_at (r:gU){i:Nat}(hi:i<64):at' r.Frame.l (i:Int)=some (r.Frame.l.getD i 0):=by
 rw [aEn,List.getD_eq_getElem?_getD,gE (by rw [r.Frame.h];exact hi)];rfl
theorem rest_l (r:gU) (g:List Nat) (h:g.length=64) (c:Small g) (e:r.Frame=en g h):Fa3 r=some (aSs r g):=by
 have a:r.States.l.length<=9223372036854775807:=by rw [r.States.h];decide
 unfold Fa3;simp only [vwi,zC,zK,xJ,nwi];show gI (dC r.Number 0 4194303) _ _=_
 cases hv:dC r.Number 0 4194303 with
 |true=>unfold aSs;rw [hv];rfl
 |false=>
  rw [zQ,<-aPn r g hv];unfold Fjk;refine xU r.States.l _ _ a (λk i s f d=>?_) (λk=>?_)
  ·have hi:i<64:=by rw [<-r.States.h];exact d
   have b:decide ((i:Int)<64)=true:=dT (by omega);simp only [zK,b,zU,yS f,zC,fJ d a,vwi,nwi,fr_at r hi,dM,xY];show gI (dC s 0 3) _ _=_;unfold stF
   cases dC s 0 3 with
   |true=>rfl
   |false=>
    rw [zQ,if_neg (by decide)]
    cases((decide (s=0)&&decide (r.Frame.l.getD i 0≠0))||decide (4095<r.Frame.l.getD i 0))<;>rfl
  ·have b:decide (((r.States.l.length:Nat):Int)<64)=false:=qD (by rw [r.States.h];omega);simp only [zK,b,zQ,Ffz,Ffm,Fcs,Fff,e,Number_eq c,sound_eq c,zC,someS_eq _ _ _ a,allS_eq _ _ a,dM,xY];show gI (sndM r g) _ _=_;unfold aTk
   cases sndM r g with
   |true=>rfl
   |false=>
    rw [zQ,if_neg (by decide)]
    cases(!r.Sound&&(r.States.l.any λy=>decide (y=3)||decide (y=2)))with
    |true=>rfl
    |false=>
     rw [zQ,if_neg (by decide)]
     cases(decide (r.Copies<0)||((decide (r.Copies=0)&&r.Sound)&& !(r.States.l.any λy=>decide (y≠3))))with
     |true=>rfl
     |false=>
      rw [zQ,if_neg (by decide)]
      cases(r.Conflict&&r.Sound)<;>rfl
theorem aYh {f:List Int}{i:Nat}{s:Int} (h:stF f i s=none):0<=s/\s<=3:=by
 unfold stF at h;split at h;cases h;rename_i c;exact aBi.1 (by simpa using c)
theorem rest_4 (r:gU) (g:List Nat) (h:g.length=64) (u:Small g) (B:r.Frame=en g h):Fb0 r=some (aSs r g):=by
 have w:r.States.l.length<=9223372036854775807:=by rw [r.States.h];decide
 unfold Fb0;have C:decide (4194304<=r.Number)=decide (4194303<r.Number):=decide_eq_decide.2 (by omega);simp only [zC,zK,xJ,xY,C];show gI (dC r.Number 0 4194303) _ _=_
 cases hv:dC r.Number 0 4194303 with
 |true=>unfold aSs;rw [hv];rfl
 |false=>
  rw [zQ,<-aPn r g hv];unfold Fic;have D:=r.States.h;refine(qG (λ(i:Nat) (c:Int×Int×Int×Int)=>(c.1,c.2.1,c.2.2.1,c.2.2.2,(i:Int))) r.States.l (goF (stF r.Frame.l) aIq)
   (λc=>some (if (r.Sound&&((!decide (qW g)||decide ((aLq g).1≠r.Number))||decide (0<IntKind.i64.wrap (c.2.2.2+c.2.1))))=true then 2 else if (!r.Sound&&decide (0<IntKind.i64.wrap (c.1+c.2.2.1)))=true then 2 else if (decide (r.Copies<0)||((decide (r.Copies=0)&&r.Sound)&&decide (c.1=64)))=true then 9 else if (r.Conflict&&r.Sound)=true then 2 else 0)) w (λk i c s f=>?_) (λk c=>?_) (0,0,0,0)).trans ?_
  ·have z:=(gS.1 f).1;have hi:i<64:=by rw [<-r.States.h];exact z
   have t:decide ((i:Int)<64)=true:=dT (by omega);simp only [zK,xJ,t,zU,yS f,zC,fJ z w,fr_at r hi,dM,xY];show gI (dC s 0 3) _ _=_;unfold goF stF
   cases dC s 0 3 with
   |true=>rfl
   |false=>
    rw [zQ,if_neg (by decide)]
    cases((decide (s=0)&&decide (r.Frame.l.getD i 0≠0))||decide (4095<r.Frame.l.getD i 0))with
    |true=>rfl
    |false=>
     rw [zQ,if_neg (by decide)];show _=k ((aIq c s).1,(aIq c s).2.1,(aIq c s).2.2.1,(aIq c s).2.2.2,_);unfold aIq
     by_cases b:s=3
     ·rw [dT b,zU,if_pos b]
     ·rw [qD b,zQ,if_neg b]
      by_cases m:s=2
      ·rw [dT m,zU,if_pos m]
      ·rw [qD m,zQ,if_neg m]
       by_cases o:s=1
       ·rw [dT o,zU,if_pos o]
       ·rw [qD o,zQ,if_neg o]
  ·have t:decide (((r.States.l.length:Nat):Int)<64)=false:=qD (by rw [r.States.h];omega);simp only [zK,t,zQ,Ffe,B,aVn u,rSound_eq u,zC,dM,xY,Bool.or_assoc]
   cases(r.Sound&&(!decide (qW g)||(decide ((aLq g).1≠r.Number)||decide (0<IntKind.i64.wrap (c.2.2.2+c.2.1)))))with
   |true=>rfl
   |false=>
    rw [zQ,if_neg (by decide)]
    cases(!r.Sound&&decide (0<IntKind.i64.wrap (c.1+c.2.2.1)))with
    |true=>rfl
    |false=>
     rw [zQ,if_neg (by decide)]
     cases(decide (r.Copies<0)||((decide (r.Copies=0)&&r.Sound)&&decide (c.1=64)))with
     |true=>rfl
     |false=>
      rw [zQ,if_neg (by decide)]
      cases(r.Conflict&&r.Sound)<;>rfl
  ·rw [aEr];rcases aT (stF r.Frame.l) r.States.l 0 with ⟨j,x,_,-,-,b⟩|⟨f,b⟩
   ·rw [b,b]
   rw [b,b];have e: ∀x∈r.States.l,0<=x/\x<=3:=by
    intro x d;obtain⟨j,E,rfl⟩:=List.mem_iff_getElem.1 d;exact aYh (f j _ (gE E))
   have A:=aGg r.States.l 0 0 0 0 (by omega);simp only [Nat.zero_add,Int.natCast_zero]at A;rw [A];have J:=List.countP_le_length (p:=λs:Int=>decide (s=3)) (l:=r.States.l);have c2:=List.countP_le_length (p:=λs:Int=>decide (s=1)) (l:=r.States.l);have c3:=List.countP_le_length (p:=λs:Int=>decide (s=2)) (l:=r.States.l);have c4:=List.countP_le_length (p:=λs:Int=> !(decide (s=3)||decide (s=2)||decide (s=1))) (l:=r.States.l);simp only;rw [wrap_i64 (n:=((r.States.l.countP (λs:Int=> !(decide (s=3)||decide (s=2)||decide (s=1))):Nat):Int)+_) (by omega) (by omega),wrap_i64 (n:=((r.States.l.countP (λs:Int=>decide (s=3)):Nat):Int)+_) (by omega) (by omega)];have F:decide (0<((r.States.l.countP (λs:Int=> !(decide (s=3)||decide (s=2)||decide (s=1))):Nat):Int)+((r.States.l.countP (λs:Int=>decide (s=1)):Nat):Int))=r.States.l.any λy=>decide (y=0)||decide (y=1):=by
    have a:decide (0<((r.States.l.countP (λs:Int=> !(decide (s=3)||decide (s=2)||decide (s=1))):Nat):Int)+((r.States.l.countP (λs:Int=>decide (s=1)):Nat):Int))=(decide (0<r.States.l.countP (λs:Int=> !(decide (s=3)||decide (s=2)||decide (s=1))))||decide (0<r.States.l.countP (λs:Int=>decide (s=1)))):=by
     rw [Bool.eq_iff_iff,Bool.or_eq_true];simp only [decide_eq_true_eq];omega
    rw [a,aBg,aBg,aQr];refine aHj λx d=>?_
    have:=e x d;rw [Bool.eq_iff_iff];simp only [Bool.or_eq_true,Bool.not_eq_true',Bool.or_eq_false_iff,decide_eq_true_eq,decide_eq_false_iff_not];omega
   have G:decide (0<((r.States.l.countP (λs:Int=>decide (s=3)):Nat):Int)+((r.States.l.countP (λs:Int=>decide (s=2)):Nat):Int))=r.States.l.any λy=>decide (y=3)||decide (y=2):=by
    have a:decide (0<((r.States.l.countP (λs:Int=>decide (s=3)):Nat):Int)+((r.States.l.countP (λs:Int=>decide (s=2)):Nat):Int))=(decide (0<r.States.l.countP (λs:Int=>decide (s=3)))||decide (0<r.States.l.countP (λs:Int=>decide (s=2)))):=by
     rw [Bool.eq_iff_iff,Bool.or_eq_true];simp only [decide_eq_true_eq];omega
    rw [a,aBg,aBg,aQr]
   have H:decide (((r.States.l.countP (λs:Int=>decide (s=3)):Nat):Int)=64)= !(r.States.l.any λy=>decide (y≠3)):=by
    have a:decide (((r.States.l.countP (λs:Int=>decide (s=3)):Nat):Int)=64)=decide (r.States.l.countP (λs:Int=>decide (s=3))=r.States.l.length):=decide_eq_decide.2 (by omega);rw [a,Bool.eq_iff_iff,decide_eq_true_eq,List.countP_eq_length,Bool.not_eq_true',List.any_eq_false];constructor
    ·intro q x d;have:=q x d;simpa using this
    ·intro q x d;have:=q x d;simpa using this
   rw [F,G,H];unfold aTk sndM;have I:(!decide (qW g)||decide ((aLq g).1≠r.Number))= !(decide (qW g)&&decide ((aLq g).1=r.Number)):=by
    rw [Bool.not_and,decide_not]
   rw [I]
def wW (x:Line):Bool:=((((dC x.From (-1099511627776) 1099511627776||dC x.To (-1099511627776) 1099511627776)||decide (x.To<x.From))||dC x.A (-1048576) 1048576)||dC x.B (-1125899906842624) 1125899906842624)
def aEi (l:List Line):Nat->Line->Option (Option Int):=λi x=>if wW x=true then some (some 9)else if (decide (0<i)&&decide (x.From<=((l[i-1]?).getD x).To))=true then some (some 10)else none
def aCf (x:Line)(n:Int):Int:=IntKind.i64.wrap (IntKind.i64.wrap (x.A*n)+x.B)
def endBad (x:Line):Bool:=dC (aCf x x.From) (-1125899906842624) 1125899906842624||dC (aCf x x.To) (-1125899906842624) 1125899906842624
def sN (c:fA):Bool:=(dC c.Low (-1125899906842624) 1125899906842624||dC c.High (-1125899906842624) 1125899906842624)||decide (c.High<c.Low)
def calR (c:fA):Option Int:=if c.Lines.any endBad=true then some 9 else if sN c=true then some 9 else some 0
def aPa (c:fA):Option Int:=if dC c.Den 1 1000000=true then some 9 else if c.Lines.length=0 then some 13 else if 50<c.Lines.length then some 3 else dB (aEi c.Lines) (calR c) c.Lines 0
theorem aOr {a:Type}{l:List a}{i:Nat}{x:a}(h:l[i]? =some x)(b:l.length<=9223372036854775807)(c:0<i):at' l (IntKind.i64.wrap ((i:Int)-1))=some ((l[i-1]?).getD x):=by
 have d:=(gS.1 h).1;rw [wrap_i64 (by omega) (by omega),show(i:Int)-1=((i-1:Nat):Int)by omega,aEn,gE (by omega:i-1<l.length)];rfl
theorem cal_s (c:fA) (a:c.Lines.length<=9223372036854775807):Fbs c=aPa c:=by
 unfold Fbs aPa;simp only [swi,zC,zK,xJ,nwi,xY];show gI (dC c.Den 1 1000000) _ _=_
 cases dC c.Den 1 1000000 with
 |true=>rfl
 |false=>
  rw [zQ,if_neg (by decide),yV]
  by_cases e:c.Lines.length=0
  ·rw [if_pos e,if_pos (by omega)]
  rw [if_neg e,if_neg (by omega),yV]
  by_cases f:50<c.Lines.length
  ·rw [if_pos f,if_pos (by omega)]
  rw [if_neg f,if_neg (by omega)];unfold Fhg;refine xU c.Lines (aEi c.Lines) _ a (λk i x d b=>?_) (λk=>?_)
  ·simp only [zK,yF b,zU,yS d,zC,fJ b a,swi,nwi,xY];show gI (wW x) _ _=_;unfold aEi
   cases wW x with
   |true=>rfl
   |false=>
    rw [zQ,if_neg (by decide)]
    by_cases c0:0<i
    ·rw [dT (show(0:Int)<(i:Int)by omega),dT c0,zU,aOr d a c0,zC,zC,Bool.true_and]
     cases decide (x.From<=((c.Lines[i-1]?).getD x).To)<;>rfl
    ·rw [qD (show¬(0:Int)<(i:Int)by omega),qD c0];rfl
  ·simp only [zK,yH,zQ];unfold Fid;rw [jQ c.Lines endBad (some 9) (if sN c=true then some 9 else some 0) a]
   ·unfold calR
    cases c.Lines.any endBad<;>rfl
   ·intro k i x d b;simp only [zK,yF b,zU,yS d,zC,fJ b a,swi,nwi,xY,Fay];rfl
   ·intro k;simp only [zK,yH,zQ];show gI (sN c) _ _=_
    cases sN c<;>rfl
theorem cal_5 (c:fA) (a:c.Lines.length<=9223372036854775807):Fby c=aPa c:=by
 unfold Fby aPa;simp only [out5,zC,zK,xJ,xY];show gI (dC c.Den 1 1000000) _ _=_
 cases dC c.Den 1 1000000 with
 |true=>rfl
 |false=>
  rw [zQ,if_neg (by decide),yV]
  by_cases e:c.Lines.length=0
  ·rw [if_pos e,if_pos (by omega)]
  rw [if_neg e,if_neg (by omega),yV]
  by_cases f:50<c.Lines.length
  ·rw [if_pos f,if_pos (by omega)]
  rw [if_neg f,if_neg (by omega)];unfold Fh8;refine xU c.Lines (aEi c.Lines) _ a (λk i x d b=>?_) (λk=>?_)
  ·simp only [zK,yF b,zU,yS d,zC,fJ b a,out5,xY];show gI (wW x) _ _=_;unfold aEi
   cases wW x with
   |true=>rfl
   |false=>
    rw [zQ,if_neg (by decide)]
    by_cases c0:0<i
    ·rw [dT (show(0:Int)<(i:Int)by omega),dT c0,zU,aOr d a c0,zC,zC,Bool.true_and]
     cases decide (x.From<=((c.Lines[i-1]?).getD x).To)<;>rfl
    ·rw [qD (show¬(0:Int)<(i:Int)by omega),qD c0];rfl
  ·simp only [zK,yH,zQ];unfold Fjj;rw [jQ c.Lines endBad (some 9) (if sN c=true then some 9 else some 0) a]
   ·unfold calR
    cases c.Lines.any endBad<;>rfl
   ·intro k i x d b;simp only [zK,yF b,zU,yS d,zC,fJ b a,out5,xY];rfl
   ·intro k;simp only [zK,yH,zQ];show gI (sN c) _ _=_
    cases sN c<;>rfl
theorem calR_some (c:fA): ∃v,calR c=some v:=by
 unfold calR;split;exact⟨_,rfl⟩;split<;>exact⟨_,rfl⟩
theorem calO_some (c:fA): ∃v,aPa c=some v:=by
 unfold aPa;split
 ·exact⟨_,rfl⟩
 split
 ·exact⟨_,rfl⟩
 split
 ·exact⟨_,rfl⟩
 rcases aT (aEi c.Lines) c.Lines 0 with ⟨_,_,v,d,a,b⟩|⟨d,b⟩
 ·rw [b];unfold aEi at a;split at a
  ·exact⟨9,by cases a;rfl⟩
  ·split at a
   ·exact⟨10,by cases a;rfl⟩
   ·cases a
 ·rw [b];exact calR_some c
def aGw (c:fA):Int:=(aPa c).getD 0
theorem aJd (c:fA):aPa c=some (aGw c):=by
 obtain⟨_,a⟩:=calO_some c;unfold aGw;rw [a];rfl
structure aSd (c:fA):Prop where
 d1:1<=c.Den
 d2:c.Den<=1000000
 n1:c.Lines.length≠0
 n2:c.Lines.length<=50
 lb: ∀x∈c.Lines,wW x=false
 eb: ∀x∈c.Lines,endBad x=false
 ord: ∀(j:Nat) (x y:Line),c.Lines[j]? =some y->c.Lines[j+1]? =some x->y.To<x.From
 rg:sN c=false
theorem cal_ok {c:fA} (h:aGw c=0):aSd c:=by
 have a:=aJd c;rw [h]at a;unfold aPa at a;split at a
 ·cases a
 rename_i hd;split at a
 ·cases a
 split at a
 ·cases a
 rename_i k _;have hd:=aBi.1 (by simpa using hd:dC c.Den 1 1000000=false);rcases aT (aEi c.Lines) c.Lines 0 with ⟨j,x,_,g,b,e⟩|⟨g,e⟩
 ·rw [e]at a;subst a;unfold aEi at b;split at b
  ·cases b
  ·split at b<;>cases b
 ·rw [e]at a;unfold calR at a;split at a
  ·cases a
  rename_i l;split at a
  ·cases a
  rename_i m;have i: ∀(j:Nat) (x:Line),c.Lines[j]? =some x->wW x=false/\(decide (0<j)&&decide (x.From<=((c.Lines[j-1]?).getD x).To))=false:=by
   intro j x f;have:=g j x f;rw [Nat.zero_add]at this;unfold aEi at this;split at this
   ·cases this
   ·split at this
    ·cases this
    ·rename_i n o;exact⟨by simpa using n,by simpa using o⟩
  refine⟨hd.1,hd.2,k,by omega,?_,?_,?_,by simpa using m⟩
  ·intro x d;obtain⟨j,f,rfl⟩:=List.mem_iff_getElem.1 d;exact(i j _ (gE f)).1
  ·intro x d
   cases hb:endBad x with
   |false=>rfl
   |true=>exact absurd (List.any_eq_true.2 ⟨x,d,hb⟩) l
  ·intro j x _ p d;have:=(i (j+1) x d).2;rw [show j+1-1=j by omega,p]at this;simp at this;omega
structure SzS (x:fQ):Prop where
 tr:okS x.Track
 ml:x.Meaning.length<=9223372036854775807
 ms: ∀c∈x.Meaning,c.Lines.length<=9223372036854775807
structure SzB (b:Book):Prop where
 mp:SzM b.Map
 sl:b.Sources.length<=9223372036854775807
 ss: ∀x∈b.Sources,SzS x
 rl:b.Rests.length<=9223372036854775807
 rs: ∀r∈b.Rests,SzR r
def rsM (r:gU):Int:=aSs r (r.Frame.l.map Int.toNat)
theorem aTy {g:List Nat}{h:g.length=64}:(en g h).l.map Int.toNat=g:=by
 unfold en;simp only [List.map_map];have:(Int.toNat∘λn:Nat=>(n:Int))=id:=by funext n;simp
 rw [this,List.map_id]
theorem aXi {r:gU}(h:SzR r):Fa3 r=some (rsM r):=by
 obtain⟨g,b,c,a⟩:=h;rw [rest_l r g b c a];unfold rsM;rw [a,aTy]
theorem crest_4 {r:gU}(h:SzR r):Fb0 r=some (rsM r):=by
 obtain⟨g,b,c,a⟩:=h;rw [rest_4 r g b c a];unfold rsM;rw [a,aTy]
def vX {a:Type}(l:List a):List (a×a):=l.zip l.tail
theorem pairs_at {a:Type}{l:List a}{i:Nat}{p:a×a}(h:(vX l)[i]? =some p):l[i]? =some p.1/\l[i+1]? =some p.2:=by
 unfold vX at h;rw [List.getElem?_zip_eq_some,List.getElem?_tail]at h;exact h
theorem pairs_len {a:Type}(l:List a):(vX l).length=l.length-1:=by
 unfold vX;rw [List.length_zip,List.length_tail];omega
theorem aHb {a b:Type}{body:(Int->Option b)->Int->Option b} (l:List a) (q:a×a->Bool) (r fin:Option b) (p:l.length<=9223372036854775807)
  (h: ∀k (i:Nat) x y,l[i]? =some x->l[i+1]? =some y->i+1<l.length->body k ((i+1:Nat):Int)=gI (q (x,y)) r (k ((i+1+1:Nat):Int))) (f: ∀k (n:Nat),l.length<=n->body k (n:Int)=fin):gZ body 1=gI ((vX l).any q) r fin:=by
 have c:=pairs_len l;have e:gZ body 1=kH (λ_ x _=>if q x=true then .inr r else .inl ()) (λ_=>fin) (vX l) 0 ():=by
  refine qG (λ(i:Nat) (_:Unit)=>((i+1:Nat):Int)) (vX l) _ _ (by omega) (λk i s x g=>?_) (λk s=>?_) ()
  ·obtain⟨j,d⟩:=pairs_at g;have m:=(gS.1 d).1;rw [h k i x.1 x.2 j d m]
   cases q x<;>rfl
  ·exact f k _ (by omega)
 rw [e];have: ∀(l:List (a×a)) (i:Nat),kH (λ_ x _=>if q x=true then .inr r else .inl ()) (λ_:Unit=>fin) l i ()=gI (l.any q) r fin:=by
  intro l
  induction l with
  |nil=>intro i;rfl
  |cons x l o=>
   intro i;rw [kH,List.any_cons]
   cases q x with
   |true=>rfl
   |false=>exact o (i+1)
 exact this _ 0
def aPl (l:List gU):Bool:=(vX l).any λp=>decide (p.2.Number<=p.1.Number)
def rsF:Nat->gU->Option (Option Int):=λ_ x=>if rsM x=0 then none else some (some (rsM x))
def aGq (l:List gU):Option Int:=if 5000<l.length then some 3 else dB rsF (if aPl l=true then some 10 else some 0) l 0
theorem aVw {i:Nat}(h:i<=9223372036854775806):IntKind.i64.wrap (((i+1:Nat):Int)-1)=(i:Int):=by rw [wrap_i64 (by omega) (by omega)];omega
theorem fault_l (l:List gU) (a:l.length<=9223372036854775807) (g: ∀r∈l,SzR r):Fal l=aGq l:=by
 unfold Fal aGq
 repeat (first |rw [zK]|rw [xJ]|rw [zC])
 rw [yV]
 by_cases c:5000<l.length
 ·rw [if_pos c,if_pos (by omega)]
 rw [if_neg c,if_neg (by omega)];unfold Fh5;refine xU l rsF _ a (λk i x b d=>?_) (λk=>?_)
 ·have h:=g x (qS b);simp only [zK,yF d,zU,yS b,zC,fJ d a,aXi h];rw [yV];unfold rsF
  by_cases e:rsM x=0
  ·rw [if_neg (by simpa using e),if_pos e]
  ·rw [if_pos e,if_neg e]
 ·simp only [zK,yH,zQ];unfold Fg1;rw [aHb l (λp=>decide (p.2.Number<=p.1.Number)) (some 10) (some 0) a]
  ·unfold aPl
   cases(vX l).any λp=>decide (p.2.Number<=p.1.Number)<;>rfl
  ·intro k i x _ b d f;simp only [zK,yF f,zU,yS d,zC,aVw (show i<=9223372036854775806 by omega),yS b,fJ f a]
  ·intro k _ _;simp only [zK];rw [qD (by omega),zQ]
theorem fault_5 (l:List gU) (a:l.length<=9223372036854775807) (g: ∀r∈l,SzR r):Fd7 l=aGq l:=by
 unfold Fd7 aGq
 repeat (first |rw [zK]|rw [xJ]|rw [zC])
 rw [yV]
 by_cases c:5000<l.length
 ·rw [if_pos c,if_pos (by omega)]
 rw [if_neg c,if_neg (by omega)];unfold Fi3;refine xU l rsF _ a (λk i x b d=>?_) (λk=>?_)
 ·have h:=g x (qS b);simp only [zK,yF d,zU,yS b,zC,fJ d a,crest_4 h];rw [yV];unfold rsF
  by_cases e:rsM x=0
  ·rw [if_neg (by simpa using e),if_pos e]
  ·rw [if_pos e,if_neg e]
 ·simp only [zK,yH,zQ];unfold Fhx;rw [aHb l (λp=>decide (p.2.Number<=p.1.Number)) (some 10) (some 0) a]
  ·unfold aPl
   cases(vX l).any λp=>decide (p.2.Number<=p.1.Number)<;>rfl
  ·intro k i x _ b d f;simp only [zK,yF f,zU,yS d,zC,aVw (show i<=9223372036854775806 by omega),yS b,fJ f a]
  ·intro k _ _;simp only [zK];rw [qD (by omega),zQ]
structure aWn (l:List gU):Prop where
 n:l.length<=5000
 all: ∀r∈l,rsM r=0
 ord:aPl l=false
theorem aLk {g:Type} (p:g->Bool): ∀(l:List g) (i:Nat),(aMk p l i= -1/\ ∀x∈l,p x=false)\/ ∃j x,aMk p l i=((i+j:Nat):Int)/\l[j]? =some x/\p x=true/\ ∀a c,a<j->l[a]? =some c->p c=false
 | [],i=> .inl ⟨rfl,λx h=>by cases h⟩
 |x::l,i=>by
  rw [aMk]
  by_cases h:p x=true
  ·rw [if_pos h];exact .inr ⟨0,x,rfl,rfl,h,λa c h=>by omega⟩
  ·rw [if_neg h];rcases aLk p l (i+1)with ⟨d,e⟩|⟨j,y,d,e,k,m⟩
   ·refine .inl ⟨d,λy f=>?_⟩;rcases List.mem_cons.1 f with rfl|f
    ·simpa using h
    ·exact e y f
   ·refine .inr ⟨j+1,y,by rw [d];congr 1;omega,by simpa using e,k,λa c n b=>?_⟩
    cases a with
    |zero=>simp at b;subst b;simpa using h
    |succ a=>exact m a c (by omega) (by simpa using b)
def pX (b:Map)(s:Str):Int:=aMk (λy:Param=>decide (y.Name=s)) b.Params 0
theorem par_idx (b:Map)(a:b.Params.length<=9223372036854775807)(x:fQ):Fd5 b.Params x=some (pX b x.Param):=by
 unfold Fd5 Fhk
 repeat (first |rw [zK]|rw [xJ]|rw [zC])
 exact pF b.Params (λy=>decide (y.Name=x.Param)) a (λk _ y d c=>by simp only [zK,yF c,zU,yS d,zC,fJ c a,Fek]) (λk=>by simp only [zK,yH,zQ])
theorem par_idxR (b:Map)(a:b.Params.length<=9223372036854775807)(s:Str):Fcp b.Params s=some (pX b s):=by
 unfold Fcp Fg8
 repeat (first |rw [zK]|rw [xJ]|rw [zC])
 exact pF b.Params (λy=>decide (y.Name=s)) a (λk _ y d c=>by simp only [zK,yF c,zU,yS d,zC,fJ c a,Ffx]) (λk=>by simp only [zK,yH,zQ])
theorem par_5 (b:Map)(a:b.Params.length<=9223372036854775807)(s:Str):Fas b s=some (pX b s):=by
 unfold Fas Fi8
 repeat (first |rw [zK]|rw [xJ]|rw [zC])
 exact pF b.Params (λy=>decide (y.Name=s)) a (λk _ y d c=>by simp only [zK,yF c,zU,yS d,zC,fJ c a]) (λk=>by simp only [zK,yH,zQ])
theorem contT_eq (l:List fQ)(c:fQ)(a:l.length<=9223372036854775807):Fef l c=some (l.any λy=>decide (y.Track=c.Track)):=by
 unfold Fef Ffk Fjd
 repeat (first |rw [zK]|rw [xJ]|rw [zC])
 rw [pF l (λy=>decide (y.Track=c.Track)) a (λk _ _ d b=>by simp only [zK,yF b,zU,yS d,zC,fJ b a,Fgb]) (λk=>by simp only [zK,yH,zQ]),zC,zK,sO]
def aKd (x:fQ):Int:=match x.Meaning with
 | [c]=>aGw c
 |_=>0
def aIs (b:Book)(i:Nat)(x:fQ):Int:=
 if aMh x.Track=false then 8 else if (b.Sources.take i).any (λy=>decide (y.Track=x.Track))=true then 5 else if pX b.Map x.Param<0 then 4
 else if 1<x.Meaning.length then 2 else if aKd x≠0 then aKd x else if dC x.Long 0 1099511627776=true then 9 else 0
theorem parOf (b:Book) (d:b.Map.Params.length<=9223372036854775807) (x:fQ): ∃p,Fbr b x=some (p,decide (0<=pX b.Map x.Param))/\(0<=pX b.Map x.Param->b.Map.Params[(pX b.Map x.Param).toNat]? =some p):=by
 unfold Fbr;rw [par_idx b.Map d x,zC,zK,yV];rcases aLk (λy:Param=>decide (y.Name=x.Param)) b.Map.Params 0 with ⟨a,c⟩|⟨j,y,a,c,_,_⟩
 ·have a:pX b.Map x.Param= -1:=a;rw [a,if_pos (by decide)];exact⟨_,rfl,λh=>absurd h (by decide)⟩
 ·rw [Nat.zero_add]at a;have a:pX b.Map x.Param=(j:Int):=a;rw [a,if_neg (by omega),yS c,zC];refine⟨y,?_,λ_=>by rw [Int.toNat_natCast];exact c⟩;rw [dT (by omega:(0:Int)<=(j:Int))]
theorem src_l {b:Book} (g:SzB b) {i:Nat}{x:fQ} (hi:b.Sources[i]? =some x):Fdp b (i:Int)=some (aIs b i x):=by
 have n:=(gS.1 hi).1;have f:=g.ss x (qS hi);obtain⟨_,m,-⟩:=parOf b g.mp.pl x;unfold Fdp aIs;simp only [yS hi,zC,m,IsName_eq x.Track f.tr,zK,xJ,fwi,nwi,aCx b.Sources (by omega:i<=b.Sources.length)];rw [contT_eq _ _ (by rw [List.length_take];have:=g.sl;omega),zC]
 cases aMh x.Track with
 |false=>rfl
 |true=>
  simp only [Bool.not_true,zQ,Bool.true_eq_false,if_false]
  cases((b.Sources.take i).any λy=>decide (y.Track=x.Track))with
  |true=>rfl
  |false=>
   simp only [zQ,Bool.false_eq_true,if_false]
   by_cases c4:pX b.Map x.Param<0
   ·rw [if_pos c4,qD (by omega: ¬0<=pX b.Map x.Param)];rfl
   rw [if_neg c4,dT (by omega:0<=pX b.Map x.Param)];simp only [Bool.not_true,zQ,yV]
   by_cases c2:1<x.Meaning.length
   ·rw [if_pos c2,if_pos (by omega)]
   rw [if_neg c2,if_neg (by omega)];unfold Fi6;have a:gI (decide (x.Long<0)||decide (1099511627776<x.Long)) (some (9:Int)) (some 0)=some (if dC x.Long 0 1099511627776=true then 9 else 0):=by
    show gI (dC x.Long 0 1099511627776) _ _=_
    cases dC x.Long 0 1099511627776<;>rfl
   rw [a];rw [xU x.Meaning (λ_ c=>if aGw c=0 then none else some (some (aGw c))) (some (if dC x.Long 0 1099511627776=true then 9 else 0)) f.ml]
   ·have hm:dB (λ_ c=>if aGw c=0 then none else some (some (aGw c))) (some (if dC x.Long 0 1099511627776=true then 9 else 0)) x.Meaning 0=some (if aKd x≠0 then aKd x else if dC x.Long 0 1099511627776=true then 9 else 0):=by
     unfold aKd;rcases hm:x.Meaning with _|⟨c,_|⟨_,_⟩⟩
     ·rfl
     ·rw [dB]
      by_cases e:aGw c=0
      ·simp only [e,ne_eq,not_true,if_false,if_true];rfl
      ·simp only [e,ne_eq,not_false_eq_true,if_true,if_false]
     ·rw [hm]at c2;simp at c2
    exact hm
   ·intro k i c h j;simp only [zK,yF j,zU,yS h,zC,fJ j f.ml,cal_s c (f.ms c (qS h)),aJd];rw [yV]
    by_cases e:aGw c=0
    ·rw [if_neg (by simpa using e),if_pos e]
    ·rw [if_pos e,if_neg e]
   ·intro k;simp only [zK,yH,zQ]
theorem vI (b:Nat):(2:Int)^b=((2^b:Nat):Int):=by exact_mod_cast rfl
theorem aCw {b c:Nat}(h:b<=c):(2:Nat)^b<=2^c:=Nat.pow_le_pow_right (by decide) h
theorem aJm {a b:Nat}(c:b<=64)(h:a*2^b<4611686018427387904):jS .i64 (a:Int) (b:Int)=some ((a*2^b:Nat):Int):=by
 unfold jS;have e:(IntKind.i64.bits:Int)=64:=rfl;rw [if_pos ⟨by omega,by rw [e];omega⟩,Int.toNat_natCast,vI,<-Int.natCast_mul,Go.OB.wrap_i64 (by omega) (by omega)]
theorem aFw {a b:Nat}(c:b<=62)(h:a<4611686018427387904):bits .and .i64 (a:Int) (((2^b:Nat):Int)-1)=((a%2^b:Nat):Int):=by
 rw [aFn (m:=((2^b:Nat):Int)) b c (vI b) (by omega) (by omega) (by omega)]
 exact_mod_cast rfl
theorem aTg {a b c:Nat}(f:a*2^b<4611686018427387904)(g:c<2^b)(d:b<=60):bits .or .i64 ((a*2^b:Nat):Int) (c:Int)=((a*2^b+c:Nat):Int):=by
 have e:(2:Nat)^b<=2^60:=aCw d;rw [aKi (m:=((2^b:Nat):Int)) b (vI b) (by omega) (by omega) (by rw [Int.natCast_mul];exact Int.mul_emod_left _ _) (by omega) (by omega) (by omega)];omega
theorem part_bits {w a b:Nat}(h:a+b<=11):w%2048/2^a%2^b=w/2^a%2^b:=by
 have e:(2048:Nat)=2^a*2^(11-a):=by rw [<-Nat.pow_add,show a+(11-a)=11 by omega]
 rw [e,Nat.mod_mul_right_div_self];exact Nat.mod_mod_of_dvd _ ⟨2^(11-a-b),by rw [<-Nat.pow_add,show b+(11-a-b)=11-a by omega]⟩
def nib (r i:Nat):Nat:=r/2^(4*i)%16
def jE (r m:Nat):Nat->Nat×Bool
 |0=>(0,true)
 |i+1=>((jE r m i).1*10+nib r (m-1-i),(jE r m i).2&&decide (nib r (m-1-i)<10))
theorem aVd (r i:Nat):nib r i<16:=Nat.mod_lt _ (by decide)
theorem aWp (r m:Nat): ∀i,9*(jE r m i).1+15<=15*10^i
 |0=>by show 9*0+15<=15*10^0;decide
 |i+1=>by
  have:=aWp r m i;have a:=aVd r (m-1-i);show 9*((jE r m i).1*10+nib r (m-1-i))+15<=_;rw [Nat.pow_succ];omega
theorem aOo (r m i:Nat):(jE r m i).1<2*10^i:=by have:=aWp r m i;omega
theorem aJo {r m:Nat}(hm:m<=16)(a:r<2^(4*m)): ∀i,jE r 16 (16-m+i)=jE r m i
 |0=>by
  have: ∀j,j<=16-m->jE r 16 j=(0,true):=by
   intro j
   induction j with
   |zero=>intro _;rfl
   |succ j b=>
    intro _;rw [jE,b (by omega)];have:nib r (16-1-j)=0:=by
     unfold nib;rw [Nat.div_eq_of_lt];exact Nat.lt_of_lt_of_le a (aCw (by omega))
    rw [this];rfl
  exact this (16-m) (Nat.le_refl _)
 |i+1=>by
  rw [show 16-m+(i+1)=(16-m+i)+1 by omega,jE,jE,aJo hm a i]
  by_cases c:i<m
  ·rw [show 16-1-(16-m+i)=m-1-i by omega]
  ·rw [show 16-1-(16-m+i)=0 by omega,show m-1-i=0 by omega]
theorem aRg {i:Nat}(h:i<=16):2*10^i<=20000000000000000:=by
 have:(10:Nat)^i<=10^16:=Nat.pow_le_pow_right (by decide) h;omega
theorem decimal_l (r:Nat) (g:r<4611686018427387904):Fbx (r:Int)=some (((jE r 16 16).1:Int),(jE r 16 16).2):=by
 unfold Fbx Fhb;rw [xB (r:=some (((jE r 16 16).1:Int),(jE r 16 16).2)) (λi=>(((jE r 16 i).1:Int),(jE r 16 i).2,60-4*(i:Int))) 16 (by decide)]
 ·rfl
 ·rfl
 ·intro k i _;have h:=aOo r 16 i;have j:=aRg (show i<=16 by omega);have l:=aVd r (15-i);have a:bits .and .i64 ((r/2^(4*(15-i)):Nat):Int) 15=((nib r (15-i):Nat):Int):=by
   have:r/2^(4*(15-i))<=r:=Nat.div_le_self _ _;exact aFw (b:=4) (by decide) (by omega)
  simp only [zK];rw [dT (by omega:(0:Int)<=60-4*(i:Int)),zU,show(60:Int)-4*(i:Int)=((4*(15-i):Nat):Int)by omega,wR (by show 4*(15-i)<=64;omega),zC,a,
   Go.OB.wrap_i64 (n:=((jE r 16 i).1:Int)*10) (by omega) (by omega),Go.OB.wrap_i64 (n:=((jE r 16 i).1:Int)*10+_) (by omega) (by omega),Go.OB.wrap_i64 (n:=((4*(15-i):Nat):Int)-4) (by omega) (by omega)]
  have c:decide (((nib r (15-i):Nat):Int)<10)=decide (nib r (15-i)<10):=decide_eq_decide.2 (by omega);have d:jE r 16 (i+1)=((jE r 16 i).1*10+nib r (15-i),(jE r 16 i).2&&decide (nib r (15-i)<10)):=rfl;have e:((4*(15-i):Nat):Int)-4=60-4*((i+1:Nat):Int):=by omega
  have f:((jE r 16 i).1:Int)*10+((nib r (15-i):Nat):Int)=(((jE r 16 i).1*10+nib r (15-i):Nat):Int):=by omega
  rw [c,d,e,f]
  cases(jE r 16 i).2<;>rfl
 ·intro k;rfl
theorem decimal_2 (r m:Nat) (hm:m<=16) (y:r<4611686018427387904) (k:Int->Option (Int×Bool)):Fe8 (r:Int) k (0,4*(m:Int)-4)=if (jE r m m).2=true then k ((jE r m m).1:Int)else some (0,false):=by
 unfold Fe8;have f: ∀B:(Int×Int->Option (Int×Bool))->Int×Int->Option (Int×Bool),(∀g (v s:Int),B g (v,s)=gI (decide (0<=s)) (gB (wL .i64 (r:Int) s) λx=>gI (decide (9<bits .and .i64 x 15)) (some (0,false)) (g (IntKind.i64.wrap (IntKind.i64.wrap (10*v)+bits .and .i64 x 15),IntKind.i64.wrap (s-4)))) (k v))->
   ∀(d i a:Nat),i+d=m->d<a->(jE r m i).2=true->aX B a (((jE r m i).1:Int),4*((m-i:Nat):Int)-4)=if (jE r m m).2=true then k ((jE r m m).1:Int)else some (0,false):=by
  intro B q d
  induction d with
  |zero=>
   intro i a t u l;obtain⟨a,rfl⟩: ∃k,a=k+1:=⟨a-1,by omega⟩;obtain rfl:i=m:=by omega
   rw [aX,q,qD (by omega),zQ,if_pos l]
  |succ d o=>
   intro i a t u l;obtain⟨a,rfl⟩: ∃k,a=k+1:=⟨a-1,by omega⟩;have l1:=aOo r m i;have l2:=aRg (show i<=16 by omega);have z:=aVd r (m-1-i);have w:bits .and .i64 ((r/2^(4*(m-1-i)):Nat):Int) 15=((nib r (m-1-i):Nat):Int):=by
    have:r/2^(4*(m-1-i))<=r:=Nat.div_le_self _ _;exact aFw (b:=4) (by decide) (by omega)
   rw [aX,q,dT (by omega),zU,show(4:Int)*((m-i:Nat):Int)-4=((4*(m-1-i):Nat):Int)by omega,wR (by show 4*(m-1-i)<=64;omega),zC,w];have p:jE r m (i+1)=((jE r m i).1*10+nib r (m-1-i),(jE r m i).2&&decide (nib r (m-1-i)<10)):=rfl
   by_cases c:nib r (m-1-i)<10
   ·rw [qD (by omega),zQ,Go.OB.wrap_i64 (n:=10*((jE r m i).1:Int)) (by omega) (by omega),Go.OB.wrap_i64 (n:=10*((jE r m i).1:Int)+_) (by omega) (by omega),Go.OB.wrap_i64 (by omega) (by omega)];have:=o (i+1) a (by omega) (by omega) (by rw [p];simp [l,c]);rw [p]at this;rw [<-this]
    congr 2
    ·omega
    ·omega
   ·rw [dT (by omega),zU,if_neg];have: ∀d j,(jE r m j).2=false->(jE r m (j+d)).2=false:=by
     intro d
     induction d with
     |zero=>intro j h;exact h
     |succ d o=>intro j h;rw [Nat.add_succ,jE,o j h];rfl
    have:=this d (i+1) (by rw [p];simp [c]);rw [show i+1+d=m by omega]at this;rw [this];decide
 have e: ∀B:(Int×Int->Option (Int×Bool))->Int×Int->Option (Int×Bool),gZ B (0,4*(m:Int)-4)=aX B FU (0,4*(m:Int)-4):=λB=>rfl
 rw [e];exact f _ (λg v s=>rfl) m 0 FU (by omega) (by unfold FU;omega) rfl
theorem aPr {p:Param} (h:SzP p) (t:rE p=0) (r:Nat) (o:(r:Int)<2^(nP p.Parts).toNat): ∃v i,Fa5 p (r:Int)=some (v,i)/\Fbc p (r:Int)=some (v,i,0)/\ -1125899906842624<=v/\v<=1125899906842624:=by
 have q:=uH t;obtain⟨_,_⟩:=aBi.1 q.kd;have y:=aJw q.pt;have z:=q.pt.sum;obtain⟨n,j⟩: ∃n:Nat,nP p.Parts=(n:Int):=⟨(nP p.Parts).toNat,by omega⟩;have A:1<=n:=by omega
 have k:n<=40:=by omega
 rw [j,Int.toNat_natCast,vI]at o;have o:r<2^n:=by omega
 have B:(2:Nat)^n<=2^40:=aCw k;have J:(2:Nat)^n=2*2^(n-1):=by
  have:=Nat.pow_succ' (n:=n-1) (m:=2);rw [show(n-1).succ=n by omega]at this;exact this
 have s:jS .i64 1 (IntKind.i64.wrap ((n:Int)-1))=some ((2^(n-1):Nat):Int):=by
  rw [Go.OB.wrap_i64 (by omega) (by omega),show(n:Int)-1=((n-1:Nat):Int)by omega];have:=aJm (a:=1) (b:=n-1) (by omega) (by omega);rw [Nat.one_mul]at this;exact this
 have u:jS .i64 1 (n:Int)=some ((2^n:Nat):Int):=by
  have:=aJm (a:=1) (b:=n) (by omega) (by omega);rw [Nat.one_mul]at this;exact this
 have d:kcM p.Kind n=false:=by
  have:=q.kf;unfold kfM at this;split at this
  ·cases this
  ·rename_i c;rw [<-j];simpa using c
 have C:Fbc p (r:Int)=gB (Fdv p (r:Int)) λx=>some (x.1,x.2,0):=by
  unfold Fbc;rw [par_2 h,zC,zK,t,show decide ((0:Int)≠0)=false from rfl,zQ,aQo p h.pl,zC,j,u,zC,zK,out2,zC,Go.OB.wrap_i64 (by omega) (by omega)];have:(decide ((r:Int)<0)||decide (((2^n:Nat):Int)-1<(r:Int)))=false:=by
   rw [Bool.or_eq_false_iff,decide_eq_false_iff_not,decide_eq_false_iff_not];omega
  rw [this,zQ]
 have D:Fa5 p (r:Int)=gB (decK p n ((2^(n-1):Nat):Int) (r:Int)) λx=>some (if x.2=true then(x.1,true)else(0,false)):=by
  unfold Fa5 Fgs;rw [aPu p h.pl,zC,j,s,zC]
  cases decK p n ((2^(n-1):Nat):Int) (r:Int)<;>rfl
 rw [C,D];unfold decK Fdv;rw [aQo p h.pl,zC,j];simp only [xJ,zK,yV];have K:IntKind.i64.wrap ((n:Int)-1)=((n-1:Nat):Int):=by rw [Go.OB.wrap_i64 (by omega) (by omega)];omega
 have w:IntKind.i64.wrap (2*((2^(n-1):Nat):Int))=((2^n:Nat):Int):=by rw [Go.OB.wrap_i64 (by omega) (by omega)];omega
 have f:p.Kind=1\/p.Kind=2\/p.Kind=3\/p.Kind=4\/p.Kind=5\/p.Kind=6:=by omega
 rcases f with f|f|f|f|f|f
 ·rw [f];simp only [Faf,zK];refine⟨(r:Int),true,?_,rfl,by omega,by omega⟩;show gB (some ((r:Int),decide ((r:Int)<=_))) _=_;rw [w,Go.OB.wrap_i64 (by omega) (by omega),dT (by omega:(r:Int)<=((2^n:Nat):Int)-1)];rfl
 ·rw [f];simp only [Fd6,zK];show ∃v i,gB (gB (gI (decide (((2^(n-1):Nat):Int)<=(r:Int))) (some (IntKind.i64.wrap ((r:Int)-IntKind.i64.wrap (2*((2^(n-1):Nat):Int))))) (some (r:Int))) _) _=_/\gB (gB (jS .i64 1 (IntKind.i64.wrap ((n:Int)-1))) _) _=_/\_;rw [s,zC,w]
  by_cases c:2^(n-1)<=r
  ·rw [dT (by omega:((2^(n-1):Nat):Int)<=(r:Int)),zU,zC];have g:IntKind.i64.wrap ((r:Int)-((2^n:Nat):Int))=(r:Int)-((2^n:Nat):Int):=Go.OB.wrap_i64 (by omega) (by omega);refine⟨_,true,rfl,?_,by rw [g];omega,by rw [g];omega⟩;rw [if_pos (by omega),u];rfl
  ·rw [qD (by omega: ¬((2^(n-1):Nat):Int)<=(r:Int)),zQ,zC];refine⟨_,true,rfl,?_,by omega,by omega⟩;rw [if_neg (by omega)];rfl
 ·rw [f];simp only [Fdy,zK];show ∃v i,gB (gI (decide (((2^(n-1):Nat):Int)<=(r:Int))) (some (IntKind.i64.wrap (((2^(n-1):Nat):Int)-(r:Int)),decide (((2^(n-1):Nat):Int)<(r:Int)))) (some ((r:Int),true))) _=_/\gB (gB (jS .i64 1 (IntKind.i64.wrap ((n:Int)-1))) _) _=_/\_;rw [s,zC]
  by_cases c:2^(n-1)<=r
  ·rw [dT (by omega:((2^(n-1):Nat):Int)<=(r:Int)),zU,zC]
   by_cases c2:r=2^(n-1)
   ·refine⟨0,false,?_,?_,by omega,by omega⟩
    ·rw [qD (by omega: ¬((2^(n-1):Nat):Int)<(r:Int))];rfl
    ·rw [if_pos (by omega)];rfl
   ·have g:IntKind.i64.wrap (((2^(n-1):Nat):Int)-(r:Int))=((2^(n-1):Nat):Int)-(r:Int):=Go.OB.wrap_i64 (by omega) (by omega);refine⟨IntKind.i64.wrap (((2^(n-1):Nat):Int)-(r:Int)),true,?_,?_,by rw [g];omega,by rw [g];omega⟩
    ·rw [dT (by omega:((2^(n-1):Nat):Int)<(r:Int))];rfl
    ·rw [if_neg (by omega),zC,if_pos (by omega),zC];rfl
  ·rw [qD (by omega: ¬((2^(n-1):Nat):Int)<=(r:Int)),zQ,zC];refine⟨_,true,rfl,?_,by omega,by omega⟩;rw [if_neg (by omega),zC,if_neg (by omega)];rfl
 ·rw [f]at d⊢;have L:n%4=0:=by
   unfold kcM at d;simp only [decide_true,Bool.true_and,Bool.or_eq_false_iff,decide_eq_false_iff_not]at d;have:=d.1.1;have e:((n:Int)).tmod 4=((n%4:Nat):Int):=by rw [Int.tmod_eq_emod_of_nonneg (by omega)];simp
   rw [e]at this;omega
  obtain⟨m,hm⟩: ∃m,n=4*m:=⟨n/4,by omega⟩;have hd:=decimal_l r (by omega);have l:=aJo (r:=r) (m:=m) (by omega) (by rw [<-hm];exact o) m;rw [show 16-m+m=16 by omega]at l;have ws:IntKind.i64.wrap ((n:Int)-4)=4*(m:Int)-4:=by rw [Go.OB.wrap_i64 (by omega) (by omega)];omega
  simp only [Int.reduceEq,reduceIte];rw [hd,zC,ws,decimal_2 r m (by omega) (by omega),l];have E:=aOo r m m;have F:(10:Nat)^m<=10^10:=Nat.pow_le_pow_right (by decide) (by omega)
  cases hb:(jE r m m).2 with
  |true=>exact⟨_,true,rfl,rfl,by omega,by omega⟩
  |false=>exact⟨0,false,rfl,rfl,by omega,by omega⟩
 ·rw [f]at d⊢;have G:n=1:=by
   unfold kcM at d;simp only [decide_true,Bool.true_and,Bool.or_eq_false_iff,decide_eq_false_iff_not]at d;have:=d.1.2;omega
  simp only [Faf,zK];refine⟨(r:Int),true,?_,rfl,by omega,by omega⟩;show gB (some ((r:Int),decide ((r:Int)<=1))) _=_;rw [G]at o;rw [dT (by omega:(r:Int)<=1)];rfl
 ·rw [f];simp only [Faf,zK];show ∃v i,gB (some ((r:Int),decide ((r:Int)<=IntKind.i64.wrap ((p.Names.length:Int)-1)))) _=_/\gB (if (p.Names.length:Int)<=(r:Int)then some ((0:Int),false)else some ((r:Int),true)) _=_/\_;rw [Go.OB.wrap_i64 (by omega) (by have:=h.nl;omega)]
  by_cases c:(p.Names.length:Int)<=(r:Int)
  ·rw [if_pos c,qD (by omega: ¬(r:Int)<=(p.Names.length:Int)-1)];exact⟨0,false,rfl,rfl,by omega,by omega⟩
  ·rw [if_neg c,dT (by omega:(r:Int)<=(p.Names.length:Int)-1)];exact⟨_,true,rfl,rfl,by omega,by omega⟩
def aVg (a b:gW):Bool:=decide (a.Number<b.Number)||(decide (a.Number=b.Number)&&decide (a.Word<b.Word))
theorem bef_eq (a b:gW):Fcv a b=some (aVg a b):=by
 unfold Fcv aVg;simp only [zK,dM,xY,zC]
def qF (l:List gW)(y:gW):Nat:=(l.takeWhile λx=>aVg x y).length
def aBx (l:List gW)(y:gW):List gW:=if l[qF l y]? =some y then l else l.take (qF l y)++[y]++l.drop (qF l y)
theorem aWv (l:List gW)(y:gW):qF l y<=l.length:=by
 unfold qF;exact(List.takeWhile_sublist _).length_le
theorem putI_lt {l:List gW}{y:gW}: ∀{i:Nat}{x:gW},i<qF l y->l[i]? =some x->aVg x y=true:=by
 unfold qF
 induction l with
 |nil=>intro i x h;simp at h
 |cons z l b=>
  intro i x h a;rw [List.takeWhile_cons]at h
  by_cases c:aVg z y=true
  ·rw [if_pos c]at h
   cases i with
   |zero=>simp at a;rw [<-a];exact c
   |succ i=>exact b (by simpa using h) (by simpa using a)
  ·rw [if_neg c]at h;simp at h
theorem putI_at {l:List gW}{y x:gW}(a:l[qF l y]? =some x):aVg x y=false:=by
 unfold qF at a
 induction l with
 |nil=>simp at a
 |cons z l b=>
  rw [List.takeWhile_cons]at a
  by_cases c:aVg z y=true
  ·rw [if_pos c]at a;exact b (by simpa using a)
  ·rw [if_neg c]at a;simp at a;rw [<-a];simpa using c
theorem putL (l:List gW) (y:gW) (d:l.length<=9223372036854775807):Feo l y 0=some (qF l y:Int):=by
 have e:=aWv l y;unfold Feo;refine xB (λi=>(i:Int)) (qF l y) (by omega) rfl (λk i hi=>?_) (λk=>?_);have b:i<l.length:=by omega
 have a:l[i]? =some l[i]:=gE b;simp only [zK,yF b,zU,yS a,zC,bef_eq,fJ b d,putI_lt hi a];by_cases c:qF l y<l.length;have a:l[qF l y]? =some l[qF l y]:=gE c;simp only [zK,yF c,zU,yS a,zC,bef_eq,putI_at a,zQ];have:qF l y=l.length:=by omega
 simp only [zK,this,yH,zQ,zC]
theorem aYd (l:List gW) (y:gW) (g:l.length<=1000000):Fcx l y=some (aBx l y):=by
 have b:=aWv l y;unfold Fcx aBx;rw [putL l y (by omega),zC];have a:sub' l (qF l y:Int) (l.length:Int)=some (l.drop (qF l y)):=by
  unfold sub';rw [if_pos (by omega)]
  congr 1
  rw [List.take_of_length_le]
  ·rw [Int.toNat_natCast]
  ·rw [List.length_drop,Int.toNat_natCast];omega
 have f:app' 16 ([]:List gW) (l.take (qF l y))=some (l.take (qF l y)):=by
  rw [bJ (by rw [List.length_nil,List.length_take];omega) (by decide)];rfl
 have a2:app' 16 (l.take (qF l y)) [y]=some (l.take (qF l y)++[y]):=bJ (by rw [List.length_take,List.length_singleton];omega) (by decide);have a3:app' 16 (l.take (qF l y)++[y]) (l.drop (qF l y))=some (l.take (qF l y)++[y]++l.drop (qF l y)):=bJ (by rw [List.length_append,List.length_take,List.length_singleton,List.length_drop];omega) (by decide);simp only [zK,aCx l b,zC,f,a,a2,a3]
 by_cases c:qF l y<l.length
 ·have d:l[qF l y]? =some l[qF l y]:=gE c;rw [yF c,zU,yS d,zC,zC,d,yV]
  by_cases e:l[qF l y]=y
  ·rw [if_pos e,if_pos (by rw [e])]
  ·rw [if_neg e,if_neg (by simpa using e)]
 ·have:qF l y=l.length:=by omega
  rw [this,yH,zQ,zC,zQ,if_neg];rw [List.getElem?_eq_none (Nat.le_refl _)];simp
theorem aTa (l:List gW) (y z:gW):z∈aBx l y↔z∈l\/z=y:=by
 unfold aBx;split
 ·rename_i h;constructor
  ·exact .inl
  ·rintro(a|rfl)
   ·exact a
   ·exact qS h
 ·rw [mA,mA,mS];constructor
  ·rintro((h|h)|h)
   ·exact .inl (List.mem_of_mem_take h)
   ·exact .inr h
   ·exact .inl (List.mem_of_mem_drop h)
  ·rintro(h|h)
   ·rw [<-List.take_append_drop (qF l y) l]at h;rcases mA.1 h with h|h
    ·exact .inl (.inl h)
    ·exact .inr h
   ·exact .inl (.inr h)
theorem aLx (l:List gW)(y:gW):(aBx l y).length<=l.length+1:=by
 unfold aBx;split;omega;rw [List.length_append,List.length_append,List.length_take,List.length_singleton,List.length_drop];omega
def bH (l:List fH)(base:Int):List gW:=l.foldl (λs x=>aBx (aBx s (gW.mk (base+x.Frame) 3)) (gW.mk (base+x.Frame) x.Word)) []
theorem aRl (l:List fH)(x:fH)(base:Int):bH (l++[x]) base=aBx (aBx (bH l base) (gW.mk (base+x.Frame) 3)) (gW.mk (base+x.Frame) x.Word):=by
 unfold bH;rw [List.foldl_append,List.foldl_cons,List.foldl_nil]
theorem rQ (l:List fH) (base:Int) (z:gW):z∈bH l base↔ ∃x∈l,z=gW.mk (base+x.Frame) 3\/z=gW.mk (base+x.Frame) x.Word:=by
 have: ∀(l:List fH) (s:List gW),z∈l.foldl (λs x=>aBx (aBx s (gW.mk (base+x.Frame) 3)) (gW.mk (base+x.Frame) x.Word)) s↔z∈s\/ ∃x∈l,z=gW.mk (base+x.Frame) 3\/z=gW.mk (base+x.Frame) x.Word:=by
  intro l
  induction l with
  |nil=>intro s;simp
  |cons x l c=>
   intro s;rw [List.foldl_cons,c,aTa,aTa];constructor
   ·rintro(((h|h)|h)|⟨y,b,a⟩)
    ·exact .inl h
    ·exact .inr ⟨x,List.mem_cons_self ..,.inl h⟩
    ·exact .inr ⟨x,List.mem_cons_self ..,.inr h⟩
    ·exact .inr ⟨y,List.mem_cons_of_mem _ b,a⟩
   ·rintro(h|⟨y,b,a⟩)
    ·exact .inl (.inl (.inl h))
    ·rcases List.mem_cons.1 b with rfl|b
     ·rcases a with a|a
      ·exact .inl (.inl (.inr a))
      ·exact .inl (.inr a)
     ·exact .inr ⟨y,b,a⟩
 have:=this l [];unfold bH;rw [this];simp
theorem aLt (l:List fH)(base:Int):(bH l base).length<=2*l.length:=by
 have: ∀(l:List fH) (s:List gW),(l.foldl (λs x=>aBx (aBx s (gW.mk (base+x.Frame) 3)) (gW.mk (base+x.Frame) x.Word)) s).length<=s.length+2*l.length:=by
  intro l
  induction l with
  |nil=>intro s;simp
  |cons x l a=>
   intro s;rw [List.foldl_cons];have b:=a (aBx (aBx s (gW.mk (base+x.Frame) 3)) (gW.mk (base+x.Frame) x.Word));have c:=aLx (aBx s (gW.mk (base+x.Frame) 3)) (gW.mk (base+x.Frame) x.Word);have d:=aLx s (gW.mk (base+x.Frame) 3);rw [List.length_cons];omega
 have:=this l [];unfold bH;simpa using this
structure aMm (x:fH):Prop where
 f0:0<=x.Frame
 f1:x.Frame<=15
 w0:4<=x.Word
 w1:x.Word<=60
 l0:0<=x.Low
 b1:1<=x.Bits
 lb:x.Low+x.Bits<=11
theorem words_eq (c:Cell) (base:Int) (l:0<=base) (m:base<=5000000) (o:c.Places.length<=8) (e: ∀x∈c.Places,aMm x):Fea c base=some (bH c.Places base):=by
 unfold Fea Fha;rw [xB (r:=some (bH c.Places base)) (λi=>(bH (c.Places.take i) base,(i:Int))) c.Places.length (by omega)]
 ·rfl
 ·rfl
 ·intro k i hi;have b:c.Places[i]? =some c.Places[i]:=gE hi;have d:=e _ (List.getElem_mem hi);have f0:=d.f0;have f1:=d.f1;have f:=aLt (c.Places.take i) base;rw [List.length_take]at f;have g:=aLx (bH (c.Places.take i) base) (gW.mk (base+c.Places[i].Frame) 3);simp only [zK,yF hi,zU,yS b,zC];rw [Go.OB.wrap_i64 (n:=base+c.Places[i].Frame) (by omega) (by omega)];have h:Fgp (base+c.Places[i].Frame) c.Places[i] (bH (c.Places.take i) base,0)=some (bH (c.Places.take (i+1)) base):=by
   unfold Fgp;refine xB (λj=>match j with
    |0=>(bH (c.Places.take i) base,0)
    |1=>(aBx (bH (c.Places.take i) base) (gW.mk (base+c.Places[i].Frame) 3),1)
    |_=>(bH (c.Places.take (i+1)) base,2)) 2 (by decide) rfl (λk j _=>?_) (λk=>rfl)
   have a:j=0\/j=1:=by omega
   rcases a with rfl|rfl
   ·simp only [zK];rw [show decide ((0:Int)<2)=true from rfl,zU,show at' ([3,c.Places[i].Word]:List Int) 0=some 3 from rfl,zC,aYd _ _ (by omega),zC];rfl
   ·simp only [zK];rw [show decide ((1:Int)<2)=true from rfl,zU,show at' ([3,c.Places[i].Word]:List Int) 1=some c.Places[i].Word from rfl,zC,aYd _ _ (by omega),zC,dV b,aRl];rfl
  rw [h,zC,fJ hi (by omega)]
 ·intro k;simp only [zK,yH,zQ,List.take_length]
def qH:gU:=gU.mk 0 (Arr.rep 64 0) (Arr.rep 64 0) false 0 false
def dJ (a:List gU)(n:Int):gU:=(a.find? λr=>decide (r.Number=n)).getD qH
def frN (r:gU)(k:Int):Nat:=(r.Frame.l.getD k.toNat 0).toNat
def stN (r:gU)(k:Int):Int:=r.States.l.getD k.toNat 0
structure qI (r:gU):Prop where
 fr: ∀x∈r.Frame.l,0<=x/\x<65536
 st: ∀x∈r.States.l,0<=x/\x<=3
theorem aWg:qI qH:=by
 refine⟨λx a=>?_,λx a=>?_⟩;have:x=0:=(List.mem_replicate.1 a).2;subst this;decide;have:x=0:=(List.mem_replicate.1 a).2;subst this;decide
theorem aXa {r:gU}(h:qI r){k:Int}(a:0<=k)(b:k<64):at' r.Frame.l k=some ((frN r k:Nat):Int)/\frN r k<65536:=by
 obtain⟨i,rfl⟩: ∃i:Nat,k=(i:Int):=⟨k.toNat,by omega⟩;have hi:i<r.Frame.l.length:=by rw [r.Frame.h];omega
 have:=h.fr _ (List.getElem_mem hi);have e:r.Frame.l.getD (i:Int).toNat 0=r.Frame.l[i]:=by rw [Int.toNat_natCast,List.getD_eq_getElem?_getD,gE hi];rfl
 unfold frN;rw [e,yS (gE hi)];exact⟨by congr 1;omega,by omega⟩
theorem aJz {r:gU}(h:qI r){k:Int}(a:0<=k)(b:k<64):at' r.States.l k=some (stN r k)/\0<=stN r k/\stN r k<=3:=by
 obtain⟨i,rfl⟩: ∃i:Nat,k=(i:Int):=⟨k.toNat,by omega⟩;have hi:i<r.States.l.length:=by rw [r.States.h];omega
 have:=h.st _ (List.getElem_mem hi);have e:r.States.l.getD (i:Int).toNat 0=r.States.l[i]:=by rw [Int.toNat_natCast,List.getD_eq_getElem?_getD,gE hi];rfl
 unfold stN;rw [e,yS (gE hi)];exact⟨rfl,this⟩
def loM (R:Int->gU)(base:Int)(l:List fH):Int:=l.foldl (λm x=>min (min m (stN (R (base+x.Frame)) x.Word)) (stN (R (base+x.Frame)) 3)) 3
def badM (a:Int)(R:Int->gU)(base:Int)(l:List fH):Bool:=l.any λx=>decide (((frN (R (base+x.Frame)) 3%2048:Nat):Int)≠a)
def vst (R:Int->gU)(base:Int)(v:Nat)(x:fH):Nat:=v*2^x.Bits.toNat+frN (R (base+x.Frame)) x.Word/2^x.Low.toNat%2^x.Bits.toNat
def wM (R:Int->gU)(base:Int)(l:List fH):Nat:=l.foldl (vst R base) 0
def tV (l:List fH):Nat:=(l.map λx=>x.Bits.toNat).sum
theorem foldl_snoc {a σ:Type}(f:σ->a->σ)(s:σ)(l:List a)(x:a):(l++[x]).foldl f s=f (l.foldl f s) x:=by rw [List.foldl_append,List.foldl_cons,List.foldl_nil]
theorem aNu (l:List fH)(x:fH):tV (l++[x])=tV l+x.Bits.toNat:=by unfold tV;rw [List.map_append,List.map_singleton,List.sum_append];simp
theorem aOd (l:List fH)(i:Nat):tV (l.take i)<=tV l:=by
 have h:tV l=tV (l.take i++l.drop i):=by rw [List.take_append_drop]
 rw [h];unfold tV;rw [List.map_append,List.sum_append];omega
theorem aGd (R:Int->gU)(base:Int)(l:List fH):wM R base l<2^tV l:=by
 have: ∀(l:List fH) (v s:Nat),v<2^s->l.foldl (vst R base) v<2^(s+tV l):=by
  intro l
  induction l with
  |nil=>intro v s h;simpa [tV]using h
  |cons x l a=>
   intro v s h;rw [List.foldl_cons];have b:vst R base v x<2^(s+x.Bits.toNat):=by
    unfold vst;have c:frN (R (base+x.Frame)) x.Word/2^x.Low.toNat%2^x.Bits.toNat<2^x.Bits.toNat:=Nat.mod_lt _ (Nat.two_pow_pos _);have hm:(v+1)*2^x.Bits.toNat<=2^s*2^x.Bits.toNat:=Nat.mul_le_mul_right _ h;rw [Nat.pow_add];rw [Nat.add_mul,Nat.one_mul]at hm;omega
   have:=a _ _ b;have e:tV (x::l)=x.Bits.toNat+tV l:=by unfold tV;rw [List.map_cons,List.sum_cons]
   rw [e,<-Nat.add_assoc];exact this
 have:=this l 0 0 (by decide);rw [Nat.zero_add]at this;exact this
theorem aWx {R:Int->gU}{base:Int}{x:fH}{v:Nat}(d:aMm x)(g:frN (R (base+x.Frame)) x.Word<65536)(c:v*2^x.Bits.toNat<4611686018427387904):
  jS .i64 (v:Int) x.Bits=some ((v*2^x.Bits.toNat:Nat):Int)/\jS .i64 1 x.Bits=some ((2^x.Bits.toNat:Nat):Int)/\IntKind.i64.wrap (((2^x.Bits.toNat:Nat):Int)-1)=((2^x.Bits.toNat:Nat):Int)-1/\
  wL .i64 ((frN (R (base+x.Frame)) x.Word:Nat):Int) x.Low=some ((frN (R (base+x.Frame)) x.Word/2^x.Low.toNat:Nat):Int)/\
  wL .i64 ((frN (R (base+x.Frame)) x.Word%2048:Nat):Int) x.Low=some ((frN (R (base+x.Frame)) x.Word%2048/2^x.Low.toNat:Nat):Int)/\
  (bits .or .i64 ((v*2^x.Bits.toNat:Nat):Int) (bits .and .i64 ((frN (R (base+x.Frame)) x.Word/2^x.Low.toNat:Nat):Int) (((2^x.Bits.toNat:Nat):Int)-1))=((vst R base v x:Nat):Int))/\
  (bits .or .i64 ((v*2^x.Bits.toNat:Nat):Int) (bits .and .i64 ((frN (R (base+x.Frame)) x.Word%2048/2^x.Low.toNat:Nat):Int) (((2^x.Bits.toNat:Nat):Int)-1))=((vst R base v x:Nat):Int)):=by
 have l0:=d.l0;have b1:=d.b1;have lb:=d.lb;obtain⟨b,h⟩: ∃b:Nat,x.Bits=(b:Int):=⟨x.Bits.toNat,by omega⟩;obtain⟨lo,e⟩: ∃lo:Nat,x.Low=(lo:Int):=⟨x.Low.toNat,by omega⟩;unfold vst;generalize frN (R (base+x.Frame)) x.Word=w at g⊢;rw [h]at c b1 lb⊢;rw [e]at l0 lb⊢;simp only [Int.toNat_natCast]at c⊢;have f:b<=11:=by omega
 have i:(2:Nat)^b<=2^11:=aCw f;have k:1<=(2:Nat)^b:=Nat.one_le_two_pow;have j:jS .i64 1 (b:Int)=some ((2^b:Nat):Int):=by
  have:=aJm (a:=1) (b:=b) (by omega) (by omega);rw [Nat.one_mul]at this;exact this
 have l:w/2^lo<=w:=Nat.div_le_self _ _;have m:w%2048/2^lo<=w%2048:=Nat.div_le_self _ _;have n:w%2048<2048:=Nat.mod_lt _ (by decide);have hm: ∀z:Nat,z%2^b<2^b:=λz=>Nat.mod_lt _ (Nat.two_pow_pos _)
 refine⟨aJm (by omega) c,j,Go.OB.wrap_i64 (by omega) (by omega),wR (by show lo<=64;omega),wR (by show lo<=64;omega),?_,?_⟩
 ·rw [aFw (by omega) (by omega),aTg c (hm _) (by omega)]
 ·rw [aFw (by omega) (by omega),part_bits (by omega),aTg c (hm _) (by omega)]
def aSa (p:Param)(v:Nat):Int×Bool:=(Fa5 p (v:Int)).getD (0,false)
def aKg (m:Map)(p:Param)(R:Int->gU)(base:Int)(l:List fH):Int×Int:=if (decide (loM R base l=0)||badM m.Version R base l)=true then(0,0)else if (aSa p (wM R base l)).2=true then((aSa p (wM R base l)).1,loM R base l+1)else(0,1)
theorem aWm {R:Int->gU}{base:Int}: ∀{l:List fH},(∀x∈l,aMm x/\qI (R (base+x.Frame)))->0<=loM R base l/\loM R base l<=3:=by
 intro l;have: ∀(l:List fH) (m:Int),(∀x∈l,aMm x/\qI (R (base+x.Frame)))->0<=m->m<=3->0<=l.foldl (λm x=>min (min m (stN (R (base+x.Frame)) x.Word)) (stN (R (base+x.Frame)) 3)) m/\l.foldl (λm x=>min (min m (stN (R (base+x.Frame)) x.Word)) (stN (R (base+x.Frame)) 3)) m<=3:=by
  intro l
  induction l with
  |nil=>intro m _ c d;exact⟨c,d⟩
  |cons x l g=>
   intro m h c d;obtain⟨e,f⟩:=h x (List.mem_cons_self ..);have a:=(aJz f (show 0<=x.Word by have:=e.w0;omega) (by have:=e.w1;omega)).2;have b:=(aJz f (show(0:Int)<=3 by decide) (by decide)).2;rw [List.foldl_cons];exact g _ (λy i=>h y (List.mem_cons_of_mem _ i)) (by omega) (by omega)
 intro h;exact this l 3 h (by decide) (by decide)
theorem mark_get {n:Int}(a:0<=n)(b:n<=3)(h:n≠0):kT ([(3,4),(2,3),(1,2)]:List (Int×Int)) n 0=n+1:=by
 have:n=1\/n=2\/n=3:=by omega
 rcases this with rfl|rfl|rfl<;>rfl
theorem read_eq (m:Map) (p:Param) (c:Cell) (A:Arr 16 gU) (R:Int->gU) (base:Int) (q:SzP p) (j:rE p=0) (I:c.Places.length<=8) (f: ∀x∈c.Places,aMm x/\qI (R (base+x.Frame))/\at' A.l x.Frame=some (R (base+x.Frame))) (r:tV c.Places=(nP p.Parts).toNat):
  Fdw m p c A=some (aKg m p R base c.Places):=by
 have s:=uH j;have t:=s.pt.sum;have a:Fe3 m c A (c.Places.length:Int) (3,0,false,0)=some (loM R base c.Places,((wM R base c.Places:Nat):Int),badM m.Version R base c.Places):=by
  unfold Fe3;refine xB (λi=>(loM R base (c.Places.take i),((wM R base (c.Places.take i):Nat):Int),badM m.Version R base (c.Places.take i),(i:Int))) c.Places.length (by omega) rfl (λk i hi=>?_) (λk=>?_)
  ·have g:c.Places[i]? =some c.Places[i]:=gE hi;obtain⟨b,e,u⟩:=f _ (List.getElem_mem hi);have w0:=b.w0;have w1:=b.w1;obtain⟨s1,-⟩:=aJz e (show 0<=c.Places[i].Word by omega) (by omega);obtain⟨s2,-⟩:=aJz e (show(0:Int)<=3 by decide) (by decide);obtain⟨f1,h⟩:=aXa e (show 0<=c.Places[i].Word by omega) (by omega);obtain⟨f2,_⟩:=aXa e (show(0:Int)<=3 by decide) (by decide);have y:wM R base (c.Places.take i)*2^c.Places[i].Bits.toNat<4611686018427387904:=by
    have J:=aGd R base (c.Places.take i);have z:tV (c.Places.take i)+c.Places[i].Bits.toNat<=40:=by
     have:=aOd c.Places (i+1);rw [dV g,aNu]at this;omega
    have B:wM R base (c.Places.take i)*2^c.Places[i].Bits.toNat<=2^tV (c.Places.take i)*2^c.Places[i].Bits.toNat:=Nat.mul_le_mul_right _ (by omega);rw [<-Nat.pow_add]at B;have K:(2:Nat)^(tV (c.Places.take i)+c.Places[i].Bits.toNat)<=2^40:=aCw z;omega
   obtain⟨C,D,E,F,-,G,-⟩:=aWx (R:=R) (base:=base) b h y;have m1:bits .and .u16 ((frN (R (base+c.Places[i].Frame)) 3:Nat):Int) 2047=((frN (R (base+c.Places[i].Frame)) 3%2048:Nat):Int):=by
    rw [aFo (m:=2048) 11 (by decide) (by decide) (by omega) (by omega)];omega
   simp only [zK,yF hi,zU,yS g,zC,u,s1,s2,f1,f2,m1];rw [Go.OB.wrap_i64 (n:=((frN (R (base+c.Places[i].Frame)) 3%2048:Nat):Int)) (by omega) (by omega),xY,zC,C,zC,Go.OB.wrap_i64 (n:=((frN (R (base+c.Places[i].Frame)) c.Places[i].Word:Nat):Int)) (by omega) (by omega),F,zC,D,zC,E,G,fJ hi (by omega),dV g];unfold loM wM badM;rw [foldl_snoc,foldl_snoc,List.any_append,List.any_cons,List.any_nil,Bool.or_false]
  ·simp only [zK,yH,zQ,List.take_length]
 obtain⟨v,o,d1,-,-⟩:=aPr q j (wM R base c.Places) (by have:=aGd R base c.Places;rw [r]at this;rw [vI];omega);have d:=aWm (R:=R) (base:=base) (l:=c.Places) λx b=>⟨(f x b).1,(f x b).2.1⟩
 unfold Fdw aKg;rw [zK,a,zC];simp only [zK,xY,zC,d1];have hd:aSa p (wM R base c.Places)=(v,o):=by unfold aSa;rw [d1];rfl
 rw [hd]
 cases hq:(decide (loM R base c.Places=0)||badM m.Version R base c.Places)with
 |true=>rfl
 |false=>
  have H:loM R base c.Places≠0:=by
   rw [Bool.or_eq_false_iff,decide_eq_false_iff_not]at hq;exact hq.1
  rw [zQ,if_neg (by decide),mark_get d.1 d.2 H]
  cases o<;>rfl
theorem aEx {a:Type}(n:Int)(f:gU->a)(fin:Option a): ∀(l:List gU) (i:Nat),dB (λ_ r=>if decide (r.Number=n)=true then some (some (f r))else none) fin l i=match l.find? λr=>decide (r.Number=n)with
  |some r=>some (f r)
  |none=>fin
 | [],_=>rfl
 |r::l,i=>by
  rw [dB]
  by_cases h:decide (r.Number=n)=true
  ·rw [if_pos h,List.find?_cons,h]
  ·rw [if_neg h,List.find?_cons,(by simpa using h:decide (r.Number=n)=false)];exact aEx n f fin l (i+1)
theorem aPx {l:List gU}{n k:Int} (b:0<=k) (c:k<64) (d:l.length<=9223372036854775807) (f: ∀r∈l,qI r):Fa0 l (gW.mk n k)=some (((frN (dJ l n) k%2048:Nat):Int),stN (dJ l n) k):=by
 unfold Fa0 Fiy
 repeat (first |rw [zK]|rw [xJ]|rw [zC])
 rw [xU l (λ_ r=>if decide (r.Number=n)=true then some (some (((frN r k%2048:Nat):Int),stN r k))else none) (some (0,0)) d]
 ·rw [aEx n (λr=>(((frN r k%2048:Nat):Int),stN r k))];unfold dJ
  cases l.find? λr=>decide (r.Number=n)with
  |some r=>rfl
  |none=>
   obtain⟨i,rfl⟩: ∃i:Nat,k=(i:Int):=⟨k.toNat,by omega⟩;have g:frN qH (i:Int)=0:=by
    unfold frN qH;rw [Int.toNat_natCast,List.getD_eq_getElem?_getD];show((List.replicate 64 (0:Int))[i]?.getD 0).toNat=0;rw [List.getElem?_replicate];split<;>rfl
   have h:stN qH (i:Int)=0:=by
    unfold stN qH;rw [Int.toNat_natCast,List.getD_eq_getElem?_getD];show(List.replicate 64 (0:Int))[i]?.getD 0=0;rw [List.getElem?_replicate];split<;>rfl
   show some ((0:Int),(0:Int))=some (((frN qH (i:Int)%2048:Nat):Int),stN qH (i:Int));rw [g,h];rfl
 ·intro j i r e hi;have a:=f r (qS e);obtain⟨f1,f2⟩:=aXa a b c;obtain⟨s1,-⟩:=aJz a b c;have m1:bits .and .i64 ((frN r k:Nat):Int) 2047=((frN r k%2048:Nat):Int):=by
   rw [aFn (m:=2048) 11 (by decide) (by decide) (by omega) (by omega)];omega
  simp only [zK,yF hi,zU,yS e,zC,fJ hi d,f1,s1];rw [Go.OB.wrap_i64 (n:=((frN r k:Nat):Int)) (by omega) (by omega),m1]
  cases decide (r.Number=n)<;>rfl
 ·intro j;simp only [zK,yH,zQ]
theorem aTx {e:Type} (a b:e->Int) (z:Int): ∀(l:List e) (m:Int),z<=l.foldl (λm x=>min (min m (a x)) (b x)) m↔z<=m/\ ∀x∈l,z<=a x/\z<=b x
 | [],m=>by simp
 |x::l,m=>by
  rw [List.foldl_cons,aTx a b z l];constructor
  ·rintro⟨f,d⟩;refine⟨by omega,λy c=>?_⟩;rcases List.mem_cons.1 c with rfl|c
   ·omega
   ·exact d y c
  ·rintro⟨f,d⟩;have:=d x (List.mem_cons_self ..);exact⟨by omega,λy c=>d y (List.mem_cons_of_mem _ c)⟩
theorem le_lo1 {d:Type} (a:d->Int) (z:Int): ∀(l:List d) (m:Int),z<=l.foldl (λm x=>min m (a x)) m↔z<=m/\ ∀x∈l,z<=a x
 | [],m=>by simp
 |x::l,m=>by
  rw [List.foldl_cons,le_lo1 a z l];constructor
  ·rintro⟨e,c⟩;refine⟨by omega,λy b=>?_⟩;rcases List.mem_cons.1 b with rfl|b
   ·omega
   ·exact c y b
  ·rintro⟨e,c⟩;have:=c x (List.mem_cons_self ..);exact⟨by omega,λy b=>c y (List.mem_cons_of_mem _ b)⟩
def loW (R:Int->gU)(ws:List gW):Int:=ws.foldl (λm w=>min m (stN (R w.Number) w.Word)) 3
def aIm (a:Int)(R:Int->gU)(w:gW):Bool:=(decide (stN (R w.Number) w.Word≠0)&&decide (w.Word=3))&&decide (((frN (R w.Number) w.Word%2048:Nat):Int)≠a)
theorem lo_same (R:Int->gU) (base:Int) (l:List fH):loW R (bH l base)=loM R base l:=by
 have c: ∀z,z<=loW R (bH l base)↔z<=loM R base l:=by
  intro z;unfold loW loM;rw [le_lo1 (λw:gW=>stN (R w.Number) w.Word),aTx (λx:fH=>stN (R (base+x.Frame)) x.Word) (λx:fH=>stN (R (base+x.Frame)) 3)];constructor
  ·rintro⟨f,d⟩;refine⟨f,λx e=>⟨?_,?_⟩⟩
   ·exact d (gW.mk (base+x.Frame) x.Word) ((rQ l base _).2 ⟨x,e,.inr rfl⟩)
   ·exact d (gW.mk (base+x.Frame) 3) ((rQ l base _).2 ⟨x,e,.inl rfl⟩)
  ·rintro⟨f,d⟩;refine⟨f,λw g=>?_⟩;obtain⟨x,e,rfl|rfl⟩:=(rQ l base w).1 g
   ·exact(d x e).2
   ·exact(d x e).1
 have a:=(c (loM R base l)).2 (Int.le_refl _);have b:=(c (loW R (bH l base))).1 (Int.le_refl _);omega
theorem bad_same {b:Int}{R:Int->gU}{base:Int}{l:List fH} (e: ∀x∈l,aMm x/\qI (R (base+x.Frame))) (g:loM R base l≠0):(bH l base).any (aIm b R)=badM b R base l:=by
 have h:=(aWm e).1;have d:=(aTx (λx:fH=>stN (R (base+x.Frame)) x.Word) (λx:fH=>stN (R (base+x.Frame)) 3) (loM R base l) l 3).1 (Int.le_refl _);rw [Bool.eq_iff_iff,List.any_eq_true];unfold badM;rw [List.any_eq_true];constructor;rintro⟨w,f,a⟩;obtain⟨x,c,rfl|rfl⟩:=(rQ l base w).1 f;unfold aIm at a;rw [Bool.and_eq_true]at a;exact⟨x,c,a.2⟩;unfold aIm at a;simp only [Bool.and_eq_true,decide_eq_true_eq]at a;have:=(e x c).1.w0;omega;rintro⟨x,c,a⟩;refine⟨gW.mk (base+x.Frame) 3,(rQ l base _).2 ⟨x,c,.inl rfl⟩,?_⟩;unfold aIm;have:=(d.2 x c).2;rw [Bool.and_eq_true,Bool.and_eq_true];refine⟨⟨dT ?_,rfl⟩,a⟩;show stN (R (base+x.Frame)) 3≠0;omega
theorem sample_eq (m:Map) (p:Param) (c:Cell) (g:List gU) (R:Int->gU) (base:Int) (D:SzP p) (B:rE p=0) (E:c.Places.length<=8) (F:0<=base) (C:base<=5000000) (d:g.length<=9223372036854775807) (e: ∀r∈g,qI r)
  (b: ∀x∈c.Places,aMm x/\qI (R (base+x.Frame))/\dJ g (base+x.Frame)=R (base+x.Frame)) (G:tV c.Places=(nP p.Parts).toNat) (H:at' m.Params c.Param=some p):
  Fd8 m c base g=some (aKg m p R base c.Places):=by
 have I:=uH B;have J:=I.pt.sum;have j: ∀x∈c.Places,aMm x/\qI (R (base+x.Frame)):=λx a=>⟨(b x a).1,(b x a).2.1⟩
 have K:=aWm j;have L:=aLt c.Places base;have o:(bH c.Places base).length<=9223372036854775807:=by omega
 obtain⟨v,q,d1,d2,-⟩:=aPr D B (wM R base c.Places) (by have:=aGd R base c.Places;rw [G]at this;rw [vI];omega);have hd:aSa p (wM R base c.Places)=(v,q):=by unfold aSa;rw [d1];rfl
 have t:Fes c base g (0,0)=some ((wM R base c.Places:Nat):Int):=by
  unfold Fes;refine xB (λi=>(((wM R base (c.Places.take i):Nat):Int),(i:Int))) c.Places.length (by omega) rfl (λk i hi=>?_) (λk=>?_)
  ·have z:c.Places[i]? =some c.Places[i]:=gE hi;obtain⟨a,M,N⟩:=b _ (List.getElem_mem hi);have w0:=a.w0;have w1:=a.w1;have f0:=a.f0;have f1:=a.f1;obtain⟨g1,A⟩:=aXa M (show 0<=c.Places[i].Word by omega) (by omega);have O:wM R base (c.Places.take i)*2^c.Places[i].Bits.toNat<4611686018427387904:=by
    have C:=aGd R base (c.Places.take i);have P:tV (c.Places.take i)+c.Places[i].Bits.toNat<=40:=by
     have:=aOd c.Places (i+1);rw [dV z,aNu]at this;omega
    have Q:wM R base (c.Places.take i)*2^c.Places[i].Bits.toNat<=2^tV (c.Places.take i)*2^c.Places[i].Bits.toNat:=Nat.mul_le_mul_right _ (by omega);rw [<-Nat.pow_add]at Q;have h4:(2:Nat)^(tV (c.Places.take i)+c.Places[i].Bits.toNat)<=2^40:=aCw P;omega
   obtain⟨S,T,X,-,Y,-,e5⟩:=aWx (R:=R) (base:=base) a A O;simp only [zK,yF hi,zU,yS z,zC];rw [Go.OB.wrap_i64 (n:=base+c.Places[i].Frame) (by omega) (by omega),aPx (by omega) (by omega) d e,zC,N];simp only;rw [S,zC,Y,zC,T,zC,X,e5,fJ hi (by omega),dV z];unfold wM;rw [foldl_snoc]
  ·simp only [zK,yH,zQ,List.take_length]
 have f: ∀w∈bH c.Places base,Fa0 g w=some (((frN (R w.Number) w.Word%2048:Nat):Int),stN (R w.Number) w.Word):=by
  intro w u;obtain⟨x,a,rfl|rfl⟩:=(rQ c.Places base w).1 u
  ·rw [aPx (by decide) (by decide) d e,(b x a).2.2]
  ·have:=(b x a).1.w0;have:=(b x a).1.w1;rw [aPx (by omega) (by omega) d e,(b x a).2.2]
 unfold Fd8;rw [words_eq c base F C E (λx a=>(b x a).1),zC,xJ];unfold Fjm;refine(qG (λ(i:Nat) (s:Int)=>(s,(i:Int))) (bH c.Places base) (goF (λ_ w=>if aIm m.Version R w=true then some (some (0,0))else none) (λs w=>min s (stN (R w.Number) w.Word)))
  (λs=>if s=0 then some (0,0)else some (if q=true then(v,IntKind.i64.wrap (s+1))else(0,1))) o (λk i s w u=>?_) (λk s=>?_) 3).trans ?_
 rotate_left 2
 ·rw [aEr,vF (λ_ w=>aIm m.Version R w)];show(if _ then _ else(if loW R (bH c.Places base)=0 then _ else some (if q=true then(v,IntKind.i64.wrap (loW R (bH c.Places base)+1))else(0,1))))=_;rw [lo_same];have y:rP (λ_ w=>aIm m.Version R w) (bH c.Places base) 0=(bH c.Places base).any (aIm m.Version R):=by
   have: ∀(l:List gW) (i:Nat),rP (λ_ w=>aIm m.Version R w) l i=l.any (aIm m.Version R):=by
    intro l
    induction l with
    |nil=>intro i;rfl
    |cons w l ih=>intro i;rw [rP,List.any_cons,ih]
   exact this _ 0
  rw [y];unfold aKg;rw [hd]
  by_cases c0:loM R base c.Places=0
  ·rw [dT c0,Bool.true_or,if_pos rfl,if_pos c0];split<;>rfl
  ·rw [qD c0,Bool.false_or,if_neg c0,bad_same j c0]
   cases badM m.Version R base c.Places with
   |true=>rfl
   |false=>
    rw [Go.OB.wrap_i64 (by omega) (by omega)]
    cases q<;>rfl
 ·have hi:=(gS.1 u).1;simp only [zK,yF hi,zU,yS u,zC,fJ hi o,f w (qS u),dM];unfold goF;show gI (aIm m.Version R w) _ _=_
  cases h:aIm m.Version R w<;>simp only [h]<;>rfl
 ·simp only [zK,yH,zQ];rw [yV]
  by_cases c0:s=0
  ·rw [if_pos c0,if_pos c0]
  ·rw [if_neg c0,if_neg c0,t,zC,H,zC,d2,zC];simp only
   cases q<;>rfl
theorem aJt {p:Param}(a:bK p){s:Int}(h:s∈dI p):0<=s/\s<=15/\ ∀y∈p.Parts,¬16<=IntKind.i64.wrap (s+y.Frame):=by
 unfold dI at h;obtain⟨c,b⟩:=List.mem_filter.1 h;obtain⟨i,hi,d⟩:=List.mem_iff_getElem.1 c;have e:=aUy (gE hi);have f:=(aAu a).2.1 i hi;have g:=aJf a;have:(0:Int)<=(i:Int)*p.Every:=Int.mul_nonneg (by omega) (by omega);have l:=a.f0;rw [d]at e;refine⟨by omega,by omega,λy j k=>?_⟩;unfold aEb at b;rw [Bool.not_eq_true',List.any_eq_false]at b;exact b y j (dT k)
theorem place_ok {p:Param}(d:tJ p){s:Int}(j:s∈dI p){t:Nat}(m:t<p.Times.toNat){x:fH}(i:x∈dN p s t):aMm x:=by
 obtain⟨s0,_,s2⟩:=aJt d.tm j;unfold dN at i;obtain⟨y,e,rfl⟩:=List.mem_map.1 i;have f:=aLz (d.pt.all y e);have g:=s2 y e;rw [Go.OB.wrap_i64 (by omega) (by omega)]at g;have a:=d.tf;unfold tfM at a;split at a
 ·cases a
 split at a
 ·cases a
 rename_i k;have b:sD p y=false:=by
  cases h:sD p y with
  |false=>rfl
  |true=>exact absurd (List.any_eq_true.2 ⟨y,e,h⟩) k
 unfold sD at b;rw [Bool.or_eq_false_iff,decide_eq_false_iff_not,decide_eq_false_iff_not]at b;have c:=d.tm.s0;have l:(t:Int)*p.Step<=(p.Times-1)*p.Step:=Int.mul_le_mul_of_nonneg_right (by omega) c;have o:0<=(t:Int)*p.Step:=Int.mul_nonneg (by omega) c;unfold aAb;rw [Go.OB.wrap_i64 (n:=s+y.Frame) (by omega) (by omega),Go.OB.wrap_i64 (n:=(t:Int)*p.Step) (by omega) (by omega),Go.OB.wrap_i64 (by omega) (by omega)];exact⟨by show 0<=s+y.Frame;omega,by show s+y.Frame<=15;omega,by show 4<=y.Word+(t:Int)*p.Step;omega,by show y.Word+(t:Int)*p.Step<=60;omega,f.2.2.2.2.1,f.2.2.2.2.2.2.1,f.2.2.2.2.2.2.2⟩
theorem aRf {p:Param}(a:tJ p)(s t:Int):tV (dN p s t)=(nP p.Parts).toNat/\(dN p s t).length<=8:=by
 have c:=a.pt.n8;refine⟨?_,by unfold dN;rw [List.length_map];exact c⟩;have h:=aJl p.Parts 0 a.pt.all (by omega) (by omega);have e:nP p.Parts=(p.Parts.map Part.Bits).sum:=by unfold nP;rw [h.1];omega
 rw [e];unfold tV dN;rw [List.map_map];have: ∀l:List Part,(∀y∈l,kV y=false)->((l.map ((λx:fH=>x.Bits.toNat)∘aAb p s t)).sum:Int)=(l.map Part.Bits).sum:=by
  intro l
  induction l with
  |nil=>intro _;rfl
  |cons y l d=>
   intro b;have g:=aLz (b y (List.mem_cons_self ..));rw [List.map_cons,List.sum_cons,List.map_cons,List.sum_cons,Int.natCast_add,d λz f=>b z (List.mem_cons_of_mem _ f)];have:(((λx:fH=>x.Bits.toNat)∘aAb p s t) y:Int)=y.Bits:=by
    show((y.Bits.toNat:Nat):Int)=y.Bits;omega
   omega
 have:=this p.Parts a.pt.all;omega
theorem aDu {p:Param}{b:Int}{i:Nat}{c:Cell} (l:List Int) (h:(cellsS p b l)[i]? =some c): ∃s,l[i/p.Times.toNat]? =some s/\c=Cell.mk b (i:Int) s (dN p s ((i%p.Times.toNat:Nat):Int))/\i%p.Times.toNat<p.Times.toNat:=by
 have: ∀(l:List Int) (cs:List Cell),(l.foldl (λcs s=>cs++aY p b s cs.length p.Times.toNat) cs)[i]? =some c->cs.length<=i->
   ∃s,l[(i-cs.length)/p.Times.toNat]? =some s/\c=Cell.mk b (i:Int) s (dN p s (((i-cs.length)%p.Times.toNat:Nat):Int))/\(i-cs.length)%p.Times.toNat<p.Times.toNat:=by
  intro l
  induction l with
  |nil=>intro cs a f;rw [List.foldl_nil,List.getElem?_eq_none f]at a;cases a
  |cons s l g=>
   intro cs a f;rw [List.foldl_cons]at a
   by_cases c2:i<cs.length+p.Times.toNat
   ·have k:0<p.Times.toNat:=by omega
    have m:(i-cs.length)/p.Times.toNat=0:=Nat.div_eq_of_lt (by omega);have n:(i-cs.length)%p.Times.toNat=i-cs.length:=Nat.mod_eq_of_lt (by omega);rw [m,n];refine⟨s,rfl,?_,by omega⟩;have d: ∀(l:List Int) (cs:List Cell),i<cs.length->(l.foldl (λcs s=>cs++aY p b s cs.length p.Times.toNat) cs)[i]? =cs[i]? :=by
     intro l
     induction l with
     |nil=>intro cs _;rfl
     |cons s l g=>
      intro cs j;rw [List.foldl_cons,g _ (by rw [List.length_append];omega),List.getElem?_append_left j]
    rw [d l _ (by rw [List.length_append,mD];omega),List.getElem?_append_right f]at a;unfold aY at a;rw [List.getElem?_map,List.getElem?_range (by omega)]at a;simp only [Option.map_some,Option.some.injEq]at a;rw [<-a]
    congr 1
    omega
   ·have:=g _ a (by rw [List.length_append,mD];omega);rw [List.length_append,mD]at this;obtain⟨o,g1,g2,g3⟩:=this;have k:0<p.Times.toNat:=by omega
    have e:i-cs.length=(i-(cs.length+p.Times.toNat))+p.Times.toNat:=by omega
    refine⟨o,?_,?_,?_⟩
    ·rw [e,Nat.add_div_right _ k];simpa using g1
    ·rw [e,Nat.add_mod_right];exact g2
    ·rw [e,Nat.add_mod_right];exact g3
 have:=this l [] h (Nat.zero_le _);simpa using this
def qR (p:Param)(base:Int)(c:Cell):Int:=64*(base+c.Frame)+64*(c.Index%p.Times)/p.Times
theorem aUz {p:Param}(b:tJ p){base:Int}(_:0<=base)(_:base<=5000000){a:Int}{c:Cell}(g:c∈gV p a):
    0<=c.Frame/\c.Frame<=15/\0<=c.Index/\c.Index<912/\0<=c.Index%p.Times/\c.Index%p.Times<=56/\0<=64*(c.Index%p.Times)/p.Times/\64*(c.Index%p.Times)/p.Times<=3584:=by
 obtain⟨i,hi,rfl⟩:=List.mem_iff_getElem.1 g;obtain⟨s,g1,g2,g3⟩:=aDu (dI p) (gE hi);have t1:=b.tm.t1;have t2:=b.tm.t2;have d:=aJt b.tm (qS g1);have f:(gV p a).length<=912:=aF b.tm a;have e:(gV p a)[i]=Cell.mk a (i:Int) s (dN p s ((i%p.Times.toNat:Nat):Int)):=g2;rw [e];show 0<=s/\s<=15/\0<=(i:Int)/\(i:Int)<912/\0<=(i:Int)%p.Times/\(i:Int)%p.Times<=56/\0<=64*((i:Int)%p.Times)/p.Times/\64*((i:Int)%p.Times)/p.Times<=3584;have m0:0<=(i:Int)%p.Times:=Int.emod_nonneg _ (by omega);have m1:(i:Int)%p.Times<p.Times:=Int.emod_lt_of_pos _ (by omega);have d0:0<=64*((i:Int)%p.Times)/p.Times:=Int.ediv_nonneg (by omega) (by omega);have d1:64*((i:Int)%p.Times)/p.Times<=64*((i:Int)%p.Times):=Int.ediv_le_self _ (by omega);exact⟨d.1,d.2.1,by omega,by omega,m0,by omega,d0,by omega⟩
theorem aYr {a b:Int}(c:0<=a)(d:1<=b):jM a b=some (a%b):=by
 unfold jM;rw [if_neg (by omega),Int.tmod_eq_emod_of_nonneg c]
theorem qO {a b:Int}(c:0<=a)(d:a<=4611686018427387904)(e:1<=b):uG .i64 a b=some (a/b):=by
 unfold uG;have f:0<=a/b:=Int.ediv_nonneg c (by omega);have g:a/b<=a:=Int.ediv_le_self _ c;rw [if_neg (by omega),Int.tdiv_eq_ediv_of_nonneg c,Go.OB.wrap_i64 (by omega) (by omega)]
theorem times_l' {p:Param} (b:tJ p) {base:Int} (e:0<=base) (f:base<=5000000) (a:Int):Fdk p (gV p a) base=some ((gV p a).map (qR p base)):=by
 have c:(gV p a).length<=912:=aF b.tm a;have t1:=b.tm.t1;unfold Fdk Fh4
 repeat (first |rw [zK]|rw [xJ]|rw [zC])
 rw [xB (r:=some ((gV p a).map (qR p base))) (λi=>(((gV p a).take i).map (qR p base),(i:Int))) (gV p a).length (by omega)]
 ·rfl
 ·rfl
 ·intro k i hi;have d:(gV p a)[i]? =some (gV p a)[i]:=gE hi;obtain⟨_,_,g,_,_,_,_,_⟩:=aUz b e f (List.getElem_mem hi);simp only [zK,yF hi,zU,yS d,zC];rw [aYr g t1,zC,Go.OB.wrap_i64 (n:=64*((gV p a)[i].Index%p.Times)) (by omega) (by omega),qO (by omega) (by omega) t1,zC,
   Go.OB.wrap_i64 (n:=base+(gV p a)[i].Frame) (by omega) (by omega),Go.OB.wrap_i64 (n:=64*(base+(gV p a)[i].Frame)) (by omega) (by omega),Go.OB.wrap_i64 (n:=64*(base+(gV p a)[i].Frame)+_) (by omega) (by omega),
   bJ (by rw [List.length_map,List.length_take,List.length_singleton];omega) (by decide),zC,fJ hi (by omega),dV d,List.map_append,List.map_singleton]
  rfl
 ·intro k;simp only [zK,yH,zQ,List.take_length]
theorem stL_nodup {p:Param}(c:bK p):(stL p).Nodup:=by
 unfold stL;have d:=aJf c;refine List.Pairwise.map _ (λa b h=>?_) List.nodup_range;intro _;apply h;have:(a:Int)*p.Every=(b:Int)*p.Every:=by omega
 have:=Int.eq_of_mul_eq_mul_right (by omega:p.Every≠0) this;omega
theorem aOs {p:Param}(a:bK p):(dI p).Nodup:=List.Pairwise.filter _ (stL_nodup a)
theorem aNd {e:Type}: ∀{l:List e},l.Nodup-> ∀{i j:Nat}{x:e},l[i]? =some x->l[j]? =some x->i=j
 | [],_,i,j,x,h,_=>by simp at h
 |y::l,f,i,j,x,c,d=>by
  obtain⟨a,b⟩:=List.nodup_cons.1 f
  cases i with
  |zero=>
   cases j with
   |zero=>rfl
   |succ j=>
    simp at c d;subst c;exact absurd (qS d) a
  |succ i=>
   cases j with
   |zero=>
    simp at c d;subst d;exact absurd (qS c) a
   |succ j=>simp at c d;rw [aNd b c d]
def aVl (T i j:Nat):Nat:=if j<i/T then T else if j=i/T then i%T else 0
theorem div_step {T i:Nat} (b:0<T):(i%T+1=T/\(i+1)/T=i/T+1/\(i+1)%T=0)\/(i%T+1<T/\(i+1)/T=i/T/\(i+1)%T=i%T+1):=by
 have d:=Nat.div_add_mod i T;have f:=Nat.mod_lt i b;by_cases c:i%T+1=T;left;have e:i+1=T*(i/T+1):=by rw [Nat.mul_add,Nat.mul_one];omega
 refine⟨c,?_,?_⟩;rw [e,Nat.mul_div_cancel_left _ b];rw [e];exact Nat.mul_mod_right _ _;right;have e:i+1=T*(i/T)+(i%T+1):=by omega
 have a:i%T+1<T:=by omega
 refine⟨a,?_,?_⟩;rw [e,Nat.mul_add_div b,Nat.div_eq_of_lt a,Nat.add_zero];rw [e,Nat.mul_add_mod,Nat.mod_eq_of_lt a]
theorem cnt_step {T i j:Nat} (d:0<T):aVl T (i+1) j=if i/T=j then i%T+1 else aVl T i j:=by
 unfold aVl;rcases div_step (i:=i) d with ⟨e,a,b⟩|⟨e,a,b⟩
 ·rw [a,b]
  by_cases c:i/T=j
  ·rw [if_pos c,if_pos (by omega)];omega
  ·rw [if_neg c]
   by_cases c2:j<i/T
   ·rw [if_pos c2,if_pos (by omega)]
   ·rw [if_neg c2,if_neg (show¬j<i/T+1 by omega),if_neg (show¬j=i/T by omega)];split<;>rfl
 ·rw [a,b]
  by_cases c:i/T=j
  ·rw [if_pos c,if_neg (by omega),if_pos (by omega)]
  ·rw [if_neg c]
   by_cases c2:j<i/T
   ·rw [if_pos c2,if_pos c2]
   ·rw [if_neg c2,if_neg c2,if_neg (show¬j=i/T by omega),if_neg (show¬j=i/T by omega)]
theorem times_5 {p:Param} (h:tJ p) {base:Int} (B:0<=base) (C:base<=5000000) (a:Int):Fcd p (gV p a) base=some ((gV p a).map (qR p base)):=by
 have A:(gV p a).length<=912:=aF h.tm a;have t1:=h.tm.t1;have t2:=h.tm.t2;have D:0<p.Times.toNat:=by omega
 have q: ∃r,Fgv p (gV p a) base ([],0,[])=some r/\r=(gV p a).map (qR p base):=by
  unfold Fgv;refine aAx (λ(i:Nat) (s:List Int×List (Int×Int))=>(s.1,(i:Int),s.2)) (gV p a)
   (λi s=>s.1=((gV p a).take i).map (qR p base)/\ ∀(j:Nat) (x:Int),(dI p)[j]? =some x->kT s.2 x 0=((aVl p.Times.toNat i j:Nat):Int)) (λr=>r=(gV p a).map (qR p base)) (by omega)
   (λk i s c m hi t=>?_) (λk s t=>?_) ([],[]) ⟨rfl,λj x u=>?_⟩
  ·obtain⟨s1,s2⟩:=s;obtain⟨d,f⟩:=t;simp only at d f;obtain⟨E,F,_,_,_,_,_,_⟩:=aUz h B C (qS m);obtain⟨x,g1,g2,g3⟩:=aDu (dI p) m;have u:=f _ x g1;have g:c.Frame=x:=by rw [g2]
   have v:c.Index=(i:Int):=by rw [g2]
   have l:aVl p.Times.toNat i (i/p.Times.toNat)=i%p.Times.toNat:=by unfold aVl;rw [if_neg (by omega),if_pos rfl]
   rw [l]at u;have b:((i%p.Times.toNat:Nat):Int)=c.Index%p.Times:=by
    rw [v,Int.natCast_emod]
    congr 1;omega
   have w:c.Index%p.Times+1=((i%p.Times.toNat+1:Nat):Int):=by rw [<-b];omega
   have G:0<=x/\x<=15:=by rw [<-g];exact⟨E,F⟩
   refine⟨(s1++[qR p base c],nV s2 x ((i%p.Times.toNat+1:Nat):Int)),⟨?_,?_⟩,?_⟩
   ·show s1++[qR p base c]=_;rw [d,dV m,List.map_append,List.map_singleton]
   ·intro j y o;show kT (nV s2 x _) y 0=_;rw [aKy,cnt_step D]
    by_cases e:x=y
    ·subst e;rw [if_pos rfl,if_pos (aNd (aOs h.tm) g1 o)]
    ·rw [if_neg e,if_neg,f j y o];intro H;rw [H]at g1;rw [g1]at o;exact e (by simpa using o)
   ·simp only [zK,yF hi,zU,yS m,zC,g,u];rw [b,Go.OB.wrap_i64 (n:=64*(c.Index%p.Times)) (by omega) (by omega),qO (by omega) (by omega) t1,zC];rw [Go.OB.wrap_i64 (n:=base+x) (by omega) (by omega),Go.OB.wrap_i64 (n:=64*(base+x)) (by omega) (by omega),Go.OB.wrap_i64 (n:=64*(base+x)+_) (by omega) (by omega)];rw [bJ (by rw [d,List.length_map,List.length_take,List.length_singleton];omega) (by decide),zC,fJ hi (by omega),Go.OB.wrap_i64 (n:=c.Index%p.Times+1) (by omega) (by omega),w,<-g];rfl
  ·refine⟨s.1,?_,?_⟩
   ·simp only [zK,yH,zQ]
   ·rw [t.1,List.take_length]
  ·show(0:Int)=_;unfold aVl;rw [Nat.zero_div,Nat.zero_mod,if_neg (by omega)];split<;>rfl
 obtain⟨r,I,z⟩:=q;unfold Fcd;rw [I,zC,z]
end Go.Lf
