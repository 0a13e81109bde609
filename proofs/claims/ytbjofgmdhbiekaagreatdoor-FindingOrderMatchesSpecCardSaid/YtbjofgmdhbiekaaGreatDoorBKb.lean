/- Laws that the claim stands on; no condition beyond those stated. -/
import Derived.Test.YtbjofgmdhbiekaaGreatDoorBKa
import Derived.Test.YtbjofgmdhbiekaaGreatDoorBAa
namespace Go.Lf
open Go.RowKit Go.OB Go.Fr1
def goF {a β σ:Type}(q:Nat->a->Option (Option β))(u:σ->a->σ):Nat->a->σ->σ ⊕ Option β:=λi x s=>match q i x with
 |some r=> .inr r
 |none=> .inl (u s x)
theorem aDl {a β σ:Type}(q:Nat->a->Option (Option β))(u:σ->a->σ)(fin:σ->Option β): ∀(l:List a) (i:Nat) (s:σ),
  aP (goF q u) fin l i s=cZ q (fin (l.foldl u s)) l i
 | [],i,s=>rfl
 |x::l,i,s=>by
  rw [aP,cZ,List.foldl_cons,goF]
  cases q i x with
  |some r=>rfl
  |none=>exact aDl q u fin l (i+1) _
def stF (f:List Int):Nat->Int->Option (Option Int):=λi s=>if cO s 0 3=true then some (some 9)else if ((decide (s=0)&&decide (f.getD i 0≠0))||decide (4095<f.getD i 0))=true then some (some 2)else none
def aHu:Int×Int×Int×Int->Int->Int×Int×Int×Int:=λc s=>if s=3 then(IntKind.i64.wrap (c.1+1),c.2.1,c.2.2.1,c.2.2.2)else if s=2 then(c.1,c.2.1,IntKind.i64.wrap (c.2.2.1+1),c.2.2.2)else if s=1 then(c.1,IntKind.i64.wrap (c.2.1+1),c.2.2.1,c.2.2.2)else(c.1,c.2.1,c.2.2.1,IntKind.i64.wrap (c.2.2.2+1))
theorem aEb: ∀(l:List Int) (a b c d:Nat),a+b+c+d+l.length<=1000->l.foldl aHu ((a:Int),(b:Int),(c:Int),(d:Int))=(((a+l.countP (λs=>decide (s=3)):Nat):Int),((b+l.countP (λs=>decide (s=1)):Nat):Int),((c+l.countP (λs=>decide (s=2)):Nat):Int),((d+l.countP (λs=> !(decide (s=3)||decide (s=2)||decide (s=1))):Nat):Int))
 | [],a,b,c,d,_=>by simp
 |s::l,a,b,c,d,h=>by
  rw [List.length_cons]at h;rw [List.foldl_cons];unfold aHu;simp only [List.countP_cons]
  by_cases e:s=3
  ·subst e;rw [if_pos rfl,wrap_i64 (by omega) (by omega)];have:=aEb l (a+1) b c d (by omega);rw [Int.natCast_add,Int.natCast_one]at this;rw [show(λc s=>if s=3 then(IntKind.i64.wrap (c.1+1),c.2.1,c.2.2.1,c.2.2.2)else if s=2 then(c.1,c.2.1,IntKind.i64.wrap (c.2.2.1+1),c.2.2.2)else if s=1 then(c.1,IntKind.i64.wrap (c.2.1+1),c.2.2.1,c.2.2.2)else(c.1,c.2.1,c.2.2.1,IntKind.i64.wrap (c.2.2.2+1)):Int×Int×Int×Int->Int->Int×Int×Int×Int)=aHu from rfl,this];simp;omega
  ·rw [if_neg e]
   by_cases f:s=2
   ·subst f;rw [if_pos rfl,wrap_i64 (by omega) (by omega)];have:=aEb l a b (c+1) d (by omega);rw [Int.natCast_add c,Int.natCast_one]at this;rw [show(λc s=>if s=3 then(IntKind.i64.wrap (c.1+1),c.2.1,c.2.2.1,c.2.2.2)else if s=2 then(c.1,c.2.1,IntKind.i64.wrap (c.2.2.1+1),c.2.2.2)else if s=1 then(c.1,IntKind.i64.wrap (c.2.1+1),c.2.2.1,c.2.2.2)else(c.1,c.2.1,c.2.2.1,IntKind.i64.wrap (c.2.2.2+1)):Int×Int×Int×Int->Int->Int×Int×Int×Int)=aHu from rfl,this];simp;omega
   ·rw [if_neg f]
    by_cases g:s=1
    ·subst g;rw [if_pos rfl,wrap_i64 (by omega) (by omega)];have:=aEb l a (b+1) c d (by omega);rw [Int.natCast_add b,Int.natCast_one]at this;rw [show(λc s=>if s=3 then(IntKind.i64.wrap (c.1+1),c.2.1,c.2.2.1,c.2.2.2)else if s=2 then(c.1,c.2.1,IntKind.i64.wrap (c.2.2.1+1),c.2.2.2)else if s=1 then(c.1,IntKind.i64.wrap (c.2.1+1),c.2.2.1,c.2.2.2)else(c.1,c.2.1,c.2.2.1,IntKind.i64.wrap (c.2.2.2+1)):Int×Int×Int×Int->Int->Int×Int×Int×Int)=aHu from rfl,this];simp;omega
    ·rw [if_neg g,wrap_i64 (by omega) (by omega)];have:=aEb l a b c (d+1) (by omega);rw [Int.natCast_add d,Int.natCast_one]at this;rw [show(λc s=>if s=3 then(IntKind.i64.wrap (c.1+1),c.2.1,c.2.2.1,c.2.2.2)else if s=2 then(c.1,c.2.1,IntKind.i64.wrap (c.2.2.1+1),c.2.2.2)else if s=1 then(c.1,IntKind.i64.wrap (c.2.1+1),c.2.2.1,c.2.2.2)else(c.1,c.2.1,c.2.2.1,IntKind.i64.wrap (c.2.2.2+1)):Int×Int×Int×Int->Int->Int×Int×Int×Int)=aHu from rfl,this];simp [g,f,e];omega
theorem aBe {a:Type}(p:a->Bool)(l:List a):decide (0<l.countP p)=l.any p:=by
 rw [Bool.eq_iff_iff,decide_eq_true_eq,List.countP_pos_iff,List.any_eq_true]
theorem aOx {a:Type}(p q:a->Bool): ∀l:List a,(l.any p||l.any q)=l.any λx=>p x||q x
 | []=>rfl
 |x::l=>by
  rw [List.any_cons,List.any_cons,List.any_cons,<-aOx p q l]
  cases p x<;>cases q x<;>cases l.any p<;>cases l.any q<;>rfl
theorem someS_eq (l:List Int)(a b:Int)(c:l.length<=9223372036854775807):Fcd l a b=some (l.any λy=>decide (y=a)||decide (y=b)):=by
 unfold Fcd Fe3 Fjm;rw [yO,zK,jS l (λy=>decide (y=a)||decide (y=b)) c (λk _ _ e d=>by simp only [zK,yK d,zU,yY e,zC,fQ d c,Fgc,wB]) (λk=>by simp only [zK,yN,zQ]),zC,zK,qA]
theorem allS_eq (l:List Int)(a:Int)(b:l.length<=9223372036854775807):Fco l a=some (l.any λy=>decide (y≠a)):=by
 unfold Fco Fey Fiv;rw [yO,zK,jS l (λy=>decide (y≠a)) b (λk _ _ d c=>by simp only [zK,yK c,zU,yY d,zC,fQ c b,Fe7]) (λk=>by simp only [zK,yN,zQ]),zC,zK,qA]
def SzR (r:gV):Prop:= ∃(g:List Nat) (h:g.length=64),Small g/\r.Frame=en g h
def sndM (r:gV)(g:List Nat):Bool:=r.Sound&&(!(decide (qF g)&&decide ((aJx g).1=r.Number))||(r.States.l.any λy=>decide (y=0)||decide (y=1)))
def aRw (r:gV)(g:List Nat):Int:=if sndM r g=true then 2 else if (!r.Sound&&(r.States.l.any λy=>decide (y=3)||decide (y=2)))=true then 2 else if (decide (r.Copies<0)||((decide (r.Copies=0)&&r.Sound)&& !(r.States.l.any λy=>decide (y≠3))))=true then 9 else if (r.Conflict&&r.Sound)=true then 2 else 0
theorem aWf (f:List Int) (n:Int): ∀(l:List Int) (i:Nat),∃v,cZ (stF f) (some n) l i=some v
 | [],i=>⟨n,rfl⟩
 |s::l,i=>by
  rw [cZ];have c:=aWf f n l (i+1);unfold stF
  by_cases a:cO s 0 3=true
  ·rw [if_pos a];exact⟨9,rfl⟩
  ·rw [if_neg a]
   by_cases b:((decide (s=0)&&decide (f.getD i 0≠0))||decide (4095<f.getD i 0))=true
   ·rw [if_pos b];exact⟨2,rfl⟩
   ·rw [if_neg b];exact c
def aQy (r:gV)(g:List Nat):Int:=if cO r.Number 0 4194303=true then 9 else(cZ (stF r.Frame.l) (some (aRw r g)) r.States.l 0).getD 0
theorem aPu (r:gV)(g:List Nat)(h:cO r.Number 0 4194303=false):cZ (stF r.Frame.l) (some (aRw r g)) r.States.l 0=some (aQy r g):=by
 unfold aQy;rw [h,if_neg (by decide)];obtain⟨_,a⟩:=aWf r.Frame.l (aRw r g) r.States.l 0;rw [a];rfl
theorem fr_at (r:gV){i:Nat}(hi:i<64):at' r.Frame.l (i:Int)=some (r.Frame.l.getD i 0):=by
 rw [aBw,List.getD_eq_getElem?_getD,gE (by rw [r.Frame.h];exact hi)];rfl
theorem rest_l (r:gV) (g:List Nat) (h:g.length=64) (c:Small g) (e:r.Frame=en g h):Fbd r=some (aQy r g):=by
 have a:r.States.l.length<=9223372036854775807:=by rw [r.States.h];decide
 unfold Fbd;simp only [vwi,zC,zK,yO,nwi];show gJ (cO r.Number 0 4194303) _ _=_
 cases hv:cO r.Number 0 4194303 with
 |true=>unfold aQy;rw [hv];rfl
 |false=>
  rw [zQ,<-aPu r g hv];unfold Fka;refine xY r.States.l _ _ a (λk i s f d=>?_) (λk=>?_)
  ·have hi:i<64:=by rw [<-r.States.h];exact d
   have b:decide ((i:Int)<64)=true:=dT (by omega);simp only [zK,b,zU,yY f,zC,fQ d a,vwi,nwi,fr_at r hi,dW,wB];show gJ (cO s 0 3) _ _=_;unfold stF
   cases cO s 0 3 with
   |true=>rfl
   |false=>
    rw [zQ,if_neg (by decide)]
    cases((decide (s=0)&&decide (r.Frame.l.getD i 0≠0))||decide (4095<r.Frame.l.getD i 0))<;>rfl
  ·have b:decide (((r.States.l.length:Nat):Int)<64)=false:=qD (by rw [r.States.h];omega);simp only [zK,b,zQ,Fga,Feq,Fea,Ffn,e,Number_eq c,sound_eq c,zC,someS_eq _ _ _ a,allS_eq _ _ a,dW,wB];show gJ (sndM r g) _ _=_;unfold aRw
   cases sndM r g with
   |true=>rfl
   |false=>
    rw [zQ,if_neg (by decide)]
    cases(!r.Sound&&(r.States.l.any λy=>decide (y=3)||decide (y=2)))with
    |true=>rfl
    |false=>
     rw [zQ,if_neg (by decide)]
     cases(decide (r.Copies<0)||((decide (r.Copies=0)&&r.Sound)&& !(r.States.l.any λy=>decide (y≠3))))with
     |true=>rfl
     |false=>
      rw [zQ,if_neg (by decide)]
      cases(r.Conflict&&r.Sound)<;>rfl
theorem aWr {f:List Int}{i:Nat}{s:Int} (h:stF f i s=none):0<=s/\s<=3:=by
 unfold stF at h;split at h;cases h;rename_i c;exact aBm.1 (by simpa using c)
theorem rest_4 (r:gV) (g:List Nat) (h:g.length=64) (u:Small g) (B:r.Frame=en g h):Fbz r=some (aQy r g):=by
 have w:r.States.l.length<=9223372036854775807:=by rw [r.States.h];decide
 unfold Fbz;have C:decide (4194304<=r.Number)=decide (4194303<r.Number):=decide_eq_decide.2 (by omega);simp only [zC,zK,yO,wB,C];show gJ (cO r.Number 0 4194303) _ _=_
 cases hv:cO r.Number 0 4194303 with
 |true=>unfold aQy;rw [hv];rfl
 |false=>
  rw [zQ,<-aPu r g hv];unfold Fjs;have D:=r.States.h;refine(jZ (λ(i:Nat) (c:Int×Int×Int×Int)=>(c.1,c.2.1,c.2.2.1,c.2.2.2,(i:Int))) r.States.l (goF (stF r.Frame.l) aHu)
   (λc=>some (if (r.Sound&&((!decide (qF g)||decide ((aJx g).1≠r.Number))||decide (0<IntKind.i64.wrap (c.2.2.2+c.2.1))))=true then 2 else if (!r.Sound&&decide (0<IntKind.i64.wrap (c.1+c.2.2.1)))=true then 2 else if (decide (r.Copies<0)||((decide (r.Copies=0)&&r.Sound)&&decide (c.1=64)))=true then 9 else if (r.Conflict&&r.Sound)=true then 2 else 0)) w (λk i c s f=>?_) (λk c=>?_) (0,0,0,0)).trans ?_
  ·have z:=(gS.1 f).1;have hi:i<64:=by rw [<-r.States.h];exact z
   have t:decide ((i:Int)<64)=true:=dT (by omega);simp only [zK,yO,t,zU,yY f,zC,fQ z w,fr_at r hi,dW,wB];show gJ (cO s 0 3) _ _=_;unfold goF stF
   cases cO s 0 3 with
   |true=>rfl
   |false=>
    rw [zQ,if_neg (by decide)]
    cases((decide (s=0)&&decide (r.Frame.l.getD i 0≠0))||decide (4095<r.Frame.l.getD i 0))with
    |true=>rfl
    |false=>
     rw [zQ,if_neg (by decide)];show _=k ((aHu c s).1,(aHu c s).2.1,(aHu c s).2.2.1,(aHu c s).2.2.2,_);unfold aHu
     by_cases b:s=3
     ·rw [dT b,zU,if_pos b]
     ·rw [qD b,zQ,if_neg b]
      by_cases m:s=2
      ·rw [dT m,zU,if_pos m]
      ·rw [qD m,zQ,if_neg m]
       by_cases o:s=1
       ·rw [dT o,zU,if_pos o]
       ·rw [qD o,zQ,if_neg o]
  ·have t:decide (((r.States.l.length:Nat):Int)<64)=false:=qD (by rw [r.States.h];omega);simp only [zK,t,zQ,Fgy,B,aVb u,rSound_eq u,zC,dW,wB,Bool.or_assoc]
   cases(r.Sound&&(!decide (qF g)||(decide ((aJx g).1≠r.Number)||decide (0<IntKind.i64.wrap (c.2.2.2+c.2.1)))))with
   |true=>rfl
   |false=>
    rw [zQ,if_neg (by decide)]
    cases(!r.Sound&&decide (0<IntKind.i64.wrap (c.1+c.2.2.1)))with
    |true=>rfl
    |false=>
     rw [zQ,if_neg (by decide)]
     cases(decide (r.Copies<0)||((decide (r.Copies=0)&&r.Sound)&&decide (c.1=64)))with
     |true=>rfl
     |false=>
      rw [zQ,if_neg (by decide)]
      cases(r.Conflict&&r.Sound)<;>rfl
  ·rw [aDl];rcases jV (stF r.Frame.l) r.States.l 0 with ⟨j,x,_,-,-,b⟩|⟨f,b⟩
   ·rw [b,b]
   rw [b,b];have e: ∀x∈r.States.l,0<=x/\x<=3:=by
    intro x d;obtain⟨j,E,rfl⟩:=List.mem_iff_getElem.1 d;exact aWr (f j _ (gE E))
   have A:=aEb r.States.l 0 0 0 0 (by omega);simp only [Nat.zero_add,Int.natCast_zero]at A;rw [A];have J:=List.countP_le_length (p:=λs:Int=>decide (s=3)) (l:=r.States.l);have c2:=List.countP_le_length (p:=λs:Int=>decide (s=1)) (l:=r.States.l);have c3:=List.countP_le_length (p:=λs:Int=>decide (s=2)) (l:=r.States.l);have c4:=List.countP_le_length (p:=λs:Int=> !(decide (s=3)||decide (s=2)||decide (s=1))) (l:=r.States.l);simp only;rw [wrap_i64 (n:=((r.States.l.countP (λs:Int=> !(decide (s=3)||decide (s=2)||decide (s=1))):Nat):Int)+_) (by omega) (by omega),wrap_i64 (n:=((r.States.l.countP (λs:Int=>decide (s=3)):Nat):Int)+_) (by omega) (by omega)];have F:decide (0<((r.States.l.countP (λs:Int=> !(decide (s=3)||decide (s=2)||decide (s=1))):Nat):Int)+((r.States.l.countP (λs:Int=>decide (s=1)):Nat):Int))=r.States.l.any λy=>decide (y=0)||decide (y=1):=by
    have a:decide (0<((r.States.l.countP (λs:Int=> !(decide (s=3)||decide (s=2)||decide (s=1))):Nat):Int)+((r.States.l.countP (λs:Int=>decide (s=1)):Nat):Int))=(decide (0<r.States.l.countP (λs:Int=> !(decide (s=3)||decide (s=2)||decide (s=1))))||decide (0<r.States.l.countP (λs:Int=>decide (s=1)))):=by
     rw [Bool.eq_iff_iff,Bool.or_eq_true];simp only [decide_eq_true_eq];omega
    rw [a,aBe,aBe,aOx];refine aFy λx d=>?_
    have:=e x d;rw [Bool.eq_iff_iff];simp only [Bool.or_eq_true,Bool.not_eq_true',Bool.or_eq_false_iff,decide_eq_true_eq,decide_eq_false_iff_not];omega
   have G:decide (0<((r.States.l.countP (λs:Int=>decide (s=3)):Nat):Int)+((r.States.l.countP (λs:Int=>decide (s=2)):Nat):Int))=r.States.l.any λy=>decide (y=3)||decide (y=2):=by
    have a:decide (0<((r.States.l.countP (λs:Int=>decide (s=3)):Nat):Int)+((r.States.l.countP (λs:Int=>decide (s=2)):Nat):Int))=(decide (0<r.States.l.countP (λs:Int=>decide (s=3)))||decide (0<r.States.l.countP (λs:Int=>decide (s=2)))):=by
     rw [Bool.eq_iff_iff,Bool.or_eq_true];simp only [decide_eq_true_eq];omega
    rw [a,aBe,aBe,aOx]
   have H:decide (((r.States.l.countP (λs:Int=>decide (s=3)):Nat):Int)=64)= !(r.States.l.any λy=>decide (y≠3)):=by
    have a:decide (((r.States.l.countP (λs:Int=>decide (s=3)):Nat):Int)=64)=decide (r.States.l.countP (λs:Int=>decide (s=3))=r.States.l.length):=decide_eq_decide.2 (by omega);rw [a,Bool.eq_iff_iff,decide_eq_true_eq,List.countP_eq_length,Bool.not_eq_true',List.any_eq_false];constructor
    ·intro q x d;have:=q x d;simpa using this
    ·intro q x d;have:=q x d;simpa using this
   rw [F,G,H];unfold aRw sndM;have I:(!decide (qF g)||decide ((aJx g).1≠r.Number))= !(decide (qF g)&&decide ((aJx g).1=r.Number)):=by
    rw [Bool.not_and,decide_not]
   rw [I]
def aEo (x:Line):Bool:=((((cO x.From (-1099511627776) 1099511627776||cO x.To (-1099511627776) 1099511627776)||decide (x.To<x.From))||cO x.A (-1048576) 1048576)||cO x.B (-1125899906842624) 1125899906842624)
def aJt (l:List Line):Nat->Line->Option (Option Int):=λi x=>if aEo x=true then some (some 9)else if (decide (0<i)&&decide (x.From<=((l[i-1]?).getD x).To))=true then some (some 10)else none
def lnum (x:Line)(n:Int):Int:=IntKind.i64.wrap (IntKind.i64.wrap (x.A*n)+x.B)
def endBad (x:Line):Bool:=cO (lnum x x.From) (-1125899906842624) 1125899906842624||cO (lnum x x.To) (-1125899906842624) 1125899906842624
def vH (c:eG):Bool:=(cO c.Low (-1125899906842624) 1125899906842624||cO c.High (-1125899906842624) 1125899906842624)||decide (c.High<c.Low)
def calR (c:eG):Option Int:=if c.Lines.any endBad=true then some 9 else if vH c=true then some 9 else some 0
def aQc (c:eG):Option Int:=if cO c.Den 1 1000000=true then some 9 else if c.Lines.length=0 then some 13 else if 50<c.Lines.length then some 3 else cZ (aJt c.Lines) (calR c) c.Lines 0
theorem aVx {a:Type}{l:List a}{i:Nat}{x:a}(h:l[i]? =some x)(b:l.length<=9223372036854775807)(c:0<i):at' l (IntKind.i64.wrap ((i:Int)-1))=some ((l[i-1]?).getD x):=by
 have d:=(gS.1 h).1;rw [wrap_i64 (by omega) (by omega),show(i:Int)-1=((i-1:Nat):Int)by omega,aBw,gE (by omega:i-1<l.length)];rfl
theorem cal_s (c:eG) (a:c.Lines.length<=9223372036854775807):Fc6 c=aQc c:=by
 unfold Fc6 aQc;simp only [swi,zC,zK,yO,nwi,wB];show gJ (cO c.Den 1 1000000) _ _=_
 cases cO c.Den 1 1000000 with
 |true=>rfl
 |false=>
  rw [zQ,if_neg (by decide),yX]
  by_cases e:c.Lines.length=0
  ·rw [if_pos e,if_pos (by omega)]
  rw [if_neg e,if_neg (by omega),yX]
  by_cases f:50<c.Lines.length
  ·rw [if_pos f,if_pos (by omega)]
  rw [if_neg f,if_neg (by omega)];unfold Fjh;refine xY c.Lines (aJt c.Lines) _ a (λk i x d b=>?_) (λk=>?_)
  ·simp only [zK,yK b,zU,yY d,zC,fQ b a,swi,nwi,wB];show gJ (aEo x) _ _=_;unfold aJt
   cases aEo x with
   |true=>rfl
   |false=>
    rw [zQ,if_neg (by decide)]
    by_cases c0:0<i
    ·rw [dT (show(0:Int)<(i:Int)by omega),dT c0,zU,aVx d a c0,zC,zC,Bool.true_and]
     cases decide (x.From<=((c.Lines[i-1]?).getD x).To)<;>rfl
    ·rw [qD (show¬(0:Int)<(i:Int)by omega),qD c0];rfl
  ·simp only [zK,yN,zQ];unfold Fjq;rw [aZ c.Lines endBad (some 9) (if vH c=true then some 9 else some 0) a]
   ·unfold calR
    cases c.Lines.any endBad<;>rfl
   ·intro k i x d b;simp only [zK,yK b,zU,yY d,zC,fQ b a,swi,nwi,wB,Fc4];rfl
   ·intro k;simp only [zK,yN,zQ];show gJ (vH c) _ _=_
    cases vH c<;>rfl
theorem cal_5 (c:eG) (a:c.Lines.length<=9223372036854775807):Fb6 c=aQc c:=by
 unfold Fb6 aQc;simp only [out5,zC,zK,yO,wB];show gJ (cO c.Den 1 1000000) _ _=_
 cases cO c.Den 1 1000000 with
 |true=>rfl
 |false=>
  rw [zQ,if_neg (by decide),yX]
  by_cases e:c.Lines.length=0
  ·rw [if_pos e,if_pos (by omega)]
  rw [if_neg e,if_neg (by omega),yX]
  by_cases f:50<c.Lines.length
  ·rw [if_pos f,if_pos (by omega)]
  rw [if_neg f,if_neg (by omega)];unfold Fjw;refine xY c.Lines (aJt c.Lines) _ a (λk i x d b=>?_) (λk=>?_)
  ·simp only [zK,yK b,zU,yY d,zC,fQ b a,out5,wB];show gJ (aEo x) _ _=_;unfold aJt
   cases aEo x with
   |true=>rfl
   |false=>
    rw [zQ,if_neg (by decide)]
    by_cases c0:0<i
    ·rw [dT (show(0:Int)<(i:Int)by omega),dT c0,zU,aVx d a c0,zC,zC,Bool.true_and]
     cases decide (x.From<=((c.Lines[i-1]?).getD x).To)<;>rfl
    ·rw [qD (show¬(0:Int)<(i:Int)by omega),qD c0];rfl
  ·simp only [zK,yN,zQ];unfold Fj0;rw [aZ c.Lines endBad (some 9) (if vH c=true then some 9 else some 0) a]
   ·unfold calR
    cases c.Lines.any endBad<;>rfl
   ·intro k i x d b;simp only [zK,yK b,zU,yY d,zC,fQ b a,out5,wB];rfl
   ·intro k;simp only [zK,yN,zQ];show gJ (vH c) _ _=_
    cases vH c<;>rfl
theorem calR_some (c:eG): ∃v,calR c=some v:=by
 unfold calR;split;exact⟨_,rfl⟩;split<;>exact⟨_,rfl⟩
theorem calO_some (c:eG): ∃v,aQc c=some v:=by
 unfold aQc;split
 ·exact⟨_,rfl⟩
 split
 ·exact⟨_,rfl⟩
 split
 ·exact⟨_,rfl⟩
 rcases jV (aJt c.Lines) c.Lines 0 with ⟨_,_,v,d,a,b⟩|⟨d,b⟩
 ·rw [b];unfold aJt at a;split at a
  ·exact⟨9,by cases a;rfl⟩
  ·split at a
   ·exact⟨10,by cases a;rfl⟩
   ·cases a
 ·rw [b];exact calR_some c
def aMb (c:eG):Int:=(aQc c).getD 0
theorem aWk (c:eG):aQc c=some (aMb c):=by
 obtain⟨_,a⟩:=calO_some c;unfold aMb;rw [a];rfl
structure SzS (x:eH):Prop where
 tr:okS x.Track
 ml:x.Meaning.length<=9223372036854775807
 ms: ∀c∈x.Meaning,c.Lines.length<=9223372036854775807
structure SzB (b:Book):Prop where
 mp:SzM b.Map
 sl:b.Sources.length<=9223372036854775807
 ss: ∀x∈b.Sources,SzS x
 rl:b.Rests.length<=9223372036854775807
 rs: ∀r∈b.Rests,SzR r
def rsM (r:gV):Int:=aQy r (r.Frame.l.map Int.toNat)
theorem aVh {g:List Nat}{h:g.length=64}:(en g h).l.map Int.toNat=g:=by
 unfold en;simp only [List.map_map];have:(Int.toNat∘λn:Nat=>(n:Int))=id:=by funext n;simp
 rw [this,List.map_id]
theorem aXq {r:gV}(h:SzR r):Fbd r=some (rsM r):=by
 obtain⟨g,b,c,a⟩:=h;rw [rest_l r g b c a];unfold rsM;rw [a,aVh]
theorem crest_4 {r:gV}(h:SzR r):Fbz r=some (rsM r):=by
 obtain⟨g,b,c,a⟩:=h;rw [rest_4 r g b c a];unfold rsM;rw [a,aVh]
def uZ {a:Type}(l:List a):List (a×a):=l.zip l.tail
theorem pairs_at {a:Type}{l:List a}{i:Nat}{p:a×a}(h:(uZ l)[i]? =some p):l[i]? =some p.1/\l[i+1]? =some p.2:=by
 unfold uZ at h;rw [List.getElem?_zip_eq_some,List.getElem?_tail]at h;exact h
theorem pairs_len {a:Type}(l:List a):(uZ l).length=l.length-1:=by
 unfold uZ;rw [List.length_zip,List.length_tail];omega
theorem aFp {a β:Type}{body:(Int->Option β)->Int->Option β} (l:List a) (q:a×a->Bool) (r fin:Option β) (o:l.length<=9223372036854775807)
  (h: ∀k (i:Nat) x y,l[i]? =some x->l[i+1]? =some y->i+1<l.length->body k ((i+1:Nat):Int)=gJ (q (x,y)) r (k ((i+1+1:Nat):Int))) (d: ∀k (n:Nat),l.length<=n->body k (n:Int)=fin):gY body 1=gJ ((uZ l).any q) r fin:=by
 have b:=pairs_len l;have e:gY body 1=aP (λ_ x _=>if q x=true then .inr r else .inl ()) (λ_=>fin) (uZ l) 0 ():=by
  refine jZ (λ(i:Nat) (_:Unit)=>((i+1:Nat):Int)) (uZ l) _ _ (by omega) (λk i s x f=>?_) (λk s=>?_) ()
  ·obtain⟨g,c⟩:=pairs_at f;have j:=(gS.1 c).1;rw [h k i x.1 x.2 g c j]
   cases q x<;>rfl
  ·exact d k _ (by omega)
 rw [e];have: ∀(l:List (a×a)) (i:Nat),aP (λ_ x _=>if q x=true then .inr r else .inl ()) (λ_:Unit=>fin) l i ()=gJ (l.any q) r fin:=by
  intro l
  induction l with
  |nil=>intro i;rfl
  |cons x l m=>
   intro i;rw [aP,List.any_cons]
   cases q x with
   |true=>rfl
   |false=>exact m (i+1)
 exact this _ 0
def aPc (l:List gV):Bool:=(uZ l).any λp=>decide (p.2.Number<=p.1.Number)
def rsF:Nat->gV->Option (Option Int):=λ_ x=>if rsM x=0 then none else some (some (rsM x))
def aFw (l:List gV):Option Int:=if 5000<l.length then some 3 else cZ rsF (if aPc l=true then some 10 else some 0) l 0
theorem aTd {i:Nat}(h:i<=9223372036854775806):IntKind.i64.wrap (((i+1:Nat):Int)-1)=(i:Int):=by rw [wrap_i64 (by omega) (by omega)];omega
theorem fault_l (l:List gV) (a:l.length<=9223372036854775807) (g: ∀r∈l,SzR r):Fax l=aFw l:=by
 unfold Fax aFw
 repeat (first |rw [zK]|rw [yO]|rw [zC])
 rw [yX]
 by_cases c:5000<l.length
 ·rw [if_pos c,if_pos (by omega)]
 rw [if_neg c,if_neg (by omega)];unfold Fki;refine xY l rsF _ a (λk i x b d=>?_) (λk=>?_)
 ·have h:=g x (qS b);simp only [zK,yK d,zU,yY b,zC,fQ d a,aXq h];rw [yX];unfold rsF
  by_cases e:rsM x=0
  ·rw [if_neg (by simpa using e),if_pos e]
  ·rw [if_pos e,if_neg e]
 ·simp only [zK,yN,zQ];unfold Fj8;rw [aFp l (λp=>decide (p.2.Number<=p.1.Number)) (some 10) (some 0) a]
  ·unfold aPc
   cases(uZ l).any λp=>decide (p.2.Number<=p.1.Number)<;>rfl
  ·intro k i x _ b d f;simp only [zK,yK f,zU,yY d,zC,aTd (show i<=9223372036854775806 by omega),yY b,fQ f a]
  ·intro k _ _;simp only [zK];rw [qD (by omega),zQ]
theorem fault_5 (l:List gV) (a:l.length<=9223372036854775807) (g: ∀r∈l,SzR r):Fd7 l=aFw l:=by
 unfold Fd7 aFw
 repeat (first |rw [zK]|rw [yO]|rw [zC])
 rw [yX]
 by_cases c:5000<l.length
 ·rw [if_pos c,if_pos (by omega)]
 rw [if_neg c,if_neg (by omega)];unfold Fi8;refine xY l rsF _ a (λk i x b d=>?_) (λk=>?_)
 ·have h:=g x (qS b);simp only [zK,yK d,zU,yY b,zC,fQ d a,crest_4 h];rw [yX];unfold rsF
  by_cases e:rsM x=0
  ·rw [if_neg (by simpa using e),if_pos e]
  ·rw [if_pos e,if_neg e]
 ·simp only [zK,yN,zQ];unfold Fid;rw [aFp l (λp=>decide (p.2.Number<=p.1.Number)) (some 10) (some 0) a]
  ·unfold aPc
   cases(uZ l).any λp=>decide (p.2.Number<=p.1.Number)<;>rfl
  ·intro k i x _ b d f;simp only [zK,yK f,zU,yY d,zC,aTd (show i<=9223372036854775806 by omega),yY b,fQ f a]
  ·intro k _ _;simp only [zK];rw [qD (by omega),zQ]
structure aXn (l:List gV):Prop where
 n:l.length<=5000
 all: ∀r∈l,rsM r=0
 ord:aPc l=false
theorem aKs {g:Type} (p:g->Bool): ∀(l:List g) (i:Nat),(aLs p l i= -1/\ ∀x∈l,p x=false)\/ ∃j x,aLs p l i=((i+j:Nat):Int)/\l[j]? =some x/\p x=true/\ ∀a c,a<j->l[a]? =some c->p c=false
 | [],i=> .inl ⟨rfl,λx h=>by cases h⟩
 |x::l,i=>by
  rw [aLs]
  by_cases h:p x=true
  ·rw [if_pos h];exact .inr ⟨0,x,rfl,rfl,h,λa c h=>by omega⟩
  ·rw [if_neg h];rcases aKs p l (i+1)with ⟨d,e⟩|⟨j,y,d,e,k,m⟩
   ·refine .inl ⟨d,λy f=>?_⟩;rcases List.mem_cons.1 f with rfl|f
    ·simpa using h
    ·exact e y f
   ·refine .inr ⟨j+1,y,by rw [d];congr 1;omega,by simpa using e,k,λa c n b=>?_⟩
    cases a with
    |zero=>simp at b;subst b;simpa using h
    |succ a=>exact m a c (by omega) (by simpa using b)
def qI (b:Map)(s:Str):Int:=aLs (λy:Param=>decide (y.Name=s)) b.Params 0
theorem par_idx (b:Map)(a:b.Params.length<=9223372036854775807)(x:eH):Fek b.Params x=some (qI b x.Param):=by
 unfold Fek Fj6
 repeat (first |rw [zK]|rw [yO]|rw [zC])
 exact jS b.Params (λy=>decide (y.Name=x.Param)) a (λk _ y d c=>by simp only [zK,yK c,zU,yY d,zC,fQ c a,Fho]) (λk=>by simp only [zK,yN,zQ])
theorem par_idxR (b:Map)(a:b.Params.length<=9223372036854775807)(s:Str):Fci b.Params s=some (qI b s):=by
 unfold Fci Fjb
 repeat (first |rw [zK]|rw [yO]|rw [zC])
 exact jS b.Params (λy=>decide (y.Name=s)) a (λk _ y d c=>by simp only [zK,yK c,zU,yY d,zC,fQ c a,Fez]) (λk=>by simp only [zK,yN,zQ])
theorem par_5 (b:Map)(a:b.Params.length<=9223372036854775807)(s:Str):Fa7 b s=some (qI b s):=by
 unfold Fa7 Fiu
 repeat (first |rw [zK]|rw [yO]|rw [zC])
 exact jS b.Params (λy=>decide (y.Name=s)) a (λk _ y d c=>by simp only [zK,yK c,zU,yY d,zC,fQ c a]) (λk=>by simp only [zK,yN,zQ])
theorem contT_eq (l:List eH)(c:eH)(a:l.length<=9223372036854775807):Fcr l c=some (l.any λy=>decide (y.Track=c.Track)):=by
 unfold Fcr Fgg Fh2
 repeat (first |rw [zK]|rw [yO]|rw [zC])
 rw [jS l (λy=>decide (y.Track=c.Track)) a (λk _ _ d b=>by simp only [zK,yK b,zU,yY d,zC,fQ b a,Fgq]) (λk=>by simp only [zK,yN,zQ]),zC,zK,qA]
def aMz (x:eH):Int:=match x.Meaning with
 | [c]=>aMb c
 |_=>0
def aMc (b:Book)(i:Nat)(x:eH):Int:=
 if aQi x.Track=false then 8 else if (b.Sources.take i).any (λy=>decide (y.Track=x.Track))=true then 5 else if qI b.Map x.Param<0 then 4
 else if 1<x.Meaning.length then 2 else if aMz x≠0 then aMz x else if cO x.Long 0 1099511627776=true then 9 else 0
theorem parOf (b:Book) (d:b.Map.Params.length<=9223372036854775807) (x:eH): ∃p,Fdq b x=some (p,decide (0<=qI b.Map x.Param))/\(0<=qI b.Map x.Param->b.Map.Params[(qI b.Map x.Param).toNat]? =some p):=by
 unfold Fdq;rw [par_idx b.Map d x,zC,zK,yX];rcases aKs (λy:Param=>decide (y.Name=x.Param)) b.Map.Params 0 with ⟨a,c⟩|⟨j,y,a,c,_,_⟩
 ·have a:qI b.Map x.Param= -1:=a;rw [a,if_pos (by decide)];exact⟨_,rfl,λh=>absurd h (by decide)⟩
 ·rw [Nat.zero_add]at a;have a:qI b.Map x.Param=(j:Int):=a;rw [a,if_neg (by omega),yY c,zC];refine⟨y,?_,λ_=>by rw [Int.toNat_natCast];exact c⟩;rw [dT (by omega:(0:Int)<=(j:Int))]
theorem src_l {b:Book} (g:SzB b) {i:Nat}{x:eH} (hi:b.Sources[i]? =some x):Fcl b (i:Int)=some (aMc b i x):=by
 have n:=(gS.1 hi).1;have f:=g.ss x (qS hi);obtain⟨_,m,-⟩:=parOf b g.mp.pl x;unfold Fcl aMc;simp only [yY hi,zC,m,IsName_eq x.Track f.tr,zK,yO,fwi,nwi,aCu b.Sources (by omega:i<=b.Sources.length)];rw [contT_eq _ _ (by rw [List.length_take];have:=g.sl;omega),zC]
 cases aQi x.Track with
 |false=>rfl
 |true=>
  simp only [Bool.not_true,zQ,Bool.true_eq_false,if_false]
  cases((b.Sources.take i).any λy=>decide (y.Track=x.Track))with
  |true=>rfl
  |false=>
   simp only [zQ,Bool.false_eq_true,if_false]
   by_cases c4:qI b.Map x.Param<0
   ·rw [if_pos c4,qD (by omega: ¬0<=qI b.Map x.Param)];rfl
   rw [if_neg c4,dT (by omega:0<=qI b.Map x.Param)];simp only [Bool.not_true,zQ,yX]
   by_cases c2:1<x.Meaning.length
   ·rw [if_pos c2,if_pos (by omega)]
   rw [if_neg c2,if_neg (by omega)];unfold Fju;have a:gJ (decide (x.Long<0)||decide (1099511627776<x.Long)) (some (9:Int)) (some 0)=some (if cO x.Long 0 1099511627776=true then 9 else 0):=by
    show gJ (cO x.Long 0 1099511627776) _ _=_
    cases cO x.Long 0 1099511627776<;>rfl
   rw [a];rw [xY x.Meaning (λ_ c=>if aMb c=0 then none else some (some (aMb c))) (some (if cO x.Long 0 1099511627776=true then 9 else 0)) f.ml]
   ·have hm:cZ (λ_ c=>if aMb c=0 then none else some (some (aMb c))) (some (if cO x.Long 0 1099511627776=true then 9 else 0)) x.Meaning 0=some (if aMz x≠0 then aMz x else if cO x.Long 0 1099511627776=true then 9 else 0):=by
     unfold aMz;rcases hm:x.Meaning with _|⟨c,_|⟨_,l⟩⟩
     ·rfl
     ·rw [cZ]
      by_cases e:aMb c=0
      ·simp only [e,ne_eq,not_true,if_false,if_true];rfl
      ·simp only [e,ne_eq,not_false_eq_true,if_true,if_false]
     ·rw [hm]at c2;simp at c2
    exact hm
   ·intro k i c h j;simp only [zK,yK j,zU,yY h,zC,fQ j f.ml,cal_s c (f.ms c (qS h)),aWk];rw [yX]
    by_cases e:aMb c=0
    ·rw [if_neg (by simpa using e),if_pos e]
    ·rw [if_pos e,if_neg e]
   ·intro k;simp only [zK,yN,zQ]
theorem aAd (b:Nat):(2:Int)^b=((2^b:Nat):Int):=by exact_mod_cast rfl
theorem aCo {b c:Nat}(h:b<=c):(2:Nat)^b<=2^c:=Nat.pow_le_pow_right (by decide) h
theorem aIf {a b:Nat}(c:b<=64)(h:a*2^b<4611686018427387904):jI .i64 (a:Int) (b:Int)=some ((a*2^b:Nat):Int):=by
 unfold jI;have e:(IntKind.i64.bits:Int)=64:=rfl;rw [if_pos ⟨by omega,by rw [e];omega⟩,Int.toNat_natCast,aAd,<-Int.natCast_mul,Go.OB.wrap_i64 (by omega) (by omega)]
theorem aEt {a b:Nat}(c:b<=62)(h:a<4611686018427387904):bits .and .i64 (a:Int) (((2^b:Nat):Int)-1)=((a%2^b:Nat):Int):=by
 rw [aEa (m:=((2^b:Nat):Int)) b c (aAd b) (by omega) (by omega) (by omega)]
 exact_mod_cast rfl
theorem aQw {a b c:Nat}(f:a*2^b<4611686018427387904)(g:c<2^b)(d:b<=60):bits .or .i64 ((a*2^b:Nat):Int) (c:Int)=((a*2^b+c:Nat):Int):=by
 have e:(2:Nat)^b<=2^60:=aCo d;rw [aKg (m:=((2^b:Nat):Int)) b (aAd b) (by omega) (by omega) (by rw [Int.natCast_mul];exact Int.mul_emod_left _ _) (by omega) (by omega) (by omega)];omega
theorem part_bits {w a b:Nat}(h:a+b<=11):w%2048/2^a%2^b=w/2^a%2^b:=by
 have e:(2048:Nat)=2^a*2^(11-a):=by rw [<-Nat.pow_add,show a+(11-a)=11 by omega]
 rw [e,Nat.mod_mul_right_div_self];exact Nat.mod_mod_of_dvd _ ⟨2^(11-a-b),by rw [<-Nat.pow_add,show b+(11-a-b)=11-a by omega]⟩
def nib (r i:Nat):Nat:=r/2^(4*i)%16
def kT (r m:Nat):Nat->Nat×Bool
 |0=>(0,true)
 |i+1=>((kT r m i).1*10+nib r (m-1-i),(kT r m i).2&&decide (nib r (m-1-i)<10))
theorem aVp (r i:Nat):nib r i<16:=Nat.mod_lt _ (by decide)
theorem aWi (r m:Nat): ∀i,9*(kT r m i).1+15<=15*10^i
 |0=>by show 9*0+15<=15*10^0;decide
 |i+1=>by
  have:=aWi r m i;have a:=aVp r (m-1-i);show 9*((kT r m i).1*10+nib r (m-1-i))+15<=_;rw [Nat.pow_succ];omega
theorem aPw (r m i:Nat):(kT r m i).1<2*10^i:=by have:=aWi r m i;omega
theorem aKd {r m:Nat}(hm:m<=16)(a:r<2^(4*m)): ∀i,kT r 16 (16-m+i)=kT r m i
 |0=>by
  have: ∀j,j<=16-m->kT r 16 j=(0,true):=by
   intro j
   induction j with
   |zero=>intro _;rfl
   |succ j b=>
    intro _;rw [kT,b (by omega)];have:nib r (16-1-j)=0:=by
     unfold nib;rw [Nat.div_eq_of_lt];exact Nat.lt_of_lt_of_le a (aCo (by omega))
    rw [this];rfl
  exact this (16-m) (Nat.le_refl _)
 |i+1=>by
  rw [show 16-m+(i+1)=(16-m+i)+1 by omega,kT,kT,aKd hm a i]
  by_cases c:i<m
  ·rw [show 16-1-(16-m+i)=m-1-i by omega]
  ·rw [show 16-1-(16-m+i)=0 by omega,show m-1-i=0 by omega]
theorem aQm {i:Nat}(h:i<=16):2*10^i<=20000000000000000:=by
 have:(10:Nat)^i<=10^16:=Nat.pow_le_pow_right (by decide) h;omega
theorem decimal_l (r:Nat) (g:r<4611686018427387904):Fbj (r:Int)=some (((kT r 16 16).1:Int),(kT r 16 16).2):=by
 unfold Fbj Fkp;rw [xO (r:=some (((kT r 16 16).1:Int),(kT r 16 16).2)) (λi=>(((kT r 16 i).1:Int),(kT r 16 i).2,60-4*(i:Int))) 16 (by decide)]
 ·rfl
 ·rfl
 ·intro k i _;have h:=aPw r 16 i;have j:=aQm (show i<=16 by omega);have m:=aVp r (15-i);have a:bits .and .i64 ((r/2^(4*(15-i)):Nat):Int) 15=((nib r (15-i):Nat):Int):=by
   have:r/2^(4*(15-i))<=r:=Nat.div_le_self _ _;exact aEt (b:=4) (by decide) (by omega)
  simp only [zK];rw [dT (by omega:(0:Int)<=60-4*(i:Int)),zU,show(60:Int)-4*(i:Int)=((4*(15-i):Nat):Int)by omega,vO (by show 4*(15-i)<=64;omega),zC,a,
   Go.OB.wrap_i64 (n:=((kT r 16 i).1:Int)*10) (by omega) (by omega),Go.OB.wrap_i64 (n:=((kT r 16 i).1:Int)*10+_) (by omega) (by omega),Go.OB.wrap_i64 (n:=((4*(15-i):Nat):Int)-4) (by omega) (by omega)]
  have c:decide (((nib r (15-i):Nat):Int)<10)=decide (nib r (15-i)<10):=decide_eq_decide.2 (by omega);have d:kT r 16 (i+1)=((kT r 16 i).1*10+nib r (15-i),(kT r 16 i).2&&decide (nib r (15-i)<10)):=rfl;have e:((4*(15-i):Nat):Int)-4=60-4*((i+1:Nat):Int):=by omega
  have f:((kT r 16 i).1:Int)*10+((nib r (15-i):Nat):Int)=(((kT r 16 i).1*10+nib r (15-i):Nat):Int):=by omega
  rw [c,d,e,f]
  cases(kT r 16 i).2<;>rfl
 ·intro k;rfl
theorem decimal_2 (r m:Nat) (hm:m<=16) (z:r<4611686018427387904) (k:Int->Option (Int×Bool)):Ffi (r:Int) k (0,4*(m:Int)-4)=if (kT r m m).2=true then k ((kT r m m).1:Int)else some (0,false):=by
 unfold Ffi;have f: ∀B:(Int×Int->Option (Int×Bool))->Int×Int->Option (Int×Bool),(∀g (v s:Int),B g (v,s)=gJ (decide (0<=s)) (gB (qH .i64 (r:Int) s) λx=>gJ (decide (9<bits .and .i64 x 15)) (some (0,false)) (g (IntKind.i64.wrap (IntKind.i64.wrap (10*v)+bits .and .i64 x 15),IntKind.i64.wrap (s-4)))) (k v))->
   ∀(d i a:Nat),i+d=m->d<a->(kT r m i).2=true->bZ B a (((kT r m i).1:Int),4*((m-i:Nat):Int)-4)=if (kT r m m).2=true then k ((kT r m m).1:Int)else some (0,false):=by
  intro B t d
  induction d with
  |zero=>
   intro i a u w o;obtain⟨a,rfl⟩: ∃k,a=k+1:=⟨a-1,by omega⟩;obtain rfl:i=m:=by omega
   rw [bZ,t,qD (by omega),zQ,if_pos o]
  |succ d p=>
   intro i a u w o;obtain⟨a,rfl⟩: ∃k,a=k+1:=⟨a-1,by omega⟩;have l1:=aPw r m i;have l2:=aQm (show i<=16 by omega);have A:=aVp r (m-1-i);have y:bits .and .i64 ((r/2^(4*(m-1-i)):Nat):Int) 15=((nib r (m-1-i):Nat):Int):=by
    have:r/2^(4*(m-1-i))<=r:=Nat.div_le_self _ _;exact aEt (b:=4) (by decide) (by omega)
   rw [bZ,t,dT (by omega),zU,show(4:Int)*((m-i:Nat):Int)-4=((4*(m-1-i):Nat):Int)by omega,vO (by show 4*(m-1-i)<=64;omega),zC,y];have q:kT r m (i+1)=((kT r m i).1*10+nib r (m-1-i),(kT r m i).2&&decide (nib r (m-1-i)<10)):=rfl
   by_cases c:nib r (m-1-i)<10
   ·rw [qD (by omega),zQ,Go.OB.wrap_i64 (n:=10*((kT r m i).1:Int)) (by omega) (by omega),Go.OB.wrap_i64 (n:=10*((kT r m i).1:Int)+_) (by omega) (by omega),Go.OB.wrap_i64 (by omega) (by omega)];have:=p (i+1) a (by omega) (by omega) (by rw [q];simp [o,c]);rw [q]at this;rw [<-this]
    congr 2
    ·omega
    ·omega
   ·rw [dT (by omega),zU,if_neg];have: ∀d j,(kT r m j).2=false->(kT r m (j+d)).2=false:=by
     intro d
     induction d with
     |zero=>intro j h;exact h
     |succ d p=>intro j h;rw [Nat.add_succ,kT,p j h];rfl
    have:=this d (i+1) (by rw [q];simp [c]);rw [show i+1+d=m by omega]at this;rw [this];decide
 have e: ∀B:(Int×Int->Option (Int×Bool))->Int×Int->Option (Int×Bool),gY B (0,4*(m:Int)-4)=bZ B FU (0,4*(m:Int)-4):=λB=>rfl
 rw [e];exact f _ (λg v s=>rfl) m 0 FU (by omega) (by unfold FU;omega) rfl
theorem aWv {p:Param} (h:SzP p) (u:sH p=0) (r:Nat) (q:(r:Int)<2^(mY p.Parts).toNat): ∃v i,Fa3 p (r:Int)=some (v,i)/\Fb2 p (r:Int)=some (v,i,0)/\ -1125899906842624<=v/\v<=1125899906842624:=by
 have s:=wK u;obtain⟨_,_⟩:=aBm.1 s.kd;have z:=aKx s.pt;have A:=s.pt.sum;obtain⟨n,j⟩: ∃n:Nat,mY p.Parts=(n:Int):=⟨(mY p.Parts).toNat,by omega⟩;have B:1<=n:=by omega
 have k:n<=40:=by omega
 rw [j,Int.toNat_natCast,aAd]at q;have q:r<2^n:=by omega
 have C:(2:Nat)^n<=2^40:=aCo k;have L:(2:Nat)^n=2*2^(n-1):=by
  have:=Nat.pow_succ' (n:=n-1) (m:=2);rw [show(n-1).succ=n by omega]at this;exact this
 have t:jI .i64 1 (IntKind.i64.wrap ((n:Int)-1))=some ((2^(n-1):Nat):Int):=by
  rw [Go.OB.wrap_i64 (by omega) (by omega),show(n:Int)-1=((n-1:Nat):Int)by omega];have:=aIf (a:=1) (b:=n-1) (by omega) (by omega);rw [Nat.one_mul]at this;exact this
 have w:jI .i64 1 (n:Int)=some ((2^n:Nat):Int):=by
  have:=aIf (a:=1) (b:=n) (by omega) (by omega);rw [Nat.one_mul]at this;exact this
 have d:kcM p.Kind n=false:=by
  have:=s.kf;unfold kfM at this;split at this
  ·cases this
  ·rename_i c;rw [<-j];simpa using c
 have D:Fb2 p (r:Int)=gB (Fee p (r:Int)) λx=>some (x.1,x.2,0):=by
  unfold Fb2;rw [par_2 h,zC,zK,u,show decide ((0:Int)≠0)=false from rfl,zQ,aPi p h.pl,zC,j,w,zC,zK,out2,zC,Go.OB.wrap_i64 (by omega) (by omega)];have:(decide ((r:Int)<0)||decide (((2^n:Nat):Int)-1<(r:Int)))=false:=by
   rw [Bool.or_eq_false_iff,decide_eq_false_iff_not,decide_eq_false_iff_not];omega
  rw [this,zQ]
 have E:Fa3 p (r:Int)=gB (decK p n ((2^(n-1):Nat):Int) (r:Int)) λx=>some (if x.2=true then(x.1,true)else(0,false)):=by
  unfold Fa3 Fhm;rw [aPl p h.pl,zC,j,t,zC]
  cases decK p n ((2^(n-1):Nat):Int) (r:Int)<;>rfl
 rw [D,E];unfold decK Fee;rw [aPi p h.pl,zC,j];simp only [yO,zK,yX];have M:IntKind.i64.wrap ((n:Int)-1)=((n-1:Nat):Int):=by rw [Go.OB.wrap_i64 (by omega) (by omega)];omega
 have y:IntKind.i64.wrap (2*((2^(n-1):Nat):Int))=((2^n:Nat):Int):=by rw [Go.OB.wrap_i64 (by omega) (by omega)];omega
 have f:p.Kind=1\/p.Kind=2\/p.Kind=3\/p.Kind=4\/p.Kind=5\/p.Kind=6:=by omega
 rcases f with f|f|f|f|f|f
 ·rw [f];simp only [Fai,zK];refine⟨(r:Int),true,?_,rfl,by omega,by omega⟩;show gB (some ((r:Int),decide ((r:Int)<=_))) _=_;rw [y,Go.OB.wrap_i64 (by omega) (by omega),dT (by omega:(r:Int)<=((2^n:Nat):Int)-1)];rfl
 ·rw [f];simp only [Fb7,zK];show ∃v i,gB (gB (gJ (decide (((2^(n-1):Nat):Int)<=(r:Int))) (some (IntKind.i64.wrap ((r:Int)-IntKind.i64.wrap (2*((2^(n-1):Nat):Int))))) (some (r:Int))) _) _=_/\gB (gB (jI .i64 1 (IntKind.i64.wrap ((n:Int)-1))) _) _=_/\_;rw [t,zC,y]
  by_cases c:2^(n-1)<=r
  ·rw [dT (by omega:((2^(n-1):Nat):Int)<=(r:Int)),zU,zC];have g:IntKind.i64.wrap ((r:Int)-((2^n:Nat):Int))=(r:Int)-((2^n:Nat):Int):=Go.OB.wrap_i64 (by omega) (by omega);refine⟨_,true,rfl,?_,by rw [g];omega,by rw [g];omega⟩;rw [if_pos (by omega),w];rfl
  ·rw [qD (by omega: ¬((2^(n-1):Nat):Int)<=(r:Int)),zQ,zC];refine⟨_,true,rfl,?_,by omega,by omega⟩;rw [if_neg (by omega)];rfl
 ·rw [f];simp only [Fcz,zK];show ∃v i,gB (gJ (decide (((2^(n-1):Nat):Int)<=(r:Int))) (some (IntKind.i64.wrap (((2^(n-1):Nat):Int)-(r:Int)),decide (((2^(n-1):Nat):Int)<(r:Int)))) (some ((r:Int),true))) _=_/\gB (gB (jI .i64 1 (IntKind.i64.wrap ((n:Int)-1))) _) _=_/\_;rw [t,zC]
  by_cases c:2^(n-1)<=r
  ·rw [dT (by omega:((2^(n-1):Nat):Int)<=(r:Int)),zU,zC]
   by_cases c2:r=2^(n-1)
   ·refine⟨0,false,?_,?_,by omega,by omega⟩
    ·rw [qD (by omega: ¬((2^(n-1):Nat):Int)<(r:Int))];rfl
    ·rw [if_pos (by omega)];rfl
   ·have g:IntKind.i64.wrap (((2^(n-1):Nat):Int)-(r:Int))=((2^(n-1):Nat):Int)-(r:Int):=Go.OB.wrap_i64 (by omega) (by omega);refine⟨IntKind.i64.wrap (((2^(n-1):Nat):Int)-(r:Int)),true,?_,?_,by rw [g];omega,by rw [g];omega⟩
    ·rw [dT (by omega:((2^(n-1):Nat):Int)<(r:Int))];rfl
    ·rw [if_neg (by omega),zC,if_pos (by omega),zC];rfl
  ·rw [qD (by omega: ¬((2^(n-1):Nat):Int)<=(r:Int)),zQ,zC];refine⟨_,true,rfl,?_,by omega,by omega⟩;rw [if_neg (by omega),zC,if_neg (by omega)];rfl
 ·rw [f]at d⊢;have N:n%4=0:=by
   unfold kcM at d;simp only [decide_true,Bool.true_and,Bool.or_eq_false_iff,decide_eq_false_iff_not]at d;have:=d.1.1;have e:((n:Int)).tmod 4=((n%4:Nat):Int):=by rw [Int.tmod_eq_emod_of_nonneg (by omega)];simp
   rw [e]at this;omega
  obtain⟨m,hm⟩: ∃m,n=4*m:=⟨n/4,by omega⟩;have hd:=decimal_l r (by omega);have o:=aKd (r:=r) (m:=m) (by omega) (by rw [<-hm];exact q) m;rw [show 16-m+m=16 by omega]at o;have F:IntKind.i64.wrap ((n:Int)-4)=4*(m:Int)-4:=by rw [Go.OB.wrap_i64 (by omega) (by omega)];omega
  simp only [Int.reduceEq,reduceIte];rw [hd,zC,F,decimal_2 r m (by omega) (by omega),o];have G:=aPw r m m;have H:(10:Nat)^m<=10^10:=Nat.pow_le_pow_right (by decide) (by omega)
  cases hb:(kT r m m).2 with
  |true=>exact⟨_,true,rfl,rfl,by omega,by omega⟩
  |false=>exact⟨0,false,rfl,rfl,by omega,by omega⟩
 ·rw [f]at d⊢;have I:n=1:=by
   unfold kcM at d;simp only [decide_true,Bool.true_and,Bool.or_eq_false_iff,decide_eq_false_iff_not]at d;have:=d.1.2;omega
  simp only [Fai,zK];refine⟨(r:Int),true,?_,rfl,by omega,by omega⟩;show gB (some ((r:Int),decide ((r:Int)<=1))) _=_;rw [I]at q;rw [dT (by omega:(r:Int)<=1)];rfl
 ·rw [f];simp only [Fai,zK];show ∃v i,gB (some ((r:Int),decide ((r:Int)<=IntKind.i64.wrap ((p.Names.length:Int)-1)))) _=_/\gB (if (p.Names.length:Int)<=(r:Int)then some ((0:Int),false)else some ((r:Int),true)) _=_/\_;rw [Go.OB.wrap_i64 (by omega) (by have:=h.nl;omega)]
  by_cases c:(p.Names.length:Int)<=(r:Int)
  ·rw [if_pos c,qD (by omega: ¬(r:Int)<=(p.Names.length:Int)-1)];exact⟨0,false,rfl,rfl,by omega,by omega⟩
  ·rw [if_neg c,dT (by omega:(r:Int)<=(p.Names.length:Int)-1)];exact⟨_,true,rfl,rfl,by omega,by omega⟩
def aVr (a b:fC):Bool:=decide (a.Number<b.Number)||(decide (a.Number=b.Number)&&decide (a.Word<b.Word))
theorem bef_eq (a b:fC):Fd4 a b=some (aVr a b):=by
 unfold Fd4 aVr;simp only [zK,dW,wB,zC]
def nX (l:List fC)(y:fC):Nat:=(l.takeWhile λx=>aVr x y).length
def aBi (l:List fC)(y:fC):List fC:=if l[nX l y]? =some y then l else l.take (nX l y)++[y]++l.drop (nX l y)
theorem aYj (l:List fC)(y:fC):nX l y<=l.length:=by
 unfold nX;exact(List.takeWhile_sublist _).length_le
theorem putI_lt {l:List fC}{y:fC}: ∀{i:Nat}{x:fC},i<nX l y->l[i]? =some x->aVr x y=true:=by
 unfold nX
 induction l with
 |nil=>intro i x h;simp at h
 |cons z l b=>
  intro i x h a;rw [List.takeWhile_cons]at h
  by_cases c:aVr z y=true
  ·rw [if_pos c]at h
   cases i with
   |zero=>simp at a;rw [<-a];exact c
   |succ i=>exact b (by simpa using h) (by simpa using a)
  ·rw [if_neg c]at h;simp at h
theorem putI_at {l:List fC}{y x:fC}(a:l[nX l y]? =some x):aVr x y=false:=by
 unfold nX at a
 induction l with
 |nil=>simp at a
 |cons z l b=>
  rw [List.takeWhile_cons]at a
  by_cases c:aVr z y=true
  ·rw [if_pos c]at a;exact b (by simpa using a)
  ·rw [if_neg c]at a;simp at a;rw [<-a];simpa using c
theorem putL (l:List fC) (y:fC) (d:l.length<=9223372036854775807):Fgo l y 0=some (nX l y:Int):=by
 have e:=aYj l y;unfold Fgo;refine xO (λi=>(i:Int)) (nX l y) (by omega) rfl (λk i hi=>?_) (λk=>?_);have b:i<l.length:=by omega
 have a:l[i]? =some l[i]:=gE b;simp only [zK,yK b,zU,yY a,zC,bef_eq,fQ b d,putI_lt hi a];by_cases c:nX l y<l.length;have a:l[nX l y]? =some l[nX l y]:=gE c;simp only [zK,yK c,zU,yY a,zC,bef_eq,putI_at a,zQ];have:nX l y=l.length:=by omega
 simp only [zK,this,yN,zQ,zC]
theorem aXm (l:List fC) (y:fC) (g:l.length<=1000000):Fc2 l y=some (aBi l y):=by
 have b:=aYj l y;unfold Fc2 aBi;rw [putL l y (by omega),zC];have a:sub' l (nX l y:Int) (l.length:Int)=some (l.drop (nX l y)):=by
  unfold sub';rw [if_pos (by omega)]
  congr 1
  rw [List.take_of_length_le]
  ·rw [Int.toNat_natCast]
  ·rw [List.length_drop,Int.toNat_natCast];omega
 have f:app' 16 ([]:List fC) (l.take (nX l y))=some (l.take (nX l y)):=by
  rw [jH (by rw [List.length_nil,List.length_take];omega) (by decide)];rfl
 have a2:app' 16 (l.take (nX l y)) [y]=some (l.take (nX l y)++[y]):=jH (by rw [List.length_take,List.length_singleton];omega) (by decide);have a3:app' 16 (l.take (nX l y)++[y]) (l.drop (nX l y))=some (l.take (nX l y)++[y]++l.drop (nX l y)):=jH (by rw [List.length_append,List.length_take,List.length_singleton,List.length_drop];omega) (by decide);simp only [zK,aCu l b,zC,f,a,a2,a3]
 by_cases c:nX l y<l.length
 ·have d:l[nX l y]? =some l[nX l y]:=gE c;rw [yK c,zU,yY d,zC,zC,d,yX]
  by_cases e:l[nX l y]=y
  ·rw [if_pos e,if_pos (by rw [e])]
  ·rw [if_neg e,if_neg (by simpa using e)]
 ·have:nX l y=l.length:=by omega
  rw [this,yN,zQ,zC,zQ,if_neg];rw [List.getElem?_eq_none (Nat.le_refl _)];simp
theorem aQt (l:List fC) (y z:fC):z∈aBi l y↔z∈l\/z=y:=by
 unfold aBi;split
 ·rename_i h;constructor
  ·exact .inl
  ·rintro(a|rfl)
   ·exact a
   ·exact qS h
 ·rw [mA,mA,mS];constructor
  ·rintro((h|h)|h)
   ·exact .inl (List.mem_of_mem_take h)
   ·exact .inr h
   ·exact .inl (List.mem_of_mem_drop h)
  ·rintro(h|h)
   ·rw [<-List.take_append_drop (nX l y) l]at h;rcases mA.1 h with h|h
    ·exact .inl (.inl h)
    ·exact .inr h
   ·exact .inl (.inr h)
theorem aLh (l:List fC)(y:fC):(aBi l y).length<=l.length+1:=by
 unfold aBi;split;omega;rw [List.length_append,List.length_append,List.length_take,List.length_singleton,List.length_drop];omega
def bP (l:List fG)(base:Int):List fC:=l.foldl (λs x=>aBi (aBi s (fC.mk (base+x.Frame) 3)) (fC.mk (base+x.Frame) x.Word)) []
theorem aQj (l:List fG)(x:fG)(base:Int):bP (l++[x]) base=aBi (aBi (bP l base) (fC.mk (base+x.Frame) 3)) (fC.mk (base+x.Frame) x.Word):=by
 unfold bP;rw [List.foldl_append,List.foldl_cons,List.foldl_nil]
theorem qL (l:List fG) (base:Int) (z:fC):z∈bP l base↔ ∃x∈l,z=fC.mk (base+x.Frame) 3\/z=fC.mk (base+x.Frame) x.Word:=by
 have: ∀(l:List fG) (s:List fC),z∈l.foldl (λs x=>aBi (aBi s (fC.mk (base+x.Frame) 3)) (fC.mk (base+x.Frame) x.Word)) s↔z∈s\/ ∃x∈l,z=fC.mk (base+x.Frame) 3\/z=fC.mk (base+x.Frame) x.Word:=by
  intro l
  induction l with
  |nil=>intro s;simp
  |cons x l c=>
   intro s;rw [List.foldl_cons,c,aQt,aQt];constructor
   ·rintro(((h|h)|h)|⟨y,b,a⟩)
    ·exact .inl h
    ·exact .inr ⟨x,List.mem_cons_self ..,.inl h⟩
    ·exact .inr ⟨x,List.mem_cons_self ..,.inr h⟩
    ·exact .inr ⟨y,List.mem_cons_of_mem _ b,a⟩
   ·rintro(h|⟨y,b,a⟩)
    ·exact .inl (.inl (.inl h))
    ·rcases List.mem_cons.1 b with rfl|b
     ·rcases a with a|a
      ·exact .inl (.inl (.inr a))
      ·exact .inl (.inr a)
     ·exact .inr ⟨y,b,a⟩
 have:=this l [];unfold bP;rw [this];simp
theorem aLb (l:List fG)(base:Int):(bP l base).length<=2*l.length:=by
 have: ∀(l:List fG) (s:List fC),(l.foldl (λs x=>aBi (aBi s (fC.mk (base+x.Frame) 3)) (fC.mk (base+x.Frame) x.Word)) s).length<=s.length+2*l.length:=by
  intro l
  induction l with
  |nil=>intro s;simp
  |cons x l a=>
   intro s;rw [List.foldl_cons];have b:=a (aBi (aBi s (fC.mk (base+x.Frame) 3)) (fC.mk (base+x.Frame) x.Word));have c:=aLh (aBi s (fC.mk (base+x.Frame) 3)) (fC.mk (base+x.Frame) x.Word);have d:=aLh s (fC.mk (base+x.Frame) 3);rw [List.length_cons];omega
 have:=this l [];unfold bP;simpa using this
structure aMh (x:fG):Prop where
 f0:0<=x.Frame
 f1:x.Frame<=15
 w0:4<=x.Word
 w1:x.Word<=60
 l0:0<=x.Low
 b1:1<=x.Bits
 lb:x.Low+x.Bits<=11
theorem words_eq (c:Cell) (base:Int) (m:0<=base) (o:base<=5000000) (p:c.Places.length<=8) (e: ∀x∈c.Places,aMh x):Feo c base=some (bP c.Places base):=by
 unfold Feo Fi2;rw [xO (r:=some (bP c.Places base)) (λi=>(bP (c.Places.take i) base,(i:Int))) c.Places.length (by omega)]
 ·rfl
 ·rfl
 ·intro k i hi;have b:c.Places[i]? =some c.Places[i]:=gE hi;have d:=e _ (List.getElem_mem hi);have f0:=d.f0;have f1:=d.f1;have f:=aLb (c.Places.take i) base;rw [List.length_take]at f;have g:=aLh (bP (c.Places.take i) base) (fC.mk (base+c.Places[i].Frame) 3);simp only [zK,yK hi,zU,yY b,zC];rw [Go.OB.wrap_i64 (n:=base+c.Places[i].Frame) (by omega) (by omega)];have h:Ff4 (base+c.Places[i].Frame) c.Places[i] (bP (c.Places.take i) base,0)=some (bP (c.Places.take (i+1)) base):=by
   unfold Ff4;refine xO (λj=>match j with
    |0=>(bP (c.Places.take i) base,0)
    |1=>(aBi (bP (c.Places.take i) base) (fC.mk (base+c.Places[i].Frame) 3),1)
    |_=>(bP (c.Places.take (i+1)) base,2)) 2 (by decide) rfl (λk j _=>?_) (λk=>rfl)
   have a:j=0\/j=1:=by omega
   rcases a with rfl|rfl
   ·simp only [zK];rw [show decide ((0:Int)<2)=true from rfl,zU,show at' ([3,c.Places[i].Word]:List Int) 0=some 3 from rfl,zC,aXm _ _ (by omega),zC];rfl
   ·simp only [zK];rw [show decide ((1:Int)<2)=true from rfl,zU,show at' ([3,c.Places[i].Word]:List Int) 1=some c.Places[i].Word from rfl,zC,aXm _ _ (by omega),zC,bF b,aQj];rfl
  rw [h,zC,fQ hi (by omega)]
 ·intro k;simp only [zK,yN,zQ,List.take_length]
def qC:gV:=gV.mk 0 (Arr.rep 64 0) (Arr.rep 64 0) false 0 false
def aJ (a:List gV)(n:Int):gV:=(a.find? λr=>decide (r.Number=n)).getD qC
def frN (r:gV)(k:Int):Nat:=(r.Frame.l.getD k.toNat 0).toNat
def stN (r:gV)(k:Int):Int:=r.States.l.getD k.toNat 0
structure vP (r:gV):Prop where
 fr: ∀x∈r.Frame.l,0<=x/\x<65536
 st: ∀x∈r.States.l,0<=x/\x<=3
theorem aTt:vP qC:=by
 refine⟨λx a=>?_,λx a=>?_⟩;have:x=0:=(List.mem_replicate.1 a).2;subst this;decide;have:x=0:=(List.mem_replicate.1 a).2;subst this;decide
theorem aXr {r:gV}(h:vP r){k:Int}(a:0<=k)(b:k<64):at' r.Frame.l k=some ((frN r k:Nat):Int)/\frN r k<65536:=by
 obtain⟨i,rfl⟩: ∃i:Nat,k=(i:Int):=⟨k.toNat,by omega⟩;have hi:i<r.Frame.l.length:=by rw [r.Frame.h];omega
 have:=h.fr _ (List.getElem_mem hi);have e:r.Frame.l.getD (i:Int).toNat 0=r.Frame.l[i]:=by rw [Int.toNat_natCast,List.getD_eq_getElem?_getD,gE hi];rfl
 unfold frN;rw [e,yY (gE hi)];exact⟨by congr 1;omega,by omega⟩
theorem aLe {r:gV}(h:vP r){k:Int}(a:0<=k)(b:k<64):at' r.States.l k=some (stN r k)/\0<=stN r k/\stN r k<=3:=by
 obtain⟨i,rfl⟩: ∃i:Nat,k=(i:Int):=⟨k.toNat,by omega⟩;have hi:i<r.States.l.length:=by rw [r.States.h];omega
 have:=h.st _ (List.getElem_mem hi);have e:r.States.l.getD (i:Int).toNat 0=r.States.l[i]:=by rw [Int.toNat_natCast,List.getD_eq_getElem?_getD,gE hi];rfl
 unfold stN;rw [e,yY (gE hi)];exact⟨rfl,this⟩
def loM (R:Int->gV)(base:Int)(l:List fG):Int:=l.foldl (λm x=>min (min m (stN (R (base+x.Frame)) x.Word)) (stN (R (base+x.Frame)) 3)) 3
def badM (a:Int)(R:Int->gV)(base:Int)(l:List fG):Bool:=l.any λx=>decide (((frN (R (base+x.Frame)) 3%2048:Nat):Int)≠a)
def vst (R:Int->gV)(base:Int)(v:Nat)(x:fG):Nat:=v*2^x.Bits.toNat+frN (R (base+x.Frame)) x.Word/2^x.Low.toNat%2^x.Bits.toNat
def aBu (R:Int->gV)(base:Int)(l:List fG):Nat:=l.foldl (vst R base) 0
def rZ (l:List fG):Nat:=(l.map λx=>x.Bits.toNat).sum
theorem foldl_snoc {a σ:Type}(f:σ->a->σ)(s:σ)(l:List a)(x:a):(l++[x]).foldl f s=f (l.foldl f s) x:=by rw [List.foldl_append,List.foldl_cons,List.foldl_nil]
theorem aMr (l:List fG)(x:fG):rZ (l++[x])=rZ l+x.Bits.toNat:=by unfold rZ;rw [List.map_append,List.map_singleton,List.sum_append];simp
theorem aNq (l:List fG)(i:Nat):rZ (l.take i)<=rZ l:=by
 have h:rZ l=rZ (l.take i++l.drop i):=by rw [List.take_append_drop]
 rw [h];unfold rZ;rw [List.map_append,List.sum_append];omega
theorem aJc (R:Int->gV)(base:Int)(l:List fG):aBu R base l<2^rZ l:=by
 have: ∀(l:List fG) (v s:Nat),v<2^s->l.foldl (vst R base) v<2^(s+rZ l):=by
  intro l
  induction l with
  |nil=>intro v s h;simpa [rZ]using h
  |cons x l a=>
   intro v s h;rw [List.foldl_cons];have b:vst R base v x<2^(s+x.Bits.toNat):=by
    unfold vst;have c:frN (R (base+x.Frame)) x.Word/2^x.Low.toNat%2^x.Bits.toNat<2^x.Bits.toNat:=Nat.mod_lt _ (Nat.two_pow_pos _);have hm:(v+1)*2^x.Bits.toNat<=2^s*2^x.Bits.toNat:=Nat.mul_le_mul_right _ h;rw [Nat.pow_add];rw [Nat.add_mul,Nat.one_mul]at hm;omega
   have:=a _ _ b;have e:rZ (x::l)=x.Bits.toNat+rZ l:=by unfold rZ;rw [List.map_cons,List.sum_cons]
   rw [e,<-Nat.add_assoc];exact this
 have:=this l 0 0 (by decide);rw [Nat.zero_add]at this;exact this
theorem aWq {R:Int->gV}{base:Int}{x:fG}{v:Nat}(d:aMh x)(g:frN (R (base+x.Frame)) x.Word<65536)(c:v*2^x.Bits.toNat<4611686018427387904):
  jI .i64 (v:Int) x.Bits=some ((v*2^x.Bits.toNat:Nat):Int)/\jI .i64 1 x.Bits=some ((2^x.Bits.toNat:Nat):Int)/\IntKind.i64.wrap (((2^x.Bits.toNat:Nat):Int)-1)=((2^x.Bits.toNat:Nat):Int)-1/\
  qH .i64 ((frN (R (base+x.Frame)) x.Word:Nat):Int) x.Low=some ((frN (R (base+x.Frame)) x.Word/2^x.Low.toNat:Nat):Int)/\
  qH .i64 ((frN (R (base+x.Frame)) x.Word%2048:Nat):Int) x.Low=some ((frN (R (base+x.Frame)) x.Word%2048/2^x.Low.toNat:Nat):Int)/\
  (bits .or .i64 ((v*2^x.Bits.toNat:Nat):Int) (bits .and .i64 ((frN (R (base+x.Frame)) x.Word/2^x.Low.toNat:Nat):Int) (((2^x.Bits.toNat:Nat):Int)-1))=((vst R base v x:Nat):Int))/\
  (bits .or .i64 ((v*2^x.Bits.toNat:Nat):Int) (bits .and .i64 ((frN (R (base+x.Frame)) x.Word%2048/2^x.Low.toNat:Nat):Int) (((2^x.Bits.toNat:Nat):Int)-1))=((vst R base v x:Nat):Int)):=by
 have l0:=d.l0;have b1:=d.b1;have lb:=d.lb;obtain⟨b,h⟩: ∃b:Nat,x.Bits=(b:Int):=⟨x.Bits.toNat,by omega⟩;obtain⟨lo,e⟩: ∃lo:Nat,x.Low=(lo:Int):=⟨x.Low.toNat,by omega⟩;unfold vst;generalize frN (R (base+x.Frame)) x.Word=w at g⊢;rw [h]at c b1 lb⊢;rw [e]at l0 lb⊢;simp only [Int.toNat_natCast]at c⊢;have f:b<=11:=by omega
 have i:(2:Nat)^b<=2^11:=aCo f;have k:1<=(2:Nat)^b:=Nat.one_le_two_pow;have j:jI .i64 1 (b:Int)=some ((2^b:Nat):Int):=by
  have:=aIf (a:=1) (b:=b) (by omega) (by omega);rw [Nat.one_mul]at this;exact this
 have m:w/2^lo<=w:=Nat.div_le_self _ _;have n:w%2048/2^lo<=w%2048:=Nat.div_le_self _ _;have o:w%2048<2048:=Nat.mod_lt _ (by decide);have hm: ∀z:Nat,z%2^b<2^b:=λz=>Nat.mod_lt _ (Nat.two_pow_pos _)
 refine⟨aIf (by omega) c,j,Go.OB.wrap_i64 (by omega) (by omega),vO (by show lo<=64;omega),vO (by show lo<=64;omega),?_,?_⟩
 ·rw [aEt (by omega) (by omega),aQw c (hm _) (by omega)]
 ·rw [aEt (by omega) (by omega),part_bits (by omega),aQw c (hm _) (by omega)]
def decM (p:Param)(v:Nat):Int×Bool:=(Fa3 p (v:Int)).getD (0,false)
def smpM (m:Map)(p:Param)(R:Int->gV)(base:Int)(l:List fG):Int×Int:=if (decide (loM R base l=0)||badM m.Version R base l)=true then(0,0)else if (decM p (aBu R base l)).2=true then((decM p (aBu R base l)).1,loM R base l+1)else(0,1)
theorem loM_r {R:Int->gV}{base:Int}: ∀{l:List fG},(∀x∈l,aMh x/\vP (R (base+x.Frame)))->0<=loM R base l/\loM R base l<=3:=by
 intro l;have: ∀(l:List fG) (m:Int),(∀x∈l,aMh x/\vP (R (base+x.Frame)))->0<=m->m<=3->0<=l.foldl (λm x=>min (min m (stN (R (base+x.Frame)) x.Word)) (stN (R (base+x.Frame)) 3)) m/\l.foldl (λm x=>min (min m (stN (R (base+x.Frame)) x.Word)) (stN (R (base+x.Frame)) 3)) m<=3:=by
  intro l
  induction l with
  |nil=>intro m _ c d;exact⟨c,d⟩
  |cons x l g=>
   intro m h c d;obtain⟨e,f⟩:=h x (List.mem_cons_self ..);have a:=(aLe f (show 0<=x.Word by have:=e.w0;omega) (by have:=e.w1;omega)).2;have b:=(aLe f (show(0:Int)<=3 by decide) (by decide)).2;rw [List.foldl_cons];exact g _ (λy i=>h y (List.mem_cons_of_mem _ i)) (by omega) (by omega)
 intro h;exact this l 3 h (by decide) (by decide)
theorem mark_get {n:Int}(a:0<=n)(b:n<=3)(h:n≠0):jB ([(3,4),(2,3),(1,2)]:List (Int×Int)) n 0=n+1:=by
 have:n=1\/n=2\/n=3:=by omega
 rcases this with rfl|rfl|rfl<;>rfl
theorem read_eq (m:Map) (p:Param) (c:Cell) (A:Arr 16 gV) (R:Int->gV) (base:Int) (q:SzP p) (j:sH p=0) (J:c.Places.length<=8) (f: ∀x∈c.Places,aMh x/\vP (R (base+x.Frame))/\at' A.l x.Frame=some (R (base+x.Frame))) (s:rZ c.Places=(mY p.Parts).toNat):
  Fde m p c A=some (smpM m p R base c.Places):=by
 have t:=wK j;have u:=t.pt.sum;have a:Fgt m c A (c.Places.length:Int) (3,0,false,0)=some (loM R base c.Places,((aBu R base c.Places:Nat):Int),badM m.Version R base c.Places):=by
  unfold Fgt;refine xO (λi=>(loM R base (c.Places.take i),((aBu R base (c.Places.take i):Nat):Int),badM m.Version R base (c.Places.take i),(i:Int))) c.Places.length (by omega) rfl (λk i hi=>?_) (λk=>?_)
  ·have g:c.Places[i]? =some c.Places[i]:=gE hi;obtain⟨b,e,w⟩:=f _ (List.getElem_mem hi);have w0:=b.w0;have w1:=b.w1;obtain⟨s1,-⟩:=aLe e (show 0<=c.Places[i].Word by omega) (by omega);obtain⟨s2,-⟩:=aLe e (show(0:Int)<=3 by decide) (by decide);obtain⟨f1,h⟩:=aXr e (show 0<=c.Places[i].Word by omega) (by omega);obtain⟨f2,_⟩:=aXr e (show(0:Int)<=3 by decide) (by decide);have z:aBu R base (c.Places.take i)*2^c.Places[i].Bits.toNat<4611686018427387904:=by
    have K:=aJc R base (c.Places.take i);have B:rZ (c.Places.take i)+c.Places[i].Bits.toNat<=40:=by
     have:=aNq c.Places (i+1);rw [bF g,aMr]at this;omega
    have C:aBu R base (c.Places.take i)*2^c.Places[i].Bits.toNat<=2^rZ (c.Places.take i)*2^c.Places[i].Bits.toNat:=Nat.mul_le_mul_right _ (by omega);rw [<-Nat.pow_add]at C;have L:(2:Nat)^(rZ (c.Places.take i)+c.Places[i].Bits.toNat)<=2^40:=aCo B;omega
   obtain⟨D,E,F,G,-,H,-⟩:=aWq (R:=R) (base:=base) b h z;have m1:bits .and .u16 ((frN (R (base+c.Places[i].Frame)) 3:Nat):Int) 2047=((frN (R (base+c.Places[i].Frame)) 3%2048:Nat):Int):=by
    rw [aFj (m:=2048) 11 (by decide) (by decide) (by omega) (by omega)];omega
   simp only [zK,yK hi,zU,yY g,zC,w,s1,s2,f1,f2,m1];rw [Go.OB.wrap_i64 (n:=((frN (R (base+c.Places[i].Frame)) 3%2048:Nat):Int)) (by omega) (by omega),wB,zC,D,zC,Go.OB.wrap_i64 (n:=((frN (R (base+c.Places[i].Frame)) c.Places[i].Word:Nat):Int)) (by omega) (by omega),G,zC,E,zC,F,H,fQ hi (by omega),bF g];unfold loM aBu badM;rw [foldl_snoc,foldl_snoc,List.any_append,List.any_cons,List.any_nil,Bool.or_false]
  ·simp only [zK,yN,zQ,List.take_length]
 obtain⟨v,o,d1,-,-⟩:=aWv q j (aBu R base c.Places) (by have:=aJc R base c.Places;rw [s]at this;rw [aAd];omega);have d:=loM_r (R:=R) (base:=base) (l:=c.Places) λx b=>⟨(f x b).1,(f x b).2.1⟩
 unfold Fde smpM;rw [zK,a,zC];simp only [zK,wB,zC,d1];have hd:decM p (aBu R base c.Places)=(v,o):=by unfold decM;rw [d1];rfl
 rw [hd]
 cases hq:(decide (loM R base c.Places=0)||badM m.Version R base c.Places)with
 |true=>rfl
 |false=>
  have I:loM R base c.Places≠0:=by
   rw [Bool.or_eq_false_iff,decide_eq_false_iff_not]at hq;exact hq.1
  rw [zQ,if_neg (by decide),mark_get d.1 d.2 I]
  cases o<;>rfl
theorem aDh {β:Type}(n:Int)(f:gV->β)(fin:Option β): ∀(l:List gV) (i:Nat),cZ (λ_ r=>if decide (r.Number=n)=true then some (some (f r))else none) fin l i=match l.find? λr=>decide (r.Number=n)with
  |some r=>some (f r)
  |none=>fin
 | [],_=>rfl
 |r::l,i=>by
  rw [cZ]
  by_cases h:decide (r.Number=n)=true
  ·rw [if_pos h,List.find?_cons,h]
  ·rw [if_neg h,List.find?_cons,(by simpa using h:decide (r.Number=n)=false)];exact aDh n f fin l (i+1)
theorem aOy {l:List gV}{n k:Int} (b:0<=k) (c:k<64) (d:l.length<=9223372036854775807) (f: ∀r∈l,vP r):Fa8 l (fC.mk n k)=some (((frN (aJ l n) k%2048:Nat):Int),stN (aJ l n) k):=by
 unfold Fa8 Fkg
 repeat (first |rw [zK]|rw [yO]|rw [zC])
 rw [xY l (λ_ r=>if decide (r.Number=n)=true then some (some (((frN r k%2048:Nat):Int),stN r k))else none) (some (0,0)) d]
 ·rw [aDh n (λr=>(((frN r k%2048:Nat):Int),stN r k))];unfold aJ
  cases l.find? λr=>decide (r.Number=n)with
  |some r=>rfl
  |none=>
   obtain⟨i,rfl⟩: ∃i:Nat,k=(i:Int):=⟨k.toNat,by omega⟩;have g:frN qC (i:Int)=0:=by
    unfold frN qC;rw [Int.toNat_natCast,List.getD_eq_getElem?_getD];show((List.replicate 64 (0:Int))[i]?.getD 0).toNat=0;rw [List.getElem?_replicate];split<;>rfl
   have h:stN qC (i:Int)=0:=by
    unfold stN qC;rw [Int.toNat_natCast,List.getD_eq_getElem?_getD];show(List.replicate 64 (0:Int))[i]?.getD 0=0;rw [List.getElem?_replicate];split<;>rfl
   show some ((0:Int),(0:Int))=some (((frN qC (i:Int)%2048:Nat):Int),stN qC (i:Int));rw [g,h];rfl
 ·intro j i r e hi;have a:=f r (qS e);obtain⟨f1,f2⟩:=aXr a b c;obtain⟨s1,-⟩:=aLe a b c;have m1:bits .and .i64 ((frN r k:Nat):Int) 2047=((frN r k%2048:Nat):Int):=by
   rw [aEa (m:=2048) 11 (by decide) (by decide) (by omega) (by omega)];omega
  simp only [zK,yK hi,zU,yY e,zC,fQ hi d,f1,s1];rw [Go.OB.wrap_i64 (n:=((frN r k:Nat):Int)) (by omega) (by omega),m1]
  cases decide (r.Number=n)<;>rfl
 ·intro j;simp only [zK,yN,zQ]
theorem aUi {e:Type} (a b:e->Int) (z:Int): ∀(l:List e) (m:Int),z<=l.foldl (λm x=>min (min m (a x)) (b x)) m↔z<=m/\ ∀x∈l,z<=a x/\z<=b x
 | [],m=>by simp
 |x::l,m=>by
  rw [List.foldl_cons,aUi a b z l];constructor
  ·rintro⟨f,d⟩;refine⟨by omega,λy c=>?_⟩;rcases List.mem_cons.1 c with rfl|c
   ·omega
   ·exact d y c
  ·rintro⟨f,d⟩;have:=d x (List.mem_cons_self ..);exact⟨by omega,λy c=>d y (List.mem_cons_of_mem _ c)⟩
theorem le_lo1 {d:Type} (a:d->Int) (z:Int): ∀(l:List d) (m:Int),z<=l.foldl (λm x=>min m (a x)) m↔z<=m/\ ∀x∈l,z<=a x
 | [],m=>by simp
 |x::l,m=>by
  rw [List.foldl_cons,le_lo1 a z l];constructor
  ·rintro⟨e,c⟩;refine⟨by omega,λy b=>?_⟩;rcases List.mem_cons.1 b with rfl|b
   ·omega
   ·exact c y b
  ·rintro⟨e,c⟩;have:=c x (List.mem_cons_self ..);exact⟨by omega,λy b=>c y (List.mem_cons_of_mem _ b)⟩
def loW (R:Int->gV)(a:List fC):Int:=a.foldl (λm w=>min m (stN (R w.Number) w.Word)) 3
def aHq (a:Int)(R:Int->gV)(w:fC):Bool:=(decide (stN (R w.Number) w.Word≠0)&&decide (w.Word=3))&&decide (((frN (R w.Number) w.Word%2048:Nat):Int)≠a)
theorem lo_same (R:Int->gV) (base:Int) (l:List fG):loW R (bP l base)=loM R base l:=by
 have c: ∀z,z<=loW R (bP l base)↔z<=loM R base l:=by
  intro z;unfold loW loM;rw [le_lo1 (λw:fC=>stN (R w.Number) w.Word),aUi (λx:fG=>stN (R (base+x.Frame)) x.Word) (λx:fG=>stN (R (base+x.Frame)) 3)];constructor
  ·rintro⟨f,d⟩;refine⟨f,λx e=>⟨?_,?_⟩⟩
   ·exact d (fC.mk (base+x.Frame) x.Word) ((qL l base _).2 ⟨x,e,.inr rfl⟩)
   ·exact d (fC.mk (base+x.Frame) 3) ((qL l base _).2 ⟨x,e,.inl rfl⟩)
  ·rintro⟨f,d⟩;refine⟨f,λw g=>?_⟩;obtain⟨x,e,rfl|rfl⟩:=(qL l base w).1 g
   ·exact(d x e).2
   ·exact(d x e).1
 have a:=(c (loM R base l)).2 (Int.le_refl _);have b:=(c (loW R (bP l base))).1 (Int.le_refl _);omega
theorem bad_same {b:Int}{R:Int->gV}{base:Int}{l:List fG} (e: ∀x∈l,aMh x/\vP (R (base+x.Frame))) (g:loM R base l≠0):(bP l base).any (aHq b R)=badM b R base l:=by
 have h:=(loM_r e).1;have d:=(aUi (λx:fG=>stN (R (base+x.Frame)) x.Word) (λx:fG=>stN (R (base+x.Frame)) 3) (loM R base l) l 3).1 (Int.le_refl _);rw [Bool.eq_iff_iff,List.any_eq_true];unfold badM;rw [List.any_eq_true];constructor;rintro⟨w,f,a⟩;obtain⟨x,c,rfl|rfl⟩:=(qL l base w).1 f;unfold aHq at a;rw [Bool.and_eq_true]at a;exact⟨x,c,a.2⟩;unfold aHq at a;simp only [Bool.and_eq_true,decide_eq_true_eq]at a;have:=(e x c).1.w0;omega;rintro⟨x,c,a⟩;refine⟨fC.mk (base+x.Frame) 3,(qL l base _).2 ⟨x,c,.inl rfl⟩,?_⟩;unfold aHq;have:=(d.2 x c).2;rw [Bool.and_eq_true,Bool.and_eq_true];refine⟨⟨dT ?_,rfl⟩,a⟩;show stN (R (base+x.Frame)) 3≠0;omega
theorem sample_eq (m:Map) (p:Param) (c:Cell) (g:List gV) (R:Int->gV) (base:Int) (D:SzP p) (B:sH p=0) (E:c.Places.length<=8) (F:0<=base) (C:base<=5000000) (d:g.length<=9223372036854775807) (e: ∀r∈g,vP r)
  (b: ∀x∈c.Places,aMh x/\vP (R (base+x.Frame))/\aJ g (base+x.Frame)=R (base+x.Frame)) (G:rZ c.Places=(mY p.Parts).toNat) (H:at' m.Params c.Param=some p):
  Fce m c base g=some (smpM m p R base c.Places):=by
 have I:=wK B;have J:=I.pt.sum;have j: ∀x∈c.Places,aMh x/\vP (R (base+x.Frame)):=λx a=>⟨(b x a).1,(b x a).2.1⟩
 have K:=loM_r j;have L:=aLb c.Places base;have o:(bP c.Places base).length<=9223372036854775807:=by omega
 obtain⟨v,q,d1,d2,-⟩:=aWv D B (aBu R base c.Places) (by have:=aJc R base c.Places;rw [G]at this;rw [aAd];omega);have hd:decM p (aBu R base c.Places)=(v,q):=by unfold decM;rw [d1];rfl
 have t:Fgm c base g (0,0)=some ((aBu R base c.Places:Nat):Int):=by
  unfold Fgm;refine xO (λi=>(((aBu R base (c.Places.take i):Nat):Int),(i:Int))) c.Places.length (by omega) rfl (λk i hi=>?_) (λk=>?_)
  ·have z:c.Places[i]? =some c.Places[i]:=gE hi;obtain⟨a,M,N⟩:=b _ (List.getElem_mem hi);have w0:=a.w0;have w1:=a.w1;have f0:=a.f0;have f1:=a.f1;obtain⟨g1,A⟩:=aXr M (show 0<=c.Places[i].Word by omega) (by omega);have O:aBu R base (c.Places.take i)*2^c.Places[i].Bits.toNat<4611686018427387904:=by
    have C:=aJc R base (c.Places.take i);have P:rZ (c.Places.take i)+c.Places[i].Bits.toNat<=40:=by
     have:=aNq c.Places (i+1);rw [bF z,aMr]at this;omega
    have Q:aBu R base (c.Places.take i)*2^c.Places[i].Bits.toNat<=2^rZ (c.Places.take i)*2^c.Places[i].Bits.toNat:=Nat.mul_le_mul_right _ (by omega);rw [<-Nat.pow_add]at Q;have h4:(2:Nat)^(rZ (c.Places.take i)+c.Places[i].Bits.toNat)<=2^40:=aCo P;omega
   obtain⟨S,T,X,-,Y,-,e5⟩:=aWq (R:=R) (base:=base) a A O;simp only [zK,yK hi,zU,yY z,zC];rw [Go.OB.wrap_i64 (n:=base+c.Places[i].Frame) (by omega) (by omega),aOy (by omega) (by omega) d e,zC,N];simp only;rw [S,zC,Y,zC,T,zC,X,e5,fQ hi (by omega),bF z];unfold aBu;rw [foldl_snoc]
  ·simp only [zK,yN,zQ,List.take_length]
 have f: ∀w∈bP c.Places base,Fa8 g w=some (((frN (R w.Number) w.Word%2048:Nat):Int),stN (R w.Number) w.Word):=by
  intro w u;obtain⟨x,a,rfl|rfl⟩:=(qL c.Places base w).1 u
  ·rw [aOy (by decide) (by decide) d e,(b x a).2.2]
  ·have:=(b x a).1.w0;have:=(b x a).1.w1;rw [aOy (by omega) (by omega) d e,(b x a).2.2]
 unfold Fce;rw [words_eq c base F C E (λx a=>(b x a).1),zC,yO];unfold Fjg;refine(jZ (λ(i:Nat) (s:Int)=>(s,(i:Int))) (bP c.Places base) (goF (λ_ w=>if aHq m.Version R w=true then some (some (0,0))else none) (λs w=>min s (stN (R w.Number) w.Word)))
  (λs=>if s=0 then some (0,0)else some (if q=true then(v,IntKind.i64.wrap (s+1))else(0,1))) o (λk i s w u=>?_) (λk s=>?_) 3).trans ?_
 rotate_left 2
 ·rw [aDl,uD (λ_ w=>aHq m.Version R w)];show(if _ then _ else(if loW R (bP c.Places base)=0 then _ else some (if q=true then(v,IntKind.i64.wrap (loW R (bP c.Places base)+1))else(0,1))))=_;rw [lo_same];have y:qR (λ_ w=>aHq m.Version R w) (bP c.Places base) 0=(bP c.Places base).any (aHq m.Version R):=by
   have: ∀(l:List fC) (i:Nat),qR (λ_ w=>aHq m.Version R w) l i=l.any (aHq m.Version R):=by
    intro l
    induction l with
    |nil=>intro i;rfl
    |cons w l ih=>intro i;rw [qR,List.any_cons,ih]
   exact this _ 0
  rw [y];unfold smpM;rw [hd]
  by_cases c0:loM R base c.Places=0
  ·rw [dT c0,Bool.true_or,if_pos rfl,if_pos c0];split<;>rfl
  ·rw [qD c0,Bool.false_or,if_neg c0,bad_same j c0]
   cases badM m.Version R base c.Places with
   |true=>rfl
   |false=>
    rw [Go.OB.wrap_i64 (by omega) (by omega)]
    cases q<;>rfl
 ·have hi:=(gS.1 u).1;simp only [zK,yK hi,zU,yY u,zC,fQ hi o,f w (qS u),dW];unfold goF;show gJ (aHq m.Version R w) _ _=_
  cases h:aHq m.Version R w<;>simp only [h]<;>rfl
 ·simp only [zK,yN,zQ];rw [yX]
  by_cases c0:s=0
  ·rw [if_pos c0,if_pos c0]
  ·rw [if_neg c0,if_neg c0,t,zC,H,zC,d2,zC];simp only
   cases q<;>rfl
theorem aKz {p:Param}(a:bY p){s:Int}(h:s∈bU p):0<=s/\s<=15/\ ∀y∈p.Parts,¬16<=IntKind.i64.wrap (s+y.Frame):=by
 unfold bU at h;obtain⟨c,b⟩:=List.mem_filter.1 h;obtain⟨i,hi,d⟩:=List.mem_iff_getElem.1 c;have e:=aVd (gE hi);have f:=(aAa a).2.1 i hi;have g:=aOv a;have:(0:Int)<=(i:Int)*p.Every:=Int.mul_nonneg (by omega) (by omega);have m:=a.f0;rw [d]at e;refine⟨by omega,by omega,λy j k=>?_⟩;unfold aDb at b;rw [Bool.not_eq_true',List.any_eq_false]at b;exact b y j (dT k)
theorem place_ok {p:Param}(d:sV p){s:Int}(j:s∈bU p){t:Nat}(o:t<p.Times.toNat){x:fG}(i:x∈bI p s t):aMh x:=by
 obtain⟨s0,_,s2⟩:=aKz d.tm j;unfold bI at i;obtain⟨y,e,rfl⟩:=List.mem_map.1 i;have f:=aKa (d.pt.all y e);have g:=s2 y e;rw [Go.OB.wrap_i64 (by omega) (by omega)]at g;have a:=d.tf;unfold tfM at a;split at a
 ·cases a
 split at a
 ·cases a
 rename_i k;have b:qY p y=false:=by
  cases h:qY p y with
  |false=>rfl
  |true=>exact absurd (List.any_eq_true.2 ⟨y,e,h⟩) k
 unfold qY at b;rw [Bool.or_eq_false_iff,decide_eq_false_iff_not,decide_eq_false_iff_not]at b;have c:=d.tm.s0;have m:(t:Int)*p.Step<=(p.Times-1)*p.Step:=Int.mul_le_mul_of_nonneg_right (by omega) c;have q:0<=(t:Int)*p.Step:=Int.mul_nonneg (by omega) c;unfold wO;rw [Go.OB.wrap_i64 (n:=s+y.Frame) (by omega) (by omega),Go.OB.wrap_i64 (n:=(t:Int)*p.Step) (by omega) (by omega),Go.OB.wrap_i64 (by omega) (by omega)];exact⟨by show 0<=s+y.Frame;omega,by show s+y.Frame<=15;omega,by show 4<=y.Word+(t:Int)*p.Step;omega,by show y.Word+(t:Int)*p.Step<=60;omega,f.2.2.2.2.1,f.2.2.2.2.2.2.1,f.2.2.2.2.2.2.2⟩
theorem aQv {p:Param}(a:sV p)(s t:Int):rZ (bI p s t)=(mY p.Parts).toNat/\(bI p s t).length<=8:=by
 have c:=a.pt.n8;refine⟨?_,by unfold bI;rw [List.length_map];exact c⟩;have h:=aIp p.Parts 0 a.pt.all (by omega) (by omega);have e:mY p.Parts=(p.Parts.map Part.Bits).sum:=by unfold mY;rw [h.1];omega
 rw [e];unfold rZ bI;rw [List.map_map];have: ∀l:List Part,(∀y∈l,kL y=false)->((l.map ((λx:fG=>x.Bits.toNat)∘wO p s t)).sum:Int)=(l.map Part.Bits).sum:=by
  intro l
  induction l with
  |nil=>intro _;rfl
  |cons y l d=>
   intro b;have g:=aKa (b y (List.mem_cons_self ..));rw [List.map_cons,List.sum_cons,List.map_cons,List.sum_cons,Int.natCast_add,d λz f=>b z (List.mem_cons_of_mem _ f)];have:(((λx:fG=>x.Bits.toNat)∘wO p s t) y:Int)=y.Bits:=by
    show((y.Bits.toNat:Nat):Int)=y.Bits;omega
   omega
 have:=this p.Parts a.pt.all;omega
theorem aIw {p:Param}{b:Int}{i:Nat}{c:Cell} (l:List Int) (h:(cellsS p b l)[i]? =some c): ∃s,l[i/p.Times.toNat]? =some s/\c=Cell.mk b (i:Int) s (bI p s ((i%p.Times.toNat:Nat):Int))/\i%p.Times.toNat<p.Times.toNat:=by
 have: ∀(l:List Int) (cs:List Cell),(l.foldl (λcs s=>cs++aQ p b s cs.length p.Times.toNat) cs)[i]? =some c->cs.length<=i->
   ∃s,l[(i-cs.length)/p.Times.toNat]? =some s/\c=Cell.mk b (i:Int) s (bI p s (((i-cs.length)%p.Times.toNat:Nat):Int))/\(i-cs.length)%p.Times.toNat<p.Times.toNat:=by
  intro l
  induction l with
  |nil=>intro cs a f;rw [List.foldl_nil,List.getElem?_eq_none f]at a;cases a
  |cons s l g=>
   intro cs a f;rw [List.foldl_cons]at a
   by_cases c2:i<cs.length+p.Times.toNat
   ·have k:0<p.Times.toNat:=by omega
    have m:(i-cs.length)/p.Times.toNat=0:=Nat.div_eq_of_lt (by omega);have n:(i-cs.length)%p.Times.toNat=i-cs.length:=Nat.mod_eq_of_lt (by omega);rw [m,n];refine⟨s,rfl,?_,by omega⟩;have d: ∀(l:List Int) (cs:List Cell),i<cs.length->(l.foldl (λcs s=>cs++aQ p b s cs.length p.Times.toNat) cs)[i]? =cs[i]? :=by
     intro l
     induction l with
     |nil=>intro cs _;rfl
     |cons s l g=>
      intro cs j;rw [List.foldl_cons,g _ (by rw [List.length_append];omega),List.getElem?_append_left j]
    rw [d l _ (by rw [List.length_append,jX];omega),List.getElem?_append_right f]at a;unfold aQ at a;rw [List.getElem?_map,List.getElem?_range (by omega)]at a;simp only [Option.map_some,Option.some.injEq]at a;rw [<-a]
    congr 1
    omega
   ·have:=g _ a (by rw [List.length_append,jX];omega);rw [List.length_append,jX]at this;obtain⟨o,g1,g2,g3⟩:=this;have k:0<p.Times.toNat:=by omega
    have e:i-cs.length=(i-(cs.length+p.Times.toNat))+p.Times.toNat:=by omega
    refine⟨o,?_,?_,?_⟩
    ·rw [e,Nat.add_div_right _ k];simpa using g1
    ·rw [e,Nat.add_mod_right];exact g2
    ·rw [e,Nat.add_mod_right];exact g3
 have:=this l [] h (Nat.zero_le _);simpa using this
def sU (p:Param)(base:Int)(c:Cell):Int:=64*(base+c.Frame)+64*(c.Index%p.Times)/p.Times
theorem time_r {p:Param}(b:sV p){base:Int}(_:0<=base)(_:base<=5000000){a:Int}{c:Cell}(g:c∈gU p a):
    0<=c.Frame/\c.Frame<=15/\0<=c.Index/\c.Index<912/\0<=c.Index%p.Times/\c.Index%p.Times<=56/\0<=64*(c.Index%p.Times)/p.Times/\64*(c.Index%p.Times)/p.Times<=3584:=by
 obtain⟨i,hi,rfl⟩:=List.mem_iff_getElem.1 g;obtain⟨s,g1,g2,g3⟩:=aIw (bU p) (gE hi);have t1:=b.tm.t1;have t2:=b.tm.t2;have d:=aKz b.tm (qS g1);have f:(gU p a).length<=912:=aG b.tm a;have e:(gU p a)[i]=Cell.mk a (i:Int) s (bI p s ((i%p.Times.toNat:Nat):Int)):=g2;rw [e];show 0<=s/\s<=15/\0<=(i:Int)/\(i:Int)<912/\0<=(i:Int)%p.Times/\(i:Int)%p.Times<=56/\0<=64*((i:Int)%p.Times)/p.Times/\64*((i:Int)%p.Times)/p.Times<=3584;have m0:0<=(i:Int)%p.Times:=Int.emod_nonneg _ (by omega);have m1:(i:Int)%p.Times<p.Times:=Int.emod_lt_of_pos _ (by omega);have d0:0<=64*((i:Int)%p.Times)/p.Times:=Int.ediv_nonneg (by omega) (by omega);have d1:64*((i:Int)%p.Times)/p.Times<=64*((i:Int)%p.Times):=Int.ediv_le_self _ (by omega);exact⟨d.1,d.2.1,by omega,by omega,m0,by omega,d0,by omega⟩
theorem aXc {a b:Int}(c:0<=a)(d:1<=b):kX a b=some (a%b):=by
 unfold kX;rw [if_neg (by omega),Int.tmod_eq_emod_of_nonneg c]
theorem tX {a b:Int}(c:0<=a)(d:a<=4611686018427387904)(e:1<=b):uJ .i64 a b=some (a/b):=by
 unfold uJ;have f:0<=a/b:=Int.ediv_nonneg c (by omega);have g:a/b<=a:=Int.ediv_le_self _ c;rw [if_neg (by omega),Int.tdiv_eq_ediv_of_nonneg c,Go.OB.wrap_i64 (by omega) (by omega)]
theorem times_l' {p:Param} (b:sV p) {base:Int} (e:0<=base) (f:base<=5000000) (a:Int):Fc0 p (gU p a) base=some ((gU p a).map (sU p base)):=by
 have c:(gU p a).length<=912:=aG b.tm a;have t1:=b.tm.t1;unfold Fc0 Fhw
 repeat (first |rw [zK]|rw [yO]|rw [zC])
 rw [xO (r:=some ((gU p a).map (sU p base))) (λi=>(((gU p a).take i).map (sU p base),(i:Int))) (gU p a).length (by omega)]
 ·rfl
 ·rfl
 ·intro k i hi;have d:(gU p a)[i]? =some (gU p a)[i]:=gE hi;obtain⟨_,_,g,_,_,_,_,_⟩:=time_r b e f (List.getElem_mem hi);simp only [zK,yK hi,zU,yY d,zC];rw [aXc g t1,zC,Go.OB.wrap_i64 (n:=64*((gU p a)[i].Index%p.Times)) (by omega) (by omega),tX (by omega) (by omega) t1,zC,
   Go.OB.wrap_i64 (n:=base+(gU p a)[i].Frame) (by omega) (by omega),Go.OB.wrap_i64 (n:=64*(base+(gU p a)[i].Frame)) (by omega) (by omega),Go.OB.wrap_i64 (n:=64*(base+(gU p a)[i].Frame)+_) (by omega) (by omega),
   jH (by rw [List.length_map,List.length_take,List.length_singleton];omega) (by decide),zC,fQ hi (by omega),bF d,List.map_append,List.map_singleton]
  rfl
 ·intro k;simp only [zK,yN,zQ,List.take_length]
theorem stL_nodup {p:Param}(c:bY p):(stL p).Nodup:=by
 unfold stL;have d:=aOv c;refine List.Pairwise.map _ (λa b h=>?_) List.nodup_range;intro _;apply h;have:(a:Int)*p.Every=(b:Int)*p.Every:=by omega
 have:=Int.eq_of_mul_eq_mul_right (by omega:p.Every≠0) this;omega
theorem aPg {p:Param}(a:bY p):(bU p).Nodup:=List.Pairwise.filter _ (stL_nodup a)
theorem aMm {e:Type}: ∀{l:List e},l.Nodup-> ∀{i j:Nat}{x:e},l[i]? =some x->l[j]? =some x->i=j
 | [],_,i,j,x,h,_=>by simp at h
 |y::l,f,i,j,x,c,d=>by
  obtain⟨a,b⟩:=List.nodup_cons.1 f
  cases i with
  |zero=>
   cases j with
   |zero=>rfl
   |succ j=>
    simp at c d;subst c;exact absurd (qS d) a
  |succ i=>
   cases j with
   |zero=>
    simp at c d;subst d;exact absurd (qS c) a
   |succ j=>simp at c d;rw [aMm b c d]
def aVt (T i j:Nat):Nat:=if j<i/T then T else if j=i/T then i%T else 0
theorem div_step {T i:Nat} (b:0<T):(i%T+1=T/\(i+1)/T=i/T+1/\(i+1)%T=0)\/(i%T+1<T/\(i+1)/T=i/T/\(i+1)%T=i%T+1):=by
 have d:=Nat.div_add_mod i T;have f:=Nat.mod_lt i b;by_cases c:i%T+1=T;left;have e:i+1=T*(i/T+1):=by rw [Nat.mul_add,Nat.mul_one];omega
 refine⟨c,?_,?_⟩;rw [e,Nat.mul_div_cancel_left _ b];rw [e];exact Nat.mul_mod_right _ _;right;have e:i+1=T*(i/T)+(i%T+1):=by omega
 have a:i%T+1<T:=by omega
 refine⟨a,?_,?_⟩;rw [e,Nat.mul_add_div b,Nat.div_eq_of_lt a,Nat.add_zero];rw [e,Nat.mul_add_mod,Nat.mod_eq_of_lt a]
theorem cnt_step {T i j:Nat} (d:0<T):aVt T (i+1) j=if i/T=j then i%T+1 else aVt T i j:=by
 unfold aVt;rcases div_step (i:=i) d with ⟨e,a,b⟩|⟨e,a,b⟩
 ·rw [a,b]
  by_cases c:i/T=j
  ·rw [if_pos c,if_pos (by omega)];omega
  ·rw [if_neg c]
   by_cases c2:j<i/T
   ·rw [if_pos c2,if_pos (by omega)]
   ·rw [if_neg c2,if_neg (show¬j<i/T+1 by omega),if_neg (show¬j=i/T by omega)];split<;>rfl
 ·rw [a,b]
  by_cases c:i/T=j
  ·rw [if_pos c,if_neg (by omega),if_pos (by omega)]
  ·rw [if_neg c]
   by_cases c2:j<i/T
   ·rw [if_pos c2,if_pos c2]
   ·rw [if_neg c2,if_neg c2,if_neg (show¬j=i/T by omega),if_neg (show¬j=i/T by omega)]
theorem times_5 {p:Param} (h:sV p) {base:Int} (C:0<=base) (D:base<=5000000) (a:Int):Fca p (gU p a) base=some ((gU p a).map (sU p base)):=by
 have B:(gU p a).length<=912:=aG h.tm a;have t1:=h.tm.t1;have t2:=h.tm.t2;have E:0<p.Times.toNat:=by omega
 have t: ∃r,Ffa p (gU p a) base ([],0,[])=some r/\r=(gU p a).map (sU p base):=by
  unfold Ffa;refine aMt (λ(i:Nat) (s:List Int×List (Int×Int))=>(s.1,(i:Int),s.2)) (gU p a)
   (λi s=>s.1=((gU p a).take i).map (sU p base)/\ ∀(j:Nat) (x:Int),(bU p)[j]? =some x->jB s.2 x 0=((aVt p.Times.toNat i j:Nat):Int)) (λr=>r=(gU p a).map (sU p base)) (by omega)
   (λk i s c o hi u=>?_) (λk s u=>?_) ([],[]) ⟨rfl,λj x v=>?_⟩
  ·obtain⟨s1,s2⟩:=s;obtain⟨d,f⟩:=u;simp only at d f;obtain⟨F,G,_,_,_,_,_,_⟩:=time_r h C D (qS o);obtain⟨x,g1,g2,g3⟩:=aIw (bU p) o;have v:=f _ x g1;have g:c.Frame=x:=by rw [g2]
   have w:c.Index=(i:Int):=by rw [g2]
   have m:aVt p.Times.toNat i (i/p.Times.toNat)=i%p.Times.toNat:=by unfold aVt;rw [if_neg (by omega),if_pos rfl]
   rw [m]at v;have b:((i%p.Times.toNat:Nat):Int)=c.Index%p.Times:=by
    rw [w,Int.natCast_emod]
    congr 1;omega
   have z:c.Index%p.Times+1=((i%p.Times.toNat+1:Nat):Int):=by rw [<-b];omega
   have H:0<=x/\x<=15:=by rw [<-g];exact⟨F,G⟩
   refine⟨(s1++[sU p base c],pM s2 x ((i%p.Times.toNat+1:Nat):Int)),⟨?_,?_⟩,?_⟩
   ·show s1++[sU p base c]=_;rw [d,bF o,List.map_append,List.map_singleton]
   ·intro j y q;show jB (pM s2 x _) y 0=_;rw [aLm,cnt_step E]
    by_cases e:x=y
    ·subst e;rw [if_pos rfl,if_pos (aMm (aPg h.tm) g1 q)]
    ·rw [if_neg e,if_neg,f j y q];intro I;rw [I]at g1;rw [g1]at q;exact e (by simpa using q)
   ·simp only [zK,yK hi,zU,yY o,zC,g,v];rw [b,Go.OB.wrap_i64 (n:=64*(c.Index%p.Times)) (by omega) (by omega),tX (by omega) (by omega) t1,zC];rw [Go.OB.wrap_i64 (n:=base+x) (by omega) (by omega),Go.OB.wrap_i64 (n:=64*(base+x)) (by omega) (by omega),Go.OB.wrap_i64 (n:=64*(base+x)+_) (by omega) (by omega)];rw [jH (by rw [d,List.length_map,List.length_take,List.length_singleton];omega) (by decide),zC,fQ hi (by omega),Go.OB.wrap_i64 (n:=c.Index%p.Times+1) (by omega) (by omega),z,<-g];rfl
  ·refine⟨s.1,?_,?_⟩
   ·simp only [zK,yN,zQ]
   ·rw [u.1,List.take_length]
  ·show(0:Int)=_;unfold aVt;rw [Nat.zero_div,Nat.zero_mod,if_neg (by omega)];split<;>rfl
 obtain⟨r,J,A⟩:=t;unfold Fca;rw [J,zC,A]
end Go.Lf
