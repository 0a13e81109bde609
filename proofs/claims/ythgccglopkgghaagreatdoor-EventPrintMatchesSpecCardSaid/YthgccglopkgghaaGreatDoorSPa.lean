/- Laws that the claim stands on; no condition beyond those stated. -/
import Derived.Test.YthgccglopkgghaaGreatDoorDNa
namespace Go.Lf
open Go.OB
def okN (c:Cond):Prop:=okS c.Name/\okS c.Other
theorem len_k (n:Nat) (k:Int):(!(decide (k<=(n:Int))&&decide ((n:Int)<=k)))=decide ((n:Int)≠k):=by
 by_cases h:(n:Int)=k;simp [h];by_cases a:k<=(n:Int);by_cases b:(n:Int)<=k;omega;simp [h,a,b];simp [h,a]
theorem len_2 {n:Nat}(a:n<=200):(!(decide (2<=(n:Int))&&decide ((n:Int)<=200)))=decide ((n:Int)<2):=by
 rw [Bool.eq_iff_iff];simp only [Bool.not_eq_true',Bool.and_eq_false_iff,decide_eq_false_iff_not,decide_eq_true_eq];omega
section
variable (nm ot:Str) (op n fr:Int) (ks:List Cond)
theorem fo1:Fag 1=some (⟨false,false,false,false,false,0,0⟩,true):=rfl
theorem rf1:Fah 1=some (false,false,false,false,false,0):=rfl
theorem fo2:Fag 2=some (⟨false,false,false,false,false,0,0⟩,true):=rfl
theorem rf2:Fah 2=some (false,false,false,false,false,0):=rfl
theorem fo3:Fag 3=some (⟨true,false,true,true,false,0,0⟩,true):=rfl
theorem rf3:Fah 3=some (true,false,true,true,false,0):=rfl
theorem fo4:Fag 4=some (⟨true,true,true,false,false,0,0⟩,true):=rfl
theorem rf4:Fah 4=some (true,true,true,false,false,0):=rfl
theorem fo5:Fag 5=some (⟨true,false,false,true,true,0,0⟩,true):=rfl
theorem rf5:Fah 5=some (true,false,false,true,true,0):=rfl
theorem fo6:Fag 6=some (⟨true,false,false,false,false,0,0⟩,true):=rfl
theorem rf6:Fah 6=some (true,false,false,false,false,0):=rfl
theorem fo7:Fag 7=some (⟨true,false,false,false,false,0,0⟩,true):=rfl
theorem rf7:Fah 7=some (true,false,false,false,false,0):=rfl
theorem fo8:Fag 8=some (⟨false,false,false,false,false,1,1⟩,true):=rfl
theorem rf8:Fah 8=some (false,false,false,false,false,1):=rfl
theorem fo9:Fag 9=some (⟨false,false,false,false,false,2,200⟩,true):=rfl
theorem rf9:Fah 9=some (false,false,false,false,false,(-1)):=rfl
theorem fo10:Fag 10=some (⟨false,false,false,false,false,2,200⟩,true):=rfl
theorem rf10:Fah 10=some (false,false,false,false,false,(-1)):=rfl
theorem fo11:Fag 11=some (⟨false,false,false,false,true,1,1⟩,true):=rfl
theorem rf11:Fah 11=some (false,false,false,false,true,1):=rfl
theorem fo12:Fag 12=some (⟨false,false,false,false,true,1,1⟩,true):=rfl
theorem rf12:Fah 12=some (false,false,false,false,true,1):=rfl
theorem fo13:Fag 13=some (⟨false,false,false,true,true,1,1⟩,true):=rfl
theorem rf13:Fah 13=some (false,false,false,true,true,1):=rfl
theorem fo14:Fag 14=some (⟨false,false,false,false,false,2,2⟩,true):=rfl
theorem rf14:Fah 14=some (false,false,false,false,false,2):=rfl
theorem fo15:Fag 15=some (⟨false,false,false,false,false,1,1⟩,true):=rfl
theorem rf15:Fah 15=some (false,false,false,false,false,1):=rfl
set_option maxHeartbeats 20000000 in
theorem chk_in (k:Int)(hk2:k=1\/k=2\/k=3\/k=4\/k=5\/k=6\/k=7\/k=8\/k=9\/k=10\/k=11\/k=12\/k=13\/k=14\/k=15)(h1:okS nm)(h2:okS ot)(hk:ks.length<=200):Fa5 ⟨k,nm,ot,op,n,fr,ks⟩=Fan ⟨k,nm,ot,op,n,fr,ks⟩/\ ∃r,Fan ⟨k,nm,ot,op,n,fr,ks⟩=some r:=by
  have hb:(decide (1<=fr) && decide (fr<=4096))=true->(decide (1<=n) && decide (n<=fr))=true->(decide (-1125899906842624<=n) && decide (n<=1125899906842624))=true:=by
    simp only [Bool.and_eq_true,decide_eq_true_eq]; omega
  rcases hk2 with rfl | rfl | rfl | rfl | rfl | rfl | rfl | rfl | rfl | rfl | rfl | rfl | rfl | rfl | rfl<;>
    (unfold Fa5 Fan
     simp only [fo1,fo2,fo3,fo4,fo5,fo6,fo7,fo8,fo9,fo10,fo11,fo12,fo13,fo14,fo15,rf1,rf2,rf3,rf4,rf5,rf6,rf7,rf8,rf9,rf10,rf11,rf12,rf13,rf14,rf15,zA,zS,Bool.not_true,Bool.not_false,zI,zH,yU,out6,aJw,pV _ h1,kS _ h1,pV _ h2,kS _ h2,Int.reduceEq,Int.reduceLT,Int.reduceLE,decide_true,decide_false,Bool.or_self,aAm,kH,aCa];simp only [aJm,len_k,len_2 hk];generalize (decide (1<=op) && decide (op<=6))=b1;generalize (decide (1<=fr) && decide (fr<=4096))=b2 at hb ⊢;generalize (decide (1<=n) && decide (n<=fr))=b3 at hb ⊢;generalize (decide (-1125899906842624<=n) && decide (n<=1125899906842624))=b4 at hb ⊢;simp only [wI]
     grind)
end
theorem chk_no (c:Cond) (h: ¬(1<=c.Kind/\c.Kind<=15)):Fa5 c=some 7/\Fan c=some 7:=by
 have e: ∀k:Int,1<=k->k<=15->decide (c.Kind=k)=false:=λk _ _=>qD (by omega)
 constructor
 ·unfold Fa5 Fag;simp only [zS,e 1 (by decide) (by decide),e 2 (by decide) (by decide),e 3 (by decide) (by decide),e 4 (by decide) (by decide),e 5 (by decide) (by decide),e 6 (by decide) (by decide),e 7 (by decide) (by decide),e 8 (by decide) (by decide),e 9 (by decide) (by decide),e 10 (by decide) (by decide),e 11 (by decide) (by decide),e 12 (by decide) (by decide),e 13 (by decide) (by decide),e 14 (by decide) (by decide),e 15 (by decide) (by decide),zH,zA,Bool.not_false,zI]
 ·unfold Fan;rw [out6,zA,aJm];have q:(decide (1<=c.Kind)&&decide (c.Kind<=15))=false:=by
   rw [Bool.and_eq_false_iff,decide_eq_false_iff_not,decide_eq_false_iff_not];omega
  rw [q];rfl
def ck1 (c:Cond):Int:=(Fan c).getD 0
theorem aEj (c:Cond) (h:okN c) (i:c.Kids.length<=200):Fa5 c=some (ck1 c)/\Fan c=some (ck1 c):=by
 have b:Fa5 c=Fan c/\ ∃r,Fan c=some r:=by
  by_cases d:1<=c.Kind/\c.Kind<=15
  ·obtain⟨k,nm,ot,op,n,fr,ks⟩:=c;have f:k=1\/k=2\/k=3\/k=4\/k=5\/k=6\/k=7\/k=8\/k=9\/k=10\/k=11\/k=12\/k=13\/k=14\/k=15:=by have:=d.1;have:=d.2;simp only at *;omega
   exact chk_in nm ot op n fr ks k f h.1 h.2 i
  ·obtain⟨g,a⟩:=chk_no c d;exact⟨g.trans a.symm,_,a⟩
 obtain⟨g,r,a⟩:=b;have e:ck1 c=r:=by unfold ck1;rw [a];rfl
 rw [e,g];exact⟨a,a⟩
mutual
def cN:Cond->Nat
 |⟨_,_,_,_,_,_,ks⟩=>1+cNs ks
def cNs:List Cond->Nat
 | []=>0
 |c::l=>cN c+cNs l
end
mutual
def dN:Cond->Nat
 |⟨_,_,_,_,_,_,ks⟩=>1+dNs ks
def dNs:List Cond->Nat
 | []=>0
 |c::l=>max (dN c) (dNs l)
end
mutual
def okC:Cond->Prop
 |⟨k,nm,ot,op,n,fr,ks⟩=>(i64 k/\okS nm/\okS ot/\i64 op/\i64 n/\i64 fr)/\ks.length<=9223372036854775807/\aIi ks
def aIi:List Cond->Prop
 | []=>True
 |c::l=>okC c/\aIi l
end
mutual
def fE (f:Cond->Int):Cond->Int
 |⟨k,nm,ot,op,n,fr,ks⟩=>if f ⟨k,nm,ot,op,n,fr,ks⟩=0 then fEs f ks else f ⟨k,nm,ot,op,n,fr,ks⟩
def fEs (f:Cond->Int):List Cond->Int
 | []=>0
 |c::l=>if fE f c=0 then fEs f l else fE f c
end
theorem aAa (c:Cond):cN c=1+cNs c.Kids:=by cases c;rfl
theorem aGe (c:Cond):dN c=1+dNs c.Kids:=by cases c;rfl
theorem aDc (f:Cond->Int)(c:Cond):fE f c=if f c=0 then fEs f c.Kids else f c:=by cases c;rfl
theorem kR (c:Cond):okC c↔(i64 c.Kind/\okS c.Name/\okS c.Other/\i64 c.Op/\i64 c.N/\i64 c.Frames)/\c.Kids.length<=9223372036854775807/\aIi c.Kids:=by cases c;rfl
theorem pX: ∀(l:List Cond),aIi l↔ ∀c∈l,okC c
 | []=>by simp [aIi]
 |c::l=>by rw [aIi,pX l];simp
theorem cN_pos (c:Cond):1<=cN c:=by rw [aAa];omega
theorem sD (c:Cond):1<=dN c:=by rw [aGe];omega
theorem vY: ∀l:List Cond,l.length<=cNs l
 | []=>Nat.le_refl _
 |c::l=>by have:=vY l;have:=cN_pos c;rw [cNs,List.length_cons];omega
theorem aFh {c:Cond}: ∀{l:List Cond},c∈l->cN c<=cNs l
 |a::l,h=>by
  rw [cNs];rcases List.mem_cons.1 h with rfl|h
  ·omega
  ·have:=aFh h;omega
theorem aAk {c:Cond}: ∀{l:List Cond},c∈l->dN c<=dNs l
 |a::l,h=>by
  rw [dNs];rcases List.mem_cons.1 h with rfl|h
  ·omega
  ·have:=aAk h;omega
theorem aJx {n:Nat}: ∀{l:List Cond},n<dNs l-> ∃x,x∈l/\n<dN x
 | [],h=>by simp [dNs]at h
 |a::l,h=>by
  rw [dNs]at h
  by_cases q:n<dN a
  ·exact⟨a,List.mem_cons_self,q⟩
  ·obtain⟨x,b,c⟩:=aJx (l:=l) (n:=n) (by omega);exact⟨x,List.mem_cons_of_mem _ b,c⟩
def stS (b:Cond->Int->Int->Option (Bool×Int))(l:Int):Nat->Cond->Int->Int ⊕ Option (Bool×Int):=λ_ x s=>match b x l s with
 |none=> .inr none
 |some (true,a)=> .inl a
 |some (false,a)=> .inr (some (false,a))
theorem aBf (d:Cond->Int->Int->Option (Bool×Int)) (l:Nat):
  ∀(ks:List Cond) (_: ∀c∈ks,∀k:Nat,k<=200-> ∃b:Nat,d c (l:Int) (k:Int)=some (decide (dN c<=l/\k+cN c<=200),(b:Int))/\(dN c<=l/\k+cN c<=200->b=k+cN c)) (i k:Nat),k<=200-> ∃b:Nat,aBm (stS d l) (λs=>some (true,s)) ks i (k:Int)=some (decide (dNs ks<=l/\k+cNs ks<=200),(b:Int))/\(dNs ks<=l/\k+cNs ks<=200->b=k+cNs ks)
 | [],_,i,k,e=>⟨k,by simp [aBm,dNs,cNs,e],λ_=>by simp [cNs]⟩
 |c::ks,f,i,k,e=>by
  obtain⟨g,j,m⟩:=f c List.mem_cons_self k e;rw [aBm];simp only [stS,j]
  by_cases a:dN c<=l/\k+cN c<=200
  ·obtain rfl:=m a;obtain⟨o,p,q⟩:=aBf d l ks (λc a=>f c (List.mem_cons_of_mem _ a)) (i+1) (k+cN c) a.2;rw [dT a];refine⟨o,?_,?_⟩
   ·simp only [];rw [p]
    congr 2
    rw [decide_eq_decide,dNs,cNs];have:=a.1;omega
   ·rw [dNs,cNs];intro h;rw [q (by omega)];omega
  ·rw [qD a];refine⟨g,?_,?_⟩
   ·simp only []
    congr 2
    refine(qD ?_).symm;rw [dNs,cNs];omega
   ·rw [dNs,cNs];intro h;exfalso;omega
theorem aKh: ∀(n:Nat) (c:Cond) (l k:Nat),l<n->k<=200->l<=1000->okC c-> ∃d:Nat,Faz n c (l:Int) (k:Int)=some (decide (dN c<=l/\k+cN c<=200),(d:Int))/\(dN c<=l/\k+cN c<=200->d=k+cN c)
 |0,_,_,_,h,_,_,_=>by omega
 |n+1,c,l,k,h,g,y,j=>by
  have a:=((kR c).1 j).2.1;have f:=(pX _).1 ((kR c).1 j).2.2;have o:IntKind.i64.wrap ((k:Int)+1)=((k+1:Nat):Int):=dM (n:=1000) (by omega) (by omega);show ∃d:Nat,Fcn (Faz n) c (l:Int) (k:Int)=_/\_;unfold Fcn;simp only [zS,yU,kH,zA,o];have z:=aGe c;have A:=aAa c
  by_cases p:l=0
  ·subst p;refine⟨k+1,?_,λq=>by exfalso;omega⟩;rw [dT (show((0:Nat):Int)=0 from rfl),Bool.true_or,zI,qD (by omega)]
  ·by_cases B:200<k+1
   ·refine⟨k+1,?_,λq=>by exfalso;omega⟩;rw [dT (show(200:Int)<((k+1:Nat):Int)by omega),Bool.or_true,zI,qD (by omega)]
   ·rw [qD (show¬(l:Int)=0 by omega),qD (show¬(200:Int)<((k+1:Nat):Int)by omega),Bool.or_self,zH];obtain⟨m,rfl⟩: ∃m,l=m+1:=⟨l-1,by omega⟩;have t:IntKind.i64.wrap (((m+1:Nat):Int)-1)=(m:Int):=by rw [wrap_i64 (by omega) (by omega)];omega
    obtain⟨d,u,v⟩:=aBf (Faz n) m c.Kids (λx e k g=>aKh n x m k (by omega) g (by omega) (f x e)) 0 (k+1) (by omega);refine⟨d,?_,?_⟩
    ·unfold Fd8;simp only [zS,t];refine(uP (λ(i:Nat) (s:Int)=>((i:Int),s)) c.Kids (stS (Faz n) m) (λs=>some (true,s)) a ?_ ?_ ((k+1:Nat):Int)).trans (u.trans ?_)
     rotate_left 2
     ·congr 2
      rw [decide_eq_decide];omega
     ·intro w i s x e;have hi:=(gS.1 e).1;simp only [stS];rw [xJ hi,zI,bD e,zA,dM hi a]
      cases Faz n x m s with
      |none=>rfl
      |some r=>obtain⟨b,_⟩:=r;cases b<;>rfl
     ·intro w s;simp only [];rw [xI,zH]
    ·intro q;rw [v (by omega)];omega
theorem tZ {n:Nat}(h:n<=1000000):n<FU:=jL (by omega)
theorem small_eq (c:Cond)(b:okC c): ∃a:Int,Fc9 c 20 0=some (decide (dN c<=20/\cN c<=200),a):=by
 obtain⟨a,d,_⟩:=aKh FU c 20 0 (tZ (by decide)) (by decide) (by decide) b;refine⟨a,?_⟩;unfold Fc9;refine d.trans ?_;rw [Nat.zero_add]
theorem aKi: ∀(n:Nat) (c:Cond) (m:Nat),m<n->m<=1000->okC c->Fa2 n c (m:Int)=some ((min (cN c) (m+1):Nat):Int)
 |0,_,_,h,_,_=>by omega
 |n+1,c,m,h,K,C=>by
  have v:=((kR c).1 C).2.1;have y:=(pX _).1 ((kR c).1 C).2.2;show Fb9 (Fa2 n) c (m:Int)=_;unfold Fb9 Fey;have e:fG (λa (x:Int×Int)=>gI (gU (c.Kids.length:Int) λb=>gU (decide (x.2<b)) λj=>gV j (gU (decide (x.1<=(m:Int))) λk=>some k) (some false)) λl=>gV l
    (gI (at' c.Kids x.2) λp=>gU (IntKind.i64.wrap ((m:Int)-x.1)) λq=>gI (Fa2 n p q) λr=>gU (IntKind.i64.wrap (x.1+r)) λt=>gU (IntKind.i64.wrap (x.2+1)) λu=>a (t,u)) (some x.1)) (1,0)=some ((min (1+cNs c.Kids) (m+1):Nat):Int):=by
   have z: ∀(d i s w:Nat),i+d=c.Kids.length->d<w->1<=s->s<=m+1->eU (λa (x:Int×Int)=>gI (gU (c.Kids.length:Int) λb=>gU (decide (x.2<b)) λj=>gV j (gU (decide (x.1<=(m:Int))) λk=>some k) (some false)) λl=>gV l
    (gI (at' c.Kids x.2) λp=>gU (IntKind.i64.wrap ((m:Int)-x.1)) λq=>gI (Fa2 n p q) λr=>gU (IntKind.i64.wrap (x.1+r)) λt=>gU (IntKind.i64.wrap (x.2+1)) λu=>a (t,u)) (some x.1)) w ((s:Int),(i:Int))=some ((min (s+cNs (c.Kids.drop i)) (m+1):Nat):Int):=by
    intro d
    induction d with
    |zero=>
     intro i s w D E F G;obtain⟨f,rfl⟩: ∃f,w=f+1:=⟨w-1,by omega⟩;obtain rfl:i=c.Kids.length:=by omega
     rw [eU];simp only [zS,xI,zH,zA,List.drop_length,cNs]
     congr 2;omega
    |succ d H=>
     intro i s w D E F G;obtain⟨f,rfl⟩: ∃f,w=f+1:=⟨w-1,by omega⟩;have hi:i<c.Kids.length:=by omega
     obtain⟨x,A⟩: ∃x,c.Kids[i]? =some x:=⟨_,gE hi⟩;have I:c.Kids.drop i=x::c.Kids.drop (i+1):=by
      rw [List.drop_eq_getElem_cons hi]
      congr 1
      exact oI ((gE hi).symm.trans A)
     rw [eU,I,cNs];simp only [zS,xJ hi,zI,zA,bD A]
     by_cases L:s<=m
     ·have J:IntKind.i64.wrap ((m:Int)-(s:Int))=((m-s:Nat):Int):=by rw [wrap_i64 (by omega) (by omega)];omega
      rw [dT (show(s:Int)<=(m:Int)by omega),zI,J,aKi n x (m-s) (by omega) (by omega) (y x (mG A)),zA];have B:IntKind.i64.wrap ((s:Int)+((min (cN x) (m-s+1):Nat):Int))=((s+min (cN x) (m-s+1):Nat):Int):=by rw [wrap_i64 (by omega) (by omega)];omega
      rw [B,dM hi v];refine(H (i+1) _ f (by omega) (by omega) (by omega) (by omega)).trans ?_
      congr 2;omega
     ·rw [qD (show¬(s:Int)<=(m:Int)by omega),zH]
      congr 2;omega
   exact z c.Kids.length 0 1 FU (by omega) (jL v) (by omega) (by omega)
  refine(congrArg (λo=>gI o λg=>some g) e).trans ?_;rw [aAa];rfl
theorem aFm: ∀(n:Nat) (c:Cond) (m:Nat),m<n->m<=1000->okC c->Fbn n c (m:Int)=some (decide (m<dN c))
 |0,_,_,h,_,_=>by omega
 |n+1,c,m,h,p,f=>by
  have a:=((kR c).1 f).2.1;have d:=(pX _).1 ((kR c).1 f).2.2;have r:=aGe c;show Fcq (Fbn n) c (m:Int)=_;unfold Fcq;simp only [zS,yU]
  cases m with
  |zero=>rw [dT (show((0:Nat):Int)=0 from rfl),zI,dT (by omega)]
  |succ m=>
   rw [qD (show¬((m+1:Nat):Int)=0 by omega),zH];have o:IntKind.i64.wrap (((m+1:Nat):Int)-1)=(m:Int):=by rw [wrap_i64 (by omega) (by omega)];omega
   unfold Ffe;simp only [zS,o];rw [yZ c.Kids (λ_ x=>if decide (m<dN x)=true then some (some true)else none) (some false) a ?_ ?_]
   ·rw [pM (λ_ x=>decide (m<dN x))]
    by_cases q:m+1<dN c
    ·rw [dT q,if_pos];rw [vO];obtain⟨x,b,g⟩:=aJx (l:=c.Kids) (n:=m) (by omega);obtain⟨j,e⟩:=List.getElem?_of_mem b;exact⟨j,x,e,dT g⟩
    ·rw [qD q,if_neg];rw [vO];rintro⟨j,x,e,b⟩;have s:=aAk (mG e);have g:=of_decide_eq_true b;omega
   ·intro k _ x b hi;rw [xJ hi,zI,bD b,zA,aFm n x m (by omega) (by omega) (d x (mG b)),zA,dM hi a]
    cases decide (m<dN x)<;>rfl
   ·intro k;rw [xI,zH]
theorem nodes_eq (c:Cond)(a:okC c):Fei c 200=some ((min (cN c) 201:Nat):Int):=aKi FU c 200 (tZ (by decide)) (by decide) a
theorem deeper_eq (c:Cond)(a:okC c):Fej c 20=some (decide (20<dN c)):=aFm FU c 20 (tZ (by decide)) (by decide) a
theorem aEn {c:Cond}(a:okC c):okN c:=⟨((kR c).1 a).1.2.1,((kR c).1 a).1.2.2.1⟩
theorem vS (f:Cond->Int): ∀(l:List Cond) (i:Nat),aH (λ_ x=>if fE f x=0 then none else some (some (fE f x))) (some 0) l i=some (fEs f l)
 | [],_=>rfl
 |c::l,i=>by
  rw [aH,fEs]
  by_cases h:fE f c=0
  ·rw [if_pos h,if_pos h];exact vS f l (i+1)
  ·rw [if_neg h,if_neg h]
theorem sZ {c x:Cond}{i:Nat}(b:okC c)(d:c.Kids[i]? =some x):okC x/\dN x<dN c/\cN x<cN c:=by
 have a:=mG d;have e:=aAk a;have f:=aFh a;exact⟨(pX _).1 ((kR c).1 b).2.2 x a,by rw [aGe c];omega,by rw [aAa c];omega⟩
theorem aKf: ∀(n:Nat) (c:Cond),dN c<=n->okC c->cN c<=200->Fbw n c=some (fE ck1 c)
 |0,c,h,_,_=>by have:=sD c;omega
 |n+1,c,h,b,_=>by
  have a:=((kR c).1 b).2.1;have f:=vY c.Kids;have g:=aAa c;show Fcl (Fbw n) c=_;unfold Fcl;rw [(aEj c (aEn b) (by omega)).1,zA,aDc];simp only [zS,yU]
  by_cases e:ck1 c=0
  ·rw [if_pos e,qD (by simpa using e),zH];unfold Ffd;rw [yZ c.Kids (λ_ x=>if fE ck1 x=0 then none else some (some (fE ck1 x))) (some 0) a ?_ ?_,vS]
   ·intro k _ x d hi;obtain⟨j,_,_⟩:=sZ b d;simp only [zS];rw [xJ hi,zI,bD d,zA,aKf n x (by omega) j (by omega),zA,dM hi a]
    by_cases z:fE ck1 x=0
    ·rw [if_pos z,qD (by simpa using z),zH]
    ·rw [if_neg z,dT z,zI]
   ·intro k;simp only [zS];rw [xI,zH]
  ·rw [if_neg e,dT e,zI]
theorem aKa: ∀(n:Nat) (c:Cond),dN c<=n->okC c->cN c<=200->Fbc n c=some (fE ck1 c)
 |0,c,h,_,_=>by have:=sD c;omega
 |n+1,c,h,t,_=>by
  have a:=((kR c).1 t).2.1;have y:=vY c.Kids;have A:=aAa c;show Fb8 (Fbc n) c=_;unfold Fb8;rw [(aEj c (aEn t) (by omega)).2,zA,aDc];have u: ∀(B:(Int×Int->Option Int)->Int×Int->Option Int) (_: ∀k (e i:Int),B k (e,i)=gI (gU (c.Kids.length:Int) λj=>gU (decide (i<j)) λl=>gV l (gU (decide (e=0)) λm=>some m) (some false)) λp=>gV p (gI (at' c.Kids i) λq=>gI (Fbc n q) λr=>gU (IntKind.i64.wrap (i+1)) λs=>k (r,s)) (some e)) (d i:Nat) (e:Int) (b:Nat),i+d=c.Kids.length->d<b->eU B b (e,(i:Int))=some (if e=0 then fEs ck1 (c.Kids.drop i)else e):=by
   intro B w d
   induction d with
   |zero=>
    intro i e b C D;obtain⟨f,rfl⟩: ∃f,b=f+1:=⟨b-1,by omega⟩;obtain rfl:i=c.Kids.length:=by omega
    rw [eU,w];simp only [zS,xI,zH,zA,List.drop_length,fEs];split<;>simp_all
   |succ d E=>
    intro i e b C D;obtain⟨f,rfl⟩: ∃f,b=f+1:=⟨b-1,by omega⟩;have hi:i<c.Kids.length:=by omega
    obtain⟨x,v⟩: ∃x,c.Kids[i]? =some x:=⟨_,gE hi⟩;have F:c.Kids.drop i=x::c.Kids.drop (i+1):=by
     rw [List.drop_eq_getElem_cons hi]
     congr 1
     exact oI ((gE hi).symm.trans v)
    obtain⟨G,_,_⟩:=sZ t v;rw [eU,w,F,fEs];simp only [zS,xJ hi,zI,zA,bD v]
    by_cases z:e=0
    ·rw [dT z,zI,aKa n x (by omega) G (by omega),zA,dM hi a,E (i+1) _ f (by omega) (by omega),if_pos z]
    ·rw [qD z,zH,if_neg z]
  unfold Fd5 fG;refine(congrArg (λo=>gI o λg=>some g) (u _ (λ_ _ _=>rfl) c.Kids.length 0 (ck1 c) FU (by omega) (jL a))).trans ?_;rw [zA,List.drop_zero]
def ckC (c:Cond):Int:=if dN c<=20/\cN c<=200 then fE ck1 c else 3
theorem vX (c:Cond) (a:okC c):Fb4 c=some (ckC c):=by
 unfold Fb4 ckC;obtain⟨_,h⟩:=small_eq c a;rw [h,zA];simp only [zS];by_cases q:dN c<=20/\cN c<=200;rw [if_pos q,dT q,Bool.not_true,zH];unfold Fe0;rw [aKf FU c (Nat.le_of_lt (tZ (by omega))) a q.2];rfl;rw [if_neg q,qD q,Bool.not_false,zI]
theorem uF (c:Cond) (a:okC c):Fa8 c=some (ckC c):=by
 unfold Fa8 ckC;rw [nodes_eq c a,zA];simp only [zS];rw [deeper_eq c a,zA,kH,zA]
 by_cases q:dN c<=20/\cN c<=200
 ·have b:decide ((200:Int)<((min (cN c) 201:Nat):Int))=false:=qD (by omega);have d:decide (20<dN c)=false:=qD (by omega);rw [if_pos q,b,d,Bool.or_self,zH];unfold Ffi;rw [aKa FU c (Nat.le_of_lt (tZ (by omega))) a q.2];rfl
 ·have e:(decide ((200:Int)<((min (cN c) 201:Nat):Int))||decide (20<dN c))=true:=by
   rw [Bool.or_eq_true,decide_eq_true_eq,decide_eq_true_eq];omega
  rw [if_neg q,e,zI]
theorem rO {c:Cond}(h:ckC c=0):dN c<=20/\cN c<=200/\fE ck1 c=0:=by
 unfold ckC at h;split at h;rename_i q;exact⟨q.1,q.2,h⟩;exact absurd h (by decide)
section
variable {α:Type}
theorem wH (p:α->Bool): ∀(l:List α) (i:Nat),∃n:Int,aH (λ(i:Nat) x=>if p x=true then some (some (i:Int))else none) (some (-1)) l i=some n/\
  ((n= -1/\ ∀(j:Nat) x,l[j]? =some x->p x=false)\/ ∃j:Nat,n=((i+j:Nat):Int)/\(∃x,l[j]? =some x/\p x=true)/\ ∀(m:Nat) y,m<j->l[m]? =some y->p y=false)
 | [],i=>⟨-1,rfl,.inl ⟨rfl,λj x h=>by simp at h⟩⟩
 |a::l,i=>by
  rw [aH]
  by_cases h:p a=true
  ·rw [if_pos h];exact⟨_,rfl,.inr ⟨0,by simp,⟨a,rfl,h⟩,λm y g=>by omega⟩⟩
  ·rw [if_neg h];have f:p a=false:=by simpa using h
   obtain⟨n,k,b⟩:=wH p l (i+1);refine⟨n,k,?_⟩;rcases b with ⟨b,c⟩|⟨j,b,c,o⟩
   ·refine .inl ⟨b,λj x d=>?_⟩
    cases j with
    |zero=>simp at d;subst d;exact f
    |succ j=>exact c j x (by simpa using d)
   ·refine .inr ⟨j+1,by rw [b];congr 1;omega,?_,λm y g e=>?_⟩
    ·obtain⟨x,q,r⟩:=c;exact⟨x,by simpa using q,r⟩
    ·cases m with
     |zero=>simp at e;subst e;exact f
     |succ m=>exact o m y (by omega) (by simpa using e)
theorem aJs (p:α->Bool)(l:List α):l.any p=true↔ ∃(j:Nat) (x:α),l[j]? =some x/\p x=true:=by
 rw [List.any_eq_true];constructor;rintro⟨x,h,a⟩;obtain⟨j,b⟩:=List.getElem?_of_mem h;exact⟨j,x,b,a⟩;rintro⟨j,x,h,a⟩;exact⟨x,mG h,a⟩
theorem aIx {p:α->Bool}{l:List α}{n:Int} (h:(n= -1/\ ∀(j:Nat) x,l[j]? =some x->p x=false)\/ ∃j:Nat,n=((0+j:Nat):Int)/\(∃x,l[j]? =some x/\p x=true)/\ ∀(m:Nat) y,m<j->l[m]? =some y->p y=false):decide (0<=n)=l.any p:=by
 rw [Bool.eq_iff_iff,decide_eq_true_eq,aJs];rcases h with ⟨rfl,h⟩|⟨j,rfl,⟨x,b,a⟩,_⟩
 ·constructor
  ·intro h;omega
  ·rintro⟨j,x,b,a⟩;rw [h j x b]at a;cases a
 ·exact⟨λ_=>⟨j,x,b,a⟩,λ_=>by omega⟩
theorem ix_take {p:α->Bool}{l:List α}{n:Int} (h:(n= -1/\ ∀(j:Nat) x,l[j]? =some x->p x=false)\/ ∃j:Nat,n=((0+j:Nat):Int)/\(∃x,l[j]? =some x/\p x=true)/\ ∀(m:Nat) y,m<j->l[m]? =some y->p y=false) (i:Nat):decide (0<=n/\n<(i:Int))=(l.take i).any p:=by
 rw [Bool.eq_iff_iff,decide_eq_true_eq,aJs];rcases h with ⟨rfl,h⟩|⟨j,rfl,⟨x,a,b⟩,e⟩
 ·constructor
  ·intro h;omega
  ·rintro⟨j,x,a,b⟩;rw [List.getElem?_take]at a;split at a
   ·rw [h j x a]at b;cases b
   ·cases a
 ·constructor
  ·intro _;exact⟨j,x,by rw [List.getElem?_take,if_pos (by omega)];exact a,b⟩
  ·rintro⟨m,y,c,d⟩;rw [List.getElem?_take]at c;split at c
   ·rename_i _
    by_cases f:m<j
    ·rw [e m y f c]at d;cases d
    ·omega
   ·cases c
theorem ix_self {p:α->Bool}{l:List α}{n:Int}(h:(n= -1/\ ∀(j:Nat) x,l[j]? =some x->p x=false)\/ ∃j:Nat,n=((0+j:Nat):Int)/\(∃x,l[j]? =some x/\p x=true)/\ ∀(m:Nat) y,m<j->l[m]? =some y->p y=false){i:Nat}{x:α}(b:l[i]? =some x)(a:p x=true):0<=n:=by
 rcases h with ⟨rfl,h⟩|⟨j,rfl,_,_⟩
 ·rw [h i x b]at a;cases a
 ·omega
theorem aAs (l:List α)(i:Nat)(hi:i<=l.length):sub' l 0 (i:Int)=some (l.take i):=by
 unfold sub';rw [if_pos ⟨by omega,by omega,by omega⟩];simp
end
theorem vK (l:List Str) (c:Str) (a:l.length<=9223372036854775807):Fbd l c=some (l.any λy=>decide (c=y)):=by
 unfold Fbd Fbt;simp only [zS,yU];unfold Fe9;obtain⟨n,b,d⟩:=wH (λy=>decide (c=y)) l 0;rw [yZ l (λi x=>if decide (c=x)=true then some (some (i:Int))else none) (some (-1)) a ?_ ?_,b,zA,aIx d];intro k i x e hi;simp only [zS];rw [xJ hi,zI,bD e,zA,dM hi a];cases decide (c=x)<;>rfl;intro k;simp only [zS];rw [xI,zH]
theorem vT (l:List Str) (c:Str) (a:l.length<=9223372036854775807): ∃n,Fam l c=some n/\decide (0<=n)=l.any λy=>decide (c=y):=by
 unfold Fam;simp only [yU];unfold Ffg;obtain⟨n,b,d⟩:=wH (λy=>decide (y=c)) l 0;refine⟨n,?_,?_⟩;rw [yZ l (λi x=>if decide (x=c)=true then some (some (i:Int))else none) (some (-1)) a ?_ ?_,b];intro k i x e hi;simp only [zS];rw [xJ hi,zI,bD e,zA,dM hi a];cases decide (x=c)<;>rfl;intro k;simp only [zS];rw [xI,zH];rw [aIx d];congr 1;funext y;exact decide_eq_decide.2 eq_comm
def nmd (l:List dJ)(s:Str):Bool:=l.any λy=>decide (y.Name=s)
theorem aGq (s:Str) (r:Rules) (i:Nat) (hi:i<=r.Rules.length) (e:r.Rules.length<=9223372036854775807):Fcp s r (i:Int)=some (nmd (r.Rules.take i) s):=by
 unfold Fcp;rw [aAs _ _ hi,zA];unfold Fd6 Fea;simp only [zS,yU];unfold Ffx;have a:(r.Rules.take i).length<=9223372036854775807:=by rw [List.length_take];omega
 generalize r.Rules.take i=l at *;obtain⟨n,b,c⟩:=wH (λy:dJ=>decide (y.Name=s)) l 0;rw [yZ l (λi x=>if decide (x.Name=s)=true then some (some (i:Int))else none) (some (-1)) a ?_ ?_,b,zA,aIx c];rfl;intro k i x d hi;simp only [zS,Ffh];rw [xJ hi,zI,bD d,zA,zA,dM hi a];cases decide (x.Name=s)<;>rfl;intro k;simp only [zS];rw [xI,zH]
theorem aDg (s:Str) (r:Rules) (b:r.Rules.length<=9223372036854775807): ∃n,Fbe r s=some n/\(∀i:Nat,decide (0<=n/\n<(i:Int))=nmd (r.Rules.take i) s)/\ ∀(i:Nat) x,r.Rules[i]? =some x->x.Name=s->0<=n:=by
 unfold Fbe;simp only [yU];unfold Ff7;obtain⟨n,d,c⟩:=wH (λy:dJ=>decide (y.Name=s)) r.Rules 0;refine⟨n,?_,λi=>ix_take c i,λi x a e=>ix_self c a (dT e)⟩;rw [yZ r.Rules (λi x=>if decide (x.Name=s)=true then some (some (i:Int))else none) (some (-1)) b ?_ ?_,d];intro k i x a hi;simp only [zS];rw [xJ hi,zI,bD a,zA,dM hi b];cases decide (x.Name=s)<;>rfl;intro k;simp only [zS];rw [xI,zH]
def mv1 (c:Cond):Int:=if c.Kind=6\/c.Kind=7 then 2 else 0
theorem mv1_eq (c:Cond):Fc3 c=some (mv1 c):=by
 unfold Fc3 mv1;simp only [zS,kH,zA];by_cases h:c.Kind=6\/c.Kind=7;have e:(decide (c.Kind=6)||decide (c.Kind=7))=true:=by rw [Bool.or_eq_true,decide_eq_true_eq,decide_eq_true_eq];exact h
 rw [if_pos h,e,zI];have e:(decide (c.Kind=6)||decide (c.Kind=7))=false:=by rw [Bool.or_eq_false_iff,decide_eq_false_iff_not,decide_eq_false_iff_not];exact not_or.1 h
 rw [if_neg h,e,zH]
theorem aJh: ∀(n:Nat) (c:Cond),dN c<=n->okC c->Fbr n c=some (fE mv1 c)
 |0,c,h,_=>by have:=sD c;omega
 |n+1,c,h,b=>by
  have a:=((kR c).1 b).2.1;show Fca (Fbr n) c=_;unfold Fca;rw [mv1_eq,zA,aDc];simp only [zS,yU]
  by_cases e:mv1 c=0
  ·rw [if_pos e,qD (by simpa using e),zH];unfold Fdz;rw [yZ c.Kids (λ_ x=>if fE mv1 x=0 then none else some (some (fE mv1 x))) (some 0) a ?_ ?_,vS]
   ·intro k _ x d hi;obtain⟨f,_,_⟩:=sZ b d;simp only [zS];rw [xJ hi,zI,bD d,zA,aJh n x (by omega) f,zA,dM hi a]
    by_cases z:fE mv1 x=0
    ·rw [if_pos z,qD (by simpa using z),zH]
    ·rw [if_neg z,dT z,zI]
   ·intro k;simp only [zS];rw [xI,zH]
  ·rw [if_neg e,dT e,zI]
mutual
def qA (p:Cond->Bool):Cond->Bool
 |⟨k,nm,ot,op,n,fr,ks⟩=>p ⟨k,nm,ot,op,n,fr,ks⟩||xX p ks
def xX (p:Cond->Bool):List Cond->Bool
 | []=>false
 |c::l=>qA p c||xX p l
end
theorem aJq (p:Cond->Bool)(c:Cond):qA p c=(p c||xX p c.Kids):=by cases c;rfl
theorem uS (p:Cond->Bool): ∀(l:List Cond) (i:Nat),aH (λ_ x=>if qA p x=true then some (some true)else none) (some false) l i=some (xX p l)
 | [],_=>rfl
 |c::l,i=>by
  rw [aH,xX]
  cases h:qA p c with
  |true=>rfl
  |false=>exact uS p l (i+1)
mutual
theorem aIa (f:Cond->Int)(p:Cond->Bool)(e:Int)(a:e≠0)(h: ∀c,f c=if p c=true then e else 0): ∀c,fE f c=if qA p c=true then e else 0
 |⟨k,nm,ot,op,n,fr,ks⟩=>by
  rw [fE,qA,h]
  cases p ⟨k,nm,ot,op,n,fr,ks⟩with
  |true=>simp [a]
  |false=>simpa using aJu f p e a h ks
theorem aJu (f:Cond->Int)(p:Cond->Bool)(e:Int)(a:e≠0)(h: ∀c,f c=if p c=true then e else 0): ∀l,fEs f l=if xX p l=true then e else 0
 | []=>rfl
 |c::l=>by
  rw [fEs,xX,aIa f p e a h c]
  cases qA p c with
  |true=>simp [a]
  |false=>simpa using aJu f p e a h l
end
def pMv (c:Cond):Bool:=decide (c.Kind=6)||decide (c.Kind=7)
theorem aHn: ∀(n:Nat) (c:Cond),dN c<=n->okC c->Fbs n c=some (qA pMv c)
 |0,c,h,_=>by have:=sD c;omega
 |n+1,c,h,b=>by
  have a:=((kR c).1 b).2.1;show Fcc (Fbs n) c=_;unfold Fcc;simp only [zS,yU,kH,zA];rw [aJq];show gV (pMv c) _ _=_
  cases pMv c with
  |true=>rfl
  |false=>
   rw [zH,Bool.false_or];unfold Fd2;rw [yZ c.Kids (λ_ x=>if qA pMv x=true then some (some true)else none) (some false) a ?_ ?_,uS]
   ·intro k _ x d hi;obtain⟨e,_,_⟩:=sZ b d;simp only [zS];rw [xJ hi,zI,bD d,zA,aHn n x (by omega) e,zA,dM hi a]
    cases qA pMv x<;>rfl
   ·intro k;simp only [zS];rw [xI,zH]
theorem mv1_p (c:Cond):mv1 c=if pMv c=true then 2 else 0:=by
 unfold mv1 pMv;simp only [Bool.or_eq_true,decide_eq_true_eq]
def mvE (r:Rules)(m:fQ):Int:=
 if (r.Phases.any λy=>decide (m.From=y))=true/\(r.Phases.any λy=>decide (m.To=y))=true then
  if ckC m.When=0 then if qA pMv m.When=true then 2 else 0 else ckC m.When
 else 4
theorem move_eq (r:Rules) (m:fQ) (b:r.Phases.length<=9223372036854775807) (a:okC m.When):Fc4 r m=some (mvE r m):=by
 unfold Fc4 mvE;simp only [zS,yU];unfold Ffr;rw [yZ [m.From,m.To] (λ_ x=>if (r.Phases.any λy=>decide (x=y))=true then none else some (some 4)) (if ckC m.When=0 then some (if qA pMv m.When=true then 2 else 0)else some (ckC m.When)) (show(2:Nat)<=_ by omega) ?_ ?_];simp only [aH];cases(r.Phases.any λy=>decide (m.From=y))<;>cases(r.Phases.any λy=>decide (m.To=y))<;>simp<;>split<;>rfl;intro k _ x c hi;simp only [zS];rw [xJ hi,zI,bD c,zA,vK _ _ b,zA,dM hi (show(2:Nat)<=_ by omega)];cases(r.Phases.any λy=>decide (x=y))<;>rfl;intro k;simp only [zS];rw [xI,zH,vX _ a,zA];by_cases z:ckC m.When=0;have g:=rO z;rw [if_pos z,qD (by simpa using z),zH];unfold Fes;rw [aJh FU m.When (Nat.le_of_lt (tZ (by omega))) a,zA,aIa mv1 pMv 2 (by decide) mv1_p];rw [if_neg z,dT z,zI]
theorem aHr (r:Rules) (m:fQ) (o:r.Phases.length<=9223372036854775807) (p:okC m.When) (k:Option Int):
  (gI (gI (Fam r.Phases m.From) λb=>gU (decide (b<0)) λc=>gV c (some true) (gI (Fam r.Phases m.To) λd=>gU (decide (d<0)) λf=>some f)) λh=>
   gV h (some 4) (gI (Fa8 m.When) λa=>gU (decide (a≠0)) λi=>gV i (some a) (gI (Fcz m.When) λj=>gV j (some 2) k)))=
  if mvE r m=0 then k else some (mvE r m):=by
 obtain⟨q,s,t⟩:=vT r.Phases m.From o;obtain⟨u,v,w⟩:=vT r.Phases m.To o;have l: ∀n:Int,decide (n<0)= !decide (0<=n):=λn=>by rw [<-decide_not];exact decide_eq_decide.2 (by omega)
 unfold mvE;rw [s,zA];simp only [zS];rw [l q,t,v,uF _ p];simp only [zA];rw [l u,w]
 cases(r.Phases.any λy=>decide (m.From=y))with
 |false=>simp [gV,gI]
 |true=>
  cases(r.Phases.any λy=>decide (m.To=y))with
  |false=>simp [gV,gI]
  |true=>
   simp only [Bool.not_true,zH,zA,and_self,if_true]
   by_cases z:ckC m.When=0
   ·have g:=rO z;have e:Fcz m.When=some (qA pMv m.When):=aHn FU m.When (Nat.le_of_lt (tZ (by omega))) p;rw [if_pos z,qD (by simpa using z),zH,e,zA]
    cases qA pMv m.When<;>simp [gV]
   ·rw [if_neg z,dT z,zI,if_neg z]
def pRl (r:Rules)(i:Nat)(c:Cond):Bool:=(decide (c.Kind=6)&& !(r.Phases.any λy=>decide (c.Name=y)))||(decide (c.Kind=7)&& !nmd (r.Rules.take i) c.Name)
def rl1 (r:Rules)(i:Nat)(c:Cond):Int:=if pRl r i c=true then 4 else 0
theorem rl1_eq (r:Rules)(i:Nat)(c:Cond)(f:r.Phases.length<=9223372036854775807)(g:r.Rules.length<=9223372036854775807)(hi:i<=r.Rules.length):Fc6 c r (i:Int)=some (rl1 r i c):=by
 unfold Fc6 rl1 pRl;rw [vK _ _ f,aGq _ _ _ hi g];simp only [zS,zA];generalize decide (c.Kind=6)=a;generalize decide (c.Kind=7)=b;generalize (r.Phases.any λy=>decide (c.Name=y))=d;generalize nmd (r.Rules.take i) c.Name=e;cases a<;>cases b<;>cases d<;>cases e<;>rfl
theorem aKg (r:Rules) (i:Nat) (b:r.Phases.length<=9223372036854775807) (d:r.Rules.length<=9223372036854775807) (hi:i<=r.Rules.length): ∀(n:Nat) (c:Cond),dN c<=n->okC c->Fbk n c r (i:Int)=some (fE (rl1 r i) c)
 |0,c,h,_=>by have:=sD c;omega
 |n+1,c,h,f=>by
  have a:=((kR c).1 f).2.1;show Fck (Fbk n) c r (i:Int)=_;unfold Fck;rw [rl1_eq r i c b d hi,zA,aDc];simp only [zS,yU]
  by_cases e:rl1 r i c=0
  ·rw [if_pos e,qD (by simpa using e),zH];unfold Fd7;rw [yZ c.Kids (λ_ x=>if fE (rl1 r i) x=0 then none else some (some (fE (rl1 r i) x))) (some 0) a ?_ ?_,vS]
   ·intro k _ x g l;obtain⟨m,_,_⟩:=sZ f g;simp only [zS];rw [xJ l,zI,bD g,zA,aKg r i b d hi n x (by omega) m,zA,dM l a]
    by_cases z:fE (rl1 r i) x=0
    ·rw [if_pos z,qD (by simpa using z),zH]
    ·rw [if_neg z,dT z,zI]
   ·intro k;simp only [zS];rw [xI,zH]
  ·rw [if_neg e,dT e,zI]
theorem aDa (r:Rules) (i:Nat) (m:r.Phases.length<=9223372036854775807) (o:r.Rules.length<=9223372036854775807): ∀(n:Nat) (c:Cond),dN c<=n->okC c->Fa6 n r (i:Int) c=some (qA (pRl r i) c)
 |0,c,h,_=>by have:=sD c;omega
 |n+1,c,h,p=>by
  have f:=((kR c).1 p).2.1;obtain⟨u,v,w⟩:=vT r.Phases c.Name m;obtain⟨q,z,A,_⟩:=aDg c.Name r o;have l: ∀n:Int,decide (n<0)= !decide (0<=n):=λn=>by rw [<-decide_not];exact decide_eq_decide.2 (by omega)
  have g:Fcy (Fa6 n) r (i:Int) c (λ_=>some false) 0=some (xX (pRl r i) c.Kids):=by
   unfold Fcy;rw [yZ c.Kids (λ_ x=>if qA (pRl r i) x=true then some (some true)else none) (some false) f ?_ ?_,uS]
   ·intro k _ x s t;obtain⟨B,_,_⟩:=sZ p s;simp only [zS];rw [xJ t,zI,bD s,zA,aDa r i m o n x (by omega) B,zA,dM t f]
    cases qA (pRl r i) x<;>rfl
   ·intro k;simp only [zS];rw [xI,zH]
  show Fb1 (Fa6 n) r (i:Int) c=_;unfold Fb1;simp only [zS,yU];rw [v,z];simp only [zA,kH];rw [l u,w,g,aJq];have C:(decide (q<0)||decide ((i:Int)<=q))= !nmd (r.Rules.take i) c.Name:=by
   rw [<-A i,<-decide_not,Bool.eq_iff_iff,Bool.or_eq_true,decide_eq_true_eq,decide_eq_true_eq,decide_eq_true_eq];omega
  rw [C];unfold pRl;generalize decide (c.Kind=6)=a;generalize decide (c.Kind=7)=b;generalize (r.Phases.any λy=>decide (c.Name=y))=d;generalize nmd (r.Rules.take i) c.Name=e
  cases a<;>cases b<;>cases d<;>cases e<;>rfl
def rlE (r:Rules)(i:Nat)(x:dJ):Int:=
 if nV x.Name=true then if nmd (r.Rules.take i) x.Name=true then 5 else if ckC x.When=0 then if qA (pRl r i) x.When=true then 4 else 0 else ckC x.When else 8
theorem rule_eq (r:Rules) (i:Nat) (x:dJ) (a:r.Rules[i]? =some x) (d:r.Phases.length<=9223372036854775807) (b:r.Rules.length<=9223372036854775807) (e:okS x.Name) (c:okC x.When):Fda r (i:Int)=some (rlE r i x):=by
 have hi:i<=r.Rules.length:=Nat.le_of_lt (gS.1 a).1;unfold Fda rlE;rw [bD a,zA,pV _ e,zA,aGq _ _ _ hi b,vX _ c];simp only [zS,zA]
 cases nV x.Name with
 |false=>rfl
 |true=>
  cases nmd (r.Rules.take i) x.Name with
  |true=>rfl
  |false=>
   simp only [Bool.not_true,zH,if_true,Bool.false_eq_true,if_false]
   by_cases z:ckC x.When=0
   ·have g:=rO z;rw [if_pos z,qD (by simpa using z),zH];unfold Fe3;rw [aKg r i d b hi FU x.When (Nat.le_of_lt (tZ (by omega))) c,zA,aIa (rl1 r i) (pRl r i) 4 (by decide) (λ_=>rfl)]
   ·rw [if_neg z,dT z,zI]
theorem aIl (r:Rules) (i:Nat) (x:dJ) (p:r.Rules[i]? =some x) (t:r.Phases.length<=9223372036854775807) (q:r.Rules.length<=9223372036854775807) (u:okS x.Name) (s:okC x.When) (k:Option Int):
  (gI (Fax x.Name) λb=>gU (!b) λc=>gV c (some 8) (gI (at' r.Rules (i:Int)) λd=>gI (Fbe r d.Name) λf=>gU (decide (f<(i:Int))) λh=>gV h (some 5)
   (gI (at' r.Rules (i:Int)) λj=>gI (Fa8 j.When) λa=>gU (decide (a≠0)) λl=>gV l (some a) (gI (at' r.Rules (i:Int)) λm=>gI (Fdd r (i:Int) m.When) λo=>gV o (some 4) k))))=
  if rlE r i x=0 then k else some (rlE r i x):=by
 obtain⟨n,v,w,y⟩:=aDg x.Name r q;have A:=y i x p rfl;unfold rlE;rw [kS _ u,zA,bD p];simp only [zS,zA];rw [v,zA,uF _ s,zA];have e:decide (n<(i:Int))=nmd (r.Rules.take i) x.Name:=by rw [<-w i];exact decide_eq_decide.2 (by omega)
 rw [e]
 cases nV x.Name with
 |false=>simp [gV]
 |true=>
  cases nmd (r.Rules.take i) x.Name with
  |true=>simp [gV]
  |false=>
   simp only [Bool.not_true,zH,if_true,Bool.false_eq_true,if_false]
   by_cases z:ckC x.When=0
   ·have g:=rO z;have e:Fdd r (i:Int) x.When=some (qA (pRl r i) x.When):=aDa r i t q FU x.When (Nat.le_of_lt (tZ (by omega))) s;rw [if_pos z,qD (by simpa using z),zH,e,zA]
    cases qA (pRl r i) x.When<;>simp [gV]
   ·rw [if_neg z,dT z,zI,if_neg z]
def okR (r:Rules):Prop:=okL okS r.Phases/\okL (λm:fQ=>okS m.From/\okS m.To/\okC m.When) r.Moves/\okL (λx:dJ=>okS x.Name/\okC x.When) r.Rules
def phE (l:List Str)(i:Nat)(x:Str):Int:=if nV x=true then if ((l.take i).any λy=>decide (x=y))=true then 5 else 0 else 8
def chk (r:Rules):Option Int:=
 if (decide (20<(r.Phases.length:Int))||decide (60<(r.Moves.length:Int)))||decide (60<(r.Rules.length:Int))then some 3
 else aH (λi x=>if phE r.Phases i x=0 then none else some (some (phE r.Phases i x))) (aH (λ_ m=>if mvE r m=0 then none else some (some (mvE r m))) (aH (λi x=>if rlE r i x=0 then none else some (some (rlE r i x))) (some 0) r.Rules 0) r.Moves 0) r.Phases 0
theorem Check_eq (r:Rules) (e:okR r):Fcb r=chk r:=by
 obtain⟨⟨c,p2⟩,⟨m1,m2⟩,⟨d,f⟩⟩:=e;unfold Fcb chk;simp only [zS,yU,kH,zA];rw [wI];congr 1;unfold Ffs;refine yZ r.Phases _ _ c (λk i x a hi=>?_) (λk=>?_);have b:=p2 x (mG a);simp only [zS];rw [xJ hi,zI,bD a,zA,pV _ b,zA,aAs _ _ (Nat.le_of_lt hi),zA,vK _ _ (by rw [List.length_take];omega),zA,dM hi c];unfold phE;cases nV x<;>cases((r.Phases.take i).any λy=>decide (x=y))<;>rfl;simp only [zS];rw [xI,zH];unfold Ff1;refine yZ r.Moves _ _ m1 (λk i x a hi=>?_) (λk=>?_);have b:=m2 x (mG a);simp only [zS];rw [xJ hi,zI,bD a,zA,move_eq r x c b.2.2,zA,dM hi m1];by_cases z:mvE r x=0;rw [if_pos z,qD (by simpa using z),zH];rw [if_neg z,dT z,zI];simp only [zS];rw [xI,zH];unfold Ffn;refine yZ r.Rules _ _ d (λk i x a hi=>?_) (λk=>?_);have b:=f x (mG a);simp only [zS];rw [xJ hi,zI,rule_eq r i x a c d b.1 b.2,zA,dM hi d];by_cases z:rlE r i x=0;rw [if_pos z,qD (by simpa using z),zH];rw [if_neg z,dT z,zI];simp only [zS];rw [xI,zH]
theorem rCheck_eq (r:Rules) (f:okR r):Fbh r=chk r:=by
 obtain⟨⟨d,p2⟩,⟨m1,m2⟩,⟨e,g⟩⟩:=f;unfold Fbh chk;simp only [zS,yU,kH,zA];rw [wI];congr 1;unfold Fft;refine yZ r.Phases _ _ d (λk i x a hi=>?_) (λk=>?_);have b:=p2 x (mG a);obtain⟨n,h,j⟩:=vT (r.Phases.take i) x (by rw [List.length_take];omega);simp only [zS];rw [xJ hi,zI,bD a,zA,kS _ b,zA,aAs _ _ (Nat.le_of_lt hi),zA,zA,h,zA,j,dM hi d];unfold phE;cases nV x<;>cases((r.Phases.take i).any λy=>decide (x=y))<;>rfl;simp only [zS];rw [xI,zH];unfold Ffz;refine yZ r.Moves _ _ m1 (λk i x a hi=>?_) (λk=>?_);have b:=m2 x (mG a);have c:=aHr r x d b.2.2 (k ((i+1:Nat):Int));simp only [zS]at c⊢;rw [xJ hi,zI,bD a,zA,dM hi m1,c];by_cases z:mvE r x=0;rw [if_pos z,if_pos z];rw [if_neg z,if_neg z];simp only [zS];rw [xI,zH];unfold Ffu;refine yZ r.Rules _ _ e (λk i x a hi=>?_) (λk=>?_);have b:=g x (mG a);have c:=aIl r i x a d e b.1 b.2 (k ((i+1:Nat):Int));simp only [zS]at c⊢;rw [xJ hi,zI,bD a,zA,dM hi e];rw [bD a]at c;rw [c];by_cases z:rlE r i x=0;rw [if_pos z,if_pos z];rw [if_neg z,if_neg z];simp only [zS];rw [xI,zH]
theorem vP {s:Str}(h:nV s=true):s.length<=30:=by
 unfold nV at h;simp only [Bool.and_eq_true,decide_eq_true_eq]at h;omega
structure Gd (c:Cond):Prop where
 k1:1<=c.Kind/\c.Kind<=15
 nm:c.Name.length<=30
 ot:c.Other.length<=30
 op:0<=c.Op/\c.Op<=6
 n: -1125899906842624<=c.N/\c.N<=1125899906842624
 fr:0<=c.Frames/\c.Frames<=4096
set_option maxHeartbeats 20000000 in
theorem gd_in (nm ot:Str)(op n fr:Int)(ks:List Cond)(k:Int)(hk2:k=1\/k=2\/k=3\/k=4\/k=5\/k=6\/k=7\/k=8\/k=9\/k=10\/k=11\/k=12\/k=13\/k=14\/k=15)(h1:okS nm)(h2:okS ot)(h:Fan ⟨k,nm,ot,op,n,fr,ks⟩=some 0):Gd ⟨k,nm,ot,op,n,fr,ks⟩:=by
  have q1:= @vP nm;have q2:= @vP ot;rcases hk2 with rfl | rfl | rfl | rfl | rfl | rfl | rfl | rfl | rfl | rfl | rfl | rfl | rfl | rfl | rfl<;>
    (unfold Fan at h
     simp only [rf1,rf2,rf3,rf4,rf5,rf6,rf7,rf8,rf9,rf10,rf11,rf12,rf13,rf14,rf15,zA,zS,Bool.not_true,Bool.not_false,zI,zH,yU,out6,kS _ h1,kS _ h2,Int.reduceEq,Int.reduceLT,Int.reduceLE,decide_true,decide_false,Bool.or_self,aAm,kH,aCa] at h;simp only [wI] at h;constructor<;>grind)
theorem gd_of {c:Cond} (d:okC c) (f:c.Kids.length<=200) (h:ck1 c=0):Gd c:=by
 have e:=(aEj c (aEn d) f).2;rw [h]at e;by_cases a:1<=c.Kind/\c.Kind<=15;have o:=aEn d;obtain⟨k,nm,ot,op,n,fr,ks⟩:=c;have b:k=1\/k=2\/k=3\/k=4\/k=5\/k=6\/k=7\/k=8\/k=9\/k=10\/k=11\/k=12\/k=13\/k=14\/k=15:=by have:=a.1;have:=a.2;simp only at *;omega
 exact gd_in nm ot op n fr ks k b o.1 o.2 e;rw [(chk_no c a).2]at e;cases e
theorem aJf {f:Cond->Int}: ∀{l:List Cond},fEs f l=0-> ∀x∈l,fE f x=0
 | [],_,x,b=>by cases b
 |a::l,h,x,b=>by
  rw [fEs]at h;split at h
  ·rename_i q;rcases List.mem_cons.1 b with rfl|b
   ·exact q
   ·exact aJf h x b
  ·rename_i q;exact absurd h q
structure Gt (c:Cond):Prop where
 ok:okC c
 d:dN c<=20
 n:cN c<=200
 e:fE ck1 c=0
theorem gt_of {c:Cond}(a:okC c)(h:ckC c=0):Gt c:=by
 obtain⟨b,d,e⟩:=rO h;exact⟨a,b,d,e⟩
theorem Gt.self {c:Cond}(g:Gt c):Gd c:=by
 have h:=g.e;rw [aDc]at h;have a:=vY c.Kids;have b:=aAa c;have d:=g.n;split at h;rename_i q;exact gd_of g.ok (by omega) q;rename_i q;exact absurd h q
theorem Gt.kid {c x:Cond}(g:Gt c)(a:x∈c.Kids):Gt x:=by
 obtain⟨_,b⟩:=List.getElem?_of_mem a;obtain⟨f,_,_⟩:=sZ g.ok b;have l:=g.d;have m:=g.n;refine⟨f,by omega,by omega,?_⟩;have h:=g.e;rw [aDc]at h;split at h;exact aJf h x a;rename_i q;exact absurd h q
theorem take_snoc {α:Type}{l:List α}{i:Nat}{x:α}(a:l[i]? =some x):l.take (i+1)=l.take i++[x]:=by
 rw [List.take_add_one,a];rfl
structure Gr' (r:Rules):Prop where
 p:r.Phases.length<=20
 m:r.Moves.length<=60
 l:r.Rules.length<=60
 pn: ∀x∈r.Phases,x.length<=30
 pd: ∀(i:Nat) x,r.Phases[i]? =some x->x∉r.Phases.take i
 mg: ∀x∈r.Moves,Gt x.When/\x.From.length<=30/\x.To.length<=30
 lg: ∀x∈r.Rules,Gt x.When/\x.Name.length<=30
theorem rH {α:Type} (e:Nat->α->Int) (fin:Option Int): ∀(l:List α) (i:Nat),aH (λi x=>if e i x=0 then none else some (some (e i x))) fin l i=some 0->fin=some 0/\ ∀(j:Nat) x,l[j]? =some x->e (i+j) x=0
 | [],i,h=>⟨h,λj x b=>by simp at b⟩
 |a::l,i,h=>by
  rw [aH]at h
  by_cases z:e i a=0
  ·rw [if_pos z]at h;obtain⟨c,d⟩:=rH e fin l (i+1) h;refine⟨c,λj x b=>?_⟩
   cases j with
   |zero=>simp at b;subst b;simpa using z
   |succ j=>have:=d j x (by simpa using b);rwa [show i+(j+1)=i+1+j by omega]
  ·rw [if_neg z]at h;exact absurd (oI h) z
theorem chk_good {r:Rules} (f:okR r) (h:chk r=some 0):Gr' r:=by
 unfold chk at h;split at h
 ·exact absurd (oI h) (by decide)
 ·rename_i q;simp only [Bool.or_eq_true,decide_eq_true_eq,not_or]at q;obtain⟨k,l⟩:=rH (phE r.Phases) _ _ _ h;obtain⟨m,o⟩:=rH (λ_=>mvE r) _ _ _ k;obtain⟨_,p⟩:=rH (rlE r) _ _ _ m;have g: ∀(i:Nat) x,r.Phases[i]? =some x->nV x=true/\x∉r.Phases.take i:=by
   intro i x c;have:=l i x c;rw [Nat.zero_add]at this;unfold phE at this;split at this
   ·rename_i a;refine⟨a,?_⟩;split at this
    ·exact absurd this (by decide)
    ·rename_i b;intro s;exact b (List.any_eq_true.2 ⟨x,s,by simp⟩)
   ·exact absurd this (by decide)
  have e: ∀x∈r.Phases,x.length<=30:=by
   intro x c;obtain⟨j,d⟩:=List.getElem?_of_mem c;exact vP (g j x d).1
  refine⟨by omega,by omega,by omega,e,λi x c=>(g i x c).2,?_,?_⟩
  ·intro x c;obtain⟨j,d⟩:=List.getElem?_of_mem c;have:=o j x d;unfold mvE at this;split at this
   ·rename_i a;split at this
    ·rename_i b;obtain⟨y,t,u⟩:=List.any_eq_true.1 a.1;obtain⟨z,v,z2⟩:=List.any_eq_true.1 a.2;refine⟨gt_of (f.2.1.2 x c).2.2 b,?_,?_⟩
     ·rw [of_decide_eq_true u];exact e y t
     ·rw [of_decide_eq_true z2];exact e z v
    ·rename_i b;exact absurd this b
   ·exact absurd this (by decide)
  ·intro x c;obtain⟨j,d⟩:=List.getElem?_of_mem c;have:=p j x d;unfold rlE at this;split at this
   ·rename_i a;split at this
    ·exact absurd this (by decide)
    ·split at this
     ·rename_i b;exact⟨gt_of (f.2.2.2 x c).2 b,vP a⟩
     ·rename_i b;exact absurd this b
   ·exact absurd this (by decide)
theorem chk_some (r:Rules): ∃e,chk r=some e:=by
 have b: ∀{α:Type} (e:Nat->α->Int) (fin:Option Int) (_: ∃z,fin=some z) (l:List α) (i:Nat),∃z,aH (λi x=>if e i x=0 then none else some (some (e i x))) fin l i=some z:=by
  intro α e fin c l
  induction l with
  |nil=>intro i;exact c
  |cons a l d=>
   intro i;rw [aH]
   by_cases z:e i a=0
   ·rw [if_pos z];exact d (i+1)
   ·rw [if_neg z];exact⟨_,rfl⟩
 unfold chk;split
 ·exact⟨_,rfl⟩
 ·exact b (phE r.Phases) _ (b (λ_=>mvE r) _ (b (rlE r) _ ⟨0,rfl⟩ _ _) _ _) _ _
end Go.Lf
