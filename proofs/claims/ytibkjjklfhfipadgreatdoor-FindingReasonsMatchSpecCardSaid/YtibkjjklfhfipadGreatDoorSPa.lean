/- Laws that the claim stands on; no condition beyond those stated. -/
import Derived.Test.YtibkjjklfhfipadGreatDoorDNa
namespace Go.Lf
open Go.OB
def okN (c:Cond):Prop:=okS c.Name/\okS c.Other
theorem len_k (n:Nat) (k:Int):(!(decide (k<=(n:Int))&&decide ((n:Int)<=k)))=decide ((n:Int)≠k):=by
 by_cases h:(n:Int)=k;simp [h];by_cases a:k<=(n:Int);by_cases b:(n:Int)<=k;omega;simp [h,a,b];simp [h,a]
theorem len_2 {n:Nat}(a:n<=200):(!(decide (2<=(n:Int))&&decide ((n:Int)<=200)))=decide ((n:Int)<2):=by
 rw [Bool.eq_iff_iff];simp only [Bool.not_eq_true',Bool.and_eq_false_iff,decide_eq_false_iff_not,decide_eq_true_eq];omega
section
variable (nm ot:Str) (op n fr:Int) (ks:List Cond)
theorem fo1:Fae 1=some (⟨false,false,false,false,false,0,0⟩,true):=rfl
theorem rf1:Fah 1=some (false,false,false,false,false,0):=rfl
theorem fo2:Fae 2=some (⟨false,false,false,false,false,0,0⟩,true):=rfl
theorem rf2:Fah 2=some (false,false,false,false,false,0):=rfl
theorem fo3:Fae 3=some (⟨true,false,true,true,false,0,0⟩,true):=rfl
theorem rf3:Fah 3=some (true,false,true,true,false,0):=rfl
theorem fo4:Fae 4=some (⟨true,true,true,false,false,0,0⟩,true):=rfl
theorem rf4:Fah 4=some (true,true,true,false,false,0):=rfl
theorem fo5:Fae 5=some (⟨true,false,false,true,true,0,0⟩,true):=rfl
theorem rf5:Fah 5=some (true,false,false,true,true,0):=rfl
theorem fo6:Fae 6=some (⟨true,false,false,false,false,0,0⟩,true):=rfl
theorem rf6:Fah 6=some (true,false,false,false,false,0):=rfl
theorem fo7:Fae 7=some (⟨true,false,false,false,false,0,0⟩,true):=rfl
theorem rf7:Fah 7=some (true,false,false,false,false,0):=rfl
theorem fo8:Fae 8=some (⟨false,false,false,false,false,1,1⟩,true):=rfl
theorem rf8:Fah 8=some (false,false,false,false,false,1):=rfl
theorem fo9:Fae 9=some (⟨false,false,false,false,false,2,200⟩,true):=rfl
theorem rf9:Fah 9=some (false,false,false,false,false,(-1)):=rfl
theorem fo10:Fae 10=some (⟨false,false,false,false,false,2,200⟩,true):=rfl
theorem rf10:Fah 10=some (false,false,false,false,false,(-1)):=rfl
theorem fo11:Fae 11=some (⟨false,false,false,false,true,1,1⟩,true):=rfl
theorem rf11:Fah 11=some (false,false,false,false,true,1):=rfl
theorem fo12:Fae 12=some (⟨false,false,false,false,true,1,1⟩,true):=rfl
theorem rf12:Fah 12=some (false,false,false,false,true,1):=rfl
theorem fo13:Fae 13=some (⟨false,false,false,true,true,1,1⟩,true):=rfl
theorem rf13:Fah 13=some (false,false,false,true,true,1):=rfl
theorem fo14:Fae 14=some (⟨false,false,false,false,false,2,2⟩,true):=rfl
theorem rf14:Fah 14=some (false,false,false,false,false,2):=rfl
theorem fo15:Fae 15=some (⟨false,false,false,false,false,1,1⟩,true):=rfl
theorem rf15:Fah 15=some (false,false,false,false,false,1):=rfl
set_option maxHeartbeats 20000000 in
theorem chk_in (k:Int)(hk2:k=1\/k=2\/k=3\/k=4\/k=5\/k=6\/k=7\/k=8\/k=9\/k=10\/k=11\/k=12\/k=13\/k=14\/k=15)(h1:okS nm)(h2:okS ot)(hk:ks.length<=200):Fa1 ⟨k,nm,ot,op,n,fr,ks⟩=Fai ⟨k,nm,ot,op,n,fr,ks⟩/\ ∃r,Fai ⟨k,nm,ot,op,n,fr,ks⟩=some r:=by
  have hb:(decide (1<=fr) && decide (fr<=4096))=true->(decide (1<=n) && decide (n<=fr))=true->(decide (-1125899906842624<=n) && decide (n<=1125899906842624))=true:=by
    simp only [Bool.and_eq_true,decide_eq_true_eq]; omega
  rcases hk2 with rfl | rfl | rfl | rfl | rfl | rfl | rfl | rfl | rfl | rfl | rfl | rfl | rfl | rfl | rfl<;>
    (unfold Fa1 Fai
     simp only [fo1,fo2,fo3,fo4,fo5,fo6,fo7,fo8,fo9,fo10,fo11,fo12,fo13,fo14,fo15,rf1,rf2,rf3,rf4,rf5,rf6,rf7,rf8,rf9,rf10,rf11,rf12,rf13,rf14,rf15,zC,zH,Bool.not_true,Bool.not_false,zS,zK,xE,out6,aQu,wZ _ h1,jT _ h1,wZ _ h2,jT _ h2,Int.reduceEq,Int.reduceLT,Int.reduceLE,decide_true,decide_false,Bool.or_self,aJm,jJ,aAk];simp only [aFe,len_k,len_2 hk];generalize (decide (1<=op) && decide (op<=6))=b1;generalize (decide (1<=fr) && decide (fr<=4096))=b2 at hb ⊢;generalize (decide (1<=n) && decide (n<=fr))=b3 at hb ⊢;generalize (decide (-1125899906842624<=n) && decide (n<=1125899906842624))=b4 at hb ⊢;simp only [nR]
     grind)
end
theorem aZk (c:Cond) (h: ¬(1<=c.Kind/\c.Kind<=15)):Fa1 c=some 7/\Fai c=some 7:=by
 have e: ∀k:Int,1<=k->k<=15->decide (c.Kind=k)=false:=λk _ _=>qD (by omega)
 constructor
 ·unfold Fa1 Fae;simp only [zH,e 1 (by decide) (by decide),e 2 (by decide) (by decide),e 3 (by decide) (by decide),e 4 (by decide) (by decide),e 5 (by decide) (by decide),e 6 (by decide) (by decide),e 7 (by decide) (by decide),e 8 (by decide) (by decide),e 9 (by decide) (by decide),e 10 (by decide) (by decide),e 11 (by decide) (by decide),e 12 (by decide) (by decide),e 13 (by decide) (by decide),e 14 (by decide) (by decide),e 15 (by decide) (by decide),zK,zC,Bool.not_false,zS]
 ·unfold Fai;rw [out6,zC,aFe];have q:(decide (1<=c.Kind)&&decide (c.Kind<=15))=false:=by
   rw [Bool.and_eq_false_iff,decide_eq_false_iff_not,decide_eq_false_iff_not];omega
  rw [q];rfl
def ck1 (c:Cond):Int:=(Fai c).getD 0
theorem aKb (c:Cond) (h:okN c) (j:c.Kids.length<=200):Fa1 c=some (ck1 c)/\Fai c=some (ck1 c):=by
 have b:Fa1 c=Fai c/\ ∃r,Fai c=some r:=by
  by_cases d:1<=c.Kind/\c.Kind<=15
  ·obtain⟨k,nm,ot,op,n,fr,ks⟩:=c;have f:k=1\/k=2\/k=3\/k=4\/k=5\/k=6\/k=7\/k=8\/k=9\/k=10\/k=11\/k=12\/k=13\/k=14\/k=15:=by have:=d.1;have:=d.2;simp only at *;omega
   exact chk_in nm ot op n fr ks k f h.1 h.2 j
  ·obtain⟨i,a⟩:=aZk c d;exact⟨i.trans a.symm,_,a⟩
 obtain⟨i,r,a⟩:=b;have e:ck1 c=r:=by unfold ck1;rw [a];rfl
 rw [e,i];exact⟨a,a⟩
mutual
def cN:Cond->Nat
 |⟨_,_,_,_,_,_,ks⟩=>1+cNs ks
def cNs:List Cond->Nat
 | []=>0
 |c::l=>cN c+cNs l
end
mutual
def dN:Cond->Nat
 |⟨_,_,_,_,_,_,ks⟩=>1+dNs ks
def dNs:List Cond->Nat
 | []=>0
 |c::l=>max (dN c) (dNs l)
end
mutual
def okC:Cond->Prop
 |⟨k,nm,ot,op,n,fr,ks⟩=>(i64 k/\okS nm/\okS ot/\i64 op/\i64 n/\i64 fr)/\ks.length<=9223372036854775807/\okCs ks
def okCs:List Cond->Prop
 | []=>True
 |c::l=>okC c/\okCs l
end
mutual
def fE (f:Cond->Int):Cond->Int
 |⟨k,nm,ot,op,n,fr,ks⟩=>if f ⟨k,nm,ot,op,n,fr,ks⟩=0 then fEs f ks else f ⟨k,nm,ot,op,n,fr,ks⟩
def fEs (f:Cond->Int):List Cond->Int
 | []=>0
 |c::l=>if fE f c=0 then fEs f l else fE f c
end
theorem aAa (c:Cond):cN c=1+cNs c.Kids:=by cases c;rfl
theorem aPy (c:Cond):dN c=1+dNs c.Kids:=by cases c;rfl
theorem aKw (f:Cond->Int)(c:Cond):fE f c=if f c=0 then fEs f c.Kids else f c:=by cases c;rfl
theorem jI (c:Cond):okC c↔(i64 c.Kind/\okS c.Name/\okS c.Other/\i64 c.Op/\i64 c.N/\i64 c.Frames)/\c.Kids.length<=9223372036854775807/\okCs c.Kids:=by cases c;rfl
theorem aAg: ∀(l:List Cond),okCs l↔ ∀c∈l,okC c
 | []=>by simp [okCs]
 |c::l=>by rw [okCs,aAg l];simp
theorem cN_pos (c:Cond):1<=cN c:=by rw [aAa];omega
theorem pI (c:Cond):1<=dN c:=by rw [aPy];omega
theorem aDf: ∀l:List Cond,l.length<=cNs l
 | []=>Nat.le_refl _
 |c::l=>by have:=aDf l;have:=cN_pos c;rw [cNs,List.length_cons];omega
theorem bDg {c:Cond}: ∀{l:List Cond},c∈l->cN c<=cNs l
 |a::l,h=>by
  rw [cNs];rcases List.mem_cons.1 h with rfl|h
  ·omega
  ·have:=bDg h;omega
theorem aJj {c:Cond}: ∀{l:List Cond},c∈l->dN c<=dNs l
 |a::l,h=>by
  rw [dNs];rcases List.mem_cons.1 h with rfl|h
  ·omega
  ·have:=aJj h;omega
theorem bCi {n:Nat}: ∀{l:List Cond},n<dNs l-> ∃x,x∈l/\n<dN x
 | [],h=>by simp [dNs]at h
 |a::l,h=>by
  rw [dNs]at h
  by_cases q:n<dN a
  ·exact⟨a,List.mem_cons_self,q⟩
  ·obtain⟨x,b,c⟩:=bCi (l:=l) (n:=n) (by omega);exact⟨x,List.mem_cons_of_mem _ b,c⟩
def stS (b:Cond->Int->Int->Option (Bool×Int))(l:Int):Nat->Cond->Int->Int ⊕ Option (Bool×Int):=λ_ x s=>match b x l s with
 |none=> .inr none
 |some (true,a)=> .inl a
 |some (false,a)=> .inr (some (false,a))
theorem aMu (d:Cond->Int->Int->Option (Bool×Int)) (l:Nat):
  ∀(ks:List Cond) (_: ∀c∈ks,∀k:Nat,k<=200-> ∃b:Nat,d c (l:Int) (k:Int)=some (decide (dN c<=l/\k+cN c<=200),(b:Int))/\(dN c<=l/\k+cN c<=200->b=k+cN c)) (i k:Nat),k<=200-> ∃b:Nat,aEd (stS d l) (λs=>some (true,s)) ks i (k:Int)=some (decide (dNs ks<=l/\k+cNs ks<=200),(b:Int))/\(dNs ks<=l/\k+cNs ks<=200->b=k+cNs ks)
 | [],_,i,k,e=>⟨k,by simp [aEd,dNs,cNs,e],λ_=>by simp [cNs]⟩
 |c::ks,f,i,k,e=>by
  obtain⟨j,o,p⟩:=f c List.mem_cons_self k e;rw [aEd];simp only [stS,o]
  by_cases a:dN c<=l/\k+cN c<=200
  ·obtain rfl:=p a;obtain⟨q,r,t⟩:=aMu d l ks (λc a=>f c (List.mem_cons_of_mem _ a)) (i+1) (k+cN c) a.2;rw [dT a];refine⟨q,?_,?_⟩
   ·simp only [];rw [r]
    congr 2
    rw [decide_eq_decide,dNs,cNs];have:=a.1;omega
   ·rw [dNs,cNs];intro h;rw [t (by omega)];omega
  ·rw [qD a];refine⟨j,?_,?_⟩
   ·simp only []
    congr 2
    refine(qD ?_).symm;rw [dNs,cNs];omega
   ·rw [dNs,cNs];intro h;exfalso;omega
theorem bDq: ∀(n:Nat) (c:Cond) (l k:Nat),l<n->k<=200->l<=1000->okC c-> ∃d:Nat,Fau n c (l:Int) (k:Int)=some (decide (dN c<=l/\k+cN c<=200),(d:Int))/\(dN c<=l/\k+cN c<=200->d=k+cN c)
 |0,_,_,_,h,_,_,_=>by omega
 |n+1,c,l,k,h,j,z,o=>by
  have a:=((jI c).1 o).2.1;have f:=(aAg _).1 ((jI c).1 o).2.2;have p:IntKind.i64.wrap ((k:Int)+1)=((k+1:Nat):Int):=fO (n:=1000) (by omega) (by omega);show ∃d:Nat,Fca (Fau n) c (l:Int) (k:Int)=_/\_;unfold Fca;simp only [zH,xE,jJ,zC,p];have hd:=aPy c;have A:=aAa c
  by_cases t:l=0
  ·subst t;refine⟨k+1,?_,λq=>by exfalso;omega⟩;rw [dT (show((0:Nat):Int)=0 from rfl),Bool.true_or,zS,qD (by omega)]
  ·by_cases B:200<k+1
   ·refine⟨k+1,?_,λq=>by exfalso;omega⟩;rw [dT (show(200:Int)<((k+1:Nat):Int)by omega),Bool.or_true,zS,qD (by omega)]
   ·rw [qD (show¬(l:Int)=0 by omega),qD (show¬(200:Int)<((k+1:Nat):Int)by omega),Bool.or_self,zK];obtain⟨m,rfl⟩: ∃m,l=m+1:=⟨l-1,by omega⟩;have u:IntKind.i64.wrap (((m+1:Nat):Int)-1)=(m:Int):=by rw [wrap_i64 (by omega) (by omega)];omega
    obtain⟨d,v,w⟩:=aMu (Fau n) m c.Kids (λx e k j=>bDq n x m k (by omega) j (by omega) (f x e)) 0 (k+1) (by omega);refine⟨d,?_,?_⟩
    ·unfold Fhs;simp only [zH,u];refine(vS (λ(i:Nat) (s:Int)=>((i:Int),s)) c.Kids (stS (Fau n) m) (λs=>some (true,s)) a ?_ ?_ ((k+1:Nat):Int)).trans (v.trans ?_)
     rotate_left 2
     ·congr 2
      rw [decide_eq_decide];omega
     ·intro y i s x e;have hi:=(gS.1 e).1;simp only [stS];rw [yP hi,zS,yQ e,zC,fO hi a]
      cases Fau n x m s with
      |none=>rfl
      |some r=>obtain⟨b,_⟩:=r;cases b<;>rfl
     ·intro y s;simp only [];rw [yR,zK]
    ·intro q;rw [w (by omega)];omega
theorem wM {n:Nat}(h:n<=1000000):n<FU:=nH (by omega)
theorem small_eq (c:Cond)(b:okC c): ∃a:Int,Fd1 c 20 0=some (decide (dN c<=20/\cN c<=200),a):=by
 obtain⟨a,d,_⟩:=bDq FU c 20 0 (wM (by decide)) (by decide) (by decide) b;refine⟨a,?_⟩;unfold Fd1;refine d.trans ?_;rw [Nat.zero_add]
theorem bBd: ∀(n:Nat) (c:Cond) (m:Nat),m<n->m<=1000->okC c->Faz n c (m:Int)=some ((min (cN c) (m+1):Nat):Int)
 |0,_,_,h,_,_=>by omega
 |n+1,c,m,h,hm,C=>by
  have v:=((jI c).1 C).2.1;have y:=(aAg _).1 ((jI c).1 C).2.2;show Fcp (Faz n) c (m:Int)=_;unfold Fcp Fgh;have e:fF (λa (x:Int×Int)=>gB (gJ (c.Kids.length:Int) λb=>gJ (decide (x.2<b)) λj=>gK j (gJ (decide (x.1<=(m:Int))) λk=>some k) (some false)) λl=>gK l
    (gB (at' c.Kids x.2) λp=>gJ (IntKind.i64.wrap ((m:Int)-x.1)) λq=>gB (Faz n p q) λr=>gJ (IntKind.i64.wrap (x.1+r)) λt=>gJ (IntKind.i64.wrap (x.2+1)) λu=>a (t,u)) (some x.1)) (1,0)=some ((min (1+cNs c.Kids) (m+1):Nat):Int):=by
   have z: ∀(d i s w:Nat),i+d=c.Kids.length->d<w->1<=s->s<=m+1->dL (λa (x:Int×Int)=>gB (gJ (c.Kids.length:Int) λb=>gJ (decide (x.2<b)) λj=>gK j (gJ (decide (x.1<=(m:Int))) λk=>some k) (some false)) λl=>gK l
    (gB (at' c.Kids x.2) λp=>gJ (IntKind.i64.wrap ((m:Int)-x.1)) λq=>gB (Faz n p q) λr=>gJ (IntKind.i64.wrap (x.1+r)) λt=>gJ (IntKind.i64.wrap (x.2+1)) λu=>a (t,u)) (some x.1)) w ((s:Int),(i:Int))=some ((min (s+cNs (c.Kids.drop i)) (m+1):Nat):Int):=by
    intro d
    induction d with
    |zero=>
     intro i s w D E F G;obtain⟨f,rfl⟩: ∃f,w=f+1:=⟨w-1,by omega⟩;obtain rfl:i=c.Kids.length:=by omega
     rw [dL];simp only [zH,yR,zK,zC,List.drop_length,cNs]
     congr 2;omega
    |succ d H=>
     intro i s w D E F G;obtain⟨f,rfl⟩: ∃f,w=f+1:=⟨w-1,by omega⟩;have hi:i<c.Kids.length:=by omega
     obtain⟨x,A⟩: ∃x,c.Kids[i]? =some x:=⟨_,gE hi⟩;have I:c.Kids.drop i=x::c.Kids.drop (i+1):=by
      rw [List.drop_eq_getElem_cons hi]
      congr 1
      exact oI ((gE hi).symm.trans A)
     rw [dL,I,cNs];simp only [zH,yP hi,zS,zC,yQ A]
     by_cases K:s<=m
     ·have J:IntKind.i64.wrap ((m:Int)-(s:Int))=((m-s:Nat):Int):=by rw [wrap_i64 (by omega) (by omega)];omega
      rw [dT (show(s:Int)<=(m:Int)by omega),zS,J,bBd n x (m-s) (by omega) (by omega) (y x (qS A)),zC];have B:IntKind.i64.wrap ((s:Int)+((min (cN x) (m-s+1):Nat):Int))=((s+min (cN x) (m-s+1):Nat):Int):=by rw [wrap_i64 (by omega) (by omega)];omega
      rw [B,fO hi v];refine(H (i+1) _ f (by omega) (by omega) (by omega) (by omega)).trans ?_
      congr 2;omega
     ·rw [qD (show¬(s:Int)<=(m:Int)by omega),zK]
      congr 2;omega
   exact z c.Kids.length 0 1 FU (by omega) (nH v) (by omega) (by omega)
  refine(congrArg (λo=>gB o λg=>some g) e).trans ?_;rw [aAa];rfl
theorem aVb: ∀(n:Nat) (c:Cond) (m:Nat),m<n->m<=1000->okC c->Fbx n c (m:Int)=some (decide (m<dN c))
 |0,_,_,h,_,_=>by omega
 |n+1,c,m,h,hm,f=>by
  have a:=((jI c).1 f).2.1;have d:=(aAg _).1 ((jI c).1 f).2.2;have hd:=aPy c;show Fdm (Fbx n) c (m:Int)=_;unfold Fdm;simp only [zH,xE]
  cases m with
  |zero=>rw [dT (show((0:Nat):Int)=0 from rfl),zS,dT (by omega)]
  |succ m=>
   rw [qD (show¬((m+1:Nat):Int)=0 by omega),zK];have p:IntKind.i64.wrap (((m+1:Nat):Int)-1)=(m:Int):=by rw [wrap_i64 (by omega) (by omega)];omega
   unfold Fgl;simp only [zH,p];rw [yZ c.Kids (λ_ x=>if decide (m<dN x)=true then some (some true)else none) (some false) a ?_ ?_]
   ·rw [uU (λ_ x=>decide (m<dN x))]
    by_cases q:m+1<dN c
    ·rw [dT q,if_pos];rw [aBs];obtain⟨x,b,o⟩:=bCi (l:=c.Kids) (n:=m) (by omega);obtain⟨j,e⟩:=List.getElem?_of_mem b;exact⟨j,x,e,dT o⟩
    ·rw [qD q,if_neg];rw [aBs];rintro⟨j,x,e,b⟩;have r:=aJj (qS e);have o:=of_decide_eq_true b;omega
   ·intro k _ x b hi;rw [yP hi,zS,yQ b,zC,aVb n x m (by omega) (by omega) (d x (qS b)),zC,fO hi a]
    cases decide (m<dN x)<;>rfl
   ·intro k;rw [yR,zK]
theorem nodes_eq (c:Cond)(a:okC c):Ff3 c 200=some ((min (cN c) 201:Nat):Int):=bBd FU c 200 (wM (by decide)) (by decide) a
theorem deeper_eq (c:Cond)(a:okC c):Fgy c 20=some (decide (20<dN c)):=aVb FU c 20 (wM (by decide)) (by decide) a
theorem aGx {c:Cond}(a:okC c):okN c:=⟨((jI c).1 a).1.2.1,((jI c).1 a).1.2.2.1⟩
theorem aGp (f:Cond->Int): ∀(l:List Cond) (i:Nat),dU (λ_ x=>if fE f x=0 then none else some (some (fE f x))) (some 0) l i=some (fEs f l)
 | [],_=>rfl
 |c::l,i=>by
  rw [dU,fEs]
  by_cases h:fE f c=0
  ·rw [if_pos h,if_pos h];exact aGp f l (i+1)
  ·rw [if_neg h,if_neg h]
theorem pK {c x:Cond}{i:Nat}(a:okC c)(b:c.Kids[i]? =some x):okC x/\dN x<dN c/\cN x<cN c:=by
 have hm:=qS b;have d:=aJj hm;have e:=bDg hm;exact⟨(aAg _).1 ((jI c).1 a).2.2 x hm,by rw [aPy c];omega,by rw [aAa c];omega⟩
theorem bBs: ∀(n:Nat) (c:Cond),dN c<=n->okC c->cN c<=200->Fbt n c=some (fE ck1 c)
 |0,c,h,_,_=>by have:=pI c;omega
 |n+1,c,h,b,_=>by
  have a:=((jI c).1 b).2.1;have f:=aDf c.Kids;have j:=aAa c;show Fde (Fbt n) c=_;unfold Fde;rw [(aKb c (aGx b) (by omega)).1,zC,aKw];simp only [zH,xE]
  by_cases e:ck1 c=0
  ·rw [if_pos e,qD (by simpa using e),zK];unfold Fhq;rw [yZ c.Kids (λ_ x=>if fE ck1 x=0 then none else some (some (fE ck1 x))) (some 0) a ?_ ?_,aGp]
   ·intro k _ x d hi;obtain⟨l,_,_⟩:=pK b d;simp only [zH];rw [yP hi,zS,yQ d,zC,bBs n x (by omega) l (by omega),zC,fO hi a]
    by_cases z:fE ck1 x=0
    ·rw [if_pos z,qD (by simpa using z),zK]
    ·rw [if_neg z,dT z,zS]
   ·intro k;simp only [zH];rw [yR,zK]
  ·rw [if_neg e,dT e,zS]
theorem bDv: ∀(n:Nat) (c:Cond),dN c<=n->okC c->cN c<=200->Fbc n c=some (fE ck1 c)
 |0,c,h,_,_=>by have:=pI c;omega
 |n+1,c,h,u,_=>by
  have a:=((jI c).1 u).2.1;have A:=aDf c.Kids;have C:=aAa c;show Fb3 (Fbc n) c=_;unfold Fb3;rw [(aKb c (aGx u) (by omega)).2,zC,aKw];have v: ∀(B:(Int×Int->Option Int)->Int×Int->Option Int) (_: ∀k (e i:Int),B k (e,i)=gB (gJ (c.Kids.length:Int) λj=>gJ (decide (i<j)) λl=>gK l (gJ (decide (e=0)) λp=>some p) (some false)) λq=>gK q (gB (at' c.Kids i) λr=>gB (Fbc n r) λs=>gJ (IntKind.i64.wrap (i+1)) λt=>k (s,t)) (some e)) (d i:Nat) (e:Int) (b:Nat),i+d=c.Kids.length->d<b->dL B b (e,(i:Int))=some (if e=0 then fEs ck1 (c.Kids.drop i)else e):=by
   intro B y d
   induction d with
   |zero=>
    intro i e b D E;obtain⟨f,rfl⟩: ∃f,b=f+1:=⟨b-1,by omega⟩;obtain rfl:i=c.Kids.length:=by omega
    rw [dL,y];simp only [zH,yR,zK,zC,List.drop_length,fEs];split<;>simp_all
   |succ d F=>
    intro i e b D E;obtain⟨f,rfl⟩: ∃f,b=f+1:=⟨b-1,by omega⟩;have hi:i<c.Kids.length:=by omega
    obtain⟨x,w⟩: ∃x,c.Kids[i]? =some x:=⟨_,gE hi⟩;have G:c.Kids.drop i=x::c.Kids.drop (i+1):=by
     rw [List.drop_eq_getElem_cons hi]
     congr 1
     exact oI ((gE hi).symm.trans w)
    obtain⟨H,_,_⟩:=pK u w;rw [dL,y,G,fEs];simp only [zH,yP hi,zS,zC,yQ w]
    by_cases z:e=0
    ·rw [dT z,zS,bDv n x (by omega) H (by omega),zC,fO hi a,F (i+1) _ f (by omega) (by omega),if_pos z]
    ·rw [qD z,zK,if_neg z]
  unfold Ffq fF;refine(congrArg (λo=>gB o λg=>some g) (v _ (λ_ _ _=>rfl) c.Kids.length 0 (ck1 c) FU (by omega) (nH a))).trans ?_;rw [zC,List.drop_zero]
def ckC (c:Cond):Int:=if dN c<=20/\cN c<=200 then fE ck1 c else 3
theorem aFt (c:Cond) (a:okC c):Fci c=some (ckC c):=by
 unfold Fci ckC;obtain⟨_,h⟩:=small_eq c a;rw [h,zC];simp only [zH];by_cases q:dN c<=20/\cN c<=200;rw [if_pos q,dT q,Bool.not_true,zK];unfold Ffn;rw [bBs FU c (Nat.le_of_lt (wM (by omega))) a q.2];rfl;rw [if_neg q,qD q,Bool.not_false,zS]
theorem aDx (c:Cond) (a:okC c):Fbg c=some (ckC c):=by
 unfold Fbg ckC;rw [nodes_eq c a,zC];simp only [zH];rw [deeper_eq c a,zC,jJ,zC]
 by_cases q:dN c<=20/\cN c<=200
 ·have b:decide ((200:Int)<((min (cN c) 201:Nat):Int))=false:=qD (by omega);have d:decide (20<dN c)=false:=qD (by omega);rw [if_pos q,b,d,Bool.or_self,zK];unfold Fgr;rw [bDv FU c (Nat.le_of_lt (wM (by omega))) a q.2];rfl
 ·have e:(decide ((200:Int)<((min (cN c) 201:Nat):Int))||decide (20<dN c))=true:=by
   rw [Bool.or_eq_true,decide_eq_true_eq,decide_eq_true_eq];omega
  rw [if_neg q,e,zS]
theorem aBu {c:Cond}(h:ckC c=0):dN c<=20/\cN c<=200/\fE ck1 c=0:=by
 unfold ckC at h;split at h;rename_i q;exact⟨q.1,q.2,h⟩;exact absurd h (by decide)
section
variable {α:Type}
theorem aDg (p:α->Bool): ∀(l:List α) (i:Nat),∃n:Int,dU (λ(i:Nat) x=>if p x=true then some (some (i:Int))else none) (some (-1)) l i=some n/\
  ((n= -1/\ ∀(j:Nat) x,l[j]? =some x->p x=false)\/ ∃j:Nat,n=((i+j:Nat):Int)/\(∃x,l[j]? =some x/\p x=true)/\ ∀(m:Nat) y,m<j->l[m]? =some y->p y=false)
 | [],i=>⟨-1,rfl,.inl ⟨rfl,λj x h=>by simp at h⟩⟩
 |a::l,i=>by
  rw [dU]
  by_cases h:p a=true
  ·rw [if_pos h];exact⟨_,rfl,.inr ⟨0,by simp,⟨a,rfl,h⟩,λm y hm=>by omega⟩⟩
  ·rw [if_neg h];have f:p a=false:=by simpa using h
   obtain⟨n,k,b⟩:=aDg p l (i+1);refine⟨n,k,?_⟩;rcases b with ⟨b,c⟩|⟨j,b,c,o⟩
   ·refine .inl ⟨b,λj x d=>?_⟩
    cases j with
    |zero=>simp at d;subst d;exact f
    |succ j=>exact c j x (by simpa using d)
   ·refine .inr ⟨j+1,by rw [b];congr 1;omega,?_,λm y hm e=>?_⟩
    ·obtain⟨x,q,r⟩:=c;exact⟨x,by simpa using q,r⟩
    ·cases m with
     |zero=>simp at e;subst e;exact f
     |succ m=>exact o m y (by omega) (by simpa using e)
theorem bCm (p:α->Bool)(l:List α):l.any p=true↔ ∃(j:Nat) (x:α),l[j]? =some x/\p x=true:=by
 rw [List.any_eq_true];constructor;rintro⟨x,h,a⟩;obtain⟨j,b⟩:=List.getElem?_of_mem h;exact⟨j,x,b,a⟩;rintro⟨j,x,h,a⟩;exact⟨x,qS h,a⟩
theorem aYb {p:α->Bool}{l:List α}{n:Int} (h:(n= -1/\ ∀(j:Nat) x,l[j]? =some x->p x=false)\/ ∃j:Nat,n=((0+j:Nat):Int)/\(∃x,l[j]? =some x/\p x=true)/\ ∀(m:Nat) y,m<j->l[m]? =some y->p y=false):decide (0<=n)=l.any p:=by
 rw [Bool.eq_iff_iff,decide_eq_true_eq,bCm];rcases h with ⟨rfl,h⟩|⟨j,rfl,⟨x,b,a⟩,_⟩
 ·constructor
  ·intro h;omega
  ·rintro⟨j,x,b,a⟩;rw [h j x b]at a;cases a
 ·exact⟨λ_=>⟨j,x,b,a⟩,λ_=>by omega⟩
theorem ix_take {p:α->Bool}{l:List α}{n:Int} (h:(n= -1/\ ∀(j:Nat) x,l[j]? =some x->p x=false)\/ ∃j:Nat,n=((0+j:Nat):Int)/\(∃x,l[j]? =some x/\p x=true)/\ ∀(m:Nat) y,m<j->l[m]? =some y->p y=false) (i:Nat):decide (0<=n/\n<(i:Int))=(l.take i).any p:=by
 rw [Bool.eq_iff_iff,decide_eq_true_eq,bCm];rcases h with ⟨rfl,h⟩|⟨j,rfl,⟨x,a,b⟩,e⟩
 ·constructor
  ·intro h;omega
  ·rintro⟨j,x,a,b⟩;rw [List.getElem?_take]at a;split at a
   ·rw [h j x a]at b;cases b
   ·cases a
 ·constructor
  ·intro _;exact⟨j,x,by rw [List.getElem?_take,if_pos (by omega)];exact a,b⟩
  ·rintro⟨m,y,c,d⟩;rw [List.getElem?_take]at c;split at c
   ·rename_i hm
    by_cases f:m<j
    ·rw [e m y f c]at d;cases d
    ·omega
   ·cases c
theorem ix_self {p:α->Bool}{l:List α}{n:Int}(h:(n= -1/\ ∀(j:Nat) x,l[j]? =some x->p x=false)\/ ∃j:Nat,n=((0+j:Nat):Int)/\(∃x,l[j]? =some x/\p x=true)/\ ∀(m:Nat) y,m<j->l[m]? =some y->p y=false){i:Nat}{x:α}(b:l[i]? =some x)(a:p x=true):0<=n:=by
 rcases h with ⟨rfl,h⟩|⟨j,rfl,_,_⟩
 ·rw [h i x b]at a;cases a
 ·omega
theorem aFg (l:List α)(i:Nat)(hi:i<=l.length):sub' l 0 (i:Int)=some (l.take i):=by
 unfold sub';rw [if_pos ⟨by omega,by omega,by omega⟩];simp
end
theorem aMd (l:List Str) (c:Str) (a:l.length<=9223372036854775807):Fby l c=some (l.any λy=>decide (c=y)):=by
 unfold Fby Faj;simp only [zH,xE];unfold Fe8;obtain⟨n,b,d⟩:=aDg (λy=>decide (c=y)) l 0;rw [yZ l (λi x=>if decide (c=x)=true then some (some (i:Int))else none) (some (-1)) a ?_ ?_,b,zC,aYb d];intro k i x e hi;simp only [zH];rw [yP hi,zS,yQ e,zC,fO hi a];cases decide (c=x)<;>rfl;intro k;simp only [zH];rw [yR,zK]
theorem aGh (l:List Str) (c:Str) (a:l.length<=9223372036854775807): ∃n,Fac l c=some n/\decide (0<=n)=l.any λy=>decide (c=y):=by
 unfold Fac;simp only [xE];unfold Fgi;obtain⟨n,b,d⟩:=aDg (λy=>decide (y=c)) l 0;refine⟨n,?_,?_⟩;rw [yZ l (λi x=>if decide (x=c)=true then some (some (i:Int))else none) (some (-1)) a ?_ ?_,b];intro k i x e hi;simp only [zH];rw [yP hi,zS,yQ e,zC,fO hi a];cases decide (x=c)<;>rfl;intro k;simp only [zH];rw [yR,zK];rw [aYb d];congr 1;funext y;exact decide_eq_decide.2 eq_comm
def nmd (l:List fU)(s:Str):Bool:=l.any λy=>decide (y.Name=s)
theorem aUv (s:Str) (r:Rules) (i:Nat) (hi:i<=r.Rules.length) (e:r.Rules.length<=9223372036854775807):Fc3 s r (i:Int)=some (nmd (r.Rules.take i) s):=by
 unfold Fc3;rw [aFg _ _ hi,zC];unfold Fht Ffv;simp only [zH,xE];unfold Fi8;have a:(r.Rules.take i).length<=9223372036854775807:=by rw [List.length_take];omega
 generalize r.Rules.take i=l at *;obtain⟨n,b,c⟩:=aDg (λy:fU=>decide (y.Name=s)) l 0;rw [yZ l (λi x=>if decide (x.Name=s)=true then some (some (i:Int))else none) (some (-1)) a ?_ ?_,b,zC,aYb c];rfl;intro k i x d hi;simp only [zH,Fft];rw [yP hi,zS,yQ d,zC,zC,fO hi a];cases decide (x.Name=s)<;>rfl;intro k;simp only [zH];rw [yR,zK]
theorem aOn (s:Str) (r:Rules) (b:r.Rules.length<=9223372036854775807): ∃n,Faf r s=some n/\(∀i:Nat,decide (0<=n/\n<(i:Int))=nmd (r.Rules.take i) s)/\ ∀(i:Nat) x,r.Rules[i]? =some x->x.Name=s->0<=n:=by
 unfold Faf;simp only [xE];unfold Fek;obtain⟨n,d,c⟩:=aDg (λy:fU=>decide (y.Name=s)) r.Rules 0;refine⟨n,?_,λi=>ix_take c i,λi x a e=>ix_self c a (dT e)⟩;rw [yZ r.Rules (λi x=>if decide (x.Name=s)=true then some (some (i:Int))else none) (some (-1)) b ?_ ?_,d];intro k i x a hi;simp only [zH];rw [yP hi,zS,yQ a,zC,fO hi b];cases decide (x.Name=s)<;>rfl;intro k;simp only [zH];rw [yR,zK]
def mv1 (c:Cond):Int:=if c.Kind=6\/c.Kind=7 then 2 else 0
theorem mv1_eq (c:Cond):Fem c=some (mv1 c):=by
 unfold Fem mv1;simp only [zH,jJ,zC];by_cases h:c.Kind=6\/c.Kind=7;have e:(decide (c.Kind=6)||decide (c.Kind=7))=true:=by rw [Bool.or_eq_true,decide_eq_true_eq,decide_eq_true_eq];exact h
 rw [if_pos h,e,zS];have e:(decide (c.Kind=6)||decide (c.Kind=7))=false:=by rw [Bool.or_eq_false_iff,decide_eq_false_iff_not,decide_eq_false_iff_not];exact not_or.1 h
 rw [if_neg h,e,zK]
theorem bDi: ∀(n:Nat) (c:Cond),dN c<=n->okC c->Fbw n c=some (fE mv1 c)
 |0,c,h,_=>by have:=pI c;omega
 |n+1,c,h,b=>by
  have a:=((jI c).1 b).2.1;show Fck (Fbw n) c=_;unfold Fck;rw [mv1_eq,zC,aKw];simp only [zH,xE]
  by_cases e:mv1 c=0
  ·rw [if_pos e,qD (by simpa using e),zK];unfold Fgs;rw [yZ c.Kids (λ_ x=>if fE mv1 x=0 then none else some (some (fE mv1 x))) (some 0) a ?_ ?_,aGp]
   ·intro k _ x d hi;obtain⟨f,_,_⟩:=pK b d;simp only [zH];rw [yP hi,zS,yQ d,zC,bDi n x (by omega) f,zC,fO hi a]
    by_cases z:fE mv1 x=0
    ·rw [if_pos z,qD (by simpa using z),zK]
    ·rw [if_neg z,dT z,zS]
   ·intro k;simp only [zH];rw [yR,zK]
  ·rw [if_neg e,dT e,zS]
mutual
def aT (p:Cond->Bool):Cond->Bool
 |⟨k,nm,ot,op,n,fr,ks⟩=>p ⟨k,nm,ot,op,n,fr,ks⟩||kC p ks
def kC (p:Cond->Bool):List Cond->Bool
 | []=>false
 |c::l=>aT p c||kC p l
end
theorem aCu (p:Cond->Bool)(c:Cond):aT p c=(p c||kC p c.Kids):=by cases c;rfl
theorem aEg (p:Cond->Bool): ∀(l:List Cond) (i:Nat),dU (λ_ x=>if aT p x=true then some (some true)else none) (some false) l i=some (kC p l)
 | [],_=>rfl
 |c::l,i=>by
  rw [dU,kC]
  cases h:aT p c with
  |true=>rfl
  |false=>exact aEg p l (i+1)
mutual
theorem bAg (f:Cond->Int)(p:Cond->Bool)(e:Int)(a:e≠0)(h: ∀c,f c=if p c=true then e else 0): ∀c,fE f c=if aT p c=true then e else 0
 |⟨k,nm,ot,op,n,fr,ks⟩=>by
  rw [fE,aT,h]
  cases p ⟨k,nm,ot,op,n,fr,ks⟩with
  |true=>simp [a]
  |false=>simpa using bAz f p e a h ks
theorem bAz (f:Cond->Int)(p:Cond->Bool)(e:Int)(a:e≠0)(h: ∀c,f c=if p c=true then e else 0): ∀l,fEs f l=if kC p l=true then e else 0
 | []=>rfl
 |c::l=>by
  rw [fEs,kC,bAg f p e a h c]
  cases aT p c with
  |true=>simp [a]
  |false=>simpa using bAz f p e a h l
end
def pMv (c:Cond):Bool:=decide (c.Kind=6)||decide (c.Kind=7)
theorem aUy: ∀(n:Nat) (c:Cond),dN c<=n->okC c->Fbq n c=some (aT pMv c)
 |0,c,h,_=>by have:=pI c;omega
 |n+1,c,h,b=>by
  have a:=((jI c).1 b).2.1;show Fcb (Fbq n) c=_;unfold Fcb;simp only [zH,xE,jJ,zC];rw [aCu];show gK (pMv c) _ _=_
  cases pMv c with
  |true=>rfl
  |false=>
   rw [zK,Bool.false_or];unfold Fhl;rw [yZ c.Kids (λ_ x=>if aT pMv x=true then some (some true)else none) (some false) a ?_ ?_,aEg]
   ·intro k _ x d hi;obtain⟨e,_,_⟩:=pK b d;simp only [zH];rw [yP hi,zS,yQ d,zC,aUy n x (by omega) e,zC,fO hi a]
    cases aT pMv x<;>rfl
   ·intro k;simp only [zH];rw [yR,zK]
theorem mv1_p (c:Cond):mv1 c=if pMv c=true then 2 else 0:=by
 unfold mv1 pMv;simp only [Bool.or_eq_true,decide_eq_true_eq]
def mvE (r:Rules)(m:dH):Int:=
 if (r.Phases.any λy=>decide (m.From=y))=true/\(r.Phases.any λy=>decide (m.To=y))=true then
  if ckC m.When=0 then if aT pMv m.When=true then 2 else 0 else ckC m.When
 else 4
theorem move_eq (r:Rules) (m:dH) (b:r.Phases.length<=9223372036854775807) (a:okC m.When):Fe1 r m=some (mvE r m):=by
 unfold Fe1 mvE;simp only [zH,xE];unfold Fif;rw [yZ [m.From,m.To] (λ_ x=>if (r.Phases.any λy=>decide (x=y))=true then none else some (some 4)) (if ckC m.When=0 then some (if aT pMv m.When=true then 2 else 0)else some (ckC m.When)) (show(2:Nat)<=_ by omega) ?_ ?_];simp only [dU];cases(r.Phases.any λy=>decide (m.From=y))<;>cases(r.Phases.any λy=>decide (m.To=y))<;>simp<;>split<;>rfl;intro k _ x c hi;simp only [zH];rw [yP hi,zS,yQ c,zC,aMd _ _ b,zC,fO hi (show(2:Nat)<=_ by omega)];cases(r.Phases.any λy=>decide (x=y))<;>rfl;intro k;simp only [zH];rw [yR,zK,aFt _ a,zC];by_cases z:ckC m.When=0;have g:=aBu z;rw [if_pos z,qD (by simpa using z),zK];unfold Fh5;rw [bDi FU m.When (Nat.le_of_lt (wM (by omega))) a,zC,bAg mv1 pMv 2 (by decide) mv1_p];rw [if_neg z,dT z,zS]
theorem aYy (r:Rules) (m:dH) (o:r.Phases.length<=9223372036854775807) (p:okC m.When) (k:Option Int):
  (gB (gB (Fac r.Phases m.From) λb=>gJ (decide (b<0)) λc=>gK c (some true) (gB (Fac r.Phases m.To) λd=>gJ (decide (d<0)) λf=>some f)) λh=>
   gK h (some 4) (gB (Fbg m.When) λa=>gJ (decide (a≠0)) λi=>gK i (some a) (gB (Fd5 m.When) λj=>gK j (some 2) k)))=
  if mvE r m=0 then k else some (mvE r m):=by
 obtain⟨q,s,t⟩:=aGh r.Phases m.From o;obtain⟨u,v,w⟩:=aGh r.Phases m.To o;have l: ∀n:Int,decide (n<0)= !decide (0<=n):=λn=>by rw [<-decide_not];exact decide_eq_decide.2 (by omega)
 unfold mvE;rw [s,zC];simp only [zH];rw [l q,t,v,aDx _ p];simp only [zC];rw [l u,w]
 cases(r.Phases.any λy=>decide (m.From=y))with
 |false=>simp [gK,gB]
 |true=>
  cases(r.Phases.any λy=>decide (m.To=y))with
  |false=>simp [gK,gB]
  |true=>
   simp only [Bool.not_true,zK,zC,and_self,if_true]
   by_cases z:ckC m.When=0
   ·have g:=aBu z;have e:Fd5 m.When=some (aT pMv m.When):=aUy FU m.When (Nat.le_of_lt (wM (by omega))) p;rw [if_pos z,qD (by simpa using z),zK,e,zC]
    cases aT pMv m.When<;>simp [gK]
   ·rw [if_neg z,dT z,zS,if_neg z]
def pRl (r:Rules)(i:Nat)(c:Cond):Bool:=(decide (c.Kind=6)&& !(r.Phases.any λy=>decide (c.Name=y)))||(decide (c.Kind=7)&& !nmd (r.Rules.take i) c.Name)
def rl1 (r:Rules)(i:Nat)(c:Cond):Int:=if pRl r i c=true then 4 else 0
theorem rl1_eq (r:Rules)(i:Nat)(c:Cond)(f:r.Phases.length<=9223372036854775807)(h:r.Rules.length<=9223372036854775807)(hi:i<=r.Rules.length):Fed c r (i:Int)=some (rl1 r i c):=by
 unfold Fed rl1 pRl;rw [aMd _ _ f,aUv _ _ _ hi h];simp only [zH,zC];generalize decide (c.Kind=6)=a;generalize decide (c.Kind=7)=b;generalize (r.Phases.any λy=>decide (c.Name=y))=d;generalize nmd (r.Rules.take i) c.Name=e;cases a<;>cases b<;>cases d<;>cases e<;>rfl
theorem bDt (r:Rules) (i:Nat) (b:r.Phases.length<=9223372036854775807) (d:r.Rules.length<=9223372036854775807) (hi:i<=r.Rules.length): ∀(n:Nat) (c:Cond),dN c<=n->okC c->Fbo n c r (i:Int)=some (fE (rl1 r i) c)
 |0,c,h,_=>by have:=pI c;omega
 |n+1,c,h,f=>by
  have a:=((jI c).1 f).2.1;show Fc8 (Fbo n) c r (i:Int)=_;unfold Fc8;rw [rl1_eq r i c b d hi,zC,aKw];simp only [zH,xE]
  by_cases e:rl1 r i c=0
  ·rw [if_pos e,qD (by simpa using e),zK];unfold Ffm;rw [yZ c.Kids (λ_ x=>if fE (rl1 r i) x=0 then none else some (some (fE (rl1 r i) x))) (some 0) a ?_ ?_,aGp]
   ·intro k _ x l o;obtain⟨p,_,_⟩:=pK f l;simp only [zH];rw [yP o,zS,yQ l,zC,bDt r i b d hi n x (by omega) p,zC,fO o a]
    by_cases z:fE (rl1 r i) x=0
    ·rw [if_pos z,qD (by simpa using z),zK]
    ·rw [if_neg z,dT z,zS]
   ·intro k;simp only [zH];rw [yR,zK]
  ·rw [if_neg e,dT e,zS]
theorem aQc (r:Rules) (i:Nat) (o:r.Phases.length<=9223372036854775807) (p:r.Rules.length<=9223372036854775807): ∀(n:Nat) (c:Cond),dN c<=n->okC c->Fa6 n r (i:Int) c=some (aT (pRl r i) c)
 |0,c,h,_=>by have:=pI c;omega
 |n+1,c,h,q=>by
  have f:=((jI c).1 q).2.1;obtain⟨v,w,z⟩:=aGh r.Phases c.Name o;obtain⟨s,A,B,_⟩:=aOn c.Name r p;have l: ∀n:Int,decide (n<0)= !decide (0<=n):=λn=>by rw [<-decide_not];exact decide_eq_decide.2 (by omega)
  have kids:Ffg (Fa6 n) r (i:Int) c (λ_=>some false) 0=some (kC (pRl r i) c.Kids):=by
   unfold Ffg;rw [yZ c.Kids (λ_ x=>if aT (pRl r i) x=true then some (some true)else none) (some false) f ?_ ?_,aEg]
   ·intro k _ x t u;obtain⟨C,_,_⟩:=pK q t;simp only [zH];rw [yP u,zS,yQ t,zC,aQc r i o p n x (by omega) C,zC,fO u f]
    cases aT (pRl r i) x<;>rfl
   ·intro k;simp only [zH];rw [yR,zK]
  show Fb2 (Fa6 n) r (i:Int) c=_;unfold Fb2;simp only [zH,xE];rw [w,A];simp only [zC,jJ];rw [l v,z,kids,aCu];have D:(decide (s<0)||decide ((i:Int)<=s))= !nmd (r.Rules.take i) c.Name:=by
   rw [<-B i,<-decide_not,Bool.eq_iff_iff,Bool.or_eq_true,decide_eq_true_eq,decide_eq_true_eq,decide_eq_true_eq];omega
  rw [D];unfold pRl;generalize decide (c.Kind=6)=a;generalize decide (c.Kind=7)=b;generalize (r.Phases.any λy=>decide (c.Name=y))=d;generalize nmd (r.Rules.take i) c.Name=e
  cases a<;>cases b<;>cases d<;>cases e<;>rfl
def rlE (r:Rules)(i:Nat)(x:fU):Int:=
 if aBn x.Name=true then if nmd (r.Rules.take i) x.Name=true then 5 else if ckC x.When=0 then if aT (pRl r i) x.When=true then 4 else 0 else ckC x.When else 8
theorem rule_eq (r:Rules) (i:Nat) (x:fU) (a:r.Rules[i]? =some x) (d:r.Phases.length<=9223372036854775807) (b:r.Rules.length<=9223372036854775807) (e:okS x.Name) (c:okC x.When):Fdp r (i:Int)=some (rlE r i x):=by
 have hi:i<=r.Rules.length:=Nat.le_of_lt (gS.1 a).1;unfold Fdp rlE;rw [yQ a,zC,wZ _ e,zC,aUv _ _ _ hi b,aFt _ c];simp only [zH,zC]
 cases aBn x.Name with
 |false=>rfl
 |true=>
  cases nmd (r.Rules.take i) x.Name with
  |true=>rfl
  |false=>
   simp only [Bool.not_true,zK,if_true,Bool.false_eq_true,if_false]
   by_cases z:ckC x.When=0
   ·have g:=aBu z;rw [if_pos z,qD (by simpa using z),zK];unfold Ff7;rw [bDt r i d b hi FU x.When (Nat.le_of_lt (wM (by omega))) c,zC,bAg (rl1 r i) (pRl r i) 4 (by decide) (λ_=>rfl)]
   ·rw [if_neg z,dT z,zS]
theorem aZt (r:Rules) (i:Nat) (x:fU) (q:r.Rules[i]? =some x) (u:r.Phases.length<=9223372036854775807) (s:r.Rules.length<=9223372036854775807) (v:okS x.Name) (t:okC x.When) (k:Option Int):
  (gB (Fat x.Name) λb=>gJ (!b) λc=>gK c (some 8) (gB (at' r.Rules (i:Int)) λd=>gB (Faf r d.Name) λf=>gJ (decide (f<(i:Int))) λh=>gK h (some 5)
   (gB (at' r.Rules (i:Int)) λj=>gB (Fbg j.When) λa=>gJ (decide (a≠0)) λl=>gK l (some a) (gB (at' r.Rules (i:Int)) λo=>gB (Fe7 r (i:Int) o.When) λp=>gK p (some 4) k))))=
  if rlE r i x=0 then k else some (rlE r i x):=by
 obtain⟨n,w,y,A⟩:=aOn x.Name r s;have B:=A i x q rfl;unfold rlE;rw [jT _ v,zC,yQ q];simp only [zH,zC];rw [w,zC,aDx _ t,zC];have e:decide (n<(i:Int))=nmd (r.Rules.take i) x.Name:=by rw [<-y i];exact decide_eq_decide.2 (by omega)
 rw [e]
 cases aBn x.Name with
 |false=>simp [gK]
 |true=>
  cases nmd (r.Rules.take i) x.Name with
  |true=>simp [gK]
  |false=>
   simp only [Bool.not_true,zK,if_true,Bool.false_eq_true,if_false]
   by_cases z:ckC x.When=0
   ·have g:=aBu z;have e:Fe7 r (i:Int) x.When=some (aT (pRl r i) x.When):=aQc r i u s FU x.When (Nat.le_of_lt (wM (by omega))) t;rw [if_pos z,qD (by simpa using z),zK,e,zC]
    cases aT (pRl r i) x.When<;>simp [gK]
   ·rw [if_neg z,dT z,zS,if_neg z]
def okR (r:Rules):Prop:=okL okS r.Phases/\okL (λm:dH=>okS m.From/\okS m.To/\okC m.When) r.Moves/\okL (λx:fU=>okS x.Name/\okC x.When) r.Rules
def phE (l:List Str)(i:Nat)(x:Str):Int:=if aBn x=true then if ((l.take i).any λy=>decide (x=y))=true then 5 else 0 else 8
def chk (r:Rules):Option Int:=
 if (decide (20<(r.Phases.length:Int))||decide (60<(r.Moves.length:Int)))||decide (60<(r.Rules.length:Int))then some 3
 else dU (λi x=>if phE r.Phases i x=0 then none else some (some (phE r.Phases i x))) (dU (λ_ m=>if mvE r m=0 then none else some (some (mvE r m))) (dU (λi x=>if rlE r i x=0 then none else some (some (rlE r i x))) (some 0) r.Rules 0) r.Moves 0) r.Phases 0
theorem aKg (r:Rules) (d:okR r):Fa7 r=chk r:=by
 obtain⟨⟨b,e⟩,⟨m1,m2⟩,⟨c,f⟩⟩:=d;unfold Fa7 chk;simp only [zH,xE,jJ,zC];rw [nR];congr 1;unfold Fjg;refine yZ r.Phases _ _ b (λk i x a hi=>?_) (λk=>?_);have hm:=e x (qS a);simp only [zH];rw [yP hi,zS,yQ a,zC,wZ _ hm,zC,aFg _ _ (Nat.le_of_lt hi),zC,aMd _ _ (by rw [List.length_take];omega),zC,fO hi b];unfold phE;cases aBn x<;>cases((r.Phases.take i).any λy=>decide (x=y))<;>rfl;simp only [zH];rw [yR,zK];unfold Fi2;refine yZ r.Moves _ _ m1 (λk i x a hi=>?_) (λk=>?_);have hm:=m2 x (qS a);simp only [zH];rw [yP hi,zS,yQ a,zC,move_eq r x b hm.2.2,zC,fO hi m1];by_cases z:mvE r x=0;rw [if_pos z,qD (by simpa using z),zK];rw [if_neg z,dT z,zS];simp only [zH];rw [yR,zK];unfold Fix;refine yZ r.Rules _ _ c (λk i x a hi=>?_) (λk=>?_);have hm:=f x (qS a);simp only [zH];rw [yP hi,zS,rule_eq r i x a b c hm.1 hm.2,zC,fO hi c];by_cases z:rlE r i x=0;rw [if_pos z,qD (by simpa using z),zK];rw [if_neg z,dT z,zS];simp only [zH];rw [yR,zK]
theorem aPj (r:Rules) (e:okR r):Fce r=chk r:=by
 obtain⟨⟨c,f⟩,⟨m1,m2⟩,⟨d,h⟩⟩:=e;unfold Fce chk;simp only [zH,xE,jJ,zC];rw [nR];congr 1;unfold Fi7;refine yZ r.Phases _ _ c (λk i x a hi=>?_) (λk=>?_);have hm:=f x (qS a);obtain⟨n,j,l⟩:=aGh (r.Phases.take i) x (by rw [List.length_take];omega);simp only [zH];rw [yP hi,zS,yQ a,zC,jT _ hm,zC,aFg _ _ (Nat.le_of_lt hi),zC,zC,j,zC,l,fO hi c];unfold phE;cases aBn x<;>cases((r.Phases.take i).any λy=>decide (x=y))<;>rfl;simp only [zH];rw [yR,zK];unfold Fia;refine yZ r.Moves _ _ m1 (λk i x a hi=>?_) (λk=>?_);have hm:=m2 x (qS a);have b:=aYy r x c hm.2.2 (k ((i+1:Nat):Int));simp only [zH]at b⊢;rw [yP hi,zS,yQ a,zC,fO hi m1,b];by_cases z:mvE r x=0;rw [if_pos z,if_pos z];rw [if_neg z,if_neg z];simp only [zH];rw [yR,zK];unfold Fip;refine yZ r.Rules _ _ d (λk i x a hi=>?_) (λk=>?_);have hm:=h x (qS a);have b:=aZt r i x a c d hm.1 hm.2 (k ((i+1:Nat):Int));simp only [zH]at b⊢;rw [yP hi,zS,yQ a,zC,fO hi d];rw [yQ a]at b;rw [b];by_cases z:rlE r i x=0;rw [if_pos z,if_pos z];rw [if_neg z,if_neg z];simp only [zH];rw [yR,zK]
theorem aCc {s:Str}(h:aBn s=true):s.length<=30:=by
 unfold aBn at h;simp only [Bool.and_eq_true,decide_eq_true_eq]at h;omega
structure Gd (c:Cond):Prop where
 k1:1<=c.Kind/\c.Kind<=15
 nm:c.Name.length<=30
 ot:c.Other.length<=30
 op:0<=c.Op/\c.Op<=6
 n: -1125899906842624<=c.N/\c.N<=1125899906842624
 fr:0<=c.Frames/\c.Frames<=4096
set_option maxHeartbeats 20000000 in
theorem gd_in (nm ot:Str)(op n fr:Int)(ks:List Cond)(k:Int)(hk2:k=1\/k=2\/k=3\/k=4\/k=5\/k=6\/k=7\/k=8\/k=9\/k=10\/k=11\/k=12\/k=13\/k=14\/k=15)(h1:okS nm)(h2:okS ot)(h:Fai ⟨k,nm,ot,op,n,fr,ks⟩=some 0):Gd ⟨k,nm,ot,op,n,fr,ks⟩:=by
  have q1:= @aCc nm;have q2:= @aCc ot;rcases hk2 with rfl | rfl | rfl | rfl | rfl | rfl | rfl | rfl | rfl | rfl | rfl | rfl | rfl | rfl | rfl<;>
    (unfold Fai at h
     simp only [rf1,rf2,rf3,rf4,rf5,rf6,rf7,rf8,rf9,rf10,rf11,rf12,rf13,rf14,rf15,zC,zH,Bool.not_true,Bool.not_false,zS,zK,xE,out6,jT _ h1,jT _ h2,Int.reduceEq,Int.reduceLT,Int.reduceLE,decide_true,decide_false,Bool.or_self,aJm,jJ,aAk] at h;simp only [nR] at h;constructor<;>grind)
theorem gd_of {c:Cond} (d:okC c) (f:c.Kids.length<=200) (h:ck1 c=0):Gd c:=by
 have e:=(aKb c (aGx d) f).2;rw [h]at e;by_cases a:1<=c.Kind/\c.Kind<=15;have o:=aGx d;obtain⟨k,nm,ot,op,n,fr,ks⟩:=c;have b:k=1\/k=2\/k=3\/k=4\/k=5\/k=6\/k=7\/k=8\/k=9\/k=10\/k=11\/k=12\/k=13\/k=14\/k=15:=by have:=a.1;have:=a.2;simp only at *;omega
 exact gd_in nm ot op n fr ks k b o.1 o.2 e;rw [(aZk c a).2]at e;cases e
theorem bCv {f:Cond->Int}: ∀{l:List Cond},fEs f l=0-> ∀x∈l,fE f x=0
 | [],_,x,b=>by cases b
 |a::l,h,x,b=>by
  rw [fEs]at h;split at h
  ·rename_i q;rcases List.mem_cons.1 b with rfl|b
   ·exact q
   ·exact bCv h x b
  ·rename_i q;exact absurd h q
structure Gt (c:Cond):Prop where
 ok:okC c
 d:dN c<=20
 n:cN c<=200
 e:fE ck1 c=0
theorem gt_of {c:Cond}(a:okC c)(h:ckC c=0):Gt c:=by
 obtain⟨b,d,e⟩:=aBu h;exact⟨a,b,d,e⟩
theorem Gt.self {c:Cond}(g:Gt c):Gd c:=by
 have h:=g.e;rw [aKw]at h;have a:=aDf c.Kids;have b:=aAa c;have d:=g.n;split at h;rename_i q;exact gd_of g.ok (by omega) q;rename_i q;exact absurd h q
theorem Gt.kid {c x:Cond}(g:Gt c)(a:x∈c.Kids):Gt x:=by
 obtain⟨_,b⟩:=List.getElem?_of_mem a;obtain⟨f,_,_⟩:=pK g.ok b;have l:=g.d;have o:=g.n;refine⟨f,by omega,by omega,?_⟩;have h:=g.e;rw [aKw]at h;split at h;exact bCv h x a;rename_i q;exact absurd h q
theorem Gt.kids {c:Cond}(g:Gt c):c.Kids.length<=200:=by
 have a:=aDf c.Kids;have b:=aAa c;have d:=g.n;omega
theorem take_snoc {α:Type}{l:List α}{i:Nat}{x:α}(a:l[i]? =some x):l.take (i+1)=l.take i++[x]:=by
 rw [List.take_add_one,a];rfl
structure Gr' (r:Rules):Prop where
 p:r.Phases.length<=20
 m:r.Moves.length<=60
 l:r.Rules.length<=60
 pn: ∀x∈r.Phases,x.length<=30
 pd: ∀(i:Nat) x,r.Phases[i]? =some x->x∉r.Phases.take i
 mg: ∀x∈r.Moves,Gt x.When/\x.From.length<=30/\x.To.length<=30
 lg: ∀x∈r.Rules,Gt x.When/\x.Name.length<=30
theorem aX {α:Type} (e:Nat->α->Int) (fin:Option Int): ∀(l:List α) (i:Nat),dU (λi x=>if e i x=0 then none else some (some (e i x))) fin l i=some 0->fin=some 0/\ ∀(j:Nat) x,l[j]? =some x->e (i+j) x=0
 | [],i,h=>⟨h,λj x b=>by simp at b⟩
 |a::l,i,h=>by
  rw [dU]at h
  by_cases z:e i a=0
  ·rw [if_pos z]at h;obtain⟨c,d⟩:=aX e fin l (i+1) h;refine⟨c,λj x b=>?_⟩
   cases j with
   |zero=>simp at b;subst b;simpa using z
   |succ j=>have:=d j x (by simpa using b);rwa [show i+(j+1)=i+1+j by omega]
  ·rw [if_neg z]at h;exact absurd (oI h) z
theorem vT {r:Rules} (f:okR r) (h:chk r=some 0):Gr' r:=by
 unfold chk at h;split at h
 ·exact absurd (oI h) (by decide)
 ·rename_i q;simp only [Bool.or_eq_true,decide_eq_true_eq,not_or]at q;obtain⟨k,l⟩:=aX (phE r.Phases) _ _ _ h;obtain⟨o,p⟩:=aX (λ_=>mvE r) _ _ _ k;obtain⟨_,s⟩:=aX (rlE r) _ _ _ o;have ph: ∀(i:Nat) x,r.Phases[i]? =some x->aBn x=true/\x∉r.Phases.take i:=by
   intro i x c;have:=l i x c;rw [Nat.zero_add]at this;unfold phE at this;split at this
   ·rename_i a;refine⟨a,?_⟩;split at this
    ·exact absurd this (by decide)
    ·rename_i b;intro hm;exact b (List.any_eq_true.2 ⟨x,hm,by simp⟩)
   ·exact absurd this (by decide)
  have e: ∀x∈r.Phases,x.length<=30:=by
   intro x c;obtain⟨j,d⟩:=List.getElem?_of_mem c;exact aCc (ph j x d).1
  refine⟨by omega,by omega,by omega,e,λi x c=>(ph i x c).2,?_,?_⟩
  ·intro x c;obtain⟨j,d⟩:=List.getElem?_of_mem c;have:=p j x d;unfold mvE at this;split at this
   ·rename_i a;split at this
    ·rename_i b;obtain⟨y,t,u⟩:=List.any_eq_true.1 a.1;obtain⟨z,v,z2⟩:=List.any_eq_true.1 a.2;refine⟨gt_of (f.2.1.2 x c).2.2 b,?_,?_⟩
     ·rw [of_decide_eq_true u];exact e y t
     ·rw [of_decide_eq_true z2];exact e z v
    ·rename_i b;exact absurd this b
   ·exact absurd this (by decide)
  ·intro x c;obtain⟨j,d⟩:=List.getElem?_of_mem c;have:=s j x d;unfold rlE at this;split at this
   ·rename_i a;split at this
    ·exact absurd this (by decide)
    ·split at this
     ·rename_i b;exact⟨gt_of (f.2.2.2 x c).2 b,aCc a⟩
     ·rename_i b;exact absurd this b
   ·exact absurd this (by decide)
theorem aLv (r:Rules): ∃e,chk r=some e:=by
 have b: ∀{α:Type} (e:Nat->α->Int) (fin:Option Int) (_: ∃z,fin=some z) (l:List α) (i:Nat),∃z,dU (λi x=>if e i x=0 then none else some (some (e i x))) fin l i=some z:=by
  intro α e fin c l
  induction l with
  |nil=>intro i;exact c
  |cons a l d=>
   intro i;rw [dU]
   by_cases z:e i a=0
   ·rw [if_pos z];exact d (i+1)
   ·rw [if_neg z];exact⟨_,rfl⟩
 unfold chk;split
 ·exact⟨_,rfl⟩
 ·exact b (phE r.Phases) _ (b (λ_=>mvE r) _ (b (rlE r) _ ⟨0,rfl⟩ _ _) _ _) _ _
end Go.Lf
