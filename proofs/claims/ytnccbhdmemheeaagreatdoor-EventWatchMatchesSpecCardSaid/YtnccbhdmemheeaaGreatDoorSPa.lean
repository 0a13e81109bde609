/- Laws that the claim stands on; no condition beyond those stated. -/
import Derived.Test.YtnccbhdmemheeaaGreatDoorDNa
namespace Go.Lf
open Go.OB
def okN (c:Cond):Prop:=okS c.Name/\okS c.Other
theorem len_k (n:Nat) (k:Int):(!(decide (k<=(n:Int))&&decide ((n:Int)<=k)))=decide ((n:Int)≠k):=by
 by_cases h:(n:Int)=k;simp [h];by_cases a:k<=(n:Int);by_cases b:(n:Int)<=k;omega;simp [h,a,b];simp [h,a]
theorem len_2 {n:Nat}(a:n<=200):(!(decide (2<=(n:Int))&&decide ((n:Int)<=200)))=decide ((n:Int)<2):=by
 rw [Bool.eq_iff_iff];simp only [Bool.not_eq_true',Bool.and_eq_false_iff,decide_eq_false_iff_not,decide_eq_true_eq];omega
section
variable (nm ot:Str) (op n fr:Int) (ks:List Cond)
theorem fo1:Fae 1=some (⟨false,false,false,false,false,0,0⟩,true):=rfl
theorem rf1:Fag 1=some (false,false,false,false,false,0):=rfl
theorem fo2:Fae 2=some (⟨false,false,false,false,false,0,0⟩,true):=rfl
theorem rf2:Fag 2=some (false,false,false,false,false,0):=rfl
theorem fo3:Fae 3=some (⟨true,false,true,true,false,0,0⟩,true):=rfl
theorem rf3:Fag 3=some (true,false,true,true,false,0):=rfl
theorem fo4:Fae 4=some (⟨true,true,true,false,false,0,0⟩,true):=rfl
theorem rf4:Fag 4=some (true,true,true,false,false,0):=rfl
theorem fo5:Fae 5=some (⟨true,false,false,true,true,0,0⟩,true):=rfl
theorem rf5:Fag 5=some (true,false,false,true,true,0):=rfl
theorem fo6:Fae 6=some (⟨true,false,false,false,false,0,0⟩,true):=rfl
theorem rf6:Fag 6=some (true,false,false,false,false,0):=rfl
theorem fo7:Fae 7=some (⟨true,false,false,false,false,0,0⟩,true):=rfl
theorem rf7:Fag 7=some (true,false,false,false,false,0):=rfl
theorem fo8:Fae 8=some (⟨false,false,false,false,false,1,1⟩,true):=rfl
theorem rf8:Fag 8=some (false,false,false,false,false,1):=rfl
theorem fo9:Fae 9=some (⟨false,false,false,false,false,2,200⟩,true):=rfl
theorem rf9:Fag 9=some (false,false,false,false,false,(-1)):=rfl
theorem fo10:Fae 10=some (⟨false,false,false,false,false,2,200⟩,true):=rfl
theorem rf10:Fag 10=some (false,false,false,false,false,(-1)):=rfl
theorem fo11:Fae 11=some (⟨false,false,false,false,true,1,1⟩,true):=rfl
theorem rf11:Fag 11=some (false,false,false,false,true,1):=rfl
theorem fo12:Fae 12=some (⟨false,false,false,false,true,1,1⟩,true):=rfl
theorem rf12:Fag 12=some (false,false,false,false,true,1):=rfl
theorem fo13:Fae 13=some (⟨false,false,false,true,true,1,1⟩,true):=rfl
theorem rf13:Fag 13=some (false,false,false,true,true,1):=rfl
theorem fo14:Fae 14=some (⟨false,false,false,false,false,2,2⟩,true):=rfl
theorem rf14:Fag 14=some (false,false,false,false,false,2):=rfl
theorem fo15:Fae 15=some (⟨false,false,false,false,false,1,1⟩,true):=rfl
theorem rf15:Fag 15=some (false,false,false,false,false,1):=rfl
set_option maxHeartbeats 20000000 in
theorem chk_in (k:Int)(hk2:k=1\/k=2\/k=3\/k=4\/k=5\/k=6\/k=7\/k=8\/k=9\/k=10\/k=11\/k=12\/k=13\/k=14\/k=15)(h1:okS nm)(h2:okS ot)(hk:ks.length<=200):Fa0 ⟨k,nm,ot,op,n,fr,ks⟩=Fah ⟨k,nm,ot,op,n,fr,ks⟩/\ ∃r,Fah ⟨k,nm,ot,op,n,fr,ks⟩=some r:=by
  have hb:(decide (1<=fr) && decide (fr<=4096))=true->(decide (1<=n) && decide (n<=fr))=true->(decide (-1125899906842624<=n) && decide (n<=1125899906842624))=true:=by
    simp only [Bool.and_eq_true,decide_eq_true_eq]; omega
  rcases hk2 with rfl | rfl | rfl | rfl | rfl | rfl | rfl | rfl | rfl | rfl | rfl | rfl | rfl | rfl | rfl<;>
    (unfold Fa0 Fah
     simp only [fo1,fo2,fo3,fo4,fo5,fo6,fo7,fo8,fo9,fo10,fo11,fo12,fo13,fo14,fo15,rf1,rf2,rf3,rf4,rf5,rf6,rf7,rf8,rf9,rf10,rf11,rf12,rf13,rf14,rf15,zC,zI,Bool.not_true,Bool.not_false,zU,zQ,xB,out6,aJw,aAm _ h1,jU _ h1,aAm _ h2,jU _ h2,Int.reduceEq,Int.reduceLT,Int.reduceLE,decide_true,decide_false,Bool.or_self,aJk,jK,aAo];simp only [aFk,len_k,len_2 hk];generalize (decide (1<=op) && decide (op<=6))=b1;generalize (decide (1<=fr) && decide (fr<=4096))=b2 at hb ⊢;generalize (decide (1<=n) && decide (n<=fr))=b3 at hb ⊢;generalize (decide (-1125899906842624<=n) && decide (n<=1125899906842624))=b4 at hb ⊢;simp only [nV]
     grind)
end
theorem aWv (c:Cond) (h: ¬(1<=c.Kind/\c.Kind<=15)):Fa0 c=some 7/\Fah c=some 7:=by
 have e: ∀k:Int,1<=k->k<=15->decide (c.Kind=k)=false:=λk _ _=>qD (by omega)
 constructor
 ·unfold Fa0 Fae;simp only [zI,e 1 (by decide) (by decide),e 2 (by decide) (by decide),e 3 (by decide) (by decide),e 4 (by decide) (by decide),e 5 (by decide) (by decide),e 6 (by decide) (by decide),e 7 (by decide) (by decide),e 8 (by decide) (by decide),e 9 (by decide) (by decide),e 10 (by decide) (by decide),e 11 (by decide) (by decide),e 12 (by decide) (by decide),e 13 (by decide) (by decide),e 14 (by decide) (by decide),e 15 (by decide) (by decide),zQ,zC,Bool.not_false,zU]
 ·unfold Fah;rw [out6,zC,aFk];have q:(decide (1<=c.Kind)&&decide (c.Kind<=15))=false:=by
   rw [Bool.and_eq_false_iff,decide_eq_false_iff_not,decide_eq_false_iff_not];omega
  rw [q];rfl
def ck1 (c:Cond):Int:=(Fah c).getD 0
theorem aJx (c:Cond) (h:okN c) (j:c.Kids.length<=200):Fa0 c=some (ck1 c)/\Fah c=some (ck1 c):=by
 have b:Fa0 c=Fah c/\ ∃r,Fah c=some r:=by
  by_cases d:1<=c.Kind/\c.Kind<=15
  ·obtain⟨k,nm,ot,op,n,fr,ks⟩:=c;have f:k=1\/k=2\/k=3\/k=4\/k=5\/k=6\/k=7\/k=8\/k=9\/k=10\/k=11\/k=12\/k=13\/k=14\/k=15:=by have:=d.1;have:=d.2;simp only at *;omega
   exact chk_in nm ot op n fr ks k f h.1 h.2 j
  ·obtain⟨i,a⟩:=aWv c d;exact⟨i.trans a.symm,_,a⟩
 obtain⟨i,r,a⟩:=b;have e:ck1 c=r:=by unfold ck1;rw [a];rfl
 rw [e,i];exact⟨a,a⟩
mutual
def cN:Cond->Nat
 |⟨_,_,_,_,_,_,ks⟩=>1+cNs ks
def cNs:List Cond->Nat
 | []=>0
 |c::l=>cN c+cNs l
end
mutual
def dN:Cond->Nat
 |⟨_,_,_,_,_,_,ks⟩=>1+dNs ks
def dNs:List Cond->Nat
 | []=>0
 |c::l=>max (dN c) (dNs l)
end
mutual
def okC:Cond->Prop
 |⟨k,nm,ot,op,n,fr,ks⟩=>(i64 k/\okS nm/\okS ot/\i64 op/\i64 n/\i64 fr)/\ks.length<=9223372036854775807/\okCs ks
def okCs:List Cond->Prop
 | []=>True
 |c::l=>okC c/\okCs l
end
mutual
def fE (f:Cond->Int):Cond->Int
 |⟨k,nm,ot,op,n,fr,ks⟩=>if f ⟨k,nm,ot,op,n,fr,ks⟩=0 then fEs f ks else f ⟨k,nm,ot,op,n,fr,ks⟩
def fEs (f:Cond->Int):List Cond->Int
 | []=>0
 |c::l=>if fE f c=0 then fEs f l else fE f c
end
theorem wI (c:Cond):cN c=1+cNs c.Kids:=by cases c;rfl
theorem aIm (c:Cond):dN c=1+dNs c.Kids:=by cases c;rfl
theorem aMp (f:Cond->Int)(c:Cond):fE f c=if f c=0 then fEs f c.Kids else f c:=by cases c;rfl
theorem mQ (c:Cond):okC c↔(i64 c.Kind/\okS c.Name/\okS c.Other/\i64 c.Op/\i64 c.N/\i64 c.Frames)/\c.Kids.length<=9223372036854775807/\okCs c.Kids:=by cases c;rfl
theorem aAn: ∀(l:List Cond),okCs l↔ ∀c∈l,okC c
 | []=>by simp [okCs]
 |c::l=>by rw [okCs,aAn l];simp
theorem cN_pos (c:Cond):1<=cN c:=by rw [wI];omega
theorem uF (c:Cond):1<=dN c:=by rw [aIm];omega
theorem aDb: ∀l:List Cond,l.length<=cNs l
 | []=>Nat.le_refl _
 |c::l=>by have:=aDb l;have:=cN_pos c;rw [cNs,List.length_cons];omega
theorem bAe {c:Cond}: ∀{l:List Cond},c∈l->cN c<=cNs l
 |a::l,h=>by
  rw [cNs];rcases List.mem_cons.1 h with rfl|h
  ·omega
  ·have:=bAe h;omega
theorem aJd {c:Cond}: ∀{l:List Cond},c∈l->dN c<=dNs l
 |a::l,h=>by
  rw [dNs];rcases List.mem_cons.1 h with rfl|h
  ·omega
  ·have:=aJd h;omega
theorem bAp {n:Nat}: ∀{l:List Cond},n<dNs l-> ∃x,x∈l/\n<dN x
 | [],h=>by simp [dNs]at h
 |a::l,h=>by
  rw [dNs]at h
  by_cases q:n<dN a
  ·exact⟨a,List.mem_cons_self,q⟩
  ·obtain⟨x,b,c⟩:=bAp (l:=l) (n:=n) (by omega);exact⟨x,List.mem_cons_of_mem _ b,c⟩
def stS (rf:Cond->Int->Int->Option (Bool×Int))(l:Int):Nat->Cond->Int->Int ⊕ Option (Bool×Int):=λ_ x s=>match rf x l s with
 |none=> .inr none
 |some (true,a)=> .inl a
 |some (false,a)=> .inr (some (false,a))
theorem aMg (rf:Cond->Int->Int->Option (Bool×Int)) (l:Nat):
  ∀(ks:List Cond) (_: ∀c∈ks,∀k:Nat,k<=200-> ∃b:Nat,rf c (l:Int) (k:Int)=some (decide (dN c<=l/\k+cN c<=200),(b:Int))/\(dN c<=l/\k+cN c<=200->b=k+cN c)) (i k:Nat),k<=200-> ∃b:Nat,aEv (stS rf l) (λs=>some (true,s)) ks i (k:Int)=some (decide (dNs ks<=l/\k+cNs ks<=200),(b:Int))/\(dNs ks<=l/\k+cNs ks<=200->b=k+cNs ks)
 | [],_,i,k,d=>⟨k,by simp [aEv,dNs,cNs,d],λ_=>by simp [cNs]⟩
 |c::ks,e,i,k,d=>by
  obtain⟨f,j,o⟩:=e c List.mem_cons_self k d;rw [aEv];simp only [stS,j]
  by_cases a:dN c<=l/\k+cN c<=200
  ·obtain rfl:=o a;obtain⟨p,q,r⟩:=aMg rf l ks (λc a=>e c (List.mem_cons_of_mem _ a)) (i+1) (k+cN c) a.2;rw [dT a];refine⟨p,?_,?_⟩
   ·simp only [];rw [q]
    congr 2
    rw [decide_eq_decide,dNs,cNs];have:=a.1;omega
   ·rw [dNs,cNs];intro h;rw [r (by omega)];omega
  ·rw [qD a];refine⟨f,?_,?_⟩
   ·simp only []
    congr 2
    refine(qD ?_).symm;rw [dNs,cNs];omega
   ·rw [dNs,cNs];intro h;exfalso;omega
theorem aZm: ∀(n:Nat) (c:Cond) (l k:Nat),l<n->k<=200->l<=1000->okC c-> ∃d:Nat,Fau n c (l:Int) (k:Int)=some (decide (dN c<=l/\k+cN c<=200),(d:Int))/\(dN c<=l/\k+cN c<=200->d=k+cN c)
 |0,_,_,_,h,_,_,_=>by omega
 |n+1,c,l,k,h,j,z,o=>by
  have a:=((mQ c).1 o).2.1;have f:=(aAn _).1 ((mQ c).1 o).2.2;have p:IntKind.i64.wrap ((k:Int)+1)=((k+1:Nat):Int):=fQ (n:=1000) (by omega) (by omega);show ∃d:Nat,Fdr (Fau n) c (l:Int) (k:Int)=_/\_;unfold Fdr;simp only [zI,xB,jK,zC,p];have hd:=aIm c;have A:=wI c
  by_cases t:l=0
  ·subst t;refine⟨k+1,?_,λq=>by exfalso;omega⟩;rw [dT (show((0:Nat):Int)=0 from rfl),Bool.true_or,zU,qD (by omega)]
  ·by_cases B:200<k+1
   ·refine⟨k+1,?_,λq=>by exfalso;omega⟩;rw [dT (show(200:Int)<((k+1:Nat):Int)by omega),Bool.or_true,zU,qD (by omega)]
   ·rw [qD (show¬(l:Int)=0 by omega),qD (show¬(200:Int)<((k+1:Nat):Int)by omega),Bool.or_self,zQ];obtain⟨m,rfl⟩: ∃m,l=m+1:=⟨l-1,by omega⟩;have u:IntKind.i64.wrap (((m+1:Nat):Int)-1)=(m:Int):=by rw [wrap_i64 (by omega) (by omega)];omega
    obtain⟨d,v,w⟩:=aMg (Fau n) m c.Kids (λx e k j=>aZm n x m k (by omega) j (by omega) (f x e)) 0 (k+1) (by omega);refine⟨d,?_,?_⟩
    ·unfold Ff4;simp only [zI,u];refine(vG (λ(i:Nat) (s:Int)=>((i:Int),s)) c.Kids (stS (Fau n) m) (λs=>some (true,s)) a ?_ ?_ ((k+1:Nat):Int)).trans (v.trans ?_)
     rotate_left 2
     ·congr 2
      rw [decide_eq_decide];omega
     ·intro y i s x e;have hi:=(gS.1 e).1;simp only [stS];rw [yM hi,zU,yR e,zC,fQ hi a]
      cases Fau n x m s with
      |none=>rfl
      |some r=>obtain⟨b,_⟩:=r;cases b<;>rfl
     ·intro y s;simp only [];rw [yN,zQ]
    ·intro q;rw [w (by omega)];omega
theorem aBu {n:Nat}(h:n<=1000000):n<FU:=mM (by omega)
theorem small_eq (c:Cond)(b:okC c): ∃a:Int,Fdw c 20 0=some (decide (dN c<=20/\cN c<=200),a):=by
 obtain⟨a,d,_⟩:=aZm FU c 20 0 (aBu (by decide)) (by decide) (by decide) b;refine⟨a,?_⟩;unfold Fdw;refine d.trans ?_;rw [Nat.zero_add]
theorem bBq: ∀(n:Nat) (c:Cond) (m:Nat),m<n->m<=1000->okC c->Fa4 n c (m:Int)=some ((min (cN c) (m+1):Nat):Int)
 |0,_,_,h,_,_=>by omega
 |n+1,c,m,h,hm,C=>by
  have v:=((mQ c).1 C).2.1;have y:=(aAn _).1 ((mQ c).1 C).2.2;show Fcl (Fa4 n) c (m:Int)=_;unfold Fcl Fgn;have e:fK (λa (x:Int×Int)=>gB (gJ (c.Kids.length:Int) λb=>gJ (decide (x.2<b)) λj=>gQ j (gJ (decide (x.1<=(m:Int))) λk=>some k) (some false)) λl=>gQ l
    (gB (at' c.Kids x.2) λp=>gJ (IntKind.i64.wrap ((m:Int)-x.1)) λq=>gB (Fa4 n p q) λr=>gJ (IntKind.i64.wrap (x.1+r)) λt=>gJ (IntKind.i64.wrap (x.2+1)) λu=>a (t,u)) (some x.1)) (1,0)=some ((min (1+cNs c.Kids) (m+1):Nat):Int):=by
   have z: ∀(d i s w:Nat),i+d=c.Kids.length->d<w->1<=s->s<=m+1->dW (λa (x:Int×Int)=>gB (gJ (c.Kids.length:Int) λb=>gJ (decide (x.2<b)) λj=>gQ j (gJ (decide (x.1<=(m:Int))) λk=>some k) (some false)) λl=>gQ l
    (gB (at' c.Kids x.2) λp=>gJ (IntKind.i64.wrap ((m:Int)-x.1)) λq=>gB (Fa4 n p q) λr=>gJ (IntKind.i64.wrap (x.1+r)) λt=>gJ (IntKind.i64.wrap (x.2+1)) λu=>a (t,u)) (some x.1)) w ((s:Int),(i:Int))=some ((min (s+cNs (c.Kids.drop i)) (m+1):Nat):Int):=by
    intro d
    induction d with
    |zero=>
     intro i s w D E F G;obtain⟨f,rfl⟩: ∃f,w=f+1:=⟨w-1,by omega⟩;obtain rfl:i=c.Kids.length:=by omega
     rw [dW];simp only [zI,yN,zQ,zC,List.drop_length,cNs]
     congr 2;omega
    |succ d H=>
     intro i s w D E F G;obtain⟨f,rfl⟩: ∃f,w=f+1:=⟨w-1,by omega⟩;have hi:i<c.Kids.length:=by omega
     obtain⟨x,A⟩: ∃x,c.Kids[i]? =some x:=⟨_,gE hi⟩;have I:c.Kids.drop i=x::c.Kids.drop (i+1):=by
      rw [List.drop_eq_getElem_cons hi]
      congr 1
      exact oI ((gE hi).symm.trans A)
     rw [dW,I,cNs];simp only [zI,yM hi,zU,zC,yR A]
     by_cases K:s<=m
     ·have J:IntKind.i64.wrap ((m:Int)-(s:Int))=((m-s:Nat):Int):=by rw [wrap_i64 (by omega) (by omega)];omega
      rw [dT (show(s:Int)<=(m:Int)by omega),zU,J,bBq n x (m-s) (by omega) (by omega) (y x (qS A)),zC];have B:IntKind.i64.wrap ((s:Int)+((min (cN x) (m-s+1):Nat):Int))=((s+min (cN x) (m-s+1):Nat):Int):=by rw [wrap_i64 (by omega) (by omega)];omega
      rw [B,fQ hi v];refine(H (i+1) _ f (by omega) (by omega) (by omega) (by omega)).trans ?_
      congr 2;omega
     ·rw [qD (show¬(s:Int)<=(m:Int)by omega),zQ]
      congr 2;omega
   exact z c.Kids.length 0 1 FU (by omega) (mM v) (by omega) (by omega)
  refine(congrArg (λo=>gB o λg=>some g) e).trans ?_;rw [wI];rfl
theorem aUf: ∀(n:Nat) (c:Cond) (m:Nat),m<n->m<=1000->okC c->Fbr n c (m:Int)=some (decide (m<dN c))
 |0,_,_,h,_,_=>by omega
 |n+1,c,m,h,hm,f=>by
  have a:=((mQ c).1 f).2.1;have d:=(aAn _).1 ((mQ c).1 f).2.2;have hd:=aIm c;show Fdl (Fbr n) c (m:Int)=_;unfold Fdl;simp only [zI,xB]
  cases m with
  |zero=>rw [dT (show((0:Nat):Int)=0 from rfl),zU,dT (by omega)]
  |succ m=>
   rw [qD (show¬((m+1:Nat):Int)=0 by omega),zQ];have p:IntKind.i64.wrap (((m+1:Nat):Int)-1)=(m:Int):=by rw [wrap_i64 (by omega) (by omega)];omega
   unfold Fhs;simp only [zI,p];rw [yY c.Kids (λ_ x=>if decide (m<dN x)=true then some (some true)else none) (some false) a ?_ ?_]
   ·rw [uV (λ_ x=>decide (m<dN x))]
    by_cases q:m+1<dN c
    ·rw [dT q,if_pos];rw [aCo];obtain⟨x,b,o⟩:=bAp (l:=c.Kids) (n:=m) (by omega);obtain⟨j,e⟩:=List.getElem?_of_mem b;exact⟨j,x,e,dT o⟩
    ·rw [qD q,if_neg];rw [aCo];rintro⟨j,x,e,b⟩;have r:=aJd (qS e);have o:=of_decide_eq_true b;omega
   ·intro k _ x b hi;rw [yM hi,zU,yR b,zC,aUf n x m (by omega) (by omega) (d x (qS b)),zC,fQ hi a]
    cases decide (m<dN x)<;>rfl
   ·intro k;rw [yN,zQ]
theorem nodes_eq (c:Cond)(a:okC c):Fg7 c 200=some ((min (cN c) 201:Nat):Int):=bBq FU c 200 (aBu (by decide)) (by decide) a
theorem deeper_eq (c:Cond)(a:okC c):Fhr c 20=some (decide (20<dN c)):=aUf FU c 20 (aBu (by decide)) (by decide) a
theorem aHt {c:Cond}(a:okC c):okN c:=⟨((mQ c).1 a).1.2.1,((mQ c).1 a).1.2.2.1⟩
theorem aGo (f:Cond->Int): ∀(l:List Cond) (i:Nat),dR (λ_ x=>if fE f x=0 then none else some (some (fE f x))) (some 0) l i=some (fEs f l)
 | [],_=>rfl
 |c::l,i=>by
  rw [dR,fEs]
  by_cases h:fE f c=0
  ·rw [if_pos h,if_pos h];exact aGo f l (i+1)
  ·rw [if_neg h,if_neg h]
theorem qF {c x:Cond}{i:Nat}(a:okC c)(b:c.Kids[i]? =some x):okC x/\dN x<dN c/\cN x<cN c:=by
 have hm:=qS b;have d:=aJd hm;have e:=bAe hm;exact⟨(aAn _).1 ((mQ c).1 a).2.2 x hm,by rw [aIm c];omega,by rw [wI c];omega⟩
theorem bAx: ∀(n:Nat) (c:Cond),dN c<=n->okC c->cN c<=200->Fbu n c=some (fE ck1 c)
 |0,c,h,_,_=>by have:=uF c;omega
 |n+1,c,h,b,_=>by
  have a:=((mQ c).1 b).2.1;have f:=aDb c.Kids;have j:=wI c;show Fdn (Fbu n) c=_;unfold Fdn;rw [(aJx c (aHt b) (by omega)).1,zC,aMp];simp only [zI,xB]
  by_cases e:ck1 c=0
  ·rw [if_pos e,qD (by simpa using e),zQ];unfold Fh2;rw [yY c.Kids (λ_ x=>if fE ck1 x=0 then none else some (some (fE ck1 x))) (some 0) a ?_ ?_,aGo]
   ·intro k _ x d hi;obtain⟨l,_,_⟩:=qF b d;simp only [zI];rw [yM hi,zU,yR d,zC,bAx n x (by omega) l (by omega),zC,fQ hi a]
    by_cases z:fE ck1 x=0
    ·rw [if_pos z,qD (by simpa using z),zQ]
    ·rw [if_neg z,dT z,zU]
   ·intro k;simp only [zI];rw [yN,zQ]
  ·rw [if_neg e,dT e,zU]
theorem bBr: ∀(n:Nat) (c:Cond),dN c<=n->okC c->cN c<=200->Fbj n c=some (fE ck1 c)
 |0,c,h,_,_=>by have:=uF c;omega
 |n+1,c,h,u,_=>by
  have a:=((mQ c).1 u).2.1;have A:=aDb c.Kids;have C:=wI c;show Fcq (Fbj n) c=_;unfold Fcq;rw [(aJx c (aHt u) (by omega)).2,zC,aMp];have v: ∀(B:(Int×Int->Option Int)->Int×Int->Option Int) (_: ∀k (e i:Int),B k (e,i)=gB (gJ (c.Kids.length:Int) λj=>gJ (decide (i<j)) λl=>gQ l (gJ (decide (e=0)) λp=>some p) (some false)) λq=>gQ q (gB (at' c.Kids i) λr=>gB (Fbj n r) λs=>gJ (IntKind.i64.wrap (i+1)) λt=>k (s,t)) (some e)) (d i:Nat) (e:Int) (b:Nat),i+d=c.Kids.length->d<b->dW B b (e,(i:Int))=some (if e=0 then fEs ck1 (c.Kids.drop i)else e):=by
   intro B y d
   induction d with
   |zero=>
    intro i e b D E;obtain⟨f,rfl⟩: ∃f,b=f+1:=⟨b-1,by omega⟩;obtain rfl:i=c.Kids.length:=by omega
    rw [dW,y];simp only [zI,yN,zQ,zC,List.drop_length,fEs];split<;>simp_all
   |succ d F=>
    intro i e b D E;obtain⟨f,rfl⟩: ∃f,b=f+1:=⟨b-1,by omega⟩;have hi:i<c.Kids.length:=by omega
    obtain⟨x,w⟩: ∃x,c.Kids[i]? =some x:=⟨_,gE hi⟩;have G:c.Kids.drop i=x::c.Kids.drop (i+1):=by
     rw [List.drop_eq_getElem_cons hi]
     congr 1
     exact oI ((gE hi).symm.trans w)
    obtain⟨H,_,_⟩:=qF u w;rw [dW,y,G,fEs];simp only [zI,yM hi,zU,zC,yR w]
    by_cases z:e=0
    ·rw [dT z,zU,bBr n x (by omega) H (by omega),zC,fQ hi a,F (i+1) _ f (by omega) (by omega),if_pos z]
    ·rw [qD z,zQ,if_neg z]
  unfold Fhh fK;refine(congrArg (λo=>gB o λg=>some g) (v _ (λ_ _ _=>rfl) c.Kids.length 0 (ck1 c) FU (by omega) (mM a))).trans ?_;rw [zC,List.drop_zero]
def ckC (c:Cond):Int:=if dN c<=20/\cN c<=200 then fE ck1 c else 3
theorem aGp (c:Cond) (a:okC c):Fdi c=some (ckC c):=by
 unfold Fdi ckC;obtain⟨_,h⟩:=small_eq c a;rw [h,zC];simp only [zI];by_cases q:dN c<=20/\cN c<=200;rw [if_pos q,dT q,Bool.not_true,zQ];unfold Ffn;rw [bAx FU c (Nat.le_of_lt (aBu (by omega))) a q.2];rfl;rw [if_neg q,qD q,Bool.not_false,zU]
theorem aDt (c:Cond) (a:okC c):Fbc c=some (ckC c):=by
 unfold Fbc ckC;rw [nodes_eq c a,zC];simp only [zI];rw [deeper_eq c a,zC,jK,zC]
 by_cases q:dN c<=20/\cN c<=200
 ·have b:decide ((200:Int)<((min (cN c) 201:Nat):Int))=false:=qD (by omega);have d:decide (20<dN c)=false:=qD (by omega);rw [if_pos q,b,d,Bool.or_self,zQ];unfold Fgl;rw [bBr FU c (Nat.le_of_lt (aBu (by omega))) a q.2];rfl
 ·have e:(decide ((200:Int)<((min (cN c) 201:Nat):Int))||decide (20<dN c))=true:=by
   rw [Bool.or_eq_true,decide_eq_true_eq,decide_eq_true_eq];omega
  rw [if_neg q,e,zU]
theorem aCd {c:Cond}(h:ckC c=0):dN c<=20/\cN c<=200/\fE ck1 c=0:=by
 unfold ckC at h;split at h;rename_i q;exact⟨q.1,q.2,h⟩;exact absurd h (by decide)
section
variable {α:Type}
theorem aFh (p:α->Bool): ∀(l:List α) (i:Nat),∃n:Int,dR (λ(i:Nat) x=>if p x=true then some (some (i:Int))else none) (some (-1)) l i=some n/\
  ((n= -1/\ ∀(j:Nat) x,l[j]? =some x->p x=false)\/ ∃j:Nat,n=((i+j:Nat):Int)/\(∃x,l[j]? =some x/\p x=true)/\ ∀(m:Nat) y,m<j->l[m]? =some y->p y=false)
 | [],i=>⟨-1,rfl,.inl ⟨rfl,λj x h=>by simp at h⟩⟩
 |a::l,i=>by
  rw [dR]
  by_cases h:p a=true
  ·rw [if_pos h];exact⟨_,rfl,.inr ⟨0,by simp,⟨a,rfl,h⟩,λm y hm=>by omega⟩⟩
  ·rw [if_neg h];have f:p a=false:=by simpa using h
   obtain⟨n,k,b⟩:=aFh p l (i+1);refine⟨n,k,?_⟩;rcases b with ⟨b,c⟩|⟨j,b,c,o⟩
   ·refine .inl ⟨b,λj x d=>?_⟩
    cases j with
    |zero=>simp at d;subst d;exact f
    |succ j=>exact c j x (by simpa using d)
   ·refine .inr ⟨j+1,by rw [b];congr 1;omega,?_,λm y hm e=>?_⟩
    ·obtain⟨x,q,r⟩:=c;exact⟨x,by simpa using q,r⟩
    ·cases m with
     |zero=>simp at e;subst e;exact f
     |succ m=>exact o m y (by omega) (by simpa using e)
theorem bAz (p:α->Bool)(l:List α):l.any p=true↔ ∃(j:Nat) (x:α),l[j]? =some x/\p x=true:=by
 rw [List.any_eq_true];constructor;rintro⟨x,h,a⟩;obtain⟨j,b⟩:=List.getElem?_of_mem h;exact⟨j,x,b,a⟩;rintro⟨j,x,h,a⟩;exact⟨x,qS h,a⟩
theorem aWo {p:α->Bool}{l:List α}{n:Int} (h:(n= -1/\ ∀(j:Nat) x,l[j]? =some x->p x=false)\/ ∃j:Nat,n=((0+j:Nat):Int)/\(∃x,l[j]? =some x/\p x=true)/\ ∀(m:Nat) y,m<j->l[m]? =some y->p y=false):decide (0<=n)=l.any p:=by
 rw [Bool.eq_iff_iff,decide_eq_true_eq,bAz];rcases h with ⟨rfl,h⟩|⟨j,rfl,⟨x,b,a⟩,_⟩
 ·constructor
  ·intro h;omega
  ·rintro⟨j,x,b,a⟩;rw [h j x b]at a;cases a
 ·exact⟨λ_=>⟨j,x,b,a⟩,λ_=>by omega⟩
theorem ix_take {p:α->Bool}{l:List α}{n:Int} (h:(n= -1/\ ∀(j:Nat) x,l[j]? =some x->p x=false)\/ ∃j:Nat,n=((0+j:Nat):Int)/\(∃x,l[j]? =some x/\p x=true)/\ ∀(m:Nat) y,m<j->l[m]? =some y->p y=false) (i:Nat):decide (0<=n/\n<(i:Int))=(l.take i).any p:=by
 rw [Bool.eq_iff_iff,decide_eq_true_eq,bAz];rcases h with ⟨rfl,h⟩|⟨j,rfl,⟨x,a,b⟩,e⟩
 ·constructor
  ·intro h;omega
  ·rintro⟨j,x,a,b⟩;rw [List.getElem?_take]at a;split at a
   ·rw [h j x a]at b;cases b
   ·cases a
 ·constructor
  ·intro _;exact⟨j,x,by rw [List.getElem?_take,if_pos (by omega)];exact a,b⟩
  ·rintro⟨m,y,c,d⟩;rw [List.getElem?_take]at c;split at c
   ·rename_i hm
    by_cases f:m<j
    ·rw [e m y f c]at d;cases d
    ·omega
   ·cases c
theorem ix_self {p:α->Bool}{l:List α}{n:Int}(h:(n= -1/\ ∀(j:Nat) x,l[j]? =some x->p x=false)\/ ∃j:Nat,n=((0+j:Nat):Int)/\(∃x,l[j]? =some x/\p x=true)/\ ∀(m:Nat) y,m<j->l[m]? =some y->p y=false){i:Nat}{x:α}(b:l[i]? =some x)(a:p x=true):0<=n:=by
 rcases h with ⟨rfl,h⟩|⟨j,rfl,_,_⟩
 ·rw [h i x b]at a;cases a
 ·omega
theorem aLg (l:List α)(i:Nat)(hi:i<=l.length):sub' l 0 (i:Int)=some (l.take i):=by
 unfold sub';rw [if_pos ⟨by omega,by omega,by omega⟩];simp
end
theorem aLa (l:List Str) (c:Str) (a:l.length<=9223372036854775807):Fbo l c=some (l.any λy=>decide (c=y)):=by
 unfold Fbo Fai;simp only [zI,xB];unfold Fei;obtain⟨n,b,d⟩:=aFh (λy=>decide (c=y)) l 0;rw [yY l (λi x=>if decide (c=x)=true then some (some (i:Int))else none) (some (-1)) a ?_ ?_,b,zC,aWo d];intro k i x e hi;simp only [zI];rw [yM hi,zU,yR e,zC,fQ hi a];cases decide (c=x)<;>rfl;intro k;simp only [zI];rw [yN,zQ]
theorem aFb (l:List Str) (c:Str) (a:l.length<=9223372036854775807): ∃n,Fac l c=some n/\decide (0<=n)=l.any λy=>decide (c=y):=by
 unfold Fac;simp only [xB];unfold Fg0;obtain⟨n,b,d⟩:=aFh (λy=>decide (y=c)) l 0;refine⟨n,?_,?_⟩;rw [yY l (λi x=>if decide (x=c)=true then some (some (i:Int))else none) (some (-1)) a ?_ ?_,b];intro k i x e hi;simp only [zI];rw [yM hi,zU,yR e,zC,fQ hi a];cases decide (x=c)<;>rfl;intro k;simp only [zI];rw [yN,zQ];rw [aWo d];congr 1;funext y;exact decide_eq_decide.2 eq_comm
def nmd (l:List dA)(s:Str):Bool:=l.any λy=>decide (y.Name=s)
theorem aVs (s:Str) (r:Rules) (i:Nat) (hi:i<=r.Rules.length) (e:r.Rules.length<=9223372036854775807):Fco s r (i:Int)=some (nmd (r.Rules.take i) s):=by
 unfold Fco;rw [aLg _ _ hi,zC];unfold Fg4 Ff8;simp only [zI,xB];unfold Fie;have a:(r.Rules.take i).length<=9223372036854775807:=by rw [List.length_take];omega
 generalize r.Rules.take i=l at *;obtain⟨n,b,c⟩:=aFh (λy:dA=>decide (y.Name=s)) l 0;rw [yY l (λi x=>if decide (x.Name=s)=true then some (some (i:Int))else none) (some (-1)) a ?_ ?_,b,zC,aWo c];rfl;intro k i x d hi;simp only [zI,Fgj];rw [yM hi,zU,yR d,zC,zC,fQ hi a];cases decide (x.Name=s)<;>rfl;intro k;simp only [zI];rw [yN,zQ]
theorem aOg (s:Str) (r:Rules) (b:r.Rules.length<=9223372036854775807): ∃n,Fal r s=some n/\(∀i:Nat,decide (0<=n/\n<(i:Int))=nmd (r.Rules.take i) s)/\ ∀(i:Nat) x,r.Rules[i]? =some x->x.Name=s->0<=n:=by
 unfold Fal;simp only [xB];unfold Fhp;obtain⟨n,d,c⟩:=aFh (λy:dA=>decide (y.Name=s)) r.Rules 0;refine⟨n,?_,λi=>ix_take c i,λi x a e=>ix_self c a (dT e)⟩;rw [yY r.Rules (λi x=>if decide (x.Name=s)=true then some (some (i:Int))else none) (some (-1)) b ?_ ?_,d];intro k i x a hi;simp only [zI];rw [yM hi,zU,yR a,zC,fQ hi b];cases decide (x.Name=s)<;>rfl;intro k;simp only [zI];rw [yN,zQ]
def mv1 (c:Cond):Int:=if c.Kind=6\/c.Kind=7 then 2 else 0
theorem mv1_eq (c:Cond):Ffk c=some (mv1 c):=by
 unfold Ffk mv1;simp only [zI,jK,zC];by_cases h:c.Kind=6\/c.Kind=7;have e:(decide (c.Kind=6)||decide (c.Kind=7))=true:=by rw [Bool.or_eq_true,decide_eq_true_eq,decide_eq_true_eq];exact h
 rw [if_pos h,e,zU];have e:(decide (c.Kind=6)||decide (c.Kind=7))=false:=by rw [Bool.or_eq_false_iff,decide_eq_false_iff_not,decide_eq_false_iff_not];exact not_or.1 h
 rw [if_neg h,e,zQ]
theorem bBm: ∀(n:Nat) (c:Cond),dN c<=n->okC c->Fbx n c=some (fE mv1 c)
 |0,c,h,_=>by have:=uF c;omega
 |n+1,c,h,b=>by
  have a:=((mQ c).1 b).2.1;show Fdg (Fbx n) c=_;unfold Fdg;rw [mv1_eq,zC,aMp];simp only [zI,xB]
  by_cases e:mv1 c=0
  ·rw [if_pos e,qD (by simpa using e),zQ];unfold Fh3;rw [yY c.Kids (λ_ x=>if fE mv1 x=0 then none else some (some (fE mv1 x))) (some 0) a ?_ ?_,aGo]
   ·intro k _ x d hi;obtain⟨f,_,_⟩:=qF b d;simp only [zI];rw [yM hi,zU,yR d,zC,bBm n x (by omega) f,zC,fQ hi a]
    by_cases z:fE mv1 x=0
    ·rw [if_pos z,qD (by simpa using z),zQ]
    ·rw [if_neg z,dT z,zU]
   ·intro k;simp only [zI];rw [yN,zQ]
  ·rw [if_neg e,dT e,zU]
mutual
def qP (p:Cond->Bool):Cond->Bool
 |⟨k,nm,ot,op,n,fr,ks⟩=>p ⟨k,nm,ot,op,n,fr,ks⟩||aDx p ks
def aDx (p:Cond->Bool):List Cond->Bool
 | []=>false
 |c::l=>qP p c||aDx p l
end
theorem aJp (p:Cond->Bool)(c:Cond):qP p c=(p c||aDx p c.Kids):=by cases c;rfl
theorem aEq (p:Cond->Bool): ∀(l:List Cond) (i:Nat),dR (λ_ x=>if qP p x=true then some (some true)else none) (some false) l i=some (aDx p l)
 | [],_=>rfl
 |c::l,i=>by
  rw [dR,aDx]
  cases h:qP p c with
  |true=>rfl
  |false=>exact aEq p l (i+1)
mutual
theorem aYe (f:Cond->Int)(p:Cond->Bool)(e:Int)(a:e≠0)(h: ∀c,f c=if p c=true then e else 0): ∀c,fE f c=if qP p c=true then e else 0
 |⟨k,nm,ot,op,n,fr,ks⟩=>by
  rw [fE,qP,h]
  cases p ⟨k,nm,ot,op,n,fr,ks⟩with
  |true=>simp [a]
  |false=>simpa using bAw f p e a h ks
theorem bAw (f:Cond->Int)(p:Cond->Bool)(e:Int)(a:e≠0)(h: ∀c,f c=if p c=true then e else 0): ∀l,fEs f l=if aDx p l=true then e else 0
 | []=>rfl
 |c::l=>by
  rw [fEs,aDx,aYe f p e a h c]
  cases qP p c with
  |true=>simp [a]
  |false=>simpa using bAw f p e a h l
end
def pMv (c:Cond):Bool:=decide (c.Kind=6)||decide (c.Kind=7)
theorem aVe: ∀(n:Nat) (c:Cond),dN c<=n->okC c->Fb0 n c=some (qP pMv c)
 |0,c,h,_=>by have:=uF c;omega
 |n+1,c,h,b=>by
  have a:=((mQ c).1 b).2.1;show Fcy (Fb0 n) c=_;unfold Fcy;simp only [zI,xB,jK,zC];rw [aJp];show gQ (pMv c) _ _=_
  cases pMv c with
  |true=>rfl
  |false=>
   rw [zQ,Bool.false_or];unfold Fgm;rw [yY c.Kids (λ_ x=>if qP pMv x=true then some (some true)else none) (some false) a ?_ ?_,aEq]
   ·intro k _ x d hi;obtain⟨e,_,_⟩:=qF b d;simp only [zI];rw [yM hi,zU,yR d,zC,aVe n x (by omega) e,zC,fQ hi a]
    cases qP pMv x<;>rfl
   ·intro k;simp only [zI];rw [yN,zQ]
theorem mv1_p (c:Cond):mv1 c=if pMv c=true then 2 else 0:=by
 unfold mv1 pMv;simp only [Bool.or_eq_true,decide_eq_true_eq]
def mvE (r:Rules)(m:dI):Int:=
 if (r.Phases.any λy=>decide (m.From=y))=true/\(r.Phases.any λy=>decide (m.To=y))=true then
  if ckC m.When=0 then if qP pMv m.When=true then 2 else 0 else ckC m.When
 else 4
theorem move_eq (r:Rules) (m:dI) (b:r.Phases.length<=9223372036854775807) (a:okC m.When):Few r m=some (mvE r m):=by
 unfold Few mvE;simp only [zI,xB];unfold Fis;rw [yY [m.From,m.To] (λ_ x=>if (r.Phases.any λy=>decide (x=y))=true then none else some (some 4)) (if ckC m.When=0 then some (if qP pMv m.When=true then 2 else 0)else some (ckC m.When)) (show(2:Nat)<=_ by omega) ?_ ?_];simp only [dR];cases(r.Phases.any λy=>decide (m.From=y))<;>cases(r.Phases.any λy=>decide (m.To=y))<;>simp<;>split<;>rfl;intro k _ x c hi;simp only [zI];rw [yM hi,zU,yR c,zC,aLa _ _ b,zC,fQ hi (show(2:Nat)<=_ by omega)];cases(r.Phases.any λy=>decide (x=y))<;>rfl;intro k;simp only [zI];rw [yN,zQ,aGp _ a,zC];by_cases z:ckC m.When=0;have g:=aCd z;rw [if_pos z,qD (by simpa using z),zQ];unfold Ffx;rw [bBm FU m.When (Nat.le_of_lt (aBu (by omega))) a,zC,aYe mv1 pMv 2 (by decide) mv1_p];rw [if_neg z,dT z,zU]
theorem aYl (r:Rules) (m:dI) (o:r.Phases.length<=9223372036854775807) (p:okC m.When) (k:Option Int):
  (gB (gB (Fac r.Phases m.From) λb=>gJ (decide (b<0)) λc=>gQ c (some true) (gB (Fac r.Phases m.To) λd=>gJ (decide (d<0)) λf=>some f)) λh=>
   gQ h (some 4) (gB (Fbc m.When) λa=>gJ (decide (a≠0)) λi=>gQ i (some a) (gB (Fd7 m.When) λj=>gQ j (some 2) k)))=
  if mvE r m=0 then k else some (mvE r m):=by
 obtain⟨q,s,t⟩:=aFb r.Phases m.From o;obtain⟨u,v,w⟩:=aFb r.Phases m.To o;have l: ∀n:Int,decide (n<0)= !decide (0<=n):=λn=>by rw [<-decide_not];exact decide_eq_decide.2 (by omega)
 unfold mvE;rw [s,zC];simp only [zI];rw [l q,t,v,aDt _ p];simp only [zC];rw [l u,w]
 cases(r.Phases.any λy=>decide (m.From=y))with
 |false=>simp [gQ,gB]
 |true=>
  cases(r.Phases.any λy=>decide (m.To=y))with
  |false=>simp [gQ,gB]
  |true=>
   simp only [Bool.not_true,zQ,zC,and_self,if_true]
   by_cases z:ckC m.When=0
   ·have g:=aCd z;have e:Fd7 m.When=some (qP pMv m.When):=aVe FU m.When (Nat.le_of_lt (aBu (by omega))) p;rw [if_pos z,qD (by simpa using z),zQ,e,zC]
    cases qP pMv m.When<;>simp [gQ]
   ·rw [if_neg z,dT z,zU,if_neg z]
def pRl (r:Rules)(i:Nat)(c:Cond):Bool:=(decide (c.Kind=6)&& !(r.Phases.any λy=>decide (c.Name=y)))||(decide (c.Kind=7)&& !nmd (r.Rules.take i) c.Name)
def rl1 (r:Rules)(i:Nat)(c:Cond):Int:=if pRl r i c=true then 4 else 0
theorem rl1_eq (r:Rules)(i:Nat)(c:Cond)(f:r.Phases.length<=9223372036854775807)(h:r.Rules.length<=9223372036854775807)(hi:i<=r.Rules.length):Feh c r (i:Int)=some (rl1 r i c):=by
 unfold Feh rl1 pRl;rw [aLa _ _ f,aVs _ _ _ hi h];simp only [zI,zC];generalize decide (c.Kind=6)=a;generalize decide (c.Kind=7)=b;generalize (r.Phases.any λy=>decide (c.Name=y))=d;generalize nmd (r.Rules.take i) c.Name=e;cases a<;>cases b<;>cases d<;>cases e<;>rfl
theorem bBn (r:Rules) (i:Nat) (b:r.Phases.length<=9223372036854775807) (d:r.Rules.length<=9223372036854775807) (hi:i<=r.Rules.length): ∀(n:Nat) (c:Cond),dN c<=n->okC c->Fb6 n c r (i:Int)=some (fE (rl1 r i) c)
 |0,c,h,_=>by have:=uF c;omega
 |n+1,c,h,f=>by
  have a:=((mQ c).1 f).2.1;show Fdb (Fb6 n) c r (i:Int)=_;unfold Fdb;rw [rl1_eq r i c b d hi,zC,aMp];simp only [zI,xB]
  by_cases e:rl1 r i c=0
  ·rw [if_pos e,qD (by simpa using e),zQ];unfold Fhx;rw [yY c.Kids (λ_ x=>if fE (rl1 r i) x=0 then none else some (some (fE (rl1 r i) x))) (some 0) a ?_ ?_,aGo]
   ·intro k _ x l o;obtain⟨p,_,_⟩:=qF f l;simp only [zI];rw [yM o,zU,yR l,zC,bBn r i b d hi n x (by omega) p,zC,fQ o a]
    by_cases z:fE (rl1 r i) x=0
    ·rw [if_pos z,qD (by simpa using z),zQ]
    ·rw [if_neg z,dT z,zU]
   ·intro k;simp only [zI];rw [yN,zQ]
  ·rw [if_neg e,dT e,zU]
theorem aPg (r:Rules) (i:Nat) (o:r.Phases.length<=9223372036854775807) (p:r.Rules.length<=9223372036854775807): ∀(n:Nat) (c:Cond),dN c<=n->okC c->Fbm n r (i:Int) c=some (qP (pRl r i) c)
 |0,c,h,_=>by have:=uF c;omega
 |n+1,c,h,q=>by
  have f:=((mQ c).1 q).2.1;obtain⟨v,w,z⟩:=aFb r.Phases c.Name o;obtain⟨s,A,B,_⟩:=aOg c.Name r p;have l: ∀n:Int,decide (n<0)= !decide (0<=n):=λn=>by rw [<-decide_not];exact decide_eq_decide.2 (by omega)
  have kids:Ffg (Fbm n) r (i:Int) c (λ_=>some false) 0=some (aDx (pRl r i) c.Kids):=by
   unfold Ffg;rw [yY c.Kids (λ_ x=>if qP (pRl r i) x=true then some (some true)else none) (some false) f ?_ ?_,aEq]
   ·intro k _ x t u;obtain⟨C,_,_⟩:=qF q t;simp only [zI];rw [yM u,zU,yR t,zC,aPg r i o p n x (by omega) C,zC,fQ u f]
    cases qP (pRl r i) x<;>rfl
   ·intro k;simp only [zI];rw [yN,zQ]
  show Fdf (Fbm n) r (i:Int) c=_;unfold Fdf;simp only [zI,xB];rw [w,A];simp only [zC,jK];rw [l v,z,kids,aJp];have D:(decide (s<0)||decide ((i:Int)<=s))= !nmd (r.Rules.take i) c.Name:=by
   rw [<-B i,<-decide_not,Bool.eq_iff_iff,Bool.or_eq_true,decide_eq_true_eq,decide_eq_true_eq,decide_eq_true_eq];omega
  rw [D];unfold pRl;generalize decide (c.Kind=6)=a;generalize decide (c.Kind=7)=b;generalize (r.Phases.any λy=>decide (c.Name=y))=d;generalize nmd (r.Rules.take i) c.Name=e
  cases a<;>cases b<;>cases d<;>cases e<;>rfl
def rlE (r:Rules)(i:Nat)(x:dA):Int:=
 if aBw x.Name=true then if nmd (r.Rules.take i) x.Name=true then 5 else if ckC x.When=0 then if qP (pRl r i) x.When=true then 4 else 0 else ckC x.When else 8
theorem rule_eq (r:Rules) (i:Nat) (x:dA) (a:r.Rules[i]? =some x) (d:r.Phases.length<=9223372036854775807) (b:r.Rules.length<=9223372036854775807) (e:okS x.Name) (c:okC x.When):Fe4 r (i:Int)=some (rlE r i x):=by
 have hi:i<=r.Rules.length:=Nat.le_of_lt (gS.1 a).1;unfold Fe4 rlE;rw [yR a,zC,aAm _ e,zC,aVs _ _ _ hi b,aGp _ c];simp only [zI,zC]
 cases aBw x.Name with
 |false=>rfl
 |true=>
  cases nmd (r.Rules.take i) x.Name with
  |true=>rfl
  |false=>
   simp only [Bool.not_true,zQ,if_true,Bool.false_eq_true,if_false]
   by_cases z:ckC x.When=0
   ·have g:=aCd z;rw [if_pos z,qD (by simpa using z),zQ];unfold Fg6;rw [bBn r i d b hi FU x.When (Nat.le_of_lt (aBu (by omega))) c,zC,aYe (rl1 r i) (pRl r i) 4 (by decide) (λ_=>rfl)]
   ·rw [if_neg z,dT z,zU]
theorem aZe (r:Rules) (i:Nat) (x:dA) (q:r.Rules[i]? =some x) (u:r.Phases.length<=9223372036854775807) (s:r.Rules.length<=9223372036854775807) (v:okS x.Name) (t:okC x.When) (k:Option Int):
  (gB (Fax x.Name) λb=>gJ (!b) λc=>gQ c (some 8) (gB (at' r.Rules (i:Int)) λd=>gB (Fal r d.Name) λf=>gJ (decide (f<(i:Int))) λh=>gQ h (some 5)
   (gB (at' r.Rules (i:Int)) λj=>gB (Fbc j.When) λa=>gJ (decide (a≠0)) λl=>gQ l (some a) (gB (at' r.Rules (i:Int)) λo=>gB (Ffc r (i:Int) o.When) λp=>gQ p (some 4) k))))=
  if rlE r i x=0 then k else some (rlE r i x):=by
 obtain⟨n,w,y,A⟩:=aOg x.Name r s;have B:=A i x q rfl;unfold rlE;rw [jU _ v,zC,yR q];simp only [zI,zC];rw [w,zC,aDt _ t,zC];have e:decide (n<(i:Int))=nmd (r.Rules.take i) x.Name:=by rw [<-y i];exact decide_eq_decide.2 (by omega)
 rw [e]
 cases aBw x.Name with
 |false=>simp [gQ]
 |true=>
  cases nmd (r.Rules.take i) x.Name with
  |true=>simp [gQ]
  |false=>
   simp only [Bool.not_true,zQ,if_true,Bool.false_eq_true,if_false]
   by_cases z:ckC x.When=0
   ·have g:=aCd z;have e:Ffc r (i:Int) x.When=some (qP (pRl r i) x.When):=aPg r i u s FU x.When (Nat.le_of_lt (aBu (by omega))) t;rw [if_pos z,qD (by simpa using z),zQ,e,zC]
    cases qP (pRl r i) x.When<;>simp [gQ]
   ·rw [if_neg z,dT z,zU,if_neg z]
def okR (r:Rules):Prop:=okL okS r.Phases/\okL (λm:dI=>okS m.From/\okS m.To/\okC m.When) r.Moves/\okL (λx:dA=>okS x.Name/\okC x.When) r.Rules
def phE (l:List Str)(i:Nat)(x:Str):Int:=if aBw x=true then if ((l.take i).any λy=>decide (x=y))=true then 5 else 0 else 8
def chk (r:Rules):Option Int:=
 if (decide (20<(r.Phases.length:Int))||decide (60<(r.Moves.length:Int)))||decide (60<(r.Rules.length:Int))then some 3
 else dR (λi x=>if phE r.Phases i x=0 then none else some (some (phE r.Phases i x))) (dR (λ_ m=>if mvE r m=0 then none else some (some (mvE r m))) (dR (λi x=>if rlE r i x=0 then none else some (some (rlE r i x))) (some 0) r.Rules 0) r.Moves 0) r.Phases 0
theorem Check_eq (r:Rules) (d:okR r):Fb4 r=chk r:=by
 obtain⟨⟨b,e⟩,⟨m1,m2⟩,⟨c,f⟩⟩:=d;unfold Fb4 chk;simp only [zI,xB,jK,zC];rw [nV];congr 1;unfold Fib;refine yY r.Phases _ _ b (λk i x a hi=>?_) (λk=>?_);have hm:=e x (qS a);simp only [zI];rw [yM hi,zU,yR a,zC,aAm _ hm,zC,aLg _ _ (Nat.le_of_lt hi),zC,aLa _ _ (by rw [List.length_take];omega),zC,fQ hi b];unfold phE;cases aBw x<;>cases((r.Phases.take i).any λy=>decide (x=y))<;>rfl;simp only [zI];rw [yN,zQ];unfold Fio;refine yY r.Moves _ _ m1 (λk i x a hi=>?_) (λk=>?_);have hm:=m2 x (qS a);simp only [zI];rw [yM hi,zU,yR a,zC,move_eq r x b hm.2.2,zC,fQ hi m1];by_cases z:mvE r x=0;rw [if_pos z,qD (by simpa using z),zQ];rw [if_neg z,dT z,zU];simp only [zI];rw [yN,zQ];unfold Fi0;refine yY r.Rules _ _ c (λk i x a hi=>?_) (λk=>?_);have hm:=f x (qS a);simp only [zI];rw [yM hi,zU,rule_eq r i x a b c hm.1 hm.2,zC,fQ hi c];by_cases z:rlE r i x=0;rw [if_pos z,qD (by simpa using z),zQ];rw [if_neg z,dT z,zU];simp only [zI];rw [yN,zQ]
theorem rCheck_eq (r:Rules) (e:okR r):Fes r=chk r:=by
 obtain⟨⟨c,f⟩,⟨m1,m2⟩,⟨d,h⟩⟩:=e;unfold Fes chk;simp only [zI,xB,jK,zC];rw [nV];congr 1;unfold Fiy;refine yY r.Phases _ _ c (λk i x a hi=>?_) (λk=>?_);have hm:=f x (qS a);obtain⟨n,j,l⟩:=aFb (r.Phases.take i) x (by rw [List.length_take];omega);simp only [zI];rw [yM hi,zU,yR a,zC,jU _ hm,zC,aLg _ _ (Nat.le_of_lt hi),zC,zC,j,zC,l,fQ hi c];unfold phE;cases aBw x<;>cases((r.Phases.take i).any λy=>decide (x=y))<;>rfl;simp only [zI];rw [yN,zQ];unfold Fij;refine yY r.Moves _ _ m1 (λk i x a hi=>?_) (λk=>?_);have hm:=m2 x (qS a);have b:=aYl r x c hm.2.2 (k ((i+1:Nat):Int));simp only [zI]at b⊢;rw [yM hi,zU,yR a,zC,fQ hi m1,b];by_cases z:mvE r x=0;rw [if_pos z,if_pos z];rw [if_neg z,if_neg z];simp only [zI];rw [yN,zQ];unfold Fjn;refine yY r.Rules _ _ d (λk i x a hi=>?_) (λk=>?_);have hm:=h x (qS a);have b:=aZe r i x a c d hm.1 hm.2 (k ((i+1:Nat):Int));simp only [zI]at b⊢;rw [yM hi,zU,yR a,zC,fQ hi d];rw [yR a]at b;rw [b];by_cases z:rlE r i x=0;rw [if_pos z,if_pos z];rw [if_neg z,if_neg z];simp only [zI];rw [yN,zQ]
theorem aFl {s:Str}(h:aBw s=true):s.length<=30:=by
 unfold aBw at h;simp only [Bool.and_eq_true,decide_eq_true_eq]at h;omega
structure Gd (c:Cond):Prop where
 k1:1<=c.Kind/\c.Kind<=15
 nm:c.Name.length<=30
 ot:c.Other.length<=30
 op:0<=c.Op/\c.Op<=6
 n: -1125899906842624<=c.N/\c.N<=1125899906842624
 fr:0<=c.Frames/\c.Frames<=4096
set_option maxHeartbeats 20000000 in
theorem gd_in (nm ot:Str)(op n fr:Int)(ks:List Cond)(k:Int)(hk2:k=1\/k=2\/k=3\/k=4\/k=5\/k=6\/k=7\/k=8\/k=9\/k=10\/k=11\/k=12\/k=13\/k=14\/k=15)(h1:okS nm)(h2:okS ot)(h:Fah ⟨k,nm,ot,op,n,fr,ks⟩=some 0):Gd ⟨k,nm,ot,op,n,fr,ks⟩:=by
  have q1:= @aFl nm;have q2:= @aFl ot;rcases hk2 with rfl | rfl | rfl | rfl | rfl | rfl | rfl | rfl | rfl | rfl | rfl | rfl | rfl | rfl | rfl<;>
    (unfold Fah at h
     simp only [rf1,rf2,rf3,rf4,rf5,rf6,rf7,rf8,rf9,rf10,rf11,rf12,rf13,rf14,rf15,zC,zI,Bool.not_true,Bool.not_false,zU,zQ,xB,out6,jU _ h1,jU _ h2,Int.reduceEq,Int.reduceLT,Int.reduceLE,decide_true,decide_false,Bool.or_self,aJk,jK,aAo] at h;simp only [nV] at h;constructor<;>grind)
theorem gd_of {c:Cond} (d:okC c) (f:c.Kids.length<=200) (h:ck1 c=0):Gd c:=by
 have e:=(aJx c (aHt d) f).2;rw [h]at e;by_cases a:1<=c.Kind/\c.Kind<=15;have o:=aHt d;obtain⟨k,nm,ot,op,n,fr,ks⟩:=c;have b:k=1\/k=2\/k=3\/k=4\/k=5\/k=6\/k=7\/k=8\/k=9\/k=10\/k=11\/k=12\/k=13\/k=14\/k=15:=by have:=a.1;have:=a.2;simp only at *;omega
 exact gd_in nm ot op n fr ks k b o.1 o.2 e;rw [(aWv c a).2]at e;cases e
theorem bCa {f:Cond->Int}: ∀{l:List Cond},fEs f l=0-> ∀x∈l,fE f x=0
 | [],_,x,b=>by cases b
 |a::l,h,x,b=>by
  rw [fEs]at h;split at h
  ·rename_i q;rcases List.mem_cons.1 b with rfl|b
   ·exact q
   ·exact bCa h x b
  ·rename_i q;exact absurd h q
structure Gt (c:Cond):Prop where
 ok:okC c
 d:dN c<=20
 n:cN c<=200
 e:fE ck1 c=0
theorem gt_of {c:Cond}(a:okC c)(h:ckC c=0):Gt c:=by
 obtain⟨b,d,e⟩:=aCd h;exact⟨a,b,d,e⟩
theorem Gt.self {c:Cond}(g:Gt c):Gd c:=by
 have h:=g.e;rw [aMp]at h;have a:=aDb c.Kids;have b:=wI c;have d:=g.n;split at h;rename_i q;exact gd_of g.ok (by omega) q;rename_i q;exact absurd h q
theorem Gt.kid {c x:Cond}(g:Gt c)(a:x∈c.Kids):Gt x:=by
 obtain⟨_,b⟩:=List.getElem?_of_mem a;obtain⟨f,_,_⟩:=qF g.ok b;have l:=g.d;have o:=g.n;refine⟨f,by omega,by omega,?_⟩;have h:=g.e;rw [aMp]at h;split at h;exact bCa h x a;rename_i q;exact absurd h q
theorem Gt.kids {c:Cond}(g:Gt c):c.Kids.length<=200:=by
 have a:=aDb c.Kids;have b:=wI c;have d:=g.n;omega
theorem take_snoc {α:Type}{l:List α}{i:Nat}{x:α}(a:l[i]? =some x):l.take (i+1)=l.take i++[x]:=by
 rw [List.take_add_one,a];rfl
structure Gr' (r:Rules):Prop where
 p:r.Phases.length<=20
 m:r.Moves.length<=60
 l:r.Rules.length<=60
 pn: ∀x∈r.Phases,x.length<=30
 pd: ∀(i:Nat) x,r.Phases[i]? =some x->x∉r.Phases.take i
 mg: ∀x∈r.Moves,Gt x.When/\x.From.length<=30/\x.To.length<=30
 lg: ∀x∈r.Rules,Gt x.When/\x.Name.length<=30
theorem jZ {α:Type} (e:Nat->α->Int) (fin:Option Int): ∀(l:List α) (i:Nat),dR (λi x=>if e i x=0 then none else some (some (e i x))) fin l i=some 0->fin=some 0/\ ∀(j:Nat) x,l[j]? =some x->e (i+j) x=0
 | [],i,h=>⟨h,λj x b=>by simp at b⟩
 |a::l,i,h=>by
  rw [dR]at h
  by_cases z:e i a=0
  ·rw [if_pos z]at h;obtain⟨c,d⟩:=jZ e fin l (i+1) h;refine⟨c,λj x b=>?_⟩
   cases j with
   |zero=>simp at b;subst b;simpa using z
   |succ j=>have:=d j x (by simpa using b);rwa [show i+(j+1)=i+1+j by omega]
  ·rw [if_neg z]at h;exact absurd (oI h) z
theorem aLl {r:Rules} (f:okR r) (h:chk r=some 0):Gr' r:=by
 unfold chk at h;split at h
 ·exact absurd (oI h) (by decide)
 ·rename_i q;simp only [Bool.or_eq_true,decide_eq_true_eq,not_or]at q;obtain⟨k,l⟩:=jZ (phE r.Phases) _ _ _ h;obtain⟨o,p⟩:=jZ (λ_=>mvE r) _ _ _ k;obtain⟨_,s⟩:=jZ (rlE r) _ _ _ o;have ph: ∀(i:Nat) x,r.Phases[i]? =some x->aBw x=true/\x∉r.Phases.take i:=by
   intro i x c;have:=l i x c;rw [Nat.zero_add]at this;unfold phE at this;split at this
   ·rename_i a;refine⟨a,?_⟩;split at this
    ·exact absurd this (by decide)
    ·rename_i b;intro hm;exact b (List.any_eq_true.2 ⟨x,hm,by simp⟩)
   ·exact absurd this (by decide)
  have e: ∀x∈r.Phases,x.length<=30:=by
   intro x c;obtain⟨j,d⟩:=List.getElem?_of_mem c;exact aFl (ph j x d).1
  refine⟨by omega,by omega,by omega,e,λi x c=>(ph i x c).2,?_,?_⟩
  ·intro x c;obtain⟨j,d⟩:=List.getElem?_of_mem c;have:=p j x d;unfold mvE at this;split at this
   ·rename_i a;split at this
    ·rename_i b;obtain⟨y,t,u⟩:=List.any_eq_true.1 a.1;obtain⟨z,v,z2⟩:=List.any_eq_true.1 a.2;refine⟨gt_of (f.2.1.2 x c).2.2 b,?_,?_⟩
     ·rw [of_decide_eq_true u];exact e y t
     ·rw [of_decide_eq_true z2];exact e z v
    ·rename_i b;exact absurd this b
   ·exact absurd this (by decide)
  ·intro x c;obtain⟨j,d⟩:=List.getElem?_of_mem c;have:=s j x d;unfold rlE at this;split at this
   ·rename_i a;split at this
    ·exact absurd this (by decide)
    ·split at this
     ·rename_i b;exact⟨gt_of (f.2.2.2 x c).2 b,aFl a⟩
     ·rename_i b;exact absurd this b
   ·exact absurd this (by decide)
theorem aMc (r:Rules): ∃e,chk r=some e:=by
 have b: ∀{α:Type} (e:Nat->α->Int) (fin:Option Int) (_: ∃z,fin=some z) (l:List α) (i:Nat),∃z,dR (λi x=>if e i x=0 then none else some (some (e i x))) fin l i=some z:=by
  intro α e fin c l
  induction l with
  |nil=>intro i;exact c
  |cons a l d=>
   intro i;rw [dR]
   by_cases z:e i a=0
   ·rw [if_pos z];exact d (i+1)
   ·rw [if_neg z];exact⟨_,rfl⟩
 unfold chk;split
 ·exact⟨_,rfl⟩
 ·exact b (phE r.Phases) _ (b (λ_=>mvE r) _ (b (rlE r) _ ⟨0,rfl⟩ _ _) _ _) _ _
end Go.Lf
